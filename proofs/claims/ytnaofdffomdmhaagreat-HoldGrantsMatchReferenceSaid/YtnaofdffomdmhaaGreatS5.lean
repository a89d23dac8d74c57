/-
  QI ug nh lF and ug mu answer, for all arguments of G_ kind, in ug small machine: part 5.
-/
import Derived.Test.YtnaofdffomdmhaaGreatS4
import Derived.Test.YtnaofdffomdmhaaGreatS3
import Derived.Test.YtnaofdffomdmhaaGreatProg
import Derived.Test.YtnaofdffomdmhaaGreatK4
open Option renaming some->aa,none->ab
open Bool renaming true->ae,false->ag
open List renaming mem_append->afY, mem_singleton->afO, take_of_length_le->afM, getElem?_set_self->afC, getElem?_eq_getElem->afB, getElem_mem->afH, mem_of_mem_take->agD, getElem?_set_ne->ae2, getElem?_append_left->afy, getElem?_append_right->afI, mem_cons->afZ, not_mem_nil->agS
open Option.some renaming inj->ahg
open Int renaming toNat_natCast->afU, emod_nonneg->agL, emod_lt_of_pos->agM
open Nat renaming le_trans->af1, lt_of_lt_of_le->af9, le_refl->afJ
set_option linter.unusedVariables false
set_option linter.constructorNameAsVariable false
set_option linter.unusedSimpArgs false
set_option linter.unusedSectionVars false
set_option linter.unnecessarySimpa false
set_option maxRecDepth 100000
namespace Go.Proofs.YtnaofdffomdmhaaGreat
open Go Km
theorem Ix{r:List Int}{l:List (List Int)}:mQ (r::l)=if r.headD 0=0 then mQ l else r:=rfl
theorem aaX{cl:List Int}(h:cl.length=8){K:aj}{b:Nat}(d:K[b]?=aa (.box (eR cl) 0)):aQ K ab (.c (.ptr b 0 0))=aa (vi (cl.headD 0)):=by
 match cl,h with
 |[b1,g,j,l,m,q,s,u],_=>simp[aQ,aw,d,eR]
theorem JY(af qu:Int)(a0:0<=af)(a1:af<=39)(q0:0<=qu)(q1:qu<=10080)(g:Tg)(B:List aB)(hl:B.length<=1000)(hs:B.Pairwise fP)(hf:∀s∈B,iL s)(x:aB)(hx:iL x)(rf:List Int)(hr8:rf.length=8)
  (hX:gH B x=ag->Z1 af qu B x rf) (hZ:gH B x=ae->rf=e7) :
  aX tab uY [.c (.f (eI af qu)),.c (.f (sl g (an B))),.a (x.row.map .f)]=Eq (.t [qY rf,vi (if gH B x then 1 else 0)]):=aX.eq (by
 have Y:=Kg af qu a0 a1 q0 q1 g B hl hs hf x hx;refine bH rfl rfl λQ hQ=>?_;obtain⟨tk,htk⟩:=aD (gH B x);rw[<-htk]at Y hQ hX hZ;obtain⟨m,r,l,z,n,p,mi,le,rfl,b⟩:=id hx;obtain⟨k,hk,hmi⟩:=b.i0;have e0:=b.l0;have e1:=b.l1;have hsm:mP n p:=⟨b.n0,b.n1,b.p0,b.p1⟩
 have b_:kj (jv m r l z n p mi le).st n p mi:=wy hsm (by omega) (by omega) (by omega) (by omega);obtain⟨rr,v8,rb,ra,rc,ro,rl,t9,t_⟩:=A6 af qu r b.r0 b.r1;have e_:=Kk hsm hk le (by omega) (by omega);rw[show((20*k:Nat):Int)=mi by omega]at e_;have i8:=Kq af qu r b.r0 b.r1 l;rw[v8]at i8;obtain⟨A,hA⟩:=aD (.fs [fY n p,fi mi] 1:FC);have v6:(jv m r l z n p mi le).row.map C.f=[.f (fi m),.f (fi r),.f (fi l),.f (fi z),.f A,.f (fi le),.f .aK]:=by rw[hA];rfl
 have k_:(jv m r l z n p mi le).row=[fi m,fi r,fi l,fi z,A,fi le,.aK]:=by rw[hA];rfl
 have v_:(qU n p mi le).map C.f=[.f A,.f (fi le),.f .aK]:=by rw[hA];rfl
 have m9:(jv m r l z n p mi le).st.row.map C.f=[.f A,.f (fi le),.f .aK]:=by rw[hA];rfl
 have j5:∀q,-1<=q->q<=100->∃g,aX tab Dy [.a [.f A,.f (fi le),.f .aK],vi q]=Eq (.c (.f (sl g (aC (ir (jv m r l z n p mi le).st q))))):=λq h0 h1=>by
  rw[<-m9];exact wL _ b_ q h0 h1
 have j9:∀q,-1<=q->q<=100->aX tab Mp [.c (.f (sl g (an B))),vi r,vi l,vi q]=Eq (vi (ek (bJ r l B) q)):=λq h0 h1=>CN g B hl hf r l q h0 h1;have u_:∀g,m6 1 (bJ r l (B++[jv m r l z n p mi le]))∈mC/\aX tab Dz [.c (.f (sl g (an (B++[jv m r l z n p mi le])))),vi r,vi l]=Eq (.t [vi (15+7*(m6 1 (bJ r l (B++[jv m r l z n p mi le])):Int)),vb ae]):=λg=>CM g _ (by simp;omega) (λs h=>by
  rcases afY.1 h with h|h
  .exact hf s h
  .rw[afO.1 h];exact hx) r l
 have u9:bJ r l (B++[jv m r l z n p mi le])=bJ r l B++[(jv m r l z n p mi le).st]:=by
  rw[lQ]
  congr 1
  simp[bJ,jv]
 rw[u9]at u_;obtain⟨D,hD⟩:=aD (m6 1 (bJ r l B++[(jv m r l z n p mi le).st]));have a_:=λmt F h=>J8 af qu a0 a1 q0 q1 g B hl hf (jv m r l z n p mi le) hx mt F h;rw[v6]at Y a_ ⊢;rw[v_]at e_;obtain⟨rm,hrm⟩:=aD (eI af qu);obtain⟨sd,v9⟩:=aD (sl g (an B));rw[<-hrm]at Y t9 a_ ⊢;rw[<-v9]at Y j9 a_ ⊢;have f7:rr.row.map C.f=.f (fi 10)::.f (fi 0)::.f (fi af) ::(cQ.map .f++(rr.row.drop 13).map .f):=by
  rw[<-rb,<-ra,<-rc,<-ro];rfl
 obtain⟨R,hR⟩:=aD (rr.row);rw[<-hR]at t_ f7 i8;have q_:R.length=15:=by rw[hR,rl]
 have lr:∀K:aj,K[2]?=aa (.box (R.map .f) 0)->aQ K ab (.c (.ptr 2 0 0))=aa (vi 10)/\aQ K (aa 10) (.c (.ptr 2 3 0))=aa (.a (cQ.map .f))/\aQ K (aa 15) (.c (.ptr 2 0 0))=aa (.a (R.map .f)):=λK h=>by
  refine⟨?_,?_,?_⟩
  .rw[f7]at h;simp[aQ,aw,h]
  .rw[f7]at h;have:(cQ.map C.f).length=10:=rfl;simp[aQ,aw,h,aO,List.take_append_of_le_length,afM,cQ]
  .simp[aQ,aw,h,aO,q_,afM]
 have lx:∀K:aj,K[0]?=aa (.box [.f (fi m),.f (fi r),.f (fi l),.f (fi z),.f A,.f (fi le),.f .aK] 0)->aQ K (aa 7) (.c (.ptr 0 0 0))=aa (.a [.f (fi m),.f (fi r),.f (fi l),.f (fi z),.f A,.f (fi le),.f .aK])/\aQ K ab (.c (.ptr 0 1 0))=aa (vi r)/\aQ K ab (.c (.ptr 0 2 0))=aa (vi l)/\aQ K ab (.c (.ptr 0 3 0))=aa (vi z)/\aQ K (aa 3) (.c (.ptr 0 4 0))=aa (.a [.f A,.f (fi le),.f .aK]):=λK h=>by
  refine⟨?_,?_,?_,?_,?_⟩<;>simp[aQ,aw,h,aO]
 apply ai;simp;obtain⟨K0,f8⟩:=aD ([.box [.f (fi m),.f (fi r),.f (fi l),.f (fi z),.f A,.f (fi le),.f .aK] 0,.box [.f (fi 0),.f (fi 0),.f (fi 0),.f (fi 0),.f (fi 0),.f (fi 0),.f (fi 0),.f (fi 0)] 0]:aj);have z0:K0[0]?=aa (.box [.f (fi m),.f (fi r),.f (fi l),.f (fi z),.f A,.f (fi le),.f .aK] 0):=by rw[f8];rfl
 have z1:K0[1]?=aa (.box [.f (fi 0),.f (fi 0),.f (fi 0),.f (fi 0),.f (fi 0),.f (fi 0),.f (fi 0),.f (fi 0)] 0):=by rw[f8];rfl
 have n0:K0.length=2:=by rw[f8];rfl
 rw[<-f8];have s8:∀K:aj,Kp K0 K->∀w:List C,w.length=8->cz K (.ptr 1 0 0) w=aa (K.set 1 (.box w 0)):=λK h w hw=>by
  have h1:=h.get z1
  match w,hw with
  |[b1,b2,b3,b4,b5,b6,b7,b8],_=>simp[cz,h1,bp]
 have a8:∀(t:T) (K:aj) (w:List C),Kp K0 K->t.g 6=.c (.ptr 1 0 0)->t.g 7=vi (if tk then 1 else 0)->w=eR rf->Q (aa .ret) ⟨t,[],K.set 1 (.box w 0)⟩:=by
  rintro t K w W Z g7 rfl;have w1:(K.set 1 (.box (eR rf) 0))[1]?=aa (.box (eR rf) 0):=afC (au (W.get z1));refine hQ _ _ ?_
  match rf,hr8 with
  |[b1,b2,b3,b4,b5,b6,b7,b8],_=>
   simp[eR]at w1;simp[Km.results,aZ,cu,Z,g7,aQ,aw,w1,aO,fC,bX,deep,qY,eR]
 apply ak;apply ai;cases v:tk with
 |true=>
  rw[v]at Y;have hz:=hZ v;simp[(lx K0 z0).1,Y,-aq];refine al (by simp) ?_;apply ai;simp[s8 K0 (Kp.refl _) _ (show([.f (fi 0),.f (fi 0),.f (fi 0),.f (fi 0),.f (fi 0),.f (fi 0),.f (fi 0),.f (fi 0)]:List C).length=8 from rfl),-aU];refine az (a8 _ _ _ (Kp.refl _) ?_ ?_ (by rw[hz];rfl))<;>simp[v]
 |false=>
  rw[v]at Y;obtain⟨mt,F,n',p',mi',ho',-,hmF,d⟩:=hX v;obtain⟨rfl,rfl,rfl⟩:n=n'/\p=p'/\mi=mi':=by
   have:=ho'.cs;simp[jv,td,pd]at this;exact⟨this.1.1,this.1.2,this.2⟩
  have a_:=a_ mt F hmF;obtain⟨cl,j6,s9⟩:∃cl:List Int,cl.length=8/\cl=fh af (jv m r l z n p mi le) mt (λs=>(F s).X) (λs=>(F s).Y) (λs=>(F s).found) (B.filter λs=>Fs af qu s.room (jv m r l z n p mi le).room):=⟨_,lN ..,rfl⟩
  rw[<-s9]at a_ d;simp only[show(jv m r l z n p mi le).size=z from rfl,show(jv m r l z n p mi le).st.len=le from rfl,show(jv m r l z n p mi le).dg=l from rfl,show(jv m r l z n p mi le).room=r from rfl]at d;rw[<-hD,v8]at d;simp only[Ix]at d;simp[(lx K0 z0).1,Y,-aq];refine bc (by simp) ?_;obtain⟨K1,f_⟩:=aD (K0++[.box (R.map .f) 0]:aj);have k1:Kp K0 K1:=by rw[f_];exact Kp.push _ _
  have z2:K1[2]?=aa (.box (R.map .f) 0):=by rw[f_,<-n0];simp
  have n1:K1.length=3:=by rw[f_];simp[n0]
  apply ai;simp[(lx K0 z0).2.1,t9,t_,q_,n0,-aq];rw[<-f_];have y0:=k1.get z0;apply ak;apply ai;by_cases b9:10<z
  .rw[bu b9]at d;simp[(lx K1 y0).2.2.2.1,(lr K1 z2).1,b9,-aq];refine al (by simp) ?_;apply ai;simp[s8 K1 k1 _ (show([.f (fi 14),.f (fi 0),.f (fi 0),.f (fi 0),.f (fi 0),.f (fi 0),.f (fi 0),.f (fi 0)]:List C).length=8 from rfl),-aU];refine az (a8 _ _ _ k1 ?_ ?_ (by rw[d];rfl))<;>simp[v]
  rw[bG b9]at d;simp only[List.headD_cons,if_true]at d;simp[(lx K1 y0).2.2.2.1,(lr K1 z2).1,b9,-aq];refine bc (by simp) ?_;obtain⟨hi,t7⟩:=aD (fU n p mi le);rw[<-t7]at e_;have z_:hi.row.map C.f=[.f (fi hi.day),.f (fi hi.fr),.f (fi hi.to)]:=rfl;rw[z_]at e_;obtain⟨K2,g_⟩:=aD (K1++[.box [.f (fi hi.day),.f (fi hi.fr),.f (fi hi.to)] 0]:aj);have k2:Kp K1 K2:=by rw[g_];exact Kp.push _ _
  have z3:K2[3]?=aa (.box [.f (fi hi.day),.f (fi hi.fr),.f (fi hi.to)] 0):=by rw[g_,<-n1];simp
  have n2:K2.length=4:=by rw[g_];simp[n1]
  have i9:=k1.tr k2;apply ai;simp[(lr K1 z2).2.1,(lx K1 y0).2.2.2.2,e_,n1,-aq];rw[<-g_];apply ak;apply ai;simp;refine bc (by simp) ?_;apply ak;apply ai;unfold nD at d;by_cases X:mi+le<=1440
  case neg=>
   rw[bG X]at d;have d:rf=[16,0,p,p*1440+mi,p*1440+mi+le,0,0,0]:=by rw[d];rfl
   have l3:aQ K2 (aa 3) (.c (.ptr 3 0 0))=aa (.a [.f (fi hi.day),.f (fi hi.fr),.f (fi hi.to)]):=by simp[aQ,aw,z3,aO]
   simp[X];refine al (by simp) ?_;apply ai;simp[l3,s8 K2 i9 _ (show([.f (fi 16),.f (fi 0),.f (fi hi.day),.f (fi hi.fr),.f (fi hi.to),.f (fi 0),.f (fi 0),.f (fi 0)]:List C).length=8 from rfl),-aq,-aU];refine az (a8 _ _ _ i9 ?_ ?_ (by rw[d,t7];unfold fU;rw[bG X];rfl))<;>simp[v]
  rw[bu X]at d;simp only[List.headD_cons,if_true]at d;simp[X];refine bc (by simp) ?_;obtain⟨K3,h_⟩:=aD (K2++[.box (eR cl) 0]:aj);have k3:Kp K2 K3:=by rw[h_];exact Kp.push _ _
  have z4:K3[4]?=aa (.box (eR cl) 0):=by rw[h_,<-n2];simp
  have n3:K3.length=5:=by rw[h_];simp[n2]
  have c_:=i9.tr k3;have i5:(eR cl).length=8:=by simp[eR,j6]
  have s7:aX tab Mq [.c (.f rm),.c (.f sd),.a [.f (fi m),.f (fi r),.f (fi l),.f (fi z),.f A,.f (fi le),.f .aK]]=Eq (.t [.a (eR cl),vi 0]):=a_;apply ai;simp[(lx K2 (i9.get z0)).1,s7,i5,n2,-aq];rw[<-h_];have j4:aQ K3 ab (.c (.ptr 4 0 0))=aa (vi (cl.headD 0))/\aQ K3 (aa 8) (.c (.ptr 4 0 0))=aa (.a (eR cl)):=by
   refine⟨?_,?_⟩
   .exact aaX j6 z4
   .simp[aQ,aw,z4,aO,i5,afM]
  obtain⟨c0,z9⟩:=aD (cl.headD 0);rw[<-z9]at j4 d;apply ak;apply ai;by_cases i6:c0=0
  case neg=>
   rw[bG i6]at d;simp[j4.1,i6,-aq];refine al (by simp) ?_;apply ai;simp[j4.2,s8 K3 c_ _ i5,i5,-aq,-aU];refine az (a8 _ _ _ c_ ?_ ?_ (by rw[d]))<;>simp[v]
  rw[bu i6]at d;simp[j4.1,i6,-aq];refine bc (by simp) ?_;obtain⟨M,j_⟩:=aD ((lZ l rr.q).1);obtain⟨is,his⟩:=aD ((lZ l rr.q).2);rw[<-j_,<-his]at i8 d;apply ai;simp[(lr K3 ((k2.tr k3).get z2)).2.2,(lx K3 (c_.get z0)).2.2.1,i8,-aq];apply ak;apply ai;have w_:=show([.f (fi 0),.f (fi 0),.f (fi 0),.f (fi 0),.f (fi 0),.f (fi 0),.f (fi 0),.f (fi 0)]:List C).length=8 from rfl
  cases j8:is with
  |false=>
   rw[j8]at d;simp;refine al (by simp) ?_;apply ai;simp[s8 K3 c_ _ w_,-aU];refine az (a8 _ _ _ c_ ?_ ?_ (by rw[d];rfl))<;>simp[v]
  |true=>
   rw[j8]at d;simp only[if_true]at d;have m4:rf=uw (tz M (15+7*(D:Int)) (ir (jv m r l z n p mi le).st) (ek (bJ r l B)) 200 (-1)):=by
    rw[d];have:∀o:Option aE,(if(uw o).headD 0=0 then mQ []else uw o)=uw o:=λo=>by cases o<;>rfl
    exact this _
   clear d;simp;refine bc (by simp) ?_;apply ai;have x9:LR K3 (.f .es) 7 []:=.inl ⟨rfl,.inr rfl⟩;obtain⟨c1,K4,x1,x2,x3,x4⟩:=x9.Nf (by simp[cA]) (by decide) (aR B) (bytes:=88) (jI (by simp;omega) (by decide)) g;rw[<-v9]at x1;simp only[List.nil_append]at x2;have kp4:Kp K3 K4:=⟨x3.1,λi hi=>by rw[afB hi];exact x3.2 i _ (afB hi) (by simp[bt])⟩
   simp[x1];have i_:=c_.tr kp4;obtain⟨N,hN⟩:=aD (K4.length);obtain⟨K5,i4⟩:=aD (K4++[.box [.f (fi m),.f (fi r),.f (fi l),.f (fi z),.f A,.f (fi le),.f .aK] 0]:aj);have n8:Kp K4 K5:=by rw[i4];exact Kp.push _ _
   have d5:K5[N]?=aa (.box ([fi m,fi r,fi l,fi z,A,fi le,.aK].map .f) 0):=by rw[i4,hN];simp
   have x8:LR K5 c1 7 (an B):=by rw[i4];exact x2.push _
   obtain⟨c2,K6,y1,y2,y3,y4⟩:=x8.app (aR B) (by decide) (row:=[fi m,fi r,fi l,fi z,A,fi le,.aK]) rfl (bytes:=88) (jI (by simp;omega) (by decide)) d5;have u6:∀i,bt c1=aa i->5<=i:=λi hi=>by
    rcases x4 with h|h
    .rw[h]at hi;cases hi
    .rw[h]at hi;have:=ahg hi;omega
   have x6:∀(i:Nat) (y:bB),i<5->K5[i]?=aa y->K6[i]?=aa y:=λi y hi hy=>y3.2 i y hy λh=>by have:=u6 i h;omega
   have w0:K6[0]?=aa (.box [.f (fi m),.f (fi r),.f (fi l),.f (fi z),.f A,.f (fi le),.f .aK] 0):=x6 0 _ (by omega) (n8.get (i_.get z0));have w1:K6[1]?=aa (.box [.f (fi 0),.f (fi 0),.f (fi 0),.f (fi 0),.f (fi 0),.f (fi 0),.f (fi 0),.f (fi 0)] 0):=x6 1 _ (by omega) (n8.get (i_.get z1));have kK6:Kp K0 K6:=⟨by have:=y3.1;have:=(i_.tr n8).1;omega,λi hi=>by
    rw[n0]at hi;obtain rfl|rfl:i=0\/i=1:=by omega
    .rw[w0,z0]
    .rw[w1,z1]⟩
   apply ai;simp[(lx K4 (i_.get z0)).1,-aq];rw[<-i4,<-hN];simp[y1];have l_:an B++[[fi m,fi r,fi l,fi z,A,fi le,.aK]]=an (B++[jv m r l z n p mi le]):=by simp[an,k_]
   rw[l_]at y2;obtain⟨ga,s_⟩:=y2.ex (aR _) 63;change eg deep K6 c2=_ at s_;obtain⟨n_,j7⟩:=u_ ga;rw[<-hD]at n_ j7;have afm:=mj n_;obtain⟨K7,p_⟩:=aD (ic deep c2 K6);have kK7:Kp K0 K7:=by
    rw[p_];have v0:=LR.mkB y2 (aR _) 63 w0;have v1:=LR.mkB y2 (aR _) 63 w1;change (ic deep c2 K6)[0]?=_ at v0;change (ic deep c2 K6)[1]?=_ at v1;refine⟨by have:=au v1;omega,λi hi=>?_⟩;rw[n0]at hi;obtain rfl|rfl:i=0\/i=1:=by omega
    .rw[v0,z0]
    .rw[v1,z1]
   apply ai;simp[(lx K6 w0).2.1,(lx K6 w0).2.2.1,s_,j7,<-p_,-aq];apply ak;apply ai;simp;refine bc (by simp) ?_;apply ak;apply ai;simp;obtain⟨e,he⟩:=aD (15+7*(D:Int):Int);rw[<-he]at m4;simp only[<-he];obtain⟨S,hS⟩:=aD ((jv m r l z n p mi le).st);rw[<-hS]at m4 b_;simp only[<-hS]at j5;have hT:pZ (bJ r l B):=vL hf _ _;have y8:=oa r l B B.length;rw[List.take_length]at y8;refine GD (-1) ((e+13) / 7).toNat (λj t K=>t.g 1=.c (.f sd)/\t.g 5=.c (.ptr 0 0 0)/\t.g 6=.c (.ptr 1 0 0)/\t.g 14=vi M/\t.g 17=vi e/\t.g 7=vi 0/\Kp K0 K/\rf=uw (tz M e (ir S) (ek (bJ r l B)) (200-j) (-1+(j:Int)))) (by omega) (by omega) rfl (by simp) ⟨by simp,by simp,by simp,by simp,by simp,by simp,kK7,m4⟩ ?_ ?_ ?_
   .rintro j t K L hj ⟨g1,g5,Z,E,J,g7,W,hq⟩ ha hL;simp[ha,J,bg (n:=7*(-1+(j:Int)))];refine hL _ ⟨by simp[g1],by simp[g5],by simp[Z],by simp[E],by simp[J],by simp[g7],W,hq⟩ (by simp[ha]) ?_;simp;omega
   .rintro j t K hj ⟨g1,g5,Z,E,J,g7,W,hq⟩ ha next
    obtain⟨w,hw⟩:=aD (-1+(j:Int):Int);rw[<-hw]at ha next hq
    have w9:-1<=w:=by omega
    have m_:w<=100:=by omega
    have e9:200-j=(200-(j+1))+1:=by omega
    rw[e9,tz,bu (by omega)]at hq;have u7:=j9 w w9 m_;obtain⟨gb,r_⟩:=j5 w w9 m_;have hU:=AP w hT;obtain⟨U,y_⟩:=aD (ek (bJ r l B) w);rw[<-y_]at u7 hU hq;obtain⟨O,hO⟩:=aD (ir S w);have y7:=rS S w;have x_:∀x∈O,0<=x.fr/\x.fr<x.to/\x.to<=2000000:=λx hx=>OO b_ m_ (by rw[<-hO];exact hx);have o_:=OM b_ w;rw[<-hO]at r_ y7 o_ hq;refine aI ?_;apply ai;simp[ha,g1,g5,(lx K (W.get z0)).2.1,(lx K (W.get z0)).2.2.1,u7,-aq];apply ai;simp[ha,g5,(lx K (W.get z0)).2.2.2.2,r_,-aq];apply ai;simp;have hlO:∀K:aj,bo K (.f (sl gb (aC O)))=aa O.length:=λK=>by simp
    refine bA O.length (λi t K=>t.g 1=.c (.f sd)/\t.g 5=.c (.ptr 0 0 0)/\t.g 6=.c (.ptr 1 0 0)/\t.g 14=vi M/\t.g 17=vi e/\t.g 7=vi 0/\t.g 19=vi w/\t.g 21=.c (.f (sl gb (aC O)))/\t.g 20=vi (U+fF (O.take i))/\Kp K0 K/\qj M U O=qj M (U+fF (O.take i)) (O.drop i)) (by omega) rfl (by simp) ⟨by simp[g1],by simp[g5],by simp[Z],by simp[E],by simp[J],by simp[g7],by simp[ha],by simp,by simp[fF],W,by simp[fF]⟩ ?_ ?_ ?_
    .rintro i t K L hi ⟨g1,g5,Z,E,J,g7,d9,a9,d_,W,I⟩ hb hL;simp[hb,a9,hlO];exact hL _ ⟨by simp[g1],by simp[g5],by simp[Z],by simp[E],by simp[J],by simp[g7],by simp[d9],by simp[a9],by simp[d_],W,I⟩ (by simp[hb]) (by simp)
    .rintro i t K hi ⟨g1,g5,Z,E,J,g7,d9,a9,d_,W,I⟩ hb nx;have n9:=λH:aj=>a7 (H:=H) (g:=gb) (rows:=aC O) (sz:=3) (k:=.i64) (i:=(i:Int)) (by omega) (by simp;omega);simp only[afU]at n9;have o1:=λH:aj=>dw (H:=H) (k:=1) (bh O) (cW hi) rfl;have o2:=λH:aj=>dw (H:=H) (k:=2) (bh O) (cW hi) rfl;have o3:∀H:aj,aQ H (aa 3) (.c (.f (.fp (aC O).flatten (i*3))))=aa (.a [.f (fi O[i].day),.f (fi O[i].fr),.f (fi O[i].to)]):=λH=>bE (H:=H) (bh O) (cW hi);simp only[fi]at o1 o2;obtain⟨b1,b2,b3⟩:=x_ _ (afH hi);have hst:=zH O hi;have hsb:=FF (O:=O.take i) λy hy=>o_ y (agD hy);have htl:(O.take i).length<=7:=by rw[List.length_take];omega
     rw[List.drop_eq_getElem_cons hi,qj]at I;obtain⟨V,hV⟩:=aD (U+fF (O.take i));rw[<-hV]at d_ I;have hVb:0<=V/\V<=10000000:=by omega
     have r5:V+(O[i].to-O[i].fr)=U+fF (O.take (i+1)):=by rw[hst];omega
     rw[bg (n:=O[i].to-O[i].fr),bg (n:=V+(O[i].to-O[i].fr))]at I;have z8:V+O[i].to-O[i].fr=V+(O[i].to-O[i].fr):=by omega
     refine aI ?_;apply ai;simp[hb,d_,a9,n9,o1,o2,bg (n:=V+O[i].to),z8,bg (n:=V+(O[i].to-O[i].fr))];apply ai;by_cases i7:M<V+(O[i].to-O[i].fr)
     .rw[bu i7]at I;rw[I]at hq;simp[E,i7];refine al (by simp) ?_;apply ai;simp[hb,Z,a9,n9,o3,s8 K W _ (show([.f (fi 14),.f (fi 0),.f (fi O[i].day),.f (fi O[i].fr),.f (fi O[i].to),.f (fi 0),.f (fi 0),.f (fi 0)]:List C).length=8 from rfl),-aU];refine az (a8 _ _ _ W ?_ ?_ (by rw[hq];rfl))<;>simp[v,Z]
     .rw[bG i7,r5]at I;simp[E,i7];refine aG (by simp) (aS (aA (nx _ _ ⟨by simp[g1],by simp[g5],by simp[Z],by simp[E],by simp[J],by simp[g7],by simp[d9],by simp[a9],by simp[r5],W,I⟩ (by simp[hb]))))
    .rintro t K ⟨g1,g5,Z,E,J,g7,d9,a9,d_,W,I⟩ hb;rw[List.drop_length,qj]at I;rw[I]at hq;refine aA (next _ _ ⟨by simp[g1],by simp[g5],by simp[Z],by simp[E],by simp[J],by simp[g7],W,?_⟩ (by simp[d9]));rw[hq,show w+1 = -1+((j+1:Nat):Int) by omega]
   .rintro t K ⟨g1,g5,Z,E,J,g7,W,hq⟩ ha;have e9:∃u,200-((e+13) / 7).toNat=u+1:=⟨199-((e+13) / 7).toNat,by omega⟩
    obtain⟨u,hu⟩:=e9;rw[hu,tz,bG (by omega)]at hq;apply ai;simp[Z,s8 K W _ w_,-aU];refine az (a8 _ _ _ W ?_ ?_ (by rw[hq];rfl))<;>simp[v,Z])
def ky(h y:bR)(k i t:Int)(c:List Int)(j:List Int)(b:Int):Prop:=
 (k % 6=0/\∃g,y=if bV h (1+i % 8)=0 then { eU h (1+i % 8) 2 with lg:=g }else h)\/
 (k % 6=1/\∃g,y=if bV h (1+i % 8)=0 then { eU h (1+i % 8) 3 with lg:=g }else h)\/
 (k % 6=2/\∃g,y=⟨h.clock+t % 30,h.ba,g,h.l.map (eG (h.clock+t % 30))⟩)\/
 (3<=k % 6/\∃res d cc,iA h (yW i t h.clock c) j b res d cc/\y=if cc=0 then res else h)
theorem Nx(h:bR)(m:h.l.length<=30)(q:∀x∈h.l,Fix x.aW)(id:Int):∃(g:Tg) (b:bR),(bV h id=0->b = { eU h id 2 with lg:=g })/\aX tab SJ [.a (h.row.map .f),vi id]=Eq (.t [.a (b.row.map .f),vi (bV h id)]):=by
 obtain⟨g,b,d,j⟩:=Eg h m q id;exact⟨g,b,λl=>by rw[d,bu l],j⟩
theorem O6(h:bR)(m:h.l.length<=30)(q:∀x∈h.l,Fix x.aW)(id:Int):∃(g:Tg) (b:bR),(bV h id=0->b = { eU h id 3 with lg:=g })/\aX tab SK [.a (h.row.map .f),vi id]=Eq (.t [.a (b.row.map .f),vi (bV h id)]):=by
 obtain⟨g,b,d,j⟩:=Fj h m q id;exact⟨g,b,λl=>by rw[d,bu l],j⟩
theorem aby(h:bR)(m:h.l.length<=30)(q:∀x∈h.l,Fix x.aW)(clk:Int):∃(g:Tg) (b:bR),(eb h clk=0->b=⟨clk,h.ba,g,h.l.map (eG clk)⟩)/\aX tab SL [.a (h.row.map .f),vi clk]=Eq (.t [.a (b.row.map .f),vi (eb h clk)]):=by
 obtain⟨g,b,d,j⟩:=Sw h m q clk;exact⟨g,b,λl=>by rw[d,bu l],j⟩
theorem Np{d y:bR}(h:d.cl=y.cl):d = { y with lg:=d.lg }:=by
 obtain⟨a,b,g,l⟩:=d;obtain⟨a',j,g',m⟩:=y;simp[bR.cl]at h ⊢;exact h
theorem J9(h:bR)(m:h.l.length<=30)(_:∀x∈h.l,Fix x.aW)(id:Int):∃(g:Tg) (b:bR),(bV h id=0->b = { eU h id 2 with lg:=g })/\aX tab Mt [.a (h.row.map .f),vi id]=Eq (.t [.a (b.row.map .f),vi (bV h id)]):=by
 obtain⟨b,d,j⟩:=CE h m id;exact⟨b.lg,b,λl=>Np (by rw[d,bu l]),j⟩
theorem Kr(h:bR)(m:h.l.length<=30)(_:∀x∈h.l,Fix x.aW)(id:Int):∃(g:Tg) (b:bR),(bV h id=0->b = { eU h id 3 with lg:=g })/\aX tab Mv [.a (h.row.map .f),vi id]=Eq (.t [.a (b.row.map .f),vi (bV h id)]):=by
 obtain⟨b,d,j⟩:=CS h m id;exact⟨b.lg,b,λl=>Np (by rw[d,bu l]),j⟩
theorem Yh(h:bR)(m:h.l.length<=30)(_:∀x∈h.l,Fix x.aW)(clk:Int):∃(g:Tg) (b:bR),(eb h clk=0->b=⟨clk,h.ba,g,h.l.map (eG clk)⟩)/\aX tab vg [.a (h.row.map .f),vi clk]=Eq (.t [.a (b.row.map .f),vi (eb h clk)]):=by
 obtain⟨b,d,j⟩:=Pn h m clk;exact⟨b.lg,b,λl=>Np (y:=⟨clk,h.ba,.nil,h.l.map (eG clk)⟩) (by rw[d,bu l]),j⟩
theorem NR(h:bR)(s:nS h)(q:FC)(g0:Tg)(l0:List aB)(u:nw l0)(x:bC)(v:iL x.aW)(d:List Int)(b:Int)(m:d.length=8)(_:d[0]?=aa 0->d=e7)
  (j:bM h x=0->∀g,aX tab kh [.c (.f q),.c (.f (sl g (an (pU l0 h)))),.a (x.aW.row.map .f)]=Eq (.t [.a (eR d),vi b])) :
  ∃res l c,iA h x d b res l c/\aX tab vf [.a (h.row.map .f),.c (.f q),.c (.f (sl g0 (an l0))),.a (x.row.map .f)]=Eq (.t [.a (res.row.map .f),.a (eR l),vi c]):=
 NS h s q g0 l0 u.ap u.len x (uE v) (λy z=>uE (s.f y z).2) d b m j
theorem GX(h:bR)(u:nS h)(q:FC)(g0:Tg)(l0:List aB)(s:nw l0)(x:bC)(_:iL x.aW)(d:List Int)(b:Int)(m:d.length=8)(v:d[0]?=aa 0->d=e7)
  (j:bM h x=0->∀g,aX tab uY [.c (.f q),.c (.f (sl g (an (pU l0 h)))),.a (x.aW.row.map .f)]=Eq (.t [.a (eR d),vi b])) :
  ∃res l c,iA h x d b res l c/\aX tab uZ [.a (h.row.map .f),.a [.f q,.f (sl g0 (an l0))],.a (x.row.map .f)]=Eq (.t [.a (res.row.map .f),.a (eR l),vi c]):=
 Kh h (by have:=u.len;omega) q g0 l0 s.ap (by have:=s.len;omega) x d b m v j
theorem Tx(h:bR)(H:nS h)(hc:h.clock<=99000)(X:FC)(g0:Tg)(l0:List aB)(hp:nw l0)(k i t:Int)(c:List Int)(d_:gK 8 c)(j8:0<=k/\k<=255)(hi:0<=i/\i<=255)(ht:0<=t/\t<=255)(L:List Int)(m:Int)(h8:L.length=8)(hz:L[0]?=aa 0->L=e7)
  (h_:∀g,aX tab kh [.c (.f X),.c (.f (sl g (an (pU l0 h)))),.a ((iD c).row.map .f)]=Eq (.t [.a (eR L),vi m])) :
  ∃B,nS B/\B.clock<=h.clock+29/\ky h B k i t c L m/\aX tab vk [.a (h.row.map .f),.a [.f X,.f (sl g0 (an l0))],.a ((ot (k::i::t::c)).map .f)]=Eq (.a (B.row.map .f)):=by
 obtain⟨r,⟨B,h1,h2,h3,rfl⟩,O⟩:∃r,(∃B,nS B/\B.clock<=h.clock+29/\ky h B k i t c L m/\r=.a (B.row.map .f))/\aX tab vk [.a (h.row.map .f),.a [.f (X),.f (sl g0 (an l0))],.a ((ot (k::i::t::c)).map .f)] r:=by
  refine cN rfl rfl λQ hQ=>?_;have n9:=H.len;have n8:=H.c0;have e9:∀x∈h.l,Fix x.aW:=λx hx=>uE (H.f x hx).2;have e_:h.row.length=3:=rfl;have e6:=iV (k:=.u8) (b:=6) j8.1 (by decide);have e8:=iV (k:=.u8) (b:=8) hi.1 (by decide);have j4:=iV (k:=.u8) (b:=30) ht.1 (by decide);have f7:=wN k i t h.clock c d_ hi ht (by omega) (by omega);obtain⟨rm,i5⟩:=aD (X);obtain⟨sd,i6⟩:=aD (sl g0 (an l0));obtain⟨F,U⟩:=aD (ot (k::i::t::c));have i4:F.length=11:=by rw[U];simp[ot,d_.1]
  have o0:∀K:aj,K[2]?=aa (.box (F.map .f) 0)->aQ K ab (.c (.ptr 2 0 0))=aa (.c (.f (.int .u8 k)))/\aQ K ab (.c (.ptr 2 1 0))=aa (.c (.f (.int .u8 i)))/\aQ K ab (.c (.ptr 2 2 0))=aa (.c (.f (.int .u8 t)))/\aQ K (aa 11) (.c (.ptr 2 0 0))=aa (.a (F.map .f)):=λK N=>by
   have e:F.map C.f=.f (.int .u8 k)::.f (.int .u8 i)::.f (.int .u8 t) ::(ot c).map .f:=by rw[U];rfl
   refine⟨?_,?_,?_,?_⟩
   .rw[e]at N;simp[aQ,aw,N]
   .rw[e]at N;simp[aQ,aw,N]
   .rw[e]at N;simp[aQ,aw,N]
   .simp[aQ,aw,N,aO,i4,afM]
  rw[<-U]at f7 ⊢;rw[<-i5,<-i6];obtain⟨l,E⟩:=aD ([.box (h.row.map .f) 0,.box [.f rm,.f sd] 0,.box (F.map .f) 0,.box [.f (fi 0),.f (fi 0),.f .aK] 0,.box (h.row.map .f) 0]:aj);have z0:l[0]?=aa (.box (h.row.map .f) 0):=by rw[E];rfl
  have z1:l[1]?=aa (.box [.f rm,.f sd] 0):=by rw[E];rfl
  have z2:l[2]?=aa (.box (F.map .f) 0):=by rw[E];rfl
  have z3:l[3]?=aa (.box [.f (fi 0),.f (fi 0),.f .aK] 0):=by rw[E];rfl
  have z4:l[4]?=aa (.box (h.row.map .f) 0):=by rw[E];rfl
  have lh:∀(K:aj) (b:Nat) (x:bR),K[b]?=aa (.box (x.row.map .f) 0)->aQ K (aa 3) (.c (.ptr b 0 0))=aa (.a (x.row.map .f))/\aQ K ab (.c (.ptr b 0 0))=aa (vi x.clock):=λK b x N=>by
   refine⟨?_,?_⟩<;>simp[aQ,aw,N,aO,bR.row]
  have sh:∀(K:aj) (b:Nat) (cs:List C) (x:bR),K[b]?=aa (.box cs 0)->cs.length=3->cz K (.ptr b 0 0) (x.row.map .f)=aa (K.set b (.box (x.row.map .f) 0)):=λK b cs x N hl=>by
   match cs,hl with
   |[p,q,r],_=>simp[cz,N,bp,bR.row]
  have J:∀(u:T) (K:aj) (e:Int) (x:bR),u.g 3=.c (.ptr 0 0 0)->u.g 6=.c (.ptr 3 0 0)->u.g 7=.c (.ptr 4 0 0)->u.g 8=vi e->K[0]?=aa (.box (h.row.map .f) 0)->K[3]?=aa (.box [.f (fi 0),.f (fi 0),.f .aK] 0)->K[4]?=aa (.box (x.row.map .f) 0)->
    (∀y,y=(if e=0 then x else h)->nS y/\y.clock<=h.clock+29/\ky h y k i t c L m)->WP tab vk ab [.code Mc] ⟨u,[],K⟩ Q:=by
   intro u K e x Y M Z g8 k0 k3 k4 v;have g_:∀(u:T) (y:bR) (j:Option aH),u.g 6=.c (.ptr 3 0 0)->(nS y/\y.clock<=h.clock+29/\ky h y k i t c L m)->Q j ⟨u,[],K.set 3 (.box (y.row.map .f) 0)⟩:=by
    intro u y j M v;have d:(K.set 3 (.box (y.row.map .f) 0))[3]?=aa (.box (y.row.map .f) 0):=afC (au k3);refine hQ _ _ _ ⟨y,v.1,v.2.1,v.2.2,rfl⟩ ⟨rfl,V.a (y.row.map .f),?_,by simp[fC,bX,aZ,deep]⟩;simp[Km.results,cu,aZ,M,(lh _ 3 y d).1,-aq]
   apply ak;apply ai;simp[g8];by_cases S:e=0
   .have:=v x (by rw[bu S]);refine bc (by simp[S]) ?_;apply ai;have k_:x.row.length=3:=rfl;simp[M,Z,(lh K 4 x k4).1,k_,sh K 3 _ x k3 rfl,-aq,-aU];exact az (g_ _ x _ (by simp[M]) this)
   .have:=v h (by rw[bG S]);refine al (by simp[S]) ?_;apply ai;simp[Y,M,(lh K 0 h k0).1,e_,sh K 3 _ h k3 rfl,-aq,-aU];exact az (g_ _ h _ (by simp[M]) this)
  have I:nS h/\h.clock<=h.clock+29:=⟨H,by omega⟩
  have c_:∀(st:Int) (g:Tg) (A:bR),(st=2/\k % 6=0\/st=3/\k % 6=1)->(bV h (1+i % 8)=0->A = { eU h (1+i % 8) st with lg:=g })->∀y,y=(if bV h (1+i % 8)=0 then A else h)->nS y/\y.clock<=h.clock+29/\ky h y k i t c L m:=by
   intro st g A f8 s y v;have hN:ky h (if bV h (1+i % 8)=0 then { eU h (1+i % 8) st with lg:=g }else h) k i t c L m:=by
    rcases f8 with⟨rfl,e⟩|⟨rfl,e⟩
    .exact .inl ⟨e,g,rfl⟩
    .exact .inr (.inl ⟨e,g,rfl⟩)
   by_cases S:bV h (1+i % 8)=0
   .rw[bu S]at v hN;subst v;rw[s S];exact⟨He H (by rcases f8 with⟨e,-⟩|⟨e,-⟩;exact .inl e;exact .inr e) g,by show h.clock<=_;omega,hN⟩
   .rw[bG S]at v hN;rw[v];exact⟨I.1,I.2,hN⟩
  have start:∀u:T,u.g 3=.c (.ptr 0 0 0)->u.g 4=.c (.ptr 1 0 0)->u.g 5=.c (.ptr 2 0 0)->u.g 6=.c (.ptr 3 0 0)->u.g 7=.c (.ptr 4 0 0)->WP tab vk ab [.code Qu] ⟨u,[],l⟩ Q:=by
   intro u Y g4 g5 M Z;obtain⟨p1,p2,p3,p4⟩:=o0 l z2;obtain⟨h3,b9⟩:=lh l 0 h z0;have m_:eg deep l (.f .aK)=aa .aK:=rfl;refine ak (ai ?_);simp[g5,p1,e6,-aq];refine aI (ai ?_);simp;by_cases c0:k % 6=0
   .refine al (by simp[c0]) ?_;obtain⟨g,A,s,O⟩:=Nx h (by omega) e9 (1+i % 8);have z:A.row.length=3:=rfl;refine av (.inl rfl) ?_;simp[Y,g5,Z,p2,h3,e8,bg (n:=i % 8),bg (n:=1+i % 8),O,z,sh l 4 _ A z4 rfl,-aq,-aU];refine aA (J _ _ (bV h (1+i % 8)) A (by simp[Y]) (by simp[M]) (by simp[Z]) (by simp) ?_ ?_ (afC (au z4)) (c_ 2 g A (.inl ⟨rfl,c0⟩) s))
    .rw[ae2 (by decide)];exact z0
    .rw[ae2 (by decide)];exact z3
   refine aG (by simp[c0]) ?_;apply ai;simp;by_cases c1:k % 6=1
   .refine al (by simp[c1]) ?_;obtain⟨g,A,s,O⟩:=O6 h (by omega) e9 (1+i % 8);have z:A.row.length=3:=rfl;refine av (.inl rfl) ?_;simp[Y,g5,Z,p2,h3,e8,bg (n:=i % 8),bg (n:=1+i % 8),O,z,sh l 4 _ A z4 rfl,-aq,-aU];refine aA (J _ _ (bV h (1+i % 8)) A (by simp[Y]) (by simp[M]) (by simp[Z]) (by simp) ?_ ?_ (afC (au z4)) (c_ 3 g A (.inr ⟨rfl,c1⟩) s))
    .rw[ae2 (by decide)];exact z0
    .rw[ae2 (by decide)];exact z3
   refine aG (by simp[c1]) ?_;apply ai;simp;by_cases c2:k % 6=2
   .refine al (by simp[c2]) ?_;obtain⟨g,A,s,O⟩:=aby h (by omega) e9 (h.clock+t % 30);have z:A.row.length=3:=rfl;have i7:eb h (h.clock+t % 30)=0:=by
     unfold eb;rw[bG];rintro(B|B|B)
     .rw[H.v]at B;cases B
     .omega
     .omega
    have s:=s i7;rw[i7]at O;refine av (.inl rfl) ?_;simp[Y,g5,Z,p3,h3,b9,j4,bg (n:=t % 30),bg (n:=h.clock+t % 30),O,z,sh l 4 _ A z4 rfl,-aq,-aU];refine aA (J _ _ 0 A (by simp[Y]) (by simp[M]) (by simp[Z]) (by simp) ?_ ?_ (afC (au z4)) λy v=>?_)
    .rw[ae2 (by decide)];exact z0
    .rw[ae2 (by decide)];exact z3
    .rw[bu rfl]at v;rw[v,s];refine⟨Hc H (by omega) (by omega) g,by show h.clock+t % 30<=_;omega,.inr (.inr (.inl ⟨c2,g,rfl⟩))⟩
   refine aG (by simp[c2]) ?_;have c3:3<=k % 6:=by omega
   obtain⟨x,hx⟩:=aD (yW i t h.clock c);rw[<-hx]at f7;obtain⟨j5,l_,m4⟩:=mR d_;have i8:iL x.aW:=by rw[hx];exact j5
   obtain⟨res,W,cc,hG,O⟩:=NR h H X g0 l0 hp x i8 L m h8 hz (λ_ g=>by rw[hx];exact h_ g);have hN:ky h (if cc=0 then res else h) k i t c L m:=.inr (.inr (.inr ⟨c3,res,W,cc,by rw[<-hx];exact hG,rfl⟩));rw[<-i5,<-i6]at O;have z:res.row.length=3:=rfl;have b_:W.length=8:=by
    rcases hG with⟨-,-,e,-⟩|⟨-,-,-,e,-⟩|⟨-,-,-,e,-⟩
    .rw[e];rfl
    .rw[e];rfl
    .rw[e];exact h8
   have q0:aQ l ab (.c (.ptr 1 0 0))=aa (.c (.f rm))/\aQ l ab (.c (.ptr 1 1 0))=aa (.c (.f sd)):=by
    refine⟨?_,?_⟩<;>simp[aQ,aw,z1]
   have n0:l.length=5:=by rw[E];rfl
   obtain⟨K1,a8⟩:=aD (l++[bB.box [.f (fi 0),.f (fi 0),.f .aK] 0,bB.box [.f (fi 0),.f (fi 0),.f (fi 0),.f (fi 0),.f (fi 0),.f (fi 0),.f (fi 0),.f (fi 0)] 0]);have k1:∀i:Nat,i<5->K1[i]?=l[i]?:=λi hi=>by rw[a8,afy (by omega)]
   have d5:K1[l.length]?=aa (.box [.f (fi 0),.f (fi 0),.f .aK] 0):=by rw[a8];simp
   have d6:K1[l.length+1]?=aa (.box [.f (fi 0),.f (fi 0),.f (fi 0),.f (fi 0),.f (fi 0),.f (fi 0),.f (fi 0),.f (fi 0)] 0):=by rw[a8,afI (by omega)];simp
   have s1:=sh K1 l.length _ res d5 rfl;obtain⟨K2,a9⟩:=aD (K1.set l.length (.box (res.row.map .f) 0));rw[<-a9]at s1;have i_:K2[l.length+1]?=_:=(by rw[a9,ae2 (by omega)]:K2[l.length+1]?=K1[l.length+1]?).trans d6;have i9:K2[l.length]?=aa (.box (res.row.map .f) 0):=by rw[a9];exact afC (au d5)
   obtain⟨K3,d9⟩:=aD (K2.set (l.length+1) (.box (W.map λn=>.f (fi n)) 0));have s2:cz K2 (.ptr (l.length+1) 0 0) (W.map λn=>.f (fi n))=aa K3:=by
    rw[d9]
    match W,b_ with
    |[p0,p1,p2,p3,p4,p5,p6,p7],_=>simp[cz,i_,bp]
   have f_:K3[l.length]?=aa (.box (res.row.map .f) 0):=by rw[d9,ae2 (by omega)];exact i9
   have k3:∀i:Nat,i<5->K3[i]?=l[i]?:=λi hi=>by rw[d9,ae2 (by omega),a9,ae2 (by omega),k1 i hi]
   rw[a8]at s1;apply ai;simp[Y,g4,g5,p4,h3,b9,q0.1,q0.2,f7,O,z,eR,b_,s1,s2,-aq,-aU];have w4:=(k3 4 (by omega)).trans z4;have w3:=(k3 3 (by omega)).trans z3;have w0:=(k3 0 (by omega)).trans z0;have l5:=(lh K3 l.length res f_).1;apply ai;simp[Z,l5,z,sh K3 4 _ res w4 rfl,-aq,-aU];refine av (.inl rfl) ?_;simp;refine aA (J _ _ cc res (by simp[Y]) (by simp[M]) (by simp[Z]) (by simp) ?_ ?_ (afC (au w4)) λy v=>?_)
   .rw[ae2 (by decide)];exact w0
   .rw[ae2 (by decide)];exact w3
   by_cases S:cc=0
   case neg=>rw[bG S]at v hN;rw[v];exact⟨I.1,I.2,hN⟩
   rw[bu S]at v hN;subst v;rcases hG with⟨e1,-,-,e2⟩|⟨-,e1,-,-,e2⟩|⟨e1,e2,-,-,g,⟨-,e3⟩|⟨e3,j,hj,j9,j6,e4⟩⟩
   .omega
   .omega
   .refine⟨?_,by rw[e3];show h.clock<=_;omega,hN⟩;rw[e3];exact⟨H.v,H.c0,H.c1,H.d,H.f⟩
   .have j7:1<=x.id/\x.id<=8:=by rw[hx];show 1<=1+i % 8/\1+i % 8<=8;omega
    have f8:x.state=1:=by rw[hx];rfl
    have m9:x.dl=h.clock+t % 50-2:=by rw[hx];rfl
    have j_:OG h.clock x:=by
     unfold bM at e1;split at e1
     .omega
     .split at e1
      .omega
      .split at e1
       .omega
       .rename_i hn;unfold OG;omega
    refine⟨?_,by rw[e4];show h.clock<=_;omega,hN⟩;rw[e4];exact N6 H j_ (by omega) ⟨.inl j7,i8⟩ j9 j6 g
  apply ai;simp[e_,i4];apply ai;obtain⟨KK,a_⟩:=aD ([.box (h.row.map .f) 0,.box [.f rm,.f sd] 0,.box (F.map .f) 0,.box [.f (fi 0),.f (fi 0),.f .aK] 0]:aj);have w0:KK[0]?=aa (.box (h.row.map .f) 0):=by rw[a_];rfl
  have nK:KK.length=4:=by rw[a_];rfl
  have eK:KK++[bB.box (h.row.map .f) 0]=l:=by rw[a_,E];rfl
  rw[<-a_];simp[(lh KK 0 h w0).1,e_,nK,-aq];rw[eK];exact start _ (by simp) (by simp) (by simp) (by simp) (by simp)
 exact⟨B,h1,h2,h3,O.eq⟩
theorem Yg(h:bR)(H:nS h)(hc:h.clock<=99000)(X:FC)(g0:Tg)(l0:List aB)(hp:nw l0)(k i t:Int)(c:List Int)(d_:gK 8 c)(j8:0<=k/\k<=255)(hi:0<=i/\i<=255)(ht:0<=t/\t<=255)(L:List Int)(m:Int)(h8:L.length=8)(hz:L[0]?=aa 0->L=e7)
  (h_:∀g,aX tab uY [.c (.f X),.c (.f (sl g (an (pU l0 h)))),.a ((iD c).row.map .f)]=Eq (.t [.a (eR L),vi m])) :
  ∃B,nS B/\B.clock<=h.clock+29/\ky h B k i t c L m/\aX tab qy [.a (h.row.map .f),.a [.f X,.f (sl g0 (an l0))],.a ((ot (k::i::t::c)).map .f)]=Eq (.a (B.row.map .f)):=by
 obtain⟨r,⟨B,h1,h2,h3,rfl⟩,O⟩:∃r,(∃B,nS B/\B.clock<=h.clock+29/\ky h B k i t c L m/\r=.a (B.row.map .f))/\aX tab qy [.a (h.row.map .f),.a [.f (X),.f (sl g0 (an l0))],.a ((ot (k::i::t::c)).map .f)] r:=by
  refine cN rfl rfl λQ hQ=>?_;have n9:=H.len;have n8:=H.c0;have e9:∀x∈h.l,Fix x.aW:=λx hx=>uE (H.f x hx).2;have e_:h.row.length=3:=rfl;have e6:=iV (k:=.u8) (b:=6) j8.1 (by decide);have e8:=iV (k:=.u8) (b:=8) hi.1 (by decide);have j4:=iV (k:=.u8) (b:=30) ht.1 (by decide);have f7:=wN k i t h.clock c d_ hi ht (by omega) (by omega);obtain⟨rm,i5⟩:=aD (X);obtain⟨sd,i6⟩:=aD (sl g0 (an l0));obtain⟨F,U⟩:=aD (ot (k::i::t::c));have i4:F.length=11:=by rw[U];simp[ot,d_.1]
  have o0:∀K:aj,K[2]?=aa (.box (F.map .f) 0)->aQ K ab (.c (.ptr 2 0 0))=aa (.c (.f (.int .u8 k)))/\aQ K ab (.c (.ptr 2 1 0))=aa (.c (.f (.int .u8 i)))/\aQ K ab (.c (.ptr 2 2 0))=aa (.c (.f (.int .u8 t)))/\aQ K (aa 11) (.c (.ptr 2 0 0))=aa (.a (F.map .f)):=λK N=>by
   have e:F.map C.f=.f (.int .u8 k)::.f (.int .u8 i)::.f (.int .u8 t) ::(ot c).map .f:=by rw[U];rfl
   refine⟨?_,?_,?_,?_⟩
   .rw[e]at N;simp[aQ,aw,N]
   .rw[e]at N;simp[aQ,aw,N]
   .rw[e]at N;simp[aQ,aw,N]
   .simp[aQ,aw,N,aO,i4,afM]
  rw[<-U]at f7 ⊢;rw[<-i5,<-i6];obtain⟨l,E⟩:=aD ([.box (h.row.map .f) 0,.box [.f rm,.f sd] 0,.box (F.map .f) 0,.box [.f (fi 0),.f (fi 0),.f .aK] 0,.box (h.row.map .f) 0]:aj);have z0:l[0]?=aa (.box (h.row.map .f) 0):=by rw[E];rfl
  have z1:l[1]?=aa (.box [.f rm,.f sd] 0):=by rw[E];rfl
  have z2:l[2]?=aa (.box (F.map .f) 0):=by rw[E];rfl
  have z3:l[3]?=aa (.box [.f (fi 0),.f (fi 0),.f .aK] 0):=by rw[E];rfl
  have z4:l[4]?=aa (.box (h.row.map .f) 0):=by rw[E];rfl
  have lh:∀(K:aj) (b:Nat) (x:bR),K[b]?=aa (.box (x.row.map .f) 0)->aQ K (aa 3) (.c (.ptr b 0 0))=aa (.a (x.row.map .f))/\aQ K ab (.c (.ptr b 0 0))=aa (vi x.clock):=λK b x N=>by
   refine⟨?_,?_⟩<;>simp[aQ,aw,N,aO,bR.row]
  have sh:∀(K:aj) (b:Nat) (cs:List C) (x:bR),K[b]?=aa (.box cs 0)->cs.length=3->cz K (.ptr b 0 0) (x.row.map .f)=aa (K.set b (.box (x.row.map .f) 0)):=λK b cs x N hl=>by
   match cs,hl with
   |[p,q,r],_=>simp[cz,N,bp,bR.row]
  have J:∀(u:T) (K:aj) (e:Int) (x:bR),u.g 3=.c (.ptr 0 0 0)->u.g 6=.c (.ptr 3 0 0)->u.g 7=.c (.ptr 4 0 0)->u.g 8=vi e->K[0]?=aa (.box (h.row.map .f) 0)->K[3]?=aa (.box [.f (fi 0),.f (fi 0),.f .aK] 0)->K[4]?=aa (.box (x.row.map .f) 0)->
    (∀y,y=(if e=0 then x else h)->nS y/\y.clock<=h.clock+29/\ky h y k i t c L m)->WP tab qy ab [.code HN] ⟨u,[],K⟩ Q:=by
   intro u K e x Y M Z g8 k0 k3 k4 v;have g_:∀(u:T) (y:bR) (j:Option aH),u.g 6=.c (.ptr 3 0 0)->(nS y/\y.clock<=h.clock+29/\ky h y k i t c L m)->Q j ⟨u,[],K.set 3 (.box (y.row.map .f) 0)⟩:=by
    intro u y j M v;have d:(K.set 3 (.box (y.row.map .f) 0))[3]?=aa (.box (y.row.map .f) 0):=afC (au k3);refine hQ _ _ _ ⟨y,v.1,v.2.1,v.2.2,rfl⟩ ⟨rfl,V.a (y.row.map .f),?_,by simp[fC,bX,aZ,deep]⟩;simp[Km.results,cu,aZ,M,(lh _ 3 y d).1,-aq]
   apply ak;apply ai;simp[g8];by_cases S:e=0
   .have:=v x (by rw[bu S]);refine bc (by simp[S]) ?_;apply ai;have k_:x.row.length=3:=rfl;simp[M,Z,(lh K 4 x k4).1,k_,sh K 3 _ x k3 rfl,-aq,-aU];exact az (g_ _ x _ (by simp[M]) this)
   .have:=v h (by rw[bG S]);refine al (by simp[S]) ?_;apply ai;simp[Y,M,(lh K 0 h k0).1,e_,sh K 3 _ h k3 rfl,-aq,-aU];exact az (g_ _ h _ (by simp[M]) this)
  have I:nS h/\h.clock<=h.clock+29:=⟨H,by omega⟩
  have c_:∀(st:Int) (g:Tg) (A:bR),(st=2/\k % 6=0\/st=3/\k % 6=1)->(bV h (1+i % 8)=0->A = { eU h (1+i % 8) st with lg:=g })->∀y,y=(if bV h (1+i % 8)=0 then A else h)->nS y/\y.clock<=h.clock+29/\ky h y k i t c L m:=by
   intro st g A f8 s y v;have hN:ky h (if bV h (1+i % 8)=0 then { eU h (1+i % 8) st with lg:=g }else h) k i t c L m:=by
    rcases f8 with⟨rfl,e⟩|⟨rfl,e⟩
    .exact .inl ⟨e,g,rfl⟩
    .exact .inr (.inl ⟨e,g,rfl⟩)
   by_cases S:bV h (1+i % 8)=0
   .rw[bu S]at v hN;subst v;rw[s S];exact⟨He H (by rcases f8 with⟨e,-⟩|⟨e,-⟩;exact .inl e;exact .inr e) g,by show h.clock<=_;omega,hN⟩
   .rw[bG S]at v hN;rw[v];exact⟨I.1,I.2,hN⟩
  have start:∀u:T,u.g 3=.c (.ptr 0 0 0)->u.g 4=.c (.ptr 1 0 0)->u.g 5=.c (.ptr 2 0 0)->u.g 6=.c (.ptr 3 0 0)->u.g 7=.c (.ptr 4 0 0)->WP tab qy ab [.code LM] ⟨u,[],l⟩ Q:=by
   intro u Y g4 g5 M Z;obtain⟨p1,p2,p3,p4⟩:=o0 l z2;obtain⟨h3,b9⟩:=lh l 0 h z0;have m_:eg deep l (.f .aK)=aa .aK:=rfl;refine ak (ai ?_);simp[g5,p1,e6,-aq];refine aI (ai ?_);simp;by_cases c0:k % 6=0
   .refine al (by simp[c0]) ?_;obtain⟨g,A,s,O⟩:=J9 h (by omega) e9 (1+i % 8);have z:A.row.length=3:=rfl;refine av (.inl rfl) ?_;simp[Y,g5,Z,p2,h3,e8,bg (n:=i % 8),bg (n:=1+i % 8),O,z,sh l 4 _ A z4 rfl,-aq,-aU];refine aA (J _ _ (bV h (1+i % 8)) A (by simp[Y]) (by simp[M]) (by simp[Z]) (by simp) ?_ ?_ (afC (au z4)) (c_ 2 g A (.inl ⟨rfl,c0⟩) s))
    .rw[ae2 (by decide)];exact z0
    .rw[ae2 (by decide)];exact z3
   refine aG (by simp[c0]) ?_;apply ai;simp;by_cases c1:k % 6=1
   .refine al (by simp[c1]) ?_;obtain⟨g,A,s,O⟩:=Kr h (by omega) e9 (1+i % 8);have z:A.row.length=3:=rfl;refine av (.inl rfl) ?_;simp[Y,g5,Z,p2,h3,e8,bg (n:=i % 8),bg (n:=1+i % 8),O,z,sh l 4 _ A z4 rfl,-aq,-aU];refine aA (J _ _ (bV h (1+i % 8)) A (by simp[Y]) (by simp[M]) (by simp[Z]) (by simp) ?_ ?_ (afC (au z4)) (c_ 3 g A (.inr ⟨rfl,c1⟩) s))
    .rw[ae2 (by decide)];exact z0
    .rw[ae2 (by decide)];exact z3
   refine aG (by simp[c1]) ?_;apply ai;simp;by_cases c2:k % 6=2
   .refine al (by simp[c2]) ?_;obtain⟨g,A,s,O⟩:=Yh h (by omega) e9 (h.clock+t % 30);have z:A.row.length=3:=rfl;have i7:eb h (h.clock+t % 30)=0:=by
     unfold eb;rw[bG];rintro(B|B|B)
     .rw[H.v]at B;cases B
     .omega
     .omega
    have s:=s i7;rw[i7]at O;refine av (.inl rfl) ?_;simp[Y,g5,Z,p3,h3,b9,j4,bg (n:=t % 30),bg (n:=h.clock+t % 30),O,z,sh l 4 _ A z4 rfl,-aq,-aU];refine aA (J _ _ 0 A (by simp[Y]) (by simp[M]) (by simp[Z]) (by simp) ?_ ?_ (afC (au z4)) λy v=>?_)
    .rw[ae2 (by decide)];exact z0
    .rw[ae2 (by decide)];exact z3
    .rw[bu rfl]at v;rw[v,s];refine⟨Hc H (by omega) (by omega) g,by show h.clock+t % 30<=_;omega,.inr (.inr (.inl ⟨c2,g,rfl⟩))⟩
   refine aG (by simp[c2]) ?_;have c3:3<=k % 6:=by omega
   obtain⟨x,hx⟩:=aD (yW i t h.clock c);rw[<-hx]at f7;obtain⟨j5,l_,m4⟩:=mR d_;have i8:iL x.aW:=by rw[hx];exact j5
   obtain⟨res,W,cc,hG,O⟩:=GX h H X g0 l0 hp x i8 L m h8 hz (λ_ g=>by rw[hx];exact h_ g);have hN:ky h (if cc=0 then res else h) k i t c L m:=.inr (.inr (.inr ⟨c3,res,W,cc,by rw[<-hx];exact hG,rfl⟩));rw[<-i5,<-i6]at O;have z:res.row.length=3:=rfl;have b_:W.length=8:=by
    rcases hG with⟨-,-,e,-⟩|⟨-,-,-,e,-⟩|⟨-,-,-,e,-⟩
    .rw[e];rfl
    .rw[e];rfl
    .rw[e];exact h8
   have q0:aQ l (aa 2) (.c (.ptr 1 0 0))=aa (.a [.f rm,.f sd]):=by simp[aQ,aw,z1,aO]
   have n0:l.length=5:=by rw[E];rfl
   obtain⟨K1,a8⟩:=aD (l++[bB.box [.f (fi 0),.f (fi 0),.f .aK] 0,bB.box [.f (fi 0),.f (fi 0),.f (fi 0),.f (fi 0),.f (fi 0),.f (fi 0),.f (fi 0),.f (fi 0)] 0]);have k1:∀i:Nat,i<5->K1[i]?=l[i]?:=λi hi=>by rw[a8,afy (by omega)]
   have d5:K1[l.length]?=aa (.box [.f (fi 0),.f (fi 0),.f .aK] 0):=by rw[a8];simp
   have d6:K1[l.length+1]?=aa (.box [.f (fi 0),.f (fi 0),.f (fi 0),.f (fi 0),.f (fi 0),.f (fi 0),.f (fi 0),.f (fi 0)] 0):=by rw[a8,afI (by omega)];simp
   have s1:=sh K1 l.length _ res d5 rfl;obtain⟨K2,a9⟩:=aD (K1.set l.length (.box (res.row.map .f) 0));rw[<-a9]at s1;have i_:K2[l.length+1]?=_:=(by rw[a9,ae2 (by omega)]:K2[l.length+1]?=K1[l.length+1]?).trans d6;have i9:K2[l.length]?=aa (.box (res.row.map .f) 0):=by rw[a9];exact afC (au d5)
   obtain⟨K3,d9⟩:=aD (K2.set (l.length+1) (.box (W.map λn=>.f (fi n)) 0));have s2:cz K2 (.ptr (l.length+1) 0 0) (W.map λn=>.f (fi n))=aa K3:=by
    rw[d9]
    match W,b_ with
    |[p0,p1,p2,p3,p4,p5,p6,p7],_=>simp[cz,i_,bp]
   have f_:K3[l.length]?=aa (.box (res.row.map .f) 0):=by rw[d9,ae2 (by omega)];exact i9
   have k3:∀i:Nat,i<5->K3[i]?=l[i]?:=λi hi=>by rw[d9,ae2 (by omega),a9,ae2 (by omega),k1 i hi]
   rw[a8]at s1;apply ai;simp[Y,g4,g5,p4,h3,b9,q0,f7,O,z,eR,b_,s1,s2,-aq,-aU];have w4:=(k3 4 (by omega)).trans z4;have w3:=(k3 3 (by omega)).trans z3;have w0:=(k3 0 (by omega)).trans z0;have l5:=(lh K3 l.length res f_).1;apply ai;simp[Z,l5,z,sh K3 4 _ res w4 rfl,-aq,-aU];refine av (.inl rfl) ?_;simp;refine aA (J _ _ cc res (by simp[Y]) (by simp[M]) (by simp[Z]) (by simp) ?_ ?_ (afC (au w4)) λy v=>?_)
   .rw[ae2 (by decide)];exact w0
   .rw[ae2 (by decide)];exact w3
   by_cases S:cc=0
   case neg=>rw[bG S]at v hN;rw[v];exact⟨I.1,I.2,hN⟩
   rw[bu S]at v hN;subst v;rcases hG with⟨e1,-,-,e2⟩|⟨-,e1,-,-,e2⟩|⟨e1,e2,-,-,g,⟨-,e3⟩|⟨e3,j,hj,j9,j6,e4⟩⟩
   .omega
   .omega
   .refine⟨?_,by rw[e3];show h.clock<=_;omega,hN⟩;rw[e3];exact⟨H.v,H.c0,H.c1,H.d,H.f⟩
   .have j7:1<=x.id/\x.id<=8:=by rw[hx];show 1<=1+i % 8/\1+i % 8<=8;omega
    have f8:x.state=1:=by rw[hx];rfl
    have m9:x.dl=h.clock+t % 50-2:=by rw[hx];rfl
    have j_:OG h.clock x:=by
     unfold bM at e1;split at e1
     .omega
     .split at e1
      .omega
      .split at e1
       .omega
       .rename_i hn;unfold OG;omega
    refine⟨?_,by rw[e4];show h.clock<=_;omega,hN⟩;rw[e4];exact N6 H j_ (by omega) ⟨.inl j7,i8⟩ j9 j6 g
  apply ai;simp[e_,i4];apply ai;obtain⟨KK,a_⟩:=aD ([.box (h.row.map .f) 0,.box [.f rm,.f sd] 0,.box (F.map .f) 0,.box [.f (fi 0),.f (fi 0),.f .aK] 0]:aj);have w0:KK[0]?=aa (.box (h.row.map .f) 0):=by rw[a_];rfl
  have nK:KK.length=4:=by rw[a_];rfl
  have eK:KK++[bB.box (h.row.map .f) 0]=l:=by rw[a_,E];rfl
  rw[<-a_];simp[(lh KK 0 h w0).1,e_,nK,-aq];rw[eK];exact start _ (by simp) (by simp) (by simp) (by simp) (by simp)
 exact⟨B,h1,h2,h3,O.eq⟩
theorem QJ(af u:Int)(a0:0<=af)(a1:af<=39)(l:List aB)(hl:l.length<=1000)(hs:l.Pairwise fP)(hf:∀s∈l,iL s)(x:aB)(U:iL x) :
  ∃rf:List Int,rf.length=8/\(rf[0]?=aa 0->rf=e7)/\((gm af u l x&&!gH l x)=ae->Z1 af u l x rf)/\((gm af u l x&&!gH l x)=ag->rf=e7)/\
   ∀g,aX tab kh [.c (.f (eI af u)),.c (.f (sl g (an l))),.a (x.row.map .f)]=Eq (.t [qY rf,vi (if gm af u l x&&!gH l x then 0 else 1)]):=by
 have hm:∀s∈l,s.st.Sm:=λs h=>Ep (hf s h);cases e_:(gm af u l x&&!gH l x)with
 |false=>exact⟨e7,rfl,λ_=>rfl,λh=>absurd h (by simp),λ_=>rfl,λg=>by simpa using M9 af u g l hl hs hm x (Ep U) e_⟩
 |true=>
  obtain⟨G,hG⟩:=Classical.skolem.1 (show ∀s:aB,∃g:Tg × Tg,iL s->aX tab sP [.c (.f (eI af u)),.a (s.row.map .f)]=Eq (.t [.a ((gq af s g.1 g.2).row.map .f),vb ae]) from λs=>by
   by_cases h:iL s
   .obtain⟨g1,g2,M⟩:=Cp af u a0 a1 s (rB h) (JP h a0 a1);exact⟨(g1,g2),λ_=>M⟩
   .exact⟨(.nil,.nil),λM=>absurd M h⟩)
  obtain⟨B,Q⟩:∃B:aB->aN,∀s,B s=gq af s (G s).1 (G s).2:=⟨_,λ_=>rfl⟩
  have I:∀s,iL s->pT (B s):=λs h=>by rw[Q];exact wu h a0 a1 _ _
  have i_:∀s t,mM (B s) (B t)↔mM (gq af s .nil .nil) (gq af t .nil .nil):=λs t=>by rw[Q,Q];exact Iff.rfl
  have d9:∀s y,fR (B s) y↔fR (gq af s .nil .nil) y:=λs y=>by rw[Q];exact Iff.rfl
  obtain⟨mt,e9⟩:=Classical.skolem.1 (show ∀s:aB,∃r:Bool,iL s->(r=ae↔mM (B x) (B s))/\aX tab iz [.a ((B x).row.map .f),.a ((B s).row.map .f)]=Eq (.t [vb r,vi 0]) from λs=>by
   by_cases h:iL s
   .obtain⟨r,M⟩:=NG (B x) (B s) (I x U) (I s h);exact⟨r,λ_=>M⟩
   .exact⟨ag,λM=>absurd M h⟩)
  obtain⟨F,hF⟩:=Classical.skolem.1 (show ∀s:aB,∃q:FS,iL s->fA (-2251799813685248) (λX Y=>fR (B x) X/\fR (B s) Y) q/\aX tab mz [.a ((B x).row.map .f),.a ((B s).row.map .f),vi (-2251799813685248)]=Eq (.t [.a (q.X.row.map .f),.a (q.Y.row.map .f),vb q.found]) from λs=>by
   by_cases h:iL s
   .obtain⟨w,E,M⟩:=I_ (B x) (B s) (I x U) (I s h) (-2251799813685248) (by omega) (by omega);exact⟨w,λ_=>⟨E,M⟩⟩
   .exact⟨⟨0,ag,⟨0,0,0⟩,⟨0,0,0⟩⟩,λM=>absurd M h⟩)
  obtain⟨nx,px,j9,f_⟩:=rC U;obtain⟨T,hT⟩:=aD (bJ x.room x.dg l);have H:pZ T:=by rw[hT];exact vL hf _ _
  have k_:T.length<=1000:=by
   rw[hT];unfold bJ;rw[List.length_map];exact af1 (List.length_filter_le _ _) hl
  have S:∀s∈T++[x.st],∃n p mi,kj s n p mi:=λs h=>by
   rcases afY.1 h with h|h
   .exact H s h
   .rw[afO.1 h];exact⟨nx,px,j9,f_⟩
  obtain⟨hd,a9⟩:=EB .fs (T++[x.st]) (by simp;omega) S;obtain⟨d,a_⟩:=aD (m6 1 (T++[x.st]));have m4:∀s∈x.st::T,∀n p mi,kj s n p mi->n ∣ (d:Int):=λs h n p mi E=>by
   have:=(Cf (L:=T++[x.st]) (d:=1) λs h=>by
    obtain⟨n,p,mi,E⟩:=S s h;have:=E.sm.1;rw[E.zq];omega).2 s (by
     rcases afZ.1 h with rfl|h
     .simp
     .simp[h])
   rw[E.zq,<-a_]at this;exact this
  rw[<-a_]at hd a9;have j_:=mj hd;have l_:1<=d:=by
   simp only[mC,afZ,agS,or_false]at hd;omega
  have f8:∀n,-1<=n->n<=100->(ir x.st n).length<=10/\∃g,aX tab my [.a (x.st.row.map .f),vi n]=Eq (.c (.f (sl g (aC (ir x.st n))))):=λn E h2=>by
   have:=rS x.st n;exact⟨by omega,yF x.st f_ n E h2⟩
  have j7:∀q,-1<=q->q<=100->∀s∈T,∃v,aX tab my [.a (s.row.map .f),vi q]=Eq (.c (.f v))/\aX tab DH [.c (.f v)]=Eq (vi (xJ s q)):=λq E h2 s h=>by
   obtain⟨n,p,mi,hs⟩:=H s h;obtain⟨g,hb⟩:=yF s hs q E h2;refine⟨_,hb,?_⟩;have:=rS s q;have d_:=EV g (ir s q) (by omega) λy hy=>by
    obtain⟨j,hj,hq,-,rfl⟩:=A0 hy;have m0:=hs.m0;have m1:=hs.m1;have l0:=hs.l0;have l1:=hs.l1;rw[hs.min];simp only[cm];omega
   rw[C9]at d_;exact d_
  have c_:∀g n,-1<=n->n<=100->aX tab DE [.c (.f (eC (eI af u) (sl g (an l)) x)),vi n]=Eq (vi (ek T n)):=λg n E h2=>by
   have:=Sy af u g l hl x n (λs=>xJ s n) (by rw[<-hT];exact j7 n E h2);rw[<-hT,KB T n H (by omega) (by omega) (by omega),Int.zero_add]at this;exact this
  have a8:∀(sd:FC) (K:aj),∃J,Ev tab (.fn vh) [.c (.f (eC (eI af u) sd x))] K (.t [.a ((if 10<x.size then [14,0,0,0,0,0,0,0]else [0,0,0,0,0,0,0,0]:List Int).map λn=>.f (fi n)),vi 0]) (K++J):=λsd K=>by
   obtain⟨rf,-,j6,h⟩:=BK af u sd x (rB U).r0 (rB U).r1;rw[<-j6];exact h K
  have b9:=rB U;have W:∃hr:List Int,hr.length=8/\(∃n p mi,kj x.st n p mi/\(∃k:Nat,k<60/\mi=20*k)/\hr=nD n p mi x.st.len)/\∀(sd:FC) (K:aj),∃K',Ev tab (.fn Ae) [.c (.f (eC (eI af u) sd x))] K (.t [qY hr,vi 0]) K'/\Kp K K':=by
   obtain⟨m,r,t,z,n,p,mi,le,rfl,b⟩:=U;obtain⟨k,hk,i9⟩:=b.i0;have f7:kj (jv m r t z n p mi le).st n p mi:=wy ⟨b.n0,b.n1,b.p0,b.p1⟩ (by omega) (by omega) (by have:=b.l0;omega) (by have:=b.l1;omega);refine⟨nD n p mi le,by unfold nD;split<;>rfl,⟨n,p,mi,f7,⟨k,hk,i9⟩,rfl⟩,λsd K=>?_⟩
   .have:=NZ af u sd (m:=m) (r:=r) (t:=t) (z:=z) ⟨b.n0,b.n1,b.p0,b.p1⟩ hk le (by have:=b.l0;omega) (by have:=b.l1;omega) b.r0 b.r1 K;have e:((20*k:Nat):Int)=mi:=by omega
    rw[e]at this;exact this
  obtain⟨j5,i6,⟨n1,p1,j8,j4,i8,g_⟩,i7⟩:=W;obtain⟨h_,N⟩:=aD (fh af x mt (λs=>(F s).X) (λs=>(F s).Y) (λs=>(F s).found) (l.filter λs=>Fs af u s.room x.room));obtain⟨qL,b_⟩:=aD (uw (if(lZ x.dg (bI af u x.room).q).2 then tz (lZ x.dg (bI af u x.room).q).1 (15+7*(d:Int)) (ir x.st) (ek T) 200 (-1)else ab));obtain⟨i4,O⟩:=aD (if 10<x.size then [14,0,0,0,0,0,0,0]else [0,0,0,0,0,0,0,0]:List Int);rw[<-O]at a8;obtain⟨rs,Z⟩:∃rs:List (List Int),rs=[i4,j5,h_,qL]:=⟨_,rfl⟩
  have h8:∀r∈rs,r.length=8:=by
   intro r hr;rw[Z]at hr;simp only[afZ,agS,or_false]at hr;rcases hr with rfl|rfl|rfl|rfl
   .rw[O];split<;>rfl
   .exact i6
   .rw[N];exact lN ..
   .rw[b_];exact CC _
  refine⟨mQ rs,rk h8,λh0=>?_,λ_=>?_,λh=>absurd h (by simp),λg=>?_⟩
  .have i5:=rk h8;rcases FY rs with⟨-,E⟩|⟨E,-⟩
   .exact E
   .generalize mQ rs=A at *;exact absurd (by match A,i5,h0 with|p0::_,_,h0=>simpa using h0) E
  .refine⟨mt,F,n1,p1,j8,j4,i8,λs h=>⟨(e9 s (hf s h)).1.trans (i_ x s),(hF s (hf s h)).1.iff λX Y _=>by rw[d9,d9]⟩,?_⟩;rw[Z,O,g_,N,b_,a_,hT]
  .have:=M' af u g l hl hs hm x (Ep U) e_ rs (by rw[Z];rfl) h8 λi hi K=>by
    subst Z
    match i,hi with
    |0,_=>
     obtain⟨J,h⟩:=a8 (sl g (an l)) K;exact⟨_,h,Kp.push _ _⟩
    |1,_=>exact i7 (sl g (an l)) K
    |2,_=>
     have:=Nq af u g l hl x b9 (λs h=>rB (hf s h)) B (λs h=>by
      rw[Q];rcases h with rfl|h
      .exact hG _ U
      .exact hG _ (hf s h)) mt (λs h=>(e9 s (hf s h)).2) (λs=>(F s).X) (λs=>(F s).Y) (λs=>(F s).found) (λs h=>(hF s (hf s h)).2) K
     rw[<-N]at this;exact this
    |3,_=>
     have:=OZ af u g l hl x b9.r0 b9.r1 (Ra U) d hd (by rw[<-hT];exact a9) (ir x.st) (ek T) f8 (c_ g) K;rw[<-b_]at this;exact this
   simpa using this
theorem aaA(af j:Int)(m:0<=af)(a1:af<=39)(H:0<=j)(I:j<=10080)(b:List aB)(u:b.length<=1000)(y:b.Pairwise fP)(q:∀s∈b,iL s)(x:aB)(z:iL x) :
  ∃(l:List Int) (d:Int),l.length=8/\(l[0]?=aa 0->l=e7)/\
   (∀g,aX tab kh [.c (.f (eI af j)),.c (.f (sl g (an b))),.a (x.row.map .f)]=Eq (.t [.a (eR l),vi d]))/\
   ∀g,aX tab uY [.c (.f (eI af j)),.c (.f (sl g (an b))),.a (x.row.map .f)]=Eq (.t [.a (eR l),vi d]):=by
 obtain⟨l,F,K,A,B,E⟩:=QJ af j m a1 b u y q x z;have v:gm af j b x=ae:=by
  unfold gm;rw[Xy af j m a1 H I u y q,G8 z];rfl
 rw[v,Bool.true_and]at A B E;refine⟨l,_,F,K,E,λg=>?_⟩;rw[JY af j m a1 H I g b u y q x z l F (λh=>A (by rw[h];rfl)) (λh=>B (by rw[h];rfl))];cases J:gH b x<;>rfl
theorem tR{h:bR}{g:Tg}{x:bC}{L:List Int}{b:Int}{res l:bR}{B d:List Int}{c H:Int}(M:iA h x L b res B c)(N:iA { h with lg:=g } x L b l d H) :
  d=B/\H=c/\∃g',l = { res with lg:=g' }:=by
 have K:bM { h with lg:=g } x=bM h x:=rfl;rcases M with⟨a1,s,u,v⟩|⟨a1,s,u,v,m⟩|⟨a1,s,u,v,Y,m⟩<;>rcases N with⟨b1,y,z,A⟩|⟨b1,y,z,A,q⟩|⟨b1,y,z,A,I,q⟩<;>rw[K]at b1
 .exact⟨by rw[z,u],by rw[A,K,v],.nil,by rw[s,y];rfl⟩
 .exact absurd b1 a1
 .exact absurd b1 a1
 .exact absurd a1 b1
 .exact⟨by rw[A,v],by rw[q,m],.nil,by rw[u,z];rfl⟩
 .exact absurd y s
 .exact absurd a1 b1
 .exact absurd s y
 .refine⟨by rw[A,v],by rw[z,u],?_⟩;rcases m with⟨m,E⟩|⟨m,i,O,Q,S,E⟩<;>rcases q with⟨q,F⟩|⟨q,j,U,W,X,F⟩
  .exact⟨I,by rw[E,F]⟩
  .exact absurd q m
  .exact absurd m q
  .have:i=j:=by
    rcases Nat.lt_trichotomy i j with e|e|e
    .have hi:i<h.l.length:=af9 e U;have:=W i hi e;have:=S i hi (afJ _);simp only at *;omega
    .exact e
    .have J:j<h.l.length:=af9 e O;have:=Q j J e;have:=X j J (afJ _);simp only at *;omega
   subst this;exact⟨I,by rw[E,F]⟩
theorem wk{h y A:bR}{g:Tg}{k i t:Int}{c z:List Int}{j:Int}(H:ky h y k i t c z j)(I:ky { h with lg:=g } A k i t c z j):∃g',A = { y with lg:=g' }:=by
 have u:bV { h with lg:=g } (1+i % 8)=bV h (1+i % 8):=rfl;rcases H with⟨a1,s,d⟩|⟨a1,s,d⟩|⟨a1,s,d⟩|⟨a1,res,J,cc,d,q⟩<;>rcases I with⟨b1,m,b⟩|⟨b1,m,b⟩|⟨b1,m,b⟩|⟨b1,x,v,B,b,l⟩<;>try omega
 .rw[u]at b;by_cases e:bV h (1+i % 8)=0
  .rw[bu e]at d b;exact⟨m,by rw[d,b];rfl⟩
  .rw[bG e]at d b;exact⟨g,by rw[d,b]⟩
 .rw[u]at b;by_cases e:bV h (1+i % 8)=0
  .rw[bu e]at d b;exact⟨m,by rw[d,b];rfl⟩
  .rw[bG e]at d b;exact⟨g,by rw[d,b]⟩
 .exact⟨m,by rw[d,b]⟩
 .obtain⟨-,E,g',F⟩:=tR d b;rw[E]at l;by_cases e:cc=0
  .rw[bu e]at q l;exact⟨g',by rw[q,l,F]⟩
  .rw[bG e]at q l;exact⟨g,by rw[q,l]⟩
theorem EA{h:bR}(b:nS h)(g:Tg):nS { h with lg:=g }:=⟨b.v,b.c0,b.c1,b.d,b.f⟩
theorem QS(af j:Int)(M:0<=af)(a1:af<=39)(a:0<=j)(e:j<=10080)(g0:Tg)(l0:List aB)(q:nw l0)(h:bR)(v:nS h)(z:h.clock<=99000)(o:List Int)(X:gK 11 o) :
  ∃m,nS m/\m.clock<=h.clock+29/\∀g:Tg,(∃u:Tg,aX tab vk [.a (({ h with lg:=g }:bR).row.map .f),.a [.f (eI af j),.f (sl g0 (an l0))],.a ((ot o).map .f)]=Eq (.a (({ m with lg:=u }:bR).row.map .f)))/\
   ∃N:Tg,aX tab qy [.a (({ h with lg:=g }:bR).row.map .f),.a [.f (eI af j),.f (sl g0 (an l0))],.a ((ot o).map .f)]=Eq (.a (({ m with lg:=N }:bR).row.map .f)):=by
 obtain⟨k,i,t,c,rfl,d,l,hi,E⟩:=Oi X;obtain⟨A,-,-⟩:=mR d;have U:=F0 (l0:=l0) h;have W:=v.len;have Y:=q.len;obtain⟨H,b,x,F,L,S⟩:=aaA af j M a1 a e (pU l0 h) (by omega) (PF (pB q.ap h)) (λs B=>by
  rcases F1 B with B|⟨y,Z,rfl⟩
  .exact(q.f s B).1
  .exact(v.f y Z).2) (iD c) A
 obtain⟨m,O,Q,K,-⟩:=Tx h v z (eI af j) g0 l0 q k i t c d l hi E H b x F L;refine⟨m,O,Q,λg=>⟨?_,?_⟩⟩
 .obtain⟨y,-,-,I,J⟩:=Tx { h with lg:=g } (EA v g) z (eI af j) g0 l0 q k i t c d l hi E H b x F L;obtain⟨u,rfl⟩:=wk K I;exact⟨u,J⟩
 .obtain⟨y,-,-,I,J⟩:=Yg { h with lg:=g } (EA v g) z (eI af j) g0 l0 q k i t c d l hi E H b x F S;obtain⟨u,rfl⟩:=wk K I;exact⟨u,J⟩
theorem PO(af d:Int)(B:0<=af)(a1:af<=39)(J:0<=d)(K:d<=10080)(g0:Tg)(l0:List aB)(H:nw l0)(O:List (List Int))(y:∀o∈O,gK 11 o) :
  ∃S:Nat->bR,S 0=Jn/\∀j,j<=12->j<=O.length->nS (S j)/\(S j).clock<=100+29*(j:Int)/\∀(l:j<O.length),j<12->∀g:Tg,(∃q:Tg,aX tab vk [.a (({ S j with lg:=g }:bR).row.map .f),.a [.f (eI af d),.f (sl g0 (an l0))],.a ((ot O[j]).map .f)]=Eq (.a (({ S (j+1)with lg:=q }:bR).row.map .f)))/\
   ∃s:Tg,aX tab qy [.a (({ S j with lg:=g }:bR).row.map .f),.a [.f (eI af d),.f (sl g0 (an l0))],.a ((ot O[j]).map .f)]=Eq (.a (({ S (j+1)with lg:=s }:bR).row.map .f)):=by
 obtain⟨F,x⟩:=Classical.skolem.1 (show ∀z:bR × List Int,∃b:bR,nS z.1/\z.1.clock<=99000/\gK 11 z.2->nS b/\b.clock<=z.1.clock+29/\∀g:Tg,(∃q:Tg,aX tab vk [.a (({ z.1 with lg:=g }:bR).row.map .f),.a [.f (eI af d),.f (sl g0 (an l0))],.a ((ot z.2).map .f)]=Eq (.a (({ b with lg:=q }:bR).row.map .f)))/\
   ∃s:Tg,aX tab qy [.a (({ z.1 with lg:=g }:bR).row.map .f),.a [.f (eI af d),.f (sl g0 (an l0))],.a ((ot z.2).map .f)]=Eq (.a (({ b with lg:=s }:bR).row.map .f)) from λz=>by
  by_cases h:nS z.1/\z.1.clock<=99000/\gK 11 z.2
  .obtain⟨b,k⟩:=QS af d B a1 J K g0 l0 H z.1 h.1 h.2.1 z.2 h.2.2;exact⟨b,λ_=>k⟩
  .exact⟨Jn,λb=>absurd b h⟩)
 refine⟨λj=>(O.take j).foldl (λh o=>F (h,o)) Jn,rfl,λj=>?_⟩;have succ:∀j (l:j<O.length),(O.take (j+1)).foldl (λh o=>F (h,o)) Jn=F ((O.take j).foldl (λh o=>F (h,o)) Jn,O[j]):=λj l=>by
  rw[List.take_succ_eq_append_getElem l,List.foldl_append];rfl
 have key:∀j,j<=12->j<=O.length->nS ((O.take j).foldl (λh o=>F (h,o)) Jn)/\((O.take j).foldl (λh o=>F (h,o)) Jn).clock<=100+29*(j:Int):=by
  intro j;induction j with
  |zero=>exact λ_ _=>⟨Xc,by simp[Jn]⟩
  |succ j I=>
   intro u v;obtain⟨m,A⟩:=I (by omega) (by omega);have:=x ((O.take j).foldl (λh o=>F (h,o)) Jn,O[j]) ⟨m,by simp only;omega,y _ (afH _)⟩;rw[succ j (by omega)];refine⟨this.1,?_⟩;have E:=this.2.1;simp only at E;omega
 intro u v;obtain⟨m,A⟩:=key j u v;refine⟨m,A,λl _ g=>?_⟩;have:=(x ((O.take j).foldl (λh o=>F (h,o)) Jn,O[j]) ⟨m,by simp only;omega,y _ (afH _)⟩).2.2 g;simp only[succ j l];exact this
theorem nV{x:List FC}(h:∃m,x=[FC.int .u8 m]/\Lit.wf (.int .u8 m)):∃m:Int,x=[FC.int .u8 m]/\(0<=m/\m<=255):=by
 obtain⟨m,rfl,b⟩:=h;simp[Lit.wf,IntKind.min,IntKind.max,IntKind.signed,IntKind.bits]at b;exact⟨m,rfl,by omega⟩
theorem abB{x:List FC}(h:∃m,x=[FC.int .u16 m]/\Lit.wf (.int .u16 m)):∃m:Int,x=[FC.int .u16 m]/\(0<=m/\m<=65535):=by
 obtain⟨m,rfl,b⟩:=h;simp[Lit.wf,IntKind.min,IntKind.max,IntKind.signed,IntKind.bits]at b;exact⟨m,rfl,by omega⟩
theorem Of{n:Nat}(h:n<=maxLen):n<=9223372036854775807:=af1 h (by decide)
theorem BQ{n:Nat}{ys:List FC}(h:sy Tryz.prog (n+2) 28 ys):∃c:List Int,ys=ot c/\gK 8 c:=by
 obtain⟨_,S,rfl,u,H⟩:=dM (qT (ts:=[5,5,5,5,5,5,5,5]) Tryz.underlying28 rfl h);obtain⟨b1,rfl,e⟩:=nV (gv Tryz.underlying5 u);obtain⟨_,U,rfl,v,I⟩:=dM H;obtain⟨d,rfl,f⟩:=nV (gv Tryz.underlying5 v);obtain⟨_,W,rfl,y,J⟩:=dM I;obtain⟨g,rfl,i⟩:=nV (gv Tryz.underlying5 y);obtain⟨_,X,rfl,z,K⟩:=dM J;obtain⟨j,rfl,k⟩:=nV (gv Tryz.underlying5 z);obtain⟨_,Y,rfl,A,L⟩:=dM K;obtain⟨l,rfl,o⟩:=nV (gv Tryz.underlying5 A);obtain⟨_,Z,rfl,B,M⟩:=dM L;obtain⟨m,rfl,p⟩:=nV (gv Tryz.underlying5 B);obtain⟨_,a,rfl,E,N⟩:=dM M;obtain⟨q,rfl,r⟩:=nV (gv Tryz.underlying5 E);obtain⟨_,Q,rfl,F,O⟩:=dM N;obtain⟨s,rfl,t⟩:=nV (gv Tryz.underlying5 F);obtain rfl:Q=[]:=O;refine⟨[b1,d,g,j,l,m,q,s],rfl,rfl,λx b=>?_⟩;simp at b;rcases b with rfl|rfl|rfl|rfl|rfl|rfl|rfl|rfl<;>assumption
theorem OI{n:Nat}{ys:List FC}(h:sy Tryz.prog (n+3) 30 ys):∃c:List Int,ys=ot c/\gK 11 c:=by
 obtain⟨_,H,rfl,l,u⟩:=dM (qT (ts:=[5,5,5,28]) Tryz.underlying30 rfl h);obtain⟨b1,rfl,B⟩:=nV (gv Tryz.underlying5 l);obtain⟨_,I,rfl,m,v⟩:=dM u;obtain⟨g,rfl,E⟩:=nV (gv Tryz.underlying5 m);obtain⟨_,J,rfl,q,y⟩:=dM v;obtain⟨j,rfl,F⟩:=nV (gv Tryz.underlying5 q);obtain⟨_,A,rfl,s,z⟩:=dM y;obtain⟨c,rfl,d⟩:=BQ s;obtain rfl:A=[]:=z;refine⟨b1::g::j::c,by simp[ot],by simp[d.1],λx b=>?_⟩;simp at b;rcases b with rfl|rfl|rfl|b
 .exact B
 .exact E
 .exact F
 .exact d.2 x b
theorem GU{n:Nat}{ys:List FC}(h:sy Tryz.prog (n+5) 26 ys):∃p:jJ,ys=p.row/\qB p:=by
 obtain⟨_,J,rfl,l,z⟩:=dM (qT (ts:=[5,22,23,24]) Tryz.underlying26 rfl h);obtain⟨a,rfl,g⟩:=nV (gv Tryz.underlying5 l);obtain⟨_,K,rfl,m,A⟩:=dM z;obtain⟨q,rfl,j⟩:=abB (gv Tryz.underlying22 m);obtain⟨_,M,rfl,s,B⟩:=dM A;obtain⟨lg,rows,rfl,_,y,d⟩:=zA Tryz.underlying23 s;obtain⟨L,rfl,v⟩:=A8 (enc:=ot) (p:=gK 8) λr b=>BQ (d r b);obtain⟨_,I,rfl,u,E⟩:=dM B;obtain⟨F,rows,rfl,_,H,d⟩:=zA Tryz.underlying24 u;obtain⟨O,rfl,x⟩:=A8 (enc:=ot) (p:=gK 11) λr b=>OI (d r b);obtain rfl:I=[]:=E;exact⟨⟨a,q,lg,L,F,O⟩,rfl,g.1,g.2,j.1,j.2,v,x,Of (by simpa using y),Of (by simpa using H)⟩
theorem OU{a:V}(h:uT Tryz.prog 26 a):∃p:jJ,a=.a (p.row.map .f)/\qB p:=by
 rcases h with⟨xs,rfl,b,_⟩|⟨x,rfl,b⟩
 .obtain⟨x,rfl,d⟩:=GU (n:=35) b;exact⟨x,rfl,d⟩
 .exfalso;obtain⟨x,e,_⟩:=GU (n:=35) b;simp[jJ.row]at e
theorem XW{a:V}(h:uT Tryz.prog 30 a):∃o:List Int,a=.a ((ot o).map .f)/\gK 11 o:=by
 rcases h with⟨xs,rfl,b,_⟩|⟨x,rfl,b⟩
 .obtain⟨x,rfl,d⟩:=OI (n:=37) b;exact⟨x,rfl,d⟩
 .exfalso;obtain⟨x,e,d⟩:=OI (n:=37) b;have:=congrArg List.length e;simp[ot,d.1]at this
theorem eq8(K:aj)(b a1 d g j l m q:Int):Dk K (.st [.int,.int,.int,.int,.int,.int,.int,.int]) (.a [.f (fi b),.f (fi a1),.f (fi d),.f (fi g),.f (fi j),.f (fi l),.f (fi m),.f (fi q)]) (.a [.f (fi b),.f (fi a1),.f (fi d),.f (fi g),.f (fi j),.f (fi l),.f (fi m),.f (fi q)])=aa ae:=by simp[Gh]
theorem oM(K:aj)(b:Nat)(x:bR)(d:K[b]?=aa (.box (x.row.map .f) 0)):aQ K (aa 3) (.c (.ptr b 0 0))=aa (.a (x.row.map .f)):=by simp[aQ,aw,d,aO,bR.row]
theorem Gv(K:aj)(b:Nat)(cs:List C)(x:bR)(d:K[b]?=aa (.box cs 0))(g:cs.length=3):cz K (.ptr b 0 0) (x.row.map .f)=aa (K.set b (.box (x.row.map .f) 0)):=by
 match cs,g with
 |[p,q,r],_=>simp[cz,d,bp,bR.row]
theorem BG(p:jJ)(hp:qB p)(gp:Tg)(Y:aX tab yA [.a (p.row.map .f)]=Eq (.a [.f (eI (p.af % 40) (p.qu % 3000)),.f (sl gp (an p.l0))])) :
  ∃h:bR,nS h/\h.clock<=1000/\(∃b:Tg,aX tab MR [.a (p.row.map .f)]=Eq (.a (({ h with lg:=b }:bR).row.map .f)))/\
   ∃v:Tg,aX tab DB [.a [.f (eI (p.af % 40) (p.qu % 3000)),.f (sl gp (an p.l0))],.c (.f (sl p.og (xy p.O)))]=Eq (.a (({ h with lg:=v }:bR).row.map .f)):=by
 have d9:=hp.Ol;have b9:=Cy p hp;have a0:0<=p.af % 40:=agL _ (by omega);have a1:p.af % 40<=39:=by have:=agM p.af (show 0<40 by omega);omega
 have q0:0<=p.qu % 3000:=agL _ (by omega);have q1:p.qu % 3000<=10080:=by have:=agM p.qu (show 0<3000 by omega);omega
 obtain⟨S,a9,hS⟩:=PO _ _ a0 a1 q0 q1 gp p.l0 b9 p.O hp.O;obtain⟨rm,b_⟩:=aD (eI (p.af % 40) (p.qu % 3000));obtain⟨sd,c_⟩:=aD (sl gp (an p.l0));rw[<-b_,<-c_]at hS Y ⊢;obtain⟨n,hn⟩:=aD (min p.O.length 12);have M:=hS n (by omega) (by omega);have m:∀J:aj,bo J (.f (sl p.og (xy p.O)))=aa p.O.length:=λJ=>by simp
 have y:∀(H:aj) (j:Nat),j<p.O.length->bw H 11 ab (.c (.f (sl p.og (xy p.O)))) (vi j)=aa (.c (.f (.fp (xy p.O).flatten (j*11)))):=λH j Z=>by
  have:=a7 (H:=H) (g:=p.og) (rows:=xy p.O) (sz:=11) (k:=.i64) (i:=(j:Int)) (by omega) (by simp;omega);simpa only[afU]using this
 have a_:=λ(H:aj) (j:Nat) (Z:j<p.O.length)=>bE (H:=H) (Dc hp.O) (PY Z);have a8:({ Jn with lg:=.nil }:bR).row.map C.f=[.f (fi 100),.f (fi 5),.f .aK]:=rfl;have L:∀h:bR,h.row.length=3:=λ_=>rfl;refine⟨S n,M.1,by have:=M.2.1;omega,?_,?_⟩
 .obtain⟨r,⟨b,rfl⟩,I⟩:∃r,(∃b:Tg,r=.a (({ S n with lg:=b }:bR).row.map .f))/\aX tab MR [.a (p.row.map .f)] r:=by
   refine cN rfl rfl λQ hQ=>?_;have N:p.row.length=4:=rfl;obtain⟨row,F⟩:=aD (p.row);obtain⟨os,E⟩:=aD (sl p.og (xy p.O));have lp:∀K:aj,K[0]?=aa (.box (row.map .f) 0)->aQ K (aa 4) (.c (.ptr 0 0 0))=aa (.a (row.map .f))/\aQ K ab (.c (.ptr 0 3 0))=aa (.c (.f os)):=λK hK=>by
    rw[F]at hK ⊢;rw[E];refine⟨?_,?_⟩<;>simp[aQ,aw,hK,aO,jJ.row]
   rw[<-E]at m y;rw[<-F]at Y ⊢;rw[<-F]at N;apply ai;simp[N];apply ai;simp;obtain⟨O,q⟩:=aD ([.box (row.map .f) 0,.box [.f (fi 0),.f (fi 0),.f .aK] 0,.box [.f (fi 100),.f (fi 5),.f .aK] 0]:aj);have z0:O[0]?=aa (.box (row.map .f) 0):=by rw[q];rfl
   have z1:O[1]?=aa (.box [.f (fi 0),.f (fi 0),.f .aK] 0):=by rw[q];rfl
   have z2:O[2]?=aa (.box (({ S 0 with lg:=.nil }:bR).row.map .f) 0):=by rw[a9,a8,q];rfl
   rw[<-q];apply ak;apply ai;simp;refine bA n (λj t J=>t.g 1=.c (.ptr 0 0 0)/\t.g 2=.c (.ptr 1 0 0)/\t.g 3=.c (.ptr 2 0 0)/\J[0]?=aa (.box (row.map .f) 0)/\J[1]?=aa (.box [.f (fi 0),.f (fi 0),.f .aK] 0)/\∃g:Tg,J[2]?=aa (.box (({ S j with lg:=g }:bR).row.map .f) 0)) (by omega) rfl (by simp)
    ⟨by simp,by simp,by simp,z0,z1,.nil,z2⟩ ?_ ?_ ?_
   .rintro j t J K Z ⟨b,v,U,k0,x,g,l⟩ s hL;by_cases h1:j<p.O.length
    .simp[s,b,(lp J k0).2,m,h1,-aq];exact hL _ ⟨by simp[b],by simp[v],by simp[U],k0,x,g,l⟩ (by simp[s]) (by simp;omega)
    .simp[s,b,(lp J k0).2,m,h1,-aq];exact hL _ ⟨by simp[b],by simp[v],by simp[U],k0,x,g,l⟩ (by simp[s]) (by simp;omega)
   .rintro j t J Z ⟨b,v,U,k0,x,g,l⟩ s next
    have u:j<p.O.length:=by omega
    obtain⟨⟨g',I⟩,-⟩:=(hS j (by omega) (by omega)).2.2 u (by omega) g;obtain⟨A,z⟩:=aD ({ S j with lg:=g }:bR);obtain⟨B,hB⟩:=aD ({ S (j+1)with lg:=g' }:bR);rw[<-z,<-hB]at I;rw[<-z]at l;have hu:(ot p.O[j]).length=11:=by simp[ot,(hp.O _ (afH u)).1]
    refine aI ?_;refine av (.inl rfl) ?_;simp[b,U,s,(lp J k0).1,(lp J k0).2,oM J 2 A l,Y,y J j u,a_ J j u,I,L,Gv J 2 _ B l rfl,-aq,-aU];refine aA (next _ _ ⟨by simp[b],by simp[v],by simp[U],?_,?_,g',?_⟩ (by simp[s]))
    .rw[ae2 (by decide)];exact k0
    .rw[ae2 (by decide)];exact x
    .rw[<-hB];exact afC (au l)
   .rintro t J ⟨b,v,U,k0,x,g,l⟩ s;obtain⟨A,z⟩:=aD ({ S n with lg:=g }:bR);rw[<-z]at l;have d:(J.set 1 (.box (A.row.map .f) 0))[1]?=aa (.box (A.row.map .f) 0):=afC (au x);apply ai;simp[v,U,oM J 2 A l,L,Gv J 1 _ A x rfl,-aq,-aU];refine az (hQ _ _ (.a (A.row.map .f)) ⟨g,by rw[z]⟩ ⟨rfl,V.a (A.row.map .f),?_,by simp[fC,bX,aZ,deep]⟩);simp[Km.results,cu,aZ,v,oM _ 1 A d,-aq]
  exact⟨b,I.eq⟩
 .obtain⟨r,⟨b,rfl⟩,I⟩:∃r,(∃b:Tg,r=.a (({ S n with lg:=b }:bR).row.map .f))/\aX tab DB [.a [.f rm,.f sd],.c (.f (sl p.og (xy p.O)))] r:=by
   refine cN rfl rfl λQ hQ=>?_;obtain⟨os,E⟩:=aD (sl p.og (xy p.O));rw[<-E]at m y;rw[<-E];have lp:∀K:aj,K[0]?=aa (.box [.f rm,.f sd] 0)->aQ K (aa 2) (.c (.ptr 0 0 0))=aa (.a [.f rm,.f sd]):=λK hK=>by simp[aQ,aw,hK,aO]
   apply ai;simp;apply ai;simp;obtain⟨O,q⟩:=aD ([.box [.f rm,.f sd] 0,.box [.f (fi 0),.f (fi 0),.f .aK] 0,.box [.f (fi 100),.f (fi 5),.f .aK] 0]:aj);have z0:O[0]?=aa (.box [.f rm,.f sd] 0):=by rw[q];rfl
   have z1:O[1]?=aa (.box [.f (fi 0),.f (fi 0),.f .aK] 0):=by rw[q];rfl
   have z2:O[2]?=aa (.box (({ S 0 with lg:=.nil }:bR).row.map .f) 0):=by rw[a9,a8,q];rfl
   rw[<-q];apply ak;apply ai;simp;refine bA n (λj t J=>t.g 1=.c (.f os)/\t.g 2=.c (.ptr 0 0 0)/\t.g 4=.c (.ptr 1 0 0)/\t.g 5=.c (.ptr 2 0 0)/\J[0]?=aa (.box [.f rm,.f sd] 0)/\J[1]?=aa (.box [.f (fi 0),.f (fi 0),.f .aK] 0)/\∃g:Tg,J[2]?=aa (.box (({ S j with lg:=g }:bR).row.map .f) 0)) (by omega) rfl (by simp)
    ⟨by simp,by simp,by simp,by simp,z0,z1,.nil,z2⟩ ?_ ?_ ?_
   .rintro j t J K Z ⟨b,v,W,X,k0,x,g,l⟩ s hL;by_cases h1:j<p.O.length
    .simp[s,b,m,h1,-aq];exact hL _ ⟨by simp[b],by simp[v],by simp[W],by simp[X],k0,x,g,l⟩ (by simp[s]) (by simp;omega)
    .simp[s,b,m,h1,-aq];exact hL _ ⟨by simp[b],by simp[v],by simp[W],by simp[X],k0,x,g,l⟩ (by simp[s]) (by simp;omega)
   .rintro j t J Z ⟨b,v,W,X,k0,x,g,l⟩ s next
    have u:j<p.O.length:=by omega
    obtain⟨-,g',I⟩:=(hS j (by omega) (by omega)).2.2 u (by omega) g;obtain⟨A,z⟩:=aD ({ S j with lg:=g }:bR);obtain⟨B,hB⟩:=aD ({ S (j+1)with lg:=g' }:bR);rw[<-z,<-hB]at I;rw[<-z]at l;refine aI ?_;refine av (.inl rfl) ?_;simp[b,v,X,s,lp J k0,oM J 2 A l,y J j u,a_ J j u,I,L,Gv J 2 _ B l rfl,-aq,-aU];refine aA (next _ _ ⟨by simp[b],by simp[v],by simp[W],by simp[X],?_,?_,g',?_⟩ (by simp[s]))
    .rw[ae2 (by decide)];exact k0
    .rw[ae2 (by decide)];exact x
    .rw[<-hB];exact afC (au l)
   .rintro t J ⟨b,v,W,X,k0,x,g,l⟩ s;obtain⟨A,z⟩:=aD ({ S n with lg:=g }:bR);rw[<-z]at l;have d:(J.set 1 (.box (A.row.map .f) 0))[1]?=aa (.box (A.row.map .f) 0):=afC (au x);apply ai;simp[W,X,oM J 2 A l,L,Gv J 1 _ A x rfl,-aq,-aU];refine az (hQ _ _ (.a (A.row.map .f)) ⟨g,by rw[z]⟩ ⟨rfl,V.a (A.row.map .f),?_,by simp[fC,bX,aZ,deep]⟩);simp[Km.results,cu,aZ,W,oM _ 1 A d,-aq]
  exact⟨b,I.eq⟩
theorem AI{h:bR}(j:nS h){x:bC}(q:iL x.aW){u:List Int}{d:Int}{res:bR}{l:List Int}{c:Int}(m:iA h x u d res l c):res.l.length<=10/\∀s∈res.l,iL s.aW:=by
 have v:=j.len;rcases m with⟨-,e,-,-⟩|⟨-,-,e,-,-⟩|⟨-,-,-,-,g,⟨-,e⟩|⟨-,i,hi,-,-,e⟩⟩
 .rw[e];exact⟨by decide,λs b=>by cases b⟩
 .rw[e];exact⟨by decide,λs b=>by cases b⟩
 .rw[e];exact⟨by show h.l.length<=10;omega,λs b=>(j.f s b).2⟩
 .rw[e];refine⟨?_,λs b=>?_⟩
  .show(h.l.take i++x::h.l.drop i).length<=10;simp;omega
  .rcases afY.1 b with b|b
   .exact(j.f s (agD b)).2
   .rcases afZ.1 b with rfl|b
    .exact q
    .exact(j.f s (List.mem_of_mem_drop b)).2
theorem Jl(p:jJ)(hp:qB p)(o:List Int)(ho:gK 11 o):aX tab MQ [.a (p.row.map .f),.a ((ot o).map .f)]=Eq (vb ae):=aX.eq (by
 refine bH rfl rfl λQ hQ=>?_;have a0:0<=p.af % 40:=agL _ (by omega);have a1:p.af % 40<=39:=by have:=agM p.af (show 0<40 by omega);omega
 have q0:0<=p.qu % 3000:=agL _ (by omega);have q1:p.qu % 3000<=10080:=by have:=agM p.qu (show 0<3000 by omega);omega
 have v:=Cy p hp;obtain⟨gp,q⟩:=OT p hp;obtain⟨h0,i5,hc,⟨g1,hP⟩,g2,hM⟩:=BG p hp gp q;obtain⟨h,hh⟩:=aD ({ h0 with lg:=g1 }:bR);have hk:nS h:=by rw[hh];exact EA i5 _
 have z:aX tab vd [.a (h.row.map .f),.a (({ h0 with lg:=g2 }:bR).row.map .f)]=Eq (vb ae):=wT h _ (by have:=hk.len;omega) (λs hs=>(hk.f s hs).2) (by rw[hh]) (by rw[hh]) (by rw[hh]);have j_:h.clock<=1000:=by rw[hh];exact hc
 rw[<-hh]at hP;obtain⟨m,hm⟩:=aD ({ h0 with lg:=g2 }:bR);rw[<-hm]at hM z;clear hh hm;have b_:=ad7;have k_:=hk.len;have j9:=hk.c0;have j6:=v.len;have j8:=F0 (l0:=p.l0) h;obtain⟨k,i,t,c,i6,c_,-,hi,ht⟩:=Oi ho;have Z:=wN k i t h.clock c c_ hi ht (by omega) (by omega);rw[<-i6]at Z;obtain⟨x,f7⟩:=aD (yW i t h.clock c);rw[<-f7]at Z;obtain⟨h_,-,-⟩:=mR c_;have a8:iL x.aW:=by rw[f7];exact h_
 obtain⟨rf,a9,h8,hz,hA,hR⟩:=aaA _ _ a0 a1 q0 q1 (pU p.l0 h) (by omega) (PF (pB v.ap h)) (λs hs=>by
  rcases F1 hs with hs|⟨y,hy,rfl⟩
  .exact(v.f s hs).1
  .exact(hk.f y hy).2) x.aW a8
 obtain⟨res,l_,cc,hG,X⟩:=NR h hk _ gp p.l0 v x a8 rf a9 h8 hz λ_ g=>hA g;obtain⟨d,A,j7,g_,j⟩:=GX h hk _ gp p.l0 v x a8 rf a9 h8 hz λ_ g=>hR g;obtain⟨e1,e2,g',e3⟩:=tR (g:=h.lg) hG g_;subst e1 e2;have i_:=AI hk a8 hG;have Y:aX tab vd [.a (res.row.map .f),.a (d.row.map .f)]=Eq (vb ae):=wT res d (by omega) i_.2 (by rw[e3]) (by rw[e3]) (by rw[e3]);clear e3;have e_:A.length=8:=by
  rcases hG with⟨-,-,e,-⟩|⟨-,-,-,e,-⟩|⟨-,-,-,e,-⟩
  .rw[e];rfl
  .rw[e];rfl
  .rw[e];exact h8
 obtain⟨b1,E,F,H,I,J,L,M,i8⟩:∃b1 E F H I J L M,A=[b1,E,F,H,I,J,L,M]:=by
  match A,e_ with
  |[b1,E,F,H,I,J,L,M],_=>exact⟨_,_,_,_,_,_,_,_,rfl⟩
 rw[i8]at X j;simp only[eR,List.map_cons,List.map_nil]at X j;have b9:∀h:bR,h.row.length=3:=λ_=>rfl;have j5:x.row.length=10:=rfl;have e9:p.row.length=4:=rfl;have d9:(ot o).length=11:=by simp[ot,ho.1]
 obtain⟨row,a_⟩:=aD (p.row);obtain⟨rm,i9⟩:=aD (eI (p.af % 40) (p.qu % 3000));obtain⟨sd,j4⟩:=aD (sl gp (an p.l0));obtain⟨os,d_⟩:=aD (sl p.og (xy p.O));have lp:∀K:aj,K[0]?=aa (.box (row.map .f) 0)->aQ K (aa 4) (.c (.ptr 0 0 0))=aa (.a (row.map .f))/\aQ K ab (.c (.ptr 0 3 0))=aa (.c (.f os)):=λK hK=>by
  rw[a_]at hK ⊢;rw[d_];refine⟨?_,?_⟩<;>simp[aQ,aw,hK,aO,jJ.row]
 rw[<-a_]at hP q e9 ⊢;rw[<-i9,<-j4]at q hM X j;rw[<-d_]at hM;obtain⟨l,i7⟩:=aD (ot o);rw[<-i7]at Z d9 ⊢;have lo:∀K:aj,K[1]?=aa (.box (l.map .f) 0)->aQ K (aa 11) (.c (.ptr 1 0 0))=aa (.a (l.map .f)):=λK hK=>by simp[aQ,aw,hK,aO,d9,afM]
 have f_:∀K:aj,K[3]?=aa (.box (x.row.map .f) 0)->aQ K (aa 10) (.c (.ptr 3 0 0))=aa (.a (x.row.map .f)):=λK hK=>by simp[aQ,aw,hK,aO,bC.row]
 have lc:∀(K:aj) (b:Nat) (y:bR),K[b]?=aa (.box (y.row.map .f) 0)->aQ K ab (.c (.ptr b 0 0))=aa (vi y.clock):=λK b y hK=>by simp[aQ,aw,hK,bR.row]
 apply ai;simp;obtain⟨K0,O⟩:=aD ([.box (row.map .f) 0,.box (l.map .f) 0]:aj);have z0:K0[0]?=aa (.box (row.map .f) 0):=by rw[O];rfl
 have z1:K0[1]?=aa (.box (l.map .f) 0):=by rw[O];rfl
 have n0:K0.length=2:=by rw[O];rfl
 rw[<-O];apply ai;simp[b_];obtain⟨B,S⟩:=aD (K0++[.box (h.row.map .f) 0]:aj);have k1:Kp K0 B:=by rw[S];exact Kp.push _ _
 have z2:B[2]?=aa (.box (h.row.map .f) 0):=by rw[S,<-n0];simp
 have n1:B.length=3:=by rw[S];simp[n0]
 apply ai;simp[(lp K0 z0).1,hP,b9,n0,-aq];rw[<-S];apply ak;apply ai;simp[(lp B (k1.get z0)).1,(lp B (k1.get z0)).2,oM B 2 h z2,q,hM,z,-aq];refine bc (by simp) ?_;obtain⟨K2,U⟩:=aD (B++[.box (x.row.map .f) 0]:aj);have k2:Kp B K2:=by rw[U];exact Kp.push _ _
 have z3:K2[3]?=aa (.box (x.row.map .f) 0):=by rw[U,<-n1];simp
 have n2:K2.length=4:=by rw[U];simp[n1]
 have f8:=k1.tr k2;apply ai;simp[lo B (k1.get z1),lc B 2 h z2,Z,j5,n1,-aq];rw[<-U];obtain⟨N,u⟩:=aD (K2++[.box (res.row.map .f) 0,.box [.f (fi b1),.f (fi E),.f (fi F),.f (fi H),.f (fi I),.f (fi J),.f (fi L),.f (fi M)] 0]:aj);have k3:Kp K2 N:=by rw[u];exact Kp.push _ _
 have z4:N[4]?=aa (.box (res.row.map .f) 0):=by rw[u,<-n2];simp
 have z5:N[5]?=aa (.box [.f (fi b1),.f (fi E),.f (fi F),.f (fi H),.f (fi I),.f (fi J),.f (fi L),.f (fi M)] 0):=by rw[u,afI (by omega),n2];rfl
 have n3:N.length=6:=by rw[u];simp[n2]
 have fv:ko 0 ab (.a [.f rm,.f sd])=aa (.c (.f rm))/\ko 1 ab (.a [.f rm,.f sd])=aa (.c (.f sd)):=⟨rfl,rfl⟩
 apply ai;simp[fv.1,fv.2,(lp K2 (f8.get z0)).1,oM K2 2 h (k2.get z2),f_ K2 z3,q,X,b9,n2,-aq];rw[<-u];obtain⟨K4,W⟩:=aD (N++[.box (d.row.map .f) 0,.box [.f (fi b1),.f (fi E),.f (fi F),.f (fi H),.f (fi I),.f (fi J),.f (fi L),.f (fi M)] 0]:aj);have k4:Kp N K4:=by rw[W];exact Kp.push _ _
 have z6:K4[6]?=aa (.box (d.row.map .f) 0):=by rw[W,<-n3];simp
 have z7:K4[7]?=aa (.box [.f (fi b1),.f (fi E),.f (fi F),.f (fi H),.f (fi I),.f (fi J),.f (fi L),.f (fi M)] 0):=by rw[W,afI (by omega),n3];rfl
 apply ai;simp[(lp N (k3.get (f8.get z0))).1,oM N 2 h (k3.get (k2.get z2)),f_ N (k3.get z3),q,j,b9,n3,-aq];rw[<-W];have l8:∀b:Nat,K4[b]?=aa (.box [.f (fi b1),.f (fi E),.f (fi F),.f (fi H),.f (fi I),.f (fi J),.f (fi L),.f (fi M)] 0)->aQ K4 (aa 8) (.c (.ptr b 0 0))=aa (.a [.f (fi b1),.f (fi E),.f (fi F),.f (fi H),.f (fi I),.f (fi J),.f (fi L),.f (fi M)]):=λb hb=>by simp[aQ,aw,hb,aO]
 have i4:=eq8 K4 b1 E F H I J L M;apply ai;simp[oM K4 4 res (k4.get z4),oM K4 6 d z6,Y,l8 5 (k4.get z5),l8 7 z7,i4,-aq,-W2];refine az (hQ _ _ ?_);simp)
theorem B'(b:List V)(h:uz Tryz.prog [26,30] b):aX tab MQ b (vb ae):=by
 obtain⟨l,_,rfl,h0,a1,_,rfl,d,rfl⟩:=h;obtain⟨p,rfl,j⟩:=OU h0;obtain⟨o,rfl,g⟩:=XW d;rw[Jl p j o g]
end Go.Proofs.YtnaofdffomdmhaaGreat
