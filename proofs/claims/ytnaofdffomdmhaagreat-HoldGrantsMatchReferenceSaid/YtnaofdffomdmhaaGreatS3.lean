/-
  QI ug nh lF and ug mu answer, for all arguments of G_ kind, in ug small machine: part 3.
-/
import Derived.Test.YtnaofdffomdmhaaGreatS2
import Derived.Test.YtnaofdffomdmhaaGreatK4
import Derived.KernelRfl
import Derived.Test.YtnaofdffomdmhaaGreatS1
open Option renaming some->aa,none->ab
open Bool renaming true->ae,false->ag
open Go.IntKind renaming wrap->ah
open List renaming take_of_length_le->afM, length_append->afK, getElem?_append_left->afy, getElem?_append_right->afI, map_cons->afS, map_nil->afW, mem_singleton->afO, mem_append->afY, append_nil->agp, getElem?_set_ne->ae2, getElem?_set_self->afC, length_map->afT, length_filter_le->agJ, getElem_mem->afH, drop_eq_getElem_cons->afL, drop_length->agF, getElem?_eq_getElem->afB, mem_map->af6, pairwise_iff_getElem->ags, getElem_of_mem->agd, mem_cons->afZ, not_mem_nil->agS, any_eq_true->agw, mem_of_mem_take->agD, mem_cons_self->afN, mem_cons_of_mem->afQ, drop_of_length_le->agZ, map_drop->ahq, length_take->af2, length_cons->agm, take_length->agc, getElem?_map->agl, mem_filter->agB, mem_range->agz, pairwise_cons->agt, cons_append->agu, take_add_one->agC, append_assoc->agk, take_succ_eq_append_getElem->agh, map_append->agA, pairwise_append->agy
open Nat renaming le_trans->af1, lt_or_ge->agq, le_refl->afJ, lt_of_lt_of_le->af9
open Int renaming toNat_natCast->afU
open Bool renaming eq_iff_iff->agH, true_and->agi, and_eq_true->afE, false_or->ahr, false_eq_true->afR
open Prod.mk renaming inj->afP
set_option linter.unusedVariables false
set_option linter.constructorNameAsVariable false
set_option linter.unusedSimpArgs false
set_option linter.unusedSectionVars false
set_option linter.unnecessarySimpa false
set_option maxRecDepth 100000
set_option maxHeartbeats 2000000
namespace Go.Proofs.YtnaofdffomdmhaaGreat
open Go Km
theorem Nq(af F:Int)(g:Tg)(Y:List aB)(hl:Y.length<=1000)(x:aB)(hx:Is x)(a8:∀s∈Y,Is s)(X:aB->aN)
  (ho:∀s,s=x\/s∈Y->aX tab sP [.c (.f (eI af F)),.a (s.row.map .f)]=Eq (.t [.a ((X s).row.map .f),vb ae]))
  (mt:aB->Bool) (hm:∀s∈Y,aX tab iz [.a ((X x).row.map .f),.a ((X s).row.map .f)]=Eq (.t [vb (mt s),vi 0]))
  (fx fy:aB->aE) (fd:aB->Bool) (hf:∀s∈Y,aX tab mz [.a ((X x).row.map .f),.a ((X s).row.map .f),vi (-2251799813685248)]=Eq (.t [.a ((fx s).row.map .f),.a ((fy s).row.map .f),vb (fd s)])) (H:aj) :
  ∃H',Ev tab (.fn fT) [.c (.f (eC (eI af F) (sl g (an Y)) x))] H (.t [qY (fh af x mt fx fy fd (Y.filter λs=>Fs af F s.room x.room)),vi 0]) H'/\Kp H H':=by
 obtain⟨sd,e9⟩:=aD (sl g (an Y));have e_:=Fu (eI af F) sd x.room;obtain⟨M,v⟩:=aD ([eI af F,sd]++x.row);obtain⟨N,m⟩:=aD (H.length);have l0:∀K:aj,aQ K ab (.c (.f (.fp M 0)))=aa (.c (.f (eI af F))):=λK=>by rw[v];rfl
 have l1:∀K:aj,aQ K ab (.c (.f (.fp M 1)))=aa (.c (.f sd)):=λK=>by rw[v];rfl
 have l3:∀K:aj,aQ K ab (.c (.f (.fp M 3)))=aa (vi x.room):=λK=>by rw[v];rfl
 have l7:∀K:aj,aQ K (aa 7) (.c (.f (.fp M 2)))=aa (.a (x.row.map .f)):=λK=>by rw[v];rfl
 have b_:=ho x (.inl rfl);have b9:(X x).row.length=3:=rfl;obtain⟨res,A⟩:=aD (fh af x mt fx fy fd (Y.filter λs=>Fs af F s.room x.room));have d_:res.length=8:=by rw[A];exact lN ..
 simp only[eC];rw[<-e9,<-v,<-A];obtain⟨r,H',he,rfl,hK⟩:∃r H',Ev tab (.fn fT) [.c (.f (.fp M 0))] H r H'/\(r=.t [qY res,vi 0]/\Kp H H'):=by
  refine W3 (S:=λr H'=>r=.t [qY res,vi 0]/\Kp H H') Wg rfl λQ hQ=>?_;have a9:∀(t:T) (K:aj) (j:Option aH),Z3 N t->Kp H K->gB [N+5] K->K[N+1]?=aa (.box (res.map λn=>.f (fi n)) 0)->K[N+2]?=aa (.box [.f (fi 0)] 0)->Q j ⟨t,[N+5].map .iM,K⟩:=by
   intro t K j E hk hc I L;have d1:=(jY (hc.not I (by simp))).trans I;have d2:=(jY (hc.not L (by simp))).trans L;refine hQ _ _ (.t [qY res,vi 0]) ⟨[N+5],rfl,hc,?_,rfl,?_⟩
   .have h_:(res.map λn=>C.f (fi n)).length=8:=by simpa using d_
    simp[Km.results,cu,aZ,E.g2,E.g3,aQ,aw,d1,d2,aO,d_,afM,qY]
   .refine⟨by rw[Cr];exact hk.1,λb hb=>?_⟩;rw[jY (by simp;omega)];exact hk.2 b hb
  apply ai;simp;obtain⟨Z,q⟩:=aD (H++[bB.box [.f (.fp M 0)] 0,.box (([0,0,0,0,0,0,0,0]:List Int).map λn=>.f (fi n)) 0,.box [.f (fi 0)] 0]:aj);have n0:Z.length=N+3:=by rw[q,afK,m];rfl
  have k0:∀i:Nat,i<H.length->Z[i]?=H[i]?:=λi hi=>by rw[q,afy hi]
  have c0:Z[N]?=aa (.box [.f (.fp M 0)] 0):=by rw[q,m];simp
  have c1:Z[N+1]?=aa (.box (([0,0,0,0,0,0,0,0]:List Int).map λn=>.f (fi n)) 0):=by rw[q,m,afI (by omega)];simp
  have c2:Z[N+2]?=aa (.box [.f (fi 0)] 0):=by rw[q,m,afI (by omega)];simp
  simp only[afS,afW]at q;rw[<-q,<-m];have a0:aQ Z ab (.c (.ptr N 0 0))=aa (.c (.f (.fp M 0))):=by simp[aQ,aw,c0]
  obtain⟨z,B⟩:=aD (Z++[bB.box ((X x).row.map .f) 0,.box [.f (.bool ae)] 0]:aj);have n1:z.length=N+5:=by rw[B,afK,n0];rfl
  have k1:∀i:Nat,i<Z.length->z[i]?=Z[i]?:=λi hi=>by rw[B,afy hi]
  have c3:z[N+3]?=aa (.box ((X x).row.map .f) 0):=by rw[B,afI (by omega),n0];simp
  have c4:z[N+4]?=aa (.box [.f (.bool ae)] 0):=by rw[B,afI (by omega),n0];simp
  obtain⟨ox,c_⟩:=aD (X x);rw[<-c_]at b_ b9 B c3 hm hf;apply ai;simp[a0,l0,l7,b_,b9,-aq];rw[n0,<-B];have a1:aQ z ab (.c (.ptr N 0 0))=aa (.c (.f (.fp M 0))):=by simp[aQ,aw,k1 N (by omega),c0]
  refine ak (ai ?_);simp[a1,l0,l1,l3,e_,-aq];refine aI ?_
  suffices go:∀u:T,Z3 N u->u.g 40=.c (.f (.fn sQ [.fp [sd] 0,.fp [eI af F] 0,.fp [fi x.room] 0]))->WP tab fT ab [.code LV,.inBlock 0,.code Ia] ⟨u,[],z⟩ Q by
   exact go _ ⟨by simp,by simp,by simp,by simp,by simp⟩ (by simp)
  intro u E f7;obtain⟨LP,W⟩:∃LP:fe->Option aH->bB,LP=λst pd=>.lp fT u [P.nat 41] gL fI st pd (N+5):=⟨_,rfl⟩
  obtain⟨k,U⟩:=aD (z++[.gI ae,LP .ready ab]);have kR:∀i:Nat,i<z.length->k[i]?=z[i]?:=λi hi=>by rw[U,afy hi]
  have q5:k[N+5]?=aa (.gI ae):=by rw[U,afI (by omega),n1];simp
  have q6:k[N+6]?=aa (LP .ready ab):=by rw[U,afI (by omega),n1];simp
  have i4:k.length=N+7:=by rw[U,afK,n1];rfl
  have hq:QF H M ox k:=⟨⟨by omega,λb hb=>by rw[kR b (by omega),k1 b (by omega),k0 b hb]⟩,by rw[<-m,kR _ (by omega),k1 _ (by omega)];exact c0,by rw[<-m,kR _ (by omega),k1 _ (by omega)];exact c1,
   by rw[<-m,kR _ (by omega),k1 _ (by omega)];exact c2,by rw[<-m,kR _ (by omega)];exact c3,by rw[<-m,kR _ (by omega)];exact c4,⟨by simp,λi hi=>by rw[afO.1 hi,<-m];exact q5⟩⟩
  obtain⟨H2,he,o⟩:=CX (b:=N+6) (H:=k) (PP:=λd J=>QF H M ox J/\J[N+6]?=aa (LP .ready ab)/\∀s∈d,s.meet=x.meet\/mt s=ag)
   (RR:=λd s J=>(∀s∈d,s.meet=x.meet\/mt s=ag)/\¬ (s.meet=x.meet\/mt s=ag)/\Kp H J/\J[N+1]?=aa (.box ((KH af s (fx s) (fy s) (fd s)).map λn=>.f (fi n)) 0)/\J[N+2]?=aa (.box [.f (fi 0)] 0)/\gB [N+5] J/\J[N+6]?=aa (LP .done (aa .ret)))
   (eI af F) g Y hl x.room (λs=>Fs af F s.room x.room) (λs hs=>R' af F _ _ (a8 s hs).r0 (a8 s hs).r1 hx.r0 hx.r1) ⟨hq,q6,by simp⟩
   (λd J K ⟨I,L,c⟩=>⟨I.cZ (by simp) λi hi _=>by rw[afy hi],by rw[afy (au L)];exact L,c⟩)
   (λd s J ⟨I,L,c⟩ hs=>by
    have a_:=L;rw[W,m]at a_;rw[m]at E;rw[v]at I;obtain⟨r,J',g_,hr⟩:=BU af F sd x hx s (a8 s hs) ox (X s) (ho s (.inr hs)) (mt s) (hm s hs) (fx s) (fy s) (fd s) (hf s hs) E I a_;refine⟨r,J',by rw[m];exact g_,?_⟩;by_cases d9:r=ae
    .rw[bu d9]at hr ⊢;refine⟨by rw[v];exact hr.2.1,by rw[m,hr.2.2,<-m];exact L,λy hy=>?_⟩;rcases afY.1 hy with h|h
     .exact c y h
     .rw[afO.1 h];exact hr.1
    .rw[bG d9]at hr ⊢;obtain⟨e1,e2,e3,e4,e5,e6⟩:=hr;exact⟨c,e1,e2,by rw[m];exact e3,by rw[m];exact e4,by rw[m];exact e5,by rw[W,m];exact e6⟩)
  rw[<-e9]at he;have f_:Ev tab (.fn sQ) [.c (.yl (z.length+1)),.c (.f (.fp [sd] 0)),.c (.f (.fp [eI af F] 0)),.c (.f (.fp [fi x.room] 0))] (z++[.gI ae,.lp fT u [P.nat 41] gL fI .ready ab z.length]) (.t []) H2:=by
   have e:z++[.gI ae,.lp fT u [P.nat 41] gL fI .ready ab z.length]=k:=by rw[U,W,n1]
   rw[e,n1];exact he
  refine mZ (g:=sQ) (by rw[Iv,f7];simp[cL]) f_ ?_;rw[n1];rcases o with⟨I,L,c⟩|⟨d,s,rest,f8,c,h4,h5,h6,h7,h8,h9⟩
  .rw[W]at L;refine oN L (by decide) (aA ?_);have p:res=[0,0,0,0,0,0,0,0]:=by
    rw[A];have:=qG (af:=af) (x:=x) (mt:=mt) (fx:=fx) (fy:=fy) (fd:=fd) (l:=[]) c;rw[agp]at this;rw[this];rfl
   have z1:=I.h2;have z2:=I.h3;have z3:=I.cl;have z4:=I.k;rw[<-m]at z1 z2 z3;obtain⟨H3,a⟩:=aD (H2.set (N+6) (.lp fT u [P.nat 41] gL fI .exhausted ab (N+5)));have k3:∀i:Nat,i≠N+6->H3[i]?=H2[i]?:=λi hi=>by rw[a,ae2 (Ne.symm hi)]
   have y1:=(k3 (N+1) (by omega)).trans z1;have y2:=(k3 (N+2) (by omega)).trans z2;have y3:gB [N+5] H3:=by rw[a];exact z3.set L (by simp)
   have y4:Kp H H3:=by rw[a];exact z4.nj (by omega) _
   rw[<-a];obtain⟨f,O⟩:=aD (H3.set (N+1) (.box (([0,0,0,0,0,0,0,0]:List Int).map λn=>.f (fi n)) 0));have w1:f[N+1]?=aa (.box (([0,0,0,0,0,0,0,0]:List Int).map λn=>.f (fi n)) 0):=by rw[O];exact afC (au y1)
   have w2:f[N+2]?=aa (.box [.f (fi 0)] 0):=by rw[O,ae2 (by omega)];exact y2
   have w3:gB [N+5] f:=by rw[O];exact y3.set y1 (by simp)
   have w4:Kp H f:=by rw[O];exact y4.nj (by omega) _
   have s1:cz H3 (.ptr (N+1) 0 0) [.f (fi 0),.f (fi 0),.f (fi 0),.f (fi 0),.f (fi 0),.f (fi 0),.f (fi 0),.f (fi 0)]=aa f:=by rw[O];simp[cz,y1,bp]
   have s2:cz f (.ptr (N+2) 0 0) [.f (fi 0)]=aa (f.set (N+2) (.box [.f (fi 0)] 0)):=by simp[cz,w2,bp]
   apply ai;simp[E.g2,E.g3,s1,s2,-aU];refine az (a9 _ _ _ ⟨by simp[E.g1],by simp[E.g2],by simp[E.g3],by simp[E.g4],by simp[E.g5]⟩ (w4.nj (by omega) _) (w3.set w2 (by simp)) ?_ (afC (au w2)));rw[ae2 (by omega),p];exact w1
  .rw[W]at h9;refine rL h9 (by decide) ?_;have w:res=KH af s (fx s) (fy s) (fd s):=by
    rw[A,f8,qG c,fh,bG h4]
   refine az (a9 _ _ _ E (h5.nj (by omega) _) (h8.set h9 (by simp)) ?_ ?_)
   .rw[ae2 (by omega),w];exact h6
   .rw[ae2 (by omega)];exact h7
 exact⟨H',he,hK⟩
def po(b:aN->Int):Int->List aN->Int
 |tot,[]=>tot| tot,s::r=>po b (ah .i64 (tot+b s)) r
theorem Sy(af r:Int)(g:Tg)(z:List aB)(n:z.length<=1000)(x:aB)(q:Int)(N:aN->Int)
  (o:∀s∈bJ x.room x.dg z,∃v,aX tab my [.a (s.row.map .f),vi q]=Eq (.c (.f v))/\aX tab DH [.c (.f v)]=Eq (vi (N s))) :
  aX tab DE [.c (.f (eC (eI af r) (sl g (an z)) x)),vi q]=Eq (vi (po N 0 (bJ x.room x.dg z))):=aX.eq (by
 refine bH rfl rfl λQ Y=>?_;obtain⟨w,Z⟩:=aD (sl g (an z));obtain⟨O,l⟩:=aD ([eI af r,w]++x.row);have l1:∀K:aj,aQ K ab (.c (.f (.fp O 1)))=aa (.c (.f w)):=λK=>by rw[l];rfl
 have i:∀K:aj,aQ K ab (.c (.f (.fp O 3)))=aa (vi x.room):=λK=>by rw[l];rfl
 have l4:∀K:aj,aQ K ab (.c (.f (.fp O 4)))=aa (vi x.dg):=λK=>by rw[l];rfl
 obtain⟨c,H1,H,E,-,-⟩:=G' g z x.room x.dg n [];have X:(bJ x.room x.dg z).length<=1000:=by
  unfold bJ;rw[afT];exact af1 (agJ _ _) n
 obtain⟨L,W⟩:=aD (bJ x.room x.dg z);obtain⟨res,y⟩:=aD (po N 0 L);rw[<-W]at E o Y X;rw[<-y]at Y;simp only[eC];rw[<-Z]at H ⊢;rw[<-l];have u:=E.len;rw[xh]at u;apply ai;simp;apply ai;simp;apply ak;apply ai;simp[l1,i,l4,H.eq,u];refine cD L.length (λj t J=>t.g 1=vi q/\t.g 22=.c c/\LR J c 3 (bO L)/\∃m,t.g 5=vi m/\res=po N m (L.drop j)) (by omega) (by decide) (by decide) (by simp) (by simp) ⟨by simp,by simp,E,0,by simp,by simpa using y⟩ ?_ ?_
 .rintro j t J M ⟨S,A,E,m,U,I⟩ k hb next
  obtain⟨v,f,h⟩:=o L[j] (afH M);obtain⟨b,ep,i1,p⟩:=E.at (fE L) (j:=j) (by simpa using M);have e:(bO L)[j]'(by simpa using M)=L[j].row:=by simp[bO]
  rw[e]at p;rw[afL M,po]at I;generalize L[j]=s at *;have a:s.row.length=3:=rfl;have F:=E.push [bB.box (s.row.map .f) 0];obtain⟨J1,B⟩:=aD (J++[bB.box (s.row.map .f) 0]);have d:J1[J.length]?=aa (.box (s.row.map .f) 0):=by rw[B];simp
  have i:=jC d;rw[<-B]at F;refine aI ?_;apply ai;simp[A,k,i1,p,a,-aq];rw[<-B];refine av (.inl rfl) ?_;simp[S,U,i,f,h,-aq];exact aA (next _ _ ⟨by simp[S],by simp[A],F,_,by simp,I⟩ (by simp[k]) (by simp[hb]))
 .rintro t J ⟨S,A,E,m,U,I⟩ - -;rw[agF,po]at I;apply ai;simp[U];refine az (Y _ _ ?_);simp[I])
def Bm(l:List (Int × C)):List (FC × C):=l.map λe=>(fi e.1,e.2)
def RG(k:Int):List (Int × C)->Option C
 |[]=>ab| e::b=>if k=e.1 then aa e.2 else RG k b
def wH(k:Int)(c:C):List (Int × C)->List (Int × C)
 |[]=>[(k,c)]| e::b=>if k=e.1 then(k,c)::b else e::wH k c b
theorem Gf(a b:Int):YI .int (fi a) (fi b)=aa (decide (a=b)):=by
 simp only[YI,if_true];by_cases h:a=b
 .simp[h]
 .simp[h]
theorem Gp(k:Int):∀l,oR .int (fi k) (Bm l)=aa (RG k l)
 |[]=>rfl
 |e::d=>by
  have b:=Gp k d;simp only[Bm,afS,oR,Gf,RG]at b ⊢;by_cases h:k=e.1
  .rw[bu h,decide_eq_true h]
  .rw[bG h,decide_eq_false h];exact b
theorem OX(k:Int)(c:C):∀l,rO .int (fi k) c (Bm l)=aa (Bm (wH k c l))
 |[]=>rfl
 |e::d=>by
  have b:=OX k c d;simp only[Bm,afS,rO,Gf,wH]at b ⊢;by_cases h:k=e.1
  .rw[bu h,decide_eq_true h];rfl
  .rw[bG h,decide_eq_false h];simp only[b];rfl
theorem AO(k:Int)(c:C):∀l,RG k (wH k c l)=aa c
 |[]=>by simp[wH,RG]
 |e::b=>by
  have d:=AO k c b;unfold wH;by_cases h:k=e.1
  .rw[bu h];simp[RG]
  .rw[bG h];simp[RG,h,d]
theorem GJ{J:aj}{m:Nat}{l:List (Int × C)}(b:J[m]?=aa (.map (Bm l))){k v:Int}(h:RG k l=aa (.f (fi v))):gR J .int (fi 0) (.c (.mp m)) (vi k)=aa (vi v):=by
 unfold gR;simp only[b,isKey,if_true,Gp,Option.map_some,To,tn,h];rfl
def AU(H:aj)(g:CK):V->V->V->Option (V × aj)
 | .c (.mp b),.c (.f k),v=>match rp v,H[b]? with
  |some v,aa (.map d)=>if isKey g k then(rO g k v d).map λd=>(.top,H.set b (.map d))else ab
  |_,_=>ab
 |_,_,_=>ab
theorem Hm(t:T)(H:aj)(b:CK)(m k v:Arg):bF t H (.mq b m k v)=AU H b (m.ev t) (k.ev t) (v.ev t):=by
 simp only[bF];unfold AU;split<;>split<;>simp_all
 all_goals (split<;>simp_all)
theorem OB{J:aj}{m:Nat}{l:List (Int × C)}(b:J[m]?=aa (.map (Bm l)))(k v:Int):AU J .int (.c (.mp m)) (vi k) (vi v)=aa (.top,J.set m (.map (Bm (wH k (.f (fi v)) l)))):=by
 simp[AU,rp,b,isKey,OX]
theorem SB(t:T)(H:aj):bF t H .mr=aa (.c (.mp H.length),H++[.map []]):=rfl
theorem Di(t:T)(H:aj)(b:CK)(z:FC)(m k:Arg):bF t H (.lookup b z m k)=(gR H b z (m.ev t) (k.ev t)).map (·,H):=rfl
def qj(b:Int):Int->List aE->Option aE
 |_,[]=>ab| tot,x::r=>if b<ah .i64 (tot+ah .i64 (x.to-x.fr))then aa x else qj b (ah .i64 (tot+ah .i64 (x.to-x.fr))) r
def tz(b e:Int)(d:Int->List aE)(us:Int->Int):Nat->Int->Option aE
 |0,_=>ab| k+1,n=>if 7*n<e then(match qj b (us n) (d n)with|some x=>aa x|none=>tz b e d us k (n+1))else ab
def uw:Option aE->List Int
 |none=>[0,0,0,0,0,0,0,0]| some x=>[14,0,x.day,x.fr,x.to,0,0,0]
theorem CC(o:Option aE):(uw o).length=8:=by cases o<;>rfl
theorem OZ(af qu:Int)(g:Tg)(ss:List aB)(hl:ss.length<=1000)(x:aB)(h0:0<=x.room)(h1:x.room<=2)(s_:V.beq (.a (x.st.row.map .f)) (.a (x.st.row.map .f))=ae)(d:Nat)(hd:d∈mC)
  (f8:aX tab DF [.c (.f (sl .fs (bO (bJ x.room x.dg ss++[x.st]))))]=Eq (.t [vi (15+7*(d:Int)),vb ae]))
  (F:Int->List aE) (us:Int->Int) (ho:∀n,-1<=n->n<=100->(F n).length<=10/\∃g,aX tab my [.a (x.st.row.map .f),vi n]=Eq (.c (.f (sl g (aC (F n))))))
  (hu:∀n,-1<=n->n<=100->aX tab DE [.c (.f (eC (eI af qu) (sl g (an ss)) x)),vi n]=Eq (vi (us n))) (H:aj) :
  ∃H',Ev tab (.fn qz) [.c (.f (eC (eI af qu) (sl g (an ss)) x))] H (.t [qY (uw (if(lZ x.dg (bI af qu x.room).q).2 then tz (lZ x.dg (bI af qu x.room).q).1 (15+7*(d:Int)) F us 200 (-1)else ab)),vi 0]) H'/\Kp H H':=by
 have B:=Oh af qu (sl g (an ss)) x h0 h1;obtain⟨v,j4⟩:=aD ((lZ x.dg (bI af qu x.room).q).1);obtain⟨q_,m_⟩:=aD ((lZ x.dg (bI af qu x.room).q).2);rw[<-j4,<-m_]at B ⊢;obtain⟨sd,v_⟩:=aD (sl g (an ss));obtain⟨cd,b9⟩:=aD ([eI af qu,sd]++x.row);have l1:∀K:aj,aQ K ab (.c (.f (.fp cd 1)))=aa (.c (.f sd)):=λK=>by rw[b9];rfl
 have l3:∀K:aj,aQ K ab (.c (.f (.fp cd 3)))=aa (vi x.room):=λK=>by rw[b9];rfl
 have l4:∀K:aj,aQ K ab (.c (.f (.fp cd 4)))=aa (vi x.dg):=λK=>by rw[b9];rfl
 have l6:∀K:aj,aQ K (aa 3) (.c (.f (.fp cd 6)))=aa (.a (x.st.row.map .f)):=λK=>by rw[b9];rfl
 obtain⟨res,q⟩:=aD (uw (if q_ then tz v (15+7*(d:Int)) F us 200 (-1)else ab));have j6:=λK=>G' g ss x.room x.dg hl K;simp only[eC]at B hu ⊢;rw[<-v_]at B hu j6 ⊢;rw[<-b9]at B hu ⊢;rw[<-q];have y_:=mj hd;have w9:x.st.row.length=3:=rfl;obtain⟨L,j_⟩:=aD (bJ x.room x.dg ss);have z8:L.length<=1000:=by
  rw[j_];unfold bJ;rw[afT];exact af1 (agJ _ _) hl
 rw[<-j_]at j6 f8;obtain⟨N,hN⟩:=aD (H.length);obtain⟨r,H',he,rfl,Z⟩:∃r H',Ev tab (.fn qz) [.c (.f (.fp cd 0))] H r H'/\(r=.t [qY res,vi 0]/\Kp H H'):=by
  refine dm (C:=λr H'=>r=.t [qY res,vi 0]/\Kp H H') Wh rfl λQ hQ=>?_;have h_:∀(t:T) (K:aj) (j:Option aH),t.g 2=.c (.ptr N 0 0)->t.g 3=vi 0->Kp H K->K[N]?=aa (.box (res.map λn=>.f (fi n)) 0)->Q j ⟨t,[],K⟩:=by
   intro t K j z g3 hk hb;have v9:res.length=8:=by rw[q];exact CC _
   refine hQ _ _ (.t [qY res,vi 0]) rfl ?_ ⟨rfl,hk⟩;simp[Km.results,cu,aZ,z,g3,aQ,aw,hb,aO,v9,afM,qY]
  have zero:∀(t:T) (K:aj) (k:List de),res=[0,0,0,0,0,0,0,0]->t.g 2=.c (.ptr N 0 0)->Kp H K->K[N]?=aa (.box (([0,0,0,0,0,0,0,0]:List Int).map λn=>.f (fi n)) 0)->
    WP tab qz ab (.code (.seq Ic .ret)::k) ⟨t,[],K⟩ Q:=by
   intro t K k hr z hk hb;simp only[afS,afW]at hb;have s1:cz K (.ptr N 0 0) [.f (fi 0),.f (fi 0),.f (fi 0),.f (fi 0),.f (fi 0),.f (fi 0),.f (fi 0),.f (fi 0)]=aa (K.set N (.box [.f (fi 0),.f (fi 0),.f (fi 0),.f (fi 0),.f (fi 0),.f (fi 0),.f (fi 0),.f (fi 0)] 0)):=by simp[cz,hb,bp]
   apply ai;simp[z,s1,-aU];refine az ?_;refine h_ _ _ _ ?_ ?_ (hk.nj (by omega) _) ?_
   .simp[z]
   .simp
   rw[afC (au hb),hr];rfl
  apply ai;simp;obtain⟨K0,a_⟩:=aD (H++[bB.box (([0,0,0,0,0,0,0,0]:List Int).map λn=>.f (fi n)) 0]:aj);have k0:Kp H K0:=by rw[a_];exact Kp.push _ _
  have c0:K0[N]?=aa (.box (([0,0,0,0,0,0,0,0]:List Int).map λn=>.f (fi n)) 0):=by rw[a_,hN];simp
  have n0:K0.length=N+1:=by rw[a_,hN];simp
  simp only[afS,afW]at a_;rw[<-a_,<-hN];apply ai;simp[B];apply ak;apply ai;simp;cases q_ with
  |false=>
   refine al (by simp) ?_;have j7:=c0;simp only[afS,afW]at j7;have s1:cz K0 (.ptr N 0 0) [.f (fi 0),.f (fi 0),.f (fi 0),.f (fi 0),.f (fi 0),.f (fi 0),.f (fi 0),.f (fi 0)]=aa (K0.set N (.box [.f (fi 0),.f (fi 0),.f (fi 0),.f (fi 0),.f (fi 0),.f (fi 0),.f (fi 0),.f (fi 0)] 0)):=by simp[cz,j7,bp]
   apply ai;simp[s1,-aU];refine az ?_;refine h_ _ _ _ ?_ ?_ (k0.nj (by omega) _) ?_
   .simp
   .simp
   .rw[afC (au c0),q];rfl
  |true=>
   simp only[if_true]at q;refine bc (by simp) ?_;obtain⟨c,K1,l_,s9,g_,u_⟩:=j6 K0;have k2:=u_;obtain⟨c',K3,e1,i5,e3,e4⟩:=s9.Nf (fE _) (by decide) (rows':=[x.st.row]) (λr hr=>by rw[afO.1 hr];rfl) (bytes:=56) (by simp[bU];omega) .fs;have r5:sl .fs [x.st.row]=.fs x.st.row 1:=rfl;rw[r5]at e1;have u9:Qc (x.st.row.map .f)=aa x.st.row:=rfl;have m9:∀i,bt c'=aa i->K0.length<=i:=λi hi=>by
    rcases e4 with h|h
    .exact g_ i (by rw[<-h];exact hi)
    .rw[h]at hi;cases hi;have:=k2.1;omega
   have k3:Kp K0 K3:=by
    refine⟨by have:=e3.1;have:=k2.1;omega,λi hi=>?_⟩;rw[<-k2.2 i hi];have W:i<K1.length:=by have:=k2.1;omega
    rw[afB W];exact e3.2 i _ (afB W) λh=>by have:=g_ i h;omega
   have er:bO L++[x.st.row]=bO (L++[x.st]):=by simp[bO]
   rw[er]at i5;obtain⟨y8,i8⟩:=i5.ex (fE _) 63;have j5:bO (L++[x.st])≠[]:=by simp[bO]
   rw[PB (g':=.fs) j5]at i8;change eg deep K3 c'=_ at i8;obtain⟨K4,j9⟩:=aD (ic deep c' K3);have k4:Kp K0 K4:=by
    rw[j9];rcases i5.x.mkH 63 with e|⟨b,ep,fl,y7,h1,h2,h3⟩
    .change ic deep c' K3=K3 at e;rw[e];exact k3
    .change ic deep c' K3=_ at h3;rw[h3];exact k3.nj (m9 b h1) _
   refine ak (dy (.inl rfl) ?_ ?_)
   case refine_2=>
    intro cc u6;have t_:cc=(19,14):=by simpa using u6
    subst t_;refine⟨by decide,_,rfl,.inr ⟨by decide,?_⟩⟩;simp[l1,l3,l4,l6,l_.eq,fO,s_,-aq]
   simp[l1,l3,l4,l6,l_.eq,w9,u9,e1,i8,f8,<-j9,-aq]
   suffices go:∀u:T,u.g 0=.c (.f (.fp cd 0))->u.g 2=.c (.ptr N 0 0)->u.g 4=vi v->u.g 5=vb ae->u.g 6=vi (15+7*(d:Int))->WP tab qz ab [.code Ib] ⟨u,[],K4⟩ Q by
    exact go _ (by simp) (by simp) (by simp) (by simp) (by simp)
   intro u g0 z X g5 S;have k5:Kp H K4:=k0.tr k4;have c4:K4[N]?=aa (.box (([0,0,0,0,0,0,0,0]:List Int).map λn=>.f (fi n)) 0):=k4.get c0;have x6:N<K4.length:=au c4;apply ak;apply ai;simp[g5];refine bc (by simp) ?_;obtain⟨m,hm⟩:=aD (K4.length);obtain⟨K5,d_⟩:=aD (K4++[bB.map []]);have m5:K5[m]?=aa (.map (Bm [])):=by rw[d_,hm];simp[Bm]
   have c5:K5[N]?=aa (.box (([0,0,0,0,0,0,0,0]:List Int).map λn=>.f (fi n)) 0):=by rw[d_,afy x6];exact c4
   have k6:Kp H K5:=by rw[d_];exact k5.tr (Kp.push _ _)
   apply ai;simp[SB];rw[<-hm,<-d_];apply ak;apply ai;simp;refine aI ?_;obtain⟨e,u7⟩:=aD (15+7*(d:Int));rw[<-u7]at S q;have z9:e<=435:=by omega
   refine dx (λk s=>∃(n:Int) (u:T) (K:aj) (l:List (Int × C)),s=⟨u,[],K⟩/\-1<=n/\n+k=199/\u.g 0=.c (.f (.fp cd 0))/\u.g 2=.c (.ptr N 0 0)/\u.g 4=vi v/\u.g 6=vi e/\u.g 7=.c (.mp m)/\u.g 8=vi n/\Kp H K/\m<K.length/\
    K[N]?=aa (.box (([0,0,0,0,0,0,0,0]:List Int).map λn=>.f (fi n)) 0)/\K[m]?=aa (.map (Bm l))/\res=uw (tz v e F us k n)) 200
    ⟨-1,_,K5,[],rfl,by omega,by omega,by simp[g0],by simp[z],by simp[X],by simp[S],by simp,by simp,k6,au m5,c5,m5,q⟩ ?_
   clear q;rintro k s ⟨n,u,K,l,rfl,z_,hnk,g0,z,X,S,Y,I,Z,v6,hc,e9,q⟩ ih;have n_:m≠N:=by rintro rfl;rw[e9]at hc;cases hc
   apply ak;apply ai;simp[S,I,bg (n:=7*n)];by_cases W:7*n<e
   case neg=>
    refine aG (by simp;omega) (bT rfl ?_);refine zero _ K _ ?_ (by simp[z]) Z hc;rw[q];cases k with
    |zero=>rfl| succ k=>rw[tz,bG W];rfl
   obtain⟨k,rfl⟩:∃k',k=k'+1:=⟨k-1,by omega⟩
   rw[tz,bu W]at q;refine al (by simp[W]) (aS ?_);apply ak;refine aI ?_;obtain⟨v8,gO,e_⟩:=ho n (by omega) (by omega);have p_:=hu n (by omega) (by omega);obtain⟨O,hO⟩:=aD (F n);obtain⟨U,hU⟩:=aD (us n);rw[<-hO]at v8 e_ q;rw[<-hU]at p_ q;have b_:∀(w:T) (K':aj) (l':List (Int × C)),res=uw (tz v e F us k (n+1))->w.g 0=.c (.f (.fp cd 0))->w.g 2=.c (.ptr N 0 0)->w.g 4=vi v->w.g 6=vi e->w.g 7=.c (.mp m)->w.g 8=vi n->Kp H K'->K'[m]?=aa (.map (Bm l'))->K'[N]?=aa (.box (([0,0,0,0,0,0,0,0]:List Int).map λn=>.f (fi n)) 0)->
     WP tab qz ab [.code yq,.inLoop yp,.inBlock 0,.code yu] ⟨w,[],K'⟩ Q:=by
    intro w K' l' hr g0 z X S Y I r_ E t7;refine av (.inl rfl) ?_;simp[I,bg (n:=n+1)];exact ih k _ (by omega) ⟨n+1,_,K',l',rfl,by omega,by omega,by simp[g0],by simp[z],by simp[X],by simp[S],by simp[Y],by simp,r_,au E,t7,E,hr⟩
   apply ai;simp[g0,I,l6,e_,-aq];apply ak;apply ai;have f_:∀J:aj,bo J (.f (sl gO (aC O)))=aa O.length:=λJ=>by simp
   simp[f_];by_cases i6:O=[]
   .refine al (by simp[i6]) (bT (k':=[.code yq,.inLoop yp,.inBlock 0,.code yu]) rfl ?_);rw[i6]at q;exact b_ _ K l q (by simp[g0]) (by simp[z]) (by simp[X]) (by simp[S]) (by simp[Y]) (by simp[I]) Z e9 hc
   refine bc (by simp[i6]) ?_;apply ai;simp[g0,Y,I,p_,Hm,OB e9];obtain⟨K1,d9⟩:=aD (K.set m (.map (Bm (wH n (.f (fi U)) l))));have w1:K1[m]?=aa (.map (Bm (wH n (.f (fi U)) l))):=by rw[d9];exact afC v6
   have w2:K1[N]?=aa (.box (([0,0,0,0,0,0,0,0]:List Int).map λn=>.f (fi n)) 0):=by rw[d9,ae2 n_];exact hc
   have n9:H.length<=m:=by rw[hm];exact k5.1
   have w3:Kp H K1:=by rw[d9];exact Z.nj n9 _
   rw[<-d9];apply ai;simp[f_];have M:=λ(j:Nat) (hj:j<O.length) (H:aj)=>a7 (H:=H) (g:=gO) (rows:=aC O) (sz:=3) (k:=.i64) (i:=(j:Int)) (by omega) (by simp;omega);refine cD O.length (λj t J=>t.g 0=.c (.f (.fp cd 0))/\t.g 2=.c (.ptr N 0 0)/\t.g 4=vi v/\t.g 6=vi e/\t.g 7=.c (.mp m)/\t.g 8=vi n/\t.g 71=.c (.f (sl gO (aC O)))/\Kp H J/\J[N]?=aa (.box (([0,0,0,0,0,0,0,0]:List Int).map λn=>.f (fi n)) 0)/\
    ∃l' c_,J[m]?=aa (.map (Bm l'))/\RG n l'=aa (.f (fi c_))/\qj v U O=qj v c_ (O.drop j)) (by omega) (by decide) (by decide) (by simp) (by simp)
    ⟨by simp[g0],by simp[z],by simp[X],by simp[S],by simp[Y],by simp[I],by simp,w3,w2,_,U,w1,AO _ _ _,by simp⟩ ?_ ?_
   .clear g0 z X S Y I w1 w2 w3 hc Z e9;rintro j t J hj ⟨g0,z,X,S,Y,I,i4,Z,hc,l',c_,E,m4,A⟩ ha hb next
    have o_:=λH:aj=>bE (H:=H) (bh O) (cW hj);have M:=M j hj;simp only[afU]at M;rw[afL hj,qj]at A;generalize O[j]=y at *;have w_:y.row.length=3:=rfl;obtain⟨J1,a8⟩:=aD (J++[bB.box (y.row.map .f) 0]);have d1:J1[J.length]?=aa (.box (y.row.map .f) 0):=by rw[a8];simp
    have y1:∀K:aj,K[J.length]?=J1[J.length]?->aQ K ab (.c (.ptr J.length 1 0))=aa (vi y.fr)/\aQ K ab (.c (.ptr J.length 2 0))=aa (vi y.to)/\aQ K (aa 3) (.c (.ptr J.length 0 0))=aa (.a [.f (fi y.day),.f (fi y.fr),.f (fi y.to)]):=λK Z=>by
     refine⟨?_,?_,?_⟩<;>simp[aQ,aw,Z.trans d1,aO,aE.row]
    have i_:J1[m]?=aa (.map (Bm l')):=by rw[a8,afy (au E)];exact E
    have t9:J1[N]?=aa (.box (([0,0,0,0,0,0,0,0]:List Int).map λn=>.f (fi n)) 0):=by rw[a8,afy (au hc)];exact hc
    have s7:Kp H J1:=by rw[a8];exact Z.tr (Kp.push _ _)
    refine aI ?_;apply ai;simp[i4,ha,M,o_,w_,-aq];rw[<-a8];obtain⟨x8,x9,-⟩:=y1 J1 rfl;obtain⟨T1,k_⟩:=aD (ah .i64 (c_+ah .i64 (y.to-y.fr)));rw[<-k_]at A;obtain⟨J2,a9⟩:=aD (J1.set m (.map (Bm (wH n (.f (fi T1)) l'))));have n8:J2[m]?=aa (.map (Bm (wH n (.f (fi T1)) l'))):=by rw[a9];exact afC (au i_)
    have i7:J2[N]?=aa (.box (([0,0,0,0,0,0,0,0]:List Int).map λn=>.f (fi n)) 0):=by rw[a9,ae2 n_];exact t9
    have j8:Kp H J2:=by rw[a9];exact s7.nj n9 _
    have j5:m≠J.length:=by have:=au E;omega
    apply ai;simp[Y,I,Di,GJ i_ m4,x8,x9,<-k_,Hm,OB i_,<-a9,-aq];apply ai;simp[X,Y,I,Di,GJ n8 (AO _ _ _)];by_cases i9:v<T1
    .rw[bu i9]at A;rw[A]at q;refine al (by simp[i9]) ?_;have f7:=i7;simp only[afS,afW]at f7;have s1:cz J2 (.ptr N 0 0) [.f (fi 14),.f (fi 0),.f (fi y.day),.f (fi y.fr),.f (fi y.to),.f (fi 0),.f (fi 0),.f (fi 0)]=aa (J2.set N (.box [.f (fi 14),.f (fi 0),.f (fi y.day),.f (fi y.fr),.f (fi y.to),.f (fi 0),.f (fi 0),.f (fi 0)] 0)):=by simp[cz,f7,bp]
     obtain⟨-,-,x_⟩:=y1 J2 (by rw[a9,ae2 j5]);apply ai;simp[z,x_,s1,-aq,-aU];refine az ?_;refine h_ _ _ _ ?_ ?_ (j8.nj (by omega) _) ?_
     .simp[z]
     .simp
     .rw[afC (au i7),q];rfl
    .rw[bG i9]at A;refine aG (by simp;omega) (aS ?_);exact aA (next _ _ ⟨by simp[g0],by simp[z],by simp[X],by simp[S],by simp[Y],by simp[I],by simp[i4],j8,i7,_,T1,n8,AO _ _ _,A⟩ (by simp[ha]) (by simp[hb]))
   .rintro t J ⟨g0,z,X,S,Y,I,i4,Z,hc,l',c_,E,m4,A⟩ - -;rw[agF,qj]at A;rw[A]at q;exact aA (b_ _ J l' q (by simp[g0]) (by simp[z]) (by simp[X]) (by simp[S]) (by simp[Y]) (by simp[I]) Z E hc)
 exact⟨H',he,Z⟩
theorem WO(g:Tg)(l:List aB)(x:aB)(hl:l.length<=1000)(hs:l.Pairwise fP) :
  ∃(i:Nat) (w:Bool),(w=ae↔∃y∈l,cj y x=ae)/\aX tab DN [.c (.f (sl g (an l))),.a (x.row.map .f),.c (.f (.fn qA []))]=Eq (.t [vi i,vb w]):=by
 obtain⟨rows,d⟩:=aD (an l);obtain⟨s,M⟩:∃s:List FC->Int,∀y:aB,s y.row=oF y x:=⟨λr=>match r with| .int _ a::.int _ b::_=>wz [dk a x.meet,dk b x.room]|_=>0,λy=>by simp[aB.row,oF]⟩
 have b_:rows.length=l.length:=by rw[d];simp[an]
 have X:∀r∈rows,∃y∈l,r=y.row:=λr hr=>by
  rw[d]at hr;obtain⟨y,hy,rfl⟩:=af6.1 hr;exact⟨y,hy,rfl⟩
 have hg:cA 7 rows:=by rw[d];exact aR l
 have Z:∀y:aB,(oF y x<0↔fP y x)/\(0<oF y x↔fP x y):=λy=>by
  unfold oF fP;simp only[wz,dk];refine⟨?_,?_⟩
  .repeat' split
   all_goals omega
  .repeat' split
   all_goals omega
 have E:∀(i:Nat) (h:i<rows.length),rows[i]=(l[i]'(by omega)).row:=λi h=>by
  subst d;simp[an]
 have hp:∀(i j:Nat) (hi:i<j) (z:j<rows.length),0<=s rows[i]->0<s rows[j]:=λi j hi z h=>by
  rw[E,M]at h ⊢;rw[(Z _).2];have h1:¬ fP (l[i]'(by omega)) x:=λh'=>by have:=(Z _).1.2 h';omega
  have h2:fP (l[i]'(by omega)) (l[j]'(by omega)):=ags.1 hs i j (by omega) (by omega) hi;unfold fP at *;omega
 have A:∀y:aB,s y.row=0↔cj y x=ae:=λy=>by
  rw[M];unfold oF;simp only[wz,dk,cj]
  repeat' split
  all_goals simp
  all_goals omega
 obtain⟨i,h1,h2,S,w,h4,h⟩:∃i:Nat,i<=rows.length/\(∀j (z:j<rows.length),j<i->s rows[j]<0)/\(∀j (z:j<rows.length),i<=j->0<=s rows[j])/\
   ∃w:Bool,(w=ae↔∃h:i<rows.length,s rows[i]=0)/\aX tab DN [.c (.f (sl g rows)),.a (x.row.map .f),.c (.f (.fn qA []))]=Eq (.t [vi i,vb w]):=by
  obtain⟨r,⟨i,h1,h2,S,w,h4,rfl⟩,h⟩:∃r,(∃i:Nat,i<=rows.length/\(∀j (z:j<rows.length),j<i->s rows[j]<0)/\(∀j (z:j<rows.length),i<=j->0<=s rows[j])/\∃w:Bool,(w=ae↔∃h:i<rows.length,s rows[i]=0)/\r=.t [vi i,vb w])/\
    aX tab DN [.c (.f (sl g rows)),.a (x.row.map .f),.c (.f (.fn qA []))] r:=by
   refine cN rfl rfl λQ hQ=>?_;have ask:∀(q:Nat) (hq:q<rows.length) (H:aj),∃J,bw H 7 ab (.c (.f (sl g rows))) (vi q)=aa (.c (.f (.fp rows.flatten (q*7))))/\aQ H (aa 7) (.c (.f (.fp rows.flatten (q*7))))=aa (.a (rows[q].map .f))/\Ev tab (.fn qA) [.a (rows[q].map .f),.a (x.row.map .f)] H=E2 (vi (s rows[q])) (H++J):=by
    intro q hq H;obtain⟨y,hy,e⟩:=X rows[q] (afH hq);obtain⟨J,c3⟩:=F_ y x H;have hi:=a7 (H:=H) (g:=g) (rows:=rows) (sz:=7) (k:=.i64) (i:=(q:Int)) (by omega) (by omega);rw[afU]at hi;refine⟨J,hi,bE hg (afB hq),?_⟩;rw[e,M];exact c3.eq
   apply ai;simp[aB.row];apply ai;simp;apply ai;simp;apply ak;refine aI ?_;refine dx (λm s'=>∃(lo hi:Nat) (t:T) (H:aj),s'=⟨t,[],H⟩/\m=hi-lo/\lo<=hi/\hi<=rows.length/\t.g 0=.c (.f (sl g rows))/\t.g 4=.c (.ptr 0 0 0)/\H[0]?=aa (.box (x.row.map .f) 0)/\t.g 2=.c (.f (.fn qA []))/\t.g 8=vi rows.length/\t.g 9=vi lo/\t.g 10=vi hi/\
    (∀j (z:j<rows.length),j<lo->s rows[j]<0)/\(∀j (z:j<rows.length),hi<=j->0<=s rows[j])) rows.length
    ⟨0,rows.length,_,_,rfl,by omega,by omega,by omega,by simp,by simp,rfl,by simp,by simp,by simp,by simp,by simp,by intros;omega⟩ ?_
   rintro m s' ⟨lo,hi,t,H,rfl,rfl,b9,U,g0,g4,N,g2,g8,O,B,L,F⟩ next
   have lx:∀K:aj,K[0]?=H[0]?->aQ K (aa 7) (.c (.ptr 0 0 0))=aa (.a (x.row.map .f)):=λK hK=>by simp[aQ,aw,hK.trans N,aO,aB.row]
   apply ak;apply ai;simp[O,B];by_cases a9:lo<hi
   .refine al (by simp[a9]) (aS ?_);obtain⟨q,hq⟩:=aD ((lo+hi) / 2);have W:q<rows.length:=by omega
    have e1:ei BinOp.shr (V.c (C.f (FC.int IntKind.u64 (IntKind.u64.wrap ((lo:Int)+hi))))) (V.c (C.f (FC.int IntKind.u64 1)))=aa (.c (.f (.int .u64 (q:Int)))):=by
     have:IntKind.u64.wrap ((lo:Int)+hi)=(lo:Int)+hi:=by
      show((lo:Int)+hi) % 18446744073709551616=_;omega
     rw[this];show aa (V.c (C.f (FC.int IntKind.u64 (Int.fdiv ((lo:Int)+hi) (2 ^ (min (1:Int).toNat IntKind.u64.bits))))))=_;have S:Int.fdiv ((lo:Int)+hi) (2 ^ (min (1:Int).toNat IntKind.u64.bits))=q:=by
      show Int.fdiv ((lo:Int)+hi) 2=q;rw[Int.fdiv_eq_ediv_of_nonneg _ (by omega)];omega
     rw[S]
    have hw:=bg (n:=(lo:Int)+hi);have a_:ah .i64 (q:Int)=q:=bg;obtain⟨J,i1,l1,he⟩:=ask q W H;refine aI ?_;apply ai;simp[O,B,hw,e1,a_];apply ai;have Y:(H++J)[0]?=aa (.box (x.row.map .f) 0):=by rw[afy (au N)];exact N
    simp[g0,g4,g2,i1,l1,lx H rfl,cL,he,-aq];by_cases hc:s rows[q]<0
    .refine al (by simp[hc]) ?_;refine av (.inl rfl) ?_;simp[bg (n:=(q:Int)+1)];refine aA (next (hi-(q+1)) _ (by omega) ⟨q+1,hi,_,_,rfl,rfl,by omega,by omega,by simp[g0],by simp[g4],Y,by simp[g2],by simp[g8],by simp,by simp[B],λj z h=>?_,F⟩);rcases Int.lt_or_le (s rows[j]) 0 with u|u
     .exact u
     .by_cases e:j=q
      .subst e;exact hc
      .have:=hp j q (by omega) W u;omega
    .refine aG (by simp[hc]) ?_;refine av (.inl rfl) ?_;simp;refine aA (next (q-lo) _ (by omega) ⟨lo,q,_,_,rfl,rfl,by omega,by omega,by simp[g0],by simp[g4],Y,by simp[g2],by simp[g8],by simp[O],by simp,L,λj z h=>?_⟩);by_cases e:j=q
     .subst e;omega
     .have:=hp q j (by omega) z (by omega);omega
   .have:lo=hi:=by omega
    subst this;refine aG (by simp) ?_;refine bT rfl ?_;apply ai;by_cases v:lo<rows.length
    .obtain⟨J,i1,l1,he⟩:=ask lo v H;simp[g0,g4,g2,g8,O,v,i1,l1,lx H rfl,cL,he,-aq];refine az (hQ _ _ _ ⟨lo,U,L,F,decide (s rows[lo]=0),by simp[v],rfl⟩ ?_);simp
    .simp[g8,O,v];refine az (hQ _ _ _ ⟨lo,U,L,F,ag,by simp[v],rfl⟩ ?_);simp
  exact⟨i,h1,h2,S,w,h4,h.eq⟩
 subst d;refine⟨i,w,?_,h⟩;rw[h4];constructor
 .rintro⟨hi,e⟩;rw[E i hi,A]at e;exact⟨_,afH _,e⟩
 .rintro⟨y,hy,e⟩;obtain⟨j,z,rfl⟩:=agd hy;have I:j<(an l).length:=by omega
  have e0:s (an l)[j]=0:=by rw[E j I,A];exact e
  have a8:i<=j:=by
   rcases agq j i with u|u
   .have:=h2 j I u;omega
   .exact u
  have hi:i<(an l).length:=by omega
  refine⟨hi,?_⟩;rcases Nat.lt_or_eq_of_le a8 with u|u
  .have:=S i hi (afJ _);have:=hp i j u I this;omega
  .subst u;exact e0
def gm(af b:Int)(d:List aB)(x:aB):Bool:=qh (bQ af b) d&&ie 3 x
def gH(b:List aB)(x:aB):Bool:=b.any λy=>cj y x
theorem XX(af g:Int):∀r∈bQ af g,nv r:=by
 have h:aX tab 190 [GN]=Eq (vi 0):=gT.2.2.2.2.2.2.2.2;intro r d;have b:r.op=cQ.map .f:=by
  simp only[bQ,afZ,agS,or_false]at d;rcases d with rfl|rfl|rfl<;>rfl
 show aX tab zR [.a r.op] (vi 0);rw[b];show aX tab 190 [GN] (vi 0);rw[h]
theorem F7(af m:Int)(g:Tg)(j:List aB)(L:j.length<=1000)(N:j.Pairwise fP)(M:∀s∈j,s.st.Sm)(x:aB)(S:x.st.Sm) :
  aX tab V1 [.c (.f (eI af m)),.c (.f (sl g (an j))),.a (x.row.map .f)] =
   Eq (.t (if gm af m j x then [.c (.f (eC (eI af m) (sl g (an j)) x)),vb (!gH j x)]else [.c (.f .rP),vb ag])):=aX.eq (by
 refine bH rfl rfl λQ u=>?_;have b:=(RE .fs g (bQ af m) j (show(3:Nat)<=6 by decide) (XX af m) (by omega) M).eq;have d:=(C1 .fs (bQ af m) x (show(3:Nat)<=6 by decide) S).eq;obtain⟨i,w,O,z⟩:=WO g j x L N;have J:w=gH j x:=by
  rw[agH,O,gH,agw]
 rw[<-J]at u;have B:x.row.length=7:=rfl;change aX tab DG [.c (.f (eI af m)),_]=_ at b;change aX tab DL [.c (.f (eI af m)),_]=_ at d;have A:(bQ af m).length=3:=rfl;rw[A]at d;obtain⟨W,I⟩:=aD (sl g (an j));obtain⟨U,H⟩:=aD (eI af m);simp only[eC]at u;rw[<-I]at b z u ⊢;rw[<-H]at b d u ⊢;have F:∀K:aj,K[0]?=aa (.box (x.row.map .f) 0)->aQ K (aa 7) (.c (.ptr 0 0 0))=aa (.a (x.row.map .f)):=λK h=>by simp[aQ,aw,h,aO,aB.row]
 apply ai;simp[B];obtain⟨v,y⟩:=aD ([bB.box (x.row.map .f) 0]:aj);have E:v[0]?=aa (.box (x.row.map .f) 0):=by rw[y];rfl
 rw[<-y];apply ak;apply ai;cases l:qh (bQ af m) j with
 |false=>
  rw[l]at b;simp[b];refine al (by simp) ?_;apply ai;simp;refine az (u _ _ ?_);simp[Km.results,aZ,gm,l]
 |true=>
  rw[l]at b;cases q:ie 3 x with
  |false=>
   rw[q]at d;simp[b,F v E,d,-aq];refine al (by simp) ?_;apply ai;simp;refine az (u _ _ ?_);simp[Km.results,aZ,gm,l,q]
  |true=>
   rw[q]at d;simp[b,F v E,d,-aq];refine bc (by simp) ?_;apply ai;simp[F v E,z,-aq];apply ai;simp[F v E,B,-aq];refine az (u _ _ ?_);simp[Km.results,aZ,gm,l,q,fC,bX,deep,eg,aB.row])
def bM(h:bR)(x:bC):Int:=if cK h=ag\/x.id<1\/x.state≠1\/jw x.dl=ag then 1 else if(oJ x.id h.l).isSome then 5 else if x.dl<h.clock then 17 else 0
def oc:List C:=[.f (fi 0),.f (fi 0),.f (fi 0),.f (fi 0),.f (fi 0),.f (fi 0),.f (fi 0),.f (fi 0)]
def eR(b:List Int):List C:=b.map λn=>.f (fi n)
theorem LR.added{H:aj}{c:C}{sz:Nat}{rows:List (List FC)}(h:LR H c sz rows)(hg:cA sz rows):cS H sz (.c c)=aa (rows.length,rows.flatten.map .f):=by
 rcases h with⟨rfl,rfl|rfl⟩|⟨j,b,ep,rfl,h2⟩
 .simp[cS,bo,cR]
 .simp[cS,bo,cR]
 .have g:=h2.len (o:=0) (l:=rows.length) (c:=0);unfold RB at h2;have d:rows.length*sz=rows.flatten.length:=(bW hg).symm;have hc:cR H sz (.sl b 0 rows.length 0 ep sz)=aa (rows.flatten.map .f):=by
   simp only[cR,h2];rw[bu ⟨trivial,trivial,by rw[afT,d];omega⟩,List.drop_zero,afM (by rw[afT,d];exact afJ _)]
  simp only[cS,g,hc]
theorem LR.mkB{H:aj}{c:C}{sz:Nat}{rows:List (List FC)}(h:LR H c sz rows)(hg:cA sz rows)(n:Nat){i:Nat}{cs:List C}{fl:Nat}(hi:H[i]?=aa (.box cs fl)):(ic (n+1) c H)[i]?=aa (.box cs fl):=by
 have g:=h.qN hi;rcases h with⟨_,rfl|rfl⟩|⟨j,b,ep,rfl,h2⟩
 .exact hi
 .exact hi
 .unfold RB at h2;have e:∃y,ic (n+1) (.sl b 0 rows.length 0 ep sz) H=H.set b y:=by
   refine⟨.ct sz (rows.flatten.map .f) (Nat.max 0 (0+rows.length*sz)) ep .loc,?_⟩;simp only[tZ,h2];rw[AD];intro x d;have d:=List.mem_of_mem_drop (agD d);obtain⟨m,_,rfl⟩:=af6.1 d;exact⟨_,rfl⟩
  obtain⟨y,e⟩:=e;have:b≠i:=by rintro rfl;exact g rfl
  rw[e,ae2 this];exact hi
theorem Su:tab.get gk=ab:=by kernel_rfl
theorem Gc{sz:Nat}:∀{rows:List (List FC)} (i:Nat),cA sz rows->i<=rows.length->rows.flatten.take (i*sz)=(rows.take i).flatten/\rows.flatten.drop (i*sz)=(rows.drop i).flatten
 |rows,0,_,_=>by simp
 |[],i+1,_,h=>by simp at h
 |r::rows,i+1,b,h=>by
  have d:r.length=sz:=b r afN;obtain⟨g,j⟩:=Gc (rows:=rows) i (λx l=>b x (afQ _ l)) (by simpa using h);simp only[List.flatten_cons,List.take_succ_cons,List.drop_succ_cons];rw[Nat.succ_mul,Nat.add_comm,<-d,List.take_append,List.drop_append];simp only[Nat.add_sub_cancel_left,afM (Nat.le_add_right _ _),agZ (Nat.le_add_right _ _)];rw[d,g,j];simp
theorem NM{f:Nat}{args:List V}{H H':aj}{r:V}(b:f=gk)(h:Jt args H=aa (r,H')):Ev tab (.fn f) args H r H':=by
 subst b;refine⟨0,1,?_⟩;have d:tab.ub gk args H=aa (aa (r,H')):=by
  show(match tab.get gk with|some _=>ab|none=>Km.ub gk args H)=_;rw[Su];simp[ub,h]
 simp only[CF,eV,d]
theorem Jw{K:aj}{c:C}{rows:List (List FC)}(v:LR K c 10 rows)(z:cA 10 rows)(S:rows.length<=1000){i:Nat}(hi:i<=rows.length){row:List FC}(d:row.length=10){vb:Nat}(F:K[vb]?=aa (.box (row.map .f) 0)) :
  ∃m s,Ev tab (.fn Wa) [.c c,vi i,.c (.sl vb 0 1 1 0 10)] K (.c m) s/\LR s m 10 (rows.take i++row::rows.drop i)/\Kb K s c/\(bt m=bt c\/bt m=aa K.length):=by
 have l:cS K 10 (.c (.sl vb 0 1 1 0 10))=aa (1,row.map .f):=pz F (by simp[d]);rcases agq i rows.length with B|M
 .rcases v with⟨rfl,_⟩|⟨O,b,ep,rfl,u⟩
  .simp at B
  .have g:=u;unfold RB at g;have x:rows.flatten.length=rows.length*10:=bW z;obtain⟨H,I⟩:=Gc i z hi;refine⟨.sl b 0 (rows.length+1) 0 (ep+1) 10,K.set b (.ct 10 (((rows.take i++row::rows.drop i).flatten).map .f) 0 (ep+1) .loc),NM rfl ?_,.inr ⟨by simp,b,ep+1,?_,?_⟩,⟨by simp,λj y Q E=>?_⟩,.inl rfl⟩
   .have N:bo K (.sl b 0 rows.length 0 ep 10)=aa rows.length:=by simp[bo,g]
    simp only[Jt,N,l];rw[bG (by omega)];simp only[Ba,g,F];rw[bu ⟨trivial,trivial,trivial,trivial,trivial,by rw[afT];exact x,trivial,by omega,by omega,by omega,by simp[d]⟩]
    congr 4
    rw[afU,<-List.map_take,<-ahq,H,I];simp
   .congr 1
    simp only[afK,af2,agm,List.length_drop];omega
   .unfold RB;exact afC (au g)
   .have:b≠j:=by rintro rfl;exact E rfl
    rw[ae2 this];exact Q
 .have A:i=rows.length:=by omega
  subst A;obtain⟨m,H',q,J,u,L⟩:=v.app z (by decide) d (bytes:=112) (oX (by omega) (by decide)) F;refine⟨m,H',NM rfl ?_,by rw[agc,agF];exact J,u,L⟩;simp only[Jt,v.len,l];rw[bu trivial];exact q
theorem sf{H:aj}{i:Nat}{y:bB}(h:H[i]?=aa y):H.set i y=H:=by
 obtain⟨b,e⟩:=List.getElem?_eq_some_iff.1 h;rw[<-e];exact List.set_getElem_self b
def e7:List Int:=[0,0,0,0,0,0,0,0]
def iA(h:bR)(x:bC)(l:List Int)(b:Int)(res:bR)(d:List Int)(c:Int):Prop:=
 (bM h x≠0/\res=eu/\d=e7/\c=bM h x)\/(bM h x=0/\b≠0/\res=eu/\d=e7/\c=b)\/
  (bM h x=0/\b=0/\c=0/\d=l/\∃g,(l[0]?≠aa 0/\res = { h with lg:=g })\/(l[0]?=aa 0/\∃i,i<=h.l.length/\(∀j (m:j<h.l.length),j<i->h.l[j].id<x.id)/\(∀j (m:j<h.l.length),i<=j->x.id<h.l[j].id)/\res=⟨h.clock,h.ba,g,h.l.take i++x::h.l.drop i⟩))
theorem NS(h:bR)(hk:nS h)(rm:FC)(g0:Tg)(l0:List aB)(h0:kv l0)(hl0:l0.length<=3)(x:bC)(hx:Fix x.aW)(m9:∀y∈h.l,Fix y.aW)(rf:List Int)(B:Int)(x9:rf.length=8)
  (E:bM h x=0->∀g,aX tab kh [.c (.f rm),.c (.f (sl g (an (pU l0 h)))),.a (x.aW.row.map .f)]=Eq (.t [.a (eR rf),vi B])) :
  ∃res Y c,iA h x rf B res Y c/\aX tab vf [.a (h.row.map .f),.c (.f rm),.c (.f (sl g0 (an l0))),.a (x.row.map .f)]=Eq (.t [.a (res.row.map .f),.a (eR Y),vi c]):=by
 obtain⟨v,⟨res,Y,c,hG,rfl⟩,hp⟩:∃v,(∃res Y c,iA h x rf B res Y c/\v=.t [.a (res.row.map .f),.a (eR Y),vi c])/\aX tab vf [.a (h.row.map .f),.c (.f rm),.c (.f (sl g0 (an l0))),.a (x.row.map .f)] v:=by
  refine cN rfl rfl λQ hQ=>?_;have hl:=hk.len;have hv:=tf h (by omega);have hhl:h.row.length=3:=rfl;have y8:x.row.length=10:=rfl;apply ai;simp;obtain⟨d,u⟩:=aD ([.box (h.row.map .f) 0,.box (x.row.map .f) 0,.box [.f (fi 0),.f (fi 0),.f .aK] 0,.box oc 0]:aj);have a0:∀H:aj,H[0]?=aa (.box (h.row.map .f) 0)->aQ H (aa 3) (.c (.ptr 0 0 0))=aa (.a (h.row.map .f)):=λH J=>by simp[J,aO,bR.row]
  have a1:aQ d ab (.c (.ptr 0 0 0))=aa (vi h.clock):=by rw[u];simp[aO,bR.row]
  have a2:aQ d ab (.c (.ptr 0 2 0))=aa (.c (.f (sl h.lg (aL h.l)))):=by rw[u];simp[aO,bR.row]
  have x0:aQ d ab (.c (.ptr 1 0 0))=aa (vi x.id):=by rw[u];simp[aO,bC.row]
  have x1:aQ d ab (.c (.ptr 1 1 0))=aa (vi x.dl):=by rw[u];simp[aO,bC.row]
  have x2:aQ d ab (.c (.ptr 1 2 0))=aa (vi x.state):=by rw[u];simp[aO,bC.row]
  have x3:∀H:aj,H[1]?=aa (.box (x.row.map .f) 0)->aQ H (aa 7) (.c (.ptr 1 3 0))=aa (.a (x.aW.row.map .f)):=λH J=>by simp[J,aO,bC.row,aB.row]
  have x4:∀H:aj,H[1]?=aa (.box (x.row.map .f) 0)->aQ H (aa 10) (.c (.ptr 1 0 0))=aa (.a (x.row.map .f)):=λH J=>by simp[J,aO,bC.row]
  have z0:d[0]?=aa (.box (h.row.map .f) 0):=by rw[u];rfl
  have z1:d[1]?=aa (.box (x.row.map .f) 0):=by rw[u];rfl
  have z2:d[2]?=aa (.box [.f (fi 0),.f (fi 0),.f .aK] 0):=by rw[u];rfl
  have K:d[3]?=aa (.box oc 0):=by rw[u];rfl
  have s2:∀H:aj,H[2]?=aa (.box [.f (fi 0),.f (fi 0),.f .aK] 0)->cz H (.ptr 2 0 0) [.f (fi 0),.f (fi 0),.f .aK]=aa H:=λH J=>by
   simp[J];exact sf J
  have s3:∀H:aj,H[3]?=aa (.box oc 0)->cz H (.ptr 3 0 0) [.f (fi 0),.f (fi 0),.f (fi 0),.f (fi 0),.f (fi 0),.f (fi 0),.f (fi 0),.f (fi 0)]=aa H:=λH J=>by
   simp[J,oc];exact sf J
  simp only[oc]at u;rw[<-u];have f7:∀(c:Int),iA h x rf B eu e7 c->∀(t:T) (H:aj) (k:List de),H[2]?=aa (.box [.f (fi 0),.f (fi 0),.f .aK] 0)->H[3]?=aa (.box oc 0)->t.g 8=.c (.ptr 2 0 0)->t.g 9=.c (.ptr 3 0 0)->t.g 10=vi c->WP tab vf ab (.code .ret::k) ⟨t,[],H⟩ Q:=by
   intro c hG t H k K z4 g6 g7 g8;have q3:aQ H (aa 3) (.c (.ptr 2 0 0))=aa (.a [.f (fi 0),.f (fi 0),.f .aK]):=by simp[K,aO]
   have q4:aQ H (aa 8) (.c (.ptr 3 0 0))=aa (.a oc):=by simp[z4,aO,oc]
   refine az (hQ _ _ (.t [.a (eu.row.map .f),.a (eR e7),vi c]) ⟨eu,e7,c,hG,rfl⟩ ?_);simp[Km.results,aZ,g6,g7,g8,q3,q4,fC,bX,deep,eu,bR.row,oc,sl,Tg.fc,aL,eR,e7,-aq]
  have bad:bM h x=1->∀t:T,t.g 8=.c (.ptr 2 0 0)->t.g 9=.c (.ptr 3 0 0)->t.g 35=vb ae->WP tab vf ab [.code Qk,.code Ql] ⟨t,[],d⟩ Q:=by
   intro he t g8 g9 g;refine al (by simp[g]) (ai ?_);simp[g8,g9,s2 d z2,s3 d K,-aU];exact f7 1 (.inl ⟨by omega,rfl,rfl,he.symm⟩) _ _ _ z2 K (by simp[g8]) (by simp[g9]) (by simp)
  apply ak;apply ak;refine av (.inl rfl) ?_;cases Z:cK h
  case false=>
   simp[a0 d z0,hv,Z,-aq];exact bad (by simp[bM,Z]) _ (by simp) (by simp) (by simp)
  by_cases k1:x.id<1
  .simp[a0 d z0,hv,Z,x0,k1,-aq];exact bad (by simp[bM,k1]) _ (by simp) (by simp) (by simp)
  by_cases k2:x.state=1
  case neg=>
   simp[a0 d z0,hv,Z,x0,x2,k1,k2,-aq];exact bad (by simp[bM,k2]) _ (by simp) (by simp) (by simp)
  cases m:jw x.dl
  case false=>
   simp[a0 d z0,hv,Z,x0,x1,x2,k1,k2,wh,m,-aq];exact bad (by simp[bM,m]) _ (by simp) (by simp) (by simp)
  simp[a0 d z0,hv,Z,x0,x1,x2,k1,k2,wh,m,-aq];refine bc (by simp) ?_;obtain⟨i,hi,n_,i5,i4⟩:=Gq h (by omega) Z x.id;have z:=yP Z n_ i5;apply ai;simp[a0 d z0,x0,i4,-aq];apply ak;refine aI ?_;apply ai;simp;cases hf:Dl h.l i x.id
  case true=>
   rw[hf]at z;simp at z;have he:bM h x=5:=by simp[bM,Z,k1,k2,m,z]
   refine al (by simp) (ai ?_);simp[s2 d z2,s3 d K,-aU];exact f7 5 (.inl ⟨by omega,rfl,rfl,he.symm⟩) _ _ _ z2 K (by simp) (by simp) (by simp)
  have m_:∀j (hj:j<h.l.length),i<=j->x.id<h.l[j].id:=λj hj v9=>by
   have h1:=i5 j hj v9;have hne:h.l[j].id≠x.id:=by
    intro e;by_cases v_:j=i
    .subst v_;simp[Dl,hj,e]at hf
    .have r5:=(fq.1 Z).2.2.2;rw[ags]at r5;have:=r5 i j (by omega) hj (by omega);have:=i5 i (by omega) (afJ _);omega
   omega
  rw[hf]at z;simp at z;refine aG (by simp) ?_;apply ai;by_cases k3:x.dl<h.clock
  .have he:bM h x=17:=by simp[bM,Z,k1,k2,m,z,k3]
   simp[x1,a1,k3,-aq];refine al (by simp) (ai ?_);simp[s2 d z2,s3 d K,-aU];exact f7 17 (.inl ⟨by omega,rfl,rfl,he.symm⟩) _ _ _ z2 K (by simp) (by simp) (by simp)
  have he:bM h x=0:=by simp[bM,Z,k1,k2,m,z,k3]
  have E:=E he;simp[x1,a1,k3,-aq];refine aG (by simp) ?_;apply ai;simp[a2,show¬ (h.l.length:Int)=4096 by omega,-aq];refine aG (by simp) (aS (aA ?_));obtain⟨r1,H1,f8,c1,rfl,i6,j6,hb1⟩:=IH h (by omega) m9 g0 l0 (by omega) d;have f8:=f8.eq;obtain⟨o,ho⟩:=aD (uniq l0 [] (dL h.l));rw[<-ho]at j6;have hol:o.length<=9:=by
   have h2:=sk (l0:=l0) (acc:=[]) (l:=dL h.l);have h3:=Ch h;rw[ho];simp at h2;omega
  obtain⟨H2,b9⟩:=aD (H1++[.box [.f (sl g0 (an l0)),c1] 0]:aj);have q2:H2[H1.length]?=aa (.box [.f (sl g0 (an l0)),c1] 0):=by rw[b9];simp
  have i7:Kp d H2:=by rw[b9];exact⟨by have:=i6.1;simp;omega,λb' l=>by rw[afy (af9 l i6.1)];exact i6.2 b' l⟩
  have t9:LR H2 c1 7 (an o):=by rw[b9];exact j6.push _
  obtain⟨r3,H3,a9,c3,rfl,e_,w9,w_,hbc⟩:=I5 (tab:=tab) (H:=H2) (F:=DR) (G:=MJ) (sz:=7) (bytes:=88) (zs:=[fi 0,fi 0,fi 0,fi 0,.aK,fi 0,.aK]) Wm Ws (by decide) rfl (b:=H1.length) [(.f (sl g0 (an l0)),an l0),(c1,an o)] q2 (by simp)
   (λy s=>by
    simp only[afZ,agS,or_false]at s;rcases s with rfl|rfl
    .exact⟨aR _,λH' _=>⟨by simp,vp (aR _)⟩⟩
    .refine⟨aR _,λH' s9=>?_⟩;have:LR H' c1 7 (an o):=t9.cZ λi y s _=>by rw[s9 i (au s)];exact s
     exact⟨this.len,LR.added this (aR _)⟩)
   (by simp;omega) (oX (by simp;omega) (by decide))
  have a9:Ev tab (.fn DR) [.c (.sl H1.length 0 2 2 0 1)] H2 (.c c3) H3:=a9;have a9:=a9.eq;have y7:an (l0++o)=an l0++an o:=by simp[an]
  have e_:LR H3 c3 7 (an (l0++o)):=by rw[y7];simpa using e_
  have n8:Kp d H3:=⟨af1 i7.1 w_,λb' l=>(w9 b' (af9 l i7.1)).trans (i7.2 b' l)⟩
  obtain⟨r4,H4,f_,rfl,s_,o',j8,x8,x_⟩:=Sb e_ (by simp;omega);have f_:=f_.eq;have x6:o'=pU l0 h:=by
   unfold pU;rw[<-ho];exact zE (by rw[ho];exact pB h0 h) x8 x_
  subst x6;have r_:∀(i:Nat) cs fl,d[i]?=aa (.box cs fl)->H4[i]?=aa (.box cs fl):=λi cs fl s=>by
   have h3:H3[i]?=aa (.box cs fl):=by rw[n8.2 i (au s)];exact s
   exact s_.2 i _ h3 (e_.qN h3)
  obtain⟨g,v6⟩:=j8.ex (aR _) 63;have E:=E g;obtain⟨H5,j5⟩:=aD (ic 64 c3 H4:aj);have up5:∀(i:Nat) cs fl,d[i]?=aa (.box cs fl)->H5[i]?=aa (.box cs fl):=λi cs fl s=>by rw[j5];exact LR.mkB j8 (aR _) 63 (r_ i cs fl s)
  obtain⟨I,M,N,O,S,U,W,X,rfl⟩:∃I M N O S U W X,rf=[I,M,N,O,S,U,W,X]:=by
   match rf,x9 with
   |[I,M,N,O,S,U,W,X],_=>exact⟨_,_,_,_,_,_,_,_,rfl⟩
  obtain⟨H6,b_⟩:=aD (H5++[.box (eR [I,M,N,O,S,U,W,X]) 0]:aj);have q:∀(i:Nat) cs fl,d[i]?=aa (.box cs fl)->H6[i]?=aa (.box cs fl):=λi cs fl s=>by
   have:=up5 i cs fl s;rw[b_,afy (au this)];exact this
  obtain⟨p6,o_⟩:=aD (H5.length);have r6:H6[p6]?=aa (.box (eR [I,M,N,O,S,U,W,X]) 0):=by rw[b_,o_];simp
  apply ai;simp[a0 d z0,f8,-aq];rw[<-b9];simp[a9];apply ai;simp[f_];apply ai;simp only[eR,afS,afW]at E b_ r6;simp[x3 H4 (r_ 1 _ _ z1),fC,bX,deep,v6,E,-aq];rw[<-j5]
  try simp
  rw[<-b_,<-o_];apply ak;apply ak;refine av (.inl rfl) ?_;simp;by_cases hc:B=0
  case neg=>
   refine al (by simp[hc]) (ai ?_);simp[s2 H6 (q 2 _ _ z2),s3 H6 (q 3 _ _ K),-aU];exact f7 B (.inr (.inl ⟨he,hc,rfl,rfl,rfl⟩)) _ _ _ (q 2 _ _ z2) (q 3 _ _ K) (by simp) (by simp) (by simp)
  subst hc;refine bc (by simp) ?_;obtain⟨r7,H7,g_,c7,rfl,n9,j9,u6⟩:=yJ h (by omega) m9 H6;have g_:=g_.eq;have up7:∀(i:Nat) cs fl,H6[i]?=aa (.box cs fl)->H7[i]?=aa (.box cs fl):=λi cs fl s=>by rw[n9.2 i (au s)];exact s
  obtain⟨p8,p_⟩:=aD (H7.length);obtain⟨L,c_⟩:=aD (H7++[.box [.f (fi h.clock),.f (fi h.ba),c7] 0]:aj);have A:∀(i:Nat) cs fl,H6[i]?=aa (.box cs fl)->L[i]?=aa (.box cs fl):=λi cs fl s=>by
   have:=up7 i cs fl s;rw[c_,afy (au this)];exact this
  have r8:L[p8]?=aa (.box [.f (fi h.clock),.f (fi h.ba),c7] 0):=by rw[c_,p_];simp
  have j_:LR L c7 10 (aL h.l):=by rw[c_];exact j9.push _
  have l67:=n9.1;have l_:∀i,bt c7=aa i->4<=i/\i≠p6/\i≠p8:=λi e=>by
   have h1:=u6 i e;have h2:=j9.lt e;have h3:=au (q 3 _ _ K);have h4:=au r6;omega
  apply ai;simp[a0 H6 (q 0 _ _ z0),g_,-aq];rw[<-c_,<-p_];have i9:∀(t:T) (H:aj) (l:List bC) (c:C),t.g 8=.c (.ptr 2 0 0)->t.g 9=.c (.ptr 3 0 0)->t.g 14=.c (.ptr p6 0 0)->t.g 16=.c (.ptr p8 0 0)->H[2]?=aa (.box [.f (fi 0),.f (fi 0),.f .aK] 0)->H[3]?=aa (.box oc 0)->H[p6]?=aa (.box [.f (fi I),.f (fi M),.f (fi N),.f (fi O),.f (fi S),.f (fi U),.f (fi W),.f (fi X)] 0)->H[p8]?=aa (.box [.f (fi h.clock),.f (fi h.ba),c] 0)->LR H c 10 (aL l)->(∀i,bt c=aa i->i≠2/\i≠3)->
    (∀g,iA h x [I,M,N,O,S,U,W,X] 0 ⟨h.clock,h.ba,g,l⟩ [I,M,N,O,S,U,W,X] 0)->WP tab vf ab [.code LQ] ⟨t,[],H⟩ Q:=by
   intro t H l c g8 g9 i_ j4 w2 w3 w6 w8 hL u9 hG;obtain⟨g,hg⟩:=hL.exU (aY _);have l3:aQ H (aa 3) (.c (.ptr p8 0 0))=aa (.a [.f (fi h.clock),.f (fi h.ba),c]):=by simp[aQ,aw,w8,aO]
   have l8:aQ H (aa 8) (.c (.ptr p6 0 0))=aa (.a [.f (fi I),.f (fi M),.f (fi N),.f (fi O),.f (fi S),.f (fi U),.f (fi W),.f (fi X)]):=by simp[aQ,aw,w6,aO]
   obtain⟨Ha,a8⟩:=aD (H.set 2 (.box [.f (fi h.clock),.f (fi h.ba),c] 0));have t1:cz H (.ptr 2 0 0) [.f (fi h.clock),.f (fi h.ba),c]=aa Ha:=by rw[a8];simp[cz,w2,bp]
   have s7:Ha[3]?=aa (.box oc 0):=by rw[a8,ae2 (by omega)];exact w3
   obtain⟨Hb,d_⟩:=aD (Ha.set 3 (.box [.f (fi I),.f (fi M),.f (fi N),.f (fi O),.f (fi S),.f (fi U),.f (fi W),.f (fi X)] 0));have t2:cz Ha (.ptr 3 0 0) [.f (fi I),.f (fi M),.f (fi N),.f (fi O),.f (fi S),.f (fi U),.f (fi W),.f (fi X)]=aa Hb:=by rw[d_];simp[cz,s7,bp,oc]
   have y2:Hb[2]?=aa (.box [.f (fi h.clock),.f (fi h.ba),c] 0):=by rw[d_,ae2 (by omega),a8];exact afC (au w2)
   have y3:Hb[3]?=aa (.box [.f (fi I),.f (fi M),.f (fi N),.f (fi O),.f (fi S),.f (fi U),.f (fi W),.f (fi X)] 0):=by rw[d_];exact afC (au s7)
   have v8:=hg Hb 63 (λi y s hi=>by
    have:=u9 i hi;rw[d_,ae2 (by omega),a8,ae2 (by omega)];exact s)
   have m3:aQ Hb (aa 3) (.c (.ptr 2 0 0))=aa (.a [.f (fi h.clock),.f (fi h.ba),c]):=by simp[aQ,aw,y2,aO]
   have m8:aQ Hb (aa 8) (.c (.ptr 3 0 0))=aa (.a [.f (fi I),.f (fi M),.f (fi N),.f (fi O),.f (fi S),.f (fi U),.f (fi W),.f (fi X)]):=by simp[aQ,aw,y3,aO]
   have aff:c.beq c=ae:=by
    rcases hL with⟨_,rfl|rfl⟩|⟨_,b,ep,rfl,_⟩<;>simp[C.beq,FC.beq]
   have z8:aQ Ha (aa 8) (.c (.ptr p6 0 0))=aa (.a [.f (fi I),.f (fi M),.f (fi N),.f (fi O),.f (fi S),.f (fi U),.f (fi W),.f (fi X)]):=by
    have:Ha[p6]?=H[p6]?:=by rw[a8,ae2 (by have:=au (q 3 _ _ K);intro e;rw[<-e]at w6;rw[w2]at w6;simp at w6)]
    simp[aQ,aw,this,w6,aO]
   refine ak (dy (.inl rfl) ?_ ?_)
   case _=>
    simp[g8,g9,i_,j4,l3,l8,t1,t2,-aq,-aU];refine az (hQ _ _ (.t [.a ((⟨h.clock,h.ba,g,l⟩:bR).row.map .f),.a (eR [I,M,N,O,S,U,W,X]),vi 0]) ⟨_,_,_,hG g,rfl⟩ ?_);simp[Km.results,aZ,g8,g9,m3,m8,fC,bX,deep,bR.row,v8,eR,-aq]
   .intro cc u_;rw[afO.1 u_];refine⟨by decide,_,rfl,.inl ⟨by decide,?_⟩⟩;simp[g8,i_,j4,l3,l8,z8,t1,fO,V.beq,iT,C.beq,FC.beq,-aq,-aU]
  have z9:aQ L ab (.c (.ptr p6 0 0))=aa (vi I):=by simp[aQ,aw,A _ _ _ r6]
  apply ak;apply ai;simp[z9,-aq];by_cases J:I=0
  case neg=>
   refine bc (by simp[J]) ?_;exact i9 _ L h.l c7 (by simp) (by simp) (by simp) (by simp) (A 2 _ _ (q 2 _ _ z2)) (A 3 _ _ (q 3 _ _ K)) (A _ _ _ r6) r8 j_ (λi e=>by have:=l_ i e;omega) λg=>.inr (.inr ⟨he,rfl,rfl,rfl,g,.inl ⟨by simp[J],rfl⟩⟩)
  refine al (by simp[J]) ?_;have e1:=A 1 _ _ (q 1 _ _ z1);have sx:cz L (.ptr 1 3 0) (x.aW.row.map .f)=aa L:=by
   simp[e1,aB.row,bC.row,bp];exact sf e1
  unfold Fix at hx;have y_:(x.aW.row.map C.f).length=7:=rfl;apply ai;simp[x3 L e1,hx,y_,sx,-aq,-aU];obtain⟨p9,q_⟩:=aD (L.length);obtain⟨H9,d9⟩:=aD (L++[.box (x.row.map .f) 0]:aj);have r9:H9[p9]?=aa (.box (x.row.map .f) 0):=by rw[d9,q_];simp
  have a_:∀(i:Nat) cs fl,L[i]?=aa (.box cs fl)->H9[i]?=aa (.box cs fl):=λi cs fl s=>by
   rw[d9,afy (au s)];exact s
  have k_:LR H9 c7 10 (aL h.l):=by rw[d9];exact j_.push _
  obtain⟨c9,K9,h_,j7,t7,u7⟩:=Jw k_ (aY _) (by simp;omega) (i:=i) (by simpa using hi) (row:=x.row) rfl r9;have h_:=h_.eq;have z_:aQ L ab (.c (.ptr p8 2 0))=aa (.c c7):=by simp[aQ,aw,r8]
  have k9:∀(j:Nat) cs fl,L[j]?=aa (.box cs fl)->K9[j]?=aa (.box cs fl):=λj cs fl s=>t7.2 j _ (a_ j _ _ s) (k_.qN (a_ j _ _ s));obtain⟨Kc,e9⟩:=aD (K9.set p8 (.box [.f (fi h.clock),.f (fi h.ba),c9] 0));have st9:cz K9 (.ptr p8 2 0) [c9]=aa Kc:=by rw[e9];simp[cz,k9 _ _ _ r8,bp]
  have l48:p8<H9.length:=by have:=au (a_ _ _ _ r8);exact this
  have m4:∀j,bt c9=aa j->4<=j/\j≠p6/\j≠p8:=λj e=>by
   rcases u7 with e1|e1
   .exact l_ j (by rw[<-e1];exact e)
   .rw[e1]at e;cases e;have h3:=au (a_ _ _ _ (A 3 _ _ (q 3 _ _ K)));have h4:=au (a_ _ _ _ (A _ _ _ r6));omega
  have i8:aL (h.l.take i++x::h.l.drop i)=(aL h.l).take i++x.row ::(aL h.l).drop i:=by simp[aL,List.map_take,ahq]
  have t_:LR Kc c9 10 (aL (h.l.take i++x::h.l.drop i)):=by
   rw[e9,i8];exact j7.set (λe=>by have:=m4 _ e;omega) _
  have kc:∀(j:Nat) cs fl,L[j]?=aa (.box cs fl)->j≠p8->Kc[j]?=aa (.box cs fl):=λj cs fl s hj=>by rw[e9,ae2 (Ne.symm hj)];exact k9 j _ _ s
  have lp6:=au r6;have lp3:=au (q 3 _ _ K);refine av (.inl rfl) ?_;simp[z_,x4 L e1,y8,-aq];rw[<-d9,<-q_];simp[h_,st9,-aU];exact i9 _ Kc _ c9 (by simp) (by simp) (by simp) (by simp) (kc 2 _ _ (A 2 _ _ (q 2 _ _ z2)) (by omega)) (kc 3 _ _ (A 3 _ _ (q 3 _ _ K)) (by omega)) (kc _ _ _ (A _ _ _ r6) (by omega)) (by rw[e9];exact afC (au (k9 _ _ _ r8))) t_ (λj e=>by have:=m4 j e;omega) λg=>.inr (.inr ⟨he,rfl,rfl,rfl,g,.inr ⟨by simp[J],i,hi,n_,m_,rfl⟩⟩)
 exact⟨res,Y,c,hG,hp.eq⟩
def mQ:List (List Int)->List Int
 |[]=>e7| r::l=>if r.headD 0=0 then mQ l else r
def wQ:List Nat:=[vh,Ae,fT,qz]
theorem rk:∀{b:List (List Int)},(∀r∈b,r.length=8)->(mQ b).length=8
 |[],_=>rfl
 |r::l,h=>by
  unfold mQ;split
  .exact rk λy d=>h y (afQ _ d)
  .exact h r afN
theorem M9(af u:Int)(g:Tg)(b:List aB)(K:b.length<=1000)(M:b.Pairwise fP)(L:∀s∈b,s.st.Sm)(x:aB)(N:x.st.Sm)(q:(gm af u b x&&!gH b x)=ag) :
  aX tab kh [.c (.f (eI af u)),.c (.f (sl g (an b))),.a (x.row.map .f)]=Eq (.t [qY e7,vi 1]):=aX.eq (by
 refine bH rfl rfl λQ J=>?_;have m:=F7 af u g b K M L x N;have y:x.row.length=7:=rfl;obtain⟨U,A⟩:=aD (sl g (an b));obtain⟨S,z⟩:=aD (eI af u);rw[<-A,<-z]at m ⊢;apply ai;simp[y];obtain⟨l,j⟩:=aD ([bB.box (x.row.map .f) 0,.box [.f (fi 0),.f (fi 0),.f (fi 0),.f (fi 0),.f (fi 0),.f (fi 0),.f (fi 0),.f (fi 0)] 0]:aj);have H:l[0]?=aa (.box (x.row.map .f) 0):=by rw[j];rfl
 have B:l[1]?=aa (.box [.f (fi 0),.f (fi 0),.f (fi 0),.f (fi 0),.f (fi 0),.f (fi 0),.f (fi 0),.f (fi 0)] 0):=by rw[j];rfl
 have F:aQ l (aa 7) (.c (.ptr 0 0 0))=aa (.a (x.row.map .f)):=by simp[aQ,aw,H,aO,aB.row]
 have O:cz l (.ptr 1 0 0) [.f (fi 0),.f (fi 0),.f (fi 0),.f (fi 0),.f (fi 0),.f (fi 0),.f (fi 0),.f (fi 0)]=aa (l.set 1 (.box [.f (fi 0),.f (fi 0),.f (fi 0),.f (fi 0),.f (fi 0),.f (fi 0),.f (fi 0),.f (fi 0)] 0)):=by simp[cz,B,bp]
 rw[<-j];have d:∀t:T,t.g 6=.c (.ptr 1 0 0)->t.g 9=vb ag->WP tab kh ab [.code Bo] ⟨t,[],l⟩ Q:=by
  intro t E I;apply ak;apply ai;simp[I];refine al (by simp) ?_;apply ai;simp[E,O,-aU];refine az (J _ _ ?_);simp[Km.results,aZ,E,au B,aO,qY,e7]
 apply ai;cases v:gm af u b x with
 |false=>
  rw[v]at m;simp[F,m,-aq];exact d _ (by simp) (by simp)
 |true=>
  rw[v,agi,Bool.not_eq_false']at q;rw[v,q]at m;simp[F,m,-aq];exact d _ (by simp) (by simp))
theorem M'(af M:Int)(g:Tg)(y:List aB)(hl:y.length<=1000)(hs:y.Pairwise fP)(hm:∀s∈y,s.st.Sm)(x:aB)(hx:x.st.Sm)(I:(gm af M y x&&!gH y x)=ae)
  (v:List (List Int)) (f_:v.length=4) (h8:∀r∈v,r.length=8)
  (hr:∀(i:Nat) (h:i<4) (K:aj),∃A,Ev tab (.fn (wQ[i]'h)) [.c (.f (eC (eI af M) (sl g (an y)) x))] K (.t [qY (v[i]'(by omega)),vi 0]) A/\Kp K A) :
  aX tab kh [.c (.f (eI af M)),.c (.f (sl g (an y))),.a (x.row.map .f)]=Eq (.t [qY (mQ v),vi 0]):=by
 obtain⟨r,rfl,hp⟩:∃r,r=.t [qY (mQ v),vi 0]/\aX tab kh [.c (.f (eI af M)),.c (.f (sl g (an y))),.a (x.row.map .f)] r:=by
  refine cN (S:=λr=>r=.t [qY (mQ v),vi 0]) We rfl λQ hQ=>?_;have Z:=F7 af M g y hl hs hm x hx;rw[afE,Bool.not_eq_true']at I;rw[I.1,I.2]at Z;have f8:x.row.length=7:=rfl;obtain⟨res,u⟩:=aD (mQ v);have f7:res.length=8:=by rw[u];exact rk h8
  rw[<-u]at hQ;simp only[eC]at Z hr;obtain⟨sd,b_⟩:=aD (sl g (an y));obtain⟨rm,b9⟩:=aD (eI af M);rw[<-b_,<-b9]at Z ⊢;rw[<-b_,<-b9]at hr;obtain⟨cd,d_⟩:=aD ([rm,sd]++x.row);rw[<-d_]at Z hr;apply ai;simp[f8];obtain⟨B,z⟩:=aD ([bB.box (x.row.map .f) 0,.box [.f (fi 0),.f (fi 0),.f (fi 0),.f (fi 0),.f (fi 0),.f (fi 0),.f (fi 0),.f (fi 0)] 0]:aj);have c0:B[0]?=aa (.box (x.row.map .f) 0):=by rw[z];rfl
  have c1:B[1]?=aa (.box [.f (fi 0),.f (fi 0),.f (fi 0),.f (fi 0),.f (fi 0),.f (fi 0),.f (fi 0),.f (fi 0)] 0):=by rw[z];rfl
  have n0:B.length=2:=by rw[z];rfl
  have l7:aQ B (aa 7) (.c (.ptr 0 0 0))=aa (.a (x.row.map .f)):=by simp[aQ,aw,c0,aO,aB.row]
  rw[<-z];have O:∀(t:T) (K:aj) (j:Option aH),t.g 6=.c (.ptr 1 0 0)->t.g 7=vi 0->K[1]?=aa (.box (res.map λn=>.f (fi n)) 0)->Q j ⟨t,[],K⟩:=by
   intro t K j d g7 L;refine hQ _ _ _ rfl ?_;refine⟨rfl,.t [qY res,vi 0],?_,?_⟩
   .simp[Km.results,cu,aZ,d,g7,aQ,aw,L,aO,f7,afM,qY]
   .have hx:(res.map λn=>C.f (fi n))=(res.map λn=>fi n).map C.f:=by simp
    simp only[qY,hx];generalize (res.map λn=>fi n)=ys;simp[fC,bX,aZ,deep]
  have go:∀t:T,t.g 6=.c (.ptr 1 0 0)->t.g 8=.c (.f (.fp cd 0))->t.g 9=vb ae->WP tab kh ab [.code Bo] ⟨t,[],B⟩ Q:=by
   intro t d g8 g9;apply ak;apply ai;simp[g9];refine bc (by simp) ?_;apply ak;apply ai;obtain⟨J,q⟩:=aD (B++[bB.box (wQ.map λf=>C.bm f [.f (.fp cd 0)]) 0]:aj);have k1:Kp B J:=by rw[q];exact Kp.push _ _
   have b1:J[2]?=aa (.box (wQ.map λf=>C.bm f [.f (.fp cd 0)]) 0):=by rw[q,<-n0];simp
   have n1:J.length=3:=by rw[q];simp[n0]
   simp only[wQ,afS,afW]at q;have a_:bo J (.sl 2 0 4 4 0 1)=aa 4:=by simp[bo,b1]
   simp[g8,n0];rw[<-q];simp[a_];refine cD 4 (λj t K=>t.g 6=.c (.ptr 1 0 0)/\t.g 32=.c (.sl 2 0 4 4 0 1)/\Kp J K/\mQ (v.drop j)=res) (by omega) (by decide) (by decide) (by simp) (by simp) ⟨by simp[d],by simp,⟨afJ _,λ_ _=>rfl⟩,by simpa using u.symm⟩ ?_ ?_
   .rintro j t K hj ⟨d,b,hK,H⟩ Y L next
    have a8:j<v.length:=by omega
    obtain⟨A,e_,d9⟩:=hr j hj K;have N:=hK.get b1;have m:=h8 _ (afH a8);rw[afL a8,mQ]at H;have i1:bw K 1 ab (.c (.sl 2 0 4 4 0 1)) (vi (j:Int))=aa (.c (.ptr 2 j 0)):=by
     simp[bw,show kQ (vi (j:Int))=aa (j:Int) from rfl,N];omega
    have i2:aQ K ab (.c (.ptr 2 j 0))=aa (.c (.bm (wQ[j]'hj) [.f (.fp cd 0)])):=by
     rw[aq,N];exact xj (by rw[agl,afB (show j<wQ.length from hj)];rfl)
    generalize v[j]=r at *;generalize wQ[j]=f at *;refine aI ?_;apply ai;simp[b,Y,i1,i2,-aq];obtain⟨E,F⟩:=aD (A++[bB.box (r.map λn=>.f (fi n)) 0]);have d2:E[A.length]?=aa (.box (r.map λn=>.f (fi n)) 0):=by rw[F];simp
    have a9:Kp J E:=(hK.tr d9).tr (by rw[F];exact Kp.push _ _);have l0:aQ E ab (.c (.ptr A.length 0 0))=aa (vi (r.headD 0)):=by
     match r,m with
     |p0::_,_=>simp[aQ,aw,d2]
    have l8:aQ E (aa 8) (.c (.ptr A.length 0 0))=aa (.a (r.map λn=>.f (fi n))):=by
     simp[aQ,aw,d2,aO,m,afM]
    apply ak;refine av (.inl rfl) ?_;simp[e_.eq,qY,m,-aq];rw[<-F]
    suffices c_:∀w:T,w.g 6=.c (.ptr 1 0 0)->w.g 12=.c (.ptr A.length 0 0)->w.g 13=vi 0->w.g 32=.c (.sl 2 0 4 4 0 1)->w.g 33=vi (4:Nat)->w.g 34=vi (j:Nat)->WP tab kh ab [.code HW,.inBlock 1,.code (uu 34 52),.inLoop (ku 0 34 33 35 52 HV),.inBlock 0,.code HX] ⟨w,[],E⟩ Q by
     exact c_ _ (by simp[d]) (by simp) (by simp) (by simp[b]) (by simpa using L) (by simp[Y])
    clear d b Y L;intro w d U W b L Y;apply ak;refine av (.inl rfl) ?_;simp[U,W,l0,-aq];by_cases h0:r.headD 0=0
    .rw[bu h0]at H;refine aG (by simpa using h0) (aS ?_);exact aA (next _ _ ⟨by simp[d],by simp[b],a9,H⟩ (by simp[Y]) (by simp[L]))
    .rw[bG h0]at H;refine al (by simpa using h0) ?_;have l:=a9.get (k1.get c1);obtain⟨K3,X⟩:=aD (E.set 1 (.box (r.map λn=>.f (fi n)) 0));have s1:cz E (.ptr 1 0 0) (r.map λn=>.f (fi n))=aa K3:=by
      rw[X]
      match r,m with
      |[p0,p1,p2,p3,p4,p5,p6,p7],_=>simp[cz,l,bp]
     apply ai;simp[d,U,W,l8,m,s1,-aq,-aU];refine az (O _ _ _ (by simp[d]) (by simp) ?_);rw[X,afC (au l),H]
   .rintro t K ⟨d,b,hK,H⟩ - -;have e9:res=e7:=by
     rw[<-H,agZ (by omega)];rfl
    have l:=hK.get (k1.get c1);have s1:cz K (.ptr 1 0 0) [.f (fi 0),.f (fi 0),.f (fi 0),.f (fi 0),.f (fi 0),.f (fi 0),.f (fi 0),.f (fi 0)]=aa (K.set 1 (.box [.f (fi 0),.f (fi 0),.f (fi 0),.f (fi 0),.f (fi 0),.f (fi 0),.f (fi 0),.f (fi 0)] 0)):=by simp[cz,l,bp]
    apply ai;simp[d,s1,-aU];refine az (O _ _ _ (by simp[d]) (by simp) ?_);rw[afC (au l),e9];rfl
  apply ai;simp[l7,Z,-aq];exact go _ (by simp) (by simp) (by simp)
 exact hp.eq
def vS(s:aN)(d:Int):Bool:=s.cs.any λc=>c.ts.any λt=>t.fs.all λf=>decide (d % f.zq=f.BY.headD 0)
def RM(s:aN):Int:=match s.cs with
 |c::_=>c.min| []=>0
theorem kj.has{s:aN}{n p mi:Int}(h:kj s n p mi)(d:Int):vS s d=kX n p d:=by
 simp[vS,h.cs,td,pd,kX];exact decide_eq_decide.2 Iff.rfl
theorem kj.min{s:aN}{n p mi:Int}(h:kj s n p mi):RM s=mi:=by simp[RM,h.cs]
def Yv(s:aN)(q:Int):List Nat:=(List.range 7).filter λj=>vS s (7*q+(j:Int))
def Yw(s:aN)(q:Int):List aE:=(Yv s q).map λj:Nat=>cm s.len (RM s) (7*q+(j:Int))
def ir(s:aN)(q:Int):List aE:=if q<0 then []else Yw s q
def xJ(s:aN)(q:Int):Int:=if q<0 then 0 else s.len*((Yv s q).length:Int)
theorem P7(s:aN)(q:Int):(Yw s q).Pairwise aE.lt:=by
 unfold Yw Yv;refine List.pairwise_map.2 (List.Pairwise.imp (λ{a b} h=>?_) (List.pairwise_lt_range.filter _));unfold aE.lt cm;simp only;omega
theorem Sz{s:aN}{n p mi:Int}(h:kj s n p mi){q:Int}(z:0<=q)(x:aE):x∈Yw s q↔Dt s n p mi q x:=by
 have h0:=h.m0;have u:=h.m1;have l:Jk q mi=7*q:=by unfold Jk;omega
 unfold Yw Yv Dt;rw[h.min,l];constructor
 .intro m;obtain⟨j,g,rfl⟩:=af6.1 m;obtain⟨g,b⟩:=agB.1 g;have:=agz.1 g;rw[h.has]at b;exact⟨7*q+j,rfl,by omega,by omega,b⟩
 .rintro⟨d,rfl,v,y,b⟩;refine af6.2 ⟨(d-7*q).toNat,agB.2 ⟨agz.2 (by omega),?_⟩,?_⟩
  .rw[h.has,show 7*q+(((d-7*q).toNat:Nat):Int)=d by omega];exact b
  .rw[show 7*q+(((d-7*q).toNat:Nat):Int)=d by omega]
theorem EK:∀{l m:List aE},l.Pairwise aE.lt->m.Pairwise aE.lt->(∀x,x∈l↔x∈m)->l=m
 |[],[],_,_,_=>rfl| [],y::m,_,_,h=>absurd ((h y).2 afN) (by simp)
 |x::l,[],_,_,h=>absurd ((h x).1 afN) (by simp)
 |x::l,y::m,j,q,h=>by
  have a1:=agt.1 j;have d:=agt.1 q;have e:x=y:=by
   rcases afZ.1 ((h x).1 afN)with e|e
   .exact e
   .rcases afZ.1 ((h y).2 afN)with g|g
    .exact g.symm
    .exact absurd (aE.lt_trans (d.1 x e) (a1.1 y g)) aE.AS
  subst e;have:l=m:=EK a1.2 d.2 λz=>by
   constructor
   .intro b;rcases afZ.1 ((h z).1 (afQ _ b))with e|e
    .exact absurd (e▸a1.1 z b) aE.AS
    .exact e
   .intro b;rcases afZ.1 ((h z).2 (afQ _ b))with e|e
    .exact absurd (e▸d.1 z b) aE.AS
    .exact e
  rw[this]
theorem yF(s:aN){n p mi:Int}(b:kj s n p mi)(q:Int)(j:-1<=q)(l:q<=100):∃g,aX tab my [.a (s.row.map .f),vi q]=Eq (.c (.f (sl g (aC (ir s q))))):=by
 obtain⟨g,L,⟨m,u⟩,-,v⟩:=IC s b q j l;refine⟨g,?_⟩;have e:L=ir s q:=by
  unfold ir;split
  .refine List.eq_nil_iff_forall_not_mem.2 λx A=>?_;obtain⟨d,-,y,z,-⟩:=(u x).1 A;have h0:=b.m0;have m:=b.m1;unfold Jk at y z;omega
  .exact EK m (P7 s q) λx=>by rw[u,Sz b (by omega)]
 rw[<-e];exact v
theorem C8(len mi q:Int):∀L:List Nat,fF (L.map λj:Nat=>cm len mi (7*q+(j:Int)))=len*(L.length:Int)
 |[]=>by simp[fF]
 |j::r=>by
  have b:=C8 len mi q r;rw[afS,fF,b,agm,show((r.length+1:Nat):Int)=(r.length:Int)+1 by omega,Int.mul_add];simp only[cm];omega
theorem C9(s:aN)(q:Int):fF (ir s q)=xJ s q:=by
 unfold ir xJ;split
 .rfl
 .exact C8 ..
theorem Hh(s:aN)(q:Int):(Yv s q).length<=7:=by
 have:=agJ (λj:Nat=>vS s (7*q+(j:Int))) (List.range 7);rw[List.length_range]at this;exact this
theorem rS(s:aN)(q:Int):(ir s q).length<=7:=by
 unfold ir;split
 .simp
 .unfold Yw;rw[afT];exact Hh s q
theorem A0{s:aN}{q:Int}{x:aE}(h:x∈ir s q):∃j:Nat,j<7/\0<=q/\vS s (7*q+j)=ae/\x=cm s.len (RM s) (7*q+j):=by
 unfold ir at h;split at h
 .simp at h
 .obtain⟨j,g,rfl⟩:=af6.1 h;obtain⟨b,d⟩:=agB.1 g;exact⟨j,agz.1 b,by omega,d,rfl⟩
theorem ON{s:aN}{n p mi:Int}(h:kj s n p mi)(q:Int):0<=xJ s q/\xJ s q<=2800:=by
 have l0:=h.l0;have g:=h.l1;have j:=Hh s q;unfold xJ;split
 .omega
 .constructor
  .exact Int.mul_nonneg (by omega) (by omega)
  .have:=Int.mul_le_mul (a:=s.len) (b:=((Yv s q).length:Int)) (c:=400) (d:=7) g (by omega) (by omega) (by omega);omega
def ek:List aN->Int->Int
 |[],_=>0| s::r,q=>xJ s q+ek r q
theorem JC(a b:List aN)(q:Int):ek (a++b) q=ek a q+ek b q:=by
 induction a with
 |nil=>simp[ek]| cons x a d=>simp only[agu,ek,d];omega
def pZ(T:List aN):Prop:=∀s∈T,∃n p mi,kj s n p mi
theorem pZ.tl{s:aN}{r:List aN}(h:pZ (s::r)):pZ r:=λx b=>h x (afQ _ b)
theorem AP:∀{T:List aN} (q:Int),pZ T->0<=ek T q/\ek T q<=2800*(T.length:Int)
 |[],_,_=>by simp[ek]
 |s::r,q,h=>by
  obtain⟨n,p,mi,b⟩:=h s afN;have d:=ON b q;have g:=AP q h.tl;simp only[ek,agm];omega
theorem KB(T:List aN)(q:Int):∀{b:Int},pZ T->T.length<=2000->0<=b->b<=1000000000->po (λs=>xJ s q) b T=b+ek T q:=by
 induction T with
 |nil=>intro b _ _ _ _;simp[po,ek]
 |cons s r j=>
  intro b h d h0 g;have key:∀(r:List aN) (b:Int),pZ r->r.length<=2000->0<=b->b+2800*(r.length:Int)<=2000000000->po (λs=>xJ s q) b r=b+ek r q:=by
   intro r;induction r with
   |nil=>intro b _ _ _ _;simp[po,ek]
   |cons s r j=>
    intro b h d h0 g;obtain⟨n,p,mi,l⟩:=h s afN;have m:=ON l q;simp only[agm]at d g;rw[po,bg,j _ h.tl (by omega) (by omega) (by omega),ek];omega
  exact key (s::r) b h d h0 (by simp only[agm]at d ⊢;omega)
def aap(O:List aE):Prop:=∀x∈O,0<x.to-x.fr/\x.to-x.fr<=10000
theorem FF:∀{O:List aE},aap O->0<=fF O/\fF O<=10000*(O.length:Int)
 |[],_=>by simp[fF]
 |x::r,h=>by
  have d:=h x afN;have g:=FF (O:=r) λy b=>h y (afQ _ b);simp only[fF,agm];omega
theorem OM{s:aN}{n p mi:Int}(h:kj s n p mi)(q:Int):aap (ir s q):=λx b=>by
 obtain⟨j,-,-,-,rfl⟩:=A0 b;have:=h.l0;have:=h.l1;simp only[cm];omega
theorem rB{s:aB}(h:iL s):Is s:=by
 obtain⟨m,r,t,z,n,p,mi,le,rfl,b⟩:=h;obtain⟨k,j,g⟩:=b.i0;refine⟨b.r0,b.r1,by simp[jv],λc d=>?_,by have:=b.l0;show 1<=le;omega,b.l1,rfl⟩;simp[jv]at d;rw[d];show 0<=mi/\mi<=1180;omega
theorem rC{s:aB}(h:iL s):∃n p mi,kj s.st n p mi:=by
 obtain⟨m,r,t,z,n,p,mi,le,rfl,b⟩:=h;obtain⟨k,g,d⟩:=b.i0;exact⟨n,p,mi,wy ⟨b.n0,b.n1,b.p0,b.p1⟩ (by omega) (by omega) (by have:=b.l0;omega) (by have:=b.l1;omega)⟩
theorem Ep{s:aB}(h:iL s):s.st.Sm:=by
 obtain⟨m,r,t,z,n,p,mi,le,rfl,b⟩:=h;exact Az ..
theorem Ra{s:aB}(h:iL s):V.beq (.a (s.st.row.map .f)) (.a (s.st.row.map .f))=ae:=by
 obtain⟨m,r,t,z,n,p,mi,le,rfl,b⟩:=h;show V.beq (.a ((qU n p mi le).map .f)) (.a ((qU n p mi le).map .f))=ae;simp[qU,fY,V.beq,C.beq,FC.beq,iT]
theorem wu{s:aB}(h:iL s){af:Int}(x:0<=af)(a1:af<=39)(g j:Tg):pT (gq af s g j):=by
 obtain⟨m,r,t,z,n,p,mi,le,rfl,b⟩:=h;obtain⟨k,y,u⟩:=b.i0;have l0:=b.l0;have A:=b.l1;have l:mP n p:=⟨b.n0,b.n1,b.p0,b.p1⟩
 have v:=nz (m:=0) (r:=0) (t:=0) (z:=0) (mi:=mi) (le:=le+0+af) l (by omega) (by omega) (by omega) (by omega);have q:mi-0=mi:=by omega
 refine⟨by show 1<=le+0+af/\le+0+af<=400;omega,by simp[gq,jv],λ{c} d=>?_,?_,?_,λc d=>?_,rfl⟩
 .simp[gq,jv,om]at d;rw[d];show 0<=mi/\mi<=1180;omega
 .have:=Az m r t z n p mi (le+0+af);simpa[aN.Sm,gq,jv,om]using this
 .have:da (gq af (jv m r t z n p mi le) g j)=da (jv 0 0 0 0 n p mi (le+0+af)).st:=by
   show da ⟨g,[⟨.fs,[⟨.fs,[⟨.nil,[],0,n,.fs,[p]⟩]⟩],mi-0⟩],le+0+af,j,[]⟩=da ⟨.fs,[⟨.fs,[⟨.fs,[⟨.nil,[],0,n,.fs,[p]⟩]⟩],mi⟩],le+0+af,.nil,[]⟩;rw[q];rfl
  rw[this];exact v
 .simp[gq,jv,om]at d;rw[d];exact⟨n,p,l,rfl⟩
theorem JP{s:aB}(h:iL s){af:Int}(j:0<=af)(a1:af<=39)(b d:Tg):aX tab Ir [.a ((gq af s b d).row.map .f)]=Eq (vb ae):=by
 have g:=wu h j a1 b d;have:=(lI _ g.sm).eq;rwa[g.v]at this
def Z1(af d:Int)(b:List aB)(x:aB)(g:List Int):Prop:=
 ∃(mt:aB->Bool) (F:aB->FS) (n p mi:Int),kj x.st n p mi/\(∃k:Nat,k<60/\mi=20*k)/\
  (∀s∈b,(mt s=ae↔mM (gq af x .nil .nil) (gq af s .nil .nil))/\fA (-2251799813685248) (λX Y=>fR (gq af x .nil .nil) X/\fR (gq af s .nil .nil) Y) (F s))/\
  g=mQ [if 10<x.size then [14,0,0,0,0,0,0,0]else [0,0,0,0,0,0,0,0],nD n p mi x.st.len,fh af x mt (λs=>(F s).X) (λs=>(F s).Y) (λs=>(F s).found) (b.filter λs=>Fs af d s.room x.room),
   uw (if(lZ x.dg (bI af d x.room).q).2 then tz (lZ x.dg (bI af d x.room).q).1 (15+7*(m6 1 (bJ x.room x.dg b++[x.st]):Int)) (ir x.st) (ek (bJ x.room x.dg b)) 200 (-1)else ab)]
theorem FY:∀(b:List (List Int)),((mQ b).headD 0=0/\mQ b=e7)\/((mQ b).headD 0≠0/\mQ b∈b)
 |[]=>.inl ⟨rfl,rfl⟩
 |r::l=>by
  unfold mQ;split
  .rcases FY l with h|⟨h,d⟩
   .exact .inl h
   .exact .inr ⟨h,afQ _ d⟩
  .rename_i h;exact .inr ⟨h,afN⟩
theorem vL{b:List aB}(d:∀s∈b,iL s)(r t:Int):pZ (bJ r t b):=λs h=>by
 obtain⟨y,g,rfl⟩:=af6.1 h;exact rC (d y (agB.1 g).1)
theorem CV:(RK Dx [.c (.f .aK),.c (.f .aK)] (vb ae),Eo.map λx=>RK Dv [mx x.1 x.2,mx x.1 x.2] (vb ae)) =
  ((vb ae=vb ae),Eo.map λ_=>(vb ae=vb ae)):=by kernel_rfl
theorem G4:aX tab Dx [.c (.f .aK),.c (.f .aK)]=Eq (vb ae)/\∀n p,mP n p->aX tab Dv [mx n p,mx n p]=Eq (vb ae):=
 ⟨du (afP CV).1,λn p h=>nN (args:=λx:Int × Int=>[mx x.1 x.2,mx x.1 x.2]) (res:=λ_=>vb ae) (afP CV).2 (dn h)⟩
theorem FD(s:aN){n p mi:Int}(v:kj s n p mi)(O:s.xg=.nil):aX tab VB [.a (s.row.map .f),.a (s.row.map .f)]=Eq (vb ae):=Kf.eq (by
 have N:s.cs.length=1:=by rw[v.cs];rfl
 have A:aX tab Dx [.c (.f (sl s.xg (aC s.xs))),.c (.f (sl s.xg (aC s.xs)))]=Eq (vb ae):=by rw[v.xs,O];exact G4.1
 refine cr rfl rfl λH Q M=>?_;apply ai;simp[aN.row];apply ak;apply ai;simp[A];refine bc (by simp) ?_;apply ak;apply ai;simp;obtain⟨u,b⟩:=aD (H++[.box [.f (sl s.cg (aP s.cs)),.f (fi s.len),.f (sl s.xg (aC s.xs))] 0,.box [.f (sl s.cg (aP s.cs)),.f (fi s.len),.f (sl s.xg (aC s.xs))] 0]:aj);have I:u[H.length]?=aa (.box [.f (sl s.cg (aP s.cs)),.f (fi s.len),.f (sl s.xg (aC s.xs))] 0):=by rw[b];simp
 have S:u[H.length+1]?=aa (.box [.f (sl s.cg (aP s.cs)),.f (fi s.len),.f (sl s.xg (aC s.xs))] 0):=by rw[b];simp
 have y:∃J,u=H++J:=⟨_,b⟩
 rw[<-b];refine bA s.cs.length (λj t H'=>t.g 2=.c (.ptr H.length 0 0)/\t.g 3=.c (.ptr (H.length+1) 0 0)/\H'=u) (by omega) rfl (by simp) ⟨by simp,by simp,rfl⟩ ?_ ?_ ?_
 .rintro j t _ L m ⟨d,l,rfl⟩ g K;simp[g,d,I];exact K _ ⟨by simp[d],by simp[l],rfl⟩ (by simp[g]) (by simp)
 .rintro j t _ m ⟨d,l,rfl⟩ g next
  have B:=λH:aj=>kU (H:=H) (cE s.cs) (dA m) rfl;have E:=λH:aj=>dw (H:=H) (k:=1) (cE s.cs) (dA m) rfl;have F:=λH:aj=>uI (H:=H) (k:=0) (n:=1) (cE s.cs) (dA m) (by decide);simp[bK.row]at B E F;have z:j=0:=by omega
  have x:s.cs[j]=⟨.fs,[td n p],mi⟩:=by subst z;simp[v.cs]
  rw[x]at B E F;have q:=G4.2 n p v.sm;change aX tab Dv [.a [.f (sl .fs (aT [td n p]))],.a [.f (sl .fs (aT [td n p]))]]=_ at q;refine aI ?_;apply ai;simp[g,d,l,I,S,a7,m,B,E,F,q];exact aG (by simp) (aS (aA (next _ _ ⟨by simp[d],by simp[l],rfl⟩ (by simp[g]))))
 .rintro t _ ⟨d,l,rfl⟩ g;apply ai;simp;refine az (M _ _ ?_);simp[y])
theorem Ky(s:aB)(g:iL s):aX tab VY [.a (s.row.map .f),.a (s.row.map .f)]=Eq (vb ae):=Kf.eq (by
 obtain⟨n,p,mi,j⟩:=rC g;have q:s.st.xg=.nil:=by obtain⟨m,r,t,z,n,p,mi,le,rfl,b⟩:=g;rfl
 have d:=FD s.st j q;simp[aN.row]at d;refine cr rfl rfl λH Q l=>?_;apply ai;simp[aB.row];apply ai;simp[d];refine az (l _ _ ?_);simp)
theorem Py(s:bC)(g:iL s.aW):aX tab VX [.a (s.row.map .f),.a (s.row.map .f)]=Eq (vb ae):=Kf.eq (by
 have b:=Ky s.aW g;simp[aB.row]at b;refine cr rfl rfl λH Q d=>?_;apply ai;simp[bC.row];apply ai;simp[b];refine az (d _ _ ?_);simp)
theorem wT(a a':bR)(M:a.l.length<=1048576)(F:∀s∈a.l,iL s.aW)(y:a.clock=a'.clock)(z:a.ba=a'.ba)(A:a.l=a'.l):aX tab vd [.a (a.row.map .f),.a (a'.row.map .f)]=Eq (vb ae):=Kf.eq (by
 refine cr rfl rfl λH Q E=>?_;apply ai;simp[bR.row,<-y,<-z,<-A];apply ak;apply ai;simp;refine bc (by simp) ?_;apply ak;apply ai;simp;obtain⟨m,b⟩:=aD (H++[.box [.f (fi a.clock),.f (fi a.ba),.f (sl a.lg (aL a.l))] 0,.box [.f (fi a.clock),.f (fi a.ba),.f (sl a'.lg (aL a.l))] 0]:aj);have x:m[H.length]?=aa (.box [.f (fi a.clock),.f (fi a.ba),.f (sl a.lg (aL a.l))] 0):=by rw[b];simp
 have K:m[H.length+1]?=aa (.box [.f (fi a.clock),.f (fi a.ba),.f (sl a'.lg (aL a.l))] 0):=by rw[b];simp
 have u:∃J,m=H++J:=⟨_,b⟩
 rw[<-b];refine bA a.l.length (λj t H'=>t.g 2=.c (.ptr H.length 0 0)/\t.g 3=.c (.ptr (H.length+1) 0 0)/\H'=m) (by omega) rfl (by simp) ⟨by simp,by simp,rfl⟩ ?_ ?_ ?_
 .rintro j t _ L q ⟨d,l,rfl⟩ g B;simp[g,d,x];exact B _ ⟨by simp[d],by simp[l],rfl⟩ (by simp[g]) (by simp)
 .rintro j t _ q ⟨d,l,rfl⟩ g next
  have I:=λH:aj=>bE (H:=H) (aY a.l) (cJ q);have v:=Py a.l[j] (F _ (afH q));refine aI ?_;apply ai;simp[g,d,l,x,K,a7,q,I,v];exact aG (by simp) (aS (aA (next _ _ ⟨by simp[d],by simp[l],rfl⟩ (by simp[g]))))
 .rintro t _ ⟨d,l,rfl⟩ g;apply ai;simp;refine az (E _ _ ?_);simp[u])
def ot(c:List Int):List FC:=c.map λx=>.int .u8 x
def xy(L:List (List Int)):List (List FC):=L.map ot
def gK(k:Nat)(c:List Int):Prop:=c.length=k/\∀x∈c,0<=x/\x<=255
theorem Dc{k:Nat}{L:List (List Int)}(h:∀c∈L,gK k c):cA k (xy L):=by
 intro r d;obtain⟨c,b,rfl⟩:=af6.1 d;simp[ot,(h c b).1]
@[simp] theorem aci (L:List (List Int)):(xy L).length=L.length:=by simp[xy]
theorem PY{L:List (List Int)}{j:Nat}(b:j<L.length):(xy L)[j]?=aa (ot L[j]):=by simp[xy,b]
def iD:List Int->aB
 |[d,g,j,l,b,m,q,s]=>jv (1+d % 7) (g % 3) (j % 3) (1+l % 12) (1+b % 6) (m % (1+b % 6)) (20*(q % 60)) (10+10*(s % 30))| _=>jv 0 0 0 0 0 0 0 0
theorem Oj{c:List Int}(h:c.length=8):∃b d g j l m q s,c=[b,d,g,j,l,m,q,s]:=by
 match c,h with
 |[b,d,g,j,l,m,q,s],_=>exact⟨_,_,_,_,_,_,_,_,rfl⟩
theorem mR{c:List Int}(h:gK 8 c):iL (iD c)/\1<=(iD c).meet/\(iD c).meet<=7:=by
 obtain⟨b,j,l,m,q,s,d,u,rfl⟩:=Oj h.1;have g:=h.2 d (by simp);refine⟨⟨_,_,_,_,_,_,_,_,rfl,?_⟩,?_,?_⟩
 .refine⟨by omega,by omega,by omega,by omega,by omega,by omega,by omega,by omega,by omega,by omega,?_,?_,⟨(d % 60).toNat,by omega,by omega⟩,by omega,by omega⟩
  .exact Int.emod_nonneg _ (by omega)
  .exact Int.emod_lt_of_pos _ (by omega)
 .show 1<=1+b % 7;omega
 .show 1+b % 7<=7;omega
theorem Ou{s:aB}(h:iL s){m:Int}(h0:1<=m)(d:m<=22):iL { s with meet:=m }:=by
 obtain⟨_,r,t,z,n,p,mi,le,rfl,b⟩:=h;exact⟨m,r,t,z,n,p,mi,le,rfl,⟨h0,d,b.r0,b.r1,b.t0,b.t1,b.z0,b.z1,b.n0,b.n1,b.p0,b.p1,b.i0,b.l0,b.l1⟩⟩
theorem BS{c:List Int}(h:gK 8 c):aX tab Mw [.a ((ot c).map .f)]=Eq (.a ((iD c).row.map .f)):=by
 obtain⟨b,d,g,j,l,m,q,s,rfl⟩:=Oj h.1;exact PJ b d g j l m q s h.2
def oq(i:Int):List (List Int)->List aB
 |[]=>[]| c::r=>{ iD c with meet:=20+i }::oq (i+1) r
theorem C4(a:List Int):∀(l:List (List Int)) (i:Int),oq i (l++[a])=oq i l++[{ iD a with meet:=20+(i+l.length) }]
 |[],i=>by simp[oq]
 |c::r,i=>by
  have:=C4 a r (i+1);simp only[agu,oq,this,agm];rw[show i+1+(r.length:Int)=i+((r.length+1:Nat):Int) by omega]
theorem xe:∀(l:List (List Int)) (i:Int),(oq i l).length=l.length
 |[],_=>rfl| c::r,i=>by simp[oq,xe r]
theorem xf:∀{l:List (List Int)} {i:Int} {s:aB},s∈oq i l->∃c∈l,∃k:Nat,k<l.length/\s = { iD c with meet:=20+(i+k) }
 |[],_,_,h=>by simp[oq]at h
 |c::r,i,s,h=>by
  rcases afZ.1 h with rfl|h
  .exact⟨c,afN,0,by simp,by simp⟩
  .obtain⟨d,b,k,g,e⟩:=xf h;refine⟨d,afQ _ b,k+1,by simpa using g,?_⟩;rw[e,show i+1+(k:Int)=i+((k+1:Nat):Int) by omega]
theorem xd:∀(l:List (List Int)) (i:Int),kv (oq i l)
 |[],_=>List.Pairwise.nil
 |c::r,i=>by
  refine agt.2 ⟨λs b=>?_,xd r (i+1)⟩;obtain⟨d,-,k,-,rfl⟩:=xf b;simp only[cj,decide_eq_false_iff_not];omega
theorem C2(g0:Tg)(L:List (List Int))(Z:∀c∈L,gK 8 c)(hl:L.length<=9223372036854775807):∃g,aX tab Mx [.c (.f (sl g0 (xy L)))]=Eq (.c (.f (sl g (an (oq 0 (L.take 3)))))):=by
 obtain⟨r,⟨g,rfl⟩,hp⟩:∃r,(∃g,r=.c (.f (sl g (an (oq 0 (L.take 3))))))/\aX tab Mx [.c (.f (sl g0 (xy L)))] r:=by
  refine cN rfl rfl λQ hQ=>?_;have q:∀J:aj,bo J (.f (sl g0 (xy L)))=aa L.length:=λJ=>by simp
  apply ai;simp;apply ai;simp;apply ak;apply ai;simp;obtain⟨n,hn⟩:=aD (min L.length 3);refine bA n (λj t J=>t.g 0=.c (.f (sl g0 (xy L)))/\∃c,t.g 3=.c c/\LR J c 7 (an (oq 0 (L.take j)))) (by omega) rfl (by simp) ⟨by simp,.f .aK,by simp,by simpa[an,oq]using LR.nil [] 7⟩ ?_ ?_ ?_
  .rintro j t J K hj ⟨b,c,B,d⟩ l a;by_cases E:j<L.length
   .simp[l,b,q,E];exact a _ ⟨by simp[b],c,by simp[B],d⟩ (by simp[l]) (by simp;omega)
   .simp[l,b,q,E];exact a _ ⟨by simp[b],c,by simp[B],d⟩ (by simp[l]) (by simp;omega)
  .rintro j t J hj ⟨b,c,B,d⟩ l next
   have z:j<L.length:=by omega
   have m:=λH:aj=>a7 (H:=H) (g:=g0) (rows:=xy L) (sz:=8) (k:=.i64) (i:=(j:Int)) (by omega) (by simp;omega);have I:=λH:aj=>bE (H:=H) (Dc Z) (PY z);simp only[afU]at m;have O:=BS (Z _ (afH z));have Y:L.take (j+1)=L.take j++[L[j]]:=by rw[agC,afB z];rfl
   have y:oq 0 (L.take (j+1))=oq 0 (L.take j)++[{ iD L[j]with meet:=20+j }]:=by
    rw[Y,C4,af2,show min j L.length=j by omega];simp
   generalize L[j]=cl at *;obtain⟨s,hs⟩:=aD (iD cl);rw[<-hs]at O y;have X:s.row.length=7:=rfl;obtain⟨S,v⟩:=aD (J++[bB.box (s.row.map .f) 0]);have U:S[J.length]?=aa (.box (s.row.map .f) 0):=by rw[v];simp
   have E:=d.push [bB.box (s.row.map .f) 0];rw[<-v]at E;refine aI ?_;apply ai;simp[b,l,m,I,O,X,-aq];rw[<-v];obtain⟨u,M⟩:=aD ({ s with meet:=20+(j:Int) }:aB);rw[<-M]at y;obtain⟨A,x⟩:=aD (S.set J.length (.box (u.row.map .f) 0));have s1:cz S (.ptr J.length 0 0) [.f (fi (20+(j:Int)))]=aa A:=by rw[x,M];simp[cz,U,bp,aB.row]
   have f:A[J.length]?=aa (.box (u.row.map .f) 0):=by rw[x];exact afC (au U)
   have l2:aQ A (aa 7) (.c (.ptr J.length 0 0))=aa (.a (u.row.map .f)):=by simp[aQ,aw,f,aO,aB.row]
   have h2:LR A c 7 (an (oq 0 (L.take j))):=by rw[x];exact E.set (E.qN U) _
   apply ai;simp[l,bg (n:=20+(j:Int)),s1,-aU];have h3:=h2.push [bB.box (u.row.map .f) 0];have o:(A++[bB.box (u.row.map .f) 0])[A.length]?=aa (.box (u.row.map .f) 0):=by simp
   obtain⟨e,J3,p,w,e3,e4⟩:=h3.app (aR _) (by decide) (row:=u.row) rfl (bytes:=88) (by simp[bU,an,xe];omega) o;have N:u.row.length=7:=rfl;refine av (.inl rfl) ?_;simp[B,l2,N,p,-aq];refine aA (next _ _ ⟨by simp[b],e,by simp,?_⟩ (by simp[l]));rw[y];simpa[an]using w
  .rintro t J ⟨b,c,B,d⟩ l;have W:L.take n=L.take 3:=by
    rw[hn];rcases Nat.le_total L.length 3 with h|h
    .rw[Nat.min_eq_left h,agc,afM h]
    .rw[Nat.min_eq_right h]
   rw[W]at d;obtain⟨g,F⟩:=d.ex (aR _) 63;change eg deep J c=_ at F;apply ai;simp[B];refine az (hQ _ _ _ ⟨g,rfl⟩ ?_);simp[F]
 exact⟨g,hp.eq⟩
structure jJ where
 af:Int
 qu:Int
 lg:Tg
 L:List (List Int)
 og:Tg
 O:List (List Int)
def jJ.row(p:jJ):List FC:=[.int .u8 p.af,.int .u16 p.qu,sl p.lg (xy p.L),sl p.og (xy p.O)]
structure qB(p:jJ):Prop where
 a0:0<=p.af
 a1:p.af<=255
 q0:0<=p.qu
 q1:p.qu<=65535
 L:∀c∈p.L,gK 8 c
 O:∀c∈p.O,gK 11 c
 Ll:p.L.length<=9223372036854775807
 Ol:p.O.length<=9223372036854775807
def jJ.l0(p:jJ):List aB:=oq 0 (p.L.take 3)
theorem OT(p:jJ)(h:qB p):∃g,aX tab yA [.a (p.row.map .f)]=Eq (.a [.f (eI (p.af % 40) (p.qu % 3000)),.f (sl g (an p.l0))]):=by
 obtain⟨g,d⟩:=C2 p.lg p.L h.L h.Ll;refine⟨g,aX.eq (bH rfl rfl λQ j=>?_)⟩;have l:=Pm p.af p.qu h.a0 h.a1 h.q0 h.q1;change _=Eq (V.c (.f (eI (p.af % 40) (p.qu % 3000))))at l;change _=Eq (V.c (.f (sl g (an p.l0))))at d;obtain⟨u,m⟩:=aD (eI (p.af % 40) (p.qu % 3000));obtain⟨v,q⟩:=aD (sl g (an p.l0));obtain⟨s,b⟩:=aD (sl p.lg (xy p.L));rw[<-m]at l j;rw[<-q]at d j;rw[<-b]at d;apply ai;simp[jJ.row,<-b];apply ai;simp[l,d];refine az (j _ _ ?_);simp[fC,bX,aZ]
theorem aa7(p:jJ)(h:qB p):kv p.l0/\p.l0.length<=3/\∀s∈p.l0,iL s/\20<=s.meet:=by
 refine⟨xd _ _,by unfold jJ.l0;rw[xe,af2];omega,λs g=>?_⟩;obtain⟨c,b,k,d,rfl⟩:=xf g;rw[af2]at d;exact⟨Ou (mR (h.L c (agD b))).1 (by omega) (by omega),by show 20<=20+(0+(k:Int));omega⟩
theorem Oi{o:List Int}(h:gK 11 o):∃k i t c,o=k::i::t::c/\gK 8 c/\(0<=k/\k<=255)/\(0<=i/\i<=255)/\(0<=t/\t<=255):=by
 match o,h with
 |[k,i,t,b,d,g,j,l,m,q,s],h=>exact⟨k,i,t,[b,d,g,j,l,m,q,s],rfl,⟨rfl,λx u=>h.2 x (afQ _ (afQ _ (afQ _ u)))⟩,h.2 _ (by simp),h.2 _ (by simp),h.2 _ (by simp)⟩
def yW(i t b:Int)(c:List Int):bC:=⟨1+i % 8,b+t % 50-2,1,iD c⟩
theorem wN(k i t d:Int)(c:List Int)(v:gK 8 c)(hi:0<=i/\i<=255)(K:0<=t/\t<=255)(h0:0<=d)(L:d<=1000000) :
  aX tab Mu [.a ((ot (k::i::t::c)).map .f),vi d]=Eq (.a ((yW i t d c).row.map .f)):=aX.eq (by
 refine bH rfl rfl λQ u=>?_;have j:=BS v;obtain⟨y,z,A,B,E,F,H,I,g⟩:=Oj v.1;have J:=iV (k:=.u8) (b:=8) hi.1 (by decide);have l:=iV (k:=.u8) (b:=50) K.1 (by decide);have m:((ot c).map C.f)=[.f (.int .u8 y),.f (.int .u8 z),.f (.int .u8 A),.f (.int .u8 B),.f (.int .u8 E),.f (.int .u8 F),.f (.int .u8 H),.f (.int .u8 I)]:=by rw[g];rfl
 obtain⟨s,q⟩:=aD (iD c);have x:yW i t d c=⟨1+i % 8,d+t % 50-2,1,s⟩:=by rw[q];rfl
 rw[x]at u;rw[<-q,m]at j;clear q x;subst g;apply ai;simp[ot];apply ai;simp[J,l,j,aB.row,aN.row,aO,bg (n:=i % 8),bg (n:=1+i % 8),bg (n:=t % 50),bg (n:=d+t % 50),bg (n:=d+t % 50-2)];refine az (u _ _ ?_);simp[fC,bX,aZ,bC.row])
theorem uE{s:aB}(h:iL s):Fix s:=by
 obtain⟨m,r,t,z,n,p,mi,le,rfl,b⟩:=h;exact Rb ..
structure nw(l0:List aB):Prop where
 ap:kv l0
 len:l0.length<=3
 f:∀s∈l0,iL s/\20<=s.meet
theorem Ye(n:Int):Kf tab Mz [vi n] (vb (jw n)):=by
 refine cr rfl rfl λH Q b=>?_;apply ai;simp;apply ai;by_cases h:0<=n
 .simp[h];refine az (b _ _ ?_);simp[jw,h]
 .simp[h];refine az (b _ _ ?_);simp[jw,h]
theorem tD(n:Int):aX tab Mz [vi n]=Eq (vb (jw n)):=(Ye n).eq
theorem pO(h:bR)(hl:h.l.length<=30):aX tab Ac [.a (h.row.map .f)]=Eq (vb (cK h)):=aX.eq (by
 refine bH rfl rfl λQ Z=>?_;have bad:cK h=ag->∀(t:T) (J:aj) k,WP tab Ac ab (.code (.seq (.region [⟨D 2,.dr (.k (.c (.f (.bool ag)))),ab⟩] []) .ret)::k) ⟨t,[],J⟩ Q:=by
  intro hf t J k;apply ai;simp;refine az (Z _ _ ?_);simp[hf]
 apply ai;simp[bR.row];apply ak;apply ai;simp[tD];cases m1:jw h.clock
 .simp;exact al (by simp) (bad (by simp[cK,m1]) _ _ _)
 simp[tD];cases m2:jw h.ba
 .simp;exact al (by simp) (bad (by simp[cK,m2]) _ _ _)
 simp[show¬ (4096:Int)<h.l.length by omega];refine bc (by simp) ?_;apply ak;apply ai;simp;refine bA h.l.length (λj t H=>t.g 1=.c (.ptr 0 0 0)/\H[0]?=aa (.box [.f (fi h.clock),.f (fi h.ba),.f (sl h.lg (aL h.l))] 0)/\∃b,0<=b/\(j=0->b=0)/\(∀m,j=m+1->∀v:m<h.l.length,b=(h.l[m]'(v)).id)/\gG h.clock 0 h.l=gG h.clock b (h.l.drop j)) (by omega) rfl (by simp)
  ⟨by simp,rfl,0,by omega,by simp,by omega,by simp⟩ ?_ ?_ ?_
 .rintro j t H L U ⟨g,h0,hL⟩ q hk;simp[q,g,h0];exact hk _ ⟨by simp[g],h0,hL⟩ (by simp[q]) (by simp)
 .rintro j t H U ⟨g,h0,b,l0,lz,lp,I⟩ q next
  rw[tS U]at I;have E:=λH:aj=>bE (H:=H) (aY h.l) (cJ U);simp only[bC.row]at E;obtain⟨x,Y⟩:=aD (h.l[j]);rw[<-Y]at I E;have y:eF h.clock b x=ag->cK h=ag:=λe=>by simp[cK,I,e]
  refine aI ?_;apply ai;simp[q,g,h0,a7,U,E];obtain⟨u,l⟩:=aD ([C.f (fi x.id),C.f (fi x.dl),C.f (fi x.state),C.f (fi x.aW.meet),C.f (fi x.aW.room),C.f (fi x.aW.dg),C.f (fi x.aW.size),C.f (sl x.aW.st.cg (aP x.aW.st.cs)),C.f (fi x.aW.st.len),C.f (sl x.aW.st.xg (aC x.aW.st.xs))]);rw[<-l];obtain⟨O,B⟩:=aD (H++[.box u 0]:aj);have F:O[0]?=aa (.box [.f (fi h.clock),.f (fi h.ba),.f (sl h.lg (aL h.l))] 0):=by rw[B,afy (au h0)];exact h0
  have s:O[H.length]?=aa (.box [.f (fi x.id),.f (fi x.dl),.f (fi x.state),.f (fi x.aW.meet),.f (fi x.aW.room),.f (fi x.aW.dg),.f (fi x.aW.size),.f (sl x.aW.st.cg (aP x.aW.st.cs)),.f (fi x.aW.st.len),.f (sl x.aW.st.xg (aC x.aW.st.xs))] 0):=by rw[B,l];simp
  rw[<-B];have q0:u[0]?=aa (C.f (fi x.id)):=by rw[l];rfl
  have q1:u[1]?=aa (C.f (fi x.dl)):=by rw[l];rfl
  have q2:u[2]?=aa (C.f (fi x.state)):=by rw[l];rfl
  have go:∀(t:T),t.g 1=.c (.ptr 0 0 0)->t.g 3=vi j->t.g 4=.c (.ptr H.length 0 0)->b<x.id->1<=x.state->x.state<=4->jw x.dl=ae->
    WP tab Ac ab [.code HU,.inBlock 1,.code yg,.inLoop ye,.inBlock 0,.code yh] ⟨t,[],O⟩ Q:=by
   intro t g S X N z K A;have nx:eF h.clock b x=ae->∀t:T,t.g 1=.c (.ptr 0 0 0)->t.g 3=vi j->WP tab Ac ab [.inBlock 1,.code yg,.inLoop ye,.inBlock 0,.code yh] ⟨t,[],O⟩ Q:=by
    intro hb t g S;refine aA (next _ _ ⟨by simp[g],F,x.id,by omega,by omega,λm v a_=>?_,?_⟩ (by simp[S]))
    .have:m=j:=by omega
     subst this;rw[Y]
    .rw[I,hb];simp[Y]
   apply ai;by_cases M:x.state=1
   .by_cases W:x.dl<h.clock
    .simp[g,X,s,F,M,W];refine al (by simp) ?_;exact bad (y (by simp[eF,M,W])) _ _ _
    .simp[g,X,s,F,M,W];refine bc (by simp) ?_;exact nx (by simp[eF,M,W,A];omega) _ (by simp[g]) (by simp[S])
   .simp[X,s,M];refine bc (by simp) ?_;exact nx (by simp[eF,M,A];omega) _ (by simp[g]) (by simp[S])
  apply ak;apply ai;by_cases k0:x.id<1
  .simp[s,k0];refine al (by simp) ?_;exact bad (y (by simp[eF,show¬ b<x.id by omega])) _ _ _
  cases j with
  |zero=>
   have a8:=lz rfl;by_cases z:x.state<1
   .simp[s,k0,q,z];refine al (by simp) ?_;exact bad (y (by simp[eF,show¬ 1<=x.state by omega])) _ _ _
   by_cases K:4<x.state
   .simp[s,k0,q,z,K];refine al (by simp) ?_;exact bad (y (by simp[eF,show¬ x.state<=4 by omega])) _ _ _
   simp[s,k0,q,z,K,tD];cases A:jw x.dl
   .refine al (by simp) ?_;exact bad (y (by simp[eF,A])) _ _ _
   refine bc (by simp) ?_;exact go _ (by simp[g]) (by simp[q]) (by simp) (by omega) (by omega) (by omega) A
  |succ m=>
   have v:m<h.l.length:=by omega
   have a9:=lp m rfl v;have c1:((m+1:Nat):Int)-1=m:=by omega
   have d:=λH:aj=>dw (H:=H) (k:=0) (aY h.l) (cJ v) rfl;simp at d;by_cases N:x.id<=h.l[m].id
   .simp[s,k0,q,g,F,bg (n:=(m:Int)),a7,v,d,N];refine al (by simp) ?_;exact bad (y (by simp[eF,show¬ b<x.id by omega])) _ _ _
   by_cases z:x.state<1
   .simp[s,k0,q,g,F,bg (n:=(m:Int)),a7,v,d,N,z];refine al (by simp) ?_;exact bad (y (by simp[eF,show¬ 1<=x.state by omega])) _ _ _
   by_cases K:4<x.state
   .simp[s,k0,q,g,F,bg (n:=(m:Int)),a7,v,d,N,z,K];refine al (by simp) ?_;exact bad (y (by simp[eF,show¬ x.state<=4 by omega])) _ _ _
   simp[s,k0,q,g,F,bg (n:=(m:Int)),a7,v,d,N,z,K,tD];cases A:jw x.dl
   .refine al (by simp) ?_;exact bad (y (by simp[eF,A])) _ _ _
   refine bc (by simp) ?_;exact go _ (by simp[g]) (by simp[q]) (by simp) (by omega) (by omega) (by omega) A
 .rintro t H ⟨g,h0,b,l0,lz,lp,I⟩ q;apply ai;simp;refine az (Z _ _ ?_);simp[cK,m1,m2,I,gG])
theorem CJ(h:bR)(B:h.l.length<=30)(id:Int):aX tab VV [.a (h.row.map .f),vi id]=Eq (vi (match oJ id h.l with|none=>-1|some i=>(i:Int))):=aX.eq (by
 refine bH rfl rfl λQ z=>?_;apply ai;simp[bR.row];apply ak;apply ai;simp;refine bA h.l.length (λj t H=>t.g 1=vi id/\t.g 2=.c (.ptr 0 0 0)/\H[0]?=aa (.box [.f (fi h.clock),.f (fi h.ba),.f (sl h.lg (aL h.l))] 0)/\∀q (v:q<h.l.length),q<j->h.l[q].id≠id) (by omega) rfl (by simp)
  ⟨by simp,by simp,rfl,by simp⟩ ?_ ?_ ?_
 .rintro j t H L x ⟨s,m,h0,b⟩ l u;simp[l,m,h0];exact u _ ⟨by simp[s],by simp[m],h0,b⟩ (by simp[l]) (by simp)
 .rintro j t H x ⟨s,m,h0,b⟩ l next
  have y:aQ H ab (.c (.ptr 0 2 0))=aa (.c (.f (sl h.lg (aL h.l)))):=by simp[h0,aO]
  have d:=a7 (H:=H) (g:=h.lg) (rows:=aL h.l) (sz:=10) (k:=.i64) (i:=(j:Int)) (by omega) (by simp;omega);rw[afU]at d;have l0:=kU (H:=H) (aY h.l) (cJ x) rfl;refine aI ?_;apply ai;by_cases u:h.l[j].id=id
  .simp[l,s,m,y,d,l0,u,-aq];refine al (by simp) (ai ?_);simp[l];refine az (z _ _ ?_);rw[Gl x u b];simp
  .simp[l,s,m,y,d,l0,u,-aq];refine aG (by simp) (aS (aA (next _ _ ⟨by simp[s],by simp[m],h0,λq v A=>?_⟩ (by simp[l]))));by_cases e:q=j
   .subst e;exact u
   .exact b q v (by omega)
 .rintro t H ⟨s,m,h0,b⟩ l;apply ai;simp;refine az (z _ _ ?_);rw[sW λq v=>b q v v];simp)
def bR.cl(h:bR):bR:={ h with lg:=.nil }
theorem Pn(h:bR)(hl:h.l.length<=30)(clk:Int):∃M:bR,M.cl=(if eb h clk=0 then bR.cl ⟨clk,h.ba,.nil,h.l.map (eG clk)⟩else eu)/\
  aX tab vg [.a (h.row.map .f),vi clk]=Eq (.t [.a (M.row.map .f),vi (eb h clk)]):=by
 obtain⟨r,⟨M,d_,rfl⟩,hp⟩:∃r,(∃M:bR,M.cl=(if eb h clk=0 then bR.cl ⟨clk,h.ba,.nil,h.l.map (eG clk)⟩else eu)/\r=.t [.a (M.row.map .f),vi (eb h clk)])/\aX tab vg [.a (h.row.map .f),vi clk] r:=by
  refine cN rfl rfl λQ hQ=>?_;have hv:=pO h hl;simp[bR.row]at hv;apply ai;simp[bR.row];obtain⟨N,z⟩:=aD ([.box [.f (fi h.clock),.f (fi h.ba),.f (sl h.lg (aL h.l))] 0,.box [.f (fi 0),.f (fi 0),.f .aK] 0]:aj);have W:N[0]?=aa (.box [.f (fi h.clock),.f (fi h.ba),.f (sl h.lg (aL h.l))] 0):=by rw[z];rfl
  have z1:N[1]?=aa (.box [.f (fi 0),.f (fi 0),.f .aK] 0):=by rw[z];rfl
  have zl:N.length=2:=by rw[z];rfl
  rw[<-z];have bad:eb h clk=1->∀t:T,t.g 4=.c (.ptr 1 0 0)->t.g 21=vb ae->WP tab vg ab [.code LN,.code LO] ⟨t,[],N⟩ Q:=by
   intro he t l g;refine al (by simp[g]) (ai ?_);simp[l,z1];refine az (hQ _ _ (.t [.a (eu.row.map .f),vi (eb h clk)]) ⟨eu,by simp[he];rfl,rfl⟩ ?_);simp[Km.results,aZ,l,au z1,fC,bX,deep,eu,bR.row,sl,Tg.fc,aL,he]
  apply ak;apply ak;refine av (.inl rfl) ?_;simp[W,hv];cases hB:cK h
  case false=>
   simp;have:=bad (by simp[eb,hB]);exact this _ (by simp) (by simp)
  by_cases k1:clk<h.clock
  .simp[k1,W];exact bad (by simp[eb,k1]) _ (by simp) (by simp)
  by_cases k2:2251799813685248<clk
  .simp[k1,k2,W];exact bad (by simp[eb,k2]) _ (by simp) (by simp)
  simp[k1,k2,W];have he:eb h clk=0:=by simp[eb,hB,k1,k2]
  refine bc (by simp) ?_;obtain⟨H1,A⟩:=aD (N++[.box [.f (fi clk),.f (fi h.ba),.f .aK] 0]:aj);have y0:H1[0]?=aa (.box [.f (fi h.clock),.f (fi h.ba),.f (sl h.lg (aL h.l))] 0):=by rw[A,afy (by omega)];exact W
  have y1:H1[1]?=aa (.box [.f (fi 0),.f (fi 0),.f .aK] 0):=by rw[A,afy (by omega)];exact z1
  have y2:H1[2]?=aa (.box [.f (fi clk),.f (fi h.ba),.f .aK] 0):=by rw[A,afI (by omega),zl];rfl
  apply ai;have O:aQ N ab (.c (.ptr 0 1 0))=aa (vi h.ba):=by simp[W,aO]
  simp[O,-aq];rw[<-A];apply ak;apply ai;simp;refine bA h.l.length (λj t H=>t.g 1=vi clk/\t.g 2=.c (.ptr 0 0 0)/\t.g 4=.c (.ptr 1 0 0)/\t.g 6=.c (.ptr 2 0 0)/\H[0]?=aa (.box [.f (fi h.clock),.f (fi h.ba),.f (sl h.lg (aL h.l))] 0)/\H[1]?=aa (.box [.f (fi 0),.f (fi 0),.f .aK] 0)/\
   ∃c,H[2]?=aa (.box [.f (fi clk),.f (fi h.ba),c] 0)/\LR H c 10 (aL ((h.l.take j).map (eG clk)))/\∀i,bt c=aa i->3<=i) (by omega) rfl (by simp)
   ⟨by simp,by simp,by simp,by simp[zl],y0,y1,.f .aK,y2,LR.nil _ _,by simp[bt]⟩ ?_ ?_ ?_
  .rintro j t H L hj ⟨u,v,l,q,h0,S,U⟩ B hk;simp[B,v,h0];exact hk _ ⟨by simp[u],by simp[v],by simp[l],by simp[q],h0,S,U⟩ (by simp[B]) (by simp)
  .rintro j t H hj ⟨u,v,l,q,h0,S,c,Y,U,hc⟩ B next
   obtain⟨x,hx⟩:=aD (h.l[j]);have a_:=λH:aj=>bE (H:=H) (aY h.l) (cJ hj);rw[<-hx]at a_;have E:=λH:aj=>a7 (H:=H) (g:=h.lg) (rows:=aL h.l) (sz:=10) (k:=.i64) (i:=(j:Int)) (by omega) (by simp;omega);simp only[afU]at E;have b2:aQ H ab (.c (.ptr 0 2 0))=aa (.c (.f (sl h.lg (aL h.l)))):=by simp[h0,aO]
   have d9:=au Y;have I:∀(F:T) (m:aj) (y:bC),y=eG clk x->F.g 1=vi clk->F.g 2=.c (.ptr 0 0 0)->F.g 4=.c (.ptr 1 0 0)->F.g 6=.c (.ptr 2 0 0)->F.g 7=vi j->F.g 8=.c (.ptr H.length 0 0)->m=H++[.box (y.row.map .f) 0]->
     WP tab vg ab [.code HP,.inBlock 1,.code HQ,.inLoop HO,.inBlock 0,.code HS] ⟨F,[],m⟩ Q:=by
    intro F m y hy u v l q g7 g8 d;obtain⟨H4,s⟩:=aD (m++[.box (y.row.map .f) 0]:aj);have up:∀(i:Nat) (b:bB),H[i]?=aa b->H4[i]?=aa b:=λi b hb=>by rw[s,d,agk,afy (au hb)];exact hb
    have b9:LR H4 c 10 (aL ((h.l.take j).map (eG clk))):=by rw[s,d,agk];exact U.push _
    obtain⟨c',X,a8,Z,J,b_⟩:=b9.app (aY _) (by decide) (row:=y.row) rfl (bytes:=112) (jI (by simp;omega) (by decide)) (b1:=m.length) (fl1:=0) (by rw[s];simp);have e5:aL ((h.l.take j).map (eG clk))++[y.row]=aL ((h.l.take (j+1)).map (eG clk)):=by
     rw[agh hj,hy,hx];simp only[aL,agA,afS,afW]
    rw[e5]at Z;have r2:aQ m ab (.c (.ptr 2 2 0))=aa (.c c):=by
     have:m[2]?=aa (.box [.f (fi clk),.f (fi h.ba),c] 0):=by rw[d,afy d9];exact Y
     simp[this,aO]
    have r8:aQ m (aa 10) (.c (.ptr H.length 0 0))=aa (.a (y.row.map .f)):=by rw[d];simp[aO,bC.row]
    have K:∀i:Nat,i<3->bt c≠aa i:=λi hi e=>by have:=hc i e;omega
    have w0:X[0]?=_:=J.2 0 _ (up 0 _ h0) (K 0 (by omega));have w1:X[1]?=_:=J.2 1 _ (up 1 _ S) (K 1 (by omega));have w2:X[2]?=_:=J.2 2 _ (up 2 _ Y) (K 2 (by omega));have e9:cz X (.ptr 2 2 0) [c']=aa (X.set 2 (.box [.f (fi clk),.f (fi h.ba),c'] 0)):=by simp[w2,bp]
    have a9:∀i,bt c'=aa i->3<=i:=λi hi=>by
     rcases b_ with e|e
     .rw[e]at hi;exact hc i hi
     .rw[e]at hi;cases hi;rw[s,d];simp;omega
    refine av (.inl rfl) ?_;have f8:y.row.map C.f=[.f (fi y.id),.f (fi y.dl),.f (fi y.state),.f (fi y.aW.meet),.f (fi y.aW.room),.f (fi y.aW.dg),.f (fi y.aW.size),.f (sl y.aW.st.cg (aP y.aW.st.cs)),.f (fi y.aW.st.len),.f (sl y.aW.st.xg (aC y.aW.st.xs))]:=rfl;have f_:(y.row.map C.f).length=10:=rfl;have f7:y.row.length=10:=rfl;simp[q,g8,r2,r8,f7,-aq,-aU];rw[<-s];simp[a8,e9,q,-aU];refine aA (next _ _ ⟨by simp[u],by simp[v],by simp[l],by simp[q],by rw[ae2 (by omega)];exact w0,by rw[ae2 (by omega)];exact w1,c',afC (au w2),Z.set (λe=>by have:=a9 _ e;omega) _,a9⟩ (by simp[g7]))
   obtain⟨m,d⟩:=aD (H++[.box (x.row.map .f) 0]:aj);have e_:x.row.length=10:=rfl;have q1:aQ m ab (.c (.ptr H.length 1 0))=aa (vi x.dl):=by rw[d];simp[aO,bC.row]
   have q2:aQ m ab (.c (.ptr H.length 2 0))=aa (vi x.state):=by rw[d];simp[aO,bC.row]
   have q4:cz m (.ptr H.length 2 0) [.f (fi 4)]=aa (H++[.box ((bC.row { x with state:=4 }).map .f) 0]):=by rw[d];simp[bC.row,bp]
   refine aI ?_;apply ai;simp[B,v,b2,E,a_,e_,-aq];rw[<-d];apply ak;apply ak;refine av (.inl rfl) ?_;by_cases s1:x.state=1
   .by_cases O:x.dl<clk
    .simp[q1,q2,s1,O,u,-aq];refine al (by simp) (av (.inl rfl) ?_);simp[q4,-aU];exact I _ _ { x with state:=4 } (bu ⟨s1,O⟩).symm (by simp[u]) (by simp[v]) (by simp[l]) (by simp[q]) (by simp[B]) (by simp) rfl
    .simp[q1,q2,s1,O,u,-aq];refine bc (by simp) ?_;exact I _ _ x (bG λe=>O e.2).symm (by simp[u]) (by simp[v]) (by simp[l]) (by simp[q]) (by simp[B]) (by simp) d
   .simp[q2,s1,-aq];refine bc (by simp) ?_;exact I _ _ x (bG λe=>s1 e.1).symm (by simp[u]) (by simp[v]) (by simp[l]) (by simp[q]) (by simp[B]) (by simp) d
  .rintro t H ⟨u,v,l,q,h0,S,c,Y,U,hc⟩ B;rw[afM (afJ _)]at U;obtain⟨g,hg⟩:=U.exU (aY _);have c_:=hg (H.set 1 (.box [.f (fi clk),.f (fi h.ba),c] 0)) 63 (λi y hy hi=>by
    have:(1:Nat)≠i:=by rintro rfl;have:=hc 1 hi;omega
    rw[ae2 this];exact hy)
   apply ai;simp[l,q,S,Y];refine az (hQ _ _ (.t [.a ((⟨clk,h.ba,g,h.l.map (eG clk)⟩:bR).row.map .f),vi (eb h clk)]) ⟨⟨clk,h.ba,g,h.l.map (eG clk)⟩,by simp[he,bR.cl],rfl⟩ ?_);simp[Km.results,aZ,l,au S,fC,bX,deep,bR.row,c_,he]
 exact⟨M,d_,hp.eq⟩
theorem CT(h:bR)(hl:h.l.length<=30)(id j:Int):∃K:bR,K.cl=(if bV h id=0 then(eU h id j).cl else eu)/\
  aX tab DC [.a (h.row.map .f),vi id,vi j]=Eq (.t [.a (K.row.map .f),vi (bV h id)]):=by
 obtain⟨r,⟨K,e9,rfl⟩,hp⟩:∃r,(∃K:bR,K.cl=(if bV h id=0 then(eU h id j).cl else eu)/\r=.t [.a (K.row.map .f),vi (bV h id)])/\aX tab DC [.a (h.row.map .f),vi id,vi j] r:=by
  refine cN rfl rfl λQ hQ=>?_;have hv:=pO h hl;have s:=CJ h hl id;simp[bR.row]at hv s;apply ai;simp[bR.row];obtain⟨l,m⟩:=aD ([.box [.f (fi h.clock),.f (fi h.ba),.f (sl h.lg (aL h.l))] 0,.box [.f (fi 0),.f (fi 0),.f .aK] 0]:aj);have z0:l[0]?=aa (.box [.f (fi h.clock),.f (fi h.ba),.f (sl h.lg (aL h.l))] 0):=by rw[m];rfl
  have z1:l[1]?=aa (.box [.f (fi 0),.f (fi 0),.f .aK] 0):=by rw[m];rfl
  have zl:l.length=2:=by rw[m];rfl
  have a0:aQ l (aa 3) (.c (.ptr 0 0 0))=aa (.a [.f (fi h.clock),.f (fi h.ba),.f (sl h.lg (aL h.l))]):=by simp[z0,aO]
  have b0:aQ l ab (.c (.ptr 0 0 0))=aa (vi h.clock):=by simp[z0,aO]
  have b1:aQ l ab (.c (.ptr 0 1 0))=aa (vi h.ba):=by simp[z0,aO]
  have b2:aQ l ab (.c (.ptr 0 2 0))=aa (.c (.f (sl h.lg (aL h.l)))):=by simp[z0,aO]
  have s1:cz l (.ptr 1 0 0) [.f (fi 0),.f (fi 0),.f .aK]=aa l:=by simp[z1];rw[m];rfl
  rw[<-m];have J:bV h id≠0->∀(t:T) (k:List de),t.g 6=.c (.ptr 1 0 0)->t.g 7=vi (bV h id)->WP tab DC ab (.code .ret::k) ⟨t,[],l⟩ Q:=by
   intro d t k g6 g7;refine az (hQ _ _ (.t [.a (eu.row.map .f),vi (bV h id)]) ⟨eu,by simp[d];rfl,rfl⟩ ?_);simp[Km.results,aZ,g6,g7,z1,fC,bX,deep,eu,bR.row,sl,Tg.fc,aL]
  apply ak;apply ak;refine av (.inl rfl) ?_;simp[a0,hv,-aq];cases hB:cK h
  case false=>
   have d:bV h id=1:=by simp[bV,hB]
   refine al (by simp) (ai ?_);simp[s1,-aU];exact J (by rw[d];decide) _ _ (by simp) (by rw[d];simp)
  refine bc (by simp) ?_;apply ai;simp[a0,s,-aq];apply ak;apply ak;refine av (.inl rfl) ?_;cases u:oJ id h.l with
  |none=>
   have d:bV h id=4:=by simp[bV,hB,u]
   simp;refine al (by simp) (ai ?_);simp[s1,-aU];exact J (by rw[d];decide) _ _ (by simp) (by rw[d];simp)
  |some i=>
  have b:i<h.l.length:=(sX u).1;obtain⟨x,hx⟩:=aD (h.l[i]);have v:=λH:aj=>a7 (H:=H) (g:=h.lg) (rows:=aL h.l) (sz:=10) (k:=.i64) (i:=(i:Int)) (by omega) (by simp;omega);simp only[afU]at v;have l2:=λH:aj=>dw (H:=H) (k:=2) (aY h.l) (cJ b) rfl;simp only[<-hx]at l2;simp[show¬ (i:Int)<0 by omega];refine bc (by simp) ?_;apply ak;apply ak;refine av (.inl rfl) ?_;by_cases q1:x.state=1
  case neg=>
   have d:bV h id=7:=by simp[bV,hB,u,b,<-hx,q1]
   simp[b2,v,l2,q1,-aq];refine al (by simp) (ai ?_);simp[s1,-aU];exact J (by rw[d];decide) _ _ (by simp) (by rw[d];simp)
  have d:bV h id=0:=by simp[bV,hB,u,b,<-hx,q1]
  simp[b2,v,l2,q1,-aq];refine bc (by simp) ?_;obtain⟨L,q⟩:=aD (l++[.box [.f (fi h.clock),.f (fi h.ba),.f .aK] 0]:aj);have y0:L[0]?=aa (.box [.f (fi h.clock),.f (fi h.ba),.f (sl h.lg (aL h.l))] 0):=by rw[q,afy (by omega)];exact z0
  have y1:L[1]?=aa (.box [.f (fi 0),.f (fi 0),.f .aK] 0):=by rw[q,afy (by omega)];exact z1
  have y2:L[2]?=aa (.box [.f (fi h.clock),.f (fi h.ba),.f .aK] 0):=by rw[q,afI (by omega),zl];rfl
  apply ai;simp[b0,b1,-aq];rw[<-q];obtain⟨O,M,X,U,I,b9⟩:=(LR.nil L 10).Nf (by intro r hr;cases hr) (by decide) (aY h.l) (bytes:=112) (jI (by simp;omega) (by decide)) h.lg;simp only[List.nil_append]at U;have Y:∀i,bt O=aa i->3<=i:=λi hi=>by
   rcases b9 with e|e
   .rw[e]at hi;simp[bt]at hi
   .rw[e]at hi;cases hi;rw[q];simp;omega
  have nn:∀i,bt (.f .aK)≠aa i:=λi=>by simp[bt]
  have w0:M[0]?=_:=I.2 0 _ y0 (nn 0);have w1:M[1]?=_:=I.2 1 _ y1 (nn 1);have w2:M[2]?=_:=I.2 2 _ y2 (nn 2);obtain⟨N,A⟩:=aD (M.set 2 (.box [.f (fi h.clock),.f (fi h.ba),O] 0):aj);have v1:N[1]?=aa (.box [.f (fi 0),.f (fi 0),.f .aK] 0):=by rw[A,ae2 (by omega)];exact w1
  have v2:N[2]?=aa (.box [.f (fi h.clock),.f (fi h.ba),O] 0):=by rw[A];exact afC (au w2)
  have e_:cz M (.ptr 2 2 0) [O]=aa N:=by rw[A];simp[w2,bp]
  have a8:LR N O 10 (aL h.l):=by rw[A];exact U.set (λe=>by have:=Y _ e;omega) _
  have r0:aQ L ab (.c (.ptr 0 2 0))=aa (.c (.f (sl h.lg (aL h.l)))):=by simp[y0,aO]
  have r2:aQ L ab (.c (.ptr 2 2 0))=aa (.c (.f .aK)):=by simp[y2,aO]
  apply ai;simp[zl,r0,r2,X,e_,-aq,-aU];rcases a8 with⟨b_,_⟩|⟨f_,B,ep,rfl,W⟩
  .have:h.l.length=0:=by have:=congrArg List.length b_;simpa[aL]using this
   omega
  have d_:(aL h.l).length=h.l.length:=by simp
  have a_:(aL h.l)[i]?=aa x.row:=by rw[hx];exact cJ b
  have z:=W.at (show i<(aL h.l).length by omega);rw[d_]at z v2;obtain⟨F,E,S,Z,f8⟩:=W.stp (k:=2) (xs:=[fi j]) (aY _) a_ (by simp);simp only[afS,afW]at E;have d9:bp x.row 2 [fi j]=(bC.row { x with state:=j }):=rfl;rw[d9,kJ]at S;have f7:3<=B:=Y B rfl;have u1:F[1]?=_:=Z.get v1 (by omega);have u2:F[2]?=_:=Z.get v2 (by omega);have r3:aQ N ab (.c (.ptr 2 2 0))=aa (.c (.sl B 0 h.l.length 0 ep 10)):=by simp[v2,aO]
  apply ai;simp[r3,z,E,-aq,-aU];have a9:LR F (.sl B 0 h.l.length 0 ep 10) 10 (aL (h.l.set i { x with state:=j })):=by
   refine .inr ⟨λe=>?_,B,ep,by simp,S⟩;have:=congrArg List.length e;simp at this;rw[this]at b;simp at b
  obtain⟨g,hg⟩:=a9.exU (aY _);have c_:=hg (F.set 1 (.box [.f (fi h.clock),.f (fi h.ba),.sl B 0 h.l.length 0 ep 10] 0)) 63 (λi y hy hi=>by
   have:(1:Nat)≠i:=by rintro rfl;cases hi;omega
   rw[ae2 this];exact hy)
  have q4:aQ F (aa 3) (.c (.ptr 2 0 0))=aa (.a [.f (fi h.clock),.f (fi h.ba),.sl B 0 h.l.length 0 ep 10]):=by simp[u2,aO]
  have q5:cz F (.ptr 1 0 0) [.f (fi h.clock),.f (fi h.ba),.sl B 0 h.l.length 0 ep 10]=aa (F.set 1 (.box [.f (fi h.clock),.f (fi h.ba),.sl B 0 h.l.length 0 ep 10] 0)):=by simp[u1,bp]
  apply ai;simp[q4,q5,-aq,-aU];have hR:(eU h id j).l=h.l.set i { x with state:=j }:=by simp[eU,u,R9,b,hx]
  refine az (hQ _ _ (.t [.a ((⟨h.clock,h.ba,g,h.l.set i { x with state:=j }⟩:bR).row.map .f),vi (bV h id)]) ⟨⟨h.clock,h.ba,g,h.l.set i { x with state:=j }⟩,?_,rfl⟩ ?_)
  .rw[bu d,bR.cl,bR.cl,hR];rfl
  .simp[Km.results,aZ,au u1,fC,bX,deep,bR.row,c_,d]
 exact⟨K,e9,hp.eq⟩
theorem CE(h:bR)(l:h.l.length<=30)(id:Int):∃d:bR,d.cl=(if bV h id=0 then(eU h id 2).cl else eu)/\
  aX tab Mt [.a (h.row.map .f),vi id]=Eq (.t [.a (d.row.map .f),vi (bV h id)]):=by
 obtain⟨d,g,b⟩:=CT h l id 2;refine⟨d,g,aX.eq ?_⟩;refine bH rfl rfl λQ j=>?_;simp[bR.row]at b;apply ai;simp[bR.row];apply ai;simp[b];refine az (j _ _ ?_);simp[Km.results,aZ,fC,bX,deep,bR.row]
theorem CS(h:bR)(l:h.l.length<=30)(id:Int):∃d:bR,d.cl=(if bV h id=0 then(eU h id 3).cl else eu)/\
  aX tab Mv [.a (h.row.map .f),vi id]=Eq (.t [.a (d.row.map .f),vi (bV h id)]):=by
 obtain⟨d,g,b⟩:=CT h l id 3;refine⟨d,g,aX.eq ?_⟩;refine bH rfl rfl λQ j=>?_;simp[bR.row]at b;apply ai;simp[bR.row];apply ai;simp[b];refine az (j _ _ ?_);simp[Km.results,aZ,fC,bX,deep,bR.row]
theorem Fh(h:bR)(H:h.l.length<=30)(x:bC):aX tab MA [.a (h.row.map .f),.a (x.row.map .f)]=Eq (vi (bM h x)):=aX.eq (by
 refine bH rfl rfl λQ z=>?_;have y:=pO h H;have A:=CJ h H x.id;have K:h.row.length=3:=rfl;have L:x.row.length=10:=rfl;apply ai;simp;obtain⟨q,b⟩:=aD ([.box (h.row.map .f) 0,.box (x.row.map .f) 0]:aj);have s:aQ q (aa 3) (.c (.ptr 0 0 0))=aa (.a (h.row.map .f)):=by rw[b];simp[aO,bR.row]
 have a1:aQ q ab (.c (.ptr 0 0 0))=aa (vi h.clock):=by rw[b];simp[aO,bR.row]
 have I:aQ q ab (.c (.ptr 0 2 0))=aa (.c (.f (sl h.lg (aL h.l)))):=by rw[b];simp[aO,bR.row]
 have v:aQ q ab (.c (.ptr 1 0 0))=aa (vi x.id):=by rw[b];simp[aO,bC.row]
 have E:aQ q ab (.c (.ptr 1 1 0))=aa (vi x.dl):=by rw[b];simp[aO,bC.row]
 have F:aQ q ab (.c (.ptr 1 2 0))=aa (vi x.state):=by rw[b];simp[aO,bC.row]
 rw[<-b];have bad:bM h x=1->∀t:T,t.g 23=vb ae->WP tab MA ab [.code LS,.code LU] ⟨t,[],q⟩ Q:=by
  intro J t g;refine al (by simp[g]) (ai ?_);simp;refine az (z _ _ ?_);simp[J]
 apply ak;apply ak;refine av (.inl rfl) ?_;cases j:cK h
 case false=>
  simp[s,y,j,-aq];exact bad (by simp[bM,j]) _ (by simp)
 by_cases l:x.id<1
 .simp[s,y,j,v,l,-aq];exact bad (by simp[bM,l]) _ (by simp)
 by_cases u:x.state=1
 case neg=>
  simp[s,y,j,v,F,l,u,-aq];exact bad (by simp[bM,u]) _ (by simp)
 cases m:jw x.dl
 case false=>
  simp[s,y,j,v,E,F,l,u,tD,m,-aq];exact bad (by simp[bM,m]) _ (by simp)
 simp[s,y,j,v,E,F,l,u,tD,m,-aq];refine bc (by simp) ?_;apply ak;apply ak;refine av (.inl rfl) ?_;cases d:oJ x.id h.l with
 |some i=>
  rw[d]at A;simp[s,v,A,-aq];refine al (by simp) (ai ?_);simp;refine az (z _ _ ?_);have:bM h x=5:=by simp[bM,j,l,u,m,d]
  simp[this]
 |none=>
 rw[d]at A;simp[s,v,A,-aq];refine bc (by simp) ?_;apply ak;apply ak;refine av (.inl rfl) ?_;by_cases B:x.dl<h.clock
 .simp[E,a1,B,-aq];refine al (by simp) (ai ?_);simp;refine az (z _ _ ?_);have:bM h x=17:=by simp[bM,j,l,u,m,d,B]
  simp[this]
 simp[E,a1,B,-aq];refine bc (by simp) ?_;apply ak;apply ak;refine av (.inl rfl) ?_;simp[I,show¬ (4096:Int)<=h.l.length by omega,-aq];refine bc (by simp) ?_;apply ai;simp;refine az (z _ _ ?_);have:bM h x=0:=by simp[bM,j,l,u,m,d,B]
 simp[this])
theorem Pc(a b:aB):aX tab V0 [.a (a.row.map .f),.a (b.row.map .f)]=Eq (vb (nY a b)):=Kf.eq (by
 refine cr rfl rfl λH Q j=>?_;apply ai;simp[aB.row];apply ai;by_cases d:a.meet<b.meet
 .simp[d];refine az (j _ _ ?_);simp[nY,d]
 by_cases g:a.meet=b.meet
 .simp[d,g];refine az (j _ _ ?_);simp[nY,g]
 .simp[d,g];refine az (j _ _ ?_);simp[nY,d,g])
theorem GY(g:Tg)(l:List aB)(X:l.length<=1000)(s:aB):aX tab VZ [.c (.f (sl g (an l))),.a (s.row.map .f)]=Eq (vb (l.any λx=>cj x s)):=Kf.eq (by
 refine cr rfl rfl λH Q M=>?_;apply ai;simp[aB.row];obtain⟨I,u⟩:=aD (H++[.box [.f (fi s.meet),.f (fi s.room),.f (fi s.dg),.f (fi s.size),.f (sl s.st.cg (aP s.st.cs)),.f (fi s.st.len),.f (sl s.st.xg (aC s.st.xs))] 0]:aj);have K:I[H.length]?=aa (.box [.f (fi s.meet),.f (fi s.room),.f (fi s.dg),.f (fi s.size),.f (sl s.st.cg (aP s.st.cs)),.f (fi s.st.len),.f (sl s.st.xg (aC s.st.xs))] 0):=by rw[u];simp
 have z:∃J,I=H++J:=⟨_,u⟩
 rw[<-u];apply ak;apply ai;simp;refine bA l.length (λj t H'=>t.g 0=.c (.f (sl g (an l)))/\t.g 3=.c (.ptr H.length 0 0)/\H'=I/\∀(q:Nat) (y:q<l.length),q<j->cj l[q] s=ag) (by omega) rfl (by simp) ⟨by simp,by simp,rfl,by simp⟩ ?_ ?_ ?_
 .rintro j t _ L v ⟨g0,m,rfl,b⟩ d O;simp[d,g0];exact O _ ⟨by simp[g0],by simp[m],rfl,b⟩ (by simp[d]) (by simp)
 .rintro j t _ v ⟨g0,m,rfl,b⟩ d next
  have E:=λH:aj=>kU (H:=H) (aR l) (bD v) rfl;have F:=λH:aj=>dw (H:=H) (k:=1) (aR l) (bD v) rfl
  try simp at E F
  have N:cj l[j] s=ag->∀(q:Nat) (y:q<l.length),q<j+1->cj l[q] s=ag:=λS q y U=>by
   by_cases e:q=j
   .subst e;exact S
   .exact b q y (by omega)
  refine aI ?_;apply ai;by_cases A:l[j].meet=s.meet
  .by_cases B:l[j].room=s.room
   .simp[d,g0,m,K,a7,v,E,F,A,B];refine al (by simp) (ai ?_);simp;refine az (M _ _ ?_);have:(l.any λx=>cj x s)=ae:=by
     rw[agw];exact⟨l[j],afH v,pH.2 ⟨A,B⟩⟩
    simp[this,z]
   .simp[d,g0,m,K,a7,v,E,F,A,B];refine aG (by simp) (aS (aA (next _ _ ⟨by simp[g0],by simp[m],rfl,N ?_⟩ (by simp[d]))));simp[cj,B]
  .simp[d,g0,m,K,a7,v,E,F,A];refine aG (by simp) (aS (aA (next _ _ ⟨by simp[g0],by simp[m],rfl,N ?_⟩ (by simp[d]))));simp[cj,A]
 .rintro t _ ⟨g0,m,rfl,b⟩ d;apply ai;simp;refine az (M _ _ ?_);have:(l.any λx=>cj x s)=ag:=by
   rw[List.any_eq_false];intro x W;obtain⟨q,y,rfl⟩:=agd W;simp[b q y y]
  simp[this,z])
theorem Gw{s:aB}:∀{l:List aB} {i:Nat},i<=l.length->(∀q (d:q<l.length),q<i->nY s l[q]=ag)->(∀h:i<l.length,nY s l[i]=ae)->mX s l=l.take i++[s]++l.drop i
 |[],i,hi,_,_=>by
  have:i=0:=by simpa using hi
  subst this;rfl
 |x::r,0,_,_,h=>by
  have:=h (by simp);simp only[List.getElem_cons_zero]at this;simp[mX,this]
 |x::r,i+1,hi,h0,h=>by
  have b:=h0 0 (by simp) (by omega);simp only[List.getElem_cons_zero]at b;have m:=Gw (s:=s) (l:=r) (i:=i) (by simpa using hi) (λq d j=>by have:=h0 (q+1) (by simpa using d) (by omega);simpa using this) (λg=>by have:=h (by simpa using g);simpa using this);simp[mX,b,m]
theorem rG(s:aB)(l:List aB):(mX s l).length=l.length+1:=by simpa using (lG s l).length_eq
theorem nJ(g:Tg)(l:List aB)(hl:l.length<=1000)(s:aB):∃g',aX tab DD [.c (.f (sl g (an l))),.a (s.row.map .f)]=Eq (.c (.f (sl g' (an (mX s l))))):=by
 obtain⟨r,⟨g',rfl⟩,hp⟩:∃r,(∃g',r=.c (.f (sl g' (an (mX s l)))))/\aX tab DD [.c (.f (sl g (an l))),.a (s.row.map .f)] r:=by
  refine cN rfl rfl λQ hQ=>?_;apply ai;simp[aB.row];have a_:s.row.map C.f=[.f (fi s.meet),.f (fi s.room),.f (fi s.dg),.f (fi s.size),.f (sl s.st.cg (aP s.st.cs)),.f (fi s.st.len),.f (sl s.st.xg (aC s.st.xs))]:=rfl;rw[<-a_];apply ai;simp;apply ai;simp;apply ak;refine aI ?_;refine dx (λm st=>∃(i:Nat) (t:T) (u:aj) (c:C),st=⟨t,[],u⟩/\m=l.length-i/\i<=l.length/\t.g 0=.c (.f (sl g (an l)))/\t.g 3=.c (.ptr 0 0 0)/\t.g 5=.c c/\t.g 6=vi i/\u[0]?=aa (.box (s.row.map .f) 0)/\LR u c 7 (an (l.take i))/\bt c≠aa 0/\(∀q (hq:q<l.length),q<i->nY s l[q]=ag)) l.length
   ⟨0,_,_,.f .aK,rfl,by omega,by omega,by simp,by simp,by simp,by simp,rfl,LR.nil _ _,by simp[bt],by simp⟩ ?_
  rintro m st ⟨i,t,u,c,rfl,rfl,hi,g0,B,L,A,z0,hL,hb,S⟩ ih;have y:aQ u (aa 7) (.c (.ptr 0 0 0))=aa (.a (s.row.map .f)):=by simp[z0,aO,aB.row]
  have K:(∀h:i<l.length,nY s l[i]=ae)->∀t:T,t.g 0=.c (.f (sl g (an l)))->t.g 3=.c (.ptr 0 0 0)->t.g 5=.c c->t.g 6=vi i->WP tab DD ab [.code sH] ⟨t,[],u⟩ Q:=by
   intro a9 t g0 B L A;obtain⟨W,d⟩:=aD (u++[.box (s.row.map .f) 0]:aj);have E:LR W c 7 (an (l.take i)):=by rw[d];exact hL.push _
   obtain⟨c4,Y,x,v,M,O⟩:=E.app (aR _) (by decide) (row:=s.row) rfl (bytes:=88) (jI (by simp;omega) (by decide)) (b1:=u.length) (fl1:=0) (by rw[d];simp);have Z:an (l.take i)++[s.row]=an (l.take i++[s]):=by simp[an]
   rw[Z]at v;obtain⟨g1,U⟩:=G6 (H:=Y) (g:=g) (k:=i) (aR l) (by simpa using hi) (by simp;omega);have e5:(an l).drop i=an (l.drop i):=by simp[an]
   rw[e5]at U;obtain⟨c5,H5,F,N,b_,c_⟩:=v.Nf (aR _) (by decide) (aR (l.drop i)) (bytes:=88) (jI (by simp;omega) (by decide)) g1;have e6:an (l.take i++[s])++an (l.drop i)=an (mX s l):=by rw[Gw hi S a9];simp[an]
   rw[e6]at N;obtain⟨g',a8⟩:=N.ex (aR _) 63;apply ai;have b9:s.row.map C.f=[.f (fi s.meet),.f (fi s.room),.f (fi s.dg),.f (fi s.size),.f (sl s.st.cg (aP s.st.cs)),.f (fi s.st.len),.f (sl s.st.xg (aC s.st.xs))]:=rfl;have J:(s.row.map C.f).length=7:=rfl;simp[L,B,y,-aq,J];rw[<-d];simp[x];apply ai;simp[g0,A,U,F];refine az (hQ _ _ (.c (.f (sl g' (an (mX s l))))) ⟨g',rfl⟩ ?_);simp[fC,bX,deep,a8]
  apply ak;apply ai;by_cases z:i<l.length
  case neg=>
   simp[g0,A,show¬ (i:Int)<(l.length:Int) by omega];refine aG (by simp) ?_;refine bT (k':=[.code sH]) rfl ?_;exact K (λh=>absurd h z) _ (by simp[g0]) (by simp[B]) (by simp[L]) (by simp[A])
  have j:=a7 (H:=u) (g:=g) (rows:=an l) (sz:=7) (k:=.i64) (i:=(i:Int)) (by omega) (by simp;omega);have I:=bE (H:=u) (aR l) (bD z);rw[afU]at j;have b:=Pc s l[i];cases X:nY s l[i]
  case true=>
   rw[X]at b;simp[g0,B,A,z,y,j,I,b,-aq];refine aG (by simp) ?_;refine bT (k':=[.code sH]) rfl ?_;exact K (λ_=>X) _ (by simp[g0]) (by simp[B]) (by simp[L]) (by simp[A])
  case false=>
   rw[X]at b;simp[g0,B,A,z,y,j,I,b,-aq];refine al (by simp) (aS ?_);obtain⟨W,d⟩:=aD (u++[.box (l[i].row.map .f) 0]:aj);have E:LR W c 7 (an (l.take i)):=by rw[d];exact hL.push _
   have z3:W[0]?=aa (.box (s.row.map .f) 0):=by rw[d,afy (au z0)];exact z0
   obtain⟨c4,Y,x,v,M,O⟩:=E.app (aR _) (by decide) (row:=l[i].row) rfl (bytes:=88) (jI (by simp;omega) (by decide)) (b1:=u.length) (fl1:=0) (by rw[d];simp);have Z:an (l.take i)++[l[i].row]=an (l.take (i+1)):=by
    rw[agh z];simp only[an,agA,afS,afW]
   rw[Z]at v;have J:(l[i].row.map C.f).length=7:=rfl;refine aI ?_;apply ai;simp[g0,L,A,j,I,J];rw[<-d];simp[x];refine av (.inl rfl) ?_;simp[A,bg (n:=(i:Int)+1)];refine aA (ih (l.length-(i+1)) _ (by omega) ⟨i+1,_,Y,c4,rfl,rfl,by omega,by simp[g0],by simp[B],by simp,by simp,M.2 0 _ z3 hb,v,?_,λq hq d9=>?_⟩)
   .rcases O with e|e
    .rw[e];exact hb
    .rw[e];have:=au z3;simp;intro q;rw[q]at this;simp at this
   .by_cases e:q=i
    .subst e;exact X
    .exact S q hq (by omega)
 exact⟨g',hp.eq⟩
def iW:List aB->List bC->List aB
 |acc,[]=>acc| acc,x::r=>if nZ x&&!(acc.any λy=>cj y x.aW)then iW (mX x.aW acc) r else iW acc r
theorem Nb{a a':List aB}(h:a.Perm a')(p:aB->Bool):a.any p=a'.any p:=by
 rw[agH,agw,agw];exact⟨λ⟨x,b,e⟩=>⟨x,h.mem_iff.1 b,e⟩,λ⟨x,b,e⟩=>⟨x,h.mem_iff.2 b,e⟩⟩
theorem rZ:∀{l:List bC} {acc u:List aB},acc.Perm u->acc.Pairwise kD->(iW acc l).Perm (uniq [] u (dL l))/\(iW acc l).Pairwise kD
 |[],acc,u,h,b=>⟨h,b⟩
 |x::r,acc,u,h,b=>by
  simp only[iW,dL,List.filter_cons];by_cases g:nZ x=ae
  .simp only[g,if_true,afS,uniq,agi,List.any_nil,ahr];rw[Nb h];by_cases d:(u.any λy=>cj y x.aW)=ae
   .simp only[d,if_true,Bool.not_true,afR,if_false];exact rZ h b
   .simp only[d,if_false,Bool.not_false,if_true,afR];exact rZ ((lG _ _).trans (List.Perm.append_right _ h)) (uH _ b)
  .simp only[g,afR,if_false,Bool.false_and];exact rZ h b
theorem tE:∀(l:List bC) (acc:List aB),(iW acc l).length<=acc.length+l.length
 |[],acc=>by simp[iW]
 |x::r,acc=>by
  simp only[iW];split
  .have:=tE r (mX x.aW acc);rw[rG]at this;simp;omega
  .have:=tE r acc;simp;omega
theorem Pe(h:bR)(hl:h.l.length<=30):∃g,aX tab Ab [.a (h.row.map .f)]=Eq (.c (.f (sl g (an (if cK h then iW [] h.l else []))))):=by
 obtain⟨r,⟨g',rfl⟩,hp⟩:∃r,(∃g',r=.c (.f (sl g' (an (if cK h then iW [] h.l else [])))))/\aX tab Ab [.a (h.row.map .f)] r:=by
  refine cN rfl rfl λQ hQ=>?_;have hv:=pO h hl;simp[bR.row]at hv;apply ai;simp[bR.row];apply ai;simp;apply ak;apply ai;simp[hv];cases Z:cK h
  case false=>
   refine al (by simp) (ai ?_);simp;refine az (hQ _ _ (.c (.f (sl .nil (an [])))) ⟨.nil,by simp[Z]⟩ ?_);simp[an,sl,Tg.fc]
  refine bc (by simp) ?_;apply ak;apply ai;simp;refine bA h.l.length (λj t H=>t.g 1=.c (.ptr 0 0 0)/\H[0]?=aa (.box [.f (fi h.clock),.f (fi h.ba),.f (sl h.lg (aL h.l))] 0)/\∃g acc,t.g 3=.c (.f (sl g (an acc)))/\acc.length<=j/\iW acc (h.l.drop j)=iW [] h.l) (by omega) rfl (by simp)
   ⟨by simp,rfl,.nil,[],by simp[an,sl,Tg.fc],by simp,by simp⟩ ?_ ?_ ?_
  .rintro j t H L U ⟨m,h0,hL⟩ v hk;simp[v,m,h0];exact hk _ ⟨by simp[m],h0,by simpa using hL⟩ (by simp[v]) (by simp)
  .rintro j t H U ⟨m,h0,g,acc,l,J,s⟩ v next
   have B:=λH:aj=>bE (H:=H) (aY h.l) (cJ U);simp only[bC.row]at B;have hd:h.l.drop j=h.l[j]::h.l.drop (j+1):=afL U;rw[hd]at s;obtain⟨x,hx⟩:=aD (h.l[j]);rw[<-hx]at s B;refine aI ?_;apply ai;simp[v,m,h0,a7,U,B];obtain⟨I,u⟩:=aD ([C.f (fi x.id),C.f (fi x.dl),C.f (fi x.state),C.f (fi x.aW.meet),C.f (fi x.aW.room),C.f (fi x.aW.dg),C.f (fi x.aW.size),C.f (sl x.aW.st.cg (aP x.aW.st.cs)),C.f (fi x.aW.st.len),C.f (sl x.aW.st.xg (aC x.aW.st.xs))]);rw[<-u];obtain⟨E,A⟩:=aD (H++[.box I 0]:aj);have n0:E[0]?=aa (.box [.f (fi h.clock),.f (fi h.ba),.f (sl h.lg (aL h.l))] 0):=by rw[A,afy (au h0)];exact h0
   have nr:E[H.length]?=aa (.box I 0):=by rw[A];simp
   rw[<-A];have M:aQ E ab (.c (.ptr H.length 2 0))=aa (vi x.state):=by simp[nr,u,aO]
   have F:aQ E (aa 7) (.c (.ptr H.length 3 0))=aa (.a (x.aW.row.map .f)):=by simp[nr,u,aO,aB.row]
   obtain⟨gi,K⟩:=nJ g acc (by omega) x.aW;have d:=GY g acc (by omega) x.aW;have Y:(nZ x&&!(acc.any λy=>cj y x.aW))=ag->∀q:T,q.g 1=.c (.ptr 0 0 0)->q.g 4=vi j->q.g 3=.c (.f (sl g (an acc)))->q.g 36=vb ag->
     WP tab Ab ab [.code xZ,.inBlock 1,.code yc,.inLoop xY,.inBlock 0,.code yd] ⟨q,[],E⟩ Q:=by
    intro X q m W l z;rw[iW,X]at s;simp at s;exact aG (by simp[z]) (aS (aA (next _ _ ⟨by simp[m],n0,g,acc,by simp[l],by omega,s⟩ (by simp[W]))))
   have S:(nZ x&&!(acc.any λy=>cj y x.aW))=ae->∀q:T,q.g 1=.c (.ptr 0 0 0)->q.g 4=vi j->q.g 3=.c (.f (sl g (an acc)))->q.g 5=.c (.ptr H.length 0 0)->q.g 36=vb ae->
     WP tab Ab ab [.code xZ,.inBlock 1,.code yc,.inLoop xY,.inBlock 0,.code yd] ⟨q,[],E⟩ Q:=by
    intro X q m W l g5 z;rw[iW,X]at s;simp at s;refine al (by simp[z]) ?_;refine av (.inl rfl) ?_;simp[l,g5,F,K,-aq];exact aA (next _ _ ⟨by simp[m],n0,gi,mX x.aW acc,by simp,by rw[rG];omega,s⟩ (by simp[W]))
   apply ak;refine av (.inl rfl) ?_;by_cases N:x.state=1
   .cases b:acc.any λy=>cj y x.aW
    .rw[b]at d;simp[M,F,N,l,d,-aq];exact S (by simp[nZ,N,b]) _ (by simp[m]) (by simp[v]) (by simp[l]) (by simp) (by simp)
    .rw[b]at d;simp[M,F,N,l,d,-aq];exact Y (by simp[b]) _ (by simp[m]) (by simp[v]) (by simp[l]) (by simp)
   by_cases O:x.state=2
   .cases b:acc.any λy=>cj y x.aW
    .rw[b]at d;simp[M,F,O,l,d,-aq];exact S (by simp[nZ,O,b]) _ (by simp[m]) (by simp[v]) (by simp[l]) (by simp) (by simp)
    .rw[b]at d;simp[M,F,O,l,d,-aq];exact Y (by simp[b]) _ (by simp[m]) (by simp[v]) (by simp[l]) (by simp)
   .simp[M,F,N,O,-aq];exact Y (by simp[nZ,N,O]) _ (by simp[m]) (by simp[v]) (by simp[l]) (by simp)
  .rintro t H ⟨m,h0,g,acc,l,J,s⟩ v;apply ai;simp[l];rw[agZ (afJ _),iW]at s;refine az (hQ _ _ (.c (.f (sl g (an acc)))) ⟨g,by simp[Z,s]⟩ ?_);simp
 exact⟨g',hp.eq⟩
def dN:List aB->List aB->List aB
 |acc,[]=>acc| acc,s::r=>dN (mX s acc) r
theorem vW(a:List aB):∀(l acc:List aB),dN acc (l++a)=dN (dN acc l) a
 |[],_=>rfl| s::r,acc=>by simp only[agu,dN];exact vW a r _
theorem ti:∀{l acc:List aB},acc.Pairwise kD->(dN acc l).Perm (acc++l)/\(dN acc l).Pairwise kD
 |[],acc,h=>⟨by simp[dN],h⟩
 |s::r,acc,h=>by
  obtain⟨b,d⟩:=ti (l:=r) (uH s h);refine⟨b.trans ?_,d⟩;have:acc++s::r=(acc++[s])++r:=by simp
  rw[this];exact List.Perm.append_right _ (lG s acc)
theorem vX(l acc:List aB):(dN acc l).length=acc.length+l.length:=by
 induction l generalizing acc with
 |nil=>simp[dN]| cons s r b=>rw[dN,b,rG];simp;omega
def oS(l0:List aB)(s:aB):Bool:=!(l0.any λx=>cj x s)
theorem ke(l0:List aB):∀(L acc:List aB),(uniq [] acc L).filter (oS l0)=uniq l0 (acc.filter (oS l0)) L
 |[],acc=>rfl
 |s::r,acc=>by
  simp only[uniq,List.any_nil,ahr];have key:oS l0 s=ae->((acc.filter (oS l0)).any λx=>cj x s)=(acc.any λx=>cj x s):=by
   intro b;rw[agH,agw,agw];constructor
   .rintro⟨x,g,e⟩;exact⟨x,(agB.1 g).1,e⟩
   .rintro⟨x,g,e⟩;refine⟨x,agB.2 ⟨g,?_⟩,e⟩;have j:=pH.1 e;have:oS l0 x=oS l0 s:=by
     unfold oS cj;rw[j.1,j.2]
    rw[this];exact b
  by_cases b:oS l0 s=ae
  .have d:(l0.any λx=>cj x s)=ag:=by simpa[oS]using b
   rw[d,ahr,key b];split
   .exact ke l0 r acc
   .rw[ke l0 r (acc++[s])];simp[b]
  .have d:(l0.any λx=>cj x s)=ae:=by simpa[oS]using b
   rw[d,Bool.true_or];simp only[if_true];split
   .exact ke l0 r acc
   .rw[ke l0 r (acc++[s])];simp[b]
theorem R7{l0:List aB}(h0:kv l0)(h:bR):dN (dN [] l0) ((iW [] h.l).filter (oS l0))=pU l0 h:=by
 obtain⟨d,s⟩:=rZ (l:=h.l) (acc:=[]) (u:=[]) (.refl _) .nil;obtain⟨g,j⟩:=ti (l:=l0) (acc:=[]) .nil;obtain⟨m,q⟩:=ti (l:=(iW [] h.l).filter (oS l0)) j;refine zE (pB h0 h) (m.trans ?_) q;refine List.Perm.append (by simpa using g) ?_;have b:=d.filter (oS l0);rw[ke]at b;exact b
theorem Db(h:bR)(hl:h.l.length<=30)(hv:cK h=ae)(g0:Tg)(l0:List aB)(h0:kv l0)(b9:l0.length<=30) :
  ∃g,aX tab My [.a (h.row.map .f),.c (.f (sl g0 (an l0)))]=Eq (.c (.f (sl g (an (pU l0 h))))):=by
 obtain⟨r,⟨g,rfl⟩,hp⟩:∃r,(∃g:Tg,r=.c (.f (sl g (an (pU l0 h)))))/\aX tab My [.a (h.row.map .f),.c (.f (sl g0 (an l0)))] r:=by
  refine cN rfl rfl λQ U=>?_;obtain⟨O,d⟩:=Pe h hl;rw[hv]at d;simp only[if_true]at d;rw[<-R7 h0 h]at U;obtain⟨B,Z⟩:=aD (iW [] h.l);rw[<-Z]at d U;have a9:B.length<=30:=by
   rw[Z];have:=tE h.l [];simp at this;omega
  have a_:h.row.length=3:=rfl;have E:∀J:aj,bo J (.f (sl g0 (an l0)))=aa l0.length:=λJ=>by simp
  have F:∀J:aj,bo J (.f (sl O (an B)))=aa B.length:=λJ=>by simp
  have a8:(.f .aK:C)=.f (sl .nil (an [])):=by simp[an,sl,Tg.fc]
  apply ai;simp;obtain⟨Y,K⟩:=aD ([.box (h.row.map .f) 0]:aj);have a0:aQ Y (aa 3) (.c (.ptr 0 0 0))=aa (.a (h.row.map .f)):=by rw[K];simp[aO,bR.row]
  rw[<-K];apply ai;simp;apply ak;apply ai;simp;refine bA l0.length (λj t H=>t.g 1=.c (.f (sl g0 (an l0)))/\t.g 2=.c (.ptr 0 0 0)/\(∃g:Tg,t.g 5=.c (.f (sl g (an (dN [] (l0.take j))))))/\H=Y) (by omega) rfl (by simp) ⟨by simp,by simp,⟨.nil,by simp[dN,an,sl,Tg.fc]⟩,rfl⟩ ?_ ?_ ?_
  .rintro j t H L z ⟨m,I,q,rfl⟩ l W;simp[l,m,E];exact W _ ⟨by simp[m],by simp[I],by simpa using q,rfl⟩ (by simp[l]) (by simp)
  .rintro j t H z ⟨m,I,⟨g,q⟩,rfl⟩ l next
   have b:=λH:aj=>a7 (H:=H) (g:=g0) (rows:=an l0) (sz:=7) (k:=.i64) (i:=(j:Int)) (by omega) (by simp;omega);have u:=λH:aj=>bE (H:=H) (aR l0) (bD z);simp only[afU]at b;obtain⟨g',s⟩:=nJ g (dN [] (l0.take j)) (by rw[vX];simp;omega) l0[j];have X:dN [] (l0.take (j+1))=mX l0[j] (dN [] (l0.take j)):=by
    rw[agC,afB z,vW];rfl
   refine aI ?_;refine av (.inl rfl) ?_;simp[l,m,q,b,u,s];exact aA (next _ _ ⟨by simp[m],by simp[I],⟨g',by rw[X];simp⟩,rfl⟩ (by simp[l]))
  .rintro t H ⟨m,I,⟨g,q⟩,rfl⟩ l;rw[agc]at q;apply ai;simp[I,a0,d,-aq];apply ak;apply ai;simp;refine bA B.length (λj t H'=>t.g 1=.c (.f (sl g0 (an l0)))/\t.g 7=.c (.f (sl O (an B)))/\∃(g:Tg) (A:List aB),t.g 5=.c (.f (sl g (an A)))/\A.length<=l0.length+j/\dN (dN [] l0) (B.filter (oS l0))=dN A ((B.drop j).filter (oS l0))) (by omega) rfl (by simp) ⟨by simp[m],by simp,g,dN [] l0,by simp[q],by rw[vX];simp,by simp⟩ ?_ ?_ ?_
   .rintro j t H L z ⟨m,v,S⟩ l W;simp[l,v,F];exact W _ ⟨by simp[m],by simp[v],by simpa using S⟩ (by simp[l]) (by simp)
   .rintro j t H z ⟨m,v,g,A,q,S,y⟩ l next
    have b:=λH:aj=>a7 (H:=H) (g:=O) (rows:=an B) (sz:=7) (k:=.i64) (i:=(j:Int)) (by omega) (by simp;omega);have u:=λH:aj=>bE (H:=H) (aR B) (bD z);simp only[afU]at b;obtain⟨g',s⟩:=nJ g A (by omega) B[j];have M:=GY g0 l0 (by omega) B[j];rw[afL z]at y;refine aI ?_;apply ai;cases N:(l0.any λx=>cj x B[j])with
    |false=>
     rw[N]at M;rw[List.filter_cons_of_pos (by simp[oS,N]),dN]at y;simp[l,m,v,b,u,M];refine al (by simp) (av (.inl rfl) ?_);simp[l,q,v,b,u,s];exact aA (next _ _ ⟨by simp[m],by simp[v],g',mX B[j] A,by simp,by rw[rG];omega,y⟩ (by simp[l]))
    |true=>
     rw[N]at M;rw[List.filter_cons_of_neg (by simp[oS,N])]at y;simp[l,m,v,b,u,M];exact aG (by simp) (aS (aA (next _ _ ⟨by simp[m],by simp[v],g,A,by simp[q],by omega,y⟩ (by simp[l]))))
   .rintro t H ⟨m,v,g,A,q,S,y⟩ l;rw[agF]at y;simp only[List.filter_nil,dN]at y;apply ai;simp[q];refine az (U _ _ (.c (.f (sl g (an A)))) ⟨g,by rw[y]⟩ ?_);simp
 exact⟨g,hp.eq⟩
theorem Fg{h:bR}{x:bC}(b:bM h x=0):cK h=ae/\∀q (l:q<h.l.length),h.l[q].id≠x.id:=by
 unfold bM at b;split at b
 .cases b
 .rename_i m;split at b
  .cases b
  .rename_i g;refine⟨by cases s:cK h;exact absurd (.inl s) m;rfl,λq l e=>?_⟩;have:oJ x.id h.l≠ab:=λd=>by
    unfold oJ at d;rw[List.findIdx?_eq_none_iff]at d;have:=d _ (afH l);simp[e]at this
   cases j:oJ x.id h.l with
   |none=>exact this j| some i=>rw[j]at g;exact g rfl
theorem bq8{b:List Int}(h:b.length=8):V.beq (.a (eR b)) (.a (eR b))=ae:=by
 match b,h with
 |[b1,d,g,j,l,m,q,s],_=>simp[eR,V.beq,C.beq,FC.beq]
theorem Kh(h:bR)(hl:h.l.length<=30)(rm:FC)(g0:Tg)(l0:List aB)(h0:kv l0)(s9:l0.length<=30)(x:bC)(N:List Int)(z:Int)(i8:N.length=8)(hz:N[0]?=aa 0->N=e7)
  (a9:bM h x=0->∀g,aX tab uY [.c (.f rm),.c (.f (sl g (an (pU l0 h)))),.a (x.aW.row.map .f)]=Eq (.t [.a (eR N),vi z])) :
  ∃res d c,iA h x N z res d c/\aX tab uZ [.a (h.row.map .f),.a [.f rm,.f (sl g0 (an l0))],.a (x.row.map .f)]=Eq (.t [.a (res.row.map .f),.a (eR d),vi c]):=by
 obtain⟨v,⟨res,d,c,hG,rfl⟩,hp⟩:∃v,(∃res d c,iA h x N z res d c/\v=.t [.a (res.row.map .f),.a (eR d),vi c])/\aX tab uZ [.a (h.row.map .f),.a [.f rm,.f (sl g0 (an l0))],.a (x.row.map .f)] v:=by
  refine cN rfl rfl λQ hQ=>?_;have hr:=Fh h hl x;have w9:h.row.length=3:=rfl;have u7:x.row.length=10:=rfl;have S:(eR N).length=8:=by simp[eR,i8]
  obtain⟨sd,m4⟩:=aD (sl g0 (an l0));rw[<-m4];apply ai;simp;obtain⟨u,U⟩:=aD ([.box (h.row.map .f) 0,.box [.f rm,.f sd] 0,.box (x.row.map .f) 0,.box [.f (fi 0),.f (fi 0),.f .aK] 0,.box [.f (fi 0),.f (fi 0),.f (fi 0),.f (fi 0),.f (fi 0),.f (fi 0),.f (fi 0),.f (fi 0)] 0]:aj);have z0:u[0]?=aa (.box (h.row.map .f) 0):=by rw[U];rfl
  have z1:u[1]?=aa (.box [.f rm,.f sd] 0):=by rw[U];rfl
  have z2:u[2]?=aa (.box (x.row.map .f) 0):=by rw[U];rfl
  have z3:u[3]?=aa (.box [.f (fi 0),.f (fi 0),.f .aK] 0):=by rw[U];rfl
  have z4:u[4]?=aa (.box [.f (fi 0),.f (fi 0),.f (fi 0),.f (fi 0),.f (fi 0),.f (fi 0),.f (fi 0),.f (fi 0)] 0):=by rw[U];rfl
  have n0:u.length=5:=by rw[U];rfl
  have lh:∀K:aj,K[0]?=aa (.box (h.row.map .f) 0)->aQ K (aa 3) (.c (.ptr 0 0 0))=aa (.a (h.row.map .f))/\aQ K ab (.c (.ptr 0 0 0))=aa (vi h.clock)/\aQ K ab (.c (.ptr 0 1 0))=aa (vi h.ba)/\aQ K ab (.c (.ptr 0 2 0))=aa (.c (.f (sl h.lg (aL h.l)))):=λK hk=>by refine⟨?_,?_,?_,?_⟩<;>simp[aQ,aw,hk,aO,bR.row]
  have lp:∀K:aj,K[1]?=aa (.box [.f rm,.f sd] 0)->aQ K ab (.c (.ptr 1 0 0))=aa (.c (.f rm))/\aQ K ab (.c (.ptr 1 1 0))=aa (.c (.f sd)):=λK hk=>by refine⟨?_,?_⟩<;>simp[aQ,aw,hk]
  have lx:∀K:aj,K[2]?=aa (.box (x.row.map .f) 0)->aQ K (aa 10) (.c (.ptr 2 0 0))=aa (.a (x.row.map .f))/\aQ K (aa 7) (.c (.ptr 2 3 0))=aa (.a (x.aW.row.map .f))/\aQ K ab (.c (.ptr 2 0 0))=aa (vi x.id):=λK hk=>by refine⟨?_,?_,?_⟩<;>simp[aQ,aw,hk,aO,bC.row,aB.row]
  rw[<-U];have s3:∀K:aj,Kp u K->∀a b c:C,cz K (.ptr 3 0 0) [a,b,c]=aa (K.set 3 (.box [a,b,c] 0)):=λK hK a b c=>by simp[cz,hK.get z3,bp]
  have s4:∀K:aj,Kp u K->∀(y:bB) (w:List C),w.length=8->cz (K.set 3 y) (.ptr 4 0 0) w=aa ((K.set 3 y).set 4 (.box w 0)):=λK hK y w hw=>by
   have:(K.set 3 y)[4]?=aa (.box [.f (fi 0),.f (fi 0),.f (fi 0),.f (fi 0),.f (fi 0),.f (fi 0),.f (fi 0),.f (fi 0)] 0):=by rw[ae2 (by omega)];exact hK.get z4
   match w,hw with
   |[b1,b2,b3,b4,b5,b6,b7,b8],_=>simp[cz,this,bp]
  have j8:∀(t:T) (K:aj) (res:bR) (d:List Int) (c:Int) (cc:C),Kp u K->iA h x N z res d c->d.length=8->t.g 6=.c (.ptr 3 0 0)->t.g 7=.c (.ptr 4 0 0)->t.g 8=vi c->
    eg deep ((K.set 3 (.box [.f (fi res.clock),.f (fi res.ba),cc] 0)).set 4 (.box (eR d) 0)) cc=aa (sl res.lg (aL res.l))->
    Q (aa .ret) ⟨t,[],(K.set 3 (.box [.f (fi res.clock),.f (fi res.ba),cc] 0)).set 4 (.box (eR d) 0)⟩:=by
   intro t K res d c cc hK hG t9 g6 g7 g8 e9;obtain⟨J,hJ⟩:=aD ((K.set 3 (.box [.f (fi res.clock),.f (fi res.ba),cc] 0)).set 4 (.box (eR d) 0));rw[<-hJ]at e9 ⊢;have l4:=au (hK.get z4);have w3:J[3]?=aa (.box [.f (fi res.clock),.f (fi res.ba),cc] 0):=by rw[hJ,ae2 (by omega)];exact afC (by omega)
   have w4:J[4]?=aa (.box (eR d) 0):=by rw[hJ];exact afC (by simp;omega)
   refine hQ _ _ _ ⟨res,d,c,hG,rfl⟩ ?_
   match d,t9 with
   |[b1,b2,b3,b4,b5,b6,b7,b8],_=>
    simp[eR]at w4;simp[Km.results,aZ,cu,g6,g7,g8,aQ,aw,w3,w4,aO,fC,bX,e9,eR,bR.row]
  have i_:=show([.f (fi 0),.f (fi 0),.f (fi 0),.f (fi 0),.f (fi 0),.f (fi 0),.f (fi 0),.f (fi 0)]:List C).length=8 from rfl
  have x8:(eR e7)=[.f (fi 0),.f (fi 0),.f (fi 0),.f (fi 0),.f (fi 0),.f (fi 0),.f (fi 0),.f (fi 0)]:=rfl;have g_:∀(t:T) (K:aj) (c:Int),Kp u K->iA h x N z eu e7 c->t.g 6=.c (.ptr 3 0 0)->t.g 7=.c (.ptr 4 0 0)->t.g 8=vi c->Q (aa .ret) ⟨t,[],(K.set 3 (.box [.f (fi 0),.f (fi 0),.f .aK] 0)).set 4 (.box [.f (fi 0),.f (fi 0),.f (fi 0),.f (fi 0),.f (fi 0),.f (fi 0),.f (fi 0),.f (fi 0)] 0)⟩:=λt K c hK hG g6 g7 g8=>
   j8 t K eu e7 c (.f .aK) hK hG rfl g6 g7 g8 rfl
  apply ai;simp[(lh u z0).1,(lx u z2).1,hr,-aq];apply ak;apply ai;simp;by_cases he:bM h x=0
  case neg=>
   refine al (by simp[he]) (ai ?_);simp[s3 u (Kp.refl _),s4 u (Kp.refl _) _ _ i_,-aU];refine az (g_ _ _ (bM h x) (Kp.refl _) (.inl ⟨he,rfl,rfl,rfl⟩) ?_ ?_ ?_)<;>simp
  refine bc (by simp[he]) ?_;obtain⟨hv,t7⟩:=Fg he;obtain⟨ga,f_⟩:=Db h hl hv g0 l0 h0 s9;have a9:=a9 he ga;rw[<-m4]at f_;obtain⟨O,c_⟩:=aD (u++[.box (eR N) 0]:aj);have k1:Kp u O:=by rw[c_];exact Kp.push _ _
  have z5:O[5]?=aa (.box (eR N) 0):=by rw[c_,<-n0];simp
  have n1:O.length=6:=by rw[c_];simp[n0]
  apply ai;simp[(lh u z0).1,(lx u z2).2.1,(lp u z1).1,(lp u z1).2,f_,a9,S,n0,-aq];rw[<-c_];apply ak;apply ai;simp;by_cases B:z=0
  case neg=>
   refine al (by simp[B]) (ai ?_);simp[s3 O k1,s4 O k1 _ _ i_,-aU];refine az (g_ _ _ z k1 (.inr (.inl ⟨he,B,rfl,rfl,rfl⟩)) ?_ ?_ ?_)<;>simp
  refine bc (by simp[B]) ?_;obtain⟨r0,f7⟩:∃r0,N[0]?=aa r0:=⟨N[0],afB (by omega)⟩
  have j7:aQ O ab (.c (.ptr 5 0 0))=aa (vi r0)/\aQ O (aa 8) (.c (.ptr 5 0 0))=aa (.a (eR N)):=by
   refine⟨?_,?_⟩
   .have e:(eR N)[0]?=aa (.f (fi r0)):=by rw[eR,agl,f7];rfl
    simp[aQ,aw,z5]
    match hw:eR N,S with
    |b1::_,_=>rw[hw]at e;simp at e;simp[e,aO]
   .simp[aQ,aw,z5,aO,S,afM]
  apply ak;apply ai;simp[j7.1,-aq];by_cases i9:r0=0
  case neg=>
   have e3:h.row.map C.f=[.f (fi h.clock),.f (fi h.ba),.f (sl h.lg (aL h.l))]:=rfl;have l0:=(lh O (k1.get z0)).1;rw[e3]at l0;have w5:(O.set 3 (.box [.f (fi h.clock),.f (fi h.ba),.f (sl h.lg (aL h.l))] 0))[5]?=aa (.box (eR N) 0):=by rw[ae2 (by omega)];exact z5
   have u_:aQ (O.set 3 (.box [.f (fi h.clock),.f (fi h.ba),.f (sl h.lg (aL h.l))] 0)) (aa 8) (.c (.ptr 5 0 0))=aa (.a (eR N)):=by simp[aQ,aw,w5,aO,S,afM]
   refine al (by simp[i9]) (ak (dy (.inl rfl) ?_ ?_))
   case refine_2=>
    intro cc p_;have o_:cc=(1,3):=by simpa using p_
    rw[o_];refine⟨by decide,_,rfl,.inl ⟨by decide,?_⟩⟩;have bq:=bq8 i8;simp[l0,j7.2,u_,s3 O k1,s4 O k1 _ _ S,S,fO,bq,-aq,-aU]
   simp[l0,j7.2,s3 O k1,s4 O k1 _ _ S,S,-aq,-aU];refine az (j8 _ _ h N 0 (.f (sl h.lg (aL h.l))) k1 (.inr (.inr ⟨he,B,rfl,rfl,h.lg,.inl ⟨by rw[f7];simpa using i9,rfl⟩⟩)) i8 ?_ ?_ ?_ (by simp[deep]))<;>simp
  subst i9;refine bc (by simp) ?_;obtain⟨H2,d9⟩:=aD (O++[.box [.f (fi h.clock),.f (fi h.ba),.f .aK] 0]:aj);have k2:Kp O H2:=by rw[d9];exact Kp.push _ _
  have z6:H2[6]?=aa (.box [.f (fi h.clock),.f (fi h.ba),.f .aK] 0):=by rw[d9,<-n1];simp
  have n2:H2.length=7:=by rw[d9];simp[n1]
  have kk:=k1.tr k2;apply ai;simp[(lh O (k1.get z0)).2.1,(lh O (k1.get z0)).2.2.1,n1,-aq];rw[<-d9];apply ai;simp;have u6:h.l.Pairwise (λx y=>x.id<y.id):=by simp[cK]at hv;exact(pF hv.2).2
  apply ak;refine aI ?_;refine dx (λm st=>∃(i:Nat) (t:T) (K:aj) (c:C),st=⟨t,[],K⟩/\m=h.l.length-i/\i<=h.l.length/\t.g 3=.c (.ptr 0 0 0)/\t.g 5=.c (.ptr 2 0 0)/\t.g 6=.c (.ptr 3 0 0)/\t.g 7=.c (.ptr 4 0 0)/\t.g 12=.c (.ptr 6 0 0)/\t.g 13=vi i/\Kp u K/\K[6]?=aa (.box [.f (fi h.clock),.f (fi h.ba),c] 0)/\LR K c 10 (aL (h.l.take i))/\(∀b,bt c=aa b->7<=b)/\(∀q (hq:q<h.l.length),q<i->h.l[q].id<x.id)) h.l.length
   ⟨0,_,_,.f .aK,rfl,by omega,by omega,by simp,by simp,by simp,by simp,by simp,by simp,kk,z6,LR.nil _ _,by simp[bt],by simp⟩ ?_
  rintro m st ⟨i,t,K,c,rfl,rfl,hi,g3,g5,g6,g7,E,L,hK,y6,hL,hb,l_⟩ ih;have y0:=hK.get z0;have y2:=hK.get z2;have l6:aQ K ab (.c (.ptr 6 2 0))=aa (.c c):=by simp[aQ,aw,y6]
  have n6:=au y6;have j_:(∀h':i<h.l.length,¬ h.l[i].id<x.id)->∀t:T,t.g 3=.c (.ptr 0 0 0)->t.g 5=.c (.ptr 2 0 0)->t.g 6=.c (.ptr 3 0 0)->t.g 7=.c (.ptr 4 0 0)->t.g 12=.c (.ptr 6 0 0)->t.g 13=vi i->WP tab uZ ab [.code sG] ⟨t,[],K⟩ Q:=by
   intro q_ t g3 g5 g6 g7 E L;obtain⟨J1,A⟩:=aD (K++[.box (x.row.map .f) 0]:aj);have i4:LR J1 c 10 (aL (h.l.take i)):=by rw[A];exact hL.push _
   have j5:Kp K J1:=by rw[A];exact Kp.push _ _
   obtain⟨c2,J2,a_,a8,h_,i7⟩:=i4.app (aY _) (by decide) (row:=x.row) rfl (bytes:=112) (jI (by simp;omega) (by decide)) (b1:=K.length) (fl1:=0) (by rw[A];simp);have e2:aL (h.l.take i)++[x.row]=aL (h.l.take i++[x]):=by simp[aL]
   rw[e2]at a8;have l:∀(j:Nat) (y:bB),j<7->K[j]?=aa y->J2[j]?=aa y:=λj y W hy=>h_.2 j y (j5.get hy) λe=>by have:=hb j e;omega
   have I:∀b,bt c2=aa b->7<=b:=λb s=>by
    rcases i7 with e|e
    .rw[e]at s;exact hb b s
    .rw[e]at s;cases s;rw[A];simp;omega
   obtain⟨Y,M⟩:=aD (J2.set 6 (.box [.f (fi h.clock),.f (fi h.ba),c2] 0):aj);have j9:cz J2 (.ptr 6 2 0) [c2]=aa Y:=by rw[M];simp[cz,l 6 _ (by omega) y6,bp]
   have i5:LR Y c2 10 (aL (h.l.take i++[x])):=by rw[M];exact a8.set (λe=>by have:=I _ e;omega) _
   have w6:Y[6]?=aa (.box [.f (fi h.clock),.f (fi h.ba),c2] 0):=by rw[M];exact afC (au (l 6 _ (by omega) y6))
   have b_:∀(j:Nat) (y:bB),j<6->K[j]?=aa y->Y[j]?=aa y:=λj y W hy=>by rw[M,ae2 (by omega)];exact l j y (by omega) hy
   obtain⟨g1,m9⟩:=G6 (H:=Y) (g:=h.lg) (k:=i) (aY h.l) (by simpa using hi) (by simp;omega);have e5:(aL h.l).drop i=aL (h.l.drop i):=by simp[aL]
   rw[e5]at m9;obtain⟨c5,J4,i6,k_,n8,n_⟩:=i5.Nf (aY _) (by decide) (aY (h.l.drop i)) (bytes:=112) (jI (by simp;omega) (by decide)) g1;have e6:aL (h.l.take i++[x])++aL (h.l.drop i)=aL (h.l.take i++x::h.l.drop i):=by simp[aL]
   rw[e6]at k_;have X:∀(j:Nat) (y:bB),j<7->Y[j]?=aa y->J4[j]?=aa y:=λj y W hy=>n8.2 j y hy λe=>by have:=I j e;omega
   have f8:∀b,bt c5=aa b->7<=b:=λb s=>by
    rcases n_ with e|e
    .rw[e]at s;exact I b s
    .rw[e]at s;cases s;have:=au w6;omega
   obtain⟨J5,d_⟩:=aD (J4.set 6 (.box [.f (fi h.clock),.f (fi h.ba),c5] 0):aj);have v_:cz J4 (.ptr 6 2 0) [c5]=aa J5:=by rw[d_];simp[cz,X 6 _ (by omega) w6,bp]
   have n9:LR J5 c5 10 (aL (h.l.take i++x::h.l.drop i)):=by rw[d_];exact k_.set (λe=>by have:=f8 _ e;omega) _
   have m_:J5[6]?=aa (.box [.f (fi h.clock),.f (fi h.ba),c5] 0):=by rw[d_];exact afC (au (X 6 _ (by omega) w6))
   have j4:∀(j:Nat) (y:bB),j<6->K[j]?=aa y->J5[j]?=aa y:=λj y W hy=>by rw[d_,ae2 (by omega)];exact X j y (by omega) (b_ j y W hy)
   have j6:Kp u J5:=⟨by have:=au m_;omega,λj W=>by
    rw[afB W];exact j4 j _ (by omega) (hK.get (afB W))⟩
   obtain⟨gf,r5⟩:=n9.exU (aY _);have e9:=r5 ((J5.set 3 (.box [.f (fi h.clock),.f (fi h.ba),c5] 0)).set 4 (.box (eR e7) 0)) 63 (λj y hy r_=>by
    have:=f8 j r_;rw[ae2 (by omega),ae2 (by omega)];exact hy)
   have v8:aQ J5 (aa 3) (.c (.ptr 6 0 0))=aa (.a [.f (fi h.clock),.f (fi h.ba),c5]):=by simp[aQ,aw,m_,aO]
   have v9:=(lx K y2).1;apply ai;simp[g5,E,l6,v9,u7,-aq,-aU];rw[<-A];simp[a_,E,j9,-aq,-aU];have v6:aQ Y ab (.c (.ptr 6 2 0))=aa (.c c2):=by simp[aQ,aw,w6]
   apply ai;simp[g3,E,L,v6,(lh Y (b_ 0 _ (by omega) y0)).2.2.2,m9,i6,v_,-aq,-aU];apply ai;simp[g6,g7,E,v8,s3 J5 j6,s4 J5 j6 _ _ i_,-aq,-aU];refine az (j8 _ J5 ⟨h.clock,h.ba,gf,h.l.take i++x::h.l.drop i⟩ e7 0 c5 j6 ?_ rfl ?_ ?_ ?_ e9)
   .refine .inr (.inr ⟨he,B,rfl,?_,gf,.inr ⟨f7,i,hi,λj W s7=>l_ j W s7,λj W w_=>?_,rfl⟩⟩)
    .exact(hz f7).symm
    .have F:i<h.l.length:=by omega
     have h1:=q_ F;have h2:=t7 i F;rcases agq i j with h3|h3
     .have:=ags.1 u6 i j F W h3;omega
     .have:i=j:=by omega
      subst this;omega
   .simp[g6]
   .simp[g7]
   .simp
  apply ak;apply ai;by_cases F:i<h.l.length
  case neg=>
   simp[g3,L,(lh K y0).2.2.2,show¬ (i:Int)<(h.l.length:Int) by omega,-aq];refine aG (by simp) ?_;refine bT (k':=[.code sG]) rfl ?_;exact j_ (λh=>absurd h F) _ (by simp[g3]) (by simp[g5]) (by simp[g6]) (by simp[g7]) (by simp[E]) (by simp[L])
  have Z:=λH:aj=>a7 (H:=H) (g:=h.lg) (rows:=aL h.l) (sz:=10) (k:=.i64) (i:=(i:Int)) (by omega) (by simp;omega);have s_:=λH:aj=>bE (H:=H) (aY h.l) (cJ F);have b9:=λH:aj=>kU (H:=H) (aY h.l) (cJ F) rfl;simp only[afU]at Z;simp only[fi]at b9;by_cases e_:h.l[i].id<x.id
  case neg=>
   simp[g3,g5,L,(lh K y0).2.2.2,(lx K y2).2.2,F,Z,b9,e_,-aq];refine aG (by simp) ?_;refine bT (k':=[.code sG]) rfl ?_;exact j_ (λ_=>e_) _ (by simp[g3]) (by simp[g5]) (by simp[g6]) (by simp[g7]) (by simp[E]) (by simp[L])
  simp[g3,g5,L,(lh K y0).2.2.2,(lx K y2).2.2,F,Z,b9,e_,-aq];refine al (by simp) (aS ?_);obtain⟨J1,A⟩:=aD (K++[.box (h.l[i].row.map .f) 0]:aj);have i4:LR J1 c 10 (aL (h.l.take i)):=by rw[A];exact hL.push _
  have j5:Kp K J1:=by rw[A];exact Kp.push _ _
  obtain⟨c2,J2,a_,a8,h_,i7⟩:=i4.app (aY _) (by decide) (row:=h.l[i].row) rfl (bytes:=112) (jI (by simp;omega) (by decide)) (b1:=K.length) (fl1:=0) (by rw[A];simp);have e2:aL (h.l.take i)++[h.l[i].row]=aL (h.l.take (i+1)):=by
   rw[agh F];simp only[aL,agA,afS,afW]
  rw[e2]at a8;have l:∀(j:Nat) (y:bB),j<7->K[j]?=aa y->J2[j]?=aa y:=λj y W hy=>h_.2 j y (j5.get hy) λe=>by have:=hb j e;omega
  have I:∀b,bt c2=aa b->7<=b:=λb s=>by
   rcases i7 with e|e
   .rw[e]at s;exact hb b s
   .rw[e]at s;cases s;rw[A];simp;omega
  obtain⟨Y,M⟩:=aD (J2.set 6 (.box [.f (fi h.clock),.f (fi h.ba),c2] 0):aj);have j9:cz J2 (.ptr 6 2 0) [c2]=aa Y:=by rw[M];simp[cz,l 6 _ (by omega) y6,bp]
  have i5:LR Y c2 10 (aL (h.l.take (i+1))):=by rw[M];exact a8.set (λe=>by have:=I _ e;omega) _
  have w6:Y[6]?=aa (.box [.f (fi h.clock),.f (fi h.ba),c2] 0):=by rw[M];exact afC (au (l 6 _ (by omega) y6))
  have u9:Kp u Y:=⟨by have:=au w6;omega,λj W=>by
   rw[afB W,M,ae2 (by omega)];exact l j _ (by omega) (hK.get (afB W))⟩
  have t_:(h.l[i].row).length=10:=rfl;refine aI ?_;apply ai;simp[g3,E,L,l6,(lh K y0).2.2.2,Z,s_,t_,-aq,-aU];rw[<-A];simp[a_,E,j9,-aq,-aU];refine av (.inl rfl) ?_;simp[L,bg (n:=(i:Int)+1)];refine aA (ih (h.l.length-(i+1)) _ (by omega) ⟨i+1,_,Y,c2,rfl,rfl,by omega,by simp[g3],by simp[g5],by simp[g6],by simp[g7],by simp[E],by simp,u9,w6,i5,I,λq hq x6=>?_⟩);by_cases e:q=i
  .subst e;exact e_
  .exact l_ q hq (by omega)
 exact⟨res,d,c,hG,hp.eq⟩
section
set_option maxHeartbeats 100000000
def eS:V:=mx 1 0
def Qb:V:=.a [.f (fi 0),.f (.fs [fi 3] 1),.f (fi (-1)),.f .aK,.f (fi 0),.f .aK,.f (fi 0),.f .aK]
def Cs:V:=.a [.f (fi 0),.f (.fs [fi 3] 1),.f (fi (-1)),.f .aK,.f (fi 0),.f .aK,.f (fi 0),.f .aK,.f iG,.f .aK]
def KJ(n p:Int):V:=.a [.f .aK,.f (fi 0),.f (fi n),.f (.fs [fi p] 1)]
theorem lT:Eo.map (λx=>(RK 220 [mx x.1 x.2] (vb ae),RK 299 [mx x.1 x.2,vi (-1)] (.t [mx x.1 (A_ x.1 x.2),vi 0]),RK 160 [mx x.1 x.2] (.t [KJ x.1 x.2,vi 0]),RK 150 [mx x.1 x.2,eS] (.t [gJ,vi 0]),RK 150 [mx x.1 x.2,gJ] (.t [mx x.1 x.2,vi 0]),RK 151 [mx x.1 x.2] (vb ag),RK 232 [mx x.1 x.2,vi 0] (.t [vi x.2,vb ae]))) =
  Eo.map λx=>(vb ae=vb ae,(.t [mx x.1 (A_ x.1 x.2),vi 0]:V)=.t [mx x.1 (A_ x.1 x.2),vi 0],(.t [KJ x.1 x.2,vi 0]:V)=.t [KJ x.1 x.2,vi 0],(.t [gJ,vi 0]:V)=.t [gJ,vi 0],(.t [mx x.1 x.2,vi 0]:V)=.t [mx x.1 x.2,vi 0],vb ag=vb ag,(.t [vi x.2,vb ae]:V)=.t [vi x.2,vb ae]):=by kernel_rfl
def GG:List (Nat × Nat):=([1,2,3,4,5,6,10,12,15,20,30,60]:List Nat).flatMap λd=>[(d,1),(d,2),(d,3),(d,4),(d,5),(d,6)]
theorem pL:([RK 151 [gJ] (vb ae),RK 232 [gJ,vi 0] (.t [vi 0,vb ag]),RK 147 [Cs] (vi 0),RK 228 [.c (.f .aK)] gJ,RK 227 [gJ,eS] (.t [eS,vi 0]),RK 227 [eS,gJ] (.t [eS,vi 0]),RK 227 [gJ,gJ] (.t [gJ,vi 0]),RK 150 [eS,gJ] (.t [eS,vi 0]),RK 299 [eS,vi 0] (.t [eS,vi 0]),RK 300 [KJ 1 0] eS,RK 241 [eS,eS] (.t [eS,vi 0])],
  (List.range 60).map (λk=>(RK 225 [Qb,vi (20*k:Nat)] (.t [.c (.f (.fs [fi 0,.aK,fi 0,fi 1,.fs [fi 0] 1] 1)),vi 0]),RK 224 [vi (20*k:Nat)] (vi 0),RK 162 [vi (20*k:Nat),vi 1440] (vi (20*k:Nat)))),GG.map λx=>RK 161 [vi (7*x.1:Nat),vi (x.2:Nat)] (vi (Nat.gcd (7*x.1) x.2:Nat))) =
 ([vb ae=vb ae,(.t [vi 0,vb ag]:V)=.t [vi 0,vb ag],vi 0=vi 0,gJ=gJ,(.t [eS,vi 0]:V)=.t [eS,vi 0],(.t [eS,vi 0]:V)=.t [eS,vi 0],(.t [gJ,vi 0]:V)=.t [gJ,vi 0],(.t [eS,vi 0]:V)=.t [eS,vi 0],(.t [eS,vi 0]:V)=.t [eS,vi 0],eS=eS,(.t [eS,vi 0]:V)=.t [eS,vi 0]],
  (List.range 60).map (λk=>((.t [.c (.f (.fs [fi 0,.aK,fi 0,fi 1,.fs [fi 0] 1] 1)),vi 0]:V)=.t [.c (.f (.fs [fi 0,.aK,fi 0,fi 1,.fs [fi 0] 1] 1)),vi 0],vi 0=vi 0,vi (20*k:Nat)=vi (20*k:Nat))),GG.map λx=>(vi (Nat.gcd (7*x.1) x.2:Nat)=vi (Nat.gcd (7*x.1) x.2:Nat))):=by kernel_rfl
end
def X8:List (Nat × Nat):=(List.range 6).flatMap λp=>(List.range 6).map λq=>(p,q)
theorem CQ:(Eo.map λx=>RK 297 [KJ x.1 x.2] (vb ae),X8.map λx=>RK 377 [.c (.f (.fs [fi (x.1:Nat)] 1)),vi (x.2:Nat)] (vb (decide (x.1=x.2)))) =
  (Eo.map λ_=>(vb ae=vb ae),X8.map λx=>(vb (decide (x.1=x.2))=vb (decide (x.1=x.2)))):=by kernel_rfl
section
set_option maxHeartbeats 100000000
theorem Fo:Jc.map (λz=>RK 240 [mx z.1.1 z.1.2,mx z.2.1 z.2.2,vi 0] (.t [vi (iQ z.1 z.2),vb (pV z.1 z.2)]))=Jc.map λz=>((.t [vi (iQ z.1 z.2),vb (pV z.1 z.2)]:V)=.t [vi (iQ z.1 z.2),vb (pV z.1 z.2)]):=by kernel_rfl
theorem O0:inc.map (λz=>RK 241 [mx z.1.1 z.1.2,mx z.2.1 z.2.2] (.t [gJ,vi 0]))=inc.map λ_=>((.t [gJ,vi 0]:V)=.t [gJ,vi 0]):=by kernel_rfl
end
theorem lU(n lo hi:Int):aX tab VE [vi n,vi lo,vi hi]=Eq (vb (bj n lo hi)):=Kf.eq (by
 refine cr rfl rfl λH Q b=>?_;apply ai;simp;apply ai;by_cases h:lo<=n
 .simp[h];refine az (b _ _ ?_);simp[bj,h]
 .simp[h];refine az (b _ _ ?_);simp[bj,h])
theorem Re(x:aE):aX tab VD [.a (x.row.map .f)]=Eq (vb (mn x)):=Kf.eq (by
 refine cr rfl rfl λH Q g=>?_;apply ai;simp[aE.row];apply ai;cases b:bj x.day 0 1099511627776
 .simp[lU,b];refine az (g _ _ ?_);simp[mn,b]
 cases d:bj x.fr (-2251799813685248) 1583296743997439
 .simp[lU,b,d];refine az (g _ _ ?_);simp[mn,b,d]
 have j:=pS d;simp[lU,b,d,bg (n:=x.fr+1),bg (n:=x.fr+10080)];refine az (g _ _ ?_);simp[mn,b,d])
def qf(x y:aE):Bool:=if x.fr=y.fr then(if x.day=y.day then decide (x.to<y.to)else decide (x.day<y.day))else decide (x.fr<y.fr)
theorem pK(x y:aE):aX tab zU [.a (x.row.map .f),.a (y.row.map .f)]=Eq (vb (qf x y)):=by
 refine Kf.eq (cr rfl rfl λH Q g=>?_);apply ai;simp[aE.row];apply ak;apply ai;simp;by_cases b:x.fr=y.fr
 .refine bc (by simp[b]) ?_;apply ak;apply ai;simp;by_cases d:x.day=y.day
  .refine bc (by simp[d]) ?_;apply ai;simp;refine az (g _ _ ?_);simp[qf,b,d]
  .refine al (by simp[d]) ?_;apply ai;simp;refine az (g _ _ ?_);simp[qf,b,d]
 .refine al (by simp[b]) ?_;apply ai;simp;refine az (g _ _ ?_);simp[qf,b]
theorem na(x y:aE):qf x y=ae↔x.lt y:=by
 unfold qf aE.lt;by_cases b:x.fr=y.fr
 .by_cases d:x.day=y.day
  .simp[b,d]
  .simp[b,d]
 .simp[b]
theorem GZ(g:Tg)(l:List aE)(x:aE)(hl:l.length<=28)(hs:l.Pairwise aE.lt):∃g' J,J.length<=l.length+1/\(J.Pairwise aE.lt/\∀y,y∈J↔y=x\/y∈l)/\aX tab zT [.c (.f (sl g (aC l))),.a (x.row.map .f)]=Eq (.c (.f (sl g' (aC J)))):=by
 obtain⟨r,⟨g',J,c_,hS,rfl⟩,h⟩:∃r,(∃g' J,J.length<=l.length+1/\(J.Pairwise aE.lt/\∀y,y∈J↔y=x\/y∈l)/\r=.c (.f (sl g' (aC J))))/\aX tab zT [.c (.f (sl g (aC l))),.a (x.row.map .f)] r:=by
  refine cN rfl rfl λQ hQ=>?_;apply ai;simp[aE.row];apply ai;simp;apply ai;simp;apply ak;apply ai;simp;have W:∀(H:aj) (v:V) (o:List aE) (y:aE),o.length<=30->LB ae H 3 v .es (aC o)->∃v' H',cw (H++[.box [.f (fi y.day),.f (fi y.fr),.f (fi y.to)] 0]) 3 24 v (.c (.sl H.length 0 1 1 0 3))=aa (v',H')/\LB ae H' 3 v' .es (aC (o++[y]))/\(∀(b:Nat) cs fl,H[b]?=aa (.box cs fl)->H'[b]?=aa (.box cs fl)):=by
   intro H v o y Y u;obtain⟨v',H',X,S,-,e4⟩:=LB.app (H:=H++[.box [.f (fi y.day),.f (fi y.fr),.f (fi y.to)] 0]) (row:=y.row) (bytes:=24) (y:=.c (.sl H.length 0 1 1 0 3)) (u.push _) (bh _) rfl (by decide)
    (pz (fl:=0) (cs:=y.row.map .f) (by simp[aE.row]) rfl) (Cl _) (by simp[bU];omega)
   refine⟨v',H',X,by simpa[aC]using S,λb cs fl hb=>e4 _ _ _ ?_⟩;rw[afy (au hb)];exact hb
  refine bA l.length (λj t H=>t.g 0=.c (.f (sl g (aC l)))/\t.g 3=.c (.ptr 0 0 0)/\H[0]?=aa (.box [.f (fi x.day),.f (fi x.fr),.f (fi x.to)] 0)/\∃d o,t.g 6=vb d/\LB ae H 3 (t.g 5) .es (aC o)/\o.length<=j+1/\(d=ag->o=l.take j/\∀y∈o,y.lt x)/\(d=ae->(o++l.drop j).Pairwise aE.lt/\∀y,y∈o↔y=x\/y∈l.take j)) (by omega) rfl (by simp)
   ⟨by simp,by simp,by simp,ag,[],by simp,by simpa[aC]using LB.es0,by simp,by simp,by simp⟩ ?_ ?_ ?_
  .rintro j t H L O ⟨g0,B,E,d,o,M,u,Y,U,q⟩ N hL;simp[N,g0];exact hL _ ⟨by simp[g0],by simp[B],E,d,o,by simp[M],by simpa using u,Y,U,q⟩ (by simp[N]) (by simp)
  .rintro j t H O ⟨g0,B,E,d,o,M,u,Y,U,q⟩ N next
   have s:=λH:aj=>bE (H:=H) (bh l) (cW O);have I:=pK x l[j];simp[aE.row]at s I;refine aI ?_;apply ak;apply ai;simp[g0,B,N,a7,O,s,E];have K:∀(t:T) (H:aj) (o:List aE) (d:Bool),t.g 0=.c (.f (sl g (aC l)))->t.g 3=.c (.ptr 0 0 0)->t.g 7=vi j->t.g 6=vb d->H[0]?=aa (.box [.f (fi x.day),.f (fi x.fr),.f (fi x.to)] 0)->LB ae H 3 (t.g 5) .es (aC o)->
     o.length<=j+1->(d=ag->o=l.take j/\(∀y∈o,y.lt x)/\l[j].lt x)->(d=ae->(o++l.drop j).Pairwise aE.lt/\∀y,y∈o↔y=x\/y∈l.take j)->
     WP tab zT ab [.code xU,.inBlock 1,.code (mo 7 13 14),.inLoop (gU 0 7 12 13 14 [⟨D 9,.dr (R 7),ab⟩,⟨D 10,.dr (R 0),ab⟩,⟨D 11,.len (R 10),ab⟩,⟨D 12,.bin .lss (R 9) (R 11),ab⟩] xT),.inBlock 0,.code xV] ⟨t,[],H⟩ Q:=by
    intro t H o d g0 B g7 M E u Y U q;have b9:l.take (j+1)=l.take j++[l[j]]:=by rw[agC,afB O];rfl
    have b_:l.drop j=l[j]::l.drop (j+1):=afL O;have e9:(l.take j).length=j:=by simp;omega
    have d_:(o++[l[j]]).length<=j+1+1:=by simp;omega
    obtain⟨v',H',X,S,e4⟩:=W H (t.g 5) o l[j] (by omega) u;refine av (.inl rfl) ?_;simp[g0,g7,a7,O,s,X];refine aA (next _ _ ?_ (by simp[g7]));exact⟨by simp[g0],by simp[B],e4 _ _ _ E,d,o++[l[j]],by simp[M],by simpa using S,d_,λh=>by
     obtain⟨a1,A,a3⟩:=U h;subst a1;refine⟨b9.symm,λy m=>?_⟩;rcases afY.1 m with m|m
     .exact A y m
     .obtain rfl:=afO.1 m;exact a3,λh=>by
     obtain⟨a1,A⟩:=q h;rw[b_]at a1;refine⟨by simpa using a1,λy=>?_⟩;rw[b9,afY,afY,A,or_assoc]⟩
   cases hc:(l[j].day == x.day&&(l[j].fr == x.fr&&l[j].to == x.to))
   .refine bc (by simp) ?_;apply ak;apply ai;simp[M];cases d
    .simp[B,E,g0,N,a7,O,s,I];cases a9:qf x l[j]
     .refine bc (by simp) ?_;exact K _ _ o ag (by simp[g0]) (by simp[B]) (by simp[N]) (by simp[M]) E (by simpa using u) (by omega) (λ_=>by
       obtain⟨a1,A⟩:=U rfl;refine⟨a1,A,aE.Om (x:=x) ?_ ?_⟩
       .rw[<-na,a9];simp
       .rintro rfl;simp at hc) (by simp)
     .refine al (by simp) ?_;obtain⟨v',H',X,S,e4⟩:=W H (t.g 5) o x (by omega) u;obtain⟨a1,A⟩:=U rfl;have a8:=(na _ _).1 a9;have e_:o.length<=j:=by rw[a1];simp;omega
      apply ai;simp[B,E,X];refine av (.inl rfl) ?_;simp;refine K _ _ (o++[x]) ae (by simp[g0]) (by simp[B]) (by simp[N]) (by simp) (e4 _ _ _ E) (by simpa using S) (by simp;omega) (by simp) λ_=>⟨?_,λy=>?_⟩
      .have a_:(l.take j++l.drop j).Pairwise aE.lt:=by rw[List.take_append_drop];exact hs
       rw[agy]at a_;obtain⟨b1,b2,b3⟩:=a_;rw[agk,agy,a1];refine⟨b1,?_,?_⟩
       .rw[List.singleton_append,agt];refine⟨λy m=>?_,b2⟩;rw[afL O]at m b2;rcases afZ.1 m with rfl|m
        .exact a8
        .exact aE.lt_trans a8 ((agt.1 b2).1 y m)
       .intro y m z Z;rcases afY.1 Z with Z|Z
        .obtain rfl:=afO.1 Z;exact A y (a1▸m)
        .exact b3 y m z Z
      .rw[afY,a1,afO,or_comm]
    .simp;refine bc (by simp) ?_;exact K _ _ o ae (by simp[g0]) (by simp[B]) (by simp[N]) (by simp[M]) E (by simpa using u) Y (by simp) λ_=>q rfl
   .refine al (by simp) ?_;apply ai;simp[g0];refine az (hQ _ _ _ ⟨g,l,by omega,⟨hs,λy=>⟨.inr,?_⟩⟩,rfl⟩ ?_)
    .rintro(rfl|m)
     .have:y=l[j]:=by
       obtain⟨a,b,c⟩:=y;simp only[afE,beq_iff_eq]at hc;cases d9:l[j]with
       |mk a' b' c'=>
        rw[d9]at hc;simp at hc;obtain⟨rfl,rfl,rfl⟩:=hc;rfl
      rw[this];exact afH O
     .exact m
    simp
  .rintro t H ⟨g0,B,E,d,o,M,u,Y,U,q⟩ N;apply ak;apply ai;simp[M];cases d
   .refine al (by simp) ?_;obtain⟨v',H',X,S,e4⟩:=W H (t.g 5) o x (by omega) u;refine av (.inl rfl) ?_;simp[B,E,X];apply ai;simp;obtain⟨cv,F,_⟩:=S.len;have:=S.fzV (bh _);obtain⟨a1,A⟩:=U rfl;rw[agc]at a1;subst a1;refine az (hQ _ _ _ ⟨.es,o++[x],by simp,⟨?_,λy=>by rw[afY,afO,or_comm]⟩,rfl⟩ ?_)
    .rw[agy];exact⟨hs,List.pairwise_singleton _ _,λy m z Z=>by obtain rfl:=afO.1 Z;exact A y m⟩
    rw[F]at this;simp[F];simpa using this
   .refine bc (by simp) ?_;apply ai;simp;obtain⟨cv,F,_⟩:=u.len;have:=u.fzV (bh _);obtain⟨a1,A⟩:=q rfl;rw[agc]at A;rw[agF,agp]at a1;refine az (hQ _ _ _ ⟨.es,o,Y,⟨a1,A⟩,rfl⟩ ?_);rw[F]at this;simp[F];simpa using this
 exact⟨g',J,c_,hS,aX.eq h⟩
theorem JA(x y:aE):qf x y=decide (eH x y<0):=by
 rw[agH,na,decide_eq_true_eq,oV]
theorem wP(s:aN)(h:s.Sm)(X:∀c∈s.cs,aX tab Mo [.a [.f (sl c.mg (aT c.ts))]]=Eq (vb (oh c.ts))):aX tab ns [.a (s.row.map .f)]=Eq (vb (da s)):=Kf.eq (by
 obtain⟨hc,hx,a8⟩:=h;refine cr rfl rfl λH Q Z=>?_;have bad:da s=ag->∀(t:T) (J:aj) k,WP tab ns ab (.code (.seq (.region [⟨D 2,.dr (.k (.c (.f (.bool ag)))),ab⟩] []) .ret)::k) ⟨t,[],H++J⟩ Q:=by
  intro hf t J k;apply ai;simp;refine az (Z _ _ ?_);simp[hf]
 apply ai;simp[aN.row];apply ak;apply ai;simp;by_cases k1:(64:Int)<s.cs.length
 .simp[k1];exact al (by simp) (bad (by simp[da,show¬ (s.cs.length:Int)<=64 by omega]) _ _ _)
 simp[k1];cases O:bj s.len 1 10080
 .simp[lU,O];exact al (by simp) (bad (by simp[da,O]) _ _ _)
 simp[lU,O];by_cases k3:(4096:Int)<s.xs.length
 .simp[k3];exact al (by simp) (bad (by simp[da,show¬ (s.xs.length:Int)<=4096 by omega]) _ _ _)
 simp[k3];have W:da s=(dj ab s.cs&&fj ab s.xs):=by simp[da,O,show(s.cs.length:Int)<=64 by omega,show(s.xs.length:Int)<=4096 by omega]
 rw[W]at bad;refine bc (by simp) ?_;apply ak;apply ai;simp;refine bA s.cs.length (λj t H'=>t.g 1=.c (.ptr H.length 0 0)/\(∃J,H'=H++(.box [C.f (sl s.cg (aP s.cs)),C.f (fi s.len),C.f (sl s.xg (aC s.xs))] 0::J))/\
  ∃b,(∀m,j=m+1->∀h:m<s.cs.length,b=aa (s.cs[m]'h).min)/\(j=0->b=ab)/\dj ab s.cs=dj b (s.cs.drop j)) (by omega) rfl (by simp)
   ⟨by simp,⟨[],by simp⟩,ab,by omega,by simp,by simp⟩ ?_ ?_ ?_
 .rintro j t _ L B ⟨u,⟨J,rfl⟩,b,E,F,q⟩ l U;simp[l,u];exact U _ ⟨by simp[u],⟨J,rfl⟩,b,E,F,q⟩ (by simp[l]) (by simp)
 .rintro j t _ B ⟨u,⟨J,rfl⟩,b,E,F,q⟩ l next
  rw[qd B]at q;have x:=λH:aj=>bE (H:=H) (cE s.cs) (dA B);have A:=X _ (afH B);refine aI ?_;apply ai;simp[bK.row]at x;simp[l,u,a7,B,x];apply ai;simp[A];cases N:oh s.cs[j].ts
  .simp;exact al (by simp) (bad (by simp[q,N]) _ _ _)
  simp;cases S:bj s.cs[j].min (-4320) 4320
  .simp[lU,S];exact al (by simp) (bad (by simp[q,S]) _ _ _)
  simp[lU,S];have go:(b.all λm=>decide (m<s.cs[j].min))=ae->∃d,(∀m,j+1=m+1->∀h:m<s.cs.length,d=aa (s.cs[m]'h).min)/\(j+1=0->d=ab)/\dj ab s.cs=dj d (s.cs.drop (j+1)):=by
   intro Y;rw[N,S,Y,agi,agi,agi]at q;refine⟨aa s.cs[j].min,λm A h=>?_,by omega,q⟩;have:m=j:=by omega
   subst this;rfl
  cases j with
  |zero=>
   simp at l;simp[l];refine aG (by simp) (aS (aA (next _ _ ?_ (by simp[l]))));exact⟨by simp[u],⟨_,rfl⟩,go (by rw[F rfl];rfl)⟩
  |succ m=>
   have A:m<s.cs.length:=by omega
   have z:=E m rfl A;have I:=λH:aj=>dw (H:=H) (k:=1) (cE s.cs) (dA A) rfl
   try simp[bK.row]at I
   simp[l,show(0:Int)<(m:Int)+1 by omega,u,bg (n:=(m:Int)),a7,A,I];by_cases k6:s.cs[m+1].min<=s.cs[m].min
   .simp[k6];exact al (by simp) (bad (by simp[q,z,show¬ s.cs[m].min<s.cs[m+1].min by omega]) _ _ _)
   .simp[k6];refine aG (by simp) (aS (aA (next _ _ ?_ (by simp[l]))));exact⟨by simp[u],⟨_,rfl⟩,go (by rw[z];simp;omega)⟩
 .rintro t _ ⟨u,⟨J,rfl⟩,b,E,F,q⟩ l;have hC:dj ab s.cs=ae:=by rw[q];simp[dj]
  rw[hC,agi]at bad W;apply ak;apply ai;simp;refine bA s.xs.length (λj t H'=>t.g 1=.c (.ptr H.length 0 0)/\(∃J,H'=H++(.box [C.f (sl s.cg (aP s.cs)),C.f (fi s.len),C.f (sl s.xg (aC s.xs))] 0::J))/\
   ∃b,(∀m,j=m+1->∀h:m<s.xs.length,b=aa (s.xs[m]'h))/\(j=0->b=ab)/\fj ab s.xs=fj b (s.xs.drop j)) (by omega) rfl (by simp)
    ⟨by simp[u],⟨J,by simp⟩,ab,by omega,by simp,by simp⟩ ?_ ?_ ?_
  .rintro j t _ L B ⟨u,⟨J,rfl⟩,b,E,F,q⟩ l U;simp[l,u];exact U _ ⟨by simp[u],⟨J,rfl⟩,b,E,F,q⟩ (by simp[l]) (by simp)
  .rintro j t _ B ⟨u,⟨J,rfl⟩,b,E,F,q⟩ l next
   rw[tO B]at q;have x:=λH:aj=>bE (H:=H) (bh s.xs) (cW B);have y:=Re s.xs[j];simp[aE.row]at x y;refine aI ?_;apply ai;simp[l,u,a7,B,x,y];cases N:mn s.xs[j]
   .simp;exact al (by simp) (bad (by simp[q,N]) _ _ _)
   simp;have go:(b.all λm=>decide (eH m s.xs[j]<0))=ae->∃d,(∀m,j+1=m+1->∀h:m<s.xs.length,d=aa (s.xs[m]'h))/\(j+1=0->d=ab)/\fj ab s.xs=fj d (s.xs.drop (j+1)):=by
    intro Y;rw[N,Y,agi,agi]at q;refine⟨aa s.xs[j],λm A h=>?_,by omega,q⟩;have:m=j:=by omega
    subst this;rfl
   cases j with
   |zero=>
    simp at l;simp[l];refine aG (by simp) (aS (aA (next _ _ ?_ (by simp[l]))));exact⟨by simp[u],⟨_,rfl⟩,go (by rw[F rfl];rfl)⟩
   |succ m=>
    have A:m<s.xs.length:=by omega
    have z:=E m rfl A;have K:=λH:aj=>bE (H:=H) (bh s.xs) (cW A);have v:=pK s.xs[m] s.xs[m+1];rw[JA]at v;simp[aE.row]at K v;have c1:((m+1:Nat):Int)=(m:Int)+1:=by omega
    have M:=λH:aj=>a7 (H:=H) (g:=s.xg) (rows:=aC s.xs) (sz:=3) (k:=.i64) (i:=(m:Int)+1) (by omega) (by simp;omega);have t1:((m:Int)+1).toNat=m+1:=by omega
    rw[t1]at M;simp[l,show(0:Int)<(m:Int)+1 by omega,u,bg (n:=(m:Int)),a7,A,K,M,x,v];by_cases k7:eH s.xs[m] s.xs[m+1]<0
    .simp[show¬ 0<=eH s.xs[m] s.xs[m+1] by omega,k7];refine aG (by simp) (aS (aA (next _ _ ?_ (by simp[l]))));exact⟨by simp[u],⟨_,rfl⟩,go (by rw[z];simp;omega)⟩
    .simp[show 0<=eH s.xs[m] s.xs[m+1] by omega,k7];exact al (by simp) (bad (by simp[q,z];omega) _ _ _)
  .rintro t _ ⟨u,⟨J,rfl⟩,b,E,F,q⟩ l;have hX:fj ab s.xs=ae:=by rw[q];simp[fj]
   apply ai;simp;refine az (Z _ _ ?_);simp[W,hX])
end Go.Proofs.YtnaofdffomdmhaaGreat
