/-
  LK the kB jt and the jv answer, for all arguments of their kind, in the small machine: part 7.
-/
import Derived.Test.YtelifakcllijpaaGreatS6
import Derived.Test.YtelifakcllijpaaGreatS4
import Derived.Test.YtelifakcllijpaaGreatK2
import Derived.Test.YtelifakcllijpaaGreatS2
import Derived.Test.YtelifakcllijpaaGreatS3
import Derived.Test.YtelifakcllijpaaGreatS5
import Derived.Test.YtelifakcllijpaaGreatProg
open Option renaming some->aa,none->ab
open Bool renaming true->ae,false->ag
open List renaming getElem_mem->IN, take_add_one->agV, getElem?_eq_getElem->BY, take_length->agW, getElem?_append_left->AI, mem_append->agP, mem_singleton->If, map_cons->IT, map_nil->agN, mem_cons_self->agR, pairwise_cons->ahH, mem_cons->ag8, mem_cons_of_mem->agU, mem_map->agX, mem_filter->ahB, mem_range->ai0, length_cons->ahk, length_append->agM, length_filter_le->ahV, cons_append->ahO, not_mem_nil->aid, mem_of_mem_take->ah1, length_take->ahl, nil_append->ahL, any_eq_true->aie, getElem?_set_self->By, getElem?_map->ahF, getElem?_append_right->agL, getElem?_set_ne->sh, getElem_of_mem->ag1, take_of_length_le->agY
open Int renaming dvd_refl->ah3, toNat_natCast->ag7, le_of_dvd->ahq, dvd_trans->ahr
open Bool renaming and_eq_true->IS
open Nat renaming le_trans->ahd
open List.Pairwise renaming imp->aiZ
set_option linter.all false
set_option maxRecDepth 100000
set_option maxHeartbeats 2000000
namespace Go.Proofs.YtelifakcllijpaaGreat
open Go Km
variable{a b:aG}{q F p k:Int}{z:aA}{l:List bw}{J:Bool}{d:bw}{L:aJ}{r:List Int}{o:jD}{c:List aG}{e:List aJ}{f:List FC}{h:List (List FC)}
def FG(g j l:FC)(len b d:Int)(q:jS len)(s:jS b)(u:jS d) :
  bf tab XP [.a [.f g,Z len,.f j],.a [.f l,Z b],vi d]=Eq (.a ((bU len b d).row.map .f)):=bf.eq (Kf.Sg (by
 unfold jS at *;refine dd rfl rfl λH Q m=>?_;apply ai;simp;apply ai;simp[a8 (n:=d*1440),a8 (n:=d*1440+b)];apply ai;simp[a8 (n:=d*1440+b+len)];refine av (m _ _ ?_);simp[bU,aA.row]))
def Ny(x y:aA):Kf tab Gz [.a (x.row.map .f),.a (y.row.map .f)] (vi (fV x y)):=by
 refine dd rfl rfl λH Q d=>?_;have b:=Fa .fs [eG x.fr y.fr,eG x.day y.day,eG x.to y.to] bv;simp[ints,sl,Tg.fc]at b;apply ai;simp[aA.row];apply ai;simp[mI,deep,gR,jY,b];refine av (d _ _ ?_);simp[fV]
def Kn(a:Int)(g:-4611686018427387904<=a)(b:a<=4611686018427387904):bf tab XT [vi a]=Eq (vi (a / 10080)):=Kf.eq (by
 refine dd rfl rfl λH Q d=>?_;apply ai;simp;apply ai;simp[fL a 10080 ap g b];apply ai;simp;refine av (d _ _ ?_);simp)
def MS(q b:Int):Int:=(q*10080-b+1440-1) / 1440
def Ku(s:aG)(q:Int)(x:aA):Prop:=∃f p l b d,s.cs=[⟨.fs,[⟨.fs,[cu f p l]⟩],b⟩]/\x=bU s.len b d/\max (MS q b) 0<=d/\d<MS q b+7/\bE (cu f p l) d=ae
def OB(s:aG)(q:Int)(x:aA):Prop:=Ku s q x\/(x∈s.xs/\x.fr / 10080=q)
theorem LY(s:aG)(hs:cL s)(q:Int)(m_:-1<=q)(n8:q<=5000) :
  ∃g L,(L.Pairwise aA.lt/\∀x,x∈L↔OB s q x)/\L.length<=10/\bf tab nD [.a (s.row.map .f),vi q]=Eq (G (sl g (ay L))):=by
 have key:∃r,(∃g L,(L.Pairwise aA.lt/\∀x,x∈L↔OB s q x)/\L.length<=10/\r=G (sl g (ay L)))/\bf tab nD [.a (s.row.map .f),vi q] r:=by
  refine dE rfl rfl λQ hQ=>?_;have hF:∀x y:aA,Kf tab Gz [.a (x.row.map .f),.a (y.row.map .f)] (vi (fV x y)):=Ny;obtain⟨b_,j5,j6,n_,o_,j9⟩:=hs;have h_:∀(t:T) (H:an) (c:C) (o:List aA),t.g 5=.c c->LI H c o->o.length<=10->(∀x,x∈o↔OB s q x)->WP tab nD ab [.code Lg] ⟨t,[],H⟩ Q:=by
   intro t H c o B z M v;rcases z with⟨rfl,rfl⟩|⟨m9,b,ep,rfl,i6⟩
   .obtain⟨r1,H1,w,rfl,rfl⟩:=FY (H:=H) (F:=Gz);obtain⟨r2,H2,e2,rfl,rfl⟩:=Er (H:=H1);apply ai;simp[B,w.eq];apply ai;simp[B,e2.eq];refine av (hQ _ _ _ ⟨.nil,[],⟨bv,v⟩,bv,rfl⟩ ?_);simp[sl,ay,Tg.fc]
   .obtain⟨r1,H1,w,rfl,f1,l1,q1,q2,q3⟩:=Kd hF ap i6;have ll:=q2.length_eq;rw[<-ll]at w B;obtain⟨r2,H2,e2,l2,R2,rfl,f2,w1,w2,w3,w4⟩:=yG ap q3 q1;apply ai;simp[B,w.eq];apply ai;simp[B,e2.eq];refine av (hQ _ _ _ ⟨.fs,l2,⟨w3,λx=>by rw[w4,q2.mem_iff,v]⟩,ap,rfl⟩ ?_);have:=acs (n:=63) w1;simp[deep,this]
  have Y:∀(t:T) (H:an) (c:C) (o:List aA),t.g 1=vi q->t.g 2=.c (.ptr 0 0 0)->t.g 5=.c c->H[0]?=E [C.f (sl s.cg (aK s.cs)),C.f (fi s.len),C.f (sl s.xg (ay s.xs))]->LI H c o->o.length<=7->(∀x,x∈o↔Ku s q x)->
    WP tab nD ab [.code vE] ⟨t,[],H⟩ Q:=by
   intro t H c o K S B N z M v;apply aU;simp[S,N];refine bW s.xs.length (λj t H'=>t.g 1=vi q/\t.g 52=G (sl s.xg (ay s.xs))/\∃c o',t.g 5=.c c/\LI H' c o'/\o'.length<=7+j/\∀x,x∈o'↔Ku s q x\/(x∈s.xs.take j/\x.fr / 10080=q)) ap ce ce bv bv
    ⟨by simp[K],bv,c,o,by simp[B],z,ap,by simpa using v⟩ ?_ ?_
   .rintro j t H' hj ⟨K,a,c,o',B,z,M,v⟩ ha hb next
    have I:=λH:an=>cf (H:=H) (bI s.xs) (dn hj);obtain⟨i1,i2,i3,i4,i5⟩:=j9 s.xs[j] (IN hj);have j8:=Kn s.xs[j].fr ap ap;have n9:s.xs.take (j+1)=s.xs.take j++[s.xs[j]]:=by rw[agV,BY hj];rfl
    simp[aA.row]at I;apply ax;apply ai;simp[a,ha,bu,hj,I];have kN:(H'++[bV.box [Z s.xs[j].day,Z s.xs[j].fr,Z s.xs[j].to] 0])[H'.length]?=E [Z s.xs[j].day,Z s.xs[j].fr,Z s.xs[j].to]:=lw
    have kL:=z.push [bV.box [Z s.xs[j].day,Z s.xs[j].fr,Z s.xs[j].to] 0];generalize j_:H'++[bV.box [Z s.xs[j].day,Z s.xs[j].fr,Z s.xs[j].to] 0]=HA at kN kL ⊢;apply ai;simp[K,kN,j8];by_cases hc:s.xs[j].fr / 10080=q
    .obtain⟨c',H2,w,e2,e3,e4⟩:=(kL.push [.box [Z s.xs[j].day,Z s.xs[j].fr,Z s.xs[j].to] 0]).app ap (b1:=HA.length) (fl:=0) (x:=s.xs[j]) (by simp[aA.row]);refine aq (by simp[hc]) ?_;apply ba;simp[B,kN,w];refine au (next _ _ ?_ (by simp[ha]) (by simp[hb]));refine⟨by simp[K],by simp[a],c',o'++[s.xs[j]],bv,e2,ge,λx=>?_⟩
     grind
    .refine aC (by simp[hc]) (aQ (au (next _ _ ?_ (by simp[ha]) (by simp[hb]))));refine⟨by simp[K],by simp[a],c,o',by simp[B],kL,ap,λx=>?_⟩
     grind
   .rintro t H' ⟨K,a,c,o',B,z,M,v⟩ - -;rw[agW]at v;exact h_ _ H' c o' (by simp[B]) z ap λx=>v x
  apply ai;simp[aG.row];apply ai;simp;apply aU;simp;have k_:s.cs.length<=1:=by rcases b_ with e|⟨f,p,l,A,e,_⟩<;>rw[e]<;>simp
  refine bW s.cs.length (λj t H'=>t.g 1=vi q/\t.g 2=.c (.ptr 0 0 0)/\t.g 14=G (sl s.cg (aK s.cs))/\H'[0]?=E [C.f (sl s.cg (aK s.cs)),C.f (fi s.len),C.f (sl s.xg (ay s.xs))]/\∃c o,t.g 5=.c c/\LI H' c o/\o.length<=7/\(j=0->o=[]/\c=.f .aN)/\(j=1->∀x,x∈o↔Ku s q x)) ap ce ce bv bv
   ⟨bv,bv,bv,bv,.f .aN,[],bv,.inl ⟨rfl,rfl⟩,bv,bv,ap⟩ ?_ ?_
  .rintro j t H' hj ⟨K,S,J,N,c,o,B,z,M,d9,-⟩ ha hb next
   have i_:j=0:=ii
   subst i_;obtain⟨rfl,rfl⟩:=d9 rfl;simp at ha;rcases b_ with e|⟨f,p,l,A,e,f0,f1,p0,p1,ln,lo,m0,m1⟩
   .grind
   have d_:=yO f0 f1 p0 p1 ln lo;have I:=λH:an=>cf (H:=H) (dN s.cs) (fJ (l:=s.cs) (j:=0) (by rw[e];simp));have a_:=λH:an=>bu (H:=H) (g:=s.cg) (rows:=aK s.cs) (sz:=2) (k:=.i64) (i:=0) ap (by rw[e];simp);have i8:s.cs[0]'(by rw[e];simp)=⟨.fs,[⟨.fs,[cu f p l]⟩],A⟩:=by simp[e]
   rw[i8]at I;simp[cM.row]at I a_;have i9:=fL (q*10080-A+1440-1) 1440 ap ap ap;obtain⟨fst,X⟩:=aH (MS q A);have c9:(q*10080-A+1440-1) / 1440=fst:=by rw[X];rfl
   have g_:iH [⟨.fs,[cu f p l]⟩]=ae:=by simp[iH,iZ,qt d_]
   have e_:∀d,0<=d->d<=100000->bf tab PS [.a [.f (sl .fs (aI [⟨.fs,[cu f p l]⟩]))],vi d]=Eq (vb (bE (cu f p l) d)):=λd N h1=>by
    have:=xM .fs [⟨.fs,[cu f p l]⟩] g_ d nl;rw[this];simp[qG,g_,wS,hasB,N]
   have c_:=λd (h:jS d)=>FG (sl s.cg (aK s.cs)) (sl s.xg (ay s.xs)) (sl .fs (aI [⟨.fs,[cu f p l]⟩])) s.len A d kw kw h;apply ax;apply ai;simp[J,ha,a_,I];have kN:(H'++[bV.box [.f (sl .fs (aI [⟨.fs,[cu f p l]⟩])),Z A] 0])[H'.length]?=E [.f (sl .fs (aI [⟨.fs,[cu f p l]⟩])),Z A]:=lw
   have k0:(H'++[bV.box [.f (sl .fs (aI [⟨.fs,[cu f p l]⟩])),Z A] 0])[0]?=E [C.f (sl s.cg (aK s.cs)),C.f (fi s.len),C.f (sl s.xg (ay s.xs))]:=by rw[AI (aj N)];exact N
   generalize H'++[bV.box [.f (sl .fs (aI [⟨.fs,[cu f p l]⟩])),Z A] 0]=HA at kN k0 ⊢;obtain⟨bN,i7⟩:=aH (H'.length);rw[<-i7]at kN ⊢;apply ai;simp[K,kN,a8 (n:=q*10080),a8 (n:=q*10080-A),a8 (n:=q*10080-A+1440),a8 (n:=q*10080-A+1440-1),i9,c9];apply ai;simp;have fb:-7<=fst/\fst<=40000:=ii
   apply ax;refine di (λm st=>∃(u:Int) (t:T) (H:an) (c:C) (o:List aA),st=⟨t,[],H⟩/\(m:Int)=fst+7-u/\max fst 0<=u/\u<=fst+7/\t.g 1=vi q/\t.g 2=.c (.ptr 0 0 0)/\t.g 7=.c (.ptr bN 0 0)/\t.g 8=vi fst/\t.g 10=vi u/\t.g 14=G (sl s.cg (aK s.cs))/\t.g 15=vi (s.cs.length:Nat)/\t.g 16=vi 0/\t.g 5=.c c/\
    H[0]?=E [C.f (sl s.cg (aK s.cs)),C.f (fi s.len),C.f (sl s.xg (ay s.xs))]/\H[bN]?=E [.f (sl .fs (aI [⟨.fs,[cu f p l]⟩])),Z A]/\LI H c o/\(o.length:Int)<=u-max fst 0/\∀x,x∈o↔∃d,x=bU s.len A d/\max fst 0<=d/\d<u/\bE (cu f p l) d=ae) (fst+7-max fst 0).toNat
    ⟨max fst 0,_,HA,.f .aN,[],rfl,ap,ap,ap,by simp[K],by simp[S],bv,bv,bv,by simp[J],by simpa using hb,by simp[ha],by simp[B],k0,kN,.inl ⟨rfl,rfl⟩,bv,λx=>by simp;intros;omega⟩ ?_
   rintro m st ⟨u,t,H,c,o,rfl,hm,c0,c1,K,S,g7,g8,O,J,U,W,B,N,hN,z,M,v⟩ ih;apply aU;simp[g8,O,a8 (n:=fst+7)];by_cases j7:u<fst+7
   .refine aq (by simp[j7]) (aQ ?_);apply aE;apply ax;have go:∀(t:T) (H:an) (c:C) (o:List aA),t.g 1=vi q->t.g 2=.c (.ptr 0 0 0)->t.g 7=.c (.ptr bN 0 0)->t.g 8=vi fst->t.g 10=vi u->t.g 14=G (sl s.cg (aK s.cs))->t.g 15=vi (s.cs.length:Nat)->t.g 16=vi 0->t.g 5=.c c->
      H[0]?=E [C.f (sl s.cg (aK s.cs)),C.f (fi s.len),C.f (sl s.xg (ay s.xs))]->H[bN]?=E [.f (sl .fs (aI [⟨.fs,[cu f p l]⟩])),Z A]->LI H c o->(o.length:Int)<=u+1-max fst 0->(∀x,x∈o↔∃d,x=bU s.len A d/\max fst 0<=d/\d<u+1/\bE (cu f p l) d=ae)->
      WP tab nD ab [.inBlock 3,.code Lf,.inLoop Lc,.inBlock 2,.inBlock 1,.code (oV 16 50),.inLoop (gQ 0 16 15 17 50 AH),.inBlock 0,.code vE] ⟨t,[],H⟩ Q:=by
     intro t H c o K S g7 g8 O J U W B N hN z M v;refine au (aF (.inl rfl) ?_);simp[O,a8 (n:=u+1)];exact ih (fst+7-(u+1)).toNat _ ap ⟨u+1,_,H,c,o,rfl,ap,ap,ap,by simp[K],by simp[S],by simp[g7],by simp[g8],bv,by simp[J],by simp[U],by simp[W],by simp[B],N,hN,z,ap,v⟩
    apply ai;simp[g7,O,hN,e_ u ap ap];cases hc:bE (cu f p l) u
    .refine bG bv ?_;refine go _ H c o (by simp[K]) (by simp[S]) (by simp[g7]) (by simp[g8]) (by simp[O]) (by simp[J]) (by simp[U]) (by simp[W]) (by simp[B]) N hN z ap λx=>?_
     grind
    .have f_:=c_ u kw;simp[bU,aA.row]at f_;obtain⟨c',H2,w,e2,e3,e4⟩:=(z.push [.box [Z u,Z (u*1440+A),Z (u*1440+A+s.len)] 0]).app ap (b1:=H.length) (fl:=0) (x:=bU s.len A u) (by simp[aA.row,bU]);have p0:=e4 _ _ (show(H++[bV.box [Z u,Z (u*1440+A),Z (u*1440+A+s.len)] 0])[0]?=_ by rw[AI (aj N)];exact N) rfl;have pN:=e4 _ _ (show(H++[bV.box [Z u,Z (u*1440+A),Z (u*1440+A+s.len)] 0])[bN]?=_ by rw[AI (aj hN)];exact hN) rfl;refine aq bv ?_;apply ba;simp[S,B,g7,O,N,hN,f_,w];refine go _ H2 c' (o++[bU s.len A u]) (by simp[K]) (by simp[S]) (by simp[g7]) (by simp[g8]) (by simp[O]) (by simp[J]) (by simp[U]) (by simp[W]) bv p0 pN e2 ge λx=>?_;rw[agP,If,v]
     grind
   .have:u=fst+7:=ii
    subst this;refine aC bv ?_;refine bQ (k':=[.inBlock 1,.code (oV 16 50),.inLoop (gQ 0 16 15 17 50 AH),.inBlock 0,.code vE]) rfl ?_;refine au (next _ _ ?_ (by simp[W]) (by simp[U]));refine⟨by simp[K],by simp[S],by simp[J],N,c,o,by simp[B],z,ap,ap,λ_ x=>?_⟩;rw[v];constructor
    .rintro⟨d,h1,h2,h3,h4⟩;exact⟨f,p,l,A,d,e,h1,by rw[<-X];omega,by rw[<-X];omega,h4⟩
    .rintro⟨f',p',l',p9,d,e',h1,h2,h3,h4⟩
     grind
  .rintro t H' ⟨K,S,J,N,c,o,B,z,M,d9,l_⟩ - -;refine Y _ H' c o (by simp[K]) (by simp[S]) (by simp[B]) N z M λx=>?_;rcases b_ with e|⟨f,p,l,A,e,_⟩
   .obtain⟨rfl,rfl⟩:=d9 (by rw[e];rfl);refine⟨λh=>by simp at h,λ⟨f,p,l,A,d,e',_⟩=>?_⟩
    grind
   .grind
 obtain⟨r,⟨g,L,h1,h2,rfl⟩,h⟩:=key;exact⟨g,L,h1,h2,bf.eq h⟩
def RZ:aR:=⟨.nil,[],0,1,.nil,[]⟩
def R3:jT 12 RZ:=⟨ce,ce,ce,ce⟩
def Us(g:Tg)(p:aR)(m:jT 12 p):∃q,cO q=ae/\q.fr<=max 0 p.fr/\q.aO ∣ p.aO/\(∀d,0<=d->bE q d=bE p d)/\bf tab ab7 [.a [.f (sl g (aY [[p]]))]]=Eq (.t [.a (q.row.map .f),vi 0]):=by
 have W:=(bM m.ok).2.2.1;obtain⟨q,A,B,F,I,s⟩:=Vy RZ p R3 m (R:=p.aO) ap m.aO (Int.one_dvd _) (ah3 _);refine⟨q,A,B,F,λd K=>?_,?_⟩
 .rw[I d K];have:bE RZ d=ag:=by simp[bE,RZ]
  simp[this]
 .have z:=mf (Nb:=12) g (us:=[[p]]) ⟨bv,λu y=>by
   simp only[If]at y;subst y;exact⟨bv,bv,λq v=>by simp only[If]at v;subst v;exact m⟩⟩
  obtain⟨a,b,c,e,x⟩:∃a b c e,p.row=[a,b,c,e]:=⟨_,_,_,_,rfl⟩
  obtain⟨a',O,S,U,l⟩:∃a b c e,q.row=[a,b,c,e]:=⟨_,_,_,_,rfl⟩
  have L:RZ.row=[.aN,fi 0,fi 1,.aN]:=rfl;have M:sl g (aY [[p]])=.fs [.fs [a,b,c,e] 1] 1:=by
   simp[sl,aY,aM,x]
  rw[M]at z ⊢;rw[x,l,L]at s;rw[l];simp only[IT,agN]at s ⊢;have N:IntKind.i64.wrap 1=1:=pi
  have j:∀H:an,cJ H 4 (G (.fs [a,b,c,e] 1)) (aa (vi 1)) ab ab=aa (G (.fs [] 0)):=λH=>rfl;refine bf.eq (bD rfl rfl λQ J=>?_)
  repeat' first
   |(refine av (J _ _ ?_))
   |(apply aE)
   |(apply ax)
   |(refine eL ?_)
   |(apply fe)
   |(apply au)
   |(apply aQ)
   |(refine bQ rfl ?_)
   |(refine aq ?_ ?_;focus (simp;done))
   |(refine aC ?_ ?_;focus (simp;done))
   |(apply ba;simp[j,z,s,bA,bO,fE,gm,qA,N])
  simp[Km.pY,Km.results,cB,bC,aX,deep,jd,dq]
structure pZ(F P:Int)(s:aG):Prop where
 cls:∀c∈s.cs,∀f p l,c.ts=[⟨.fs,[cu f p l]⟩]->∀d,F<=d->bE (cu f p l) (d+P)=bE (cu f p l) d
 ext:∀x∈s.xs,x.fr / 1440<=F
theorem JZ{g:Int->Bool}{F P:Int}(b:0<=P)(h:∀d,F<=d->g (d+P)=g d):∀(k:Nat) (d:Int),F<=d->g (d+P*k)=g d
 |0,d,_=>by simp
 |k+1,d,j=>by
  have:=Int.mul_nonneg b (Int.natCast_nonneg k);rw[Int.natCast_succ,Int.mul_add,Int.mul_one,<-Int.add_assoc,h _ ap,JZ b h k d j]
def pZ.mono(h:pZ F q a)(j:F<=p)(P:0<=q)(u:0<=k)(hd:q ∣ k):pZ p k a:=by
 refine⟨λc hc f g l e d v=>?_,λx z=>Int.le_trans (h.ext x z) j⟩;by_cases h0:q=0
 .subst h0;have:k=0:=Int.zero_dvd.1 hd;subst this;simp
 obtain⟨b,rfl⟩:=hd;have k0:0<=b:=by
  refine Int.not_lt.1 λy=>?_;have:=Int.mul_neg_of_pos_of_neg (show 0<q by omega) y;omega
 obtain⟨m,rfl⟩:=Int.eq_ofNat_of_zero_le k0;exact JZ P (λd hd=>h.cls c hc f g l e d hd) m d ap
def Hp(g:Tg)(L:List aG)(hl:L.length<=2000)(h:∀s∈L,dh s) :
  ∃F P:Int,0<=F/\F<=13/\7 ∣ P/\1<=P/\P<=420/\(∀s∈L,pZ F P s)/\bf tab Gw [G (sl g (cI L))]=Eq (.t [vi (F+15+P),vb ae]):=by
 obtain⟨r,⟨F,P,F0,F1,P7,P1,P2,hs,rfl⟩,hp⟩:∃r,(∃F P:Int,0<=F/\F<=13/\7 ∣ P/\1<=P/\P<=420/\(∀s∈L,pZ F P s)/\r=.t [vi (F+15+P),vb ae])/\bf tab Gw [G (sl g (cI L))] r:=by
  refine dE rfl rfl λQ hQ=>?_;apply ai;simp;apply ai;simp;apply aU;simp;refine bW L.length (λj t J=>t.g 16=G (sl g (cI L))/\∃F P:Int,0<=F/\F<=13/\7 ∣ P/\1<=P/\P ∣ 420/\(∀s∈L.take j,pZ F P s)/\t.g 4=vi F/\t.g 5=vi P) ap ce ce bv bv ⟨bv,0,7,ce,ce,ce,ce,ce,bv,bv,bv⟩ ?_ ?_
  .rintro j t J hj ⟨v,F,P,F0,F1,P7,P1,P2,m,X,Y⟩ ha hb next
   have hs:=h L[j] (IN hj);have q_:L.take (j+1)=L.take j++[L[j]]:=by rw[agV,BY hj];rfl
   have A:=λH:an=>bu (H:=H) (g:=g) (rows:=cI L) (sz:=3) (k:=.i64) (i:=(j:Int)) ap ge;have S:=λH:an=>cf (H:=H) (gU L) (Az hj);simp only[ag7]at A;generalize L[j]=s at *;have p_:s.row.length=3:=rfl;obtain⟨b,i_⟩:=aH (J.length);obtain⟨J1,i8⟩:=aH (J++[bV.box (s.row.map .f) 0]);have d1:J1[b]?=E (s.row.map .f):=by rw[i8,i_];simp
   have x0:∀K:an,K[b]?=J1[b]?->aV K ab (.c (.ptr b 0 0))=aa (G (sl s.cg (aK s.cs))):=λK hK=>by simp[aV,az,hK.trans d1,aG.row]
   have x2:∀K:an,K[b]?=J1[b]?->aV K ab (.c (.ptr b 2 0))=aa (G (sl s.xg (ay s.xs))):=λK hK=>by simp[aV,az,hK.trans d1,aG.row]
   obtain⟨j8,n9,n_,t_,u9,r7⟩:=hs;have s7:s.cs.length<=1:=by rcases j8 with e|⟨f,p,l,mi,e,-⟩<;>rw[e]<;>simp
   have j6:∀K:an,bA K (.f (sl s.cg (aK s.cs)))=aa s.cs.length:=λK=>by simp
   have k_:∀K:an,bA K (.f (sl s.xg (ay s.xs)))=aa s.xs.length:=λK=>by simp
   apply ax;apply ai;simp[v,ha,A,S,p_,-aw];rw[<-i8,<-i_];apply aU;simp[x0 J1 rfl,j6,-aw];refine bW s.cs.length (λi u K=>u.g 16=G (sl g (cI L))/\u.g 17=vi (L.length:Nat)/\u.g 18=vi j/\u.g 7=.c (.ptr b 0 0)/\u.g 23=G (sl s.cg (aK s.cs))/\K[b]?=J1[b]?/\∃F P:Int,0<=F/\F<=13/\7 ∣ P/\1<=P/\P ∣ 420/\(∀s∈L.take j,pZ F P s)/\(i=s.cs.length->pZ F P ⟨s.cg,s.cs,s.len,s.xg,[]⟩)/\u.g 4=vi F/\u.g 5=vi P) ap ce ce bv bv
    ⟨by simp[v],by simp[hb],by simp[ha],bv,bv,rfl,F,P,F0,F1,P7,P1,P2,m,λh0=>⟨λc hc=>by rw[List.length_eq_zero_iff.1 h0.symm]at hc;simp at hc,bv⟩,by simp[X],by simp[Y]⟩ ?_ ?_
   .rintro i u K hi ⟨v,B,I,g7,d9,hK,F,P,F0,F1,P7,P1,P2,m,-,X,Y⟩ U f_ N;have n8:i=0:=ii
    subst n8;rcases j8 with e|⟨f,p,l,mi,e,f0,f1,p0,p1,-,p9,-,-⟩
    .rw[e]at hi;simp at hi
    obtain⟨q,q1,q2,q3,q4,z⟩:=Us .fs (cu f p l) (Dl f0 f1 p0 p1 p9);have s_:q.fr<=max 0 f:=q2;have j_:q.aO ∣ p:=q3;obtain⟨w1,w2,w3,w4,-⟩:=bM q1;have t8:q.aO<=p:=ahq ap j_;have j7:∀K:an,bO K 2 ab (G (sl s.cg (aK s.cs))) (vi 0)=aa (G (.fp [sl .fs (aY [[cu f p l]]),fi mi] 0)):=λK=>by rw[e];rfl
    have j5:∀K:an,aV K (aa 2) (G (.fp [sl .fs (aY [[cu f p l]]),fi mi] 0))=aa (.a [.f (sl .fs (aY [[cu f p l]])),Z mi]):=λK=>rfl;obtain⟨mx,o_⟩:=aH (sl .fs (aY [[cu f p l]]));rw[<-o_]at j7 j5 z;have o:P<=420:=ahq ce P2;have W:=HT (a:=P) (b:=q.aO) P1 w3;have c_:=Dm (a:=P) (b:=q.aO) P1 ap w3 ap;obtain⟨P',l_⟩:=aH (P / (Int.gcd P q.aO:Int)*q.aO);rw[<-l_]at W c_;have g_:q.aO ∣ 420:=ahr j_ (by
     obtain rfl|rfl|rfl|rfl|rfl|rfl|rfl:p=1\/p=2\/p=3\/p=4\/p=5\/p=6\/p=7:=by omega
     all_goals decide)
    have O:P' ∣ 420:=W.dvd 420 P2 g_;have m9:P'<=420:=ahq ce O;have r_:=W.pos;obtain⟨j9,h_⟩:∃a c,q.row=[a,fi q.fr,fi q.aO,c]:=⟨_,_,rfl⟩
    obtain⟨i6,h_⟩:=h_;rw[h_]at z;simp only[IT,agN]at z;apply ax;apply ai;simp at U;simp[d9,U,j7,j5,-aw];obtain⟨K1,b_⟩:=aH (K++[bV.box [.f mx,Z mi] 0]);have m1:K1[K.length]?=E [.f mx,Z mi]:=by rw[b_];simp
    have l1:aV K1 (aa 1) (.c (.ptr K.length 0 0))=aa (.a [.f mx]):=by simp[aV,az,m1,aX]
    have lb:b<K.length:=by have:=aj (hK.trans d1);omega
    have n1:K1.length=K.length+1:=by rw[b_];simp
    rw[<-b_];apply ai;simp[l1,z,-aw];obtain⟨K2,e_⟩:=aH (K1++[bV.box [.f j9,Z q.fr,Z q.aO,.f i6] 0]);have m2:K2[K1.length]?=E [.f j9,Z q.fr,Z q.aO,.f i6]:=by rw[e_];simp
    have l2:aV K2 ab (.c (.ptr K1.length 2 0))=aa (vi q.aO):=by simp[aV,az,m2]
    have l3:aV K2 ab (.c (.ptr K1.length 1 0))=aa (vi q.fr):=by simp[aV,az,m2]
    rw[<-e_];apply aU;simp;refine bG bv ?_;apply aU;simp[Y,l2,c_,-aw];apply ai;simp;refine aC ge (aQ ?_);apply ba;simp[X,l3,-aw];refine au (N _ _ ⟨by simp[v],by simp[B],by simp[I],by simp[g7],by simp[d9],?_,max F q.fr,P',ap,ap,ahr P7 W.da,ap,O,λs hs=>(m s hs).mono ap ap ap W.da,λ_=>⟨λc hc f' p' l' e' d hd=>?_,bv⟩,bv,bv⟩ (by simp[U]) (by simp[f_]))
    .rw[e_,AI ap,b_,AI lb];exact hK
    .simp only[e,If]at hc;subst hc;simp[cu]at e';obtain⟨rfl,rfl,rfl⟩:=e';change bE (cu f p l) _=bE (cu f p l) _;rw[<-q4 d ap,<-q4 (d+P') ap];exact qE w3 ap ap (by
      have:d+P'-d=P':=ii
      rw[this];exact W.db)
   .rintro u K ⟨v,B,I,g7,d9,hK,F,P,F0,F1,P7,P1,P2,m,a_,X,Y⟩ - -;have a_:=a_ rfl;apply ai;simp[g7,x2 K hK,k_,-aw];refine bW s.xs.length (λi w _=>w.g 16=G (sl g (cI L))/\w.g 17=vi (L.length:Nat)/\w.g 18=vi j/\w.g 5=vi P/\w.g 56=G (sl s.xg (ay s.xs))/\∃F':Int,F<=F'/\F'<=13/\w.g 4=vi F'/\∀x∈s.xs.take i,x.fr / 1440<=F') ap ce ce bv bv
     ⟨by simp[v],by simp[B],by simp[I],by simp[Y],bv,F,ap,ap,by simp[X],bv⟩ ?_ ?_
    .rintro i w M hi ⟨v,B,I,Y,d_,F',hF,i7,X,c9⟩ U f_ N;have r6:s.xs.take (i+1)=s.xs.take i++[s.xs[i]]:=by rw[agV,BY hi];rfl
     have r9:=r7 s.xs[i] (IN hi);have S:=λH:an=>cf (H:=H) (bI s.xs) (dn hi);have A:=λH:an=>bu (H:=H) (g:=s.xg) (rows:=ay s.xs) (sz:=3) (k:=.i64) (i:=(i:Int)) ap ge;simp only[ag7]at A;generalize s.xs[i]=x at *;obtain⟨y1,y2,y3,y4,y5⟩:=r9;have m_:=fL x.fr 1440 ap ap ap;obtain⟨M1,i9⟩:=aH (M++[bV.box [Z x.day,Z x.fr,Z x.to] 0]);have m1:M1[M.length]?=E [Z x.day,Z x.fr,Z x.to]:=by rw[i9];simp
     have l1:aV M1 ab (.c (.ptr M.length 1 0))=aa (vi x.fr):=by simp[aV,az,m1]
     simp[aA.row]at S;apply ax;apply ai;simp[d_,U,A,S,-aw];rw[<-i9];apply ai;simp[l1,m_,-aw];apply ba;simp[X];refine au (N _ _ ⟨by simp[v],by simp[B],by simp[I],by simp[Y],by simp[d_],max F' (x.fr / 1440),ap,ap,bv,λy hy=>?_⟩ (by simp[U]) (by simp[f_]));rw[r6,agP,If]at hy;rcases hy with hy|rfl
     .have:=c9 y hy;omega
     .omega
    .rintro w M ⟨v,B,I,Y,d_,F',hF,i7,X,c9⟩ - -;rw[agW]at c9;refine au (next _ _ ⟨by simp[v],F',P,ap,i7,P7,P1,P2,λy hy=>?_,by simp[X],by simp[Y]⟩ (by simp[I]) (by simp[B]));rw[q_,agP,If]at hy;rcases hy with hy|rfl
     .exact(m y hy).mono hF ap ap (ah3 _)
     .have hc:=a_.mono hF ap ap (ah3 P);exact⟨hc.cls,c9⟩
  .rintro t J ⟨v,F,P,F0,F1,P7,P1,P2,m,X,Y⟩ - -;rw[agW]at m;have o:P<=420:=ahq ce P2;apply ai;simp[X,Y,a8 (n:=F+15),a8 (n:=F+15+P)];refine av (hQ _ _ _ ⟨F,P,F0,F1,P7,P1,o,m,rfl⟩ ?_);simp[Km.results,bC];omega
 exact⟨F,P,F0,F1,P7,P1,P2,hs,hp.eq⟩
def fst_eq(d:60<=F)(g:F<=1245):MS q F=7*q:=by unfold MS;omega
theorem HV:∀{l m:List aA},l.Pairwise aA.lt->m.Pairwise aA.lt->(∀x,x∈l↔x∈m)->l=m
 |[],[],_,_,_=>rfl| [],y::m,_,_,h=>absurd ((h y).2 agR) bv
 |x::l,[],_,_,h=>absurd ((h x).1 agR) bv
 |x::l,y::m,u,v,h=>by
  have a1:=ahH.1 u;have g:=ahH.1 v;have d:∀{z:aA},¬ z.lt z:=λ{z} h=>by unfold aA.lt at h;omega
  have j:∀{z w:aA},z.lt w->¬ w.lt z:=λ{z w} h s=>by unfold aA.lt at h s;omega
  have e:x=y:=by
   rcases ag8.1 ((h x).1 agR)with e|e
   .exact e
   .rcases ag8.1 ((h y).2 agR)with q|q
    .exact q.symm
    .exact absurd (g.1 x e) (j (a1.1 y q))
  subst e;have:l=m:=HV a1.2 g.2 λz=>by
   constructor
   .intro b;rcases ag8.1 ((h z).1 (agU _ b))with e|e
    .exact absurd (e▸a1.1 z b) d
    .exact e
   .intro b;rcases ag8.1 ((h z).2 (agU _ b))with e|e
    .exact absurd (e▸g.1 z b) d
    .exact e
  rw[this]
def vZ(x:aA):List aA->List aA
 |[]=>[x]| y::r=>if x.fr=y.fr/\x.day=y.day/\x.to=y.to then y::r else if sk x y then x::y::r else y::vZ x r
theorem yV(x:aA):∀(l:List aA) (z:aA),z∈vZ x l↔z=x\/z∈l
 |[],z=>by simp[vZ]
 |y::r,z=>by
  unfold vZ;split
  .rename_i h;obtain⟨b,d,g⟩:=h;have:x=y:=by cases x;cases y;simp_all
   subst this;simp
  .split
   .simp
   .rw[ag8,yV x r,ag8];exact⟨λh=>h.elim (λh=>.inr (.inl h)) λh=>h.elim .inl λh=>.inr (.inr h),λh=>h.elim (λh=>.inr (.inl h)) λh=>h.elim .inl λh=>.inr (.inr h)⟩
theorem JJ(x:aA):∀{l:List aA},l.Pairwise aA.lt->(vZ x l).Pairwise aA.lt
 |[],_=>by simp[vZ]
 |y::r,h=>by
  have g:=ahH.1 h;unfold vZ;split
  .exact h
  .split
   .rename_i q b;have j:x.lt y:=by
     unfold sk at b;unfold aA.lt;split at b
     .split at b
      .simp at b;omega
      .simp at b;omega
     .simp at b;omega
    refine ahH.2 ⟨λz d=>?_,h⟩;rcases ag8.1 d with rfl|d
    .exact j
    .have:=g.1 z d;unfold aA.lt at *;omega
   .rename_i q b;have m:y.lt x:=by
     unfold sk at b;unfold aA.lt;split at b
     .split at b
      .simp at b;omega
      .simp at b;omega
     .simp at b;omega
    refine ahH.2 ⟨λz d=>?_,JJ x g.2⟩;rcases(yV x r z).1 d with rfl|d
    .exact m
    .exact g.1 z d
def su(l:List aA):List aA:=l.foldr vZ []
theorem Ca:∀(l:List aA) (z:aA),z∈su l↔z∈l
 |[],z=>by simp[su]
 |x::r,z=>by
  have:=Ca r z;show z∈vZ x (su r)↔_;rw[yV,this,ag8]
theorem FR:∀(l:List aA),(su l).Pairwise aA.lt
 |[]=>by simp[su]
 |x::r=>JJ x (FR r)
def Hd(s:aG)(q:Int):List aA:=match s.cs with
 |⟨_,⟨_,p::_⟩::_,b⟩::_=>((List.range 7).filter λi:Nat=>decide (0<=7*q+(i:Int))&&bE p (7*q+(i:Int))).map λi:Nat=>bU s.len b (7*q+(i:Int))
 |_=>[]
def iI(s:aG)(q:Int):List aA:=su (Hd s q++s.xs.filter λx=>decide (x.fr / 10080=q))
def xP(s:aG)(q:Int):(iI s q).Pairwise aA.lt:=FR _
def QP(h:cL a):z∈Hd a q↔Ku a q z:=by
 obtain⟨m,-⟩:=h;rcases m with e|⟨f,p,l,A,e,-,-,-,-,-,-,H,m1⟩
 .unfold Hd Ku;rw[e];simp
 .have u:MS q A=7*q:=fst_eq H m1;constructor
  .intro y;unfold Hd at y;rw[e]at y;obtain⟨j,v,rfl⟩:=agX.1 y;obtain⟨v,b⟩:=ahB.1 v;have:=ai0.1 v;rw[IS,decide_eq_true_eq]at b;exact⟨f,p,l,A,7*q+j,e,rfl,by rw[u];omega,by rw[u];omega,b.2⟩
  .rintro⟨J,L,K,I,d,g,rfl,B,F,b⟩;rw[e]at g;simp[cu]at g;obtain⟨⟨rfl,rfl,rfl⟩,rfl⟩:=g;rw[u]at B F;unfold Hd;rw[e];have x:7*q+(((d-7*q).toNat:Nat):Int)=d:=ii
   refine agX.2 ⟨(d-7*q).toNat,ahB.2 ⟨ai0.2 ap,?_⟩,by rw[x]⟩;rw[x,IS,decide_eq_true_eq];exact⟨ap,b⟩
def ov(h:cL a):z∈iI a q↔OB a q z:=by
 unfold iI OB;rw[Ca,agP,QP h,ahB,decide_eq_true_eq]
def ri(s:aG)(m:cL s)(q:Int)(b:-1<=q)(d:q<=5000):(iI s q).length<=10/\∃g,bf tab nD [.a (s.row.map .f),vi q]=Eq (G (sl g (ay (iI s q)))):=by
 obtain⟨g,L,⟨u,v⟩,j,l⟩:=LY s m q b d;have e:L=iI s q:=HV u (xP s q) λx=>by rw[v,ov m]
 rw[e]at j l;exact⟨j,g,l⟩
def zw(s:aG)(g:cL s)(q:Int):(iI s q).length<=10:=by
 have d:∀(x:aA) (l:List aA),(vZ x l).length<=l.length+1:=by
  intro x l;induction l with
  |nil=>simp[vZ]
  |cons y r j=>
   unfold vZ;split
   .simp
   .split
    .simp
    .simp only[ahk];omega
 have b:∀l:List aA,(su l).length<=l.length:=by
  intro l;induction l with
  |nil=>simp[su]
  |cons x r j=>
   have:=d x (su r);show(vZ x (su r)).length<=_;simp only[ahk];omega
 refine ahd (b _) ?_;rw[agM];have m:(Hd s q).length<=7:=by
  unfold Hd;split
  .rw[List.length_map];refine ahd (ahV _ _) ?_;simp
  .simp
 have u:=ahV (λx:aA=>decide (x.fr / 10080=q)) s.xs;have:=g.2.2.2.1;omega
def pc(h:cL a){x:aA}(j:x∈iI a q):0<=q/\x.fr / 10080=q/\60<=x.fr/\x.to=x.fr+a.len:=by
 rcases(ov h).1 j with⟨f,p,l,v,d,e,rfl,m,u,M⟩|⟨j,m⟩
 .obtain⟨g,-⟩:=h;rcases g with b|⟨H,O,N,z,b,-,-,-,-,-,-,y,m1⟩
  .rw[e]at b;cases b
  .rw[e]at b;simp[cu]at b;obtain⟨⟨rfl,rfl,rfl⟩,rfl⟩:=b;rw[fst_eq y m1]at m u;simp only[bU];have A:0<=q:=ii
   have B:0<=d*1440+v-10080*q:=ii
   have F:d*1440+v-10080*q<10080:=ii
   refine⟨A,ap,ap,trivial⟩
 .obtain⟨u,I,J,K,L⟩:=h.2.2.2.2.2 x j;omega
def rS(s:aG)(q:Int):Int:=fX (iI s q)
def LC(O:List aA):Prop:=∀x∈O,0<x.to-x.fr/\x.to-x.fr<=10000
theorem DB:∀{O:List aA},LC O->0<=fX O/\fX O<=10000*(O.length:Int)
 |[],_=>by simp[fX]
 |x::r,h=>by
  have d:=h x agR;have g:=DB (O:=r) λy b=>h y (agU _ b);simp only[fX,ahk];omega
def Di(h:cL a)(q:Int):LC (iI a q):=λx b=>by
 obtain⟨-,-,-,e⟩:=pc h b;have:=h.2.1;have:=h.2.2.1;omega
def Se(h:cL a)(q:Int):0<=rS a q/\rS a q<=100000:=by
 have b:=DB (Di h q);have d:=zw a h q;unfold rS;omega
def Sd(h:cL a)(d:q<0):iI a q=[]:=List.eq_nil_iff_forall_not_mem.2 λx b=>by
 have:=(pc h b).1;omega
def shI(P:Int)(x:aA):aA:=⟨x.day+P,x.fr+1440*P,x.to+1440*P⟩
def Fh(h:cL a)(H:pZ F p a)(S:0<=F)(U:1<=p)(W:p=7*k)(X:F<7*q):iI a (q+k)=(iI a q).map (shI p):=by
 have Y:0<=q:=ii
 refine HV (xP _ _) (List.pairwise_map.2 (aiZ (λ{s b} h=>?_) (xP a q))) λx=>?_
 .unfold aA.lt shI at *;simp only;omega
 .rw[ov h,agX];have v:∀(q':Int) (x:aA),q<=q'->x∈a.xs->x.fr / 10080=q'->False:=λq' x M u e=>by
   have:=H.ext x u;omega
  constructor
  .rintro(⟨f,P,l,m,d,e,rfl,z,A,B⟩|⟨u,e⟩)
   .have g:60<=m/\m<=1245:=by
     rcases h.1 with j|⟨L,Q,O,J,j,-,-,-,-,-,-,I,m1⟩
     .rw[e]at j;cases j
     .rw[e]at j;simp[cu]at j;obtain⟨-,rfl⟩:=j;exact⟨I,m1⟩
    rw[fst_eq g.1 g.2]at z A;have K:max (7*q) 0<=d-p:=by
     have:7*(q+k)=7*q+p:=ii
     have:7*q+p<=d:=ii
     omega
    refine⟨bU a.len m (d-p),(ov h).2 (.inl ⟨f,P,l,m,d-p,e,rfl,by rw[fst_eq g.1 g.2];exact K,by rw[fst_eq g.1 g.2];omega,?_⟩),?_⟩
    .have:=H.cls ⟨.fs,[⟨.fs,[cu f P l]⟩],m⟩ (by rw[e];simp) f P l rfl (d-p) ap;rw[<-this,show d-p+p=d by omega];exact B
    .unfold shI bU;simp only[aA.mk.injEq];exact⟨ap,ap,ap⟩
   .exact absurd (v _ x ap u e) id
  .rintro⟨y,N,rfl⟩;rcases(ov h).1 N with⟨f,P,l,m,d,e,rfl,z,A,B⟩|⟨u,e⟩
   .have g:60<=m/\m<=1245:=by
     rcases h.1 with j|⟨L,Q,O,J,j,-,-,-,-,-,-,I,m1⟩
     .rw[e]at j;cases j
     .rw[e]at j;simp[cu]at j;obtain⟨-,rfl⟩:=j;exact⟨I,m1⟩
    rw[fst_eq g.1 g.2]at z A;refine .inl ⟨f,P,l,m,d+p,e,?_,by rw[fst_eq g.1 g.2];omega,by rw[fst_eq g.1 g.2];omega,?_⟩
    .unfold shI bU;simp only[aA.mk.injEq];exact⟨trivial,ap,ap⟩
    .have:=H.cls ⟨.fs,[⟨.fs,[cu f P l]⟩],m⟩ (by rw[e];simp) f P l rfl d ap;rw[this];exact B
   .exact absurd (v _ y ap u e) id
theorem Kg(P:Int):∀L:List aA,fX (L.map (shI P))=fX L
 |[]=>rfl
 |x::r=>by
  rw[IT,fX,fX,Kg P r];simp only[shI];omega
def Fi(h:cL a)(j:pZ F p a)(b:0<=F)(d:1<=p)(g:p=7*k)(l:F<7*q):rS a (q+k)=rS a q:=by
 unfold rS;rw[Fh h j b d g l,Kg]
def fB:List aG->Int->Int
 |[],_=>0| s::r,q=>rS s q+fB r q
def rZ(T:List aG):Prop:=∀s∈T,cL s
def rZ.tl(h:rZ (a::c)):rZ c:=λx b=>h x (agU _ b)
theorem xL:∀{T:List aG} (q:Int),rZ T->0<=fB T q/\fB T q<=100000*(T.length:Int)
 |[],_,_=>by simp[fB]
 |s::r,q,h=>by
  have b:=Se (h s agR) q;have d:=xL q h.tl;simp only[fB,ahk];omega
theorem wA(q:Int):∀(r:List aG) (b:Int),rZ r->0<=b->b+100000*(r.length:Int)<=2000000000->vp (λs=>rS s q) b r=b+fB r q
 |[],b,_,_,_=>by simp[vp,fB]
 |s::r,b,h,g,d=>by
  have j:=Se (h s agR) q;simp only[ahk]at d;rw[vp,a8,wA q r _ h.tl ap ap,fB];omega
theorem BM{b:Int}:∀{O:List aA} {u:Int},0<=u->u+10000*(O.length:Int)<=2000000000->LC O->(lH b u O=ab↔O=[]\/u+fX O<=b)
 |[],u,_,_,_=>by simp[lH]
 |x::r,u,m,j,d=>by
  have q:=d x agR;have g:LC r:=λy l=>d y (agU _ l);have s:=DB g;simp only[ahk]at j;rw[lH,a8 (n:=x.to-x.fr),a8 (n:=u+(x.to-x.fr))];simp only[fX,List.cons_ne_nil,false_or];split
  .rename_i h;constructor
   .intro h;cases h
   .intro h;omega
  .rename_i h;rw[BM ap ap g];constructor
   .rintro(rfl|h)
    .simp[fX];omega
    .omega
   .intro h;right;omega
theorem BN{d:Int}:∀{O:List aA} {u:Int} {x:aA},0<=u->u+10000*(O.length:Int)<=2000000000->LC O->lH d u O=aa x->∃a b,O=a++x::b/\d<u+fX (a++[x])
 |[],u,x,_,_,_,h=>by simp[lH]at h
 |y::r,u,x,s,j,g,h=>by
  have v:=g y agR;have m:LC r:=λz q=>g z (agU _ q);simp only[ahk]at j;rw[lH,a8 (n:=y.to-y.fr),a8 (n:=u+(y.to-y.fr))]at h;split at h
  .rename_i l;cases h;exact⟨[],r,rfl,by simp[fX];omega⟩
  .obtain⟨a,b,rfl,l⟩:=BN ap ap m h;exact⟨y::a,b,rfl,by simp only[ahO,fX];omega⟩
theorem FB{b e:Int}{d:Int->List aA}{us:Int->Int}:∀(k:Nat) (n:Int),e<=7*(n+k)->(qM b e d us k n=ab↔∀q,n<=q->7*q<e->lH b (us q) (d q)=ab)
 |0,n,h=>by
  simp only[qM,true_iff];intro q m g;omega
 |k+1,n,h=>by
  rw[qM];split
  .rename_i j;cases s:lH b (us n) (d n)with
   |some x=>
    simp only[reduceCtorEq,false_iff];intro l;have:=l n ap j;rw[s]at this;cases this
   |none=>
    simp only;rw[FB k (n+1) ap];constructor
    .intro l q m g;by_cases e:q=n
     .subst e;exact s
     .exact l q ap g
    .intro l q m g;exact l q ap g
  .rename_i j;simp only[true_iff];intro q m g;omega
theorem FD{b e:Int}{d:Int->List aA}{us:Int->Int}{x:aA}:∀(k:Nat) (n:Int),qM b e d us k n=aa x->∃q,n<=q/\7*q<e/\lH b (us q) (d q)=aa x
 |0,n,h=>by simp[qM]at h
 |k+1,n,h=>by
  rw[qM]at h;split at h
  .rename_i g;cases j:lH b (us n) (d n)with
   |some y=>rw[j]at h;cases h;exact⟨n,ap,g,j⟩
   |none=>
    rw[j]at h;obtain⟨q,s,l,m⟩:=FD k (n+1) h;exact⟨q,ap,l,m⟩
  .cases h
def Nq(l:cL a)(M:rZ c)(hl:c.length<=1000)(u:0<=F)(F1:F<=13)(v:1<=p)(P2:p<=420)(S:7 ∣ p)(O:∀s∈c++[a],pZ F p s)(b:Int) :
  qM b (F+15+p) (iI a) (fB c) 5000 (-1)=ab↔∀q,0<=q->iI a q=[]\/fB c q+rS a q<=b:=by
 obtain⟨k,B⟩:=S;have N:=λq=>xL q M;have d:∀q:Int,(lH b (fB c q) (iI a q)=ab↔iI a q=[]\/fB c q+rS a q<=b):=λq=>by
  have:=zw a l q;rw[BM (N q).1 (by have:=(N q).2;omega) (Di l q)];rfl
 have A:∀q,F<7*q->fB c (q+k)=fB c q:=λq g=>by
  have:∀U:List aG,(∀s∈U,s∈c)->fB U (q+k)=fB U q:=by
   intro U;induction U with
   |nil=>intro _;rfl
   |cons s r H=>
    intro h;have Q:=h s agR;rw[fB,fB,H λy Y=>h y (agU _ Y),Fi (M s Q) (O s (agP.2 (.inl Q))) u v B g]
  exact this c λ_ h=>h
 have m:=O a bv;rw[FB 5000 (-1) ap];constructor
 .intro h;have z:∀(n:Nat) (q:Int),0<=q->q<=n->iI a q=[]\/fB c q+rS a q<=b:=by
   intro n;induction n with
   |zero=>intro q W L;exact(d q).1 (h q ap ap)
   |succ n H=>
    intro q W L;by_cases g:7*q<F+15+p
    .exact(d q).1 (h q ap g)
    .have j:F<7*(q-k):=ii
     have e:q-k+k=q:=ii
     have X:=H (q-k) ap ap;have I:=A (q-k) j;have J:=Fh l m u v B j;have K:=Fi l m u v B j;rw[e]at I J K;rw[I,J,K];exact X.imp (λh=>by rw[h];rfl) id
  intro q g;exact z q.toNat q g ap
 .intro h q L _;by_cases g:0<=q
  .exact(d q).2 (h q g)
  .rw[Sd l ap];rfl
def oL(x y:aA):Prop:=x.fr<y.to/\y.fr<x.to
def Jg(a b:aG):Prop:=∃x y,dM a x/\dM b y/\oL x y
def oL.symm{y:aA}(h:oL z y):oL y z:=⟨h.2,h.1⟩
def eE(h:dh a):dM a z↔(∃f p l b d,a.cs=[⟨.fs,[⟨.fs,[cu f p l]⟩],b⟩]/\0<=d/\bE (cu f p l) d=ae/\z=bU a.len b d)\/z∈a.xs:=by
 have m:∀f p l d,sH [⟨.fs,[cu f p l]⟩] 0 d↔0<=d/\bE (cu f p l) d=ae:=λf p l d=>by
  simp[sH,GW,wS,hasB]
 unfold dM P9;constructor
 .rintro(⟨c,g,d,v,rfl⟩|j)
  .rcases h.1 with e|⟨f,p,l,b,e,-⟩
   .rw[e]at g;simp at g
   .rw[e,If]at g;subst g;have:=(m f p l d).1 v;exact .inl ⟨f,p,l,b,d,e,this.1,this.2,rfl⟩
  .exact .inr j
 .rintro(⟨f,p,l,b,d,e,q,u,rfl⟩|j)
  .exact .inl ⟨_,by rw[e];exact If.2 rfl,d,(m f p l d).2 ⟨q,u⟩,rfl⟩
  .exact .inr j
def qd(f p:Int)(l:List Int)(d:Int):eZ [⟨.fs,[cu f p l]⟩] d↔bE (cu f p l) d=ae:=by
 simp[eZ,ew]
def yF(h:dh a)(e:a.cs=[⟨.fs,[⟨.fs,[cu F p r]⟩],k⟩]):0<=F/\F<=8/\1<=p/\p<=7/\0<=k/\k<=1245:=by
 rcases h.1 with g|⟨u,x,v,q,g,s,b,c,d,-,-,m,m1⟩
 .rw[e]at g;cases g
 .rw[e]at g;simp[cu]at g;obtain⟨⟨rfl,rfl,rfl⟩,rfl⟩:=g;exact⟨s,b,c,d,m,m1⟩
def T5(b:1<=p)(d:p<=7):p ∣ 420:=by
 obtain rfl|rfl|rfl|rfl|rfl|rfl|rfl:p=1\/p=2\/p=3\/p=4\/p=5\/p=6\/p=7:=by omega
 all_goals decide
def E0(m:q<=8)(b:1<=p)(j:p<=7){d:Int}(g:q<=d-420*F)(t0:0<=F):bE (cu q p r) (d-420*F)=bE (cu q p r) d:=
 (qE (p:=cu q p r) b (d:=d-420*F) (d':=d) g (by show q<=d;omega) (by
  show p ∣ d-(d-420*F);have e:d-(d-420*F)=420*F:=ii
  rw[e];exact ahr (T5 b j) (Int.dvd_mul_right _ _))).symm
def Ba(u:dh a)(g:dh b)(h:Jg a b):∃x y,dM a x/\dM b y/\oL x y/\0<=x.fr/\x.to<=2000000/\0<=y.fr/\y.to<=2000000:=by
 obtain⟨x,y,F,v,j⟩:=h;have la:=u.2.1;have a_:=u.2.2.1;have lb:=g.2.1;have b_:=g.2.2.1;have Q:∀{s:aG},dh s->∀{z:aA},z∈s.xs->0<=z.fr/\z.fr<=20000/\z.to<=30000:=λ{s} U {z} hz=>by
  obtain⟨h1,h2,h3,h4,h5⟩:=U.2.2.2.2.2 z hz;have:=U.2.2.1;omega
 unfold oL at *;rcases(eE u).1 F with⟨f,p,l,X,d,e,d0,hm,rfl⟩|M
 .obtain⟨f0,f1,p0,p1,m0,m1⟩:=yF u e;rcases(eE g).1 v with⟨S,Y,W,q,d',J,K,B,rfl⟩|m
  .obtain⟨L,A,H,I,N,O⟩:=yF g J;simp only[bU]at j;by_cases hn:d<=1000
   .exact⟨_,_,F,v,j,by simp only[bU];omega,by simp only[bU];omega,by simp only[bU];omega,by simp only[bU];omega⟩
   .obtain⟨t,ht⟩:=aH ((d-20) / 420);have t0:0<=t:=ii
    have t1:420*t<=d-20/\d-20<420*t+420:=ii
    refine⟨bU a.len X (d-420*t),bU b.len q (d'-420*t),(eE u).2 (.inl ⟨f,p,l,X,_,e,ap,by rw[E0 f1 p0 p1 ap t0];exact hm,rfl⟩),(eE g).2 (.inl ⟨S,Y,W,q,_,J,ap,by rw[E0 A H I ap t0];exact B,rfl⟩),?_⟩;simp only[bU];omega
  .have:=Q g m;refine⟨_,_,F,v,j,?_,?_,ap,ap⟩
   .simp only[bU];omega
   .simp only[bU]at j ⊢;omega
 .have h1:=Q u M;rcases(eE g).1 v with⟨S,Y,W,q,d',J,K,B,rfl⟩|m
  .obtain⟨L,A,H,I,N,O⟩:=yF g J;refine⟨_,_,F,v,j,ap,ap,?_,?_⟩
   .simp only[bU];omega
   .simp only[bU]at j ⊢;omega
  .have:=Q g m;exact⟨_,_,F,v,j,ap,ap,ap,ap⟩
def Sz(h:dh a)(x y:aA):nb a x y↔(∃f p l b d,a.cs=[⟨.fs,[⟨.fs,[cu f p l]⟩],b⟩]/\0<=d/\bE (cu f p l) d=ae/\y=bU a.len b d)/\oL x y:=by
 unfold nb oL;constructor
 .rintro⟨⟨c,g,d,j,m,rfl⟩,q⟩;refine⟨?_,q⟩;rcases h.1 with e|⟨f,p,l,b,e,-⟩
  .rw[e]at g;simp at g
  .rw[e,If]at g;subst g;exact⟨f,p,l,b,d,e,j,(qd f p l d).1 m,rfl⟩
 .rintro⟨⟨f,p,l,b,d,e,j,m,rfl⟩,q⟩;exact⟨⟨_,by rw[e];exact If.2 rfl,d,j,(qd f p l d).2 m,rfl⟩,q⟩
def rh(d:dh b)(x:aA):nQ a b x↔∃y,dM b y/\oL x y:=by
 unfold nQ;constructor
 .rintro(⟨y,j⟩|⟨y,j,g⟩)
  .obtain⟨l,m⟩:=(Sz d x y).1 j;exact⟨y,(eE d).2 (.inl l),m⟩
  .simp only[mH,IS,decide_eq_true_eq]at g;exact⟨y,(eE d).2 (.inr j),g⟩
 .rintro⟨y,j,g⟩;rcases(eE d).1 j with h|h
  .exact .inl ⟨y,(Sz d x y).2 ⟨h,g⟩⟩
  .refine .inr ⟨y,h,?_⟩;simp only[mH,IS,decide_eq_true_eq];exact g
def RO(j:dh a)(m:dh b):DX a b↔Jg a b:=by
 constructor
 .rintro(⟨x,u,h⟩|⟨y,v,h⟩|⟨c,g,d,A,k,K,L,z,z0,-,M,N⟩)
  .obtain⟨y,v,g⟩:=(rh m x).1 h;exact⟨x,y,.inr u,v,g⟩
  .obtain⟨x,u,g⟩:=(rh j y).1 h;exact⟨x,y,u,.inr v,g.symm⟩
  .have la:=j.2.1;have i:=m.2.1;rcases j.1 with e|⟨f,p,l,I,e,-⟩
   .rw[e]at g;simp at g
   rcases m.1 with s|⟨J,Q,O,q,s,-⟩
   .rw[s]at A;simp at A
   rw[e,If]at g;rw[s,If]at A;subst g A;rw[qd]at M N;refine⟨bU a.len I (z+max 0 (-k)),bU b.len q (z+max 0 k),(eE j).2 (.inl ⟨f,p,l,I,_,e,ap,M,rfl⟩),(eE m).2 (.inl ⟨J,Q,O,q,_,s,ap,N,rfl⟩),?_⟩;unfold Bz at K;unfold Ak at L;simp only at K L;unfold oL bU;simp only;omega
 .intro h;obtain⟨x,y,u,v,g,b0,b1,W,X⟩:=Ba j m h;rcases(eE j).1 u with⟨f,p,l,I,d,e,Y,U,rfl⟩|F
  .rcases(eE m).1 v with⟨J,Q,O,q,d',s,S,B,rfl⟩|H
   .refine .inr (.inr ⟨_,by rw[e];exact If.2 rfl,_,by rw[s];exact If.2 rfl,d'-d,?_,?_,min d d',ap,?_,?_,?_⟩)
    .unfold Bz;unfold oL bU at g;simp only at g ⊢;omega
    .unfold Ak;unfold oL bU at g;simp only at g ⊢;omega
    .have:=yF j e;have:=j.2.1;simp only[bU]at b1;omega
    .rw[qd,show min d d'+max 0 (-(d'-d))=d by omega];exact U
    .rw[qd,show min d d'+max 0 (d'-d)=d' by omega];exact B
   .exact .inr (.inl ⟨y,H,(rh j y).2 ⟨_,u,g.symm⟩⟩)
  .exact .inl ⟨x,F,(rh m x).2 ⟨y,v,g⟩⟩
def EE(I:dh a)(J:dh b){s:FS}(h:na (-2251799813685248) (λx y=>dM a x/\dM b y) s)(L:Jg a b):s.found=ae/\dM a s.X/\dM b s.Y/\oL s.X s.Y/\s.X.fr<=2000000/\s.Y.fr<=2000000:=by
 obtain⟨x,y,u,v,K,b0,b1,S,U⟩:=Ba I J L;have j:okB (-2251799813685248) x y:=by
  unfold okB pP;unfold oL at K;have g:∀{s:aG},dh s->∀{z:aA},dM s z->z.fr<z.to:=λ{s} q {z} Q=>by
   have X:=q.2.1;rcases(eE q).1 Q with⟨f,p,l,Y,d,e,W,L,rfl⟩|A
   .simp only[bU];omega
   .have:=(q.2.2.2.2.2 z A).1;omega
  have:=g I u;have:=g J v;omega
 rcases h with⟨-,-,-,m⟩|⟨M,B,F,-,N⟩
 .exact absurd j (m x y ⟨u,v⟩)
 .refine⟨M,B.1,B.2,?_⟩;have H:=N x y ⟨u,v⟩ j;unfold Dk at H;have O:¬ pP (-2251799813685248) x y<pP (-2251799813685248) s.X s.Y:=λh=>H (.inl h);unfold okB at F;unfold pP at F O;unfold oL at K ⊢;exact⟨⟨ap,ap⟩,ap,ap⟩
def rD0:bw:=⟨0,0,0,fi 0,fi 0,fi 0,fi 0,fi 0,fi 0,fi 0,fi 0,fi 0,fi 0,.nil,[],.nil,[]⟩
def jx(b:List bw)(s:aJ):bw:=(b[s.room.toNat]?).getD rD0
def OpF(O:bw->jD)(b:List bw):Prop:=∀d∈b,(O d).OK/\d.op=(O d).row.map .f
def fF(h:L.jR):0<=L.room/\L.room<=2:=⟨h.2.2.1,h.2.2.2.1⟩
def sN(j:jj l J)(h:0<=L.room/\L.room<=2):l[L.room.toNat]?=aa (jx l L)/\jx l L∈l:=by
 have:=fR j;have d:L.room.toNat<l.length:=ii
 have e:l[L.room.toNat]?=aa l[L.room.toNat]:=BY d;unfold jx;rw[e];exact⟨rfl,IN d⟩
def Cc(u:jj l J):∀d∈l,∃r,Good r/\d.cap=r.cap/\d.eB=r.eB/\d.fY=r.fY/\d.op=r.op/\d.q=r.q:=by
 obtain⟨a,b,c,j,m,q,rfl⟩:=u;intro d g;simp only[ag8,aid,or_false]at g;rcases g with rfl|rfl|rfl
 .exact⟨_,j,rfl,rfl,rfl,rfl,rfl⟩
 .exact⟨_,m,rfl,rfl,rfl,rfl,rfl⟩
 .refine⟨c,q,?_⟩;split<;>exact⟨rfl,rfl,rfl,rfl,rfl⟩
structure acv(d:bw):Prop where
 c0:6<=d.cap
 c1:d.cap<=11
 b0:0<=d.eB
 b1:d.eB<=20
 a0:0<=d.fY
 a1:d.fY<=20
 q:d.q=[]\/∃t m,d.q=[(t,m),(2,600)]/\0<=t/\t<=1/\0<=m/\m<=900
def tK(K:jj l J)(I:d∈l):acv d:=by
 obtain⟨r,⟨a,b,c,cap,u,s,L,q,rfl,-,-,-,x,y,z,A,B,F,H⟩,g,j,m,-,v⟩:=Cc K d I;exact⟨by rw[g];exact x,by rw[g];exact y,by rw[j];exact z,by rw[j];exact A,by rw[m];exact B,by rw[m];exact F,by rw[v];exact H⟩
def ZW(u:jj l J):∃O,OpF O l:=by
 have h:∀d:bw,∃o:jD,d∈l->o.OK/\d.op=o.row.map .f:=λd=>by
  by_cases g:d∈l
  .obtain⟨r,s,-,-,-,e,-⟩:=Cc u d g;obtain⟨o,j,b⟩:=Aj s;exact⟨o,λ_=>⟨j,e.trans b⟩⟩
  .exact⟨⟨0,0,ab⟩,λh=>absurd h g⟩
 obtain⟨O,m⟩:=Classical.skolem.1 h;exact⟨O,m⟩
def adf(d:bw)(s:aJ):aG:=⟨.nil,s.st.cs.map (sY d.eB),s.st.len+d.eB+d.fY,.nil,s.st.xs.map (ky d.eB d.fY)⟩
def Ht(d:a.cs=b.cs)(g:a.len=b.len)(j:a.xs=b.xs)(x:aA):dM a x↔dM b x:=by
 unfold dM;rw[d,g,j]
def ot(h:TD d.eB d.fY L.st a)(x:aA):dM a x↔dM (adf d L) x:=Ht h.1 h.2.1 h.2.2 x
def yW(B A len b n:Int):bU (len+B+A) (b-B) n=ky B A (bU len b n):=by
 simp only[bU,ky,aA.mk.injEq];exact⟨trivial,ap,ap⟩
def mw(x:aA):dM (adf d L) x↔∃y,dM L.st y/\x=ky d.eB d.fY y:=by
 constructor
 .rintro(⟨c,b,n,j,rfl⟩|q)
  .obtain⟨m,g,rfl⟩:=agX.1 b;exact⟨_,.inl ⟨m,g,n,j,rfl⟩,yW ..⟩
  .obtain⟨y,l,rfl⟩:=agX.1 q;exact⟨y,.inr l,rfl⟩
 .rintro⟨y,⟨c,b,n,j,rfl⟩|l,rfl⟩
  .exact .inl ⟨_,agX.2 ⟨c,b,rfl⟩,n,j,(yW ..).symm⟩
  .exact .inr (agX.2 ⟨y,l,rfl⟩)
def Jf(b:List bw)(x s:aJ):Prop:=∃X Y,dM x.st X/\dM s.st Y/\oL (ky (jx b x).eB (jx b x).fY X) (ky (jx b s).eB (jx b s).fY Y)
def BG{s:aJ}(u:TD (jx l L).eB (jx l L).fY L.st a)(v:TD (jx l s).eB (jx l s).fY s.st b):Jg a b↔Jf l L s:=by
 constructor
 .rintro⟨X,Y,g,d,q⟩;obtain⟨X',j,rfl⟩:=(mw X).1 ((ot u X).1 g);obtain⟨y,m,rfl⟩:=(mw Y).1 ((ot v Y).1 d);exact⟨X',y,j,m,q⟩
 .rintro⟨X,Y,g,d,q⟩;exact⟨_,_,(ot u _).2 ((mw _).2 ⟨X,g,rfl⟩),(ot v _).2 ((mw _).2 ⟨Y,d,rfl⟩),q⟩
def yw(O:bw->jD)(b:List bw)(x:aJ)(z:aA):Bool:=ey (O (jx b x)).lo (O (jx b x)).hi (O (jx b x)).cl z.fr z.to
def om(b:List bw)(x:aJ):Int × Bool:=sS x.eo (jx b x).q
structure Fits(O:bw->jD)(rs:List bw)(hh:Bool)(ss:List aJ)(x:aJ):Prop where
 cap:x.size<=(jx rs x).cap
 hrs:∀z,dM x.st z->yw O rs x z=ae
 cl:∀s∈ss,s.meet≠x.meet->fQ hh s.room.toNat x.room.toNat=ae->¬ Jf rs x s
 qu:(om rs x).2=ae->∀q,0<=q->iI x.st q=[]\/fB (dt x.room x.eo ss) q+rS x.st q<=(om rs x).1
inductive Ad(O:bw->jD)(rs:List bw)(hh:Bool)(ss:List aJ)(x:aJ):List Int->Prop
 |full (h:(jx rs x).cap<x.size):Ad O rs hh ss x [14,0,0,0,0,0,0,0]
 |hrs (z:aA) (hc:x.size<=(jx rs x).cap) (hz:dM x.st z) (h:yw O rs x z=ag) (hb:z.fr<=2000000):Ad O rs hh ss x [16,0,z.day,z.fr,z.to,0,0,0]
 |cl (s:aJ) (hs:s∈ss) (hm:s.meet≠x.meet) (hsh:fQ hh s.room.toNat x.room.toNat=ae) (X Y:aA) (hX:dM x.st X) (hY:dM s.st Y) (hc:oL (ky (jx rs x).eB (jx rs x).fY X) (ky (jx rs s).eB (jx rs s).fY Y)) (bX:X.fr<=2001000) (bY:Y.fr<=2001000):Ad O rs hh ss x [15,s.meet,X.day,X.fr,X.to,Y.day,Y.fr,Y.to]
 |qu (hc:x.size<=(jx rs x).cap) (hm:(om rs x).2=ae) (q:Int) (hq:0<=q) (hq1:q<=5000) (O1 O2:List aA) (y:aA) (ho:iI x.st q=O1++y::O2) (hmo:(om rs x).1<fB (dt x.room x.eo ss) q+fX (O1++[y])):Ad O rs hh ss x [14,0,y.day,y.fr,y.to,0,0,0]
theorem En{dr:aJ->bw}{x:aJ}{mt:aJ->Bool}{fx fy:aJ->aA}{fd:aJ->Bool}:∀l:List aJ,
  (kj dr x mt fx fy fd l=lM/\∀s∈l,s.meet=x.meet\/mt s=ag)\/∃s∈l,s.meet≠x.meet/\mt s=ae/\kj dr x mt fx fy fd l=NW (dr x) (dr s) s (fx s) (fy s) (fd s)
 |[]=>.inl ⟨rfl,bv⟩
 |s::r=>by
  unfold kj;split
  .rename_i h;rcases En r with⟨b,d⟩|⟨y,g,b,d,j⟩
   .exact .inl ⟨b,λy g=>(ag8.1 g).elim (λe=>by rw[e];exact h) (d y)⟩
   .exact .inr ⟨y,agU _ g,b,d,j⟩
  .rename_i h;refine .inr ⟨s,agR,λe=>h (.inl e),?_,rfl⟩;cases m:mt s
   .exact absurd (.inr m) h
   .rfl
def Uf(d:∀s∈e,s.jR)(r t:Int):rZ (dt r t e):=λs b=>by
 unfold dt at b;obtain⟨x,g,rfl⟩:=agX.1 b;exact(d x (ahB.1 g).1).2.2.2.2.2.2.2.2
theorem A8(n:Nat):∀l:List Int,jW (FC.beq n) (ints l).flatten (ints l).flatten=ae
 |[]=>rfl
 |x::l=>by
  have:=A8 n l;have e:(ints (x::l)).flatten=fi x ::(ints l).flatten:=rfl;rw[e];simp only[jW,this,Bool.and_true];cases n<;>simp[FC.beq]
def G7(s:aG)(h:cL s):V.beq (.a (s.row.map .f)) (.a (s.row.map .f))=ae:=by
 have q:FC.beq 64 (sl s.xg (ay s.xs)) (sl s.xg (ay s.xs))=ae:=A7 s.xg s.xs;have j:FC.beq 64 (sl s.cg (aK s.cs)) (sl s.cg (aK s.cs))=ae:=by
  rcases h.1 with e|⟨f,p,l,b,e,-⟩
  .rw[e];cases s.cg<;>rfl
  .rw[e];have m:FC.beq 61 (sl .nil (ints l)) (sl .nil (ints l))=ae:=by
    cases l with
    |nil=>rfl
    |cons x l=>
     have:sl .nil (ints (x::l))=.fs (ints (x::l)).flatten (ints (x::l)).length:=by simp[sl,ints]
     rw[this];have g:=A8 60 (x::l);simp[FC.beq,g]
   have d:sl s.cg (aK [⟨.fs,[⟨.fs,[cu f p l]⟩],b⟩])=.fs [.fs [.fs [.aN,fi f,fi p,sl .nil (ints l)] 1] 1,fi b] 1:=rfl;rw[d];simp[FC.beq,jW,m]
 have e:s.row.map C.f=[.f (sl s.cg (aK s.cs)),Z s.len,.f (sl s.xg (ay s.xs))]:=rfl;rw[e];simp[V.beq,C.beq,q,j,jW];simp[FC.beq]
def Ko(b:-4611686018427387904<=q)(d:q<=4611686018427387904):rY q=q:=a8
theorem Bs(h:dh a)(g:dM a z):0<=z.fr/\z.to=z.fr+a.len:=by
 rcases(eE h).1 g with⟨f,p,l,q,d,e,j,m,rfl⟩|b
 .have:=yF h e;simp only[bU]
  grind
 .have:=h.2.2.2.2.2 z b;exact⟨this.2.2.2.1,this.1⟩
def vR(l:List (List Int)):qc (lM::l)=qc l:=ct rfl
def CD(l:List (List Int))(h:r.headD 0≠0):qc (r::l)=r:=cC h
def Sq(c:Prop)[Decidable c](a b:List Int):(V.a (if c then a.map (λn=>C.f (fi n))else b.map (λn=>C.f (fi n))))=mz (if c then a else b):=by
 unfold mz;split<;>rfl
theorem G4(U g:Tg){hh:Bool}(N:jj l hh){O:bw->jD}(hO:OpF O l)(ss:List aJ)(hl:ss.length<=5)(hs:mG ss)(hf:∀s∈ss,s.jR)(x:aJ)(hx:x.jR)(o_:py ss x=ag) :
  ∃rf:List Int,rf.length=8/\((rf=lM/\Fits O l hh ss x)\/(rf.headD 0≠0/\Ad O l hh ss x rf))/\
   bf tab jB [G (sl U (rows l)),G (sl g (aW ss)),.a (x.row.map .f)]=Eq (.t [mz rf,vi 0]):=by
 obtain⟨Q,S⟩:=fF hx;obtain⟨i6,h_⟩:=sN N ⟨Q,S⟩;have e_:=tK N h_;have A:cL x.st:=hx.2.2.2.2.2.2.2.2;have I:∀s,s=x\/s∈ss->s.jR:=λs h=>h.elim (λe=>by rw[e];exact hx) (hf s);have l_:∀s,s=x\/s∈ss->l[s.room.toNat]?=aa (jx l s):=λs h=>(sN N (fF (I s h))).1;have B:∀s:aJ,∃o:aG,s=x\/s∈ss->TD (jx l s).eB (jx l s).fY s.st o/\bf tab vM [G (sl U (rows l)),.a (s.row.map .f)]=Eq (.t [.a (o.row.map .f),vb ae]):=λs=>by
  by_cases h:s=x\/s∈ss
  .have i_:=I s h;have r7:=fF i_;have hk:s.room.toNat<l.length:=by have:=fR N;omega
   obtain⟨o,M,W⟩:=E7 U N s i_ hk
   grind
  .exact⟨x.st,λh'=>absurd h' h⟩
 obtain⟨oc,B⟩:=Classical.skolem.1 B;have v:∀s,s=x\/s∈ss->dh (oc s):=λs h=>by
  have hb:=tK N (sN N (fF (I s h))).2;exact(B s h).1.ok (I s h).2.2.2.2.2.2.2.2 ⟨hb.b0,hb.b1⟩ ⟨hb.a0,hb.a1⟩
 have L:x=x\/x∈ss:=.inl rfl;obtain⟨mt,j8⟩:=Classical.skolem.1 (show ∀s:aJ,∃r:Bool,s∈ss->(r=ae↔Jf l x s)/\bf tab jw [.a ((oc x).row.map .f),.a ((oc s).row.map .f)]=Eq (.t [vb r,vi 0]) from λs=>by
  by_cases h:s∈ss
  .obtain⟨r,M,h'⟩:=QY (oc x) (oc s) (xS (v x L)) (xS (v s (.inr h)));refine⟨r,λ_=>⟨?_,h'⟩⟩;rw[M,RO (v x L) (v s (.inr h)),BG (B x L).1 (B s (.inr h)).1]
  .grind)
 obtain⟨F,hF⟩:=Classical.skolem.1 (show ∀s:aJ,∃q:FS,s∈ss->na (-2251799813685248) (λX Y=>dM (oc x) X/\dM (oc s) Y) q/\bf tab fD [.a ((oc x).row.map .f),.a ((oc s).row.map .f),vi (-2251799813685248)]=Eq (.t [.a (q.X.row.map .f),.a (q.Y.row.map .f),vb q.found]) from λs=>by
  by_cases h:s∈ss
  .obtain⟨w,M,h'⟩:=MH (oc x) (oc s) (xS (v x L)) (xS (v s (.inr h))) (-2251799813685248) ap ap
   grind
  .exact⟨⟨0,ag,⟨0,0,0⟩,⟨0,0,0⟩⟩,λh'=>absurd h' h⟩)
 obtain⟨T,hT⟩:=aH (dt x.room x.eo ss);have u:rZ T:=by rw[hT];exact Uf hf _ _
 have q_:T.length<=5:=by
  rw[hT];unfold dt
  grind
 obtain⟨Fr,P,F0,F1,P7,P1,P2,j_,j5⟩:=Hp .fs (T++[x.st]) ge (λs h=>by
  rcases agP.1 h with h|h
  .exact(u s h).two
  .rw[If.1 h];exact A.two)
 have j9:∀n,-1<=n->n<=5000->(iI x.st n).length<=10/\∃g,bf tab nD [.a (x.st.row.map .f),vi n]=Eq (G (sl g (ay (iI x.st n)))):=λn M W=>ri x.st A n M W;have i7:∀n,-1<=n->n<=5000->bf tab Cu [G (dP (sl U (rows l)) (sl g (aW ss)) x),vi n]=Eq (vi (fB T n)):=λn M W=>by
  have:=Kl (sl U (rows l)) g ss ap x n (λs=>rS s n) (by
   rw[<-hT];intro s j;obtain⟨r6,gb,a_⟩:=ri s (u s j) n M W;refine⟨_,a_,?_⟩;exact zf gb (iI s n) ap λy hy=>by
    obtain⟨q0,q1,q2,q3⟩:=pc (u s j) hy;have:=(u s j).2.1;have:=(u s j).2.2.1;omega)
  rw[<-hT,wA n T 0 u ap ap,Int.zero_add]at this;omega
 have g_:∀K:an,∃K',Ev tab (.fn Cs) [G (dP (sl U (rows l)) (sl g (aW ss)) x)] K (.t [mz (if(jx l x).cap<x.size then [14,0,0,0,0,0,0,0]else lM),vi 0]) K'/\Kp K K':=λK=>by
  obtain⟨H',hk,he⟩:=Eh U N (sl g (aW ss)) x Q S i6 K;rw[<-Sq];exact⟨H',he,hk⟩
 have f_:∃hr:List Int,hr.length=8/\((hr=lM/\∀z,dM x.st z->yw O l x z=ae)\/∃z,dM x.st z/\yw O l x z=ag/\z.fr<=2000000/\hr=[16,0,z.day,z.fr,z.to,0,0,0])/\∀K:an,∃K',Ev tab (.fn Ct) [G (dP (sl U (rows l)) (sl g (aW ss)) x)] K (.t [mz hr,vi 0]) K'/\Kp K K':=by
  have ho:=hO _ h_;obtain⟨b,y,M,W,m9⟩:=Rl U N (sl g (aW ss)) x Q S i6 ho.1 ho.2 A.two;refine⟨if b then lM else [16,0,y.day,y.fr,y.to,0,0,0],by split<;>rfl,?_,λK=>?_⟩
  .cases b
   .exact .inr ⟨y,(W rfl).1,(W rfl).2.1,(W rfl).2.2,rfl⟩
   .exact .inl ⟨rfl,M.1 rfl⟩
  .obtain⟨K',hk,he⟩:=m9 K;refine⟨K',?_,hk⟩;rw[<-Sq];exact he
 obtain⟨d_,r9,n8,m_⟩:=f_;obtain⟨b_,c_⟩:=aH (kj (jx l) x mt (λs=>(F s).X) (λs=>(F s).Y) (λs=>(F s).found) (ss.filter λs=>fQ hh s.room.toNat x.room.toNat));obtain⟨qL,H⟩:=aH (Fz (if(om l x).2 then qM (om l x).1 (Fr+15+P) (iI x.st) (fB T) 5000 (-1)else ab));obtain⟨c9,d9⟩:=aH (if(jx l x).cap<x.size then [14,0,0,0,0,0,0,0]else lM:List Int);rw[<-d9]at g_;have i9:(c9=lM/\x.size<=(jx l x).cap)\/(c9.headD 0≠0/\Ad O l hh ss x c9):=by
  rw[d9];by_cases h:(jx l x).cap<x.size
  .rw[ct h];exact .inr ⟨ce,.full h⟩
  .grind
 have j6:x.size<=(jx l x).cap->(d_=lM/\∀z,dM x.st z->yw O l x z=ae)\/(d_.headD 0≠0/\Ad O l hh ss x d_):=λhc=>by
  rcases n8 with h|⟨z,M,W,hb,h3⟩
  .grind
  .rw[h3];exact .inr ⟨bv,.hrs z hc M W hb⟩
 have i8:(b_=lM/\∀s∈ss,s.meet≠x.meet->fQ hh s.room.toNat x.room.toNat=ae->¬ Jf l x s)\/(b_.headD 0≠0/\Ad O l hh ss x b_):=by
  rw[c_];rcases En (dr:=jx l) (x:=x) (mt:=mt) (fx:=λs=>(F s).X) (fy:=λs=>(F s).Y) (fd:=λs=>(F s).found) (ss.filter λs=>fQ hh s.room.toNat x.room.toNat)with⟨M,W⟩|⟨s,j,M,W,h3⟩
  .grind
  .obtain⟨j,p_⟩:=ahB.1 j;have hM:=(j8 s j).1.1 W;have k_:=(BG (B x L).1 (B s (.inr j)).1).2 hM;obtain⟨f1,f2,f3,f4,f5,f6⟩:=EE (v x L) (v s (.inr j)) (hF s j).1 k_;obtain⟨X,hX,eX⟩:=(mw _).1 ((ot (B x L).1 _).1 f2);obtain⟨Y,hY,eY⟩:=(mw _).1 ((ot (B s (.inr j)).1 _).1 f3);have bX:=Bs A.two hX;have bY:=Bs (hf s j).2.2.2.2.2.2.2.2.two hY;have lx:=A.2.1;have ls:=(hf s j).2.2.2.2.2.2.2.2.2.1;have s7:=A.2.2.1;have ls':=(hf s j).2.2.2.2.2.2.2.2.2.2.1;have a_:=tK N (sN N (fF (hf s j))).2;have u1:=e_.b0;have u2:=e_.b1;have u3:=e_.a0;have u4:=e_.a1;have u5:=a_.b0;have u6:=a_.b1;have u7:=a_.a0;have u8:=a_.a1;rw[eX]at f5 f4;rw[eY]at f6 f4;refine .inr ?_;rw[h3,NW,f1,ct rfl];simp only[eX,eY];simp only[ky]at f5 f6 ⊢;rw[Ko ap ap,Ko ap ap,Ko ap ap,Ko ap ap];have e1:X.fr-(jx l x).eB+(jx l x).eB=X.fr:=ii
   have e2:X.to+(jx l x).fY-(jx l x).fY=X.to:=ii
   have e3:Y.fr-(jx l s).eB+(jx l s).eB=Y.fr:=ii
   have e4:Y.to+(jx l s).fY-(jx l s).fY=Y.to:=ii
   rw[e1,e2,e3,e4];exact⟨bv,.cl s j M p_ X Y hX hY f4 ap ap⟩
 have p9:x.size<=(jx l x).cap->(qL=lM/\((om l x).2=ae->∀q,0<=q->iI x.st q=[]\/fB T q+rS x.st q<=(om l x).1))\/(qL.headD 0≠0/\Ad O l hh ss x qL):=λhc=>by
  have j7:=Nq A u ap F0 F1 P1 P2 P7 j_ (om l x).1;by_cases hm:(om l x).2=ae
  .rw[hm,ct rfl]at H;cases hq:qM (om l x).1 (Fr+15+P) (iI x.st) (fB T) 5000 (-1)with
   |none=>rw[hq]at H;exact .inl ⟨H,λ_=>j7.1 hq⟩
   |some y=>
    rw[hq]at H;obtain⟨q,q1,q2,q3⟩:=FD _ _ hq;have n9:=xL q u;have r_:=zw x.st A q;obtain⟨a,b,ho,n_⟩:=BN n9.1 ap (Di A q) q3;have q0:=(pc A (q:=q) (x:=y) (by rw[ho];simp)).1;rw[H];exact .inr ⟨by simp[Fz],.qu hc hm q q0 ap a b y ho (by rw[<-hT];exact n_)⟩
  .rw[cC hm]at H;exact .inl ⟨H,λh=>absurd h hm⟩
 obtain⟨rl,J⟩:∃rl:List (List Int),rl=[c9,d_,b_,qL]:=⟨_,rfl⟩
 have h8:∀r∈rl,r.length=8:=by
  intro r hr;rw[J]at hr;simp only[ag8,aid,or_false]at hr;rcases hr with rfl|rfl|rfl|rfl
  .rw[d9];split<;>rfl
  .omega
  .rw[c_];exact sM ..
  .rw[H];exact FA _
 have hz:lM.headD 0=0:=rfl;refine⟨qc rl,yq h8,?_,?_⟩
 .have key:∀d:List Int,d.headD 0=0->¬ (d.headD 0≠0/\Ad O l hh ss x d):=λd h h'=>h'.1 h;rcases i9 with⟨c1,c2⟩|⟨c1,c2⟩
  .rcases j6 c2 with⟨d1,d2⟩|⟨d1,d2⟩
   .rcases i8 with⟨e1,e2⟩|⟨e1,e2⟩
    .rcases p9 c2 with⟨g1,g2⟩|⟨g1,g2⟩
     .refine .inl ⟨?_,c2,d2,e2,by rw[<-hT];exact g2⟩;rw[J,c1,d1,e1,g1];rfl
     .refine .inr ?_;have:qc rl=qL:=by rw[J,c1,d1,e1,vR,vR,vR,CD _ g1]
      grind
    .refine .inr ?_;have:qc rl=b_:=by rw[J,c1,d1,vR,vR,CD _ e1]
     grind
   .refine .inr ?_;have:qc rl=d_:=by rw[J,c1,vR,CD _ d1]
    grind
  .refine .inr ?_;have:qc rl=c9:=by rw[J,CD _ c1]
   grind
 .refine Ql U g N ss hl hs hf x hx o_ rl (by rw[J];rfl) h8 λi hi K=>?_;subst J
  match i,hi with
  |0,_=>exact g_ K| 1,_=>exact m_ K
  |2,_=>
   have:=QB U g N ss ap x (jx l) l_ (λs h=>fF (I s h)) oc (λs h=>(B s h).2) mt (λs h=>(j8 s h).2) (λs=>(F s).X) (λs=>(F s).Y) (λs=>(F s).found) (λs h=>(hF s h).2) K;rw[<-c_]at this;exact this
  |3,_=>
   have:=Si U g N ss ap x Q S i6 (by rcases e_.q with e|⟨t,m,e,-⟩<;>rw[e]<;>simp) (G7 x.st A) (Fr+15+P) ap ap 5000 rfl (by rw[<-hT];exact j5) (iI x.st) (fB T) j9 i7 K;change ∃H',Ev tab (.fn pU) [G (dP (sl U (rows l)) (sl g (aW ss)) x)] K (.t [mz (Fz (if(om l x).2 then qM (om l x).1 (Fr+15+P) (iI x.st) (fB T) 5000 (-1)else ab)),vi 0]) H'/\Kp K H' at this;rw[<-H]at this;exact this
theorem rK{sz:Nat}{rows:List (List FC)}(k:Nat)(b:cZ sz rows)(d:k<=rows.length):rows.flatten.take (k*sz)=(rows.take k).flatten:=by
 have e:rows.flatten=(rows.take k).flatten++(rows.drop k).flatten:=by rw[<-List.flatten_append,List.take_append_drop]
 have j:(rows.take k).flatten.length=k*sz:=by rw[cz (λr g=>b r (ah1 g)),ahl,Nat.min_eq_left d]
 grind
def U2:bf tab PO []=Eq (vb ae):=bf.eq (by
 refine bD rfl rfl λQ S=>?_;have K:bf tab Gr []=Eq (.a [.f (.fs [.fs [.aN,fi 0,fi 1,.fs [fi 0] 1] 1] 1)]):=(aZ (m:=100) (d:=20) io).eq;have F:bf tab Gs []=Eq (.a [Z 0,.f (.fs [fi 7] 1),Z (-1),.f .aN,Z 0,.f .aN,Z 0,.f .aN]):=(aZ (m:=100) (d:=20) io).eq;have b:=(aeZ).eq;have g:=(ae0).eq;have j:=(ae1).eq;have l:=(ae2).eq;have q:=(ae3).eq;have s:=(ae4).eq;have u:=(ae6).eq;have v:=(ae7).eq;have A:=(afP).eq;have x:=(ae').eq;have y:=(ae_).eq;have B:=(afQ).eq;have z:=(afK).eq;have H:=aaa.1.eq;have L:=on1.1.eq;have M:=on1.2.1.eq;have N:=on1.2.2.1.eq;have O:=on1.2.2.2.eq;have I:=aaa.2.1.eq;have J:=aaa.2.2.eq;simp only[Ix,NY,Tb,roS,hoS,IT,agN,ahO,ahL]at b g j l q s u v A x y B z H I J
 repeat' first
  |(refine av (S _ _ ?_))
  |(apply aE)
  |(apply ax)
  |(refine eL ?_)
  |(apply fe)
  |(apply au)
  |(apply aQ)
  |(refine bQ rfl ?_)
  |(refine aq ?_ ?_;focus (simp;done))
  |(refine aC ?_ ?_;focus (simp;done))
  |(refine VP acz rfl ?_)
  |(refine VP acy rfl ?_)
  |(refine av ⟨rfl,_,rfl,?_⟩)
  |(apply ba;simp[K,F,b,g,j,l,q,s,u,v,A,x,y,B,z,H,I,J,L,M,N,O,bZ,dI,dy,cF,bO,fE,bA,over,aX,V.cells?,deep,jd,dq,bC,gR,jY,IntKind.wrap,IntKind.bits,IntKind.signed])
  |(simp[K,F,b,g,j,l,q,s,u,v,A,x,y,B,z,H,I,J,L,M,N,O,bZ,dI,dy,cF,bO,fE,bA,over,aX,V.cells?,deep,jd,dq,bC,gR,jY,IntKind.wrap,IntKind.bits,IntKind.signed])
 done)
def afL:bf tab PO [] (vb ae):=by rw[U2]
def jE(h:∃m,f=[FC.int .u8 m]/\Lit.wf (.int .u8 m)):∃m,f=[FC.int .u8 m]/\B8 m:=by
 obtain⟨m,rfl,b⟩:=h;refine⟨m,rfl,?_⟩;simp[Lit.wf,IntKind.min,IntKind.max,IntKind.signed,IntKind.bits]at b;exact⟨ap,ap⟩
def Is{ys:List FC}{n:Nat}(K:tO Tryz.prog (n+3) 27 ys):∃x:oP,ys=x.row/\x.OK:=by
 obtain⟨_,o,rfl,b,L⟩:=iY (IE (ts:=[5,5,5,5,5,5,5,5,5,25]) Tryz.underlying27 rfl K);obtain⟨a,rfl,b1⟩:=jE (jM Tryz.underlying5 b);obtain⟨_,r,rfl,b,M⟩:=iY L;obtain⟨e,rfl,s⟩:=jE (jM Tryz.underlying5 b);obtain⟨_,t,rfl,b,N⟩:=iY M;obtain⟨v3,rfl,u⟩:=jE (jM Tryz.underlying5 b);obtain⟨_,w,rfl,b,O⟩:=iY N;obtain⟨v4,rfl,v⟩:=jE (jM Tryz.underlying5 b);obtain⟨_,q5,rfl,b,Q⟩:=iY O;obtain⟨v5,rfl,y⟩:=jE (jM Tryz.underlying5 b);obtain⟨_,q6,rfl,b,S⟩:=iY Q;obtain⟨f,rfl,z⟩:=jE (jM Tryz.underlying5 b);obtain⟨_,q7,rfl,b,U⟩:=iY S;obtain⟨h,rfl,A⟩:=jE (jM Tryz.underlying5 b);obtain⟨_,q8,rfl,b,W⟩:=iY U;obtain⟨i,rfl,B⟩:=jE (jM Tryz.underlying5 b);obtain⟨_,q9,rfl,b,X⟩:=iY W;obtain⟨v9,rfl,F⟩:=jE (jM Tryz.underlying5 b);obtain⟨k,q,rfl,J,m⟩:=iY X;obtain rfl:q=[]:=m;obtain⟨H,Y,rfl,_,d,j⟩:=B3 Tryz.underlying25 J;obtain⟨I,rfl,l⟩:=vf (enc:=λn:Int=>[FC.int .u8 n]) (p:=λn=>B8 n) λc g=>jE (jM Tryz.underlying5 (j c g));refine⟨⟨a,e,v3,v4,v5,f,h,i,v9,H,I⟩,rfl,b1,s,u,v,y,z,A,B,F,?_,l⟩;simp at d;exact ahd d ce
theorem wP{b:Type}(g:b->FC):∀l:List b,(l.map λn=>[g n]).flatten=l.map g
 |[]=>rfl| x::l=>by simp only[IT,List.flatten_cons,wP g l];rfl
def Nx{a0:V}(v:vD Tryz.prog 23 a0):∃B:List (List Int),a0=.a ((jm B).flatten.map .f)/\B.length=3/\∀r∈B,r.length=5/\∀n∈r,0<=n/\n<=255:=by
 have q:∃xs,a0=.a (xs.map .f)/\tO Tryz.prog 40 23 xs:=by
  rcases v with⟨xs,rfl,b,_⟩|⟨x,rfl,b⟩
  .exact⟨xs,rfl,b⟩
  .exfalso;obtain⟨rows,e,g,u,_⟩:=Dw (n:=39) Tryz.underlying23 b;have:=congrArg List.length e;rw[cz u,g,show Tryz.prog.cellsOf 22=5 by kernel_rfl]at this;simp at this
 obtain⟨xs,rfl,b⟩:=q;obtain⟨H,rfl,g,u,F⟩:=Dw (n:=39) Tryz.underlying23 b;obtain⟨B,rfl,y⟩:=vf (enc:=λr:List Int=>r.map λn=>FC.int .u8 n) (p:=λr=>r.length=5/\∀n∈r,0<=n/\n<=255) λr s=>by
  obtain⟨cs,rfl,j,A,z⟩:=Dw (n:=38) Tryz.underlying22 (F r s);obtain⟨l,rfl,m⟩:=vf (enc:=λn:Int=>[FC.int .u8 n]) (p:=λn=>0<=n/\n<=255) λc d=>jE (jM (n:=37) Tryz.underlying5 (z c d));refine⟨l,wP _ l,by simpa using j,m⟩
 exact⟨B,rfl,by simpa using g,y⟩
def Sk{a1:V}(b:vD Tryz.prog 24 a1):∃g l,a1=G (sl g (gP l))/\l.length<=9223372036854775807/\∀x∈l,x.OK:=by
 rcases b with⟨xs,_,_,d,q,j⟩|⟨z,rfl,b⟩
 .rw[Tryz.underlying24]at q;cases q;rcases j with⟨_,e⟩|⟨_,_,e⟩<;>cases e
 .obtain⟨g,y,e,_,s,u⟩:=B3 (n:=39) Tryz.underlying24 b;cases e;obtain⟨l,rfl,v⟩:=vf (enc:=oP.row) (p:=λx=>x.OK) λr m=>Is (n:=36) (u r m);refine⟨g,l,rfl,?_,v⟩;simp at s;exact ahd s ce
def UZ{a:V}(h:vD Tryz.prog 27 a):∃x:oP,a=.a (x.row.map .f)/\x.OK:=by
 rcases h with⟨xs,rfl,b,_⟩|⟨x,rfl,b⟩
 .obtain⟨x,rfl,d⟩:=Is (n:=37) b;exact⟨x,rfl,d⟩
 .exfalso;obtain⟨x,e,_⟩:=Is (n:=37) b;simp[oP.row]at e
def xz(x y:aA):Bool:=decide (x.day=y.day/\x.fr=y.fr/\x.to=y.to)
def qo(x:aA):xz x x=ae:=by simp[xz]
def Hs(g:Tg)(l:List aA)(U:l.length<=1000)(x:aA):Kf tab X9 [G (sl g (ay l)),.a (x.row.map .f)] (vi (mQ l (xz x))):=by
 refine dd rfl rfl λH Q F=>?_;have d:∀J:an,bA J (.f (sl g (ay l)))=aa l.length:=λJ=>by simp
 obtain⟨L,B⟩:=aH (sl g (ay l));rw[<-B]at d ⊢;apply ai;simp[aA.row];obtain⟨A,b⟩:=aH (H++[bV.box [Z x.day,Z x.fr,Z x.to] 0]);have S:∀K,aV (A++K) (aa 3) (.c (.ptr H.length 0 0))=aa (.a [Z x.day,Z x.fr,Z x.to]):=λK=>by
  rw[b];simp[aV,az,aX]
 rw[<-b];apply aU;simp[d];refine bW l.length (λj t J=>J=A/\t.g 0=G L/\t.g 3=.c (.ptr H.length 0 0)/\∀(i:Nat) (hi:i<l.length),i<j->xz x l[i]=ag) ap ce ce bv bv ⟨rfl,bv,bv,λi hi h=>by omega⟩ ?_ ?_
 .rintro j t J z ⟨rfl,v,y,u⟩ I N next
  have m:=λK:an=>cf (H:=K) (bI l) (dn z);have q:=λK:an=>bu (H:=K) (g:=g) (rows:=ay l) (sz:=3) (k:=.i64) (i:=(j:Int)) ap (by simpa using z);rw[<-B]at q;simp only[aA.row,IT,agN]at m;have s:=S [];rw[List.append_nil]at s;apply ax;apply ai;simp[I];apply ai;simp at q;simp[v,y,s,q,m,-aw];by_cases e:x.day=l[j].day/\x.fr=l[j].fr/\x.to=l[j].to
  .refine aq (by simp[e]) ?_;apply ai;simp;refine av (F _ _ ?_);have:=Bg (p:=xz x) z (by simp[xz,e]) (λi hi=>u i ap hi);simp[this,b]
  .refine aC ge ?_;refine aQ (au (next _ _ ⟨rfl,by simp[v],by simp[y],λi hi O=>?_⟩ (by simp[I]) (by simp[N])));by_cases M:i=j
   .subst M;simp[xz];omega
   .exact u i hi ap
 .rintro t J ⟨rfl,v,y,u⟩ - -;apply ai;simp;refine av (F _ _ ?_);have:=Bi (l:=l) (p:=xz x) (λi hi=>u i hi hi);simp[this,b]
def Ai(g:Tg)(l:List aA)(j:l.length<=1000)(x:aA):bf tab XW [G (sl g (ay l)),.a (x.row.map .f)]=Eq (vb (l.any (xz x))):=Kf.eq (by
 refine dd rfl rfl λH Q b=>?_;have hi:=(Hs g l j x).eq;have d:=Bh l (xz x);simp only[aA.row,IT,agN]at hi ⊢;apply ai;simp;apply ai;simp[hi];refine av (b _ _ ?_);simp[d])
def CZ(len:Int)(c:cM)(x:aA):Bool:=decide (0<=x.day/\x.day<=2199023255552)&&(decide (x.day*1440+c.min=x.fr)&&decide (x.day*1440+c.min+len=x.to))&&qG c.ts x.day
def vY(s:aG)(x:aA):Bool:=s.xs.any (xz x)||s.cs.any λc=>CZ s.len c x
def Uo(s:aG)(U:0<=s.len/\s.len<=10000){c:cM}(S:iH c.ts=ae)(W:-10000<=c.min/\c.min<=10000)(x:aA):Kf tab Pw [.a (c.row.map .f),G (.fp x.row 0),G (.fp s.row 0)] (vb (CZ s.len c x)):=by
 refine dd rfl rfl λH Q v=>?_;have j:=(Cg x.day 0 2199023255552).eq;have m:∀K:an,aV K ab (G (.fp x.row 0))=aa (vi x.day):=λK=>rfl;have z:∀K:an,aV K (aa 3) (G (.fp x.row 0))=aa (.a [Z x.day,Z x.fr,Z x.to]):=λK=>rfl;have y:∀K:an,aV K (aa 3) (G (.fp s.row 0))=aa (.a [.f (sl s.cg (aK s.cs)),Z s.len,.f (sl s.xg (ay s.xs))]):=λK=>rfl;simp only[cM.row,IT,agN];generalize x.row=Y at m z ⊢;generalize s.row=X at y ⊢;apply ai;simp;apply ai;by_cases g:0<=x.day/\x.day<=2199023255552
 case neg=>
  have:bR x.day 0 2199023255552=ag:=by
   unfold bR;simp;omega
  rw[this]at j;simp[m,j];refine av (v _ _ ?_);simp[CZ,g]
 have F:bR x.day 0 2199023255552=ae:=by simp[bR,g.1,g.2]
 rw[F]at j;have b:=FG (sl s.cg (aK s.cs)) (sl s.xg (ay s.xs)) (sl c.mg (aI c.ts)) s.len c.min x.day kw kw kw;simp[bU,aA.row]at b;have l:=xM c.mg c.ts S x.day nl;obtain⟨N,O⟩:=aH (sl c.mg (aI c.ts));rw[<-O]at b l ⊢;obtain⟨A,d⟩:=aH (H++[.box [.f N,Z c.min] 0]:an);have I:A[H.length]?=E [.f N,Z c.min]:=by rw[d];simp
 have B:aV A (aa 2) (.c (.ptr H.length 0 0))=aa (.a [.f N,Z c.min]):=by simp[aV,az,I,aX]
 have J:aV A (aa 1) (.c (.ptr H.length 0 0))=aa (.a [.f N]):=by simp[aV,az,I,aX]
 rw[<-d];by_cases q:x.day*1440+c.min=x.fr
 .by_cases u:x.day*1440+c.min+s.len=x.to
  .rw[u,q]at b;simp[m,z,y,j,J,B,b,l,-aw];refine av (v _ _ ?_);simp[CZ,g,q,<-u,d]
  .have M:(x.day*1440+c.min+s.len == x.to)=ag:=by simpa using u
   simp[m,z,y,j,B,b,M,-aw];refine av (v _ _ ?_);simp[CZ,g,u,d]
 .have L:(x.day*1440+c.min == x.fr)=ag:=by simpa using q
  simp[m,z,y,j,B,b,L,-aw];refine av (v _ _ ?_);simp[CZ,g,q,d]
def CJ{cs:List cM}(h:Vm cs):∀c∈cs,iH c.ts=ae/\-10000<=c.min/\c.min<=10000:=by
 rintro c d;rcases h with rfl|⟨f,p,l,g,rfl,j,m,q,s,ln,lo,u,m1⟩
 .simp at d
 .rw[If]at d;subst d;have b:=yO j m q s ln lo;exact⟨by simp[iH,iZ,qt b],by show -10000<=g;omega,by show g<=10000;omega⟩
def yU(L:cL a)(x:aA):bf tab Pv [.a (a.row.map .f),.a (x.row.map .f)]=Eq (vb (vY a x)):=bf.eq (by
 obtain⟨g,q,u,N,O,M⟩:=L;refine bD rfl rfl λQ F=>?_;have b:=Ai a.xg a.xs ap x;have J:a.cs.length<=1:=by rcases g with e|⟨f,p,l,S,e,_⟩<;>rw[e]<;>simp
 have d:=(eR YD (iF YN (sz:=2) (ld:=aa 2) a.cs cM.row (λc=>.a (c.row.map .f)) (λc=>CZ a.len c x) a.cg Pw [.fp x.row 0,.fp a.row 0] ap
  (λj K H=>cf (dN a.cs) (fJ K)) (λc I=>Uo a ap (CJ g c I).1 (CJ g c I).2 x))).eq
 change bf tab PA [G (sl a.cg (aK a.cs)),_]=_ at d;obtain⟨A,y⟩:=aH (sl a.cg (aK a.cs));obtain⟨B,z⟩:=aH (sl a.xg (ay a.xs));have v:a.row=[A,fi a.len,B]:=by rw[y,z];rfl
 rw[<-y]at d;rw[<-z]at b;rw[v]at d ⊢;simp only[aA.row]at d b ⊢;simp only[IT,agN]at b;apply ai;simp;apply ai;cases m:a.xs.any (xz x)with
 |true=>
  rw[m]at b;simp[b,deep];refine av (F _ _ ?_);simp[vY,m]
 |false=>
  rw[m]at b;simp[b,deep,BI,wh,d];refine av (F _ _ ?_);simp[vY,m])
theorem og(v:cL a)(h:dM a z)(m:z.day<=2199023255552):vY a z=ae:=by
 unfold vY;rw[Bool.or_eq_true];rcases h with⟨c,j,d,q,rfl⟩|h
 .refine .inr (aie.2 ⟨c,j,?_⟩);have y:=CJ v.1 c j;obtain⟨t,x,l,u⟩:=q;have g:qG c.ts d=ae:=by
   unfold qG
   grind
  have b:d<=2199023255552:=m;simp[CZ,bU,g,l,b]
 .exact .inl (aie.2 ⟨z,h,qo z⟩)
def MU(l:cL a):vY a ⟨0,0,0⟩=ag:=by
 obtain⟨j,b,d,m,q,g⟩:=l;unfold vY;rw[Bool.or_eq_false_iff];constructor
 .rw[List.any_eq_false];intro y u;obtain⟨v,-⟩:=g y u;simp[xz];omega
 .rw[List.any_eq_false];intro c x;simp[CZ];omega
def A4(j:o.OK)(b d:Int)(m:0<=b)(u:b<=1000000000)(t0:b<d)(s:d<=b+100000):bf tab ach [.a (o.row.map .f),.a [Z b,Z d]]=Eq (.t [vb (ey o.lo o.hi o.cl b d),vi 0]):=by
 have l:=Dh o.lo o.hi j.h0 j.h1 j.h2 o.cl j.hc;have g:=yx (lo:=o.lo) (hi:=o.hi) o.cl b d m ap t0 s;refine bf.eq (bD rfl rfl λQ q=>?_);simp only[jD.row,mT,IT,agN]at l g ⊢;generalize pO o.lo o.hi=v at *;generalize vU o.cl=cc at *
 repeat' first
  |(refine av (q _ _ ?_))
  |(apply aE)
  |(apply ax)
  |(apply aQ)
  |(refine aq ?_ ?_;focus (simp;done))
  |(refine aC ?_ ?_;focus (simp;done))
  |(apply ba;simp[l,g,mP,show¬ b < -2251799813685248 by omega,show¬ d<=b by omega,show¬ 2251799813685248<d by omega])
 simp
def Zl(d:bw):mP 0 ab (.a (d.row.map .f))=aa (vi d.cap):=rfl
def afg(h:d.op=o.row.map .f):mP 3 (aa 10) (.a (d.row.map .f))=aa (.a (o.row.map .f)):=by
 have:d.row.map C.f=Z d.cap::Z d.eB::Z d.fY ::(d.op++[.f (sl d.qg (fm d.q)),.f (sl d.pg (ints d.p))]):=rfl;rw[this,h];rfl
def ND(g:Tg)(A:jj l J)(m:FC)(x:aJ)(q:0<=x.room)(s:x.room<=2)(v:l[x.room.toNat]?=aa d)(z:d.cap<x.size) :
  bf tab ji [G (dP (sl g (rows l)) m x),mz [14,0,0,0,0,0,0,0]]=Eq (vb ae):=bf.eq (by
 refine bD rfl rfl λQ u=>?_;have b:=mJ g A m x q s v;have j:=Zl d;generalize d.row.map C.f=dr at b j;simp only[dP,aJ.row,ahO,ahL,mz,IT,agN]at b ⊢
 repeat' first
  |(refine av (u _ _ ?_))
  |(apply aE)
  |(apply ax)
  |(apply aQ)
  |(refine bQ rfl ?_)
  |(refine aq ?_ ?_;focus (simp;done))
  |(refine aC ?_ ?_;focus (simp;done))
  |(apply ba;simp[b,j,z,gm])
 simp)
def ID(j l:FC)(x:aJ)(d:cL x.st) :
  bf tab ji [G (dP j l x),mz [0,0,0,0,0,0,0,0]]=Eq (vb ag):=bf.eq (by
 refine bD rfl rfl λQ g=>?_;have b:=yU d ⟨0,0,0⟩;rw[MU d]at b;simp only[dP,aJ.row,ahO,ahL,mz,IT,agN,aG.row,aA.row]at b ⊢;generalize sl x.st.cg (aK x.st.cs)=A at *;generalize sl x.st.xg (ay x.st.xs)=B at *
 repeat' first
  |(refine av (g _ _ ?_))
  |(apply aE)
  |(apply ax)
  |(apply aQ)
  |(refine bQ rfl ?_)
  |(refine aq ?_ ?_;focus (simp;done))
  |(refine aC ?_ ?_;focus (simp;done))
  |(apply ba;simp[b,gm,qA,aX])
 trace_state
 simp)
def NF(g:Tg)(L:jj l J)(v:FC)(x:aJ)(y:0<=x.room)(F:x.room<=2)(I:l[x.room.toNat]?=aa d)(K:o.OK)(s:d.op=o.row.map .f)(M:cL x.st)(N:vY x.st z=ae)
  (z0:0<=z.fr) (O:z.fr<=1000000000) (S:z.fr<z.to) (z3:z.to<=z.fr+100000) (m:ey o.lo o.hi o.cl z.fr z.to=ag) :
  bf tab ji [G (dP (sl g (rows l)) v x),mz [16,0,z.day,z.fr,z.to,0,0,0]]=Eq (vb ae):=bf.eq (by
 refine bD rfl rfl λQ H=>?_;have b:=mJ g L v x y F I;have q:=afg s;have u:=yU M z;rw[N]at u;have j:=A4 K z.fr z.to z0 O S z3;rw[m]at j;generalize d.row.map C.f=dr at b q;simp only[dP,aJ.row,ahO,ahL,mz,IT,agN,aG.row,aA.row,jD.row,mT]at b u j q ⊢;generalize sl x.st.cg (aK x.st.cs)=A at *;generalize sl x.st.xg (ay x.st.xs)=B at *;generalize pO o.lo o.hi=U at *;generalize vU o.cl=cc at *
 repeat' first
  |(refine av (H _ _ ?_))
  |(apply aE)
  |(apply ax)
  |(apply aQ)
  |(refine bQ rfl ?_)
  |(refine aq ?_ ?_;focus (simp;done))
  |(refine aC ?_ ?_;focus (simp;done))
  |(apply ba;simp[u,b,q,j,gm,qA,aX,deep])
 trace_state
 simp)
def VI(b:∀s∈e,s.jR)(k t:Int):rZ (dt k t e):=λs d=>by
 obtain⟨z,g,rfl⟩:=agX.1 d;exact(b z (ahB.1 g).1).2.2.2.2.2.2.2.2
theorem SY(d:FC)(g:Tg)(ss:List aJ)(H:ss.length<=1000)(F:∀s∈ss,s.jR)(x:aJ)(n:Int)(q:-1<=n)(u:n<=5000) :
  bf tab Cu [G (dP d (sl g (aW ss)) x),vi n]=Eq (vi (fB (dt x.room x.eo ss) n)):=by
 obtain⟨T,j⟩:=aH (dt x.room x.eo ss);have b:rZ T:=by rw[j];exact VI F _ _
 have z:T.length<=1000:=by
  rw[j];unfold dt
  grind
 have m:∀s∈T,∃v,bf tab nD [.a (s.row.map .f),vi n]=Eq (G v)/\bf tab Gy [G v]=Eq (vi (rS s n)):=λs h=>by
  have l:=b s h;obtain⟨B,g,A⟩:=ri s l n q u;refine⟨_,A,?_⟩;exact zf g (iI s n) ap λy I=>by
   obtain⟨J,K,L,M⟩:=pc l I;obtain⟨-,N,O,-⟩:=l;omega
 have:=Kl d g ss H x n (λs=>rS s n) (by rw[<-j];exact m);rw[<-j,wA n T 0 b ap ap,Int.zero_add]at this
 grind
theorem Fj(j:cL a)(A:0<=q)(B:q<=5000){y:aA}(F:y∈iI a q):dM a y/\0<=y.day/\y.day<=100000:=by
 rcases(ov j).1 F with⟨f,p,l,v,d,e,rfl,b,m,z⟩|⟨b,m⟩
 .obtain⟨u,m1⟩:60<=v/\v<=1245:=by
   rcases j.1 with x|⟨I,K,J,H,x,-,-,-,-,-,-,u,m1⟩
   .grind
   .grind
  rw[fst_eq u m1]at b m;have g:0<=d:=ii
  refine⟨.inl ⟨_,by rw[e];exact If.2 rfl,d,⟨⟨.fs,[cu f p l]⟩,If.2 rfl,g,by simp[wS,hasB,g,z]⟩,rfl⟩,g,?_⟩;show d<=100000;omega
 .have:=j.2.2.2.2.2 y b;exact⟨.inr b,this.2.1,by have:=this.2.2.1;omega⟩
def zi(b:Bool):bV:=.box [.f (.bool b)] 0
def Nv(b:List Int):bV:=.box (b.map λn=>Z n) 0
def VC(a b:FC)(x:aJ)(d:List FC)(h:d=[a,b]++x.row)(K:an) :
  aV K ab (G (.fp d 0))=aa (G a)/\aV K ab (G (.fp d 1))=aa (G b)/\aV K ab (G (.fp d 2))=aa (vi x.meet)/\aV K ab (G (.fp d 3))=aa (vi x.room)/\
   aV K ab (G (.fp d 5))=aa (vi x.size)/\aV K (aa 3) (G (.fp d 6))=aa (.a (x.st.row.map .f)):=by
 subst h;exact⟨rfl,rfl,rfl,rfl,rfl,rfl⟩
theorem IC(gr g:Tg){rs:List bw}{hh:Bool}(ht:jj rs hh)(ss:List aJ)(hl:ss.length<=1000)(hf:∀s∈ss,s.jR)(x:aJ)(hx:x.jR)(hd:rs[x.room.toNat]?=aa d)(l:(sS x.eo d.q).2=ae){qu:Int}(j5:(sS x.eo d.q).1=qu){W O2:List aA}
  (i9:0<=q) (p:q<=5000) (hO:iI x.st q=W++z::O2) (d_:qu<fB (dt x.room x.eo ss) q+fX (W++[z])) :
  bf tab ji [G (dP (sl gr (rows rs)) (sl g (aW ss)) x),mz [14,0,z.day,z.fr,z.to,0,0,0]]=Eq (vb ae):=bf.eq (by
 refine bD rfl rfl λQ hQ=>?_;have a:cL x.st:=hx.2.2.2.2.2.2.2.2;obtain⟨j6,j7⟩:0<=x.room/\x.room<=2:=fF hx;have j8:=tK ht (List.mem_of_getElem? hd);have i_:d.q.length<=2:=by rcases j8.q with e|⟨t,m,e,-⟩<;>rw[e]<;>simp
 have F:=ER gr ht (sl g (aW ss)) x j6 j7 hd i_;rw[l,j5]at F;have l:=F;have j:=SY (sl gr (rows rs)) g ss hl hf x q ap p;obtain⟨i8,gO,B⟩:=ri x.st a q ap p;have i6:(iI x.st q).Pairwise aA.lt:=xP _ _;have e_:z∈iI x.st q:=by rw[hO];simp
 have hb:=Di a q;obtain⟨-,m_,r9,s7⟩:=pc a e_;have r_:15<=x.st.len/\x.st.len<=180:=⟨a.2.1,a.2.2.1⟩
 have L:=Kn z.fr ap ap;rw[m_]at L;have v:=yU a z;obtain⟨m9,o_,p9⟩:=Fj a i9 p e_;rw[og a m9 ap]at v;simp only[aA.row,IT,agN]at v;have b_:=xL q (VI hf x.room x.eo);obtain⟨U,hU⟩:=aH (fB (dt x.room x.eo ss) q);have q_:(dt x.room x.eo ss).length<=1000:=by
  unfold dt
  grind
 rw[<-hU]at j d_ b_;have p_:0<=U/\U<=100000000:=ii
 clear b_;obtain⟨O,g_⟩:=aH (iI x.st q);rw[<-g_]at hO B i8 i6 hb;have d9:∀J:an,bA J (.f (sl gO (ay O)))=aa O.length:=λJ=>by simp
 have r7:W.length<O.length:=by rw[hO];simp
 simp only[dP]at l j ⊢;obtain⟨sd,j_⟩:=aH (sl g (aW ss));obtain⟨cd,c_⟩:=aH ([sl gr (rows rs),sd]++x.row);rw[<-j_]at l j ⊢;have n9:=VC _ _ x cd c_;rw[<-c_]at l j ⊢;have r:=λK=>(n9 K).2.2.2.2.2;obtain⟨sr,k_⟩:=aH (x.st.row);rw[<-k_]at v r B;obtain⟨A,u⟩:=aH ([.box [.f (.fp cd 0)] 0,Nv [14,0,z.day,z.fr,z.to,0,0,0],zi ag]:an);have b0:A[0]?=E [.f (.fp cd 0)]:=by rw[u];rfl
 have b1:A[1]?=aa (Nv [14,0,z.day,z.fr,z.to,0,0,0]):=by rw[u];rfl
 have b2:A[2]?=aa (zi ag):=by rw[u];rfl
 have k0:∀K:an,K[0]?=E [.f (.fp cd 0)]->aV K ab (.c (.ptr 0 0 0))=aa (G (.fp cd 0)):=λK h=>by simp[aV,az,h]
 have k1:aV A (aa 8) (.c (.ptr 1 0 0))=aa (mz [14,0,z.day,z.fr,z.to,0,0,0]):=by rw[u];rfl
 have k2:aV A ab (.c (.ptr 1 0 0))=aa (vi 14):=by rw[u];rfl
 have k3:∀K:an,K[1]?=aa (Nv [14,0,z.day,z.fr,z.to,0,0,0])->aV K (aa 3) (.c (.ptr 1 2 0))=aa (.a [Z z.day,Z z.fr,Z z.to]):=λK h=>by simp[aV,az,h,Nv,aX]
 have k4:aV A ab (.c (.ptr 1 3 0))=aa (vi z.fr):=by rw[u];rfl
 have i7:(z.day == 0&&(z.fr == 0&&z.to == 0))=ag:=by
  grind
 unfold Nv zi at u;simp only[mz,IT,agN]at k1 u ⊢;apply ai;simp;rw[<-u];apply aE;refine ax (ai ?_);simp[k1,i7,-aw];refine aC bv ?_;apply ai;simp[k0 A b0,k3 A b1,r,v,-aw];refine aC bv ?_;apply ai;simp[k2,-aw];refine aC bv ?_;apply ai;simp[k1,k2,k3 A b1,-aw];refine aC bv ?_;apply ai;simp[k2,-aw];refine aC bv (aQ (au ?_));apply ai;simp[k0 A b0,l,-aw];apply aU;simp[k2,-aw];refine bG bv ?_;apply ai;simp[k4,L,-aw];apply ai;simp[k0 A b0,j,-aw];apply aU;simp[k0 A b0,r,B,d9,-aw];have f_:∀(t:T) (K:an),t.g 4=.c (.ptr 2 0 0)->t.g 13=vi (U+fX (W++[z]))->t.g 10=vi qu->K[2]?=aa (zi ag)->WP tab ji ab [.code AN] ⟨t,[],K⟩ Q:=by
  intro t K g4 f M h2;have s2:dj K (.ptr 2 0 0) [.f (.bool ae)]=aa (K.set 2 (zi ae)):=by unfold zi at h2 ⊢;simp[dj,h2,over]
  have f2:(K.set 2 (zi ae))[2]?=aa (zi ae):=By (aj h2);apply ai;simp[g4,f,M,d_,s2,-bF];refine av (hQ _ _ ?_);unfold zi at f2;simp[Km.results,cB,bC,g4,zi,aV,az,f2]
 refine bW O.length (λi t K=>i<=W.length/\t.g 3=.c (.ptr 1 0 0)/\t.g 4=.c (.ptr 2 0 0)/\t.g 10=vi qu/\t.g 166=G (sl gO (ay O))/\t.g 13=vi (U+fX (O.take i))/\K[1]?=aa (Nv [14,0,z.day,z.fr,z.to,0,0,0])/\K[2]?=aa (zi ag)) ap ce ce bv bv
  ⟨ap,bv,bv,bv,bv,by simp[fX],b1,b2⟩ ?_ ?_
 .rintro i t K hi ⟨r6,g3,g4,M,X,f,c1,c2⟩ ha h_ next
  have Y:=λH:an=>bu (H:=H) (g:=gO) (rows:=ay O) (sz:=3) (k:=.i64) (i:=(i:Int)) ap ge;have c:=λH:an=>cf (H:=H) (bI O) (dn hi);simp only[ag7]at Y;have l_:O.take (i+1)=O.take i++[O[i]]:=by rw[agV,BY hi];rfl
  have j9:=DB (O:=O.take i) λy hz=>hb y (ah1 hz);rw[ahl]at j9;have s_:=hb O[i] (IN hi);have n_:fX (O.take (i+1))=fX (O.take i)+(O[i].to-O[i].fr):=by rw[l_,F4];simp[fX]
  have o:(i=W.length/\O[i]=z/\O.take (i+1)=W++[z])\/(i<W.length/\O[i].lt z):=by
   grind
  generalize O[i]=y at *;obtain⟨b,c9⟩:=aH (K.length);obtain⟨S,N⟩:=aH (K++[bV.box [Z y.day,Z y.fr,Z y.to] 0]);have d1:S[b]?=E [Z y.day,Z y.fr,Z y.to]:=by rw[N,c9];simp
  have z1:aV S ab (.c (.ptr b 1 0))=aa (vi y.fr):=by simp[aV,az,d1]
  have z2:aV S ab (.c (.ptr b 2 0))=aa (vi y.to):=by simp[aV,az,d1]
  have z3:aV S (aa 3) (.c (.ptr b 0 0))=aa (.a [Z y.day,Z y.fr,Z y.to]):=by simp[aV,az,d1,aX]
  have w:S[1]?=aa (Nv [14,0,z.day,z.fr,z.to,0,0,0]):=by rw[N,AI (aj c1)];exact c1
  have a_:S[2]?=aa (zi ag):=by rw[N,AI (aj c2)];exact c2
  simp only[aA.row,IT,agN]at c;apply ax;apply ai;simp[X,ha,Y,c,-aw];rw[<-N,<-c9];apply ai;simp[f,z1,z2,a8 (n:=y.to-y.fr),a8 (n:=U+fX (O.take i)+(y.to-y.fr)),-aw];have I:U+fX (O.take i)+(y.to-y.fr)=U+fX (O.take (i+1)):=ii
  apply ai;simp[g3,z3,k3 S w,-aw];rcases o with⟨e1,e2,e3⟩|⟨e1,e2⟩
  .rw[e3]at I;subst e2;refine aq bv (bQ (k':=[.code AN]) rfl ?_);exact f_ _ S (by simp[g4]) (by simp[I]) (by simp[M]) a_
  .have n8:(y.day == z.day&&(y.fr == z.fr&&y.to == z.to))=ag:=by
    unfold aA.lt at e2
    grind
   refine aC (by simpa using n8) (aQ (au (next _ _ ⟨ap,by simp[g3],by simp[g4],by simp[M],by simp[X],by simp[I],w,a_⟩ (by simp[ha]) (by simp[h_]))))
 .omega)
def JF(r:bw)(b d:Int)(l:0<=r.eB/\r.eB<=20)(j:0<=r.fY/\r.fY<=20)(m:0<=b/\b<=1000000000)(q:0<=d/\d<=1000000000):bf tab Pu [.a (r.row.map .f),.a [Z b,Z d]]=Eq (.a [Z (b-r.eB),Z (d+r.fY)]):=bf.eq (by
 refine bD rfl rfl λQ g=>?_;apply ai;simp[bw.row];apply ai;simp[a8 (n:=b-r.eB),a8 (n:=d+r.fY)];refine av (g _ _ ?_);simp[jd,dq,bC])
theorem FM(gr g:Tg){hh:Bool}(ht:jj l hh)(ss:List aJ)(hl:ss.length<=1000)(hf:∀s∈ss,s.jR)(x:aJ)(hx:x.jR)(hs0:L∈ss)(z_:fQ hh L.room.toNat x.room.toNat=ae)(I:L.meet≠x.meet)
  {Y:aA} (p_:vY x.st z=ae) (q_:vY L.st Y=ae) (bX:0<=z.fr/\z.fr<=z.to/\z.to<=100000000) (bY:0<=Y.fr/\Y.fr<=Y.to/\Y.to<=100000000) (hc:oL (ky (jx l x).eB (jx l x).fY z) (ky (jx l L).eB (jx l L).fY Y)) :
  bf tab ji [G (dP (sl gr (rows l)) (sl g (aW ss)) x),mz [15,L.meet,z.day,z.fr,z.to,Y.day,Y.fr,Y.to]]=Eq (vb ae):=by
 obtain⟨l_,m9⟩:=fF hx;have e_:=λs A=>fF (hf s A);have o_:=λs (A:s∈ss)=>sN ht (e_ s A);obtain⟨t8,p9⟩:=sN ht ⟨l_,m9⟩;have i7:=tK ht p9;have ho:cL x.st:=hx.2.2.2.2.2.2.2.2;have k_:=JF (jx l x) z.fr z.to ⟨i7.b0,i7.b1⟩ ⟨i7.a0,i7.a1⟩ ap ap;obtain⟨xf,y7⟩:=aH (z.fr-(jx l x).eB);obtain⟨xt,y8⟩:=aH (z.to+(jx l x).fY);rw[<-y7,<-y8]at k_;have u_:=λs (A:s∈ss)=>have W:=tK ht (o_ s A).2;JF (jx l s) Y.fr Y.to ⟨W.b0,W.b1⟩ ⟨W.a0,W.a1⟩ ap ap;have n9:xf<Y.to+(jx l L).fY/\Y.fr-(jx l L).eB<xt:=by
  unfold oL ky at hc
  grind
 obtain⟨y,i8⟩:∃y:aJ->Bool,∀s,y s=(decide (s.meet=L.meet)&&vY s.st Y&&decide (xf<Y.to+(jx l s).fY/\Y.fr-(jx l s).eB<xt)):=⟨_,λ_=>rfl⟩
 have hc0:y L=ae:=by rw[i8,q_];simp[n9]
 have N:=yU ho z;rw[p_]at N;have r6:∀s∈ss,bf tab Pv [.a (s.st.row.map .f),.a [Z Y.day,Z Y.fr,Z Y.to]]=Eq (vb (vY s.st Y)):=λs A=>yU (hf s A).2.2.2.2.2.2.2.2 Y;simp only[aA.row,IT,agN]at N;clear hc n9 p_ q_;obtain⟨v,rfl,hp⟩:∃v,v=vb ae/\bf tab ji [G (dP (sl gr (rows l)) (sl g (aW ss)) x),mz [15,L.meet,z.day,z.fr,z.to,Y.day,Y.fr,Y.to]] v:=by
  refine oy (S:=λv=>v=vb ae) Yu rfl λQ hQ=>?_;have m:=mJ gr ht (sl g (aW ss)) x l_ m9 t8;have f_:=zJ (sl gr (rows l)) (sl g (aW ss)) x.room;have hrl:=fR ht;have i9:=λ(s:aJ) (h0:0<=s.room) (h1:s.room<=2) (H:an)=>bu (H:=H) (g:=gr) (rows:=rows l) (sz:=15) (k:=.i64) (i:=s.room) h0 (by simp[rows];omega);have w_:=λ(s:aJ) (A:s∈ss) (H:an)=>cf (H:=H) (eh l) (j:=s.room.toNat) (row:=(jx l s).row) (by rw[rows,ahF,(o_ s A).1];rfl);simp only[dP]at m ⊢;obtain⟨sd,r_⟩:=aH (sl g (aW ss));obtain⟨cd,n_⟩:=aH ([sl gr (rows l),sd]++x.row);rw[<-r_]at m f_ ⊢;have q:=VC _ _ x cd n_;rw[<-n_]at m ⊢;have s7:=λK=>(q K).2.2.2.2.2;obtain⟨sr,y6⟩:=aH (x.st.row);rw[<-y6]at N s7;have i_:=λ(s:aJ) (A:s∈ss)=>zX gr ht s.room x.room (e_ s A).1 (e_ s A).2 l_ m9;obtain⟨rm,x6⟩:=aH (sl gr (rows l));rw[<-x6]at q f_ i_ i9;obtain⟨rx,x9⟩:=aH ((jx l x).row);rw[<-x9]at m k_;obtain⟨rf,r9⟩:=aH ([15,L.meet,z.day,z.fr,z.to,Y.day,Y.fr,Y.to]:List Int);have k0:∀K:an,K[0]?=E [.f (.fp cd 0)]->aV K ab (.c (.ptr 0 0 0))=aa (G (.fp cd 0)):=λK h=>by simp[aV,az,h]
  have k1:∀K:an,K[1]?=aa (Nv rf)->aV K (aa 8) (.c (.ptr 1 0 0))=aa (mz rf)/\aV K ab (.c (.ptr 1 0 0))=aa (vi 15)/\aV K ab (.c (.ptr 1 1 0))=aa (vi L.meet)/\aV K (aa 3) (.c (.ptr 1 2 0))=aa (.a [Z z.day,Z z.fr,Z z.to])/\aV K (aa 2) (.c (.ptr 1 3 0))=aa (.a [Z z.fr,Z z.to])/\
    aV K (aa 3) (.c (.ptr 1 5 0))=aa (.a [Z Y.day,Z Y.fr,Z Y.to])/\aV K (aa 2) (.c (.ptr 1 6 0))=aa (.a [Z Y.fr,Z Y.to]):=λK h=>by
   rw[r9]at h ⊢;refine⟨?_,?_,?_,?_,?_,?_,?_⟩<;>simp[aV,az,h,Nv,mz,aX]
  obtain⟨O,d9⟩:=aH ([.box [.f (.fp cd 0)] 0,Nv rf,zi ag]:an);have n0:O.length=3:=by rw[d9];rfl
  have b0:O[0]?=E [.f (.fp cd 0)]:=by rw[d9];rfl
  have b1:O[1]?=aa (Nv rf):=by rw[d9];rfl
  have b2:O[2]?=aa (zi ag):=by rw[d9];rfl
  obtain⟨e1,e2,e3,e4,e5,-,-⟩:=k1 O b1;have B:=d9;rw[r9]at B e1;unfold Nv zi at B;simp only[mz,IT,agN]at e1 B ⊢;apply ai;simp;rw[<-B];clear B;apply aE;refine ax (ai ?_);simp[e1,-aw];refine aC bv ?_;apply ai;simp[k0 O b0,e4,s7,N,-aw];refine aC bv ?_;apply ai;simp[e2,-aw];refine aq bv ?_;apply aU;simp[k0 O b0,(q _).1,(q _).2.1,(q _).2.2.2.1,f_,-aw];apply ax
  suffices go:∀u:T,u.g 2=.c (.ptr 0 0 0)->u.g 3=.c (.ptr 1 0 0)->u.g 4=.c (.ptr 2 0 0)->u.g 56=G (.fn oN [.fp [sd] 0,.fp [rm] 0,.fp [fi x.room] 0])->
    WP tab ji ab [.code Lm,.inBlock 1,.code Lo,.inBlock 0,.code Lp] ⟨u,[],O⟩ Q by
   exact go _ bv bv bv bv
  intro u g2 g3 g4 m_;obtain⟨LP,d_⟩:∃LP:dB->Option aD->bV,LP=λst pd=>.lp ji u [P.nat 57] qW qX st pd 3:=⟨_,rfl⟩
  obtain⟨HR,j6⟩:=aH (O++[.dH ae,LP .ready ab]);have kR:∀i:Nat,i<3->HR[i]?=O[i]?:=λi hi=>by rw[j6,AI ap]
  have q3:HR[3]?=aa (.dH ae):=by rw[j6,agL ap,n0];rfl
  have q4:HR[4]?=aa (LP .ready ab):=by rw[j6,agL ap,n0];rfl
  obtain⟨PP,j7⟩:∃PP:List aJ->an->Prop,PP=λd J=>J[0]?=E [.f (.fp cd 0)]/\J[1]?=aa (Nv rf)/\J[2]?=aa (zi ag)/\J[3]?=aa (.dH ae)/\J[4]?=aa (LP .ready ab)/\∀s∈d,y s=ag:=⟨_,rfl⟩
  obtain⟨RR,s_⟩:∃RR:List aJ->aJ->an->Prop,RR=λ_ _ J=>J[2]?=aa (zi ae)/\J[3]?=aa (.dH ae)/\J[4]?=aa (LP .done (aa .ret)):=⟨_,rfl⟩
  obtain⟨H2,he,j9⟩:=xq (b:=4) (H:=HR) (PP:=PP) (RR:=RR) rm g ss hl x.room (λs=>fQ hh s.room.toNat x.room.toNat) i_
   (by rw[j7];exact⟨(kR 0 ap).trans b0,(kR 1 ap).trans b1,(kR 2 ap).trans b2,q3,q4,bv⟩)
   (λd J K h=>by
    grind)
   (λd s J h A=>by
    rw[j7]at h;obtain⟨h0,h1,h2,h3,h4,h5⟩:=h;have l4:=aj h4;have F:=i8 s;have a_:=r6 s A;have v_:=i9 s (e_ s A).1 (e_ s A).2;have r7:=w_ s A;have j_:=u_ s A;obtain⟨yf,y_⟩:=aH (Y.fr-(jx l s).eB);obtain⟨yt,z7⟩:=aH (Y.to+(jx l s).fY);rw[<-y_,<-z7]at j_ F;obtain⟨rw',x8⟩:=aH ((jx l s).row);rw[<-x8]at r7 j_;refine⟨!y s,?_⟩;obtain⟨r,J',u9,rfl,hr⟩:∃r J',Ev tab (.yield 4) [.a (s.row.map .f)] J r J'/\(r=vb (!y s)/\(if !y s then PP (d++[s]) J' else RR d s J')):=by
     have j5:=h4;rw[d_]at j5;refine dm (tab:=tab) (b:=4) (args:=[.a (s.row.map .f)]) (H:=J) j5 rfl λQ' n8=>?_;obtain⟨b,j8⟩:=aH (J.length);have x_:s.row.length=7:=rfl;refine aF (.inr rfl) ?_;simp[x_];obtain⟨J1,h_⟩:=aH (J++[bV.box (s.row.map .f) 0]);rw[<-j8,<-h_];have p1:∀i:Nat,i<J.length->J1[i]?=J[i]?:=λi hi=>by rw[h_,AI hi]
     have d1:J1[b]?=E (s.row.map .f):=by rw[h_,j8];simp
     have n1:J1.length=b+1:=by rw[h_,j8];simp
     have e4:=(p1 4 l4).trans j5;refine eM e4 ?_;obtain⟨J2,U⟩:=aH (J1.set 4 (LP .busy ab));have n2:J2.length=b+1:=by rw[U,List.length_set];exact n1
     have p2:∀i:Nat,i<J.length->i≠4->J2[i]?=J[i]?:=λi hi I=>by rw[U,sh (Ne.symm I),p1 i hi]
     have d2:J2[b]?=E (s.row.map .f):=by rw[U,sh ap];exact d1
     have f4:J2[4]?=aa (LP .busy ab):=by rw[U];exact By (aj e4)
     rw[d_]at U;rw[<-U];have c0:=(p2 0 (aj h0) ap).trans h0;have c1:=(p2 1 (aj h1) ap).trans h1;have c2:=(p2 2 (aj h2) ap).trans h2;have c3:=(p2 3 (aj h3) ap).trans h3;obtain⟨-,-,-,-,w5,-,w7⟩:=k1 J2 c1;have z8:aV J2 ab (.c (.ptr b 1 0))=aa (vi s.room):=by simp[aV,az,d2,aJ.row]
     obtain⟨X,c_⟩:=aH (J2++[bV.box [Z xf,Z xt] 0,bV.box [Z yf,Z yt] 0]);have p3:∀i:Nat,i<J2.length->X[i]?=J2[i]?:=λi hi=>by rw[c_,AI hi]
     have n3:X.length=b+3:=by rw[c_,agM,n2];rfl
     have t6:X[b+1]?=E [Z xf,Z xt]:=by rw[c_,agL ap,n2];simp
     have t7:X[b+2]?=E [Z yf,Z yt]:=by rw[c_,agL ap,n2];simp
     apply ax;refine aE (aF (.inr rfl) ?_);simp[g2,g3,k0 J2 c0,(q _).1,m,w5,w7,k_,z8,v_,r7,j_,-aw];rw[n2,<-c_];have v0:=(p3 0 (aj c0)).trans c0;have v1:=(p3 1 (aj c1)).trans c1;have v2:=(p3 2 (aj c2)).trans c2;have v3:=(p3 3 (aj c3)).trans c3;have v4:=(p3 4 (aj f4)).trans f4;have v5:=(p3 b (aj d2)).trans d2;obtain⟨-,-,z3,-,-,z6,-⟩:=k1 X v1;have b_:aV X ab (.c (.ptr b 0 0))=aa (vi s.meet):=by simp[aV,az,v5,aJ.row]
     have g_:aV X (aa 3) (.c (.ptr b 4 0))=aa (.a (s.st.row.map .f)):=by simp[aV,az,v5,aJ.row,aG.row,aX]
     have a6:aV X ab (.c (.ptr (b+1) 0 0))=aa (vi xf)/\aV X ab (.c (.ptr (b+1) 1 0))=aa (vi xt):=by refine⟨?_,?_⟩<;>simp[aV,az,t6]
     have a7:aV X ab (.c (.ptr (b+1+1) 0 0))=aa (vi yf)/\aV X ab (.c (.ptr (b+1+1) 1 0))=aa (vi yt):=by refine⟨?_,?_⟩<;>simp[aV,az,t7]
     suffices c9:∀w:T,w.g 4=.c (.ptr 2 0 0)->w.g 111=vb (y s)->WP tab ji (aa 4) [.code Ln,.inBlock 2] ⟨w,[],X⟩ Q' by
      refine aE (aF (.inr rfl) ?_);by_cases m1:s.meet=L.meet
      .have m2:s.meet≠x.meet:=by rw[m1];exact I
       cases W:vY s.st Y with
       |false=>
        rw[W]at a_ F;simp[g2,g3,k0 X v0,(q _).2.2.1,b_,g_,z3,z6,m1,I,a_,-aw];exact c9 _ (by simp[g4]) (by simp[F])
       |true=>
        rw[W]at a_ F;by_cases c1:xf<yt
        .by_cases c2:yf<xt
         .simp[g2,g3,k0 X v0,(q _).2.2.1,b_,g_,z3,z6,m1,I,a_,a6.1,a6.2,a7.1,a7.2,c1,c2,-aw];exact c9 _ (by simp[g4]) (by simp[F,m1,c1,c2])
         .simp[g2,g3,k0 X v0,(q _).2.2.1,b_,g_,z3,z6,m1,I,a_,a6.1,a6.2,a7.1,a7.2,c1,c2,-aw];exact c9 _ (by simp[g4]) (by simp[F,m1,c1,c2])
        .simp[g2,g3,k0 X v0,(q _).2.2.1,b_,g_,z3,z6,m1,I,a_,a6.1,a6.2,a7.1,a7.2,c1,-aw];exact c9 _ (by simp[g4]) (by simp[F,m1,c1])
      .simp[g2,g3,b_,z3,m1,-aw];exact c9 _ (by simp[g4]) (by simp[F,m1])
     clear g2 g3 g4 m_;intro w g4 M;cases W:y s with
     |false=>
      rw[W]at M;refine aC (by simp[M]) (aQ (au ?_));rw[d_]at v4;refine cN (n8 _ _ _ _ _ _ _ _ _ _ rfl v4 ⟨by rw[W];rfl,?_⟩);rw[W];simp only[Bool.not_false,if_true];rw[j7];refine⟨?_,?_,?_,?_,?_,?_⟩
      .grind
      .grind
      .grind
      .grind
      .grind
      .grind
     |true=>
      rw[W]at M;refine aq (by simp[M]) ?_;obtain⟨J4,i6⟩:=aH (X.set 2 (zi ae));have s2:dj X (.ptr 2 0 0) [.f (.bool ae)]=aa J4:=by rw[i6];unfold zi at v2 ⊢;simp[dj,v2,over]
      have u2:J4[2]?=aa (zi ae):=by rw[i6];exact By (aj v2)
      have u3:J4[3]?=aa (.dH ae):=by rw[i6,sh ap];exact v3
      have u4:J4[4]?=aa (LP .busy ab):=by rw[i6,sh ap];exact v4
      rw[d_]at u4;refine aE (aF (.inr rfl) ?_);simp[g4,s2,-bF];refine av (n8 _ _ _ _ _ _ _ _ _ _ rfl u4 ⟨by rw[W];rfl,?_⟩)
      grind
    exact⟨J',u9,hr⟩)
  rw[<-r_]at he;have t_:Ev tab (.fn oN) [.c (.yl (O.length+1)),G (.fp [sd] 0),G (.fp [rm] 0),G (.fp [fi x.room] 0)] (O++[.dH ae,.lp ji u [P.nat 57] qW qX .ready ab O.length]) (.t []) H2:=by
   grind
  refine dC (g:=oN) (by rw[mF,m_];simp[cr]) t_ ?_;rw[n0];rcases j9 with h|⟨d,s,rest,-,h⟩
  .grind
  .rw[s_]at h;obtain⟨h2,h3,h4⟩:=h;rw[d_]at h4;refine jJ h4 ce ?_;obtain⟨H3,hH3⟩:=aH (H2.set 4 (.lp ji u [P.nat 57] qW qX .exhausted (aa .ret) 3));refine av (hQ _ _ _ rfl ⟨[3],rfl,⟨bv,λi hi=>?_⟩,vb ae,?_,by simp[jd,dq,bC]⟩)
   .rw[If.1 hi]
    grind
   .have:(ng [3] (H2.set 4 (bV.lp ji u [P.nat 57] qW qX dB.exhausted (aa .ret) 3)))[2]?=aa (zi ae):=by
     rw[iv bv,sh ap];exact h2
    unfold zi at this;simp[Km.results,cB,bC,g4,aV,az,this]
 exact hp.eq
def QA(j g:Tg)(K:jj l J)(ss:List aJ)(I:ss.length<=5)(H:mG ss)(F:∀s∈ss,s.jR)(x:aJ)(L:x.jR)(u:py ss x=ag)(m:List Int)(y:m.length=8)(b:Bool)
  (d:bf tab ji [G (dP (sl j (rows l)) (sl g (aW ss)) x),mz m]=Eq (vb b)) :
  bf tab Gu [G (sl j (rows l)),G (sl g (aW ss)),.a (x.row.map .f),mz m]=Eq (vi (if b then 0 else 11)):=bf.eq (by
 have q:=CI j g K ss I H F x L;rw[u]at q
 match m,y with
 |[a0,a1,N,a3,a4,a5,O,S],_=>
 refine bD rfl rfl λQ z=>?_;generalize U:sl j (rows l)=M at *;generalize W:sl g (aW ss)=v at *;simp only[dP,aJ.row,ahO,ahL,mz,IT,agN]at q d ⊢;generalize sl x.st.cg (aK x.st.cs)=A at *;generalize sl x.st.xg (ay x.st.xs)=B at *;cases b
 all_goals repeat' first
  |(refine av (z _ _ ?_))
  |(apply aE)
  |(apply ax)
  |(apply aQ)
  |(refine aq ?_ ?_;focus (simp;done))
  |(refine aC ?_ ?_;focus (simp;done))
  |(apply ba;simp[q,d,deep])
 all_goals simp)
def D2(b g:Tg)(F:jj l J)(ss:List aJ)(y:ss.length<=5)(z:mG ss)(u:∀s∈ss,s.jR)(x:aJ)(H:x.jR)(j:py ss x=ae) :
  bf tab jB [G (sl b (rows l)),G (sl g (aW ss)),.a (x.row.map .f)]=Eq (.t [mz lM,vi 1]):=bf.eq (by
 have d:=CI b g F ss y z u x H;rw[j]at d;refine bD rfl rfl λQ m=>?_;generalize v:sl b (rows l)=I at *;generalize K:sl g (aW ss)=q at *;simp only[dP,aJ.row,ahO,ahL,mz,lM,IT,agN]at d m ⊢;generalize sl x.st.cg (aK x.st.cs)=A at *;generalize sl x.st.xg (ay x.st.xs)=B at *
 repeat' first
  |(refine av (m _ _ ?_))
  |(apply aE)
  |(apply ax)
  |(apply aQ)
  |(refine aq ?_ ?_;focus (simp;done))
  |(refine aC ?_ ?_;focus (simp;done))
  |(apply ba;simp[d,deep])
 simp[Km.results,cB,bC,aX])
def E6(len b d:Int):Int:=max 0 ((d-len-b) / 1440+1)
def Gk(s:aG)(g j:Int)(x:aA):Prop:=∃f p l b d,s.cs=[⟨.fs,[⟨.fs,[cu f p l]⟩],b⟩]/\x=bU s.len b d/\sF (cu f p l) (E6 s.len b g) b j d
def Je(s:aG)(b d:Int)(x:aA):Prop:=Gk s b d x\/(x∈s.xs/\mH x.fr x.to b d=ae)
def ES(M:Nat)(s7:M<=8)(s:aG)(hs:dh s)(u v:Int)(hM:v-u+220<=1440*((M:Int)-1))(v_:-100<=u)(w_:u<=90000000)(u9:u<v)(u_:v<=u+10080) :
  ∃g L,(L.Pairwise aA.lt/\∀x,x∈L↔Je s u v x)/\L.length<=M+3/\bf tab mb [.a (s.row.map .f),.a [Z u,Z v]]=Eq (.t [G (sl g (ay L)),vi 0]):=by
 have key:∃r,(∃g L,(L.Pairwise aA.lt/\∀x,x∈L↔Je s u v x)/\L.length<=M+3/\r=.t [G (sl g (ay L)),vi 0])/\bf tab mb [.a (s.row.map .f),.a [Z u,Z v]] r:=by
  refine iX aeX rfl λQ hQ=>?_;have d9:=rJ s (lL hs);rw[kH hs]at d9;simp[aG.row]at d9;have hF:∀x y:aA,Kf tab I7 [.a (x.row.map .f),.a (y.row.map .f)] (vi (fV x y)):=Fb;obtain⟨p9,q_,r6,x8,x9,x6⟩:=hs;have m9:∀(t:T) (A:List gY) (H:an) (c:C) (o:List aA),t.g 6=.c (.ptr 2 0 0)->H[2]?=E [c]->Gb H c o->o.length<=M+3->(A=[]\/∃b,A=[.dR b]/\H[b]?=aa (.dH ae))->(∀x,x∈o↔Je s u v x)->
    WP tab mb ab [.code Tu] ⟨t,A,H⟩ Q:=by
   intro t A H c o B I z j6 g_ m;rcases z with⟨rfl,rfl⟩|⟨t_,b,ep,rfl,Y⟩
   .obtain⟨r1,H1,e1,rfl,rfl⟩:=FY (H:=H) (F:=I7);obtain⟨r2,H2,e2,rfl,rfl⟩:=CO (H:=H1);apply ai;simp[B,I,e1.eq];apply ai;simp[B,I,e2.eq];have k2:(H2.set 2 (.box [.f .aN] 0))[2]?=E [.f .aN]:=By (aj I);apply aU;simp[B,k2,bA];refine bG bv ?_;apply ai;simp[B,k2];refine av (hQ _ _ _ ⟨.nil,[],⟨bv,m⟩,bv,rfl⟩ ?_);rcases g_ with rfl|⟨b,rfl,hb⟩
    .exact .inl (by simp[sl,ay,Tg.fc])
    .have a_:b≠2:=by rintro rfl;rw[I]at hb;cases hb
     exact .inr ⟨b,rfl,by rw[sh (Ne.symm a_)];exact hb,.t [G .aN,vi 0],by simp[Km.results,cB,bC],by simp[jd,dq,bC,sl,ay,Tg.fc]⟩
   .have a_:(2:Nat)≠b:=by rintro rfl;unfold RB at Y;rw[I]at Y;cases Y
    obtain⟨r1,H1,e1,rfl,f1,l1,q1,q2,q3⟩:=Kd hF ap Y;have ll:=q2.length_eq;rw[<-ll]at e1 I;have k2:=f1.get I a_;obtain⟨r2,H2,e2,l2,R2,rfl,f2,w1,w2,w3,w4⟩:=yG ap q3 q1;have k_:=f2.get k2 a_;apply ai;simp[B,I,e1.eq];apply ai;simp[B,k2,e2.eq,k_];have k3:(H2.set 2 (.box [.sl b 0 l2.length 0 ep 3] 0))[2]?=E [.sl b 0 l2.length 0 ep 3]:=By (aj k_);have h_:RB (H2.set 2 (.box [.sl b 0 l2.length 0 ep 3] 0)) b 3 ep (ay (l2++R2)):=by
     unfold RB at w1 ⊢;rw[sh a_];exact w1
    apply aU;simp[B,k3,h_.len];refine aC ge (aQ ?_);apply ai;simp[B,k3];refine av (hQ _ _ _ ⟨.fs,l2,⟨w3,λx=>by rw[w4,q2.mem_iff,m]⟩,ap,rfl⟩ ?_);rcases g_ with rfl|⟨b',rfl,X⟩
    .left;have:=Qb (n:=63) h_;simp[deep,jd,dq,bC,this]
    .have i7:b'≠b:=by rintro rfl;unfold RB at Y;rw[X]at Y;cases Y
     have j7:b'≠2:=by rintro rfl;rw[I]at X;cases X
     have d1:=f2.get (f1.get X i7) i7;have l_:RB ((H2.set 2 (.box [.sl b 0 l2.length 0 ep 3] 0)).set b' (.dH ag)) b 3 ep (ay (l2++R2)):=by
      unfold RB at h_ ⊢;rw[sh i7];exact h_
     have:=Qb (n:=63) l_;exact .inr ⟨b',rfl,by rw[sh (Ne.symm j7)];exact d1,.t [.c (.sl b 0 l2.length 0 ep 3),vi 0],by simp[Km.results,cB,bC],by simp[deep,jd,dq,bC,this]⟩
  have c9:∀(t:T) (A:List gY) (H:an) (c:C) (o:List aA),t.g 2=.c (.ptr 0 0 0)->t.g 3=.c (.ptr 1 0 0)->t.g 6=.c (.ptr 2 0 0)->H[0]?=E [C.f (sl s.cg (aK s.cs)),C.f (fi s.len),C.f (sl s.xg (ay s.xs))]->H[1]?=E [Z u,Z v]->H[2]?=E [c]->Gb H c o->o.length<=M->
    (A=[]\/∃b,A=[.dR b]/\H[b]?=aa (.dH ae))->(∀x,x∈o↔Gk s u v x)->WP tab mb ab [.code rb] ⟨t,A,H⟩ Q:=by
   intro t A H c o K S B h0 W I z j6 g_ m;apply aU;simp[K,h0];refine bW s.xs.length (λj t H'=>t.g 2=.c (.ptr 0 0 0)/\t.g 3=.c (.ptr 1 0 0)/\t.g 6=.c (.ptr 2 0 0)/\t.g 64=G (sl s.xg (ay s.xs))/\H'[1]?=E [Z u,Z v]/\(∀b:Nat,H[b]?=aa (bV.dH ae)->H'[b]?=aa (bV.dH ae))/\
    ∃c o',H'[2]?=E [c]/\Gb H' c o'/\o'.length<=M+j/\∀x,x∈o'↔Gk s u v x\/(x∈s.xs.take j/\mH x.fr x.to u v=ae)) ap ce ce bv bv
    ⟨by simp[K],by simp[S],by simp[B],bv,W,λb h=>h,c,o,I,z,ap,by simpa using m⟩ ?_ ?_
   .rintro j t H' hj ⟨K,S,B,e_,W,j5,c,o',I,z,j6,m⟩ ha hb next
    have N:=λH:an=>cf (H:=H) (bI s.xs) (dn hj);have i8:=Jq s.xs[j].fr s.xs[j].to u v;have j_:s.xs.take (j+1)=s.xs.take j++[s.xs[j]]:=by rw[agV,BY hj];rfl
    simp[aA.row]at N;apply ax;apply ai;simp[e_,ha,bu,hj,N];have kN:(H'++[bV.box [Z s.xs[j].day,Z s.xs[j].fr,Z s.xs[j].to] 0])[H'.length]?=E [Z s.xs[j].day,Z s.xs[j].fr,Z s.xs[j].to]:=lw
    have k1:(H'++[bV.box [Z s.xs[j].day,Z s.xs[j].fr,Z s.xs[j].to] 0])[1]?=E [Z u,Z v]:=by rw[AI (aj W)];exact W
    have k2:(H'++[bV.box [Z s.xs[j].day,Z s.xs[j].fr,Z s.xs[j].to] 0])[2]?=E [c]:=by rw[AI (aj I)];exact I
    have kL:=z.push [bV.box [Z s.xs[j].day,Z s.xs[j].fr,Z s.xs[j].to] 0];have kd:∀b:Nat,H[b]?=aa (bV.dH ae)->(H'++[bV.box [Z s.xs[j].day,Z s.xs[j].fr,Z s.xs[j].to] 0])[b]?=aa (.dH ae):=λb X=>by
     have:=j5 b X;rw[AI (aj this)];exact this
    generalize r_:H'++[bV.box [Z s.xs[j].day,Z s.xs[j].fr,Z s.xs[j].to] 0]=HA at kN k1 k2 kL kd ⊢;apply ai;simp[S,kN,k1,i8];cases hc:mH s.xs[j].fr s.xs[j].to u v
    .refine aC bv (aQ (au (next _ _ ?_ (by simp[ha]) (by simp[hb]))));refine⟨by simp[K],by simp[S],by simp[B],by simp[e_],k1,kd,c,o',k2,kL,ap,λx=>?_⟩;rw[m,j_,agP,If];refine⟨λh=>h.elim .inl λh=>.inr ⟨.inl h.1,h.2⟩,λh=>h.elim .inl λh=>?_⟩;rcases h.1 with h'|rfl
     .exact .inr ⟨h',h.2⟩
     .rw[hc]at h;cases h.2
    .obtain⟨c',H2,e1,e2,e3,e4⟩:=(kL.push [.box [Z s.xs[j].day,Z s.xs[j].fr,Z s.xs[j].to] 0]).app ap (b1:=HA.length) (fl:=0) (x:=s.xs[j]) (by simp[aA.row]);have p1:=e4 _ _ (show(HA++[bV.box [Z s.xs[j].day,Z s.xs[j].fr,Z s.xs[j].to] 0])[1]?=_ by rw[AI (aj k1)];exact k1) rfl;have p2:=e4 _ _ (show(HA++[bV.box [Z s.xs[j].day,Z s.xs[j].fr,Z s.xs[j].to] 0])[2]?=_ by rw[AI (aj k2)];exact k2) rfl;refine aq bv ?_;apply ba;simp[B,kN,k2,e1,p2];refine au (next _ _ ?_ (by simp[ha]) (by simp[hb]));refine⟨by simp[K],by simp[S],by simp[B],by simp[e_],by rw[sh ce];exact p1,λb X=>?_,c',o'++[s.xs[j]],By (aj p2),e2.set p2 rfl _,ge,λx=>?_⟩
     .have q:=kd b X;have a_:(2:Nat)≠b:=by rintro rfl;rw[k2]at q;cases q
      rw[sh a_];exact e4 _ _ (by rw[AI (aj q)];exact q) rfl
     .rw[agP,If,m,j_,agP,If];constructor
      .rintro((h|h)|rfl)
       .exact .inl h
       .exact .inr ⟨.inl h.1,h.2⟩
       .exact .inr ⟨.inr rfl,hc⟩
      .rintro(h|⟨h|h,h'⟩)
       .exact .inl (.inl h)
       .exact .inl (.inr ⟨h,h'⟩)
       .exact .inr h
   .rintro t H' ⟨K,S,B,e_,W,j5,c,o',I,z,j6,m⟩ - -;rw[agW]at m;refine m9 _ A H' c o' (by simp[B]) I z ap ?_ λx=>m x;rcases g_ with h|⟨b,h,hb⟩
    .exact .inl h
    .exact .inr ⟨b,h,j5 b hb⟩
  have c_:∀t:T,t.g 2=.c (.ptr 0 0 0)->t.g 3=.c (.ptr 1 0 0)->t.g 6=.c (.ptr 2 0 0)->WP tab mb ab [.code Tr] ⟨t,[],[.box [C.f (sl s.cg (aK s.cs)),C.f (fi s.len),C.f (sl s.xg (ay s.xs))] 0,.box [Z u,Z v] 0,.box [.f .aN] 0]⟩ Q:=by
   intro t K S B;apply aU;simp[K];apply ax;rcases p9 with e|⟨f,p,l,J,e,f0,f1,p0,p1,ln,lo,m0,m1⟩
   .refine di (λ_ st=>st=⟨_,[],_⟩) 0 rfl ?_;rintro _ st rfl -;apply ai;simp[e];refine aE (aC bv ?_);refine bQ (k':=[.code rb]) rfl ?_;refine c9 _ [] _ (.f .aN) [] (by simp[K]) (by simp[S]) (by simp[B]) (by simp[e]) rfl rfl (.inl ⟨rfl,rfl⟩) bv (.inl rfl) λx=>?_;refine⟨λh=>by simp at h,λ⟨f,p,l,J,d,e',_⟩=>?_⟩;rw[e]at e';cases e'
   have j8:=yO f0 f1 p0 p1 ln lo;have N:=λH:an=>cf (H:=H) (dN s.cs) (fJ (l:=s.cs) (j:=0) (by rw[e];simp));have i6:=λH:an=>bu (H:=H) (g:=s.cg) (rows:=aK s.cs) (sz:=2) (k:=.i64) (i:=0) ap (by rw[e];simp);have n_:s.cs[0]'(by rw[e];simp)=⟨.fs,[⟨.fs,[cu f p l]⟩],J⟩:=by simp[e]
   have o_:s.cs.length=1:=by rw[e];rfl
   rw[n_]at N;simp[cM.row]at N i6;have i9:=QT (sl s.cg (aK s.cs)) (sl s.xg (ay s.xs)) (sl .fs (aI [⟨.fs,[cu f p l]⟩])) s.len J u v;have i_:=λd (h:jS d)=>ue (sl s.cg (aK s.cs)) (sl s.xg (ay s.xs)) (sl .fs (aI [⟨.fs,[cu f p l]⟩])) s.len J d kw kw h;have d_:∀(t:T) (H:an) (c:C) (A:List Int),t.g 2=.c (.ptr 0 0 0)->t.g 3=.c (.ptr 1 0 0)->t.g 6=.c (.ptr 2 0 0)->t.g 45=vi 1->t.g 46=vi 1->H[0]?=E [C.f (sl s.cg (aK s.cs)),C.f (fi s.len),C.f (sl s.xg (ay s.xs))]->H[1]?=E [Z u,Z v]->H[2]?=E [c]->
     H[4]?=aa (.dH ae)->Gb H c (A.map (bU s.len J))->A.Pairwise (· < ·)->(∀d,d∈A↔sF (cu f p l) (E6 s.len J u) J v d)->WP tab mb ab [.code xE,.inLoop xE,.inBlock 0,.code rb] ⟨t,[.dR 4],H⟩ Q:=by
    intro t H c A K S B U O h0 W I h4 z b_ m;apply ai;simp[U,O];refine aE (aC bv ?_);refine bQ (k':=[.code rb]) rfl ?_;have p_:=EL A (E6 s.len J u) M b_ λd hd=>by
     obtain⟨a1,a2,a3,a4⟩:=(m d).1 hd;refine⟨a1,?_⟩;unfold E6;omega
    refine c9 _ _ H c _ (by simp[K]) (by simp[S]) (by simp[B]) h0 W I z ge (.inr ⟨4,rfl,h4⟩) λx=>?_;rw[agX];constructor
    .rintro⟨d,hd,rfl⟩;exact⟨f,p,l,J,d,e,rfl,(m d).1 hd⟩
    .rintro⟨f',p',l',x_,d,e',rfl,hd⟩;rw[e]at e';simp[cu]at e';obtain⟨⟨rfl,rfl,rfl⟩,rfl⟩:=e';exact⟨d,(m d).2 hd,rfl⟩
   have range:∀(t:T),t.g 2=.c (.ptr 0 0 0)->t.g 3=.c (.ptr 1 0 0)->t.g 6=.c (.ptr 2 0 0)->t.g 8=.c (.ptr 3 0 0)->t.g 45=vi 1->t.g 46=vi 0->
     t.g 53=G (.fn I6 [.fp [fi u,fi v] 0,.fp [sl s.cg (aK s.cs),fi s.len,sl s.xg (ay s.xs)] 0,.fp [sl .fs (aI [⟨.fs,[cu f p l]⟩]),fi J] 0])->
     (∀(t':T) (H:an) (c:C) (A:List Int),t'.g 2=.c (.ptr 0 0 0)->t'.g 3=.c (.ptr 1 0 0)->t'.g 6=.c (.ptr 2 0 0)->t'.g 45=vi 1->t'.g 46=vi 1->H[0]?=E [C.f (sl s.cg (aK s.cs)),C.f (fi s.len),C.f (sl s.xg (ay s.xs))]->H[1]?=E [Z u,Z v]->H[2]?=E [c]->
      H[4]?=aa (.dH ae)->Gb H c (A.map (bU s.len J))->A.Pairwise (· < ·)->(∀d,d∈A↔sF (cu f p l) (E6 s.len J u) J v d)->WP tab mb ab [.inLoop xE,.inBlock 0,.code rb] ⟨t',[.dR 4],H⟩ Q)->
     WP tab mb ab [.code Ts,.inBlock 2,.inBlock 1,.code Tt,.inLoop xE,.inBlock 0,.code rb] ⟨t,[],[.box [C.f (sl s.cg (aK s.cs)),C.f (fi s.len),C.f (sl s.xg (ay s.xs))] 0,.box [Z u,Z v] 0,.box [.f .aN] 0,.box [.f (sl .fs (aI [⟨.fs,[cu f p l]⟩])),Z J] 0]⟩ Q:=by
    intro t K S B g8 U O n8 next
    obtain⟨PP,f_⟩:∃PP:List Int->an->Prop,PP=λA H=>H[0]?=E [C.f (sl s.cg (aK s.cs)),C.f (fi s.len),C.f (sl s.xg (ay s.xs))]/\H[1]?=E [Z u,Z v]/\(∃c,H[2]?=E [c]/\Gb H c (A.map (bU s.len J)))/\
     H[3]?=E [.f (sl .fs (aI [⟨.fs,[cu f p l]⟩])),Z J]/\H[4]?=aa (.dH ae)/\H[5]?=aa (.lp mb t [P.nat 54] jb jc .ready ab 4):=⟨_,rfl⟩
    obtain⟨r,H',he,rfl,A,hp,b_,m⟩:=QS (b:=5) (H:=[.box [C.f (sl s.cg (aK s.cs)),C.f (fi s.len),C.f (sl s.xg (ay s.xs))] 0,.box [Z u,Z v] 0,.box [.f .aN] 0,.box [.f (sl .fs (aI [⟨.fs,[cu f p l]⟩])),Z J] 0,.dH ae,.lp mb t [P.nat 54] jb jc .ready ab 4])
     (PP:=PP) .fs ⟨.fs,[cu f p l]⟩ (cu f p l) rfl j8 (sl s.cg (aK s.cs)) (sl s.xg (ay s.xs)) s.len J u v ap ap ap ap ap ap ap (E6 s.len J u) rfl
     (by rw[f_];exact⟨rfl,rfl,⟨.f .aN,rfl,.inl ⟨rfl,rfl⟩⟩,rfl,rfl,rfl⟩) (by
      intro A d H hp s_ t8 p_;rw[f_]at hp;obtain⟨h0,W,⟨c,I,z⟩,h3,h4,h5⟩:=hp;have j9:=i_ d kw;simp[bU,aA.row]at j9;obtain⟨r,H',e1,rfl,e2⟩:=dm (tab:=tab) (b:=5) (args:=[vi d]) (H:=H) (C:=λr H'=>r=vb ae/\PP (A++[d]) H') h5 rfl λQ' n9=>by
       refine aF (.inr rfl) ?_;simp;refine eM h5 ?_;have b0:(H.set 5 (.lp mb t [P.nat 54] jb jc .busy ab 4))[0]?=E [C.f (sl s.cg (aK s.cs)),C.f (fi s.len),C.f (sl s.xg (ay s.xs))]:=by rw[sh ce];exact h0
       have b1:(H.set 5 (.lp mb t [P.nat 54] jb jc .busy ab 4))[1]?=E [Z u,Z v]:=by rw[sh ce];exact W
       have b2:(H.set 5 (.lp mb t [P.nat 54] jb jc .busy ab 4))[2]?=E [c]:=by rw[sh ce];exact I
       have b3:(H.set 5 (.lp mb t [P.nat 54] jb jc .busy ab 4))[3]?=E [.f (sl .fs (aI [⟨.fs,[cu f p l]⟩])),Z J]:=by rw[sh ce];exact h3
       have b4:(H.set 5 (.lp mb t [P.nat 54] jb jc .busy ab 4))[4]?=aa (.dH ae):=by rw[sh ce];exact h4
       have b5:(H.set 5 (.lp mb t [P.nat 54] jb jc .busy ab 4))[5]?=aa (.lp mb t [P.nat 54] jb jc .busy ab 4):=By (aj h5);have bL:=z.set h5 rfl (.lp mb t [P.nat 54] jb jc .busy ab 4);generalize H.set 5 (.lp mb t [P.nat 54] jb jc .busy ab 4)=HB at b0 b1 b2 b3 b4 b5 bL ⊢;obtain⟨c',H2,a1,a2,a3,a4⟩:=(bL.push [.box [Z d,Z (d*1440+J),Z (d*1440+J+s.len)] 0]).app ge (b1:=HB.length) (fl:=0) (x:=bU s.len J d) (by simp[aA.row,bU]);have up:∀(i:Nat) y,HB[i]?=aa y->uO y=ae->H2[i]?=aa y:=λi y hy hn=>a4 i y (by rw[AI (aj hy)];exact hy) hn;have p2:=up _ _ b2 rfl;apply ax;refine aF (.inr rfl) ?_;simp[K,B,g8,b0,b2,b3,j9,a1,p2];refine au (cN (n9 _ _ _ _ _ _ _ _ _ _ rfl (show(H2.set 2 _)[5]?=aa _ by rw[sh ce];exact up _ _ b5 rfl) ?_));refine⟨rfl,?_⟩;rw[f_];have s5:(H2.set 2 (.box [c'] 0))[5]?=aa (.lp mb t [P.nat 54] jb jc .busy ab 4):=by rw[sh ce];exact up _ _ b5 rfl
       refine⟨?_,?_,⟨c',?_,?_⟩,?_,?_,?_⟩
       .rw[sh ce,sh ce];exact up _ _ b0 rfl
       .rw[sh ce,sh ce];exact up _ _ b1 rfl
       .rw[sh ce];exact By (aj p2)
       .rw[List.map_append];exact(a2.set p2 rfl _).set s5 rfl _
       .rw[sh ce,sh ce];exact up _ _ b3 rfl
       .rw[sh ce,sh ce];exact up _ _ b4 rfl
       .exact By (aj s5)
      exact⟨H',e1,e2⟩)
    rw[f_]at hp;obtain⟨h0,W,⟨c,I,z⟩,h3,h4,h5⟩:=hp;refine dC (g:=I6) (by rw[mF,n8];simp[cr]) he ?_;refine dX h5 ce ?_;refine au (au (aF (.inl rfl) ?_));simp[O,a8 (n:=1)];refine next _ _ c A (by simp[K]) (by simp[S]) (by simp[B]) (by simp[U]) bv ?_ ?_ ?_ ?_ (z.set h5 rfl _) b_ m
    .rw[sh ce];exact h0
    .rw[sh ce];exact W
    .rw[sh ce];exact I
    .rw[sh ce];exact h4
   refine di (λn st=>(n=1/\∃t,st=⟨t,[],[.box [C.f (sl s.cg (aK s.cs)),C.f (fi s.len),C.f (sl s.xg (ay s.xs))] 0,.box [Z u,Z v] 0,.box [.f .aN] 0]⟩/\t.g 2=.c (.ptr 0 0 0)/\t.g 3=.c (.ptr 1 0 0)/\t.g 6=.c (.ptr 2 0 0)/\t.g 44=G (sl s.cg (aK s.cs))/\t.g 45=vi 1/\t.g 46=vi 0)\/
    (n=0/\∃(t:T) (H:an) (c:C) (A:List Int),st=⟨t,[.dR 4],H⟩/\t.g 2=.c (.ptr 0 0 0)/\t.g 3=.c (.ptr 1 0 0)/\t.g 6=.c (.ptr 2 0 0)/\t.g 45=vi 1/\t.g 46=vi 1/\H[0]?=E [C.f (sl s.cg (aK s.cs)),C.f (fi s.len),C.f (sl s.xg (ay s.xs))]/\H[1]?=E [Z u,Z v]/\H[2]?=E [c]/\
     H[4]?=aa (.dH ae)/\Gb H c (A.map (bU s.len J))/\A.Pairwise (· < ·)/\(∀d,d∈A↔sF (cu f p l) (E6 s.len J u) J v d))) 1 (.inl ⟨rfl,_,rfl,by simp[K],by simp[S],by simp[B],bv,by simp[o_],bv⟩) ?_
   rintro n st (⟨rfl,t,rfl,K,S,B,m_,U,O⟩|⟨rfl,t,H,c,A,rfl,K,S,B,U,O,h0,W,I,h4,z,b_,m⟩) ih
   case inr=>exact d_ t H c A K S B U O h0 W I h4 z b_ m
   apply ai;simp[U,O];refine aE (aq bv (aQ ?_));apply aE;apply ax;apply ai;simp[m_,O,i6,N];apply ai;simp[K,S,i9];apply ax;exact range _ (by simp[K]) (by simp[S]) (by simp[B]) bv (by simp[U]) (by simp[O]) bv λt' H c A q2 q3 q6 r7 r9 h0 W I h4 z b_ m=>
    ih 0 _ ap (.inr ⟨rfl,t',H,c,A,rfl,q2,q3,q6,r7,r9,h0,W,I,h4,z,b_,m⟩)
  apply ai;simp[aG.row];apply aU;simp[d9,show¬ u < -2251799813685248 by omega,show¬ 2251799813685248<v by omega,show¬ v<u by omega];refine bG bv ?_;apply aU;simp[a8 (n:=v-u),show¬ 5760000<v-u by omega];refine bG bv ?_;apply ai;simp;apply aU;simp[show¬ u=v by omega];refine bG bv ?_;exact c_ _ bv bv bv
 obtain⟨r,⟨g,L,W,I,rfl⟩,h⟩:=key;exact⟨g,L,W,I,bf.eq h⟩
theorem uB(y:cL a)(j:dM a z)(k:z.fr<=60000000) :
  ∃g L,(z∈L/\L.length<=100)/\bf tab mb [.a (a.row.map .f),.a [Z z.fr,Z z.to]]=Eq (.t [G (sl g (ay L)),vi 0]):=by
 have F:=y.two;obtain⟨m,X,Y,-,-,u⟩:=y;have H:0<=z.fr/\z.to=z.fr+a.len/\Je a z.fr z.to z:=by
  rcases j with⟨c,v,d,⟨t,b,A,q⟩,rfl⟩|j
  .rcases m with e|⟨f,p,l,I,e,J,K,h,i,ln,lo,s,m1⟩
   .grind
   rw[e,If]at v;subst v;rw[If]at b;subst b;have x:f<=d/\bE (cu f p l) d=ae:=by
    simp[wS,hasB,bE,cu,A]at q ⊢
    grind
   refine⟨by simp only[bU];omega,by simp only[bU],.inl ⟨f,p,l,I,d,e,rfl,?_,x.1,x.2,?_⟩⟩
   .unfold E6;simp only[bU];omega
   .simp only[bU];omega
  .obtain⟨B,M,N,O,Q⟩:=u z j;exact⟨ap,B,.inr ⟨j,by simp[mH];omega⟩⟩
 obtain⟨g,L,⟨-,S⟩,U,W⟩:=ES 2 ap a F z.fr z.to ap ap ap ap ap
 grind
theorem Ry{s:aG}(d:cL s){a b:Int}(a0:0<=a)(a1:a<=5000000)(b0:a<b)(b1:b<=a+1000) :
  ∃g L,L.length<=100/\bf tab mb [.a (s.row.map .f),.a [Z a,Z b]]=Eq (.t [G (sl g (ay L)),vi 0]):=by
 obtain⟨g,L,-,j,l⟩:=ES 2 ap s d.two a b ap ap ap ap ap
 grind
theorem uj(g:Tg)(l:List aA)(X:l.length<=1000)(x:aA):bf tab abZ [G (sl g (ay l)),.a (x.row.map .f)]=Eq (vb (l.any λy=>xz y x)):=Kf.eq (by
 refine dd rfl rfl λH Q M=>?_;have d:∀J:an,bA J (.f (sl g (ay l)))=aa l.length:=λJ=>by simp
 obtain⟨L,I⟩:=aH (sl g (ay l));rw[<-I]at d ⊢;apply ai;simp[aA.row];obtain⟨F,b⟩:=aH (H++[bV.box [Z x.day,Z x.fr,Z x.to] 0]);have S:aV F (aa 3) (.c (.ptr H.length 0 0))=aa (.a [Z x.day,Z x.fr,Z x.to]):=by
  rw[b];simp[aV,az,aX]
 rw[<-b];apply aU;simp;refine jI l.length (λj t J=>J=F/\t.g 0=G L/\t.g 3=.c (.ptr H.length 0 0)/\∀(i:Nat) (hi:i<l.length),i<j->xz l[i] x=ag) ap ce bv ⟨rfl,bv,bv,λi hi h=>by omega⟩ ?_ ?_ ?_
 .rintro j t J W z ⟨rfl,s,u,B⟩ v A;simp[v,s,d];exact A _ ⟨rfl,by simp[s],by simp[u],B⟩ (by simp[v]) bv
 .rintro j t J z ⟨rfl,s,u,B⟩ v next
  have m:=λK:an=>cf (H:=K) (bI l) (dn z);have q:=λK:an=>bu (H:=K) (g:=g) (rows:=ay l) (sz:=3) (k:=.i64) (i:=(j:Int)) ap (by simpa using z);rw[<-I]at q;simp only[aA.row,IT,agN]at m;apply ax;apply ai;simp at q;simp[s,u,v,S,q,m,-aw];by_cases e:l[j].day=x.day/\l[j].fr=x.fr/\l[j].to=x.to
  .refine aq (by simp[e]) ?_;apply ai;simp;refine av (M _ _ ?_);have:(l.any λy=>xz y x)=ae:=aie.2 ⟨l[j],IN z,by simp[xz,e]⟩;simp[this,b]
  .refine aC ge ?_;refine aQ (au (next _ _ ⟨rfl,by simp[s],by simp[u],λi hi O=>?_⟩ (by simp[v])));by_cases N:i=j
   .subst N;simp[xz];omega
   .grind
 .rintro t J ⟨rfl,s,u,B⟩ -;apply ai;simp;refine av (M _ _ ?_);have:(l.any λy=>xz y x)=ag:=by
   rw[List.any_eq_false];intro y U;obtain⟨i,hi,rfl⟩:=ag1 U
   grind
  simp[this,b])
theorem IJ(g:Tg)(b:jj l J)(i k:Int)(q:0<=i)(s:i<=2)(u:0<=k)(v:k<=2):bf tab vL [G (sl g (rows l)),vi i,vi k]=Eq (vb (fQ J i.toNat k.toNat)):=by
 have x:=fR b;have:=(LG g l i k ap (Cd b)).eq;have hi:i.toNat<l.length:=ii
 have d:k.toNat<l.length:=ii
 have e:pk l i k=fQ J i.toNat k.toNat:=by
  rw[<-vm b hi d];unfold pk;have j:bR i 0 ((l.length:Int)-1)=ae:=by simp[bR];omega
  have m:bR k 0 ((l.length:Int)-1)=ae:=by simp[bR];omega
  rw[j,m,tL b,BY hi,BY d];simp
 grind
theorem C5(v:cL a)(m:dM a z):0<=z.day/\z.day<=z.fr/\60<=z.fr/\z.to=z.fr+a.len:=by
 obtain⟨g,L,M,-,-,j⟩:=v;rcases m with⟨c,q,d,⟨t,x,y,u⟩,rfl⟩|m
 .rcases g with e|⟨f,p,l,b,e,A,B,O,Q,ln,lo,N,m1⟩
  .grind
  rw[e,If]at q;subst q;show 0<=d/\d<=d*1440+b/\60<=d*1440+b/\d*1440+b+a.len=d*1440+b+a.len;omega
 .obtain⟨F,H,I,J,K⟩:=j z m;omega
theorem ne0(h:60<=z.fr):(z.day == 0&&(z.fr == 0&&z.to == 0))=ag:=by
 grind
theorem FE(m_:bf tab PO [] (vb ae))(B:List (List Int))(hB:B.length=3)(hr:∀r∈B,r.length=5/\∀n∈r,0<=n/\n<=255)(g:Tg)(l:List oP)(hl:l.length<=9223372036854775807)(hx:∀x∈l,x.OK)
  (y:oP) (hy:y.OK) :
  bf tab yd [.a ((jm B).flatten.map .f),G (sl g (gP l)),.a (y.row.map .f)] (vb ae):=by
 have m_:=m_.eq;obtain⟨r,x_,U⟩:=Sr B hB hr;obtain⟨rs,hh,ht,rfl⟩:=U' x_;have U:=bf.eq U;have k_:(jm B).flatten.length=15:=by
  have hg:cZ 5 (jm B):=λr hm=>by
   obtain⟨r',x6,rfl⟩:=agX.1 hm
   grind
  rw[cz hg];simp[jm,hB]
 obtain⟨gs,ss,y6,y8,e_,hst⟩:=NL g l hl hx;obtain⟨x,i7,b_⟩:=JW y hy;have b_:=b_.eq;obtain⟨O,hO⟩:=ZW ht;obtain⟨n_,r7⟩:=fF i7;obtain⟨o_,r_⟩:=sN ht ⟨n_,r7⟩;have N:cL x.st:=i7.2.2.2.2.2.2.2.2;obtain⟨xs,afv⟩:=aH ((jm B).flatten);rw[<-afv]at U k_ ⊢;have y_:List.take 15 (xs.map C.f)=xs.map C.f:=agY (by simp[k_]);have z7:y.row.length=10:=rfl;have n8:List.take 10 (y.row.map C.f)=y.row.map C.f:=agY (by simp[z7]);generalize y.row=yr at b_ z7 n8 ⊢;obtain⟨A,hA⟩:=aH (sl x.st.cg (aK x.st.cs));obtain⟨E9,hE⟩:=aH (sl x.st.xg (ay x.st.xs));have j6:x.row.map C.f=[Z x.meet,Z x.room,Z x.eo,Z x.size,.f A,Z x.st.len,.f E9]:=by rw[hA,hE];rfl
 have i6:x.st.row.map C.f=[.f A,Z x.st.len,.f E9]:=by rw[hA,hE];rfl
 obtain⟨rm,c9⟩:=aH (sl .es (rows rs));obtain⟨sd,c_⟩:=aH (sl gs (aW ss));rw[<-c9]at U;rw[<-c_]at hst;rw[j6]at b_;have hrl:=fR ht;have hrb:=tK ht r_;obtain⟨d,hd⟩:=aH (jx rs x);have g_:(rows rs)[x.room.toNat]?=aa d.row:=by rw[rows,ahF,o_,hd];rfl
 obtain⟨ho,x9⟩:=hO _ r_;rw[<-hd]at ho x9;obtain⟨fl,p9⟩:=aH ((rows rs).flatten);obtain⟨r6,j5⟩:=aH (x.room.toNat*15);have v_:∀H:an,bO H 15 ab (G rm) (vi x.room)=aa (G (.fp fl r6)):=λH=>by
  rw[c9,p9,j5];exact bu (H:=H) (g:=.es) (rows:=rows rs) (sz:=15) (k:=.i64) (i:=x.room) n_ (by simp[rows];omega)
 have t_:∀H:an,aV H ab (G (.fp fl r6))=aa (vi d.cap):=λH=>by
  rw[p9,j5];exact gM (eh rs) g_ rfl
 have lop:∀H:an,aV H (aa 10) (G (.fp fl (r6+3)))=aa (.a ((O d).row.map .f)):=λH=>by
  rw[p9,j5,C6 (eh rs) g_ ap,<-x9];rfl
 have lq:∀H:an,aV H ab (G (.fp fl (r6+13)))=aa (G (sl d.qg (fm d.q))):=λH=>by
  rw[p9,j5];exact ib (eh rs) g_ rfl
 refine bD rfl rfl λQ hQ=>?_;have d_:∀(a0 a1 a2 a3 a4 a5 a6 a7 e:Int),bf tab jB [G rm,G sd,.a [Z x.meet,Z x.room,Z x.eo,Z x.size,.f A,Z x.st.len,.f E9]]=Eq (.t [.a [Z a0,Z a1,Z a2,Z a3,Z a4,Z a5,Z a6,Z a7],vi e])->
   (∀(t:T) (K:an),t.g 7=vb ae->t.g 8=G rm->t.g 9=G sd->t.g 10=.c (.ptr 2 0 0)->t.g 11=.c (.ptr 3 0 0)->t.g 12=vi e->K=[.box (xs.map .f) 0,.box (yr.map .f) 0,.box [Z x.meet,Z x.room,Z x.eo,Z x.size,.f A,Z x.st.len,.f E9] 0,.box [Z a0,Z a1,Z a2,Z a3,Z a4,Z a5,Z a6,Z a7] 0]->
    WP tab yd ab [.code OZ] ⟨t,[],K⟩ Q)->WP tab yd ab [.code IX] ⟨dw [P.nat 0,P.nat 1,P.nat 2] [.a (xs.map .f),G (sl g (gP l)),.a (yr.map .f)] .e,[],[]⟩ Q:=by
  intro a0 a1 a2 a3 a4 a5 a6 a7 e S go;apply ai;simp;apply ai;simp[m_];apply ai;simp[k_,y_,U];apply ai;simp[hst];apply ai;simp[z7,n8,b_];apply ai;simp[S];exact go _ _ bv bv bv bv bv bv rfl
 show WP tab yd ab [.code IX] ⟨dw [P.nat 0,P.nat 1,P.nat 2] [.a (xs.map .f),G (sl g (gP l)),.a (yr.map .f)] .e,[],[]⟩ Q;by_cases m9:py ss x=ae
 .have S:=D2 .es gs ht ss y6 y8 e_ x i7 m9;rw[j6,<-c9,<-c_]at S;refine d_ _ _ _ _ _ _ _ _ _ S λt K X g8 W F v a_ hK=>?_;subst hK
  repeat' first
   |(refine av (hQ _ _ ?_))
   |(apply aE)
   |(apply ax)
   |(apply aQ)
   |(refine aq ?_ ?_;focus (simp;done))
   |(refine aC ?_ ?_;focus (simp;done))
   |(apply ba;simp[X,g8,W,F,v,a_,aX,S])
  simp
 have m9:py ss x=ag:=by simpa using m9
 obtain⟨rf,h8,u_,S⟩:=G4 .es gs ht hO ss y6 y8 e_ x i7 m9;have d9:=λb h=>QA .es gs ht ss y6 y8 e_ x i7 m9 rf h8 b h;rw[j6,<-c9,<-c_]at S;simp only[j6,<-c9,<-c_]at d9;rcases u_ with⟨rfl,-⟩|⟨-,hR⟩
 .have hc:=d9 ag (ID _ _ x N);refine d_ _ _ _ _ _ _ _ _ _ S λt K X g8 W F v a_ hK=>?_;subst hK;simp only[mz,lM,IT,agN]at hc
  repeat' first
   |(refine av (hQ _ _ ?_))
   |(apply aE)
   |(apply ax)
   |(apply aQ)
   |(refine aq ?_ ?_;focus (simp;done))
   |(refine aC ?_ ?_;focus (simp;done))
   |(apply ba;simp[X,g8,W,F,v,a_,aX,hc])
  simp
 cases hR with
 |full h=>
  have hc:=d9 ae (by rw[c9,c_];exact ND .es ht _ x n_ r7 o_ h);have i9:d.cap<x.size:=by rw[hd];exact h
  refine d_ _ _ _ _ _ _ _ _ _ S λt K X g8 W F v a_ hK=>?_;subst hK;simp only[mz,IT,agN]at hc
  repeat' first
   |(refine av (hQ _ _ ?_))
   |(apply aE)
   |(apply ax)
   |(apply aQ)
   |(refine aq ?_ ?_;focus (simp;done))
   |(refine aC ?_ ?_;focus (simp;done))
   |(apply ba;simp[X,g8,W,F,v,a_,aX,hc,v_,t_,i9])
  simp
 |hrs z i9 hz h hb=>
  obtain⟨b0,b1,b2,b3⟩:=C5 N hz;have s7:=N.2.1;have j_:=N.2.2.1;have i_:=og N hz ap;have l_:=ne0 b2;obtain⟨gL,L,⟨n9,hLl⟩,I⟩:=uB N hz ap;have M:=uj gL L ap z;rw[show(L.any λy=>xz y z)=ae from aie.2 ⟨z,n9,qo z⟩]at M;rw[i6]at I;simp only[aA.row,IT,agN]at M;generalize sl gL (ay L)=LL at I M;have hal:ey (O d).lo (O d).hi (O d).cl z.fr z.to=ag:=by rw[hd];exact h
  have hc:=d9 ae (by rw[c9,c_];exact NF .es ht _ x n_ r7 o_ (by rw[<-hd];exact ho) (by rw[<-hd];exact x9) N i_ ap ap ap ap h);have j8:=A4 ho z.fr z.to ap ap ap ap;rw[hal]at j8;simp only[jD.row,mT,IT,agN]at j8 lop;generalize pO (O d).lo (O d).hi=hq at *;generalize vU (O d).cl=cc at *;refine d_ _ _ _ _ _ _ _ _ _ S λt K X g8 W F v a_ hK=>?_;subst hK;simp only[mz,IT,agN]at hc
  repeat' first
   |(refine av (hQ _ _ ?_))
   |(apply aE)
   |(apply ax)
   |(apply aQ)
   |(refine aq ?_ ?_;focus (simp;done))
   |(refine aC ?_ ?_;focus (simp;done))
   |(apply ba;simp[X,g8,W,F,v,a_,aX,hc,v_,lop,I,M,j8,l_,deep])
  simp
 |cl s0 p_ hm0 s_ z Y hz hY hcc bX bY=>
  obtain⟨b0,b1,b2,b3⟩:=C5 N hz;have s7:=N.2.1;have j_:=N.2.2.1;have i_:=og N hz ap;have l_:=ne0 b2;obtain⟨gL,L,⟨n9,hLl⟩,I⟩:=uB N hz ap;have M:=uj gL L ap z;rw[show(L.any λy=>xz y z)=ae from aie.2 ⟨z,n9,qo z⟩]at M;rw[i6]at I;simp only[aA.row,IT,agN]at M;generalize sl gL (ay L)=LL at I M;have h_:cL s0.st:=(e_ s0 p_).2.2.2.2.2.2.2.2;obtain⟨y0,y1,y2,y3⟩:=C5 h_ hY;have agK:=h_.2.1;have ago:=h_.2.2.1;have hc:=d9 ae (by rw[c9,c_];exact FM .es gs ht ss ap e_ x i7 p_ s_ hm0 i_ (og h_ hY ap) ap ap hcc);have hls:∀s:aJ,∃(gl:Tg) (l:List aA),s∈ss->(l.length<=100/\bf tab mb [.a (s.st.row.map .f),.a [Z Y.fr,Z Y.to]]=Eq (.t [G (sl gl (ay l)),vi 0])/\(s=s0->Y∈l)):=λs=>by
   by_cases hs:s∈ss
   .by_cases e:s=s0
    .subst e;obtain⟨gl,l,⟨h1,h2⟩,h3⟩:=uB h_ hY ap
     grind
    .obtain⟨gl,l,h2,h3⟩:=Ry (e_ s hs).2.2.2.2.2.2.2.2 (a:=Y.fr) (b:=Y.to) ap ap ap ap
     grind
   .grind
  obtain⟨GL,hGL⟩:=Classical.skolem.1 hls;obtain⟨LS,z_⟩:=Classical.skolem.1 hGL;obtain⟨j7,r9⟩:∃j7:aJ->Bool,∀s,j7 s=(decide (s.meet=s0.meet)&&((LS s).any λy=>xz y Y)&&fQ hh x.room.toNat s.room.toNat):=⟨_,λ_=>rfl⟩
  have hc0:j7 s0=ae:=by
   have:((LS s0).any λy=>xz y Y)=ae:=aie.2 ⟨Y,(z_ s0 p_).2.2 rfl,qo Y⟩;rw[r9,IK,s_,this];simp
  have hsh:∀s∈ss,bf tab vL [G rm,vi x.room,vi s.room]=Eq (vb (fQ hh x.room.toNat s.room.toNat)):=λs hs=>by
   rw[c9];exact IJ .es ht _ _ n_ r7 (fF (e_ s hs)).1 (fF (e_ s hs)).2
  have afs:ss.length<=9223372036854775807:=ii
  have y7:∀H:an,bA H (.f sd)=aa ss.length:=λH=>by rw[c_];simp
  have afr:∀(j:Nat),j<ss.length->∀H:an,bO H 7 ab (G sd) (vi j)=aa (G (.fp (aW ss).flatten (j*7))):=λj hj H=>by
   rw[c_];simpa using bu (H:=H) (g:=gs) (rows:=aW ss) (sz:=7) (k:=.i64) (i:=(j:Int)) ap (by simpa using hj)
  refine d_ _ _ _ _ _ _ _ _ _ S λt K X g8 W F v a_ hK=>?_;obtain⟨K1,f_⟩:=aH (K++[.box [Z 0,Z 0,Z 0] 0]:an);subst hK;simp only[mz,IT,agN]at hc;simp only[ahO,ahL]at f_
  repeat' first
   |(refine av (hQ _ _ ?_))
   |(apply aE)
   |(apply aQ)
   |(refine aq ?_ ?_;focus (simp;done))
   |(refine aC ?_ ?_;focus (simp;done))
   |(apply ba;simp[X,g8,W,F,v,a_,aX,hc,I,M,l_,deep])
  have r5:aV K1 (aa 2) (.c (.ptr 3 6 0))=aa (.a [Z Y.fr,Z Y.to]):=by rw[f_];simp[aX]
  have z8:aV K1 (aa 3) (.c (.ptr 3 5 0))=aa (.a [Z Y.day,Z Y.fr,Z Y.to]):=by rw[f_];simp[aX]
  have r0:aV K1 ab (.c (.ptr 3 0 0))=aa (vi 15):=by rw[f_];simp
  have r1:aV K1 ab (.c (.ptr 3 1 0))=aa (vi s0.meet):=by rw[f_];simp
  have q0:aV K1 ab (.c (.ptr 2 0 0))=aa (vi x.meet):=by rw[f_];simp
  have q1:aV K1 ab (.c (.ptr 2 1 0))=aa (vi x.room):=by rw[f_];simp
  refine jI ss.length (λj t J=>J=K1/\t.g 7=vb ae/\t.g 8=G rm/\t.g 9=G sd/\t.g 10=.c (.ptr 2 0 0)/\t.g 11=.c (.ptr 3 0 0)/\∀(i:Nat) (hi:i<ss.length),i<j->j7 ss[i]=ag) afs ce bv
   ⟨f_.symm,by simp[X],by simp[g8],by simp[W],by simp[F],by simp[v],λi hi h=>by omega⟩ ?_ ?_ ?_
  .rintro j t J LL' hj ⟨rfl,X,g8,W,F,v,hn⟩ ha hLL;simp[ha,W,y7];exact hLL _ ⟨rfl,by simp[X],by simp[g8],by simp[W],by simp[F],by simp[v],hn⟩ (by simp[ha]) bv
  .rintro j t J hj ⟨rfl,X,g8,W,F,v,hn⟩ ha next
   have g_:=fP hj;obtain⟨s,hs⟩:=aH (ss[j]);have hsm:s∈ss:=by rw[hs];exact IN hj
   rw[<-hs]at g_;obtain⟨hl1,w_,-⟩:=z_ s hsm;have M:=uj (GL s) (LS s) ap Y;have j9:=r9 s;have t8:=hsh s hsm;have k0:∀H:an,aV H ab (G (.fp (aW ss).flatten (j*7)))=aa (vi s.meet):=λH=>gM (cY ss) g_ rfl;have k1:∀H:an,aV H ab (G (.fp (aW ss).flatten (j*7+1)))=aa (vi s.room):=λH=>ib (cY ss) g_ rfl;have k4:∀H:an,aV H (aa 3) (G (.fp (aW ss).flatten (j*7+4)))=aa (.a (s.st.row.map .f)):=λH=>by
    rw[C6 (cY ss) g_ ap];rfl
   have q_:=afr j hj;generalize (aW ss).flatten=fl2 at *;have hsr:s.st.row.map C.f=[.f (sl s.st.cg (aK s.st.cs)),Z s.st.len,.f (sl s.st.xg (ay s.st.xs))]:=rfl;rw[hsr]at w_ k4;generalize sl s.st.cg (aK s.st.cs)=A2 at *;generalize sl s.st.xg (ay s.st.xs)=E2' at *;simp only[aA.row,IT,agN]at M;obtain⟨Uh,afk⟩:=aH ((LS s).any λy=>xz y Y);rw[<-afk]at M j9;generalize sl (GL s) (ay (LS s))=L2 at M w_;obtain⟨shr,afq⟩:=aH (fQ hh x.room.toNat s.room.toNat);rw[<-afq]at t8 j9;apply ax;apply ai;simp[W,v,ha,q_,k4,r5,w_,deep,-aw];apply aE
   suffices go:∀u:T,u.g 7=vb ae->u.g 8=G rm->u.g 9=G sd->u.g 10=.c (.ptr 2 0 0)->u.g 11=.c (.ptr 3 0 0)->u.g 18=vi (j:Nat)->u.g 206=vb (j7 s)->WP tab yd ab [.code O3,.inBlock 1,.code O4,.inLoop O0,.inBlock 0,.code O5] ⟨u,[],J⟩ Q by
    apply ba;by_cases m:s.meet=s0.meet
    .cases Uh
     .simp[X,g8,W,F,v,ha,q_,k0,k1,r1,z8,M,m,-aw];exact go _ (by simp[X]) (by simp[g8]) (by simp[W]) (by simp[F]) (by simp[v]) (by simp[ha]) (by simp[j9])
     .simp[X,g8,W,F,v,ha,q_,k0,k1,r1,z8,M,m,q1,t8,-aw];exact go _ (by simp[X]) (by simp[g8]) (by simp[W]) (by simp[F]) (by simp[v]) (by simp[ha]) (by simp[j9,m])
    .simp[X,g8,W,F,v,ha,q_,k0,k1,r1,z8,M,m,-aw];exact go _ (by simp[X]) (by simp[g8]) (by simp[W]) (by simp[F]) (by simp[v]) (by simp[ha]) (by simp[j9,m])
   clear X g8 W F v ha;intro u X g8 W F v ha i8;cases hb:j7 s with
   |true=>
    rw[hb]at i8;refine aq (by simp[i8]) ?_;apply ai;simp[X,F,v,r0,r1,q0,hm0,-aw];refine av (hQ _ _ ?_);simp
   |false=>
    rw[hb]at i8;refine aC (by simp[i8]) (aQ (au (next _ _ ⟨rfl,by simp[X],by simp[g8],by simp[W],by simp[F],by simp[v],λi hi hij=>?_⟩ (by simp[ha]))))
    grind
  .rintro t J ⟨-,-,-,-,-,-,hn⟩ -;obtain⟨i,hi,e⟩:=ag1 p_
   grind
 |qu i9 hm q hq hq1 O1 O2 z x8 hmo=>
  obtain⟨hz,-,-⟩:=Fj N hq hq1 (y:=z) (by rw[x8];simp);obtain⟨-,hzq,-,-⟩:=pc N (x:=z) (q:=q) (by rw[x8];simp);obtain⟨b0,b1,b2,b3⟩:=C5 N hz;have s7:=N.2.1;have j_:=N.2.2.1;have i_:=og N hz ap;have l_:=ne0 b2;obtain⟨gL,L,⟨n9,hLl⟩,I⟩:=uB N hz ap;have M:=uj gL L ap z;rw[show(L.any λy=>xz y z)=ae from aie.2 ⟨z,n9,qo z⟩]at M;rw[i6]at I;simp only[aA.row,IT,agN]at M;generalize sl gL (ay L)=LL at I M;have hc:=d9 ae (by rw[c9,c_];exact IC .es gs ht ss ap e_ x i7 o_ hm rfl hq hq1 x8 hmo);have u9:x.size<=d.cap:=by rw[hd];exact i9
  have hql:0<d.q.length:=by
   have x6:(sS x.eo d.q).2=ae:=by rw[hd];exact hm
   cases hdq:d.q with
   |nil=>rw[hdq]at x6;cases x6
   |cons a b=>simp
  have hlq:∀H:an,bA H (.f (sl d.qg (fm d.q)))=aa d.q.length:=λH=>by simp[fm]
  generalize sl d.qg (fm d.q)=QQ at hlq lq;refine d_ _ _ _ _ _ _ _ _ _ S λt K X g8 W F v a_ hK=>?_;subst hK;simp only[mz,IT,agN]at hc
  repeat' first
   |(refine av (hQ _ _ ?_))
   |(apply aE)
   |(apply ax)
   |(apply aQ)
   |(refine aq ?_ ?_;focus (simp;done))
   |(refine aC ?_ ?_;focus (simp;done))
   |(apply ba;simp[X,g8,W,F,v,a_,aX,hc,v_,t_,lq,I,M,l_,hlq,hql,u9,deep])
  simp
def Au(b:List V)(h:xD Tryz.prog [23,24,27] b):bf tab yd b (vb ae):=by
 obtain⟨a0,_,rfl,d,a1,_,rfl,j,z,_,rfl,m,rfl⟩:=h;obtain⟨B,rfl,q,u⟩:=Nx d;obtain⟨g,l,rfl,s,v⟩:=Sk j;obtain⟨y,rfl,x⟩:=UZ m;exact FE afL B q u g l s v y x
end Go.Proofs.YtelifakcllijpaaGreat
