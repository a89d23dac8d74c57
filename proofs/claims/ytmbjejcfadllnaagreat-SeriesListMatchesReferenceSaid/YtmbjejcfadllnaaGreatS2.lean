/-
  ajK the oI jQ and the nV answer, for all arguments of their kind, in the small machine: part 2.
-/
import Derived.Test.YtmbjejcfadllnaaGreatS1
import Derived.Test.YtmbjejcfadllnaaGreatK4
open Option renaming some → ab,none → ae
open Bool renaming true → ag,false → ah
open Go.IntKind renaming wrap → ai
open List renaming getElem?_append_left → AI, getElem?_set_ne → By, getElem?_set_self → OF, take_of_length_le → at6, set_cons_succ → avs, getElem?_eq_getElem → AT, getElem_mem → IS, all_eq_true → at4, getElem?_eq_none_iff → auG, getElem?_eq_some_iff → BY, find?_eq_some_iff_getElem → avw, find?_eq_none → avi, getElem_of_mem → at3, pairwise_iff_getElem → auc, mem_cons_self → at2, mem_map → auy, eq_nil_of_length_eq_zero → api, mem_append → at9, map_cons → anc, map_nil → atN, length_pos_iff → auF, length_eq_zero_iff → aun, getElem?_append_right → at1, pairwise_append → auB, pairwise_singleton → auA, take_succ_eq_append_getElem → at0, take_length → aul, map_append → auR, length_map → aur, mem_of_mem_drop → ave, mem_of_mem_take → au3, foldl_cons → auV
open Nat renaming le_refl → aft, lt_or_eq_of_le → auk, eq_zero_or_pos → auv, lt_trichotomy → auj, zero_add → auJ
open Int renaming mul_ediv_add_emod → auE, emod_nonneg → aum, emod_lt_of_pos → auq, ediv_nonneg → au4, add_mul → avg, one_mul → au7, mul_comm → auY, mul_nonneg → avl, natCast_zero → au5, add_zero → avm, le_refl → au0, toNat_of_nonneg → auU, tmod_eq_emod_of_nonneg → auO
open Option renaming map_eq_some_iff → IN
set_option linter.unusedVariables false
set_option linter.constructorNameAsVariable false
set_option linter.unusedSimpArgs false
set_option linter.unusedSectionVars false
set_option linter.unnecessarySimpa false
set_option maxRecDepth 100000
set_option maxHeartbeats 2000000
namespace Go.Proofs.YtmbjejcfadllnaaGreat
open Go Km
theorem abc{z:ZD}(E:z.c<3){fl:List FC}{k m y:Nat}{r q:ew}{n:Int}(X:yB fl (sl z.yg (bT z.yr)) k m r q)(a9:(1:Int)-k=m)(hr:r.OK)(hq:q.OK)(hy:y<nY z.c)
  {t:T} {J:an} {cl:C} {d:List bA} (hJ:J[0]?=ab (.box (z.row.map .f) 0)) (hK:J[1]?=ab (.box (ff z cl n) 0)) (hL:LR J cl 2 (aQ d)) (d9:d.length≤100)
  (W:t.g 1=.c (.ptr 0 0 0)) (Y:t.g 4=.c (.ptr 1 0 0)) (Z:t.g 8=vi (km z.c y)) (g9:t.g 9=vi ((y:Int)+1)) (v:t.g 62=.c (.f (sl z.yg (bT z.yr)))) (F:t.g 63=vi 2) (u:t.g 64=vi (k:Nat)) {K:List cG} {Q:Option ay→St→Prop}
  (next:∀(t:T) (J:an) (cl:C),J[0]?=ab (.box (z.row.map .f) 0)→J[1]?=ab (.box (ff z cl n) 0)→LR J cl 2 (aQ (d++ek z.c (y+1) r q))→t.g 1=.c (.ptr 0 0 0)→t.g 4=.c (.ptr 1 0 0)→t.g 8=vi (km z.c y)→t.g 9=vi ((y:Int)+1)→t.g 62=.c (.f (sl z.yg (bT z.yr)))→t.g 63=vi 2→t.g 64=vi (k:Nat) →
   WP tab.get 100 ae K ⟨t,[],J⟩ Q) :
  WP tab.get 100 ae (.code wV::K) ⟨t,[],J⟩ Q:=by
 have d_:=xK z.c;obtain⟨b0,b1⟩:=tU E (Nat.le_of_lt hy);have hf:=E0 E (y:=y+1) (by omega) (by omega) (b:=km z.c y) (by omega) (by omega) r hr;rw [show((y+1:Nat):Int)=(y:Int)+1 by omega]at hf;obtain⟨d0,d1⟩:=yQ (c:=z.c) (y:=y+1) (b:=km z.c y) (x:=r) (by omega) (by omega) hr;obtain⟨-,-,-,-,m0,m1,o0,o1⟩:=hr;obtain⟨-,-,-,-,-,-,p0,p1⟩:=hq;have j:ek z.c (y+1) r q=if iF (pI z.c (y+1) (km z.c y) r) (qT z.c (y+1) r) r.wk r.wd then [⟨kL (pI z.c (y+1) (km z.c y) r) (qT z.c (y+1) r) r.wk r.wd*1440+r.mi-q.off,r.off⟩]else []:=rfl;generalize hD:kL (pI z.c (y+1) (km z.c y) r) (qT z.c (y+1) r) r.wk r.wd=D at *;generalize hO:iF (pI z.c (y+1) (km z.c y) r) (qT z.c (y+1) r) r.wk r.wd=O at *;refine az ?_;apply aj;have N:=X.row;have hi:=X.i J;have jl:2≤J.length:=by have:=ax hK;omega
 obtain⟨g,l⟩:=aP (J++[.box (r.row.map .f) 0]:an);have z0:g[0]?=ab (.box (z.row.map .f) 0):=by rw [l,AI (by omega)];exact hJ
 have z1:g[1]?=ab (.box (ff z cl n) 0):=by rw [l,AI (by omega)];exact hK
 have zr:g[J.length]?=ab (.box (r.row.map .f) 0):=by rw [l];simp
 have H:LR g cl 2 (aQ d):=by rw [l];exact hL.push _
 have l1:g.length=J.length+1:=by rw [l];simp
 have b7:(r.row.map C.f)=[.f (fi r.mo),.f (fi r.wk),.f (fi r.wd),.f (fi r.mi),.f (fi r.off)]:=rfl;simp [v,u,hi,N,ew.row];rw [←b7,←l];apply aj;have d6:=iV z0 E;have d7:=eM z0 E;have d5:aV g (ab 5) (.c (.ptr J.length 0 0))=ab (.a (r.row.map .f)):=by simp [aV,zr,aF,ew.row,aK]
 have c9:aV g ae (.c (.ptr J.length 3 0))=ab (vi r.mi):=by simp [aV,zr,aF,ew.row,aK]
 have c_:aV g ae (.c (.ptr J.length 4 0))=ab (vi r.off):=by simp [aV,zr,aF,ew.row,aK]
 simp [W,Z,g9,d6,d5,hf,-av];apply aq;refine au (.inl rfl) ?_;simp;cases O with
 | false=>
  simp only [Bool.false_eq_true,if_false]at j;rw [j,List.append_nil]at next
  refine al (by simp) (aH (aw ?_));exact next _ g cl z0 z1 H (by simp [W]) (by simp [Y]) (by simp [Z]) (by simp [g9]) (by simp [v]) (by simp [F]) (by simp [u])
 | true=>
  simp only [if_true]at j;rw [j]at next
  refine ak (by simp) ?_;refine au (.inl rfl) ?_;have w1:=aN (n:=D*1440);have w2:=aN (n:=D*1440+r.mi);have w3:=aN (n:=D*1440+r.mi-q.off);have w4:ai .i64 (1-(k:Int))=m:=by rw [aN,a9]
  have a7:=X.i' g;have M:=X.of' g;have b_:=sy z1 E;obtain⟨S,s⟩:=aP (g++[.box [.f (fi (D*1440+r.mi-q.off)),.f (fi r.off)] 0]:an);have y0:S[0]?=ab (.box (z.row.map .f) 0):=by rw [s,AI (by omega)];exact z0
  have y1:S[1]?=ab (.box (ff z cl n) 0):=by rw [s,AI (by omega)];exact z1
  have B:LR S cl 2 (aQ d):=by rw [s];exact H.push _
  obtain⟨U,J3,L,I,A,d8⟩:=B.app (cD _) (by decide) (row:=[fi (D*1440+r.mi-q.off),fi r.off]) rfl (bytes:=16) (cB (by simp;omega) (by decide)) (b1:=g.length) (fl1:=0) (by rw [s];simp);have x0:=A.2 _ _ y0 (B.cw y0);have x1:=A.2 _ _ y1 (B.cw y1);have b9:=aqC (cl':=U) x1 E;have l2:S.length=g.length+1:=by rw [s];simp
  have l3:=A.1;have a_:aX U≠ab 1:=I.cw x1;simp [W,Y,u,b_,c9,c_,d7,a7,M,w1,w2,w3,w4,-av,-bs];rw [←s];simp [L,b9,-av,-bs];refine aw ?_;refine next _ (J3.set 1 (.box (ff z U n) 0)) U (by rw [By (by decide)];exact x0) (OF (by omega)) ?_ (by simp [W]) (by simp [Y]) (by simp [Z]) (by simp [g9]) (by simp [v]) (by simp [F]) (by simp [u])
  have e:aQ d++[[fi (D*1440+r.mi-q.off),fi r.off]]=aQ (d++[⟨D*1440+r.mi-q.off,r.off⟩]):=by simp [aQ,bA.row]
  rw [←e];exact I.set a_ _
theorem aqN{z:ZD}(N:z.c<3){r q:ew}(I:z.yr=[r,q])(hr:r.OK)(S:q.OK){y:Nat}{n:Int}(U:y<nY z.c)
  {t:T} {J:an} {cl:C} {A:List bA} (l:J[0]?=ab (.box (z.row.map .f) 0)) (x:J[1]?=ab (.box (ff z cl n) 0)) (d:LR J cl 2 (aQ A)) (X:A.length≤90)
  (g:t.g 1=.c (.ptr 0 0 0)) (s:t.g 4=.c (.ptr 1 0 0)) (u:t.g 8=vi (km z.c y)) (v:t.g 9=vi ((y:Int)+1)) {K:List cG} {Q:Option ay→St→Prop}
  (next:∀(t:T) (J:an) (cl:C),J[0]?=ab (.box (z.row.map .f) 0)→J[1]?=ab (.box (ff z cl n) 0)→LR J cl 2 (aQ (A++(ek z.c (y+1) r q++ek z.c (y+1) q r)))→t.g 1=.c (.ptr 0 0 0)→t.g 4=.c (.ptr 1 0 0)→t.g 8=vi (km z.c y)→t.g 9=vi ((y:Int)+1) →
   WP tab.get 100 ae K ⟨t,[],J⟩ Q) :
  WP tab.get 100 ae (.code wU::K) ⟨t,[],J⟩ Q:=by
 apply aj;have Y:(bT z.yr).length=2:=by simp [I]
 have O:∀ H:an,bJ H (.f (sl z.yg (bT z.yr)))=ab 2:=by intro H;rw [I];rfl
 simp [g,eM l N,-av,O];refine fE 2 (fun j t H=>H[0]?=ab (.box (z.row.map .f) 0)∧t.g 1=.c (.ptr 0 0 0)∧t.g 4=.c (.ptr 1 0 0)∧t.g 8=vi (km z.c y)∧t.g 9=vi ((y:Int)+1)∧t.g 62=.c (.f (sl z.yg (bT z.yr))) ∧
   ∃ cl,H[1]?=ab (.box (ff z cl n) 0)∧LR H cl 2 (aQ (A++((if 1≤j then ek z.c (y+1) r q else [])++(if 2≤j then ek z.c (y+1) q r else []))))) (by omega) (by decide) (by decide) (by simp) (by simp [I])
  ⟨l,by simp [g],by simp [s],by simp [u],by simp [v],by simp,cl,x,by simpa using d⟩ ?_ ?_
 ·clear l x d g s u v;rintro j t J Z ⟨l,g,s,u,v,b,cl,x,d⟩ L M W;have a:=jZ z.c (y+1) r q;have F:j=0∨j=1:=by omega
  rcases F with rfl | rfl
  ·simp at d;refine abc N (m:=1) (by rw [I];exact aiX z.yg r q) (by decide) hr S U l x d (by omega) (by simp [g]) (by simp [s]) (by simp [u]) (by simp [v]) (by simp [b]) (by simp [M]) (by simp [L]) ?_;intro t J cl l x d g s u v b B E;refine W _ _ ⟨l,by simp [g],by simp [s],by simp [u],by simp [v],by simp [b],cl,x,by simpa using d⟩ (by simp [E]) (by simp [B])
  ·simp at d;refine abc N (m:=0) (by rw [I];exact aiY z.yg r q) (by decide) S hr U l x d (by simp;omega) (by simp [g]) (by simp [s]) (by simp [u]) (by simp [v]) (by simp [b]) (by simp [M]) (by simp [L]) ?_;intro t J cl l x d g s u v b B E;refine W _ _ ⟨l,by simp [g],by simp [s],by simp [u],by simp [v],by simp [b],cl,x,by simpa using d⟩ (by simp [E]) (by simp [B])
 ·clear l x d g s u v;rintro t J ⟨l,g,s,u,v,b,cl,x,d⟩ L M;exact next _ J cl l x (by simpa using d) (by simp [g]) (by simp [s]) (by simp [u]) (by simp [v])
theorem ahF(z:ZD)(d:z.c<3){r q:ew}(hz:z.yr=[r,q])(hr:r.OK)(hq:q.OK){o:List bA}(ho:dK (oT z.c r q (nY z.c)) o)(hs:da o (cyc z.c*1440)=ag):∃ g,
  bB tab.get 100 [z.v]=Eq (.t [.c (.f (.fp (z.row++[sl g (aQ o),fi (cyc z.c)]) 0)),vb ag]):=by
 obtain⟨rr,⟨g,rfl⟩,hp⟩:∃ rr,(∃ g,rr=.t [.c (.f (.fp (z.row++[sl g (aQ o),fi (cyc z.c)]) 0)),vb ag])∧bB tab.get 100 [z.v] rr:=by
  refine bY rfl rfl fun Q hQ=>?_;apply aj;simp;have l_:([.box (z.row.map .f) 0]:an)[0]?=ab (.box (z.row.map .f) 0):=rfl;have m5:cyc z.c=91∨cyc z.c=217:=by unfold cyc jz;split<;>simp
  have m7:Nm z.c=2∨Nm z.c=5:=by unfold Nm;split<;>simp
  have d5:=yI d;have m_:=xK z.c;have a_:=ZD.tq d;have m9:(z.row.map C.f).length=8:=by simp [a_]
  have hd:List.drop 10 (z.row.map C.f++[C.f .aG,C.f (fi 0)])=[]:=List.drop_eq_nil_of_le (by simp [a_]);apply aj;simp [cA l_ d,-av,a_,List.take_append,at6,hd];have c_:z.row.map C.f++[C.f .aG,C.f (.int .i64 1)]=ff z (.f .aG) 1:=rfl;rw [c_];have k0:([.box (z.row.map .f) 0,.box (ff z (.f .aG) 1) 0]:an)[0]?=ab (.box (z.row.map .f) 0):=rfl;have k1:([.box (z.row.map .f) 0,.box (ff z (.f .aG) 1) 0]:an)[1]?=ab (.box (ff z (.f .aG) 1) 0):=rfl;apply aq;apply aj;simp [eM k0 d,-av,hz];refine aW (by simp) ?_;apply aj;simp [iV k0 d,-av,vH d];have s1:=ai1 (n':=(jz z.c:Nat)) k1 d;simp only [avs,List.set_cons_zero]at s1;apply aj;simp [s1,-bs];have m0:([.box (z.row.map .f) 0,.box (ff z (.f .aG) (jz z.c:Nat)) 0]:an)[0]?=ab (.box (z.row.map .f) 0):=rfl;have m1:([.box (z.row.map .f) 0,.box (ff z (.f .aG) (jz z.c:Nat)) 0]:an)[1]?=ab (.box (ff z (.f .aG) (jz z.c:Nat)) 0):=rfl;have m6:jz z.c=13∨jz z.c=31:=by unfold jz;split<;>simp
  have d8:bV .rem (vi (jz z.c:Nat)) (vi 7)=ab (vi (((jz z.c:Nat):Int) % 7)):=ke (by omega) (by omega);apply aq;apply aj;simp [d8];refine ak (by simp;omega) ?_;have s2:=ai1 (n':=cyc z.c) m1 d;simp only [avs,List.set_cons_zero]at s2;have hw:ai .i64 (((jz z.c:Nat):Int)*7)=cyc z.c:=by rw [aN];unfold cyc;omega
  refine au (.inl rfl) ?_;simp [aae m1 d,hw,s2,-av,-bs];obtain⟨H0,Y⟩:=aP ([.box (z.row.map .f) 0,.box (ff z (.f .aG) (cyc z.c)) 0]:an);have n0:H0[0]?=ab (.box (z.row.map .f) 0):=by rw [Y];rfl
  have n1:H0[1]?=ab (.box (ff z (.f .aG) (cyc z.c)) 0):=by rw [Y];rfl
  rw [←Y];clear m0 m1 k0 k1 s1 s2 d8;apply aj;simp [za n0 d,-av];apply aq;apply aj;simp;refine az ?_;refine bG (fun n s=>∃(y:Nat) (t:T) (J:an) (cl:C),s=⟨t,[],J⟩∧n=nY z.c-y∧y≤nY z.c∧J[0]?=ab (.box (z.row.map .f) 0)∧J[1]?=ab (.box (ff z cl (cyc z.c)) 0)∧LR J cl 2 (aQ (oT z.c r q y)) ∧
    t.g 1=.c (.ptr 0 0 0)∧t.g 4=.c (.ptr 1 0 0)∧t.g 8=vi (km z.c y)∧t.g 9=vi ((y:Int)+1)) (nY z.c)
   ⟨0,_,_,.f .aG,rfl,rfl,by omega,n0,n1,LR.nil _ _,by simp,by simp,by simp [km],by simp⟩ ?_
  rintro n s ⟨y,t,J,cl,rfl,rfl,hy,M,F,E,g1,m,g8,g9⟩ ih;obtain⟨b0,b1⟩:=tU d hy;apply aq;apply aj;simp [g1,m,g8,za M d,aae F d,-av,aN (n:=Nm z.c+cyc z.c)];by_cases d7:y<nY z.c
  ·have h1:=yJ z.c d7;refine ak (by simp;omega) (aH ?_);apply aq;refine az ?_;apply aq;have j_:=kd z.c r q y;refine aqN d hz hr hq d7 M F E (by omega) (by simp [g1]) (by simp [m]) (by simp [g8]) (by simp [g9]) ?_;clear g1 m g8 g9 M F E;intro t J cl M F E g1 m g8 g9;have d_:=E3 d (y:=y+1) (by omega) (by omega);rw [show((y+1:Nat):Int)=(y:Int)+1 by omega]at d_;have n5:sf z.c (y+1)≤18:=by
    have h1:=fN z.c (y+1) 1;have h2:=fN z.c (y+1) 2;unfold sf;omega
   refine au (.inl rfl) ?_;simp [g1,g8,g9,iV M d,-av,d_,aN (n:=km z.c y+(sf z.c (y+1):Nat))];refine aw ?_;refine au (.inl rfl) ?_;simp [g9,aN (n:=(y:Int)+1+1)];exact ih (nY z.c-(y+1)) _ (by omega) ⟨y+1,_,J,cl,rfl,rfl,by omega,M,F,E,by simp [g1],by simp [m],by simp [km],by simp⟩
  have l9:y=nY z.c:=by omega
  subst l9;rw [d5];refine al (by simp) ?_;refine bf (k':=[.code wW]) rfl ?_;have j_:=kd z.c r q (nY z.c);obtain⟨J2,hE,Z,l2,I,j9,l7⟩:=abv E (by omega);rw [Ok ho hs j9 l7]at I;have x0:=Z.2 _ _ M (E.cw M);have L:=Z.2 _ _ F (E.cw F);have c9:=hE.eq;apply aj;simp [m,sy F d,-av,c9];clear ih E M F hE c9 Z g8 g9;have n4:o.length≤28:=by have:=ho.len;omega
  have a9:∀ x ∈ o,pM x:=fun x hx=>qH d hr hq _ (aft _) x (ho.perm.subset hx);apply aq;apply aj;simp [m,sy L d,-av,I.len];refine fE o.length (fun j t H=>H[0]?=ab (.box (z.row.map .f) 0)∧H[1]?=ab (.box (ff z cl (cyc z.c)) 0)∧LR H cl 2 (aQ o)∧t.g 4=.c (.ptr 1 0 0)∧t.g 119=.c cl) (by omega) (by decide) (by decide) (by simp) (by simp)
   ⟨x0,L,I,by simp [m],by simp⟩ ?_ ?_
  ·clear m x0 L I;rintro i t J B ⟨x0,L,E,m,l⟩ ha hb nx;rcases E with⟨h,_⟩ | ⟨j8,b,O,rfl,a7⟩
   ·have:o=[]:=by simpa [aQ]using h
    subst this;simp at B
   rw [mE]at l L nx;have d6:=cD o;have o0:0<o.length:=by omega
   obtain⟨X,v⟩:=aP (J++[.box (o[i].row.map .f) 0]:an);have A:RB X b 2 O (aQ o):=by rw [v];exact a7.push _
   have jl:2≤J.length:=by have:=ax L;omega
   have y0:X[0]?=ab (.box (z.row.map .f) 0):=by rw [v,AI (by omega)];exact x0
   have W:X[1]?=ab (.box (ff z (.sl b 0 o.length 0 O 2) (cyc z.c)) 0):=by rw [v,AI (by omega)];exact L
   have yr:X[J.length]?=ab (.box (o[i].row.map .f) 0):=by rw [v];simp
   have b7:∀ {K:an} (_:RB K b 2 O (aQ o)) (k:Nat),k<o.length→aL K 2 ae (.c (.sl b 0 o.length 0 O 2)) (vi k)=ab (.c (.ptr b (k*2) O)):=fun F k hk=>by
    have:=F.idx (n:=o.length) (c:=0) (k:=.i64) (o:=0) (i:=(k:Int)) (by omega) (by omega);simpa using this
   have U:∀ k:Nat,(hk:k<o.length)→aV X ae (.c (.ptr b (k*2) O))=ab (vi o[k].at_):=fun k hk=>by
    have:=A.ldc d6 (dp (AT hk)) (k:=0) (x:=fi o[k].at_) rfl;simpa using this
   have e_:=a7.ldr d6 (dp (AT B));have m4:aV X ae (.c (.ptr J.length 0 0))=ab (vi o[i].at_):=by simp [aV,yr,aF,bA.row,aK]
   have g_:=a9 _ (IS o0);have i_:=a9 _ (IS B);unfold pM at g_ i_;have i0:=b7 A 0 o0;have l0:=U 0 o0;simp [-av]at i0 l0;have ii:=b7 a7 i B;have S:=(Eb (aae W d) ⟨_,_,W⟩ (by omega) (by omega)).eq;have w2:=aN (n:=o[0].at_+cyc z.c*1440);have w3:=aN (n:=(i:Int)+1);have k_:o[i].row.map C.f=[.f (fi o[i].at_),.f (fi o[i].off)]:=rfl;refine az ?_;apply aj;rw [k_]at e_ v;simp [l,ha,ii,e_,-av];rw [←v];refine aq (md (.inl rfl) ?_ ?_)
   case refine_2=>
    intro c j4;have j3:c=(3,11)∨c=(4,11)∨c=(6,11):=by simpa using j4
    rcases j3 with rfl | rfl | rfl
    all_goals
     refine⟨by decide,_,rfl,.inl ⟨by decide,?_⟩⟩;simp [m,sy W d,i0,l0,S,w2,oW,-av]
     first | rfl | simp [V.beq,C.beq,FC.beq]
   simp [m,sy W d,i0,l0,S,w2,-av];have d9:2160≤dM o (cyc z.c*1440) i-o[i].at_:=by
    have h1:=at4.1 hs i (by simpa using B);simp only [AT B]at h1;exact of_decide_eq_true h1
   have u:∀ t:T,t.g 4=.c (.ptr 1 0 0)→t.g 119=.c (.sl b 0 o.length 0 O 2)→t.g 121=vi (i:Nat)→t.g 120=vi o.length→t.g 15=.c (.ptr J.length 0 0)→t.g 16=vi (dM o (cyc z.c*1440) i)→dM o (cyc z.c*1440) i≤900000 →
     WP tab.get 100 ae [.code wY,.inBlock 5,.code (Nw 121 158),.inLoop (rY 4 121 120 122 158 wX),.inBlock 4,.code wZ] ⟨t,[],X⟩ Q:=by
    intro t m l b_ b9 f9 f_ n1;apply aj;simp [f9,f_,m4,-av,aN (n:=dM o (cyc z.c*1440) i-o[i].at_)];refine al (by simp;omega) (aH (aw ?_));exact nx _ _ ⟨y0,W,.inr ⟨j8,b,O,by rw [mE],A⟩,by simp [m],by simp [l]⟩ (by simp [b_]) (by simp [b9])
   apply aq;by_cases N:i+1<o.length
   ·have i1:=b7 A (i+1) N;have l1:=U (i+1) N;have h_:=a9 _ (IS N);unfold pM at h_;rw [show((i+1:Nat):Int)=(i:Int)+1 by omega]at i1;have hn:dM o (cyc z.c*1440) i=o[i+1].at_:=by simp [dM,AT N]
    rw [hn]at u d9;apply aj;simp [m,sy W d,w3,A.len,-av];refine ak (by simp;omega) ?_;refine au (.inl rfl) ?_;simp [m,sy W d,w3,i1,l1,-av];exact u _ (by simp [m]) (by simp [l]) (by simp [ha]) (by simp [hb]) (by simp) (by simp) (by omega)
   ·have hn:dM o (cyc z.c*1440) i=o[0].at_+cyc z.c*1440:=by
     simp [dM,auG.2 (show o.length≤i+1 by omega),AT o0]
    rw [hn]at u d9;apply aj;simp [m,sy W d,w3,A.len,-av];refine al (by simp;omega) (aH ?_);exact u _ (by simp [m]) (by simp [l]) (by simp [ha]) (by simp [hb]) (by simp) (by simp) (by omega)
  ·clear m x0 L I;rintro t J ⟨x0,L,E,m,l⟩ ha hb;obtain⟨g',j7⟩:=E.ex (cD _) 62;apply aj;simp [m];refine aE (hQ _ _ (.t [.c (.f (.fp (z.row++[sl g' (aQ o),fi (cyc z.c)]) 0)),vb ag]) ⟨g',rfl⟩ ?_);have hx:aZ (db 63 J) (ff z cl (cyc z.c))=ab (z.row++[sl g' (aQ o),fi (cyc z.c)]):=by
    refine jh (rQ _) ?_;have:db 63 J cl=ab (sl g' (aQ o)):=j7;simp [aZ,this,db]
   simp [fZ,bX,deep,aZ,m,db,L,hx]
 exact⟨g,bB.eq hp⟩
theorem abB(z:ZD)(g:z.c<3)(m:z.yr=[]):bB tab.get 100 [z.v]=Eq (.t [.c (.f (.fp (z.row++[.aG,fi 1]) 0)),vb ag]):=bB.eq (by
 refine bI rfl rfl fun Q q=>?_;apply aj;simp;have l:([.box (z.row.map .f) 0]:an)[0]?=ab (.box (z.row.map .f) 0):=rfl;have d:=ZD.tq g;have s:List.drop 10 (z.row.map C.f++[C.f .aG,C.f (fi 0)])=[]:=List.drop_eq_nil_of_le (by simp [d]);apply aj;simp [cA l g,-av,d,List.take_append,at6,s];have b:z.row.map C.f++[C.f .aG,C.f (.int .i64 1)]=ff z (.f .aG) 1:=rfl;rw [b];have k0:([.box (z.row.map .f) 0,.box (ff z (.f .aG) 1) 0]:an)[0]?=ab (.box (z.row.map .f) 0):=rfl;apply aq;apply aj;have j:∀ H:an,bJ H (.f (sl z.yg (bT z.yr)))=ab 0:=by intro H;rw [m];cases z.yg<;>rfl
 simp [eM k0 g,-av,j];refine ak (by simp [m]) ?_;apply aj;simp;refine aE (q _ _ ?_);have u:∀ J:an,aZ (db 63 J) (ff z (.f .aG) 1)=ab (z.row++[.aG,fi 1]):=fun J=>by
  refine jh (rQ _) ?_;simp [aZ,db]
 simp [bX,deep,aZ,db,u])
theorem E4(z:ZD)(l:z.c<3)(g:z.yr=[]):bB tab.get 78 [z.v]=Eq (.t [.c (.f .es),vb ag]):=bB.eq (by
 refine bI rfl rfl fun Q j=>?_;apply aj;simp;have d:([.box (z.row.map .f) 0]:an)[0]?=ab (.box (z.row.map .f) 0):=rfl;apply aj;simp;apply aq;apply aj;have b:∀ H:an,bJ H (.f (sl z.yg (bT z.yr)))=ab 0:=by intro H;rw [g];cases z.yg<;>rfl
 simp [eM d l,-av,b];refine ak (by simp [g]) ?_;apply aj;simp;refine aE (j _ _ ?_);simp)
def turns(o:List bA)(size t:Int):Int:=match o[0]? with
 | some x=>if x.at_<t then(t-x.at_) / size else 0| none=>0
def jc(o:List bA)(size t k:Int):Option bA:=(o.find? fun x=>decide (t≤x.at_+k*size)).map fun x=>⟨x.at_+k*size,x.off⟩
def s7(o:List bA)(size t:Int):Option bA:=(jc o size t (turns o size t)).or (jc o size t (turns o size t+1))
theorem Fy{p:bA→Bool}{l:List bA}{i:Nat}{x:bA}(h:l[i]?=ab x)(b:∀ j y,j<i→l[j]?=ab y→p y=ah)(g:p x=ag):l.find? p=ab x:=by
 obtain⟨hi,rfl⟩:=BY.1 h;rw [avw];exact⟨g,i,hi,rfl,fun j d=>by have:=b j l[j] d (AT (by omega));simpa using this⟩
theorem tR(g:Tg)(o:List bA)(L:0<o.length)(hl:o.length≤1000)(S:∀ x ∈ o,pM x)(n t:Int)(n0:1≤n)(n1:n≤1000)(t0:-1000000≤t)(t1:t≤1000000) :
  ∃ x,s7 o (n*1440) t=ab x∧bB tab.get 79 [.c (.f (sl g (aQ o))),vi n,vi t]=Eq (.t [.a (x.row.map .f),vb ag]):=by
 obtain⟨rr,⟨x,hx,rfl⟩,hp⟩:∃ rr,(∃ x,s7 o (n*1440) t=ab x∧rr=.t [.a (x.row.map .f),vb ag])∧bB tab.get 79 [.c (.f (sl g (aQ o))),vi n,vi t] rr:=by
  refine bY rfl rfl fun Q hQ=>?_;have a_:=S _ (IS L);unfold pM at a_;obtain⟨K,hK⟩:=aP (turns o (n*1440) t);have l:K=if o[0].at_<t then(t-o[0].at_) / (n*1440)else 0:=by rw [hK];simp [turns,AT L]
  have X:0<n*1440:=by omega
  have q0:=auE (t-o[0].at_) (n*1440);have q1:=aum (t-o[0].at_) (show n*1440≠0 by omega);have q2:=auq (t-o[0].at_) X;have O:0≤K:=by rw [l];split;exact au4 (by omega) (by omega);omega
  have a9:K*(n*1440)≤2000000∧t≤o[0].at_+(K+1)*(n*1440):=by
   rw [l];split
   ·rw [avg,au7,auY ((t-o[0].at_) / (n*1440))];omega
   ·omega
  have d6:0≤K*(n*1440):=avl O (by omega);have d7:K≤2000000:=by
   have:K*1≤K*(n*1440):=Int.mul_le_mul_of_nonneg_left (by omega) O;omega
  have W:=cD o;have I:∀ H:an,bJ H (.f (sl g (aQ o)))=ab o.length:=fun H=>by
   have b_:¬ (aQ o).isEmpty=ag:=by
    intro h;have:o=[]:=by simpa [aQ]using h
    subst this;simp at L
   simp [sl,b_,bJ]
  have Z:∀(H:an) (i:Nat),i<o.length→aL H 2 ae (.c (.f (sl g (aQ o)))) (vi i)=ab (.c (.f (.fp (aQ o).flatten (i*2)))):=fun H i hi=>by
   have:=cE (H:=H) (g:=g) (rows:=aQ o) (sz:=2) (k:=.i64) (i:=(i:Int)) (by omega) (by simp;omega);simpa using this
  have a7:∀(H:an) (i:Nat) (hi:i<o.length),aV H ae (.c (.f (.fp (aQ o).flatten (i*2))))=ab (vi o[i].at_):=fun H i hi=>gu W (dp (AT hi)) rfl;have d5:∀(H:an) (i:Nat) (hi:i<o.length),aV H ae (.c (.f (.fp (aQ o).flatten (i*2+1))))=ab (vi o[i].off):=fun H i hi=>uC (k:=1) W (dp (AT hi)) rfl;have i0:=fun H=>Z H 0 L;have l0:=fun H=>a7 H 0 L;simp only [Nat.zero_mul,au5]at i0 l0;apply aj;simp;apply aq;apply aj;simp [I];refine al (by simp;rintro rfl;simp at L) (aH ?_);apply aj;simp [aN (n:=n*1440)];apply aj;simp;apply aq;have J:∀ b:T,b.g 0=.c (.f (sl g (aQ o)))→b.g 2=vi t→b.g 6=.c (.ptr 0 0 0)→b.g 8=vi (n*1440)→b.g 9=vi K→WP tab.get 79 ae [.code AU] ⟨b,[],[.box [.f (fi 0),.f (fi 0)] 0]⟩ Q:=by
   intro b q B v z g9;apply aj;simp [g9];refine az ?_;refine bG (fun m s=>∃(e:Int) (b:T),s=⟨b,[],[.box [.f (fi 0),.f (fi 0)] 0]⟩∧(e=0∧m=1∨e=1∧m=0∧jc o (n*1440) t K=ae)∧b.g 0=.c (.f (sl g (aQ o)))∧b.g 2=vi t∧b.g 6=.c (.ptr 0 0 0)∧b.g 8=vi (n*1440)∧b.g 10=vi (K+e)) 1
    ⟨0,_,rfl,.inl ⟨rfl,rfl⟩,by simp [q],by simp [B],by simp [v],by simp [z],by simp⟩ ?_
   clear q B v z g9;rintro m s ⟨e,b,rfl,he,q,B,v,z,g10⟩ ih;have d8:0≤(K+e)*(n*1440)∧(K+e)*(n*1440)≤4000000:=by
    rcases he with⟨rfl,-⟩ | ⟨rfl,-⟩
    ·rw [avm];omega
    ·rw [avg,au7];omega
   apply aq;refine az ?_;apply aj;simp;refine az ?_;refine bG (fun m' s=>∃(i:Nat) (b:T),s=⟨b,[],[.box [.f (fi 0),.f (fi 0)] 0]⟩∧m'=o.length-i∧i≤o.length∧(∀ j y,j<i→o[j]?=ab y→decide (t≤y.at_+(K+e)*(n*1440))=ah) ∧
     b.g 0=.c (.f (sl g (aQ o)))∧b.g 2=vi t∧b.g 6=.c (.ptr 0 0 0)∧b.g 8=vi (n*1440)∧b.g 10=vi (K+e)∧b.g 11=vi (i:Nat)) o.length
    ⟨0,_,rfl,rfl,by omega,fun j y h=>absurd h (by omega),by simp [q],by simp [B],by simp [v],by simp [z],by simp [g10],by simp⟩ ?_
   clear q B v z g10;rintro m' s ⟨i,b,rfl,rfl,hi,F,q,B,v,z,g10,A⟩ c_;apply aq;apply aj;simp [q,A,I];by_cases d:i<o.length
   case neg=>
    have u:jc o (n*1440) t (K+e)=ae:=by
     have:o.find? (fun x=>decide (t≤x.at_+(K+e)*(n*1440)))=ae:=by
      rw [avi];intro x hx;obtain⟨j,hj,rfl⟩:=at3 hx;have:=F j o[j] (by omega) (AT hj);simp [this]
     simp [jc,this]
    rcases he with⟨rfl,rfl⟩ | ⟨rfl,rfl,-⟩
    ·rw [avm]at u;refine al (by simp;omega) ?_;refine bf (k':=[.inBlock 1,.code AW,.inLoop AV,.inBlock 0]) rfl ?_;refine aw ?_;refine au (.inl rfl) ?_;simp [g10,aN (n:=K+1)];exact ih 0 _ (by omega) ⟨1,_,rfl,.inr ⟨rfl,rfl,u⟩,by simp [q],by simp [B],by simp [v],by simp [z],by simp⟩
    ·exfalso;have:=F 0 o[0] (by omega) (AT L);have h2:=of_decide_eq_false this;exact h2 a9.2
   refine ak (by simp [d]) (aH ?_);apply aq;refine az ?_;have b7:=S _ (IS d);unfold pM at b7;have ii:=fun H=>Z H i d;have li:=fun H=>a7 H i d;have oi:=fun H=>d5 H i d;have w1:=aN (n:=(K+e)*(n*1440));have w2:=aN (n:=o[i].at_+(K+e)*(n*1440));apply aj;simp [q,B,z,g10,A,ii,li,w1,w2];by_cases N:t≤o[i].at_+(K+e)*(n*1440)
   ·refine ak (by simp [N]) ?_;apply aj;simp [q,v,z,g10,A,ii,li,oi,w1,w2];have M:jc o (n*1440) t (K+e)=ab ⟨o[i].at_+(K+e)*(n*1440),o[i].off⟩:=by
     have:=Fy (p:=fun x=>decide (t≤x.at_+(K+e)*(n*1440))) (AT d) (fun j y hj Y=>F j y hj Y) (by simp [N]);simp [jc,this]
    have U:s7 o (n*1440) t=ab ⟨o[i].at_+(K+e)*(n*1440),o[i].off⟩:=by
     unfold s7;rw [←hK];rcases he with⟨rfl,-⟩ | ⟨rfl,-,hn⟩
     ·rw [avm]at M ⊢;rw [M];rfl
     ·rw [hn,M];rfl
    refine aE (hQ _ _ _ ⟨_,U,rfl⟩ ?_);simp [bA.row,v]
   ·refine al (by simp;omega) (aH (aw ?_));refine au (.inl rfl) ?_;simp [A,aN (n:=(i:Int)+1)];refine c_ (o.length-(i+1)) _ (by omega) ⟨i+1,_,rfl,rfl,by omega,fun j y hj Y=>?_,by simp [q],by simp [B],by simp [v],by simp [z],by simp [g10],by simp⟩;by_cases b9:j=i
    ·subst b9;rw [AT d]at Y;cases Y;exact decide_eq_false N
    ·exact F j y (by omega) Y
  by_cases E:o[0].at_<t
  ·rw [bg E]at l;have c9:bV .quo (vi (t-o[0].at_)) (vi (n*1440))=ab (vi K):=by rw [l];exact aa6 (by omega) X (by omega)
   apply aj;simp [i0,l0];refine ak (by simp [E]) ?_;refine au (.inl rfl) ?_;simp [i0,l0,aN (n:=t-o[0].at_),c9];exact J _ (by simp) (by simp) (by simp) (by simp) (by simp)
  ·rw [aY E]at l;apply aj;simp [i0,l0];refine aW (by simp [E]) ?_;exact J _ (by simp) (by simp) (by simp) (by simp) (by simp [l])
 exact⟨x,hx,bB.eq hp⟩
def Mem(o:List bA)(size:Int)(x:bA):Prop:=∃(k:Nat) (y:bA),y ∈ o∧x=⟨y.at_+k*size,y.off⟩
def afi(tr o:List bA)(size b:Int)(x:bA):Prop:=x ∈ tr∨Mem o size x∧b≤x.at_
def dX(P:bA→Prop)(t:Int):Option bA→Prop
 | some x=>P x∧x.at_≤t∧∀ y,P y→y.at_≤t→y.at_≤x.at_| none=>∀ y,P y→t<y.at_
def Px(P:bA→Prop):Prop:=∀ x y,P x→P y→x.at_+2160≤y.at_∨y.at_+2160≤x.at_∨x=y
theorem dX.uniq{P:bA→Prop}{t:Int}(m:Px P):∀ {r q:Option bA},dX P t r→dX P t q→r=q
 | none,ae,_,_=>rfl| none,ab y,d,g=>by have j:=d y g.1;have l:=g.2.1;omega
 | some x,ae,d,g=>by have j:=g x d.1;have l:=d.2.1;omega
 | some x,ab y,d,g=>by
  have a:=d.2.2 y g.1 g.2.1;have b:=g.2.2 x d.1 d.2.1;rcases m x y d.1 g.1 with h | h | h
  ·omega
  ·omega
  ·rw [h]
theorem dX.back{P:bA→Prop}{t s:Int}{x:bA}(h:dX P t (ab x))(b:x.at_≤s)(d:s≤t):dX P s (ab x):=⟨h.1,b,fun y hy g=>h.2.2 y hy (by omega)⟩
theorem dX.rS{P:bA→Prop}{t s:Int}(h:dX P t ae)(b:s≤t):dX P s ae:=fun y hy=>by have:=h y hy;omega
section
variable{o:List bA}{size:Int}
theorem eE(h:da o size=ag){i j:Nat}(l:i<j)(m:j<o.length):o[i].at_+2160≤o[j].at_:=by
 have d:=x_ h i o[i] o[i+1] (AT (by omega)) (AT (by omega));rcases auk (show i+1≤j by omega)with b | b
 ·have g:=auc.1 (iX h) (i+1) j (by omega) m b;unfold TLt at g;omega
 ·subst b;exact d
theorem Cl(h:da o size=ag){i:Nat}(hi:i<o.length):o[i].at_+2160≤(o[0]'(by omega)).at_+size:=by
 have d:o.length-1<o.length:=by omega
 have g:=at4.1 h (o.length-1) (by simpa using d);simp only [AT d,dM,auG.2 (show o.length≤o.length-1+1 by omega),AT (show 0<o.length by omega)]at g;have j:=of_decide_eq_true g;rcases auk (show i≤o.length-1 by omega)with b | b
 ·have:=eE h b d;omega
 ·subst b;omega
theorem gD{k m:Nat}(b:0≤size)(h:k<m):(k:Int)*size+size≤(m:Int)*size:=by
 have:=Int.mul_le_mul_of_nonneg_right (show((k:Int)+1)≤(m:Int) by omega) b;rw [avg,au7]at this;exact this
theorem eg(h:da o size=ag){x:bA}(d:x ∈ o):∃ g:0<o.length,o[0].at_≤x.at_∧x.at_+2160≤o[0].at_+size:=by
 obtain⟨i,hi,rfl⟩:=at3 d;refine⟨by omega,?_,Cl h hi⟩;rcases auv i with rfl | b
 ·omega
 ·have:=eE h b hi;omega
theorem NS(h:da o size=ag)(l:0≤size):Px (Mem o size):=by
 rintro x y ⟨k,a,d,rfl⟩ ⟨m,b,g,rfl⟩;obtain⟨v,a1,s⟩:=eg h d;obtain⟨_,b1,u⟩:=eg h g;simp only;rcases auj k m with e | e | e
 ·have:=gD l e;left;omega
 ·subst e;obtain⟨i,hi,rfl⟩:=at3 d;obtain⟨j,q,rfl⟩:=at3 g;rcases auj i j with e | e | e
  ·have:=eE h e q;left;omega
  ·subst e;right;right;rfl
  ·have:=eE h e hi;right;left;omega
 ·have:=gD l e;right;left;omega
theorem s8(h:da o size=ag){t k:Int}{x:bA}(g:jc o size t k=ab x):(∃ y ∈ o,x=⟨y.at_+k*size,y.off⟩)∧t≤x.at_∧∀ b ∈ o,t≤b.at_+k*size→x.at_≤b.at_+k*size:=by
 unfold jc at g;rw [IN]at g;obtain⟨y,l,rfl⟩:=g;rw [avw]at l;obtain⟨d,i,hi,rfl,v⟩:=l;have d:=of_decide_eq_true d;refine⟨⟨_,IS hi,rfl⟩,d,fun b q s=>?_⟩;obtain⟨j,u,rfl⟩:=at3 q;rcases auj i j with e | e | e
 ·have:=eE h e u;simp only;omega
 ·subst e;exact au0 _
 ·have m:=v j e;simp at m;omega
theorem Fg{t k:Int}(d:jc o size t k=ae):∀ b ∈ o,b.at_+k*size<t:=by
 intro b g;unfold jc at d;rw [Option.map_eq_none_iff,avi]at d;have:=d b g;simp at this;exact this
theorem ajU(h:da o size=ag)(O:0<size){t:Int}{x:bA}(d:s7 o size t=ab x):∀ y,Mem o size y→t≤y.at_→x.at_≤y.at_:=by
 rintro y ⟨m,b,q,rfl⟩ s;simp only at s ⊢;obtain⟨F,b1,N⟩:=eg h q;have B:turns o size t=if o[0].at_<t then(t-o[0].at_) / size else 0:=by unfold turns;rw [AT F]
 have J:0≤turns o size t:=by rw [B];split;exact au4 (by omega) (by omega);omega
 have Q:=auE (t-o[0].at_) size;have S:=aum (t-o[0].at_) (show size≠0 by omega);have j:turns o size t=0∨o[0].at_+turns o size t*size≤t:=by
  rw [B];split
  ·right;rw [auY];omega
  ·left;rfl
 obtain⟨K,E⟩:∃ K:Nat,turns o size t=(K:Int):=⟨(turns o size t).toNat,by omega⟩
 unfold s7 at d;rw [E]at d j;have l:K≤m:=by
  rcases Nat.lt_or_ge m K with e | e
  ·exfalso;have g:=gD (size:=size) (by omega) e;rcases j with H | H
   ·omega
   ·omega
  ·exact e
 cases g:jc o size t (K:Int)with
 | some z=>
  rw [g]at d;simp at d;subst d;obtain⟨⟨w,A,rfl⟩,_,v⟩:=s8 h g;obtain⟨_,L,M⟩:=eg h A;rcases auk l with e | e
  ·have:=gD (size:=size) (by omega) e;simp only;omega
  ·subst e;exact v b q s
 | none=>
  rw [g]at d;simp at d;have v:=Fg g;rcases auk l with e | e
  ·obtain⟨⟨w,A,rfl⟩,_,I⟩:=s8 h d;obtain⟨_,L,M⟩:=eg h A;rcases auk (show K+1≤m by omega)with u | u
   ·have:=gD (size:=size) (by omega) u;rw [show((K+1:Nat):Int)=(K:Int)+1 by omega]at this;simp only;omega
   ·subst u;rw [show((K+1:Nat):Int)=(K:Int)+1 by omega]at s ⊢;exact I b q s
  ·subst e;have:=v b q;omega
end
structure dB(z:ZD)(o:List bA):Prop where
 c:z.c<3
 st:-1080≤z.start∧z.start≤1080
 tl:z.tr.length≤3
 tb:∀ x ∈ z.tr,0≤x.at_∧x.at_<z.dI∧-1080≤x.off∧x.off≤1080
 ts:∀(i:Nat) x y,z.tr[i]?=ab x→z.tr[i+1]?=ab y→x.at_+2160≤y.at_
 ho:0≤z.dI∧z.dI≤40000
 y:(z.yr=[]∧o=[])∨∃ r q,z.yr=[r,q]∧r.OK∧q.OK∧dK (oT z.c r q (nY z.c)) o∧da o (Go.Proofs.YtmbjejcfadllnaaGreat.cyc z.c*1440)=ag ∧
  ∀ x a,s7 o (Go.Proofs.YtmbjejcfadllnaaGreat.cyc z.c*1440) z.dI=ab x→a ∈ z.tr→a.at_+2160≤x.at_
theorem pG:∀ {l:List bA},(∀(i:Nat) x y,l[i]?=ab x→l[i+1]?=ab y→x.at_+2160≤y.at_)→∀(i j:Nat) (d:i<j) (g:j<l.length),l[i].at_+2160≤l[j].at_:=by
 intro l h i j d g;have m:=h i l[i] l[i+1] (AT (by omega)) (AT (by omega));rcases auk (show i+1≤j by omega)with b | b
 ·have q:=auc.1 (oO h) (i+1) j (by omega) g b;unfold TLt at q;omega
 ·subst b;exact m
theorem dB.Ng{z:ZD}{o:List bA}(h:dB z o):1≤z.cyc∧z.cyc≤217:=by
 unfold ZD.cyc;split
 ·omega
 ·have:cyc z.c=91∨cyc z.c=217:=by unfold cyc jz;split<;>simp
  omega
theorem dB.sp{z:ZD}{o:List bA}(h:dB z o):da o (z.cyc*1440)=ag:=by
 rcases h.y with⟨e,rfl⟩ | ⟨r,q,e,-,-,-,b,-⟩
 ·rfl
 ·have:z.cyc=cyc z.c:=by simp [ZD.cyc,e]
  rw [this];exact b
theorem dB.apart{z:ZD}{o:List bA}(h:dB z o):Px (afi z.tr o (z.cyc*1440) z.dI):=by
 have hc:=h.Ng;have K:=NS h.sp (by omega);have d:∀ x y,x ∈ z.tr→Mem o (z.cyc*1440) y→z.dI≤y.at_→x.at_+2160≤y.at_:=by
  intro x y g hy I;rcases h.y with⟨e,rfl⟩ | ⟨r,q,e,-,-,-,N,F⟩
  ·obtain⟨k,b,u,_⟩:=hy;cases u
  ·have v:z.cyc=cyc z.c:=by simp [ZD.cyc,e]
   rw [←v]at F;have m:=h.sp;cases l:s7 o (z.cyc*1440) z.dI with
   | some w=>
    have L:=ajU m (by omega) l y hy I;have M:=F w x l g;omega
   | none=>
    exfalso;obtain⟨k,b,u,rfl⟩:=hy;obtain⟨E,b1,b2⟩:=eg m u;unfold s7 at l;simp only [Option.or_eq_none_iff]at l;have s:=Fg l.2 _ (IS E);have H:turns o (z.cyc*1440) z.dI=if o[0].at_<z.dI then(z.dI-o[0].at_) / (z.cyc*1440)else 0:=by unfold turns;rw [AT E]
    have O:=auE (z.dI-o[0].at_) (z.cyc*1440);have Q:=auq (z.dI-o[0].at_) (show 0<z.cyc*1440 by omega);rw [avg,au7,H]at s;split at s
    ·rw [auY ((z.dI-o[0].at_) / (z.cyc*1440))]at s;omega
    ·omega
 rintro x y (g | ⟨g,A⟩) (hy | ⟨hy,B⟩)
 ·obtain⟨i,hi,rfl⟩:=at3 g;obtain⟨j,J,rfl⟩:=at3 hy;rcases auj i j with e | e | e
  ·left;exact pG h.ts i j e J
  ·subst e;right;right;rfl
  ·right;left;exact pG h.ts j i e hi
 ·left;exact d x y g hy B
 ·right;left;exact d y x hy g A
 ·exact K x y g hy
def kU(z:ZD)(g:Tg)(o:List bA):List FC:=z.row++[sl g (aQ o),fi z.cyc]
abbrev sR(z:ZD)(g:Tg)(o:List bA):V:=.c (.f (.fp (kU z g o) 0))
section
variable{H:an}{z:ZD}{g:Tg}{o:List bA}
theorem akH(b:z.c<3):aV H ae (.c (.f (.fp (kU z g o) 4)))=ab (vi z.start):=by
 obtain⟨c,s,tg,tr,d,j,yr⟩:=z;have:c=0∨c=1∨c=2:=by simp at b;omega
 rcases this with rfl | rfl | rfl<;>simp [aV,aF,kU,ZD.row,fY,aK]
theorem D0(b:z.c<3):aV H ae (.c (.f (.fp (kU z g o) 5)))=ab (.c (.f (sl z.tg (aQ z.tr)))):=by
 obtain⟨c,s,tg,tr,d,j,yr⟩:=z;have:c=0∨c=1∨c=2:=by simp at b;omega
 rcases this with rfl | rfl | rfl<;>simp [aV,aF,kU,ZD.row,fY,aK]
theorem aad(b:z.c<3):aV H ae (.c (.f (.fp (kU z g o) 6)))=ab (vi z.dI):=by
 obtain⟨c,s,tg,tr,d,j,yr⟩:=z;have:c=0∨c=1∨c=2:=by simp at b;omega
 rcases this with rfl | rfl | rfl<;>simp [aV,aF,kU,ZD.row,fY,aK]
theorem qp(b:z.c<3):aV H ae (.c (.f (.fp (kU z g o) 8)))=ab (.c (.f (sl g (aQ o)))):=by
 obtain⟨c,s,tg,tr,d,j,yr⟩:=z;have:c=0∨c=1∨c=2:=by simp at b;omega
 rcases this with rfl | rfl | rfl<;>simp [aV,aF,kU,ZD.row,fY,aK]
theorem aoz(b:z.c<3):aV H ae (.c (.f (.fp (kU z g o) 9)))=ab (vi z.cyc):=by
 obtain⟨c,s,tg,tr,d,j,yr⟩:=z;have:c=0∨c=1∨c=2:=by simp at b;omega
 rcases this with rfl | rfl | rfl<;>simp [aV,aF,kU,ZD.row,fY,aK]
end
theorem kC{z:ZD}{g:Tg}{o:List bA}(d:z.c<3)(l:0≤z.cyc)(m:z.cyc≤1000000)(H:an) :
  Ev tab.get (.fn 151) [sR z g o] H (vi (z.cyc*1440)) H:=by
 obtain⟨r,H',j,rfl,rfl⟩:∃ r H',Ev tab.get (.fn 151) [sR z g o] H r H'∧r=vi (z.cyc*1440)∧H'=H:=by
  refine dt rfl rfl fun Q b=>?_;apply aj;simp;apply aj;simp [aoz d,aN (n:=z.cyc*1440)];exact aE (b _ _ _ rfl (jJ (by simp)) ⟨rfl,rfl⟩)
 exact j
section
variable{g:Tg}{o:List bA}
theorem zJ(H:an)(d:0<o.length):bJ H (.f (sl g (aQ o)))=ab o.length:=by
 have b:¬ (aQ o).isEmpty=ag:=by
  intro h;have:o=[]:=by simpa [aQ]using h
  subst this;simp at d
 simp [sl,b,bJ]
theorem eC(H:an){i:Nat}(hi:i<o.length):aL H 2 ae (.c (.f (sl g (aQ o)))) (vi i)=ab (.c (.f (.fp (aQ o).flatten (i*2)))):=by
 have:=cE (H:=H) (g:=g) (rows:=aQ o) (sz:=2) (k:=.i64) (i:=(i:Int)) (by omega) (by simp;omega);simpa using this
theorem mS(H:an){i:Nat}(hi:i<o.length):aV H ae (.c (.f (.fp (aQ o).flatten (i*2))))=ab (vi o[i].at_):=gu (cD o) (dp (AT hi)) rfl
theorem nW(H:an){i:Nat}(hi:i<o.length):aV H (ab 2) (.c (.f (.fp (aQ o).flatten (i*2))))=ab (.a (o[i].row.map .f)):=ez (cD o) (dp (AT hi))
end
theorem tS{b:Type}{f:b→b→Bool}:∀ {xs:List b},(∀ x ∈ xs,f x x=ag)→nr f xs xs=ag
 | [],_=>rfl| x::xs,h=>by simp only [nr,h x at2,tS fun y d=>h y (List.mem_cons_of_mem _ d),Bool.and_self]
theorem nu{n:Nat}{xs:List FC}(h:∀ x ∈ xs,∃ k m,x=FC.int k m):nr (FC.beq n) xs xs=ag:=tS fun x b=>by
 obtain⟨k,m,rfl⟩:=h x b;cases n<;>simp [FC.beq]
theorem qO(o:List bA):∀ x ∈ (aQ o).flatten,∃ k m,x=FC.int k m:=by
 intro x b;obtain⟨r,hr,b⟩:=List.mem_flatten.1 b;obtain⟨y,-,rfl⟩:=auy.1 hr;simp [bA.row]at b;rcases b with rfl | rfl<;>exact⟨_,_,rfl⟩
theorem Zt(g:Tg)(o:List bA):FC.beq 64 (sl g (aQ o)) (sl g (aQ o))=ag:=by
 unfold sl;split
 ·cases g<;>rfl
 ·simp [FC.beq,nu (qO o)]
def rnd(o:List bA)(size t:Int):Int:=match o[0]? with
 | some x=>max (t-x.at_) 0 / size| none=>0
theorem Cb{z:ZD}{g:Tg}{o:List bA}(d:z.c<3)(x:1≤z.cyc)(y:z.cyc≤217)(b:0<o.length)(v:pM o[0]){t:Int}(t0:-10000000≤t)(t1:t≤10000000) :
  bB tab.get 153 [sR z g o,vi t]=Eq (vi (rnd o (z.cyc*1440) t)):=bB.eq (by
 refine bI rfl rfl fun Q u=>?_;unfold pM at v;have i0:=fun H=>eC (g:=g) H b;have m:=fun H=>mS H b;simp only [Nat.zero_mul,au5]at i0 m;have q:=fun H=>(kC (g:=g) (o:=o) d (by omega) (by omega) H).eq;have hr:rnd o (z.cyc*1440) t=max (t-o[0].at_) 0 / (z.cyc*1440):=by unfold rnd;rw [AT b]
 have s:bV .quo (vi (max (t-o[0].at_) 0)) (vi (z.cyc*1440))=ab (vi (max (t-o[0].at_) 0 / (z.cyc*1440))):=aa6 (by omega) (by omega) (by omega);apply aj;simp;refine aq (md (.inl rfl) ?_ ?_)
 case refine_2=>
  intro c l;have j:c=(4,14)∨c=(5,14)∨c=(7,14):=by simpa using l
  rcases j with rfl | rfl | rfl
  all_goals
   refine⟨by decide,_,rfl,.inl ⟨by decide,?_⟩⟩;simp [qp d,i0,m,q,oW,aN (n:=t-o[0].at_),s]
   first | rfl | exact Zt g o | exact nu (qO o) | simp [V.beq,C.beq,FC.beq,nu (qO o)]
 simp [qp d,i0,m,q,aN (n:=t-o[0].at_),s];refine aE (u _ _ ?_);simp [hr])
theorem NC(x:bA)(t:Int):Kf tab.get 154 [.a (x.row.map .f),vi t] (vi (fS x.at_ t)):=by
 refine fL rfl rfl fun H Q b=>?_;apply aj;simp [bA.row];apply aj;simp [lV];refine aE (b _ _ ?_);simp
theorem ta{a b:Int}:0≤fS a b↔b≤a:=by unfold fS;split<;>(try split)<;>omega
theorem Bn{a b:Int}:0<fS a b↔b<a:=by unfold fS;split<;>(try split)<;>omega
theorem bsT(g:Tg)(l:List bA)(E:l.Pairwise TLt)(F:l.length≤1000)(t:Int):∃(i:Nat) (w:Bool),i≤l.length∧(∀ j (d:j<l.length),j<i→l[j].at_<t)∧(∀ j (d:j<l.length),i≤j→t≤l[j].at_)∧(w=ag↔∃ h:i<l.length,l[i].at_=t) ∧
  bB tab.get 155 [.c (.f (sl g (aQ l))),vi t,.c (.f (.fn 154 []))]=Eq (.t [vi i,vb w]):=by
 have B:tab.get 155=ab (ZB 2):=ajb;have b:∀(j:Nat) (d:j<(aQ l).length),(aQ l)[j]=(l[j]'(by simpa using d)).row:=fun j d=>by simp [aQ]
 obtain⟨i,u,v,y,w,z,A⟩:=ZC B g (aQ l) (cD l) (.c (.f (.fn 154 []))) (fi t) (fun r=>fS (sS r).at_ t) (by simp;omega)
  (fun r hr=>by
   obtain⟨x,-,rfl⟩:=auy.1 hr;exact⟨154,_,by simp [ca],NC x t⟩)
  (fun i j hi d h=>by
   have s:j<l.length:=by simpa using d
   have q:i<l.length:=by omega
   simp only [b]at h ⊢;have:=auc.1 E i j q s hi;unfold TLt at this;rw [ta]at h;rw [Bn];show t<l[j].at_;have h:t≤l[i].at_:=h;omega)
 refine⟨i,w,by simpa using u,fun j d m=>?_,fun j d m=>?_,?_,A⟩
 ·have:=v j (by simpa using d) m;rw [b,nw]at this;exact this
 ·have:=y j (by simpa using d) m;rw [b,ta]at this;exact this
 ·rw [z];constructor
  ·rintro⟨h,e⟩;rw [b,ow]at e;exact⟨by simpa using h,e⟩
  ·rintro⟨h,e⟩;refine⟨by simpa using h,?_⟩;rw [b,ow];exact e
theorem OA{o:List bA}{size t:Int}(h:da o size=ag)(u:0<size)(A:0<o.length)(E:o[0].at_≤t){i:Nat}(hi:i<o.length)(l:∀ j (g:j<o.length),i<j→t-(t-o[0].at_) / size*size<o[j].at_) :
  ∀ y,Mem o size y→y.at_≤t→y.at_≤o[i].at_+(t-o[0].at_) / size*size:=by
 rintro y ⟨m,b,d,rfl⟩ v;simp only at v ⊢;have q:=auE (t-o[0].at_) size;have F:=aum (t-o[0].at_) (show size≠0 by omega);have H:=auq (t-o[0].at_) u;have B:0≤(t-o[0].at_) / size:=au4 (by omega) (by omega);rw [auY]at q;obtain⟨K,s⟩:∃ K:Nat,(t-o[0].at_) / size=(K:Int):=⟨((t-o[0].at_) / size).toNat,by omega⟩
 rw [s]at q l ⊢;obtain⟨_,b1,z⟩:=eg h d;obtain⟨_,a1,x⟩:=eg h (IS hi);rcases auj m K with e | e | e
 ·have:=gD (size:=size) (by omega) e;omega
 ·subst e;obtain⟨j,g,rfl⟩:=at3 d;rcases auj i j with e | e | e
  ·have:=l j g e;omega
  ·subst e;exact au0 _
  ·have:=eE h e hi;omega
 ·have:=gD (size:=size) (by omega) e;omega
theorem af9{z:ZD}{o:List bA}(h:dB z o)(hb:∀ x ∈ o,pM x)(hl:o.length≤100)(g:Tg)(t:Int)(t0:-10000000≤t)(t1:t≤10000000) :
  ∃ r:Option bA,dX (afi z.tr o (z.cyc*1440) z.dI) t r∧bB tab.get 102 [sR z g o,vi t]=Eq (.t [.a ((r.getD ⟨0,0⟩).row.map .f),vb r.isSome]):=by
 obtain⟨rr,⟨r,hr,rfl⟩,hp⟩:∃ rr,(∃ r:Option bA,dX (afi z.tr o (z.cyc*1440) z.dI) t r∧rr=.t [.a ((r.getD ⟨0,0⟩).row.map .f),vb r.isSome])∧bB tab.get 102 [sR z g o,vi t] rr:=by
  have J:=h.c;have Y:=h.Ng;have F:=h.sp;have d9:=oO h.ts;have e_:=h.tl;refine bY rfl rfl fun Q hQ=>?_;apply aj;simp;apply aj;simp;apply aq;have M:(∀ y,Mem o (z.cyc*1440) y→z.dI≤y.at_→t<y.at_)→∀(l:T) (H:an),H[0]?=ab (.box [.f (fi 0),.f (fi 0)] 0)→l.g 0=sR z g o→l.g 1=vi t→l.g 4=.c (.ptr 0 0 0)→l.g 6=.c (.f (.fn 154 [])) →
    WP tab.get 102 ae [.code rf] ⟨l,[],H⟩ Q:=by
   intro a9 l H hH I g1 v g6;obtain⟨i,w,hi,i1,i2,hw,N⟩:=bsT z.tg z.tr d9 (by omega) t;have Z:=ax hH;apply aj;simp [I,g1,g6,D0 J,N];have s:∀(k:Nat) (u:k<z.tr.length),z.tr[k].at_≤t→(∀ j (d:j<z.tr.length),k<j→t<z.tr[j].at_)→∀ l:T,l.g 0=sR z g o→l.g 4=.c (.ptr 0 0 0)→l.g 11=vi (k:Nat)→WP tab.get 102 ae [.code wQ] ⟨l,[],H⟩ Q:=by
    intro k u k1 k2 l I v U;have ii:=eC (g:=z.tg) H u;have ll:=nW H u;apply aq;apply aj;simp [U];refine aW (by simp) ?_;apply aj;simp [I,v,U,D0 J,ii,ll,hH,bA.row];refine aE (hQ _ _ _ ⟨ab z.tr[k],⟨.inl (IS u),k1,?_⟩,rfl⟩ ?_)
    ·rintro y (q | ⟨q,K⟩) b9
     ·obtain⟨j,d,rfl⟩:=at3 q;rcases auj k j with e | e | e
      ·have:=k2 j d e;omega
      ·subst e;exact au0 _
      ·have:=pG h.ts j k e u;omega
     ·have:=a9 y q K;omega
    ·simp [bA.row,v,Z]
   apply aq;apply aj;simp;cases w with
   | true=>
    obtain⟨S,e⟩:=hw.1 rfl;refine aW (by simp) ?_;exact s i S (by omega) (fun j d m=>by have:=pG h.ts i j m d;omega) _ (by simp [I]) (by simp [v]) (by simp)
   | false=>
    refine ak (by simp) ?_;refine au (.inl rfl) ?_;simp [aN (n:=(i:Int)-1)];have E:∀ j (d:j<z.tr.length),i≤j→t<z.tr[j].at_:=by
     intro j d m;have a:=i2 j d m;rcases auk m with e | e
     ·have b:=i2 i (by omega) (aft _);have:=pG h.ts i j e d;omega
     ·subst e;rcases Int.lt_or_eq_of_le a with e | e
      ·exact e
      ·exact absurd (hw.2 ⟨d,e.symm⟩) (by simp)
    by_cases A:i=0
    ·subst A;apply aq;apply aj;simp;refine ak (by simp) ?_;apply aj;simp [v,hH];refine aE (hQ _ _ _ ⟨ae,?_,rfl⟩ ?_)
     ·rintro y (q | ⟨q,K⟩)
      ·obtain⟨j,d,rfl⟩:=at3 q;exact E j d (by omega)
      ·exact a9 y q K
     ·simp [bA.row,v,Z]
    ·obtain⟨k,rfl⟩:∃ k,i=k+1:=⟨i-1,by omega⟩
     rw [show(((k+1:Nat):Int)-1)=(k:Int) by omega];exact s k (by omega) (by have:=i1 k (by omega) (by omega);omega) (fun j d d5=>E j d (by omega)) _ (by simp [I]) (by simp [v]) (by simp)
  apply aq;by_cases A:0<o.length
  case neg=>
   have:o=[]:=api (by omega);subst this;have d8:∀ H:an,bJ H (.f (sl g (aQ [])))=ab 0:=by intro H;cases g<;>rfl
   refine au (.inl rfl) ?_;simp [qp J,d8];refine aW (by simp) ?_;exact M (fun y q _=>by obtain⟨k,b,hb,_⟩:=q;cases hb) _ _ rfl (by simp) (by simp) (by simp) (by simp)
  have X:=hb _ (IS A);have i0:=fun H=>eC (g:=g) H A;have l0:=fun H=>mS H A;simp only [Nat.zero_mul,au5]at i0 l0;refine au (.inl rfl) ?_;simp [qp J,zJ _ A,i0,l0,A];by_cases O:o[0].at_≤t
  case neg=>
   refine aW (by simp [O]) ?_;refine M (fun y q _=>?_) _ _ rfl (by simp) (by simp) (by simp) (by simp);obtain⟨k,b,c9,rfl⟩:=q;obtain⟨_,b1,b2⟩:=eg F c9;have:0≤(k:Int)*(z.cyc*1440):=avl (by omega) (by omega);simp only;omega
  refine ak (by simp [O]) ?_;have a_:=Cb (g:=g) J Y.1 Y.2 A X t0 t1;have d6:=(kC (g:=g) (o:=o) J (by omega) (by omega) [.box [.f (fi 0),.f (fi 0)] 0]).eq;unfold pM at X;have d7:rnd o (z.cyc*1440) t=(t-o[0].at_) / (z.cyc*1440):=by
   unfold rnd;rw [AT A];simp only;rw [Int.max_eq_left (by omega)]
  rw [d7]at a_;have q0:=auE (t-o[0].at_) (z.cyc*1440);have q1:=aum (t-o[0].at_) (show z.cyc*1440≠0 by omega);have q2:=auq (t-o[0].at_) (show 0<z.cyc*1440 by omega);rw [auY]at q0;have W:0≤(t-o[0].at_) / (z.cyc*1440):=au4 (by omega) (by omega);have b_:0≤(t-o[0].at_) / (z.cyc*1440)*(z.cyc*1440):=avl W (by omega);have b7:=fun i hi hn=>OA (t:=t) F (by omega) A O (i:=i) hi hn;obtain⟨B,hB⟩:=aP ((t-o[0].at_) / (z.cyc*1440)*(z.cyc*1440));have a7:∀ i (hi:i<o.length),Mem o (z.cyc*1440) ⟨o[i].at_+B,o[i].off⟩:=fun i hi=>⟨((t-o[0].at_) / (z.cyc*1440)).toNat,o[i],IS hi,by rw [auU W,hB]⟩
  rw [←hB]at q0 b_ b7;apply aj;simp [a_,d6,←hB,aN (n:=B)];obtain⟨i,w,hi,i1,i2,hw,N⟩:=bsT g o (iX F) (by omega) (t-B);apply aj;simp [qp J,aN (n:=t-B),N];have s:∀(k:Nat) (u:k<o.length),o[k].at_≤t-B→(∀ j (d:j<o.length),k<j→t-B<o[j].at_)→∀ l:T,l.g 0=sR z g o→l.g 1=vi t→l.g 4=.c (.ptr 0 0 0)→l.g 6=.c (.f (.fn 154 []))→l.g 7=vi B→l.g 8=vi (k:Nat)→WP tab.get 102 ae [.code wP,.code rf] ⟨l,[],[.box [.f (fi 0),.f (fi 0)] 0]⟩ Q:=by
   intro k u k1 k2 l I g1 v g6 g7 g8;have ii:=fun H=>eC (g:=g) H u;have ll:=fun H=>nW H u;have c_:=hb _ (IS u);unfold pM at c_;have L:=b7 k u k2;apply aj;simp [I,g8,qp J,ii,ll,bA.row];apply aq;refine au (.inl rfl) ?_;simp [I,g7,aad J,aN (n:=o[k].at_+B)];by_cases hh:z.dI≤o[k].at_+B
   ·refine ak (by simp [hh]) ?_;apply aj;simp [g7,aN (n:=o[k].at_+B)];apply aj;simp [v,aK];refine aE (hQ _ _ _ ⟨ab ⟨o[k].at_+B,o[k].off⟩,⟨.inr ⟨a7 k u,hh⟩,by show o[k].at_+B≤t;omega,?_⟩,rfl⟩ ?_)
    ·rintro y (q | ⟨q,K⟩) b9
     ·have:=(h.tb y q).2.1;show y.at_≤o[k].at_+B;omega
     ·exact L y q b9
    ·simp [bA.row,v]
   ·refine al (by simp;omega) (aH ?_);refine M (fun y q f9=>?_) _ _ rfl (by simp [I]) (by simp [g1]) (by simp [v]) (by simp [g6]);rcases Int.lt_or_le t y.at_ with e | e
    ·exact e
    ·have:=L y q e;omega
  apply aq;apply aj;simp;cases w with
  | true=>
   obtain⟨S,e⟩:=hw.1 rfl;refine aW (by simp) ?_;exact s i S (by omega) (fun j d m=>by have:=eE F m d;omega) _ (by simp) (by simp) (by simp) (by simp) (by simp) (by simp)
  | false=>
   refine ak (by simp) ?_;refine au (.inl rfl) ?_;simp [aN (n:=(i:Int)-1)];have E:∀ j (d:j<o.length),i≤j→t-B<o[j].at_:=by
    intro j d m;have a:=i2 j d m;rcases auk m with e | e
    ·have b:=i2 i (by omega) (aft _);have:=eE F e d;omega
    ·subst e;rcases Int.lt_or_eq_of_le a with e | e
     ·exact e
     ·exact absurd (hw.2 ⟨d,e.symm⟩) (by simp)
   have d_:i≠0:=by
    rintro rfl;have:=E 0 A (aft _);omega
   obtain⟨k,rfl⟩:∃ k,i=k+1:=⟨i-1,by omega⟩
   rw [show(((k+1:Nat):Int)-1)=(k:Int) by omega];exact s k (by omega) (by have:=i1 k (by omega) (by omega);omega) (fun j d d5=>E j d (by omega)) _ (by simp) (by simp) (by simp) (by simp) (by simp) (by simp)
 exact⟨r,hr,bB.eq hp⟩
theorem uQ{c y:Nat}{r q:ew}(hr:r.OK):∀ x ∈ ek c (y+1) r q,-1080≤x.off∧x.off≤1080:=by
 intro x b;obtain⟨-,-,-,-,-,-,p0,p1⟩:=hr;simp only [ek]at b;split at b
 ·simp only [List.mem_singleton]at b;subst b;exact⟨p0,p1⟩
 ·cases b
theorem B7{c:Nat}{r q:ew}(hr:r.OK)(d:q.OK):∀ n,∀ x ∈ oT c r q n,-1080≤x.off∧x.off≤1080
 | 0,x,b=>by cases b
 | n+1,x,b=>by
  simp only [oT,at9]at b;rcases b with b | b | b
  ·exact B7 hr d n x b
  ·exact uQ hr x b
  ·exact uQ d x b
section
variable{z:ZD}{o:List bA}
theorem dB.bd(h:dB z o):∀ x ∈ o,pM x∧-1080≤x.off∧x.off≤1080:=by
 rcases h.y with⟨-,rfl⟩ | ⟨r,q,e,hr,d,hi,-,-⟩
 ·intro x b;cases b
 ·exact fun x b=>⟨qH h.c hr d _ (aft _) x (hi.perm.subset b),B7 hr d _ x (hi.perm.subset b)⟩
theorem dB.len(h:dB z o):o.length≤28:=by
 rcases h.y with⟨-,rfl⟩ | ⟨r,q,e,hr,g,hi,-,-⟩
 ·simp
 ·have b:=kd z.c r q (nY z.c);have d:=xK z.c;have:=hi.len;omega
abbrev dB.S{z:ZD}{o:List bA}(_:dB z o):bA→Prop:=afi z.tr o (z.cyc*1440) z.dI
theorem dB.off(h:dB z o){x:bA}(d:h.S x):-1080≤x.off∧x.off≤1080:=by
 rcases d with d | ⟨⟨k,b,g,rfl⟩,_⟩
 ·exact(h.tb x d).2.2
 ·exact(h.bd b g).2
theorem dB.last(h:dB z o)(g:Tg){t:Int}(t0:-10000000≤t)(t1:t≤10000000) :
  ∃ r:Option bA,dX h.S t r∧bB tab.get 102 [sR z g o,vi t]=Eq (.t [.a ((r.getD ⟨0,0⟩).row.map .f),vb r.isSome]):=
 af9 h (fun x b=>(h.bd x b).1) (by have:=h.len;omega) g t t0 t1
end
def offO(z:ZD):Option bA→Int
 | some x=>x.off| none=>z.start
theorem dB.offO{z:ZD}{o:List bA}(h:dB z o){t:Int}{r:Option bA}(hr:dX h.S t r):-1080≤offO z r∧offO z r≤1080:=by
 cases r with
 | none=>exact h.st| some x=>exact h.off hr.1
theorem xN{z:ZD}{o:List bA}(h:dB z o)(g:Tg){t:Int}(t0:-10000000≤t)(t1:t≤10000000) :
  ∃ r:Option bA,dX h.S t r∧bB tab.get 103 [sR z g o,vi t]=Eq (vi (offO z r)):=by
 obtain⟨r,hr,j⟩:=h.last g t0 t1;refine⟨r,hr,bB.eq ?_⟩;have d:=h.c;refine bI rfl rfl fun Q b=>?_;apply aj;simp;apply aq;apply aj;simp [j,bA.row];apply aq;refine au (.inl rfl) ?_;simp;cases r with
 | some x=>
  refine ak (by simp) ?_;apply aj;simp;refine aE (b _ _ ?_);simp [Go.Proofs.YtmbjejcfadllnaaGreat.offO]
 | none=>
  refine aW (by simp) ?_;apply aj;simp [akH d];refine aE (b _ _ ?_);simp [Go.Proofs.YtmbjejcfadllnaaGreat.offO]
def ed(H J:an):Prop:=∀(i:Nat) y,H[i]?=ab y→J[i]?=ab y
theorem ed.refl(H:an):ed H H:=fun _ _ h=>h
theorem ed.push{H J:an}(h:ed H J)(L:an):ed H (J++L):=fun i y hy=>by have:=h i y hy;rw [AI (ax this)];exact this
theorem ed.set{H J:an}(h:ed H J){i:Nat}{x:c6}(b:H[i]?=ab x):ed H (J.set i x):=fun k y hy=>by
 by_cases e:i=k
 ·subst e;rw [b]at hy;cases hy;exact OF (ax (h i _ b))
 ·rw [By e];exact h k y hy
theorem Ox{o:List bA}{size t:Int}(b:0<o.length):rnd o size t=turns o size t:=by
 unfold rnd turns;rw [AT b];simp only;split
 ·rw [Int.max_eq_left (by omega)]
 ·rw [Int.max_eq_right (by omega)];simp
theorem FB{z:ZD}{o:List bA}(h:dB z o)(g:Tg){b bc bt:Nat}{H:an}{PP:an→Prop}
  (b7:H[bc]?=ab (.box [.f (.fp (kU z g o) 0)] 0)) (b9:H[bt]?=ab (.box [.f (fi z.dI)] 0))
  (h0:o=[]→∀ J,ed H J→PP J)
  (w:∀ x,s7 o (z.cyc*1440) z.dI=ab x→∀ J,ed H J→∃ J',Ev tab.get (.yield b) [.a (x.row.map .f)] J (vb ah) J'∧PP J') :
  ∃ r H',Ev tab.get (.fn 152) [.c (.yl b),.c (.ptr bc 0 0),.c (.ptr bt 0 0)] H r H'∧(r=.t []∧PP H'):=by
 have S:=h.c;have b_:=h.Ng;have i_:=h.sp;have g_:=h.ho;refine dt rfl rfl fun Q hQ=>?_;have kc:∀ J,ed H J→J[bc]?=ab (.box [.f (.fp (kU z g o) 0)] 0):=fun J l=>l _ _ b7;have kt:∀ J,ed H J→J[bt]?=ab (.box [.f (fi z.dI)] 0):=fun J l=>l _ _ b9;apply aq;apply aj;simp [b7,aK,D0 S];refine fE z.tr.length (fun j t J=>ed H J∧t.g 0=.c (.yl b)∧t.g 1=.c (.ptr bc 0 0)∧t.g 2=.c (.ptr bt 0 0)∧t.g 13=.c (.f (sl z.tg (aQ z.tr)))) (by have:=h.tl;omega) (by decide) (by decide) (by simp) (by simp)
  ⟨ed.refl H,by simp,by simp,by simp,by simp⟩ ?_ ?_
 ·rintro j t J A ⟨l,v,q,u,X⟩ a hb nx;have f:=eC (g:=z.tg) J A;have E:=nW J A;have h_:=(h.tb _ (IS A)).2.1;have W:ed H (J++[.box (z.tr[j].row.map .f) 0]):=l.push _;have e2:=kt _ W;simp only [bA.row,anc,atN]at E W e2;refine az ?_;apply aj;simp [X,a,f,E];apply aj;simp [u,e2,aK,show¬ z.dI≤z.tr[j].at_ by omega];refine al (by simp) (aH (aw ?_));exact nx _ _ ⟨W,by simp [v],by simp [q],by simp [u],by simp [X]⟩ (by simp [a]) (by simp [hb])
 rintro t J ⟨l,v,q,u,X⟩ a hb;apply aq;have d:=kc J l;have B:=kt J l;by_cases ho:o=[]
 ·subst ho;have e_:∀ H:an,bJ H (.f (sl g (aQ [])))=ab 0:=by intro H;cases g<;>rfl
  apply aj;simp [q,d,aK,qp S,e_];refine ak (by simp) ?_;exact aE (hQ _ _ _ rfl rfl ⟨rfl,h0 rfl J l⟩)
 have U:0<o.length:=auF.2 ho;have a_:=(h.bd _ (IS U)).1;apply aj;simp [q,d,aK,qp S,zJ _ U];refine aW (by simp [ho]) ?_;apply aj;simp [q,u,d,B,aK,aad S];obtain⟨J1,Z⟩:=aP (J.set bt (.box [.f (fi z.dI)] 0):an);have M:ed H J1:=by rw [Z];exact l.set b9
 rw [←Z];clear d B l Z;have d:=kc J1 M;have B:=kt J1 M;have O:=(kC (g:=g) (o:=o) S (by omega) (by omega) J1).eq;have k:=Cb (g:=g) (t:=z.dI) S b_.1 b_.2 U a_ (by omega) (by omega);rw [Ox U]at k;unfold pM at a_;obtain⟨K,hK⟩:=aP (turns o (z.cyc*1440) z.dI);have a7:K=if o[0].at_<z.dI then(z.dI-o[0].at_) / (z.cyc*1440)else 0:=by rw [hK];simp [turns,AT U]
 have d_:0<z.cyc*1440:=by omega
 have q0:=auE (z.dI-o[0].at_) (z.cyc*1440);have q1:=aum (z.dI-o[0].at_) (show z.cyc*1440≠0 by omega);have q2:=auq (z.dI-o[0].at_) d_;have d5:0≤K:=by rw [a7];split;exact au4 (by omega) (by omega);omega
 have d6:K*(z.cyc*1440)≤2000000∧z.dI≤o[0].at_+(K+1)*(z.cyc*1440):=by
  rw [a7];split
  ·rw [avg,au7,auY ((z.dI-o[0].at_) / (z.cyc*1440))];omega
  ·omega
 have f9:0≤K*(z.cyc*1440):=avl d5 (by omega);rw [←hK]at k;apply aj;simp [q,u,d,B,aK,k,O,aN (n:=K*(z.cyc*1440))];refine az ?_;refine bG (fun m s=>∃(e:Int) (t':T) (J:an),s=⟨t',[],J⟩∧ed H J∧(e=0∧m=1∨e=1∧m=0∧jc o (z.cyc*1440) z.dI K=ae)∧t'.g 0=.c (.yl b)∧t'.g 1=.c (.ptr bc 0 0)∧t'.g 2=.c (.ptr bt 0 0)∧t'.g 6=vi ((K+e)*(z.cyc*1440))) 1
  ⟨0,_,J1,rfl,M,.inl ⟨rfl,rfl⟩,by simp [v],by simp [q],by simp [u],by simp⟩ ?_
 clear v q u M d B O;rintro m s ⟨e,t',J,rfl,l,he,v,q,u,L⟩ ih;have f_:0≤(K+e)*(z.cyc*1440)∧(K+e)*(z.cyc*1440)≤4000000:=by
  rcases he with⟨rfl,-⟩ | ⟨rfl,-⟩
  ·rw [avm];omega
  ·rw [avg,au7];omega
 have d:=kc J l;apply aq;refine az ?_;apply aj;simp [q,d,aK,qp S,zJ _ U];refine fE o.length (fun j t J=>ed H J∧(∀ i y,i<j→o[i]?=ab y→decide (z.dI≤y.at_+(K+e)*(z.cyc*1440))=ah)∧t.g 0=.c (.yl b)∧t.g 1=.c (.ptr bc 0 0)∧t.g 2=.c (.ptr bt 0 0)∧t.g 6=vi ((K+e)*(z.cyc*1440))∧t.g 56=.c (.f (sl g (aQ o)))) (by have:=h.len;omega) (by decide) (by decide) (by simp) (by simp)
  ⟨l,fun i y hi=>absurd hi (by omega),by simp [v],by simp [q],by simp [u],by simp [L],by simp⟩ ?_ ?_
 ·clear l d v q u L;rintro j t J A ⟨l,F,v,q,u,L,Y⟩ a a9 nx;have f:=eC (g:=g) J A;have E:=nW J A;have d8:=(h.bd _ (IS A)).1;unfold pM at d8;have w1:=aN (n:=o[j].at_+(K+e)*(z.cyc*1440));simp only [bA.row,anc,atN]at E;have W:ed H (J++[.box [.f (fi (o[j].at_+(K+e)*(z.cyc*1440))),.f (fi o[j].off)] 0]):=l.push _;have e2:=kt _ W;refine az ?_;apply aj;simp [Y,a,f,E];apply aj;simp [L,w1];by_cases N:z.dI≤o[j].at_+(K+e)*(z.cyc*1440)
  ·have c:jc o (z.cyc*1440) z.dI (K+e)=ab ⟨o[j].at_+(K+e)*(z.cyc*1440),o[j].off⟩:=by
    have:=Fy (p:=fun x=>decide (z.dI≤x.at_+(K+e)*(z.cyc*1440))) (AT A) (fun i y hi w=>F i y hi w) (by simp [N]);simp [jc,this]
   have c_:s7 o (z.cyc*1440) z.dI=ab ⟨o[j].at_+(K+e)*(z.cyc*1440),o[j].off⟩:=by
    unfold s7;rw [←hK];rcases he with⟨rfl,-⟩ | ⟨rfl,-,hn⟩
    ·rw [avm]at c ⊢;rw [c];rfl
    ·rw [hn,c];rfl
   obtain⟨J',c9,d7⟩:=w _ c_ _ W;simp only [bA.row,anc,atN]at c9;apply aj;simp [v,u,e2,aK,N,c9.eq];refine ak (by simp) ?_;exact aE (hQ _ _ _ rfl rfl ⟨rfl,d7⟩)
  ·apply aj;simp [u,e2,aK,N];refine al (by simp) (aH (aw ?_));refine nx _ _ ⟨W,fun i y hi w=>?_,by simp [v],by simp [q],by simp [u],by simp [L],by simp [Y]⟩ (by simp [a]) (by simp [a9]);by_cases d9:i=j
   ·subst d9;rw [AT A]at w;cases w;exact decide_eq_false N
   ·exact F i y (by omega) w
 ·clear l d v q u L;rintro t J ⟨l,F,v,q,u,L,Y⟩ a a9;have I:jc o (z.cyc*1440) z.dI (K+e)=ae:=by
   have:o.find? (fun x=>decide (z.dI≤x.at_+(K+e)*(z.cyc*1440)))=ae:=by
    rw [avi];intro x hx;obtain⟨j,A,rfl⟩:=at3 hx;have:=F j o[j] A (AT A);simp [this]
   simp [jc,this]
  rcases he with⟨rfl,rfl⟩ | ⟨rfl,rfl,-⟩
  ·rw [avm]at I L;have d:=kc J l;have O:=(kC (g:=g) (o:=o) S (by omega) (by omega) J).eq;refine aw ?_;refine au (.inl rfl) ?_;have hw:ai .i64 (K*(z.cyc*1440)+z.cyc*1440)=(K+1)*(z.cyc*1440):=by
    rw [aN,avg,au7]
   simp [q,L,d,aK,O,hw];exact ih 0 _ (by omega) ⟨1,_,J,rfl,l,.inr ⟨rfl,rfl,I⟩,by simp [v],by simp [q],by simp [u],by simp⟩
  ·exfalso;have:=F 0 o[0] U (AT U);have h2:=of_decide_eq_false this;exact h2 d6.2
theorem D1{H:an}{b d:Nat}{z:ZD}(h:H[b]?=ab (.box (z.row.map .f) d))(g:z.c<3):∃ cs,aV H ae (.c (.ptr b 1 0))=ab (.c (.f (.fs cs 2))):=by
 obtain⟨c,s,tg,tr,j,l,yr⟩:=z;have:c=0∨c=1∨c=2:=by simp at g;omega
 rcases this with rfl | rfl | rfl<;>exact⟨_,by simp [aV,aF,h,ZD.row,fY,aK];rfl⟩
theorem afL(x:FC)(t:Int)(H:an):Ev tab.get (.fn 101) [.c (.f x),vi t] H (.c (.cl 152 [.ptr H.length 0 0,.ptr (H.length+1) 0 0])) (H++[.box [.f x] 0,.box [.f (fi t)] 0]):=by
 obtain⟨r,H',d,rfl,rfl⟩:∃ r H',Ev tab.get (.fn 101) [.c (.f x),vi t] H r H'∧r=.c (.cl 152 [.ptr H.length 0 0,.ptr (H.length+1) 0 0])∧H'=H++[.box [.f x] 0,.box [.f (fi t)] 0]:=by
  refine dt rfl rfl fun Q b=>?_;apply aj;simp;apply aj;simp;exact aE (b _ _ _ rfl (jJ (by simp)) ⟨rfl,rfl⟩)
 exact d
theorem dB.tick{z:ZD}{o:List bA}(h:dB z o):∃ g,bB tab.get 100 [z.v]=Eq (.t [sR z g o,vb ag]):=by
 rcases h.y with⟨e,rfl⟩ | ⟨r,q,e,hr,d,hi,j,l⟩
 ·refine⟨.nil,?_⟩;have b:z.cyc=1:=by simp [ZD.cyc,e]
  rw [abB z h.c e,sR,kU,b];rfl
 ·obtain⟨g,hg⟩:=ahF z h.c e hr d hi j;refine⟨g,?_⟩;have b:z.cyc=cyc z.c:=by simp [ZD.cyc,e]
  rw [hg,sR,kU,b]
theorem dB.ajT{z:ZD}{o:List bA}(h:dB z o){x:bA}(b:s7 o (z.cyc*1440) z.dI=ab x):0≤x.at_∧x.at_≤10000000:=by
 have s:=h.Ng;have u:=h.ho;have j:0<o.length:=by
  rcases auv o.length with e | e
  ·have:o=[]:=aun.1 e;subst this;simp [s7,jc]at b
  ·exact e
 have g:=(h.bd _ (IS j)).1;unfold pM at g;have m:turns o (z.cyc*1440) z.dI=if o[0].at_<z.dI then(z.dI-o[0].at_) / (z.cyc*1440)else 0:=by unfold turns;rw [AT j]
 have A:=auE (z.dI-o[0].at_) (z.cyc*1440);have B:=aum (z.dI-o[0].at_) (show z.cyc*1440≠0 by omega);have q:turns o (z.cyc*1440) z.dI*(z.cyc*1440)≤2000000:=by
  rw [m];split
  ·rw [auY];omega
  ·omega
 have key:∀ k,k*(z.cyc*1440)≤4000000→jc o (z.cyc*1440) z.dI k=ab x→0≤x.at_∧x.at_≤10000000:=by
  intro k v b;obtain⟨⟨y,hy,rfl⟩,l,-⟩:=s8 h.sp b;have:=(h.bd _ hy).1;unfold pM at this;simp only at l ⊢;omega
 unfold s7 at b;cases d:jc o (z.cyc*1440) z.dI (turns o (z.cyc*1440) z.dI)with
 | some w=>
  rw [d]at b;simp at b;subst b;exact key _ (by omega) d
 | none=>
  rw [d]at b;simp at b;exact key _ (by rw [avg,au7];omega) b
theorem N5{z:ZD}{o:List bA}(h:dB z o)(g:Tg){Q:Option ay→St→Prop}
  (hQ:∀ j s r,r=.t [sR z g o,vb ag]→mW [.cell (P.nat 2) ae,.cell (P.nat 3) ae] r s∨ai8 [.cell (P.nat 2) ae,.cell (P.nat 3) ae] r s→Q j s)
  (t:T) (J:an) (Y:Nat) (g1:t.g 1=.c (.ptr 0 0 0)) (A:t.g 2=.c (.ptr 1 0 0)) (B:t.g 3=.c (.ptr 2 0 0)) (S:t.g 8=.c (.ptr Y 0 0))
  (x0:J[0]?=ab (.box (z.row.map .f) 0)) (x1:J[1]?=ab (.box [.f .gE] 0)) (x2:J[2]?=ab (.box [.f (.bool ah)] 0)) (x8:J[Y]?=ab (.box [.f (.fp (kU z g o) 0)] 0)) (h8:2<Y) :
  WP tab.get 60 ae [.code wT] ⟨t,[],J⟩ Q:=by
 have hc:=h.c;have a_:∀(t:T) (J:an) (ds:List dH),t.g 8=.c (.ptr Y 0 0)→t.g 2=.c (.ptr 1 0 0)→t.g 3=.c (.ptr 2 0 0) →
   J[1]?=ab (.box [.f .gE] 0)→J[2]?=ab (.box [.f (.bool ah)] 0)→J[Y]?=ab (.box [.f (.fp (kU z g o) 0)] 0) →
   (ds=[]∨∃ b,ds=[.qb b]∧2<b∧J[b]?=ab (.kM ag))→WP tab.get 60 ae [.code ri] ⟨t,ds,J⟩ Q:=by
  intro t J ds S A B x1 x2 x8 d_;have q1:(J.set 1 (.box [.f (.fp (kU z g o) 0)] 0))[2]?=ab (.box [.f (.bool ah)] 0):=by rw [By (by decide)];exact x2
  apply aj;simp [S,A,B,x8,x1,aK,q1,List.length_set];obtain⟨K,hK⟩:=aP ((J.set 1 (.box [.f (.fp (kU z g o) 0)] 0)).set 2 (.box [.f (.bool ag)] 0):an);have l1:=ax x1;have l2:=ax x2;have k1:K[1]?=ab (.box [.f (.fp (kU z g o) 0)] 0):=by rw [hK,By (by decide),OF l1]
  have k2:K[2]?=ab (.box [.f (.bool ag)] 0):=by rw [hK,OF (by simpa using l2)]
  rw [←hK];rcases d_ with rfl | ⟨b,rfl,hb,b_⟩
  ·refine aE (hQ _ _ _ rfl (.inl ⟨rfl,.t [.c (.f (.fp (kU z g o) 0)),vb ag],?_,?_⟩))
   ·simp [Km.results,bw,aZ,A,B,k1,k2,aK]
   ·simp [fZ,bX,aZ]
  ·have kb:K[b]?=ab (.kM ag):=by rw [hK,By (by omega),By (by omega)];exact b_
   have r1:(K.set b (.kM ah))[1]?=ab (.box [.f (.fp (kU z g o) 0)] 0):=by rw [By (by omega)];exact k1
   have r2:(K.set b (.kM ah))[2]?=ab (.box [.f (.bool ag)] 0):=by rw [By (by omega)];exact k2
   refine aE (hQ _ _ _ rfl (.inr ⟨b,rfl,kb,.t [.c (.f (.fp (kU z g o) 0)),vb ag],?_,?_⟩))
   ·simp [Km.results,bw,aZ,A,B,r1,r2,aK]
   ·simp [fZ,bX,aZ]
 apply aq;apply aq;refine au (.inl rfl) ?_;simp [g1,x0,dv x0 hc,-av];obtain⟨d,U⟩:=aP (J++[.box [.f (fi z.tr.length)] 0]:an);have up:∀ i y,J[i]?=ab y→d[i]?=ab y:=fun i y u=>by rw [U,AI (ax u)];exact u
 have a9:d[J.length]?=ab (.box [.f (fi z.tr.length)] 0):=by rw [U];simp
 have y0:=up _ _ x0;have y1:=up _ _ x1;have y2:=up _ _ x2;have y8:=up _ _ x8;have j_:Y<J.length:=ax x8;have j3:J.length<d.length:=by rw [U];simp
 rw [←U];apply aj;by_cases hn:z.tr=[]
 ·simp [a9,aK,hn];refine aW (by simp) ?_;exact a_ _ _ _ (by simp [S]) (by simp [A]) (by simp [B]) y1 y2 y8 (.inl rfl)
 have f9:0<z.tr.length:=auF.2 hn;simp [a9,aK,hn,f9];refine ak (by simp) ?_;have e_:=(afL (.fp (kU z g o) 0) z.dI d).eq;have l8:aV d ae (.c (.ptr Y 0 0))=ab (sR z g o):=by simp [aV,aF,y8,aK]
 apply aj;simp [g1,S,l8,fF y0 hc,-av,e_];obtain⟨O,E⟩:=aP (d++[.box [.f (.fp (kU z g o) 0)] 0,.box [.f (fi z.dI)] 0]:an);rw [←E];refine az ?_;have j4:O.length=d.length+2:=by rw [E];simp
 have a7:∀ t:T,t.g 1=.c (.ptr 0 0 0)→t.g 2=.c (.ptr 1 0 0)→t.g 3=.c (.ptr 2 0 0)→t.g 8=.c (.ptr Y 0 0)→t.g 10=.c (.ptr J.length 0 0) →
   t.g 158=.c (.cl 152 [.ptr d.length 0 0,.ptr (d.length+1) 0 0]) →
   WP tab.get 60 ae [.code (.kR (R 158) [P.nat 159] eZ fe),.inBlock 4,.code ri] ⟨t,[],O⟩ Q:=by
  intro t g1 A B S g10 Z;have d5:∀ i y,d[i]?=ab y→O[i]?=ab y:=fun i y u=>by rw [E,AI (ax u)];exact u
  obtain⟨L,hL⟩:=aP (O.length);obtain⟨N,l⟩:=aP (O++[.kM ag,.lp 60 t [P.nat 159] eZ fe .ready ae O.length]:an);have I:∀ i y,d[i]?=ab y→N[i]?=ab y:=fun i y u=>by rw [l,AI (ax (d5 i y u))];exact d5 i y u
  have b7:N[d.length]?=ab (.box [.f (.fp (kU z g o) 0)] 0):=by rw [l,AI (by omega),E];simp
  have b9:N[d.length+1]?=ab (.box [.f (fi z.dI)] 0):=by rw [l,AI (by omega),E];simp
  have hd:N[L]?=ab (.kM ag):=by rw [l,hL];simp
  have F:N[L+1]?=ab (.lp 60 t [P.nat 159] eZ fe .ready ae L):=by rw [l,hL,at1 (by omega),show O.length+1-O.length=1 by omega];rfl
  have w1:=I _ _ y1;have w2:=I _ _ y2;have w8:=I _ _ y8;have w0:=I _ _ y0;have i_:=I _ _ a9;by_cases ho:o=[]
  ·obtain⟨r,H',he,rfl,W⟩:=FB h g (b:=L+1) (bc:=d.length) (bt:=d.length+1) (H:=N) (PP:=fun H'=>ed N H') b7 b9 (fun _ J hJ=>hJ) (fun x hx=>by subst ho;simp [s7,jc]at hx);rw [l,hL]at he;refine xy (g:=152) (by rw [anb,Z];simp [ca]) he ?_;refine Z_ (W _ _ (by rw [←hL];exact F)) (by decide) ?_;refine aw ?_;have X:∀ i y,N[i]?=ab y→i≤L→(H'.set (O.length+1) (.lp 60 t [P.nat 159] eZ fe .exhausted ae L))[i]?=ab y:=fun i y u hi=>by
    rw [By (by omega)];exact W _ _ u
   exact a_ _ _ _ S A B (X _ _ w1 (by omega)) (X _ _ w2 (by omega)) (X _ _ w8 (by omega)) (.inr ⟨O.length,rfl,by omega,X _ _ (by rw [←hL];exact hd) (by omega)⟩)
  ·obtain⟨r,H',he,rfl,p1,p2,pL,f2,tm,ps,aa,bd,pl⟩:=FB h g (b:=L+1) (bc:=d.length) (bt:=d.length+1) (H:=N)
    (PP:=fun H'=>H'[1]?=ab (.box [.f (.fp (kU z g o) 0)] 0)∧H'[2]?=ab (.box [.f (.bool ag)] 0)∧H'[L]?=ab (.kM ag)∧∃ f2 tm ps aa bd,H'[L+1]?=ab (.lp f2 tm ps aa bd .done (ab .ret) L)) b7 b9 (fun e=>absurd e ho) (fun x hx J' m=>by
     have b_:=h.ajT hx;obtain⟨r,H',e,rfl,W⟩:=Bq (tab:=tab.get) (b:=L+1) (args:=[.a (x.row.map .f)]) (H:=J')
      (C:=fun r H'=>r=vb ah∧H'[1]?=ab (.box [.f (.fp (kU z g o) 0)] 0)∧H'[2]?=ab (.box [.f (.bool ag)] 0)∧H'[L]?=ab (.kM ag)∧∃ f2 tm ps aa bd,H'[L+1]?=ab (.lp f2 tm ps aa bd .done (ab .ret) L)) (m _ _ F) rfl fun Q' d6=>by
       simp only [bA.row];refine au (.inr rfl) ?_;simp;refine af8 (by rw [AI (ax (m _ _ F))];exact m _ _ F) ?_;obtain⟨M,hM⟩:=aP ((J'++[c6.box [.f (fi x.at_),.f (fi x.off)] 0]).set (L+1) (.lp 60 t [P.nat 159] eZ fe .busy ae L):an);rw [←hM];have j8:=ax (m _ _ F);have v:∀ i y,N[i]?=ab y→i≠L+1→M[i]?=ab y:=fun i y u hi=>by
        rw [hM,By (by omega),AI (ax (m _ _ u))];exact m _ _ u
       have m0:=v _ _ w0 (by omega);have m1:=v _ _ w1 (by omega);have m2:=v _ _ w2 (by omega);have m8:=v _ _ w8 (by omega);have c_:=v _ _ i_ (by omega);have mL:=v _ _ hd (by omega);have mb:M[L+1]?=ab (.lp 60 t [P.nat 159] eZ fe .busy ae L):=by rw [hM,OF (by simp;omega)]
       have mx:M[J'.length]?=ab (.box [.f (fi x.at_),.f (fi x.off)] 0):=by rw [hM,By (by omega)];simp
       have lM:aV M ae (.c (.ptr Y 0 0))=ab (sR z g o):=by simp [aV,aF,m8,aK]
       have lx:aV M ae (.c (.ptr J'.length 0 0))=ab (vi x.at_):=by simp [aV,aF,mx,aK]
       have c9:aV M ae (.c (.ptr J.length 0 0))=ab (vi z.tr.length):=by simp [aV,aF,c_,aK]
       have X:=z.tr.length-1;have ii:=eC (g:=z.tg) M (show z.tr.length-1<z.tr.length by omega);have il:=mS M (show z.tr.length-1<z.tr.length by omega);have j9:=h.tb _ (IS (show z.tr.length-1<z.tr.length by omega));have j7:=h.ho;have e1:ai .i64 ((z.tr.length:Int)-1)=((z.tr.length-1:Nat):Int):=by rw [wrap64 (by omega) (by have:=h.tl;omega)];omega
       have e2:=aN (n:=x.at_-z.tr[z.tr.length-1].at_);have e3:(2160:Int)≤x.at_-z.tr[z.tr.length-1].at_:=by
        rcases h.y with⟨-,e⟩ | ⟨r,q,e,-,-,-,-,ha⟩
        ·exact absurd e ho
        ·have d9:z.cyc=cyc z.c:=by simp [ZD.cyc,e]
         have:=ha x _ (by rw [←d9];exact hx) (IS (show z.tr.length-1<z.tr.length by omega));omega
       have s1:dn M (.ptr 1 0 0) [.f (.fp (kU z g o) 0)]=ab (M.set 1 (.box [.f (.fp (kU z g o) 0)] 0)):=by simp [dn,m1,over]
       have q1:(M.set 1 (.box [.f (.fp (kU z g o) 0)] 0))[2]?=ab (.box [.f (.bool ah)] 0):=by rw [By (by decide)];exact m2
       have s2:dn (M.set 1 (.box [.f (.fp (kU z g o) 0)] 0)) (.ptr 2 0 0) [.f (.bool ag)]=ab ((M.set 1 (.box [.f (.fp (kU z g o) 0)] 0)).set 2 (.box [.f (.bool ag)] 0)):=by simp [dn,q1,over]
       have n0:(M.set 1 (.box [.f (.fp (kU z g o) 0)] 0))[0]?=ab (.box (z.row.map .f) 0):=by rw [By (by decide)];exact m0
       have nx:aV (M.set 1 (.box [.f (.fp (kU z g o) 0)] 0)) ae (.c (.ptr J'.length 0 0))=ab (vi x.at_):=by
        simp [aV,aF,By (show 1≠J'.length by omega),mx,aK]
       have h_:aV (M.set 1 (.box [.f (.fp (kU z g o) 0)] 0)) ae (.c (.ptr J.length 0 0))=ab (vi z.tr.length):=by
        simp [aV,aF,By (show 1≠J.length by omega),c_,aK]
       have f_:=eC (g:=z.tg) (M.set 1 (.box [.f (.fp (kU z g o) 0)] 0)) (show z.tr.length-1<z.tr.length by omega);have g_:=mS (M.set 1 (.box [.f (.fp (kU z g o) 0)] 0)) (show z.tr.length-1<z.tr.length by omega);refine az ?_;refine aq (md (.inr rfl) ?_ ?_)
       case refine_2=>
        intro c d8;have d7:c=(2,13)∨c=(4,13)∨c=(5,13)∨c=(7,13)∨c=(9,13):=by simpa using d8
        rcases d7 with rfl | rfl | rfl | rfl | rfl
        all_goals
         refine⟨by decide,_,rfl,.inl ⟨by decide,?_⟩⟩;simp [g1,A,B,S,g10,lM,lx,c9,dv m0 hc,ii,il,e1,e2,e3,s1,s2,oW,nx,h_,dv n0 hc,f_,g_,-av,-bs]
         first | rfl | exact Zt z.tg z.tr | exact nu (qO z.tr) | simp [V.beq,C.beq,FC.beq,nu (qO z.tr)]
       simp [g1,A,B,S,g10,lM,lx,c9,dv m0 hc,ii,il,e1,e2,e3,s1,s2,-av,-bs];have kb:((M.set 1 (.box [.f (.fp (kU z g o) 0)] 0)).set 2 (.box [.f (.bool ag)] 0))[L+1]?=ab (.lp 60 t [P.nat 159] eZ fe .busy ae L):=by rw [By (by omega),By (by omega)];exact mb
       refine aE (d6 _ _ _ _ _ _ _ _ _ _ rfl kb ⟨rfl,?_,?_,?_,60,t,[P.nat 159],eZ,fe,?_⟩)
       ·simp only;rw [By (by omega),By (by decide),OF (ax m1)]
       ·simp only;rw [By (by omega),OF (ax q1)]
       ·simp only;rw [By (by omega),By (by omega),By (by omega)];exact mL
       ·exact OF (ax kb)
     exact⟨H',e,W⟩)
   rw [l,hL]at he;refine xy (g:=152) (by rw [anb,Z];simp [ca]) he ?_;rw [←hL];refine y9 pl (by decide) ?_;have X:∀ i,i<L+1→(H'.set (L+1) (.lp f2 tm ps aa bd .exhausted (ab .ret) L))[i]?=H'[i]?:=fun i hi=>By (by omega);refine aE (hQ _ _ _ rfl (.inr ⟨L,rfl,by rw [X _ (by omega)];exact pL,.t [.c (.f (.fp (kU z g o) 0)),vb ag],?_,by simp [fZ,bX,aZ]⟩));have q1:((H'.set (L+1) (.lp f2 tm ps aa bd .exhausted (ab .ret) L)).set L (.kM ah))[1]?=ab (.box [.f (.fp (kU z g o) 0)] 0):=by rw [By (by omega),X _ (by omega)];exact p1
   have q2:((H'.set (L+1) (.lp f2 tm ps aa bd .exhausted (ab .ret) L)).set L (.kM ah))[2]?=ab (.box [.f (.bool ag)] 0):=by rw [By (by omega),X _ (by omega)];exact p2
   simp [Km.results,bw,aZ,A,B,q1,q2,aK]
 exact a7 _ (by simp [g1]) (by simp [A]) (by simp [B]) (by simp [S]) (by simp) (by simp)
theorem F0{z:ZD}{o:List bA}(h:dB z o):∃ g,bB tab.get 60 [z.v]=Eq (.t [sR z g o,vb ag]):=by
 obtain⟨g,Y⟩:=h.tick;refine⟨g,?_⟩;obtain⟨rr,rfl,hp⟩:∃ rr,rr=.t [sR z g o,vb ag]∧bB tab.get 60 [z.v] rr:=by
  have E:=h.c;have a:=h.st;have b9:=h.ho;have c9:=h.tl;refine aa3 ajJ rfl fun Q hQ=>?_;apply aj;simp;obtain⟨H0,F⟩:=aP ([.box (z.row.map .f) 0,.box [.f .gE] 0,.box [.f (.bool ah)] 0]:an);rw [←F];have z0:H0[0]?=ab (.box (z.row.map .f) 0):=by rw [F];rfl
  have z1:H0[1]?=ab (.box [.f .gE] 0):=by rw [F];rfl
  have z2:H0[2]?=ab (.box [.f (.bool ah)] 0):=by rw [F];rfl
  have b_:H0.length=3:=by rw [F];rfl
  apply aq;apply aj;simp [dv z0 E,iV z0 E,rP z0 E,fF z0 E,-av,vI E,yk (n:=z.start) (m:=1080) (by decide) (by decide) a.1 a.2,yk (n:=z.dI) (m:=2251799813685248) (by decide) (by decide) (by omega) (by omega),show¬ 512<(z.tr.length:Int) by omega];refine aW (by simp) ?_;apply aq;apply aj;simp [dv z0 E,-av];refine fE z.tr.length (fun j t J=>ed H0 J∧t.g 1=.c (.ptr 0 0 0)∧t.g 2=.c (.ptr 1 0 0)∧t.g 3=.c (.ptr 2 0 0)∧t.g 35=.c (.f (sl z.tg (aQ z.tr)))) (by omega) (by decide) (by decide) (by simp) (by simp)
   ⟨ed.refl _,by simp,by simp,by simp,by simp⟩ ?_ ?_
  ·rintro j t J X ⟨u,b,A,B,I⟩ M U c;have W:=eC (g:=z.tg) J X;have K:=nW J X;simp only [bA.row,anc,atN]at K;have l:=h.tb _ (IS X);obtain⟨v,d⟩:=aP (J++[.box (z.tr[j].row.map .f) 0]:an);have Z:ed H0 v:=by rw [d];exact u.push _
   have N:v[J.length]?=ab (.box [.f (fi z.tr[j].at_),.f (fi z.tr[j].off)] 0):=by rw [d];simp [bA.row]
   have y:=Z _ _ z0;simp only [bA.row,anc,atN]at d;refine az ?_;apply aj;simp [I,M,W,K];rw [←d];have la:aV v ae (.c (.ptr J.length 0 0))=ab (vi z.tr[j].at_):=by simp [aV,aF,N,aK]
   have lo:aV v ae (.c (.ptr J.length 1 0))=ab (vi z.tr[j].off):=by simp [aV,aF,N,aK]
   have f:=yk (n:=z.tr[j].off) (m:=1080) (by decide) (by decide) l.2.2.1 l.2.2.2;have wa:=yk (n:=z.tr[j].at_) (m:=2251799813685248) (by decide) (by decide) (by omega) (by omega);apply aj;by_cases a7:j=0
   ·subst a7;simp [b,la,lo,f,wa,fF y E,-av,show¬ z.dI≤z.tr[0].at_ by omega];refine al (by simp) (aH (aw ?_));exact c _ _ ⟨Z,by simp [b],by simp [A],by simp [B],by simp [I]⟩ (by simp [M]) (by simp [U])
   ·obtain⟨k,rfl⟩:∃ k,j=k+1:=⟨j-1,by omega⟩
    have w:=eC (g:=z.tg) v (show k<z.tr.length by omega);have a9:=mS v (show k<z.tr.length by omega);have hs:=h.ts k _ _ (AT (by omega)) (AT X);have c_:=h.tb _ (IS (show k<z.tr.length by omega));have wk:ai .i64 (k:Nat)=(k:Nat):=aN;have wd:=aN (n:=z.tr[k+1].at_-z.tr[k].at_);simp [b,la,lo,f,wa,fF y E,dv y E,-av,show¬ z.dI≤z.tr[k+1].at_ by omega,wk,w,a9,wd,show¬ z.tr[k+1].at_-z.tr[k].at_<2160 by omega,show(0:Int)<(k:Int)+1 by omega];refine al (by simp) (aH (aw ?_));exact c _ _ ⟨Z,by simp [b],by simp [A],by simp [B],by simp [I]⟩ (by simp [M]) (by simp [U])
  clear F;rintro t J ⟨u,b,A,B,I⟩ M U;have y:=u _ _ z0;have L:z.yr.length=0∨z.yr.length=2:=by
   rcases h.y with⟨e,-⟩ | ⟨r,q,e,-⟩
   ·left;rw [e];rfl
   ·right;rw [e];rfl
  have b7:∀ x ∈ z.yr,x.OK:=by
   rcases h.y with⟨e,-⟩ | ⟨r,q,e,hr,hq,-⟩
   ·rw [e];intro x l;cases l
   ·rw [e];intro x l;simp at l;rcases l with rfl | rfl
    ·exact hr
    ·exact hq
  have mid:∀(t:T) (J:an),ed H0 J→t.g 1=.c (.ptr 0 0 0)→t.g 2=.c (.ptr 1 0 0)→t.g 3=.c (.ptr 2 0 0)→WP tab.get 60 ae [.code wR] ⟨t,[],J⟩ Q:=by
   clear b A B I M U y u;intro t J u b A B;have y:=u _ _ z0;apply aq;apply aj;simp [b,eM y E,-av];refine fE z.yr.length (fun j t J=>ed H0 J∧t.g 1=.c (.ptr 0 0 0)∧t.g 2=.c (.ptr 1 0 0)∧t.g 3=.c (.ptr 2 0 0)∧t.g 88=.c (.f (sl z.yg (bT z.yr)))) (by omega) (by decide) (by decide) (by simp) (by simp)
    ⟨u,by simp [b],by simp [A],by simp [B],by simp⟩ ?_ ?_
   ·clear u b A B y;rintro j t J X ⟨u,b,A,B,O⟩ M U c;have W:aL J 5 ae (.c (.f (sl z.yg (bT z.yr)))) (vi j)=ab (.c (.f (.fp (bT z.yr).flatten (j*5)))):=by
     have:=cE (H:=J) (g:=z.yg) (rows:=bT z.yr) (sz:=5) (k:=.i64) (i:=(j:Int)) (by omega) (by simp;omega);simpa using this
    have K:aV J (ab 5) (.c (.f (.fp (bT z.yr).flatten (j*5))))=ab (.a (z.yr[j].row.map .f)):=ez (jo z.yr) (si X);have l:=b7 _ (IS X);obtain⟨v,d⟩:=aP (J++[.box (z.yr[j].row.map .f) 0]:an);have Z:ed H0 v:=by rw [d];exact u.push _
    have N:v[J.length]?=ab (.box (z.yr[j].row.map .f) 0):=by rw [d];simp
    have y:=Z _ _ z0;have l0:aV v ae (.c (.ptr J.length 0 0))=ab (vi z.yr[j].mo):=by simp [aV,aF,N,aK,ew.row]
    have l1:aV v ae (.c (.ptr J.length 1 0))=ab (vi z.yr[j].wk):=by simp [aV,aF,N,aK,ew.row]
    have l2:aV v ae (.c (.ptr J.length 2 0))=ab (vi z.yr[j].wd):=by simp [aV,aF,N,aK,ew.row]
    have l3:aV v ae (.c (.ptr J.length 3 0))=ab (vi z.yr[j].mi):=by simp [aV,aF,N,aK,ew.row]
    have l4:aV v ae (.c (.ptr J.length 4 0))=ab (vi z.yr[j].off):=by simp [aV,aF,N,aK,ew.row]
    obtain⟨cs,lm⟩:=D1 y E;simp only [ew.row,anc,atN]at d K;refine az ?_;apply aj;simp [O,M,W,K];rw [←d];have f:=yk (n:=z.yr[j].off) (m:=1080) (by decide) (by decide) l.of0 l.of;apply aj;have a_:bJ v (.f (.fs cs 2))=ab 2:=rfl;have f1:¬ z.yr[j].mo<1:=by have:=l.mo;omega
    have f2:¬ 2<z.yr[j].mo:=by have:=l.mo;omega
    have f3:¬ z.yr[j].wk<1:=by have:=l.wk;omega
    have f4:¬ 5<z.yr[j].wk:=by have:=l.wk;omega
    have f5:¬ z.yr[j].wd<0:=by have:=l.wd0;omega
    have f6:¬ 6<z.yr[j].wd:=by have:=l.wd;omega
    have f7:¬ z.yr[j].mi<0:=by have:=l.mi0;omega
    have f8:¬ 1440≤z.yr[j].mi:=by have:=l.mi;omega
    simp [b,l0,l1,l2,l3,l4,lm,f,-av,f1,f2,f3,f4,f5,f6,f7,f8,a_];refine al (by simp) (aH (aw ?_));exact c _ _ ⟨Z,by simp [b],by simp [A],by simp [B],by simp [O]⟩ (by simp [M]) (by simp [U])
   ·clear u b A B y;rintro t J ⟨u,b,A,B,O⟩ M U;have y:=u _ _ z0;apply aj;simp [b,cA y E,-av,Y];obtain⟨J2,S⟩:=aP (J++[.box [.f (.fp (kU z g o) 0)] 0]:an);rw [←S];have p:ed H0 J2:=by rw [S];exact u.push _
    have hl:=ax (u _ _ z2);apply aq;apply aq;refine au (.inl rfl) ?_;simp;refine aW (by simp) ?_;refine N5 h g (fun j s r hr hf=>hQ j s r hr hf) _ J2 J.length (by simp [b]) (by simp [A]) (by simp [B]) (by simp) (p _ _ z0) (p _ _ z1) (p _ _ z2) (by rw [S];simp) hl
  apply aq;apply aj;rcases L with L | L
  ·simp [b,eM y E,-av,L];refine aW (by simp) ?_;exact mid _ _ u (by simp [b]) (by simp [A]) (by simp [B])
  ·simp [b,eM y E,-av,L];refine aW (by simp) ?_;exact mid _ _ u (by simp [b]) (by simp [A]) (by simp [B])
 exact hp.eq
theorem Oy{z:ZD}{o:List bA}(h:dB z o):bB tab.get 30 [z.v]=Eq (vi 0):=bB.eq (by
 obtain⟨g,d⟩:=F0 h;have j:=h.c;have m:=h.tl;refine bI rfl rfl fun Q l=>?_;apply aj;simp;obtain⟨H0,b⟩:=aP ([.box (z.row.map .f) 0]:an);rw [←b];have z0:H0[0]?=ab (.box (z.row.map .f) 0):=by rw [b];rfl
 refine aq (aj ?_);simp [dv z0 j,-av,show¬ 512<(z.tr.length:Int) by omega];refine al (by simp) (aH (aq ?_));apply aj;simp [cA z0 j,-av,d];apply aj;simp;refine aW (by simp) ?_;apply aj;simp;refine aE (l _ _ ?_);simp)
structure afg(z:ZD):Prop where
 c:z.c<3
 st:-1080≤z.start∧z.start≤1080
 tl:z.tr.length≤3
 tb:∀ x ∈ z.tr,0≤x.at_∧x.at_<z.dI∧-1080≤x.off∧x.off≤1080
 ts:∀(i:Nat) x y,z.tr[i]?=ab x→z.tr[i+1]?=ab y→x.at_+2160≤y.at_
 ho:0≤z.dI∧z.dI≤40000
theorem afg.none{z:ZD}(h:afg z)(e:z.yr=[]):dB z []:=⟨h.c,h.st,h.tl,h.tb,h.ts,h.ho,.inl ⟨e,rfl⟩⟩
theorem Fh{o:List bA}{size t:Int}(j:∀ x ∈ o,pM x)(u:da o size=ag)(E:1≤size)(F:size≤400000)(t0:0≤t)(t1:t≤40000){x:bA}(b:s7 o size t=ab x):0≤x.at_∧x.at_≤10000000:=by
 have l:0<o.length:=by
  rcases auv o.length with e | e
  ·have:o=[]:=aun.1 e;subst this;simp [s7,jc]at b
  ·exact e
 have g:=j _ (IS l);unfold pM at g;have q:turns o size t=if o[0].at_<t then(t-o[0].at_) / size else 0:=by unfold turns;rw [AT l]
 have A:=auE (t-o[0].at_) size;have B:=aum (t-o[0].at_) (show size≠0 by omega);have s:turns o size t*size≤2000000:=by
  rw [q];split
  ·rw [auY];omega
  ·omega
 have key:∀ k,k*size≤4000000→jc o size t k=ab x→0≤x.at_∧x.at_≤10000000:=by
  intro k z b;obtain⟨⟨y,v,rfl⟩,m,-⟩:=s8 u b;have:=j _ v;unfold pM at this;simp only at m ⊢;omega
 unfold s7 at b;cases d:jc o size t (turns o size t)with
 | some w=>
  rw [d]at b;simp at b;subst b;exact key _ (by omega) d
 | none=>
  rw [d]at b;simp at b;exact key _ (by rw [avg,au7];omega) b
theorem tQ(g:Tg)(n t:Int):bB tab.get 79 [.c (.f (sl g (aQ []))),vi n,vi t]=Eq (.t [.a [.f (fi 0),.f (fi 0)],vb ah]):=bB.eq (by
 refine bI rfl rfl fun Q d=>?_;apply aj;simp;apply aq;apply aj;have b:∀ H:an,bJ H (.f (sl g (aQ [])))=ab 0:=fun H=>by simpa using pg (H:=H) g (aQ [])
 simp [b];refine ak (by simp) ?_;apply aj;simp;refine aE (d _ _ ?_);simp)
theorem EX{z:ZD}(h:afg z){r q:ew}(hz:z.yr=[r,q])(hr:r.OK)(hq:q.OK) :
  ∃ e:Int,bB tab.get 28 [z.v]=Eq (vi e)∧(e=0→∃ o,dB z o):=by
 obtain⟨rr,⟨e,he,rfl⟩,hp⟩:∃ rr,(∃ e:Int,(e=0→∃ o,dB z o)∧rr=vi e)∧bB tab.get 28 [z.v] rr:=by
  have s:=h.c;have Z:=h.st;have d6:=h.ho;have d8:=h.tl;have N:z.cyc=cyc z.c:=by simp [ZD.cyc,hz]
  have c9:z.yr.length=2:=by rw [hz];rfl
  have c_:∀ x ∈ z.yr,x.OK:=by
   rw [hz];intro x d;simp at d;rcases d with rfl | rfl
   ·exact hr
   ·exact hq
  obtain⟨g,o,ho,d5⟩:=sM z s hz hr hq;have X:=kz z s;refine bY rfl rfl fun Q hQ=>?_;apply aj;simp;obtain⟨H0,M⟩:=aP ([.box (z.row.map .f) 0]:an);rw [←M];have z0:H0[0]?=ab (.box (z.row.map .f) 0):=by rw [M];rfl
  clear M;refine aq (aj ?_);simp [dv z0 s,-av,show¬ 512<(z.tr.length:Int) by omega];refine aW (by simp) ?_;refine aq (aj ?_);simp [iV z0 s,rP z0 s,fF z0 s,eM z0 s,-av,se s,iQ (n:=z.start) (m:=1080) (by decide) (by decide) Z.1 Z.2,iQ (n:=z.dI) (m:=2251799813685248) (by decide) (by decide) (by omega) (by omega),c9];refine aW (by simp) ?_;refine aq (aj ?_);simp;refine bQ (H:=H0) z.tr.length (fun j t J=>J[0]?=ab (.box (z.row.map .f) 0)∧t.g 1=.c (.ptr 0 0 0)) (by omega) (by decide) (by simp) ⟨z0,by simp⟩ ?_ ?_ ?_
  ·rintro j t J L K ⟨y,b⟩ u hn;simp [b,u,dv y s,-av];exact hn _ ⟨y,by simp [b]⟩ (by simp [u]) (by simp)
  ·rintro j t J K ⟨y,b⟩ u nx;have O:=eC (g:=z.tg) J K;have E:=nW J K;simp only [bA.row,anc,atN]at E;have d:=h.tb _ (IS K);obtain⟨v,l⟩:=aP (J++[.box [.f (fi z.tr[j].at_),.f (fi z.tr[j].off)] 0]:an);have F:v[J.length]?=ab (.box [.f (fi z.tr[j].at_),.f (fi z.tr[j].off)] 0):=by rw [l];simp
   have A:v[0]?=ab (.box (z.row.map .f) 0):=by rw [l,AI (ax y)];exact y
   refine az ?_;apply aj;simp [b,u,O,E,dv y s,-av];rw [←l];have la:aV v ae (.c (.ptr J.length 0 0))=ab (vi z.tr[j].at_):=by simp [aV,aF,F,aK]
   have lo:aV v ae (.c (.ptr J.length 1 0))=ab (vi z.tr[j].off):=by simp [aV,aF,F,aK]
   have wo:=iQ (n:=z.tr[j].off) (m:=1080) (by decide) (by decide) d.2.2.1 d.2.2.2;have wa:=iQ (n:=z.tr[j].at_) (m:=2251799813685248) (by decide) (by decide) (by omega) (by omega);apply aj;by_cases a_:j=0
   ·subst a_;simp [b,u,la,lo,wo,wa,fF A s,-av,show¬ z.dI≤z.tr[0].at_ by omega];refine al (by simp) (aH (aw ?_));exact nx _ _ ⟨A,by simp [b]⟩ (by simp [u])
   ·obtain⟨k,rfl⟩:∃ k,j=k+1:=⟨j-1,by omega⟩
    have a9:=eC (g:=z.tg) v (show k<z.tr.length by omega);have b7:=mS v (show k<z.tr.length by omega);have hs:=h.ts k _ _ (AT (by omega)) (AT K);have U:=h.tb _ (IS (show k<z.tr.length by omega));have wk:ai .i64 (k:Nat)=(k:Nat):=aN;have wd:=aN (n:=z.tr[k+1].at_-z.tr[k].at_);simp [b,u,la,lo,wo,wa,fF A s,dv A s,-av,show¬ z.dI≤z.tr[k+1].at_ by omega,wk,a9,b7,wd,show¬ z.tr[k+1].at_-z.tr[k].at_<2160 by omega,show(0:Int)<(k:Int)+1 by omega];refine al (by simp) (aH (aw ?_));exact nx _ _ ⟨A,by simp [b]⟩ (by simp [u])
  clear z0;rintro t J ⟨z0,b⟩ u;refine aq (aj ?_);simp;refine bQ (H:=J) z.yr.length (fun j t J=>J[0]?=ab (.box (z.row.map .f) 0)∧t.g 1=.c (.ptr 0 0 0)) (by omega) (by decide) (by simp) ⟨z0,by simp [b]⟩ ?_ ?_ ?_
  ·clear b u z0;rintro j t J L K ⟨y,b⟩ u hn;simp [b,u,eM y s,-av];exact hn _ ⟨y,by simp [b]⟩ (by simp [u]) (by simp)
  ·clear b u z0;rintro j t J K ⟨y,b⟩ u nx;have O:aL J 5 ae (.c (.f (sl z.yg (bT z.yr)))) (vi j)=ab (.c (.f (.fp (bT z.yr).flatten (j*5)))):=by
    have:=cE (H:=J) (g:=z.yg) (rows:=bT z.yr) (sz:=5) (k:=.i64) (i:=(j:Int)) (by omega) (by simp;omega);simpa using this
   have E:aV J (ab 5) (.c (.f (.fp (bT z.yr).flatten (j*5))))=ab (.a (z.yr[j].row.map .f)):=ez (jo z.yr) (si K);have d:=c_ _ (IS K);obtain⟨v,l⟩:=aP (J++[.box (z.yr[j].row.map .f) 0]:an);have A:v[0]?=ab (.box (z.row.map .f) 0):=by rw [l,AI (ax y)];exact y
   have F:v[J.length]?=ab (.box (z.yr[j].row.map .f) 0):=by rw [l];simp
   have l0:aV v ae (.c (.ptr J.length 0 0))=ab (vi z.yr[j].mo):=by simp [aV,aF,F,aK,ew.row]
   have l1:aV v ae (.c (.ptr J.length 1 0))=ab (vi z.yr[j].wk):=by simp [aV,aF,F,aK,ew.row]
   have l2:aV v ae (.c (.ptr J.length 2 0))=ab (vi z.yr[j].wd):=by simp [aV,aF,F,aK,ew.row]
   have l3:aV v ae (.c (.ptr J.length 3 0))=ab (vi z.yr[j].mi):=by simp [aV,aF,F,aK,ew.row]
   have l4:aV v ae (.c (.ptr J.length 4 0))=ab (vi z.yr[j].off):=by simp [aV,aF,F,aK,ew.row]
   obtain⟨cs,lm⟩:=D1 A s;simp only [ew.row,anc,atN]at l E;refine az ?_;apply aj;simp [b,u,O,E,eM y s,-av];rw [←l];have wo:=iQ (n:=z.yr[j].off) (m:=1080) (by decide) (by decide) d.of0 d.of;apply aj;have b_:bJ v (.f (.fs cs 2))=ab 2:=rfl;have f1:¬ z.yr[j].mo<1:=by have:=d.mo;omega
   have f2:¬ 2<z.yr[j].mo:=by have:=d.mo;omega
   have f3:¬ z.yr[j].wk<1:=by have:=d.wk;omega
   have f4:¬ 5<z.yr[j].wk:=by have:=d.wk;omega
   have f5:¬ z.yr[j].wd<0:=by have:=d.wd0;omega
   have f6:¬ 6<z.yr[j].wd:=by have:=d.wd;omega
   have f7:¬ z.yr[j].mi<0:=by have:=d.mi0;omega
   have f8:¬ 1439<z.yr[j].mi:=by have:=d.mi;omega
   simp [b,l0,l1,l2,l3,l4,lm,wo,-av,f1,f2,f3,f4,f5,f6,f7,f8,b_];refine al (by simp) (aH (aw ?_));exact nx _ _ ⟨A,by simp [b]⟩ (by simp [u])
  clear b u z0;rintro t J ⟨z0,b⟩ u;apply aj;simp [b,cA z0 s,-av,d5];refine aq (aj ?_);cases hs:da o (cyc z.c*1440)with
  | false=>
   simp;refine ak (by simp) (aj ?_);simp;refine aE (hQ _ _ _ ⟨1,by simp,rfl⟩ ⟨rfl,vi 1,?_,?_⟩)
   ·simp [Km.results,bw,aZ]
   ·simp [fZ,bX]
  | true=>
   simp;refine aW (by simp) ?_;have mk:(∀ x a,s7 o (cyc z.c*1440) z.dI=ab x→a ∈ z.tr→a.at_+2160≤x.at_)→∃ o,dB z o:=fun d=>⟨o,h.c,h.st,h.tl,h.tb,h.ts,h.ho,.inr ⟨r,q,hz,hr,hq,ho,hs,d⟩⟩
   have B:(∀ x a,s7 o (cyc z.c*1440) z.dI=ab x→a ∈ z.tr→a.at_+2160≤x.at_)→∀(t:T) (J:an),WP tab.get 28 ae [.code tG] ⟨t,[],J⟩ Q:=by
    intro d t J;apply aj;simp;refine aE (hQ _ _ _ ⟨0,fun _=>mk d,rfl⟩ ⟨rfl,vi 0,?_,?_⟩)
    ·simp [Km.results,bw,aZ]
    ·simp [fZ,bX]
   have a7:1≤cyc z.c∧cyc z.c≤217:=by
    have:cyc z.c=91∨cyc z.c=217:=by unfold cyc jz;split<;>simp
    omega
   rcases auv o.length with e0 | o0
   ·have e0:o=[]:=aun.1 e0;subst e0;have I:=tQ g z.cyc z.dI;apply aj;simp [b,cA z0 s,fF z0 s,-av,X,I];refine aq (aj ?_);simp;refine aW (by simp) ?_;exact B (by simp [s7,jc]) _ _
   ·have W:∀ x ∈ o,pM x:=fun x d=>qH s hr hq _ (aft _) x (ho.perm.subset d);have b9:o.length≤1000:=by
     have h1:=kd z.c r q (nY z.c);have h2:=xK z.c;have:=ho.len;omega
    obtain⟨x,d,I⟩:=tR g o o0 b9 W z.cyc z.dI (by rw [N];exact a7.1) (by rw [N];omega) (by omega) (by omega);rw [N]at d;have d9:=Fh W hs (by omega) (by omega) (by omega) (by omega) d;simp only [bA.row,anc,atN]at I;apply aj;simp [b,cA z0 s,fF z0 s,-av,X,I];obtain⟨v,l⟩:=aP (J++[.box [.f (fi x.at_),.f (fi x.off)] 0]:an);rw [←l];have A:v[0]?=ab (.box (z.row.map .f) 0):=by rw [l,AI (ax z0)];exact z0
    have F:v[J.length]?=ab (.box [.f (fi x.at_),.f (fi x.off)] 0):=by rw [l];simp
    have la:aV v ae (.c (.ptr J.length 0 0))=ab (vi x.at_):=by simp [aV,aF,F,aK]
    refine aq (aj ?_);by_cases S:z.tr=[]
    ·simp [b,dv A s,-av,S];refine aW (by simp) ?_;exact B (by rw [S];intro x a _ u;cases u) _ _
    ·have Y:0<z.tr.length:=auF.2 S;have ii:=eC (g:=z.tg) v (show z.tr.length-1<z.tr.length by omega);have il:=mS v (show z.tr.length-1<z.tr.length by omega);have d7:=h.tb _ (IS (show z.tr.length-1<z.tr.length by omega));have e1:ai .i64 ((z.tr.length:Int)-1)=((z.tr.length-1:Nat):Int):=by rw [aN];omega
     have e2:=aN (n:=x.at_-z.tr[z.tr.length-1].at_);by_cases hd:x.at_-z.tr[z.tr.length-1].at_<2160
     ·simp [b,dv A s,-av,Y,e1,e2,ii,il,la,hd];refine ak (by simp) (aj ?_);simp;refine aE (hQ _ _ _ ⟨1,by simp,rfl⟩ ⟨rfl,vi 1,?_,?_⟩)
      ·simp [Km.results,bw,aZ]
      ·simp [fZ,bX]
     ·simp [b,dv A s,-av,Y,e1,e2,ii,il,la,hd];refine aW (by simp) ?_;refine B ?_ _ _;intro x' a U u;rw [d]at U;cases U;obtain⟨i,hi,rfl⟩:=at3 u;rcases auk (show i≤z.tr.length-1 by omega)with h1 | h1
      ·have:=pG h.ts i _ h1 (by omega);omega
      ·subst h1;omega
 exact⟨e,hp.eq,he⟩
abbrev u8(n:Nat):FC:=.int .u8 (n:Nat)
structure ja where
 st:Nat
 gg:Tg
 sT:List Nat
 og:Tg
 zn:List Nat
 be:Nat
 y:Nat→Nat→Nat
 eo:Nat
 rules:Bool
def bZ(l:List Nat):List (List FC):=l.map fun n=>[u8 n]
@[simp] theorem amJ (l:List Nat):(bZ l).length=l.length:=by simp [bZ]
theorem DD(l:List Nat):bO 1 (bZ l):=bO.map fun _=>rfl
theorem lu{j:Nat}{l:List Nat}(b:j<l.length){H:an}:aV H ae (.c (.f (.fp (bZ l).flatten j)))=ab (.c (.f (u8 l[j]))):=by
 have:=gu (H:=H) (rows:=bZ l) (j:=j) (sz:=1) (row:=[u8 l[j]]) (x:=u8 l[j]) (DD l) (by simp [bZ,b]) rfl;simpa using this
theorem lq{j:Nat}{l:List Nat}{g:Tg}(b:j<l.length){H:an}:aL H 1 ae (.c (.f (sl g (bZ l)))) (vi j)=ab (.c (.f (.fp (bZ l).flatten j))):=by
 have:=cE (H:=H) (g:=g) (rows:=bZ l) (sz:=1) (k:=.i64) (i:=(j:Int)) (by omega) (by simp;omega);simpa using this
def ja.row(x:ja):List FC:=[u8 x.st,sl x.gg (bZ x.sT),sl x.og (bZ x.zn),u8 x.be,u8 (x.y 0 0),u8 (x.y 0 1),u8 (x.y 0 2),u8 (x.y 0 3),u8 (x.y 1 0),u8 (x.y 1 1),u8 (x.y 1 2),u8 (x.y 1 3),u8 x.eo,.bool x.rules]
structure ja.OK(x:ja):Prop where
 st:x.st<256
 gl:x.sT.length≤9223372036854775807
 ol:x.zn.length≤9223372036854775807
 ga:∀ n ∈ x.sT,n<256
 of:∀ n ∈ x.zn,n<256
 be:x.be<256
 y:∀ k i,k<2→i<4→x.y k i<256
 eo:x.eo<256
theorem vn(n:Nat){m:Nat}(b:0<m):bV .rem (.c (.f (u8 n))) (.c (.f (u8 m)))=ab (.c (.f (u8 (n % m)))):=by
 have:¬ ((m:Int)=0):=by omega
 simp only [bV,kJ,if_true,this,if_false];rfl
theorem amy{n:Nat}(g:n<256){m:Nat}(d:0<m):bV .quo (.c (.f (u8 n))) (.c (.f (u8 m)))=ab (.c (.f (u8 (n / m)))):=by
 have:¬ ((m:Int)=0):=by omega
 have b:n / m≤n:=Nat.div_le_self n m;simp only [bV,kJ,if_true,this,if_false];rw [show(n:Int).tdiv (m:Int)=((n / m:Nat):Int) from rfl];have:IntKind.u8.wrap ((n / m:Nat):Int)=((n / m:Nat):Int):=by
  revert b;generalize n / m=q;intro b;exact abJ (by omega) (by omega)
 rw [this];rfl
def iZ(J:an)(cs:List C)(c:Nat):Prop:=
 (c=0∧cs=[.f (fi 2),.sl 2 0 2 2 0 1,.f (fi (-1)),.f .aG]∧∃ b,J[2]?=ab (.box [.f (fi 7),.f (fi 6)] b)) ∨
 ∃ k:Nat,k<2∧c=k+1∧cs=[.f (fi 5),.sl 4 0 2 2 0 1,.f (fi 1),.sl 5 0 1 1 0 3]∧(∃ b,J[4]?=ab (.box [.f (fi 7),.f (fi 8)] b))∧∃ b,J[5]?=ab (.box [.f (fi 2),.f (fi k),.f (.bool ag)] b)
section
variable{J J':an}{cs:List C}{c:Nat}{s h:Int}{ct cy ct' cy':C}
theorem iZ.xx(hc:iZ J cs c)(m:∀(i:Nat) (l:List C) (q:Nat),J[i]?=ab (.box l q)→(i=2∨i=4∨i=5)→∃ b,J'[i]?=ab (.box l b)):iZ J' cs c:=by
 rcases hc with⟨d,g,q,j⟩ | ⟨k,s,d,g,⟨v,j⟩,x,u⟩
 ·exact .inl ⟨d,g,m _ _ _ j (by omega)⟩
 ·exact .inr ⟨k,s,d,g,m _ _ _ j (by omega),m _ _ _ u (by omega)⟩
theorem iZ.cu(hc:iZ J cs c)(d:∀ i y,J[i]?=ab y→(i=2∨i=4∨i=5)→J'[i]?=ab y):iZ J' cs c:=hc.xx fun i l b h hi=>⟨b,d i _ h hi⟩
theorem iZ.four(hc:iZ J cs c):∃ a b d e,cs=[a,b,d,e]:=by
 rcases hc with⟨-,rfl,-⟩ | ⟨k,-,-,rfl,-,-⟩<;>exact⟨_,_,_,_,rfl⟩
theorem iZ.lt(hc:iZ J cs c):c<3:=by
 rcases hc with⟨rfl,-⟩ | ⟨k,b,rfl,-⟩<;>omega
theorem iZ.ex(hc:iZ J cs c):aZ (db 64 J) cs=ab (fY c):=by
 rcases hc with⟨rfl,rfl,l,b⟩ | ⟨k,m,rfl,rfl,⟨g,b⟩,j,d⟩
 ·simp [aZ,jf,b,fY]
 ·simp [aZ,jf,b,d,fY]
abbrev oq(cs:List C)(s:Int)(ct:C)(h:Int)(cy:C):c6:=.box (cs++[.f (fi s),ct,.f (fi h),cy]) 0
theorem aqO(j:iZ J cs c)(g:J[3]?=ab (oq cs s ct h cy)):aV J ae (.c (.ptr 3 5 0))=ab (.c ct):=by
 obtain⟨a,b,d,e,rfl⟩:=j.four;simp [aV,aF,g,aK]
theorem ai5(j:iZ J cs c)(g:J[3]?=ab (oq cs s ct h cy)):aV J ae (.c (.ptr 3 7 0))=ab (.c cy):=by
 obtain⟨a,b,d,e,rfl⟩:=j.four;simp [aV,aF,g,aK]
theorem E6(j:iZ J cs c)(g:J[3]?=ab (oq cs s ct h cy)):aV J (ab 8) (.c (.ptr 3 0 0))=ab (.a (cs++[.f (fi s),ct,.f (fi h),cy])):=by
 obtain⟨a,b,d,e,rfl⟩:=j.four;simp [aV,aF,g,aK]
theorem aqQ(j:iZ J cs c)(g:J[3]?=ab (oq cs s ct h cy)):dn J (.ptr 3 5 0) [ct']=ab (J.set 3 (oq cs s ct' h cy)):=by
 obtain⟨a,b,d,e,rfl⟩:=j.four;simp [dn,g,over];rfl
theorem aqP{g:Int}(l:iZ J cs c)(j:J[3]?=ab (oq cs s ct h cy)):dn J (.ptr 3 6 0) [.f (fi g)]=ab (J.set 3 (oq cs s ct g cy)):=by
 obtain⟨a,b,d,e,rfl⟩:=l.four;simp [dn,j,over];rfl
theorem ai6(j:iZ J cs c)(g:J[3]?=ab (oq cs s ct h cy)):dn J (.ptr 3 7 0) [cy']=ab (J.set 3 (oq cs s ct h cy')):=by
 obtain⟨a,b,d,e,rfl⟩:=j.four;simp [dn,g,over];rfl
end
structure TrP(tr:List bA)(at_:Int):Prop where
 tl:tr.length≤3
 lo:0≤at_∧at_≤7260*tr.length
 tb:∀ x ∈ tr,0≤x.at_∧x.at_≤at_∧-1080≤x.off∧x.off≤1080
 ts:∀(i:Nat) x y,tr[i]?=ab x→tr[i+1]?=ab y→x.at_+2160≤y.at_
theorem TrP.nil:TrP [] 0:=⟨by simp,by simp,by simp,by simp⟩
theorem TrP.app{tr:List bA}{at_:Int}(h:TrP tr at_)(v:tr.length≤2){n m:Nat}(z:n<256):TrP (tr++[⟨at_+2160+20*n,mT m⟩]) (at_+2160+20*n):=by
 have u:=lL m;have q:=h.lo;refine⟨by simp;omega,by simp;omega,fun x d=>?_,fun i x y d hy=>?_⟩
 ·rcases at9.1 d with d | d
  ·have:=h.tb x d;omega
  ·simp at d;subst d;simp only;omega
 ·rw [List.getElem?_append]at d hy;split at hy
  ·rename_i j;rw [bg (by omega)]at d;exact h.ts i x y d hy
  ·rename_i j;have hi:i+1=tr.length:=by
    have:=b hy;simp at this;omega
   rw [bg (by omega)]at d;have s:=h.tb x (List.mem_of_getElem? d);rw [←hi]at hy;simp at hy;subst hy;simp only;omega
 where b {g:Type} {l:List g} {i:Nat} {x:g} (h:l[i]?=ab x):i<l.length:=(BY.1 h).1
abbrev i8v(n:Int):V:=.c (.f (.int .i8 n))
theorem mj{n k:Int}(z:-128≤n∧n≤127)(y:1≤k∧k≤1000):∃ m,0≤m∧m<k∧bB tab.get 116 [i8v n,vi k]=Eq (vi m):=by
 obtain⟨g,⟨m,q,s,rfl⟩,v⟩:∃ g,(∃ m,0≤m∧m<k∧g=vi m)∧bB tab.get 116 [i8v n,vi k] g:=by
  refine bY rfl rfl fun Q l=>?_;apply aj;simp;have x:=aN (n:=n);have hr:bV .rem (vi n) (vi k)=ab (vi (n.tmod k)):=ov (by omega);have u:-k<n.tmod k∧n.tmod k<k:=by
   rcases Int.le_total 0 n with h | h
   ·rw [auO h];have:=aum n (show k≠0 by omega);have:=auq n (show 0<k by omega);omega
   ·have:n = -(-n):=by omega
    rw [this,Int.neg_tmod,auO (by omega)];have:=aum (-n) (show k≠0 by omega);have:=auq (-n) (show 0<k by omega);omega
  apply aj;simp [x,hr];obtain⟨r,d⟩:=aP (n.tmod k);rw [←d]at u ⊢;refine aq (aj ?_);simp;by_cases j:r<0
  ·have b:unV .neg (vi r)=ab (vi (-r)):=by
    show ab (V.c (.f (.int .i64 (ai .i64 (0-r)))))=_;rw [aN,Int.zero_sub]
   refine ak (by simp [j]) (aj ?_);simp [b];exact aE (l _ _ _ ⟨-r,by omega,by omega,rfl⟩ (by simp))
  ·refine aW (by simp [j]) ?_;apply aj;simp;exact aE (l _ _ _ ⟨r,by omega,by omega,rfl⟩ (by simp))
 exact⟨m,q,s,v.eq⟩
theorem rM(l:List Int)(v:Int):ints (l++[v])=ints l++[[fi v]]:=by simp [ints]
structure tM(lo x:Int)(zero:Bool)(li:List Int):Prop where
 pw:li.Pairwise (· < ·)
 bd:∀ v ∈ li,lo≤v∧v<x∧(zero=ah→v≠0)
theorem tM.snoc{lo x:Int}{zero:Bool}{li:List Int}(h:tM lo x zero li)(l:lo≤x)(m:zero=ah→x≠0):tM lo (x+1) zero (li++[x]):=by
 refine⟨auB.2 ⟨h.pw,auA _ _,fun a j b g=>?_⟩,fun v d=>?_⟩
 ·simp at g;subst g;exact(h.bd a j).2.1
 ·rcases at9.1 d with d | d
  ·have:=h.bd v d;exact⟨this.1,by omega,this.2.2⟩
  ·simp at d;subst d;exact⟨l,by omega,m⟩
theorem tM.skip{lo x:Int}{zero:Bool}{li:List Int}(h:tM lo x zero li):tM lo (x+1) zero li:=⟨h.pw,fun v b=>by have:=h.bd v b;exact⟨this.1,by omega,this.2.2⟩⟩
theorem aa5{lo:Int}:∀ {n:Nat} {li:List Int},li.Pairwise (· < ·)→(∀ v ∈ li,lo≤v∧v<lo+n)→li.length≤n
 | 0,li,_,b=>by
  cases li with
  | nil=>exact aft _| cons v li=>have:=b v at2;omega
 | n+1,li,g,b=>by
  rcases List.eq_nil_or_concat li with rfl | ⟨l,v,rfl⟩
  ·simp
  ·rw [List.concat_eq_append]at g b ⊢;have d:=auB.1 g;have s:=b v (by simp);have:=aa5 (lo:=lo) (n:=n) (li:=l) d.1 fun w j=>by
    have m:=b w (List.mem_append_left _ j);have q:=d.2.2 w j v (by simp);omega
   simp;omega
theorem mr(g:Tg)(l:List Nat)(d8:l.length≤9223372036854775807)(b_:∀ n ∈ l,n<256){lo hi:Int}(h1:-1000≤lo)(h2:lo≤hi)(h3:hi≤1000)(d:Bool)(hz:d=ah→hi≠0) :
  ∃ g' li,MX li lo hi d∧li.length≤(hi-lo+1).toNat∧bB tab.get 117 [.c (.f (sl g (bZ l))),vi lo,vi hi,vb d]=Eq (.c (.f (sl g' (ints li)))):=by
 obtain⟨rr,⟨g',li,hr,hl,rfl⟩,hp⟩:∃ rr,(∃ g' li,MX li lo hi d∧li.length≤(hi-lo+1).toNat∧rr=.c (.f (sl g' (ints li))))∧bB tab.get 117 [.c (.f (sl g (bZ l))),vi lo,vi hi,vb d] rr:=by
  refine bY rfl rfl fun Q hQ=>?_;apply aj;simp;apply aj;simp;refine aq (aj ?_);simp;refine az ?_;refine bG (fun n s=>∃(x:Int) (li:List Int) (c:C) (t:T) (J:an),s=⟨t,[],J⟩∧lo≤x∧x≤hi+1∧n=(hi+1-x).toNat∧tM lo x d li∧LR J c 1 (ints li)∧t.g 0=.c (.f (sl g (bZ l)))∧t.g 1=vi lo∧t.g 2=vi hi∧t.g 3=vb d∧t.g 9=.c c∧t.g 10=vi x) (hi+1-lo).toNat
   ⟨lo,[],.f .es,_,[],rfl,au0 _,by omega,rfl,⟨List.Pairwise.nil,by simp⟩,.inl ⟨rfl,.inr rfl⟩,by simp,by simp,by simp,by simp,by simp,by simp⟩ ?_
  rintro n s ⟨x,li,c,t,J,rfl,d5,d9,rfl,X,I,u,B,y,A,m,g10⟩ ih;have d7:li.length≤(x-lo).toNat:=aa5 (lo:=lo) X.pw fun v W=>by have:=X.bd v W;omega
  refine aq (aj ?_);simp [g10,y];by_cases hx:x≤hi
  case neg=>
   refine al (by simp [hx]) ?_;refine bf (k':=[.code pO]) rfl ?_;have c9:=I.len;have Z:∀(t:T) (J:an) (c:C) (li:List Int),MX li lo hi d→li.length≤(hi-lo+1).toNat→LR J c 1 (ints li)→t.g 9=.c c→WP tab.get 117 ae [.code Ax] ⟨t,[],J⟩ Q:=by
    intro t J c li hr hl I m;obtain⟨g',hx⟩:=I.ex (ei _) 63;have c_:db deep J c=ab (sl g' (ints li)):=hx;apply aj;simp [m];refine aE (hQ _ _ _ ⟨g',li,hr,hl,rfl⟩ ⟨rfl,.c c,?_,?_⟩)
    ·simp [Km.results,bw,aZ]
    ·simp [fZ,bX,c_]
   refine aq (aj ?_);simp [m,c9];by_cases h0:li=[]
   ·subst h0;obtain⟨Y,z⟩:=aP (J++[.box ([fi hi].map .f) 0]:an);have O:LR Y c 1 (ints []):=by rw [z];exact I.push _
    have S:Y[J.length]?=ab (.box ([fi hi].map .f) 0):=by rw [z];simp
    obtain⟨c',H',E,M,a_,b7⟩:=O.app (ei _) (by decide) (row:=[fi hi]) rfl (bytes:=8) (by decide) S;simp only [anc,atN]at z;refine ak (by simp) (au (.inl rfl) ?_);simp [m,y];rw [←z];simp [E];have hr:MX [hi] lo hi d:=⟨by simp,auA _ _,fun v W=>by simp at W;subst W;exact⟨h2,au0 _,hz⟩⟩
    exact Z _ _ c' [hi] hr (by simp;omega) (by simpa [ints]using M) (by simp)
   ·refine aW (by simp [h0]) ?_;have hr:MX li lo hi d:=⟨h0,X.pw,fun v W=>by have:=X.bd v W;exact⟨this.1,by omega,this.2.2⟩⟩
    exact Z _ _ c li hr (by omega) I (by simp [m])
  refine ak (by simp [hx]) (aH ?_);refine aq (az (aj ?_));simp;have a7:=aN (n:=x+1);refine aq (aj ?_);simp;obtain⟨N,hN⟩:=aP (min l.length 4);refine bQ N (fun i t K=>K=J∧t.g 0=.c (.f (sl g (bZ l)))∧t.g 1=vi lo∧t.g 2=vi hi∧t.g 3=vb d∧t.g 9=.c c∧t.g 10=vi x∧∃ b,t.g 11=vb b) (by omega) (by decide) (by simp)
   ⟨rfl,by simp [u],by simp [B],by simp [y],by simp [A],by simp [m],by simp [g10],ah,by simp⟩ ?_ ?_ ?_
  ·rintro i t K L b9 ⟨rfl,u,B,y,A,m,g10,b,j⟩ F hn;by_cases c1:(i:Int)<l.length
   ·simp [F,u,c1];exact hn _ ⟨rfl,by simp [u],by simp [B],by simp [y],by simp [A],by simp [m],by simp [g10],b,by simp [j]⟩ (by simp [F]) (by simp;omega)
   ·simp [F,u,c1];exact hn _ ⟨rfl,by simp [u],by simp [B],by simp [y],by simp [A],by simp [m],by simp [g10],b,by simp [j]⟩ (by simp [F]) (by simp;omega)
  ·rintro i t K b9 ⟨rfl,u,B,y,A,m,g10,b,j⟩ F nx;have U:i<l.length:=by omega
   have W:=b_ _ (IS U);refine az (au (.inl rfl) ?_);cases b
   ·have w1:ai .i64 (l[i]:Int)=l[i]:=aN;have w2:=aN (n:=hi-lo);have w3:=aN (n:=hi-lo+1);have w4:=ke (a:=(l[i]:Int)) (b:=hi-lo+1) (by omega) (by omega);simp [j,B,u,F,lq U,lu U,w1,y,w2,w3,w4,g10];refine aw (nx _ _ ⟨rfl,by simp [u],by simp [B],by simp [y],by simp [A],by simp [m],by simp [g10],_,by simp;rfl⟩ (by simp [F]))
   ·simp [j];refine aw (nx _ _ ⟨rfl,by simp [u],by simp [B],by simp [y],by simp [A],by simp [m],by simp [g10],ag,by simp⟩ (by simp [F]))
  ·rintro t K ⟨rfl,u,B,y,A,m,g10,b,j⟩ F;have no:∀ t:T,t.g 0=.c (.f (sl g (bZ l)))→t.g 1=vi lo→t.g 2=vi hi→t.g 3=vb d→t.g 9=.c c→t.g 10=vi x→t.g 54=vb ah →
     WP tab.get 117 ae [.code tB,.inBlock 1,.code tC,.inLoop yv,.inBlock 0,.code pO] ⟨t,[],K⟩ Q:=by
    intro t u B y A m g10 H;refine al H (aH (aw (au (.inl rfl) ?_)));simp [g10,a7];exact ih (hi+1-(x+1)).toNat _ (by omega) ⟨x+1,li,c,_,_,rfl,by omega,by omega,rfl,X.skip,I,by simp [u],by simp [B],by simp [y],by simp [A],by simp [m],by simp⟩
   have a9:(d=ah→x≠0)→∀ t:T,t.g 0=.c (.f (sl g (bZ l)))→t.g 1=vi lo→t.g 2=vi hi→t.g 3=vb d→t.g 9=.c c→t.g 10=vi x→t.g 54=vb ag →
     WP tab.get 117 ae [.code tB,.inBlock 1,.code tC,.inLoop yv,.inBlock 0,.code pO] ⟨t,[],K⟩ Q:=by
    intro d6 t u B y A m g10 H;obtain⟨Y,z⟩:=aP (K++[.box ([fi x].map .f) 0]:an);have O:LR Y c 1 (ints li):=by rw [z];exact I.push _
    have S:Y[K.length]?=ab (.box ([fi x].map .f) 0):=by rw [z];simp
    obtain⟨c',H',E,M,a_,b7⟩:=O.app (ei _) (by decide) (row:=[fi x]) rfl (bytes:=8) (cB (by simp;omega) (by decide)) S;simp only [anc,atN]at z;refine ak H (au (.inl rfl) ?_);simp [m,g10];rw [←z];simp [E];refine aw (au (.inl rfl) ?_);simp [g10,a7];exact ih (hi+1-(x+1)).toNat _ (by omega) ⟨x+1,li++[x],c',_,_,rfl,by omega,by omega,rfl,X.snoc d5 d6,by rw [rM];exact M,by simp [u],by simp [B],by simp [y],by simp [A],by simp,by simp⟩
   apply aj;cases b
   ·simp [j];exact no _ (by simp [u]) (by simp [B]) (by simp [y]) (by simp [A]) (by simp [m]) (by simp [g10]) (by simp)
   ·by_cases q:x=0
    ·cases d
     ·simp [j,g10,q,A];exact no _ (by simp [u]) (by simp [B]) (by simp [y]) (by simp [A]) (by simp [m]) (by simp [g10,q]) (by simp)
     ·simp [j,g10,q,A];exact a9 (fun e=>by cases e) _ (by simp [u]) (by simp [B]) (by simp [y]) (by simp [A]) (by simp [m]) (by simp [g10,q]) (by simp)
    ·simp [j,g10,q];exact a9 (fun _=>q) _ (by simp [u]) (by simp [B]) (by simp [y]) (by simp [A]) (by simp [m]) (by simp [g10]) (by simp)
 exact⟨g',li,hr,hl,hp.eq⟩
def nL:List C:=[.f (fi 0),.f (fi 0),.f (fi 0),.f (fi 0),.f (fi 0),.f (fi 0),.f .aG,.f (.str ⟨#[]⟩)]
theorem vR(l:List aU)(x:aU):aM (l++[x])=aM l++[x.row]:=by simp [aM]
theorem xB{H:an}{b d:Nat}{x:aU}(g:H[b]?=ab (.box (x.row.map .f) d)) :
  aV H ae (.c (.ptr b 0 0))=ab (vi x.d.k)∧aV H ae (.c (.ptr b 1 0))=ab (vi x.d.eo)∧aV H ae (.c (.ptr b 2 0))=ab (vi x.d.l)∧aV H ae (.c (.ptr b 3 0))=ab (vi x.d.r) ∧
  aV H ae (.c (.ptr b 4 0))=ab (vi x.d.n)∧aV H ae (.c (.ptr b 5 0))=ab (vi x.d.m)∧aV H ae (.c (.ptr b 6 0))=ab (.c (.f (sl x.tg (ints x.d.li))))∧aV H (ab 8) (.c (.ptr b 0 0))=ab (.a (x.row.map .f)):=by
 refine⟨?_,?_,?_,?_,?_,?_,?_,?_⟩<;>simp [aV,g,aF,aK,aU.row]
theorem jU(x:aU)(c9:x.d.li.length≤61):∃ tg,bB tab.get 86 [.a (x.row.map .f)]=Eq (.a ((aU.row ⟨x.d,tg⟩).map .f)):=by
 obtain⟨rr,⟨tg,rfl⟩,hp⟩:∃ rr,(∃ tg,rr=.a ((aU.row ⟨x.d,tg⟩).map .f))∧bB tab.get 86 [.a (x.row.map .f)] rr:=by
  refine bY rfl rfl fun Q hQ=>?_;apply aj;simp;obtain⟨H,E⟩:=aP ([.box (x.row.map .f) 0,.box nL 0]:an);have b0:H[0]?=ab (.box (x.row.map .f) 0):=by rw [E];rfl
  have b1:H[1]?=ab (.box nL 0):=by rw [E];rfl
  have hl:H.length=2:=by rw [E];rfl
  simp only [nL]at E;rw [←E];clear E;apply aj;simp;refine aq (aj ?_);simp;refine bQ x.d.li.length (fun j t K=>∃ c,t.g 1=.c (.ptr 0 0 0)∧t.g 2=.c (.ptr 1 0 0)∧t.g 3=.c c∧LR K c 1 (ints (x.d.li.take j))∧Kb H K (.f .es)∧(∀ b,aX c=ab b→2≤b)) (by omega) (by decide) (by simp)
   ⟨.f .es,by simp,by simp,by simp,.inl ⟨rfl,.inr rfl⟩,Kb.refl _ _,by simp [aX]⟩ ?_ ?_ ?_
  ·rintro j t K L w ⟨c,u,B,J,q,d,l⟩ F I;obtain⟨-,-,-,-,-,-,Y,-⟩:=xB (d.2 0 _ b0 (by simp [aX]));simp [F,u,Y,-av];exact I _ ⟨c,by simp [u],by simp [B],by simp [J],q,d,l⟩ (by simp [F]) (by simp)
  ·rintro j t K w ⟨c,u,B,J,q,d,l⟩ F nx;obtain⟨-,-,-,-,-,-,Y,-⟩:=xB (d.2 0 _ b0 (by simp [aX]));have r:∀ H,aL H 1 ae (.c (.f (sl x.tg (ints x.d.li)))) (vi j)=ab (.c (.f (.fp (ints x.d.li).flatten j))):=fun H=>by
    have:=cE (H:=H) (g:=x.tg) (rows:=ints x.d.li) (sz:=1) (k:=.i64) (i:=(j:Int)) (by omega) (by simp;omega);simpa using this
   obtain⟨v,hv⟩:=aP (x.d.li[j]);have a7:aV K ae (.c (.f (.fp (ints x.d.li).flatten j)))=ab (vi v):=by rw [hv];exact ej w
   obtain⟨W,m⟩:=aP (K++[.box ([fi v].map .f) 0]:an);have f:LR W c 1 (ints (x.d.li.take j)):=by rw [m];exact q.push _
   have n:W[K.length]?=ab (.box ([fi v].map .f) 0):=by rw [m];simp
   obtain⟨c',H',N,a,M,o⟩:=f.app (ei _) (by decide) (row:=[fi v]) rfl (bytes:=8) (cB (by simp;omega) (by decide)) n;simp only [anc,atN]at m;refine az (au (.inl rfl) ?_);simp [u,J,Y,-av,F,r,a7];rw [←m];simp [N];have Z:Kb H W (.f .es):=by
    refine⟨by have:=d.1;rw [m];simp;omega,fun i y O I=>?_⟩;rw [m,AI (ax (d.2 i y O I))];exact d.2 i y O I
   refine aw ?_;refine nx _ _ ⟨c',by simp [u],by simp [B],by simp,?_,?_,?_⟩ (by simp [F])
   ·rw [at0 w,←hv,rM];exact a
   ·refine⟨Nat.le_trans Z.1 M.1,fun i y O I=>M.2 i y (Z.2 i y O I) fun e=>?_⟩;have:=l i e;have:=ax O;omega
   ·intro b hb;rcases o with e | e
    ·exact l b (by rw [←e];exact hb)
    ·rw [hb]at e;cases e;have:=Z.1;omega
  ·rintro t K ⟨c,u,B,J,q,d,l⟩ F;rw [aul]at q;have k0:=d.2 0 _ b0 (by simp [aX]);have k1:=d.2 1 _ b1 (by simp [aX]);have b9:dn K (.ptr 0 6 0) [c]=ab (K.set 0 (.box (x.er c) 0)):=by simp [dn,k0,aU.row,aU.er,over]
   obtain⟨A,s⟩:=aP (K.set 0 (.box (x.er c) 0):an);have a_:A[0]?=ab (.box (x.er c) 0):=by rw [s];exact OF (ax k0)
   have S:A[1]?=ab (.box nL 0):=by rw [s,By (by decide)];exact k1
   have e8:aV A (ab 8) (.c (.ptr 0 0 0))=ab (.a (x.er c)):=by simp [aV,a_,aF,aK,aU.er]
   have b_:dn A (.ptr 1 0 0) (x.er c)=ab (A.set 1 (.box (x.er c) 0)):=by simp [dn,S,over,nL,aU.er]
   obtain⟨U,z⟩:=aP (A.set 1 (.box (x.er c) 0):an);have b7:U[1]?=ab (.box (x.er c) 0):=by rw [z];exact OF (ax S)
   have h:LR U c 1 (ints x.d.li):=by
    rw [z,s];exact(q.set (fun e=>by have:=l 0 e;omega) _).set (fun e=>by have:=l 1 e;omega) _
   have p:(x.er c).length=8:=rfl;obtain⟨g',hx⟩:=h.ex (ei _) 63;have a9:db deep U c=ab (sl g' (ints x.d.li)):=hx;have X:aV U (ab 8) (.c (.ptr 1 0 0))=ab (.a (x.er c)):=by simp [aV,b7,aF,aK,aU.er]
   apply aj;simp [u,J,b9,-bs];rw [←s];apply aj;simp [u,B,e8,b_,-bs,-av,p];rw [←z];refine aE (hQ _ _ _ ⟨g',rfl⟩ ⟨rfl,.a (x.er c),?_,?_⟩)
   ·simp [Km.results,bw,aZ,B,X,-av]
   ·simp [fZ,bX,aZ,aU.er,a9,aU.row]
 exact⟨tg,hp.eq⟩
def B0(d n:Nat):List Int:=(List.range n).map fun k:Nat=>((d+k:Nat):Int)
@[simp] theorem arh (d n:Nat):(B0 d n).length=n:=by simp [B0]
theorem ahj{d n k:Nat}(h:k<n):(B0 d n)[k]'(by simpa using h)=((d+k:Nat):Int):=by simp [B0]
theorem aaY(d n:Nat):B0 d (n+1)=B0 d n++[((d+n:Nat):Int)]:=by simp [B0,List.range_succ]
theorem FF{H:an}{g:Tg}{d n:Nat}{k:Int}(b:0≤k)(m:k<n)(q:n≤1000):aL H 1 ae (.c (.f (sl g (ints (B0 d n))))) (vi k)=ab (.c (.f (.fp (ints (B0 d n)).flatten k.toNat))) ∧
  aV H ae (.c (.f (.fp (ints (B0 d n)).flatten k.toNat)))=ab (vi (k+d)):=by
 constructor
 ·have:=cE (H:=H) (g:=g) (rows:=ints (B0 d n)) (sz:=1) (k:=.i64) (i:=k) (by omega) (by simp;omega);simpa using this
 ·have:=ej (j:=k.toNat) (l:=B0 d n) (by simp;omega) (H:=H);rw [ahj (by omega)]at this;rw [this]
  congr 4
  omega
theorem NX(x:aU){i:Nat}(L:lT i x.d)(hi:i≤100)(g:Tg)(d:Nat) :
  ∃ tg,bB tab.get 118 [.a (x.row.map .f),.c (.f (sl g (ints (B0 d (i+1)))))]=Eq (.a ((aU.row ⟨x.d.shift d,tg⟩).map .f)):=by
 obtain⟨W,⟨tg,rfl⟩,c⟩:∃ W,(∃ tg,W=.a ((aU.row ⟨x.d.shift d,tg⟩).map .f))∧bB tab.get 118 [.a (x.row.map .f),.c (.f (sl g (ints (B0 d (i+1)))))] W:=by
  obtain⟨tg,j⟩:=jU x L.ok.1;have u:=nS L.ok;have J:=oG x.d.k;obtain⟨⟨k,b,l,r,n,m,li⟩,e⟩:=x;simp only at j u J;have v:=L.l1;have z:=L.r2;simp only at v z;refine bY rfl rfl fun Q O=>?_;have X:∀ tg,aU.row ⟨bF.shift d ⟨k,b,l,r,n,m,li⟩,tg⟩=aU.row ⟨⟨k,b,if 1≤dN k then l+d else l,if dN k=2 then r+d else r,n,m,li⟩,tg⟩:=fun tg=>rfl;simp only [X]at O;apply aj;simp [aU.row];apply aj;simp only [aU.row,anc,atN]at j;simp [j];obtain⟨y,f⟩:=aP (⟨⟨k,b,l,r,n,m,li⟩,tg⟩:aU);apply aj;simp [u];obtain⟨o,a⟩:=aP (dN k);rw [←a]at O v z J ⊢;have E:∀(t:T) (q r':Int) ,t.g 2=.c (.ptr 0 0 0)→t.g 4=.c (.ptr 1 0 0)→q=(if 1≤o then l+d else l)→r'=(if o=2 then r+d else r) →
    WP tab.get 118 ae [.code Ap] ⟨t,[],[.box ((aU.row ⟨⟨k,b,q,r',n,m,li⟩,tg⟩).map .f) 0,.box nL 0]⟩ Q:=by
   intro t q r' F I M hr;apply aj;simp [F,I,aU.row,nL];refine aE (O _ _ _ ⟨tg,rfl⟩ ⟨rfl,.a ((aU.row ⟨⟨k,b,q,r',n,m,li⟩,tg⟩).map .f),?_,?_⟩)
   ·simp [Km.results,bw,aZ,I,aU.row,aK]
   ·simp [fZ,bX,aU.row,aZ,M,hr]
  have s:∀(t:T) (q:Int) ,t.g 1=.c (.f (sl g (ints (B0 d (i+1)))))→t.g 2=.c (.ptr 0 0 0)→t.g 4=.c (.ptr 1 0 0)→t.g 5=vi o→q=(if 1≤o then l+d else l) →
    WP tab.get 118 ae [.code Ao] ⟨t,[],[.box ((aU.row ⟨⟨k,b,q,r,n,m,li⟩,tg⟩).map .f) 0,.box nL 0]⟩ Q:=by
   intro t q Y F I Z M;refine aq (aj ?_);simp [Z];by_cases K:o=2
   ·have U:=z K;obtain⟨A,B⟩:=FF (H:=[.box ((aU.row ⟨⟨k,b,q,r,n,m,li⟩,tg⟩).map .f) 0,.box nL 0]) (g:=g) (d:=d) (n:=i+1) (k:=r) U.1 (by omega) (by omega);simp only [aU.row,anc,atN]at A B;refine ak (by simp [K]) (au (.inl rfl) ?_);simp [Y,F,aU.row,A,B];exact E _ q (r+d) (by simp [F]) (by simp [I]) M (by rw [bg K])
   ·refine al (by simp;omega) (aH ?_);exact E _ q r (by simp [F]) (by simp [I]) M (by rw [aY K])
  refine aq (aj ?_);simp;by_cases N:1≤o
  ·have S:=v N;obtain⟨A,B⟩:=FF (H:=[.box ((aU.row ⟨⟨k,b,l,r,n,m,li⟩,tg⟩).map .f) 0,.box nL 0]) (g:=g) (d:=d) (n:=i+1) (k:=l) S.1 (by omega) (by omega);simp only [aU.row,nL,anc,atN]at A B;refine ak (by simp;omega) (au (.inl rfl) ?_);simp [aU.row,A,B];exact s _ (l+d) (by simp) (by simp) (by simp) (by simp) (by rw [bg N])
  ·refine al (by simp;omega) (aH ?_);exact s _ l (by simp) (by simp) (by simp) (by simp) (by rw [aY N])
 exact⟨tg,c.eq⟩
def LiB(r:List aU):Prop:=∀ x ∈ r,x.d.li.length≤61
theorem nN{J:an}{c:C}{l:List aU}(u:LR J c 8 (aM l))(v:l.length≤1000)(x:aU) :
  ∃ b H',bK (J++[.box (x.row.map .f) 0]) 8 88 (.c c) (.c (.sl J.length 0 1 1 0 8))=ab (.c b,H')∧LR H' b 8 (aM (l++[x]))∧Kb (J++[.box (x.row.map .f) 0]) H' c∧(aX b=aX c∨aX b=ab (J.length+1)):=by
 have q:=u.push [.box (x.row.map .f) 0];have s:(J++[.box (x.row.map .f) 0])[J.length]?=ab (.box (x.row.map .f) 0):=by simp
 obtain⟨b,H',d,m,j,g⟩:=q.app (eH _) (by decide) (row:=x.row) rfl (bytes:=88) (cB (by simp;omega) (by decide)) s;rw [List.length_append,List.length_singleton]at g;exact⟨b,H',d,by rw [vR];exact m,j,g⟩
theorem abE(y:aU)(hy:y.d.li.length≤61)(g:Tg){r:List aU}(hr:r.length≤60)(o:LiB r) :
  ∃ g' E,et E=et r++[⟨y.d.k,y.d.eo,(r.length:Int)-1,y.d.r,y.d.n,y.d.m,y.d.li⟩]∧bB tab.get 46 [.a (y.row.map .f),.c (.f (sl g (aM r)))]=Eq (.c (.f (sl g' (aM E)))):=by
 obtain⟨e,⟨g',E,d,rfl⟩,w⟩:∃ e,(∃ g' E,et E=et r++[⟨y.d.k,y.d.eo,(r.length:Int)-1,y.d.r,y.d.n,y.d.m,y.d.li⟩]∧e=.c (.f (sl g' (aM E))))∧bB tab.get 46 [.a (y.row.map .f),.c (.f (sl g (aM r)))] e:=by
  refine bY rfl rfl fun Q k=>?_;apply aj;simp;obtain⟨H,U⟩:=aP ([.box (y.row.map .f) 0]:an);have b0:H[0]?=ab (.box (y.row.map .f) 0):=by rw [U];rfl
  have hl:H.length=1:=by rw [U];rfl
  rw [←U];clear U;apply aj;simp;refine aq (aj ?_);simp;refine bQ r.length (fun j t K=>∃ c l,t.g 1=.c (.f (sl g (aM r)))∧t.g 2=.c (.ptr 0 0 0)∧t.g 5=.c c∧LR K c 8 (aM l)∧et l=et (r.take j)∧K[0]?=ab (.box (y.row.map .f) 0)) (by omega) (by decide) (by simp)
   ⟨.f .es,[],by simp,by simp,by simp,.inl ⟨rfl,.inr rfl⟩,by simp,b0⟩ ?_ ?_ ?_
  ·rintro j t K L N ⟨c,l,u,F,J,b,d,b0⟩ I p;simp [I,u];exact p _ ⟨c,l,by simp [u],by simp [F],by simp [J],b,d,b0⟩ (by simp [I]) (by simp)
  ·rintro j t K N ⟨c,l,u,F,J,b,d,b0⟩ I nx;obtain⟨x,O⟩:=aP (r[j]);obtain⟨tg,q⟩:=jU x (by rw [O];exact o _ (IS N));have Y:l.length=j:=by have:=congrArg List.length d;simp at this;omega
   obtain⟨S,H',m,z,M,X⟩:=nN b (by omega) ⟨x.d,tg⟩;have A:((aU.row ⟨x.d,tg⟩).map C.f).length=8:=rfl;refine az (au (.inl rfl) ?_);simp [u,J,I,eT N (by omega),me N,←O,q,A,m];refine aw ?_;refine nx _ _ ⟨S,l++[⟨x.d,tg⟩],by simp [u],by simp [F],by simp,z,?_,?_⟩ (by simp [I])
   ·rw [at0 N,←O];simp only [et,auR,anc,atN]at d ⊢;rw [d]
   ·exact M.2 0 _ (by rw [AI (ax b0)];exact b0) (b.cw b0)
  ·rintro t K ⟨c,l,u,F,J,b,d,b0⟩ I;rw [aul]at d;have Y:l.length=r.length:=by have:=congrArg List.length d;simpa using this
   obtain⟨s,B⟩:=aP (⟨⟨y.d.k,y.d.eo,(r.length:Int)-1,y.d.r,y.d.n,y.d.m,y.d.li⟩,y.tg⟩:aU);have f:dn K (.ptr 0 2 0) [.f (fi ((r.length:Int)-1))]=ab (K.set 0 (.box (s.row.map .f) 0)):=by simp [dn,b0,over,aU.row,B]
   obtain⟨h,v⟩:=aP (K.set 0 (.box (s.row.map .f) 0):an);have a:h[0]?=ab (.box (s.row.map .f) 0):=by rw [v];exact OF (ax b0)
   have W:LR h c 8 (aM l):=by rw [v];exact b.set (b.cw b0) _
   obtain⟨-,-,-,-,-,-,-,i⟩:=xB a;obtain⟨tg,q⟩:=jU s (by rw [B];exact hy);obtain⟨S,H',m,z,M,X⟩:=nN W (by omega) ⟨s.d,tg⟩;have A:((aU.row ⟨s.d,tg⟩).map C.f).length=8:=rfl;obtain⟨g',O⟩:=z.ex (eH _) 63;have Z:db deep H' S=ab (sl g' (aM (l++[⟨s.d,tg⟩]))):=O;apply aj;simp [u,F,aN (n:=(r.length:Int)-1),f,-bs];rw [←v];apply aj;simp [J,F,i,-av,q,A,m];refine aE (k _ _ _ ⟨g',l++[⟨s.d,tg⟩],?_,rfl⟩ ⟨rfl,.c S,?_,?_⟩)
   ·simp only [et,auR,anc,atN]at d ⊢;rw [d,B]
   ·simp [Km.results,bw,aZ]
   ·simp [fZ,bX,Z]
 exact⟨g',E,d,w.eq⟩
section
variable{J:an}{x:ja}
theorem Gr(h:J[0]?=ab (.box (x.row.map .f) 0)):aV J ae (.c (.ptr 0 1 0))=ab (.c (.f (sl x.gg (bZ x.sT)))):=by simp [aV,aF,h,aK,ja.row]
theorem Gs(h:J[0]?=ab (.box (x.row.map .f) 0)):aV J ae (.c (.ptr 0 2 0))=ab (.c (.f (sl x.og (bZ x.zn)))):=by simp [aV,aF,h,aK,ja.row]
theorem aqw(h:J[0]?=ab (.box (x.row.map .f) 0)):aV J ae (.c (.ptr 0 3 0))=ab (.c (.f (u8 x.be))):=by simp [aV,aF,h,aK,ja.row]
theorem Cc(h:J[0]?=ab (.box (x.row.map .f) 0)):aV J ae (.c (.ptr 0 13 0))=ab (vb x.rules):=by simp [aV,aF,h,aK,ja.row]
theorem asX(h:J[0]?=ab (.box (x.row.map .f) 0)){k:Nat}(b:k<2):aV J (ab 4) (.c (.ptr 0 (4+k*4) 0))=ab (.a [.f (u8 (x.y k 0)),.f (u8 (x.y k 1)),.f (u8 (x.y k 2)),.f (u8 (x.y k 3))]):=by
 have:k=0∨k=1:=by omega
 rcases this with rfl | rfl<;>simp [aV,aF,h,aK,ja.row]
end
theorem dB.aqs{c:Nat}{s h:Int}{tr:List bA}{yr:List ew}{tg b yg d:Tg}{o:List bA}(k:dB ⟨c,s,tg,tr,h,yg,yr⟩ o):dB ⟨c,s,b,tr,h,d,yr⟩ o:=⟨k.c,k.st,k.tl,k.tb,k.ts,k.ho,k.y⟩
structure ZI(x:ja)(cs:List C)(c:Nat)(s h:Int)(tr:List bA)(ct:C)(yr:List ew)(cy:C)(t:T)(J:an):Prop where
 raw:J[0]?=ab (.box (x.row.map .f) 0)
 res:J[1]?=ab (.box [.f (fi 0),.f .aG,.f (fi 0),.f .aG,.f (fi 0),.f .aG,.f (fi 0),.f .aG] 0)
 eo:iZ J cs c
 zb:J[3]?=ab (oq cs s ct h cy)
 lt:LR J ct 2 (aQ tr)
 ly:LR J cy 5 (bT yr)
 ne:∀ i,aX ct=ab i→aX cy≠ab i
 g1:t.g 1=.c (.ptr 0 0 0)
 g2:t.g 2=.c (.ptr 1 0 0)
 g3:t.g 3=.c (.ptr 3 0 0)
def Ff(H:an)(c:C)(sz:Nat)(rows:List (List FC)):Prop:=(rows=[]∧(c=.f .aG∨c=.f .es))∨(rows≠[]∧∃ b d g,c=.sl b 0 rows.length 0 d sz∧H[b]?=ab (.bR sz (rows.flatten.map .f) g d .loc))
section
variable{H H':an}{c:C}{sz:Nat}{rows:List (List FC)}
theorem Ff.of(h:LR H c sz rows):Ff H c sz rows:=by
 rcases h with h | ⟨h,b,d,g,j⟩
 ·exact .inl h
 ·exact .inr ⟨h,b,d,0,g,j⟩
theorem Ff.exU(h:Ff H c sz rows)(hg:bO sz rows):∃ g,∀(H':an) (n:Nat),Ff H' c sz rows→db (n+1) H' c=ab (sl g rows):=by
 by_cases hr:rows=[]
 ·rcases h with⟨rfl,rfl | rfl⟩ | ⟨h,_⟩
  ·exact⟨.nil,fun _ _ _=>rfl⟩
  ·exact⟨.es,fun _ _ _=>rfl⟩
  ·exact absurd hr h
 ·refine⟨.fs,fun H' n j=>?_⟩;rcases j with⟨h,_⟩ | ⟨_,b,q,s,rfl,d⟩
  ·exact absurd h hr
  have m:rows.length*sz=rows.flatten.length:=(eS hg).symm;simp only [jf,d];rw [bg ⟨trivial,trivial,by rw [aur,auJ,m];exact aft _⟩,List.drop_zero,at6 (by rw [aur];omega),rQ];cases rows with
  | nil=>exact absurd rfl hr| cons x l=>simp [sl]
theorem Ff.cu(h:Ff H c sz rows)(v:∀(i s:Nat) (l:List C) (j g:Nat) (st:Km.Os),H[i]?=ab (.bR s l j g st)→∃ d,H'[i]?=ab (.bR s l d g st)):Ff H' c sz rows:=by
 rcases h with h | ⟨h,b,g,j,m,q⟩
 ·exact .inl h
 ·obtain⟨d,u⟩:=v _ _ _ _ _ _ q;exact .inr ⟨h,b,g,d,m,u⟩
theorem Ff.mk(h:Ff H c sz rows):(∀(i:Nat) (l:List C) (d:Nat),H[i]?=ab (.box l d)→(iG deep c H)[i]?=ab (.box l d))∧∀(i s:Nat) (l:List C) (d g:Nat) (st:Km.Os),H[i]?=ab (.bR s l d g st)→∃ q,(iG deep c H)[i]?=ab (.bR s l q g st):=by
 rcases h with⟨_,rfl | rfl⟩ | ⟨h,b,g,d,rfl,j⟩
 ·exact⟨fun i l d h=>by simpa using h,fun i s l d g st h=>⟨d,by simpa using h⟩⟩
 ·exact⟨fun i l d h=>by simpa using h,fun i s l d g st h=>⟨d,by simpa using h⟩⟩
 ·have e:iG deep (.sl b 0 rows.length 0 g sz) H=H.set b (.bR sz (rows.flatten.map .f) (Nat.max d (0+rows.length*sz)) g .loc):=by
   simp only [deep,BI,j];rw [oz];intro x u;have u:=ave (au3 u);obtain⟨m,_,rfl⟩:=auy.1 u;exact⟨_,rfl⟩
  rw [e];refine⟨fun i l d h=>?_,fun i s l d g st h=>?_⟩
  ·rw [By (by rintro rfl;rw [j]at h;cases h)];exact h
  ·by_cases e:b=i
   ·subst e;rw [j]at h;cases h;exact⟨_,OF (ax j)⟩
   ·rw [By e];exact⟨d,h⟩
end
theorem Ed{H:an}{b l cp e sz g:Nat}{xs:List FC}(h:H[b]?=ab (.box (xs.map .f) g)):iG deep (.sl b 0 l cp e sz) H=H.set b (.box (xs.map .f) (Nat.max g (0+l*sz))):=by
 simp only [deep,BI,h];rw [oz];intro x d;have d:=ave (au3 d);obtain⟨m,_,rfl⟩:=auy.1 d;exact⟨_,rfl⟩
theorem iZ.mk{H:an}{cs:List C}{c:Nat}(hc:iZ H cs c):iZ (cs.foldl (fun H x=>iG deep x H) H) cs c∧(∀ i y,H[i]?=ab y→i≠2→i≠4→i≠5→(cs.foldl (fun H x=>iG deep x H) H)[i]?=ab y)∧(∀(i s:Nat) (l:List C) (g q:Nat) (st:Km.Os),H[i]?=ab (.bR s l g q st)→∃ u,(cs.foldl (fun H x=>iG deep x H) H)[i]?=ab (.bR s l u q st)):=by
 rcases hc with⟨rfl,rfl,g,d⟩ | ⟨k,B,rfl,rfl,⟨v,d⟩,A,j⟩
 ·have e:=Ed (H:=H) (b:=2) (l:=2) (cp:=2) (e:=0) (sz:=1) (xs:=[fi 7,fi 6]) d;simp only [auV,List.foldl_nil,FU,e];refine⟨.inl ⟨rfl,rfl,_,OF (ax d)⟩,fun i y hy j _ _=>by rw [By (Ne.symm j)];exact hy,fun i s l g q st h=>⟨g,?_⟩⟩;rw [By (by rintro rfl;rw [d]at h;cases h)];exact h
 ·have e:=Ed (H:=H) (b:=4) (l:=2) (cp:=2) (e:=0) (sz:=1) (xs:=[fi 7,fi 8]) d;simp only [auV,List.foldl_nil,FU,e];have m:(H.set 4 (.box ([fi 7,fi 8].map .f) (Nat.max v (0+2*1))))[5]?=ab (.box ([fi 2,fi k,.bool ag].map .f) A):=by rw [By (by decide)];exact j
  have z:=Ed (l:=1) (cp:=1) (e:=0) (sz:=3) m;rw [z];refine⟨.inr ⟨k,B,rfl,rfl,⟨Nat.max v (0+2*1),?_⟩,_,OF (ax m)⟩,fun i y hy j E F=>?_,fun i s l g q st h=>⟨g,?_⟩⟩
  ·rw [By (by decide),OF (ax d)];rfl
  ·rw [By (Ne.symm F),By (Ne.symm E)];exact hy
  ·rw [By (by rintro rfl;rw [j]at h;cases h),By (by rintro rfl;rw [d]at h;cases h)];exact h
structure ZE(cs:List C)(c:Nat)(s h:Int)(tr:List bA)(ct:C)(yr:List ew)(cy:C)(J:an):Prop where
 res:J[1]?=ab (.box [.f (fi 0),.f .aG,.f (fi 0),.f .aG,.f (fi 0),.f .aG,.f (fi 0),.f .aG] 0)
 eo:iZ J cs c
 zb:J[3]?=ab (oq cs s ct h cy)
 lt:Ff J ct 2 (aQ tr)
 ly:Ff J cy 5 (bT yr)
section
variable{x:ja}{cs:List C}{c:Nat}{s h:Int}{tr:List bA}{ct:C}{yr:List ew}{cy:C}{t:T}{J:an}
theorem ZI.e(k:ZI x cs c s h tr ct yr cy t J):ZE cs c s h tr ct yr cy J:=⟨k.res,k.eo,k.zb,Ff.of k.lt,Ff.of k.ly⟩
theorem ZE.ex(k:ZE cs c s h tr ct yr cy J) :
  ∃ tg yg,∀ J':an,(∀ i y,J[i]?=ab y→i≠1→J'[i]?=ab y)→aZ (db 64 J') (cs++[.f (fi s),ct,.f (fi h),cy])=ab (ZD.row ⟨c,s,tg,tr,h,yg,yr⟩):=by
 obtain⟨tg,u⟩:=k.lt.exU (cD _);obtain⟨yg,hy⟩:=k.ly.exU (jo _);refine⟨tg,yg,fun J' j=>?_⟩;have hc:iZ J' cs c:=k.eo.cu fun i y hy hi=>j i y hy (by omega);have ho:∀(i s:Nat) (l:List C) (d b:Nat) (st:Km.Os),J[i]?=ab (.bR s l d b st)→∃ g,J'[i]?=ab (.bR s l g b st):=fun i s l d b st h=>⟨d,j i _ h (by
  rintro rfl;rw [k.res]at h;cases h)⟩
 have m:=u J' 63 (k.lt.cu ho);have q:=hy J' 63 (k.ly.cu ho);exact jh hc.ex (by simp [aZ,m,q])
theorem ZE.fin(k:ZE cs c s h tr ct yr cy J)(ho:∃ tg yg o,dB ⟨c,s,tg,tr,h,yg,yr⟩ o)
  (l:T) (j:l.g 2=.c (.ptr 1 0 0)):∃ z o J',dB z o∧dn J (.ptr 1 0 0) (cs++[.f (fi s),ct,.f (fi h),cy])=ab J'∧mW [.cell (P.nat 2) (ab 8)] (.a (z.row.map .f)) ⟨l,[],J'⟩:=by
 obtain⟨tg,yg,g⟩:=k.ex;obtain⟨u,v,o,ho⟩:=ho;obtain⟨a,b,d,e,rfl⟩:=k.eo.four;have q:dn J (.ptr 1 0 0) ([a,b,d,e]++[.f (fi s),ct,.f (fi h),cy])=ab (J.set 1 (.box ([a,b,d,e]++[.f (fi s),ct,.f (fi h),cy]) 0)):=by simp [dn,k.res,over]
 have m:=ax k.res;refine⟨⟨c,s,tg,tr,h,yg,yr⟩,o,_,ho.aqs,q,rfl,.a ([a,b,d,e]++[.f (fi s),ct,.f (fi h),cy]),?_,?_⟩
 ·simp [Km.results,bw,aZ,j,m,aK]
 ·have:=g (J.set 1 (.box ([a,b,d,e]++[.f (fi s),ct,.f (fi h),cy]) 0)) fun i y hy hi=>by rw [By (by omega)];exact hy
  simp only [fZ,bX,deep,this];rfl
theorem ZE.marked(k:ZE cs c s h tr ct yr cy J):ZE cs c s h tr ct yr cy (iG deep cy (iG deep ct (cs.foldl (fun H x=>iG deep x H) J))):=by
 obtain⟨z,u,v⟩:=k.eo.mk;obtain⟨B,j⟩:=aP (cs.foldl (fun H x=>iG deep x H) J);rw [←j]at z u v ⊢;have d:=k.lt.cu v;have q:=k.ly.cu v;have A:=u _ _ k.zb (by decide) (by decide) (by decide);have r1:=u _ _ k.res (by decide) (by decide) (by decide);obtain⟨a1,y⟩:=d.mk;have m:=d.cu y;have g:=q.cu y;obtain⟨b1,b2⟩:=g.mk;exact⟨b1 _ _ _ (a1 _ _ _ r1),(z.xx fun i l b h _=>⟨b,a1 i l b h⟩).xx fun i l b h _=>⟨b,b1 i l b h⟩,b1 _ _ _ (a1 _ _ _ A),m.cu b2,g.cu b2⟩
end
theorem mf{H:an}{c:C}{sz:Nat}{rows:List (List FC)}(h:LR H c sz rows)(b:bO sz rows):∃ g,db deep H c=ab (sl g rows):=h.ex b 63
def LM(H:an)(c:C)(l:List Int):Prop:=(l=[]∧(c=.f .aG∨c=.f .es))∨(l≠[]∧∃ b d g,c=.sl b 0 l.length 0 d 1∧H[b]?=ab (.bR 1 (l.map cI) g d .loc)∧g≤l.length)
section
variable{H H':an}{c:C}{l:List Int}
theorem LM.cu(h:LM H c l)(q:∀(i:Nat) (y:c6),H[i]?=ab y→aX c=ab i→H'[i]?=ab y):LM H' c l:=by
 rcases h with h | ⟨h,b,d,g,rfl,j,m⟩
 ·exact .inl h
 ·exact .inr ⟨h,b,d,g,rfl,q _ _ j rfl,m⟩
theorem LM.push(h:LM H c l)(J:an):LM (H++J) c l:=h.cu fun i y hy _=>by rw [AI (ax hy)];exact hy
theorem LM.cw(h:LM H c l){i:Nat}{cs:List C}{d:Nat}(j:H[i]?=ab (.box cs d)):aX c≠ab i:=by
 rcases h with⟨_,rfl | rfl⟩ | ⟨_,b,m,d,rfl,g,q⟩
 ·simp [aX]
 ·simp [aX]
 ·intro e;simp [aX]at e;subst e;rw [j]at g;cases g
theorem LM.akT(h:LM H c l){g:C}{rows:List (List FC)}(hc:LR H g 8 rows):∀ i,aX g=ab i→aX c≠ab i:=by
 intro i hi d;rcases hc with⟨_,rfl | rfl⟩ | ⟨_,s,q,rfl,m⟩
 ·simp [aX]at hi
 ·simp [aX]at hi
 ·simp [aX]at hi;subst hi;unfold RB at m;rcases h with⟨_,rfl | rfl⟩ | ⟨_,b,q,u,rfl,j,v⟩
  ·simp [aX]at d
  ·simp [aX]at d
  ·simp [aX]at d;subst d;rw [m]at j;cases j
theorem LM.app(h:LM H c l)(E:l.length≤1000){v:Int}{b1 fl1:Nat}(q:H[b1]?=ab (.box [.f (fi v)] fl1)) :
  ∃ j H',bK H 1 8 (.c c) (.c (.sl b1 0 1 1 0 1))=ab (.c j,H')∧LM H' j (l++[v])∧Kb H H' c∧(aX j=aX c∨aX j=ab H.length):=by
 have g:cX H 1 (.c (.sl b1 0 1 1 0 1))=ab (1,[.f (fi v)]):=kY q rfl;rcases h with⟨rfl,z⟩ | ⟨B,b,m,s,rfl,u,x⟩
 ·have d:bU 1 8=ag:=by decide
  refine⟨.sl H.length 0 1 0 0 1,H++[.bR 1 [.f (fi v)] 0 0 .loc],?_,.inr ⟨by simp,H.length,0,0,rfl,by simp,Nat.zero_le _⟩,⟨by simp,fun i y hy _=>by rw [AI (ax hy)];exact hy⟩,.inr rfl⟩;rcases z with rfl | rfl<;>simp [bK,g,d]
 ·have d:bU (l.length+1) 8=ag:=cB (by omega) (by decide);refine⟨.sl b 0 (l.length+1) 0 (m+1) 1,H.set b (.bR 1 (l.map cI++[.f (fi v)]) s (m+1) .loc),?_,.inr ⟨by simp,b,m+1,s,by simp,?_,by simp;omega⟩,⟨by simp,fun i y hy A=>?_⟩,.inl rfl⟩
  ·simp only [bK,g,u,and_self,if_true];rw [aY (by decide),aY (by decide),bg ⟨trivial,by simp,by simpa using x⟩,d];simp
  ·rw [OF (ax u)];simp
  ·have:b≠i:=by rintro rfl;exact A rfl
   rw [By this];exact hy
theorem LM.ex(h:LM H c l):∃ g,db deep H c=ab (sl g (ints l)):=by
 rcases h with⟨rfl,rfl | rfl⟩ | ⟨j,b,q,s,rfl,m,u⟩
 ·exact⟨.nil,rfl⟩
 ·exact⟨.es,rfl⟩
 ·refine⟨.fs,?_⟩;show db (63+1) H _=_;rw [jf,m];have e:(((l.map cI).drop 0).take (l.length*1))=(l.map fi).map .f:=by rw [List.drop_zero,at6 (by simp)];simp
  have d:¬ (ints l).isEmpty=ag:=by simpa [ints]using j
  simp only [e,zi,Option.map_some];rw [bg ⟨trivial,trivial,by simp⟩,sl,aY d,xv,BC]
theorem LM.mk(h:LM H c l):LM (iG deep c H) c l∧(∀(i:Nat) (y:c6),H[i]?=ab y→aX c≠ab i→(iG deep c H)[i]?=ab y):=by
 rcases h with⟨rfl,rfl | rfl⟩ | ⟨g,b,d,s,rfl,q,u⟩
 ·exact⟨.inl ⟨rfl,.inl rfl⟩,fun i y hy _=>by simpa using hy⟩
 ·exact⟨.inl ⟨rfl,.inr rfl⟩,fun i y hy _=>by simpa using hy⟩
 ·have e:iG deep (.sl b 0 l.length 0 d 1) H=H.set b (.bR 1 (l.map cI) (Nat.max s (0+l.length*1)) d .loc):=by
   simp only [deep,BI,q];rw [oz];intro x j;have j:=ave (au3 j);obtain⟨m,_,rfl⟩:=auy.1 j;exact⟨_,rfl⟩
  rw [e];refine⟨.inr ⟨g,b,d,_,rfl,OF (ax q),?_⟩,fun i y hy v=>?_⟩
  ·rw [auJ,Nat.mul_one];exact Nat.max_le.2 ⟨u,aft _⟩
  ·have:b≠i:=by rintro rfl;exact v rfl
   rw [By this];exact hy
end
theorem xc(y:aU)(hy:y.d.li.length≤61)(ga gb:Tg){a b:List aU}(l7:a.length≤50)(l_:b.length≤50)(i_:LiB a)(j3:∀(i:Nat) (hi:i<b.length),lT i b[i].d)(l9:0<a.length+b.length) :
  ∃ g' l',et l'=et a++(et b).map (bF.shift a.length)++[⟨y.d.k,y.d.eo,(a.length:Int)-1,(a.length:Int)+b.length-1,y.d.n,y.d.m,y.d.li⟩] ∧
   bB tab.get 75 [.a (y.row.map .f),.c (.f (sl ga (aM a))),.c (.f (sl gb (aM b)))]=Eq (.c (.f (sl g' (aM l')))):=by
 obtain⟨rr,⟨g',l',g,rfl⟩,hp⟩:∃ rr,(∃ g' l',et l'=et a++(et b).map (bF.shift a.length)++[⟨y.d.k,y.d.eo,(a.length:Int)-1,(a.length:Int)+b.length-1,y.d.n,y.d.m,y.d.li⟩]∧rr=.c (.f (sl g' (aM l')))) ∧
   bB tab.get 75 [.a (y.row.map .f),.c (.f (sl ga (aM a))),.c (.f (sl gb (aM b)))] rr:=by
  refine bY rfl rfl fun Q hQ=>?_;apply aj;simp;obtain⟨H,hH⟩:=aP ([.box (y.row.map .f) 0]:an);have b0:H[0]?=ab (.box (y.row.map .f) 0):=by rw [hH];rfl
  rw [←hH];clear hH;apply aj;simp;refine aq (aj ?_);simp;refine bQ a.length (fun j t K=>∃ c l,t.g 1=.c (.f (sl ga (aM a)))∧t.g 2=.c (.f (sl gb (aM b)))∧t.g 3=.c (.ptr 0 0 0)∧t.g 7=.c c∧LR K c 8 (aM l)∧et l=et (a.take j)∧K[0]?=ab (.box (y.row.map .f) 0)) (by omega) (by decide) (by simp)
   ⟨.f .es,[],by simp,by simp,by simp,by simp,.inl ⟨rfl,.inr rfl⟩,by simp,b0⟩ ?_ ?_ ?_
  ·rintro j t K L O ⟨c,l,s,E,A,F,d,g,b0⟩ u hn;simp [u,s];exact hn _ ⟨c,l,by simp [s],by simp [E],by simp [A],by simp [F],d,g,b0⟩ (by simp [u]) (by simp)
  ·rintro j t K O ⟨c,l,s,E,A,F,d,g,b0⟩ u nx;obtain⟨x,X⟩:=aP (a[j]);obtain⟨tg,N⟩:=jU x (by rw [X];exact i_ _ (IS O));have b_:l.length=j:=by have:=congrArg List.length g;simp at this;omega
   obtain⟨c',H',q,M,I,d7⟩:=nN d (by omega) ⟨x.d,tg⟩;have S:((aU.row ⟨x.d,tg⟩).map C.f).length=8:=rfl;refine az (au (.inl rfl) ?_);simp [s,F,u,eT O (by omega),me O,←X,N,S,q];refine aw ?_;refine nx _ _ ⟨c',l++[⟨x.d,tg⟩],by simp [s],by simp [E],by simp [A],by simp,M,?_,?_⟩ (by simp [u])
   ·rw [at0 O,←X];simp only [et,auR,anc,atN]at g ⊢;rw [g]
   ·exact I.2 0 _ (by rw [AI (ax b0)];exact b0) (d.cw b0)
  ·rintro t K ⟨c,l,s,E,A,F,d,g,b0⟩ u;rw [aul]at g;apply aj;simp;refine aq (aj ?_);simp;refine bQ b.length (fun j t K=>∃ c l p,t.g 1=.c (.f (sl ga (aM a)))∧t.g 2=.c (.f (sl gb (aM b)))∧t.g 3=.c (.ptr 0 0 0)∧t.g 7=.c c∧t.g 9=.c p∧LR K c 8 (aM l)∧LM K p (B0 a.length j)∧et l=et a++(et (b.take j)).map (bF.shift a.length)∧K[0]?=ab (.box (y.row.map .f) 0)) (by omega) (by decide) (by simp)
    ⟨c,l,.f .es,by simp [s],by simp [E],by simp [A],by simp [F],by simp,d,.inl ⟨rfl,.inr rfl⟩,by simpa using g,b0⟩ ?_ ?_ ?_
   ·rintro j t K L O ⟨c,l,p,s,E,A,F,g9,d,W,g,b0⟩ u hn;simp [u,E];exact hn _ ⟨c,l,p,by simp [s],by simp [E],by simp [A],by simp [F],by simp [g9],d,W,g,b0⟩ (by simp [u]) (by simp)
   ·rintro j t K O ⟨c,l,p,s,E,A,F,g9,d,W,g,b0⟩ u nx;obtain⟨x,X⟩:=aP (b[j]);have hA:lT j x.d:=by rw [X];exact j3 j O
    have b_:l.length=a.length+j:=by have:=congrArg List.length g;simp at this;omega
    obtain⟨v,hv⟩:=aP ((a.length:Int)+j:Int);have j7:ai .i64 ((a.length:Int)+j)=v:=by rw [hv];exact aN
    obtain⟨K1,J⟩:=aP (K++[.box [.f (fi v)] 0]:an);have a7:LM K1 p (B0 a.length j):=by rw [J];exact W.push _
    have j4:K1[K.length]?=ab (.box [.f (fi v)] 0):=by rw [J];simp
    have g_:∀ {i:Nat} {z:c6},K[i]?=ab z→K1[i]?=ab z:=fun {i z} Y=>by rw [J,AI (ax Y)];exact Y
    have d8:LR K1 c 8 (aM l):=by rw [J];exact d.push _
    obtain⟨p',U,q,m,I,m4⟩:=a7.app (by simp;omega) j4;rw [hv,show(a.length:Int)+(j:Int)=((a.length+j:Nat):Int) by omega,←aaY]at m;have b2:U[0]?=ab (.box (y.row.map .f) 0):=I.2 0 _ (g_ b0) (a7.cw (g_ b0));have d9:LR U c 8 (aM l):=d8.cu fun i z Y hi=>I.2 i z Y (a7.akT d8 i hi);obtain⟨gp,j8⟩:=m.ex;obtain⟨a_,c9⟩:=m.mk;obtain⟨tg,e_⟩:=NX x hA (by omega) gp a.length;obtain⟨K3,B⟩:=aP (iG deep p' U:an);rw [←B]at a_ c9;have b3:K3[0]?=ab (.box (y.row.map .f) 0):=c9 0 _ b2 (m.cw b2);have b9:LR K3 c 8 (aM l):=d9.cu fun i z Y hi=>c9 i z Y (m.akT d9 i hi);obtain⟨c',H',b7,M,d6,d7⟩:=nN b9 (by omega) ⟨x.d.shift a.length,tg⟩;have S:((aU.row ⟨x.d.shift a.length,tg⟩).map C.f).length=8:=rfl;refine az (aj ?_);simp [g9,s,u,j7];rw [←J];simp [q];refine au (.inl rfl) ?_;simp [F,E,u,eT O (by omega),me O,←X,j8,e_,←B,S,b7];refine aw ?_;refine nx _ _ ⟨c',l++[⟨x.d.shift a.length,tg⟩],p',by simp [s],by simp [E],by simp [A],by simp,by simp,M,?_,?_,?_⟩ (by simp [u])
    ·refine(a_.push _).cu fun i z Y hi=>d6.2 i z Y fun e=>?_;exact(a_.push [.box ((aU.row ⟨x.d.shift a.length,tg⟩).map .f) 0]).akT (b9.push _) i e hi
    ·rw [at0 O,←X];simp only [et,auR,anc,atN]at g ⊢;rw [g,List.append_assoc]
    ·exact d6.2 0 _ (by rw [AI (ax b3)];exact b3) (b9.cw b3)
   ·rintro t K ⟨c,l,p,s,E,A,F,g9,d,W,g,b0⟩ u;rw [aul]at g;have b_:l.length=a.length+b.length:=by have:=congrArg List.length g;simpa using this
    obtain⟨y1,f_⟩:=aP (⟨⟨y.d.k,y.d.eo,(a.length:Int)-1,y.d.r,y.d.n,y.d.m,y.d.li⟩,y.tg⟩:aU);obtain⟨y2,c_⟩:=aP (⟨⟨y.d.k,y.d.eo,(a.length:Int)-1,(a.length:Int)+b.length-1,y.d.n,y.d.m,y.d.li⟩,y.tg⟩:aU);have j_:dn K (.ptr 0 2 0) [.f (fi ((a.length:Int)-1))]=ab (K.set 0 (.box (y1.row.map .f) 0)):=by simp [dn,b0,over,aU.row,f_]
    obtain⟨U,Z⟩:=aP (K.set 0 (.box (y1.row.map .f) 0):an);have d5:U[0]?=ab (.box (y1.row.map .f) 0):=by rw [Z];exact OF (ax b0)
    have a9:LR U c 8 (aM l):=by rw [Z];exact d.set (d.cw b0) _
    have k_:dn U (.ptr 0 3 0) [.f (fi ((a.length:Int)+b.length-1))]=ab (U.set 0 (.box (y2.row.map .f) 0)):=by simp [dn,d5,over,aU.row,f_,c_]
    obtain⟨K3,B⟩:=aP (U.set 0 (.box (y2.row.map .f) 0):an);have j9:K3[0]?=ab (.box (y2.row.map .f) 0):=by rw [B];exact OF (ax d5)
    have h_:LR K3 c 8 (aM l):=by rw [B];exact a9.set (a9.cw d5) _
    obtain⟨-,-,-,-,-,-,-,e8⟩:=xB j9;obtain⟨tg,N⟩:=jU y2 (by rw [c_];exact hy);obtain⟨c',H',q,M,I,d7⟩:=nN h_ (by omega) ⟨y2.d,tg⟩;have S:((aU.row ⟨y2.d,tg⟩).map C.f).length=8:=rfl;obtain⟨g',X⟩:=mf M (eH _);have d_:=a9.len;rw [qA,b_]at d_;have f9:ai .i64 (((a.length+b.length:Nat):Int)-1)=(a.length:Int)+b.length-1:=by rw [aN];omega
    apply aj;simp [s,A,aN (n:=(a.length:Int)-1),j_,-bs];rw [←Z];apply aj;simp only [Int.natCast_add]at f9;simp [F,A,d_,f9,k_,-bs];rw [←B];apply aj;simp [F,A,e8,-av,N,S,q];refine aE (hQ _ _ _ ⟨g',l++[⟨y2.d,tg⟩],?_,rfl⟩ ⟨rfl,.c c',?_,?_⟩)
    ·simp only [et,auR,anc,atN]at g ⊢;rw [g,c_]
    ·simp [Km.results,bw,aZ]
    ·simp [fZ,bX,X]
 exact⟨g',l',g,hp.eq⟩
structure kX where
 k:Nat
 n:Int
 m:Nat
 lg:Tg
 li:List Nat
def kX.row(x:kX):List FC:=[u8 x.k,.int .i8 x.n,u8 x.m,sl x.lg (bZ x.li)]
structure kX.OK(x:kX):Prop where
 k:x.k<256
 n:-128≤x.n∧x.n≤127
 m:x.m<256
 ll:x.li.length≤9223372036854775807
 lb:∀ v ∈ x.li,v<256
theorem GA{n k:Int}(b:0<k):-k<n.tmod k∧n.tmod k<k:=by
 rcases Int.le_total 0 n with h | h
 ·rw [auO h];have:=aum n (show k≠0 by omega);have:=auq n b;omega
 ·have:n = -(-n):=by omega
  rw [this,Int.neg_tmod,auO (by omega)];have:=aum (-n) (show k≠0 by omega);have:=auq (-n) b;omega
def A7(x:bF):Prop:=x.OK∧dN x.k=0∧(x.k≠7→x.l=0)∧x.r=0
theorem A7.Nu{x:bF}(h:A7 x):Good [x]:=.leaf h.1 h.2.1 h.2.2.1 h.2.2.2
theorem hZ(n:Nat){m:Int}(d:0<m):∃ a:Nat,(a:Int)<m∧bV .rem (.c (.f (.int .u8 n))) (.c (.f (.int .u8 m)))=ab (.c (.f (.int .u8 a))):=by
 have b:=aum (n:Int) (show m≠0 by omega);have g:=auq (n:Int) d;refine⟨((n:Int) % m).toNat,by omega,?_⟩;rw [ov (by omega),auO (by omega),auU b]
theorem zT{n:Nat}(l:n<256){m:Int}(d:0<m):∃ a:Nat,(a:Int)≤255 / m∧bV .quo (.c (.f (.int .u8 n))) (.c (.f (.int .u8 m)))=ab (.c (.f (.int .u8 a))):=by
 have b:0≤(n:Int) / m:=au4 (by omega) (by omega);have g:(n:Int) / m≤255 / m:=Int.ediv_le_ediv d (by omega);have j:(n:Int) / m≤n:=Int.ediv_le_self _ (by omega);refine⟨((n:Int) / m).toNat,by omega,?_⟩;rw [s_ (by omega),Int.tdiv_eq_ediv_of_nonneg (by omega),abJ b (by omega),auU b]
theorem aa_{a b:Int}(g:0≤a)(d:0<b):∃ r,0≤r∧r<b∧bV .rem (vi a) (vi b)=ab (vi r):=⟨a % b,aum _ (by omega),auq _ d,ke g d⟩
theorem na(n:Nat)(h:n≤1000000):ai .i64 (n:Int)=n:=aN
theorem aaX(x:kX)(hx:x.OK){cals:Nat}(hc:cals=0∨cals=2):∃ y:aU,A7 y.d∧bB tab.get 115 [.a (x.row.map .f),vi cals]=Eq (.a (y.row.map .f)):=by
 obtain⟨rr,⟨y,hy,rfl⟩,hp⟩:∃ rr,(∃ y:aU,A7 y.d∧rr=.a (y.row.map .f))∧bB tab.get 115 [.a (x.row.map .f),vi cals] rr:=by
  refine bY rfl rfl fun Q hQ=>?_;obtain⟨I,N,X,K,li⟩:=x;obtain⟨hk,i,hm,F,E⟩:=hx;simp only at hk i hm F E;apply aj;simp [kX.row];obtain⟨q,hq⟩:=aP ((I:Int) % 7:Int);obtain⟨H,b7⟩:=aP (1+I % 7:Nat);have w1:ai .i64 (I:Int)=I:=aN;have r1:bV .rem (vi I) (vi 7)=ab (vi q):=by rw [ke (by omega) (by omega),hq]
  have w2:ai .i64 (1+q)=H:=by rw [aN];omega
  apply aj;simp [w1,r1,w2];have v:∀(t:T) (y:aU),A7 y.d→t.g 4=.c (.ptr 1 0 0)→t.g 6=.c (.ptr 2 0 0) →
    WP tab.get 115 ae [.code tD] ⟨t,[],[.box [.f (u8 I),.f (.int .i8 N),.f (u8 X),.f (sl K (bZ li))] 0,.box nL 0,.box (y.row.map .f) 0]⟩ Q:=by
   intro t y hy u j;apply aj;simp [u,j,aU.row,nL];refine aE (hQ _ _ _ ⟨y,hy,rfl⟩ ⟨rfl,.a (y.row.map .f),?_,?_⟩)
   ·simp [Km.results,bw,aZ,u,aU.row,aK]
   ·simp [fZ,bX]
  have L:∀(t:T) (g:Nat) (l:Int),1≤g→g≤7→0≤l→l≤1→(g=1∨g=5→l=0)→t.g 2=.c (.ptr 0 0 0)→t.g 4=.c (.ptr 1 0 0)→t.g 5=vi g→t.g 6=.c (.ptr 2 0 0) →
    WP tab.get 115 ae [.code Ay] ⟨t,[],[.box [.f (u8 I),.f (.int .i8 N),.f (u8 X),.f (sl K (bZ li))] 0,.box nL 0,.box [cI g,cI l,cI 0,cI 0,cI 0,cI 0,.f .aG,.f (.str ⟨#[]⟩)] 0]⟩ Q:=by
   intro t g l w h7 c f J s u Y j;refine aq (aj ?_);simp [Y];refine az (aj ?_);simp;rcases(show g=1∨g=2∨g=3∨g=4∨g=5∨g=6∨g=7 by omega)with rfl | rfl | rfl | rfl | rfl | rfl | rfl
   ·obtain⟨Z,m0,m1,U⟩:=mj i (k:=9) (by decide);obtain⟨a,a1,W⟩:=hZ X (m:=12) (by decide);have S:=J (.inl rfl);subst S;refine ak (by simp) (aj ?_);simp [s,j,U,aN (n:=1+Z)];refine au (.inl rfl) ?_;simp [s,j,W,na a (by omega)];refine aw ?_;exact v _ ⟨⟨1,0,0,0,1+Z,a,[]⟩,.nil⟩ ⟨⟨by simp,.inl ⟨rfl,rfl,rfl,(by dsimp only;omega),(by dsimp only;omega),(by dsimp only;omega),(by dsimp only;omega)⟩⟩,rfl,fun _=>rfl,rfl⟩ (by simp [u]) (by simp [j])
   ·obtain⟨Z,m0,m1,U⟩:=mj i (k:=4) (by decide);obtain⟨a,a1,W⟩:=hZ X (m:=8) (by decide);obtain⟨b,b0,b1,p⟩:=aa_ (a:=(a:Int)) (b:=1+Z) (by omega) (by omega);refine al (by simp) (aj ?_);simp;refine ak (by simp) (aj ?_);simp [s,j,U,aN (n:=1+Z)];refine au (.inl rfl) ?_;simp [s,j,W,na a (by omega),p];refine aw ?_;exact v _ ⟨⟨2,l,0,0,1+Z,b,[]⟩,.nil⟩ ⟨⟨by simp,.inr (.inl ⟨rfl,c,f,rfl,(by dsimp only;omega),(by dsimp only;omega),b0,by dsimp only;omega⟩)⟩,rfl,fun _=>rfl,rfl⟩ (by simp [u]) (by simp [j])
   ·obtain⟨O,lp,hr,z,A⟩:=mr K li F E (lo:=1) (hi:=4) (by decide) (by decide) (by decide) ag (by decide);refine al (by simp) (aj ?_);simp;refine al (by simp) (aj ?_);simp;refine ak (by simp) (au (.inl rfl) ?_);simp [s,j,A];refine aw ?_;exact v _ ⟨⟨3,l,0,0,0,0,lp⟩,O⟩ ⟨⟨by simp at z ⊢;omega,.inr (.inr (.inl ⟨rfl,c,f,hr,rfl,rfl⟩))⟩,rfl,fun _=>rfl,rfl⟩ (by simp [u]) (by simp [j])
   ·obtain⟨O,lp,hr,z,A⟩:=mr K li F E (lo:=(-3)) (hi:=6) (by decide) (by decide) (by decide) ah (by decide);refine al (by simp) (aj ?_);simp;refine al (by simp) (aj ?_);simp;refine al (by simp) (aj ?_);simp;refine ak (by simp) (au (.inl rfl) ?_);simp [s,j,A];refine aw ?_;exact v _ ⟨⟨4,l,0,0,0,0,lp⟩,O⟩ ⟨⟨by simp at z ⊢;omega,.inr (.inr (.inr (.inl ⟨rfl,c,f,hr,rfl,rfl⟩)))⟩,rfl,fun _=>rfl,rfl⟩ (by simp [u]) (by simp [j])
   ·obtain⟨O,lp,hr,z,A⟩:=mr K li F E (lo:=0) (hi:=6) (by decide) (by decide) (by decide) ag (by decide);have S:=J (.inr rfl);subst S;refine al (by simp) (aj ?_);simp;refine al (by simp) (aj ?_);simp;refine al (by simp) (aj ?_);simp;refine al (by simp) (aj ?_);simp;refine ak (by simp) (au (.inl rfl) ?_);simp [s,j,A];refine aw ?_;exact v _ ⟨⟨5,0,0,0,0,0,lp⟩,O⟩ ⟨⟨by simp at z ⊢;omega,.inr (.inr (.inr (.inr (.inl ⟨rfl,rfl,hr,rfl,rfl⟩))))⟩,rfl,fun _=>rfl,rfl⟩ (by simp [u]) (by simp [j])
   ·obtain⟨O,lp,hr,z,A⟩:=mr K li F E (lo:=1) (hi:=5) (by decide) (by decide) (by decide) ag (by decide);refine al (by simp) (aj ?_);simp;refine al (by simp) (aj ?_);simp;refine al (by simp) (aj ?_);simp;refine al (by simp) (aj ?_);simp;refine al (by simp) (aj ?_);simp;refine ak (by simp) (au (.inl rfl) ?_);simp [s,j,A];refine aw ?_;exact v _ ⟨⟨6,l,0,0,0,0,lp⟩,O⟩ ⟨⟨by simp at z ⊢;omega,.inr (.inr (.inr (.inr (.inr (.inl ⟨rfl,c,f,hr,rfl,rfl⟩)))))⟩,rfl,fun _=>rfl,rfl⟩ (by simp [u]) (by simp [j])
   ·obtain⟨a,a1,W⟩:=hZ X (m:=8) (by decide);obtain⟨b,b0,b1,p⟩:=aa_ (a:=(a:Int)) (b:=7) (by omega) (by omega);obtain⟨d,d1,rd⟩:=zT hk (m:=128) (by decide);obtain⟨e,e0,e1,re⟩:=aa_ (a:=(d:Int)) (b:=2) (by omega) (by omega);have hw:=aN (n:=N);have a7:=GA (n:=N) (k:=4) (by decide);obtain⟨r,hr⟩:=aP (N.tmod 4);have a_:bV .rem (vi N) (vi 4)=ab (vi r):=by rw [hr];exact ov (by decide)
    rw [←hr]at a7;refine al (by simp) (aj ?_);simp;refine al (by simp) (aj ?_);simp;refine al (by simp) (aj ?_);simp;refine al (by simp) (aj ?_);simp;refine al (by simp) (aj ?_);simp;refine al (by simp) (aj ?_);simp;refine ak (by simp) (aj ?_);simp [s,j,hw,a_];have M:∀(t:T) (n:Int),(n=1∨n=2∨n=3∨-3≤n∧n≤-1)→t.g 2=.c (.ptr 0 0 0)→t.g 4=.c (.ptr 1 0 0)→t.g 6=.c (.ptr 2 0 0) →
      WP tab.get 115 ae [.code Az,.inBlock 0,.code tD] ⟨t,[],[.box [.f (u8 I),.f (.int .i8 N),.f (u8 X),.f (sl K (bZ li))] 0,.box nL 0,.box [cI 7,cI l,cI 0,cI 0,cI n,cI 0,.f .aG,.f (.str ⟨#[]⟩)] 0]⟩ Q:=by
     intro t n i s u j;apply aj;simp [s,j,W,na a (by omega),p];refine au (.inl rfl) ?_;simp [s,j,rd,na d (by omega),re];refine aw ?_;exact v _ ⟨⟨7,l,e,0,n,b,[]⟩,.nil⟩ ⟨⟨by simp,.inr (.inr (.inr (.inr (.inr (.inr (.inl ⟨rfl,c,f,rfl,i,b0,(by dsimp only;omega),e0,(by dsimp only;omega)⟩))))))⟩,rfl,fun h=>absurd rfl h,rfl⟩ (by simp [u]) (by simp [j])
    refine aq (aj ?_);simp [j];by_cases o:r=0
    ·refine ak (by simp [o]) (au (.inl rfl) ?_);simp [j];exact M _ 1 (.inl rfl) (by simp [s]) (by simp [u]) (by simp [j])
    ·refine aW (by simp [o]) ?_;exact M _ r (by omega) (by simp [s]) (by simp [u]) (by simp [j])
  have B:∀(t:T) (g:Nat),1≤g→g≤7→(cals=0→g=1∨g=5)→t.g 1=vi cals→t.g 2=.c (.ptr 0 0 0)→t.g 4=.c (.ptr 1 0 0)→t.g 5=vi g →
    WP tab.get 115 ae [.code E9] ⟨t,[],[.box [.f (u8 I),.f (.int .i8 N),.f (u8 X),.f (sl K (bZ li))] 0,.box nL 0]⟩ Q:=by
   intro t g w h7 h0 g1 s u Y;have hu:=oe g (by omega);apply aj;simp [Y,nL];refine aq (aj ?_);simp [Y,hu];cases hs:mQ g
   ·refine aW (by simp) ?_;exact L _ g 0 w h7 (by omega) (by omega) (fun _=>rfl) (by simp [s]) (by simp [u]) (by simp [Y]) (by simp)
   ·have b9:g≠1∧g≠5:=by
     constructor<;>(rintro rfl;simp [mQ]at hs)
    have a9:cals=2:=by
     rcases hc with e | e
     ·have:=h0 e;omega
     ·exact e
    subst a9;obtain⟨a,a1,W⟩:=zT hm (m:=8) (by decide);obtain⟨b,b0,b1,p⟩:=aa_ (a:=(a:Int)) (b:=2) (by omega) (by omega);refine ak (by simp) (au (.inl rfl) ?_);simp [g1,s,W,na a (by omega),p];exact L _ g b w h7 b0 (by omega) (fun e=>by omega) (by simp [s]) (by simp [u]) (by simp [Y]) (by simp)
  refine aq (aj ?_);have hu:=oe H (by omega);rcases hc with rfl | rfl
  ·simp [hu];cases hs:mQ H
   ·refine aW (by simp) ?_;refine B _ H (by omega) (by omega) (fun _=>?_) (by simp) (by simp) (by simp) (by simp);simp [mQ]at hs;omega
   ·refine ak (by simp) (au (.inl rfl) ?_);simp;exact B _ 1 (by omega) (by omega) (fun _=>.inl rfl) (by simp) (by simp) (by simp) (by simp)
  ·simp;refine aW (by simp) ?_;exact B _ H (by omega) (by omega) (fun h=>by omega) (by simp) (by simp) (by simp) (by simp)
 exact⟨y,hy,hp.eq⟩
structure sN where
 tg:Tg
 l:List aU
def sN.row(x:sN):List FC:=[sl x.tg (aM x.l)]
def cK(l:List sN):List (List FC):=l.map sN.row
@[simp] theorem amu (l:List sN):(cK l).length=l.length:=by simp [cK]
theorem kG(l:List sN):bO 1 (cK l):=bO.map fun _=>rfl
theorem sJ(l:List sN)(x:sN):cK (l++[x])=cK l++[x.row]:=by simp [cK]
theorem Ow{l:List sN}{j:Nat}(b:j<l.length):(cK l)[j]?=ab l[j].row:=by simp [cK,b]
theorem rJ{H:an}{g:Tg}{st:List sN}{j:Nat}(b:j<st.length)(_:st.length≤1000):aL H 1 ae (.c (.f (sl g (cK st)))) (vi j)=ab (.c (.f (.fp (cK st).flatten j))):=by
 have:=cE (H:=H) (g:=g) (rows:=cK st) (sz:=1) (k:=.i64) (i:=(j:Int)) (by omega) (by simp;omega);simpa using this
theorem xA{H:an}{st:List sN}{j:Nat}(b:j<st.length):aV H ae (.c (.f (.fp (cK st).flatten j)))=ab (.c (.f (sl st[j].tg (aM st[j].l)))):=by
 have:=gu (H:=H) (rows:=cK st) (j:=j) (sz:=1) (row:=st[j].row) (x:=sl st[j].tg (aM st[j].l)) (kG st) (Ow b) rfl;simpa using this
theorem ahl(g:Tg)(st:List sN)(U:st.length≤1000)(n:Nat)(Y:n≤st.length)(r:sN) :
  ∃ g',bB tab.get 114 [.c (.f (sl g (cK st))),vi n,.c (.f (sl r.tg (aM r.l)))]=Eq (.c (.f (sl g' (cK (st.take n++[r]))))):=by
 obtain⟨N,⟨g',rfl⟩,W⟩:∃ N,(∃ g',N=.c (.f (sl g' (cK (st.take n++[r])))))∧bB tab.get 114 [.c (.f (sl g (cK st))),vi n,.c (.f (sl r.tg (aM r.l)))] N:=by
  refine bY rfl rfl fun Q O=>?_;apply aj;simp;apply aj;simp;refine aq (aj ?_);simp;refine bQ n (fun j t K=>∃ c,t.g 0=.c (.f (sl g (cK st)))∧t.g 1=vi n∧t.g 2=.c (.f (sl r.tg (aM r.l)))∧t.g 7=.c c∧LR K c 1 (cK (st.take j))) (by omega) (by decide) (by simp)
   ⟨.f .es,by simp,by simp,by simp,by simp,.inl ⟨rfl,.inr rfl⟩⟩ ?_ ?_ ?_
  ·rintro j t K L S ⟨c,z,A,B,E,d⟩ v M;simp [v,A];exact M _ ⟨c,by simp [z],by simp [A],by simp [B],by simp [E],d⟩ (by simp [v]) (by simp)
  ·rintro j t K S ⟨c,z,A,B,E,d⟩ v X;have u:j<st.length:=by omega
   obtain⟨x,F⟩:=aP (st[j]);obtain⟨y,b⟩:=aP (K++[.box (x.row.map .f) 0]:an);have q:LR y c 1 (cK (st.take j)):=by rw [b];exact d.push _
   have s:y[K.length]?=ab (.box (x.row.map .f) 0):=by rw [b];simp
   obtain⟨H,H',l,m,I,J⟩:=q.app (kG _) (by decide) (row:=x.row) rfl (bytes:=24) (cB (by simp;omega) (by decide)) s;simp only [sN.row,anc,atN]at b;refine az (au (.inl rfl) ?_);simp [z,E,v,rJ u U,xA u,←F];rw [←b];simp [l];refine aw ?_;refine X _ _ ⟨H,by simp [z],by simp [A],by simp [B],by simp,?_⟩ (by simp [v]);rw [at0 u,←F,sJ];exact m
  ·rintro t K ⟨c,z,A,B,E,d⟩ v;obtain⟨y,b⟩:=aP (K++[.box (r.row.map .f) 0]:an);have q:LR y c 1 (cK (st.take n)):=by rw [b];exact d.push _
   have s:y[K.length]?=ab (.box (r.row.map .f) 0):=by rw [b];simp
   obtain⟨H,H',l,m,I,J⟩:=q.app (kG _) (by decide) (row:=r.row) rfl (bytes:=24) (cB (by simp;omega) (by decide)) s;rw [←sJ]at m;obtain⟨g',F⟩:=mf m (kG _);simp only [sN.row,anc,atN]at b;apply aj;simp [B,E];rw [←b];simp [l];refine aE (O _ _ _ ⟨g',rfl⟩ ⟨rfl,.c H,?_,?_⟩)
   ·simp [Km.results,bw,aZ]
   ·simp [fZ,bX,F]
 exact⟨g',W.eq⟩
abbrev Cm(st:List sN):List (List bF):=st.map fun x=>et x.l
theorem ZZ{H:an}{b d:Nat}{x:aU}(g:H[b]?=ab (.box (x.row.map .f) d)){l:List aU}(j:l=[x]):db deep H (.sl b 0 1 1 0 8)=ab (sl .fs (aM l)):=by
 subst j;show db (63+1) H _=_;rw [jf,g];simp [sl,aM];exact⟨aft 8,zi (n:=63) (H:=H) x.row⟩
theorem Good.lib{r:List aU}(h:Good (et r)):LiB r:=by
 intro x b;obtain⟨i,hi,rfl⟩:=at3 b;have:=(h.at_ i (by simpa using hi)).ok.1;simpa using this
theorem zN{st:List sN}{k:Nat}(h:cQ (Cm st) k){j:Nat}(d:j<st.length):st[j].l.length≤k:=by
 have g:=h.tot;have b:=pE (st:=Cm st) (i:=j) (by simpa using d);have l:=oZ (Cm st) (j+1);simp at b;omega
theorem qN{st:List sN}{k:Nat}(h:cQ (Cm st) k){j:Nat}(b:j<st.length):Good (et st[j].l):=
 h.Nu _ (auy.2 ⟨st[j],IS b,rfl⟩)
theorem Zv(X:c6){q:Int}(h:14≤q∧q<18):∃(j b:Nat),(b=8∨b=9∨b=10∨b=17)∧aL [X,.box [cI 8,cI 9,cI 10,cI 17] 0] 1 ae (.c (.sl 1 0 4 4 0 1)) (vi (q-14))=ab (.c (.ptr 1 j 0))∧aV [X,.box [cI 8,cI 9,cI 10,cI 17] 0] ae (.c (.ptr 1 j 0))=ab (vi b):=by
 rcases(show q=14∨q=15∨q=16∨q=17 by omega)with rfl | rfl | rfl | rfl
 ·exact⟨0,8,by simp,rfl,rfl⟩
 ·exact⟨1,9,by simp,rfl,rfl⟩
 ·exact⟨2,10,by simp,rfl,rfl⟩
 ·exact⟨3,17,by simp,rfl,rfl⟩
theorem as2(X:c6){e:Int}(h:0≤e∧e<7):∃(j b:Nat),(11≤b∧b≤16)∧aL [X,.box [cI 11,cI 12,cI 13,cI 14,cI 15,cI 16,cI 11] 0] 1 ae (.c (.sl 1 0 7 7 0 1)) (vi e)=ab (.c (.ptr 1 j 0))∧aV [X,.box [cI 11,cI 12,cI 13,cI 14,cI 15,cI 16,cI 11] 0] ae (.c (.ptr 1 j 0))=ab (vi b):=by
 rcases(show e=0∨e=1∨e=2∨e=3∨e=4∨e=5∨e=6 by omega)with rfl | rfl | rfl | rfl | rfl | rfl | rfl
 ·exact⟨0,11,by simp,rfl,rfl⟩
 ·exact⟨1,12,by simp,rfl,rfl⟩
 ·exact⟨2,13,by simp,rfl,rfl⟩
 ·exact⟨3,14,by simp,rfl,rfl⟩
 ·exact⟨4,15,by simp,rfl,rfl⟩
 ·exact⟨5,16,by simp,rfl,rfl⟩
 ·exact⟨6,11,by simp,rfl,rfl⟩
theorem ahD{cals:Nat}(hc:cals=0∨cals=2)(g:Tg)(st:List sN){k:Nat}(s:cQ (Cm st) k)(hk:k≤8)(x:kX)(hx:x.OK) :
  ∃ g' u,u≠[]∧cQ (Cm u) (k+1)∧bB tab.get 74 [.c (.f (sl g (cK st))),.a (x.row.map .f),vi cals]=Eq (.c (.f (sl g' (cK u)))):=by
 obtain⟨rr,⟨g',u,h0,h1,rfl⟩,hp⟩:∃ rr,(∃ g' u,u≠[]∧cQ (Cm u) (k+1)∧rr=.c (.f (sl g' (cK u))))∧bB tab.get 74 [.c (.f (sl g (cK st))),.a (x.row.map .f),vi cals] rr:=by
  have d9:=s.count;simp only [aur]at d9;obtain⟨yp,k_,d7⟩:=aaX x hx hc;obtain⟨n,hn⟩:=aP (st.length);refine bY rfl rfl fun Q hQ=>?_;obtain⟨O,S,K,U,li⟩:=x;obtain⟨j_,f_,f9,a7,Z⟩:=hx;simp only at j_ f_ f9 a7 Z;simp only [kX.row]at d7;apply aj;simp [kX.row];apply aj;simp;obtain⟨q,hq⟩:=aP ((O:Int) % 25:Int);have w1:ai .i64 (O:Int)=O:=aN;have r1:bV .rem (vi O) (vi 25)=ab (vi q):=by rw [ke (by omega) (by omega),hq]
  apply aj;simp [w1,r1];refine aq (aj ?_);simp;have B:=fun(m:Nat) (hm:m≤st.length) (r:sN)=>ahl g st (by omega) m hm r;have m4:∀(b:Int),True:=fun _=>trivial;have b9:∀(t:T),t.g 0=.c (.f (sl g (cK st)))→t.g 2=vi cals→t.g 4=.c (.ptr 0 0 0)→t.g 7=vi st.length →
    WP tab.get 74 ae [.code AE,.code AF] ⟨t,[],[.box [.f (u8 O),.f (.int .i8 S),.f (u8 K),.f (sl U (bZ li))] 0]⟩ Q:=by
   intro t v g2 E z;obtain⟨g',A⟩:=B st.length (aft _) ⟨.fs,[yp]⟩;apply aj;simp only [anc,atN]at d7;have j7:yp.row.length=8:=rfl;have hx:db deep [.box [.f (u8 O),.f (.int .i8 S),.f (u8 K),.f (sl U (bZ li))] 0,.box (yp.row.map .f) 0] (.sl 1 0 1 1 0 8)=ab (sl .fs (aM [yp])):=ZZ rfl rfl;simp [v,g2,E,z,d7,j7,hx,A];refine aE (hQ _ _ _ ⟨g',st++[⟨.fs,[yp]⟩],by simp,?_,rfl⟩ ?_)
   ·have:=s.leaf k_.Nu (r:=[yp.d]) rfl;rw [aul]at this;simpa [Cm]using this
   ·simp
  obtain⟨X,hX⟩:=aP (.box [.f (u8 O),.f (.int .i8 S),.f (u8 K),.f (sl U (bZ li))] 0:c6);have bin:∀(t:T) (y:aU) (H:an),2≤st.length→(∀ l r,bF.OK ⟨y.d.k,y.d.eo,l,r,y.d.n,y.d.m,y.d.li⟩)→dN y.d.k=2→H[2]?=ab (.box (y.row.map .f) 0)→t.g 0=.c (.f (sl g (cK st)))→t.g 7=vi st.length→t.g 9=.c (.ptr 2 0 0) →
    WP tab.get 74 ae [.code AG,.code tE] ⟨t,[],H⟩ Q:=by
   intro t y H h2 hy d6 b2 v z g9;obtain⟨-,-,-,-,-,-,-,e8⟩:=xB b2;have hA:=zN s (j:=st.length-2) (by omega);have Y:=zN s (j:=st.length-1) (by omega);have gA:=qN s (j:=st.length-2) (by omega);have W:=qN s (j:=st.length-1) (by omega);obtain⟨a,ha⟩:=aP (st[st.length-2]'(by omega));obtain⟨b,hb⟩:=aP (st[st.length-1]'(by omega));have lA:=xA (H:=H) (st:=st) (j:=st.length-2) (by omega);have lB:=xA (H:=H) (st:=st) (j:=st.length-1) (by omega);have iA:=rJ (H:=H) (g:=g) (st:=st) (j:=st.length-2) (by omega) (by omega);have iB:=rJ (H:=H) (g:=g) (st:=st) (j:=st.length-1) (by omega) (by omega);rw [←ha]at hA gA lA;rw [←hb]at Y W lB;have pA:=gA.pos;have pB:=W.pos;simp only [qc]at pA pB;obtain⟨g1,l1,hd,c9⟩:=xc y (hy 0 0).1 a.tg b.tg (a:=a.l) (b:=b.l) (by omega) (by omega) gA.lib (fun i hi=>by
    have:=W.at_ i (by simpa using hi);simpa using this) (by omega)
   obtain⟨g',A⟩:=B (st.length-2) (by omega) ⟨g1,l1⟩;have c2:((st.length-2:Nat):Int)=(st.length:Int)-2:=by omega
   have c1:((st.length-1:Nat):Int)=(st.length:Int)-1:=by omega
   rw [c2]at iA A;rw [c1]at iB;have w2:=aN (n:=(st.length:Int)-2);have d8:=aN (n:=(st.length:Int)-1);apply aj;simp [v,z,g9,w2,d8,e8,-av,iA,iB,lA,lB,c9,A];refine aE (hQ _ _ _ ⟨g',st.take (st.length-2)++[⟨g1,l1⟩],by simp,?_,rfl⟩ (by simp));have hG:Good (et l1):=by
    rw [hd,←qc a.l];exact .bin (x:=⟨y.d.k,y.d.eo,((et a.l).length:Int)-1,((et a.l).length:Int)+b.l.length-1,y.d.n,y.d.m,y.d.li⟩) gA W (hy _ _) d6 (by simp) (by simp)
   have:=s.bin (r:=et l1) (by simpa using h2) hG (by
    have:=congrArg List.length hd;simp at this;simp [←ha,←hb];omega)
   simpa [Cm]using this
  have J:∀(t:T) (y:aU) (H:an),1≤st.length→(∀ l,bF.OK ⟨y.d.k,y.d.eo,l,y.d.r,y.d.n,y.d.m,y.d.li⟩)→dN y.d.k=1→y.d.r=0→H[2]?=ab (.box (y.row.map .f) 0)→t.g 0=.c (.f (sl g (cK st)))→t.g 7=vi st.length→t.g 10=.c (.ptr 2 0 0) →
    WP tab.get 74 ae [.code AJ] ⟨t,[],H⟩ Q:=by
   intro t y H h2 hy d6 l7 b2 v z g10;obtain⟨-,-,-,-,-,-,-,e8⟩:=xB b2;have Y:=zN s (j:=st.length-1) (by omega);have W:=qN s (j:=st.length-1) (by omega);obtain⟨b,hb⟩:=aP (st[st.length-1]'(by omega));have lB:=xA (H:=H) (st:=st) (j:=st.length-1) (by omega);have iB:=rJ (H:=H) (g:=g) (st:=st) (j:=st.length-1) (by omega) (by omega);rw [←hb]at Y W lB;have pB:=W.pos;simp only [qc]at pB;obtain⟨g1,l1,hd,c9⟩:=abE y (hy 0).1 b.tg (r:=b.l) (by omega) W.lib;obtain⟨g',A⟩:=B (st.length-1) (by omega) ⟨g1,l1⟩;have c1:((st.length-1:Nat):Int)=(st.length:Int)-1:=by omega
   rw [c1]at iB A;have d8:=aN (n:=(st.length:Int)-1);apply aj;simp [v,z,g10,d8,e8,-av,iB,lB,c9,A];refine aE (hQ _ _ _ ⟨g',st.take (st.length-1)++[⟨g1,l1⟩],by simp,?_,rfl⟩ (by simp));have hG:Good (et l1):=by
    rw [hd];exact .un (x:=⟨y.d.k,y.d.eo,(b.l.length:Int)-1,y.d.r,y.d.n,y.d.m,y.d.li⟩) W (hy _) d6 (by simp) l7
   have:=s.un (r:=et l1) (by simp;omega) hG (by
    have:=congrArg List.length hd;simp at this;simp [←hb];omega)
   simpa [Cm]using this
  by_cases hA:q<14∨st.length=0
  ·have hR:(if decide (q<14)=ag then ab ag else ab (decide (st.length=0)))=ab ag:=by
    rcases hA with h | h<;>simp [h]
   by_cases F:q<14
   ·simp [F];refine ak (by simp) (b9 _ (by simp) (by simp) (by simp) (by simp))
   ·have h0:st.length=0:=by omega
    have g_:(st.length:Int)=0:=by omega
    have d_:=api h0;simp [F,g_];refine ak (by simp [d_]) (b9 _ (by simp) (by simp) (by simp) (by simp [h0]))
  ·have F:¬ q<14:=fun h=>hA (.inl h);have j3:st.length≠0:=fun h=>hA (.inr h);have l_:14≤q∧q<25:=by omega
   have j4:st≠[]:=fun h=>j3 (by rw [h];rfl);simp [F];refine aW (by simp [j4]) ?_;refine aq (aj ?_);by_cases Y:q<18∧2≤st.length
   ·simp [Y.1,show(2:Int)≤st.length by omega];refine ak (by simp) (aj ?_);have l9:=aN (n:=q-14);obtain⟨j,L,a9,c_,d5⟩:=Zv (.box [.f (u8 O),.f (.int .i8 S),.f (u8 K),.f (sl U (bZ li))] 0) (q:=q) (by omega);simp [l9,c_,d5,-av];refine aq (aj ?_);simp;rcases a9 with rfl | rfl | rfl | rfl
    ·refine aW (by simp) ?_;exact bin _ ⟨⟨8,0,0,0,0,0,[]⟩,.nil⟩ _ Y.2 (fun l r=>⟨by simp,by simp [dg]⟩) (by rfl) (by rfl) (by simp) (by simp) (by simp)
    ·refine aW (by simp) ?_;exact bin _ ⟨⟨9,0,0,0,0,0,[]⟩,.nil⟩ _ Y.2 (fun l r=>⟨by simp,by simp [dg]⟩) (by rfl) (by rfl) (by simp) (by simp) (by simp)
    ·refine aW (by simp) ?_;exact bin _ ⟨⟨10,0,0,0,0,0,[]⟩,.nil⟩ _ Y.2 (fun l r=>⟨by simp,by simp [dg]⟩) (by rfl) (by rfl) (by simp) (by simp) (by simp)
    ·obtain⟨mg,m0,m1,i_⟩:=mj f_ (k:=3) (by decide);refine ak (by simp) (au (.inl rfl) ?_);simp [i_,aN (n:=1+mg)];exact bin _ ⟨⟨17,0,0,0,1+mg,0,[]⟩,.nil⟩ _ Y.2 (fun l r=>⟨by simp,by simp [dg];omega⟩) (by rfl) (by rfl) (by simp) (by simp) (by simp)
   ·have e_:∀(t:T),t.g 0=.c (.f (sl g (cK st)))→t.g 2=vi cals→t.g 4=.c (.ptr 0 0 0)→t.g 7=vi st.length→t.g 8=vi q →
      WP tab.get 74 ae [.code tE] ⟨t,[],[.box [.f (u8 O),.f (.int .i8 S),.f (u8 K),.f (sl U (bZ li))] 0]⟩ Q:=by
     intro t v g2 E z g8;obtain⟨e,he⟩:=aP (max q 18-18:Int);obtain⟨j,L,a9,c_,d5⟩:=as2 (.box [.f (u8 O),.f (.int .i8 S),.f (u8 K),.f (sl U (bZ li))] 0) (e:=e) (by omega);have wE:ai .i64 (max q 18-18)=e:=by rw [he];exact aN
     apply aj;simp [g8,wE,c_,d5,-av];have I:1≤st.length:=by omega
     have j9:=aN (n:=S);have b7:ai .i64 (K:Int)=K:=aN;have b_:∀(t:T),t.g 0=.c (.f (sl g (cK st)))→t.g 4=.c (.ptr 0 0 0)→t.g 7=vi st.length→t.g 10=.c (.ptr 2 0 0)→∀ L:Nat,(L=12∨L=13) →
       WP tab.get 74 ae [.code AH] ⟨t,[],[.box [.f (u8 O),.f (.int .i8 S),.f (u8 K),.f (sl U (bZ li))] 0,.box [cI 11,cI 12,cI 13,cI 14,cI 15,cI 16,cI 11] 0,.box [cI L,cI 0,cI 0,cI 0,cI 0,cI 0,.f .aG,.f (.str ⟨#[]⟩)] 0]⟩ Q:=by
      intro t v E z g10 L a9;refine aq (aj ?_);simp [g10];refine az (aj ?_);rcases a9 with rfl | rfl
      ·simp;refine al (by simp) (aq (aj ?_));simp;refine ak (by simp) (aH ?_);refine ak (by simp) (au (.inl rfl) ?_);simp [E,g10,b7];refine aw ?_;exact J _ ⟨⟨12,0,0,0,K,0,[]⟩,.nil⟩ _ I (fun l=>⟨by simp,by simp [dg];omega⟩) (by rfl) rfl (by rfl) (by simp [v]) (by simp [z]) (by simp [g10])
      ·simp;refine al (by simp) (aq (aj ?_));simp;refine al (by simp) (au (.inl rfl) ?_);simp;refine ak (by simp) (au (.inl rfl) ?_);simp [E,g10,b7];refine aw ?_;exact J _ ⟨⟨13,0,0,0,K,0,[]⟩,.nil⟩ _ I (fun l=>⟨by simp,by simp [dg];omega⟩) (by rfl) rfl (by rfl) (by simp [v]) (by simp [z]) (by simp [g10])
     refine aq (aj ?_);rcases(show L=11∨L=12∨L=13∨L=14∨L=15∨L=16 by omega)with rfl | rfl | rfl | rfl | rfl | rfl
     ·obtain⟨r,hr⟩:=aP (S.tmod 12);have j8:bV .rem (vi S) (vi 12)=ab (vi r):=by rw [hr];exact ov (by decide)
      have h_:=GA (n:=S) (k:=12) (by decide);rw [←hr]at h_;simp;refine al (by simp) (aH (aq (aj ?_)));simp;refine az (aj ?_);simp;refine ak (by simp) (au (.inl rfl) ?_);simp [E,j9,j8];refine aw ?_;exact J _ ⟨⟨11,0,0,0,r,0,[]⟩,.nil⟩ _ I (fun l=>⟨by simp,by simp [dg];omega⟩) (by rfl) rfl (by rfl) (by simp [v]) (by simp [z]) (by simp)
     ·simp;refine aW (by simp) ?_;exact b_ _ (by simp [v]) (by simp [E]) (by simp [z]) (by simp) 12 (.inl rfl)
     ·simp;refine aW (by simp) ?_;exact b_ _ (by simp [v]) (by simp [E]) (by simp [z]) (by simp) 13 (.inr rfl)
     ·obtain⟨gp,lp,hr,M,N⟩:=mr U li a7 Z (lo:=0) (hi:=60) (by decide) (by decide) (by decide) ag (by decide);simp;refine al (by simp) (aH (aq (aj ?_)));simp;refine az (aj ?_);simp;refine al (by simp) (aq (aj ?_));simp;refine al (by simp) (au (.inl rfl) ?_);simp;refine al (by simp) (aq (aj ?_));simp;refine ak (by simp) (aH ?_);refine ak (by simp) (au (.inl rfl) ?_);simp [E,N];refine aw ?_;exact J _ ⟨⟨14,0,0,0,0,0,lp⟩,gp⟩ _ I (fun l=>⟨by simp at M ⊢;omega,by simp [dg];exact hr⟩) (by rfl) rfl (by rfl) (by simp [v]) (by simp [z]) (by simp)
     ·obtain⟨gp,lp,hr,M,N⟩:=mr U li a7 Z (lo:=0) (hi:=60) (by decide) (by decide) (by decide) ag (by decide);simp;refine al (by simp) (aH (aq (aj ?_)));simp;refine az (aj ?_);simp;refine al (by simp) (aq (aj ?_));simp;refine al (by simp) (au (.inl rfl) ?_);simp;refine al (by simp) (aq (aj ?_));simp;refine al (by simp) (au (.inl rfl) ?_);simp;refine ak (by simp) (au (.inl rfl) ?_);simp [E,N];refine aw ?_;exact J _ ⟨⟨15,0,0,0,0,0,lp⟩,gp⟩ _ I (fun l=>⟨by simp at M ⊢;omega,by simp [dg];exact hr⟩) (by rfl) rfl (by rfl) (by simp [v]) (by simp [z]) (by simp)
     ·rcases hc with rfl | rfl
      ·simp [g2];refine ak (by simp) (au (.inl rfl) ?_);simp;exact b_ _ (by simp [v]) (by simp [E]) (by simp [z]) (by simp) 12 (.inl rfl)
      ·obtain⟨gp,lp,hr,M,N⟩:=mr U li a7 Z (lo:=(-3)) (hi:=4) (by decide) (by decide) (by decide) ah (by decide);obtain⟨a,a1,ra⟩:=zT f9 (m:=8) (by decide);obtain⟨b,b0,b1,rb⟩:=aa_ (a:=(a:Int)) (b:=2) (by omega) (by omega);obtain⟨d,d1,rd⟩:=hZ K (m:=2) (by decide);simp [g2];refine al (by simp) (aH (aq (aj ?_)));simp;refine az (aj ?_);simp;refine al (by simp) (aq (aj ?_));simp;refine al (by simp) (au (.inl rfl) ?_);simp;refine al (by simp) (aq (aj ?_));simp;refine al (by simp) (au (.inl rfl) ?_);simp;refine al (by simp) (aj ?_);simp;refine ak (by simp) (aj ?_);simp [g2,E,ra,na a (by omega),rb];apply aj;simp [E,rd,na d (by omega)];refine au (.inl rfl) ?_;simp [E,N];refine aw ?_;exact J _ ⟨⟨16,b,0,0,0,d,lp⟩,gp⟩ _ I (fun l=>⟨by simp at M ⊢;omega,by simp [dg];exact⟨b0,by omega,hr,by omega⟩⟩) (by rfl) rfl (by rfl) (by simp [v]) (by simp [z]) (by simp)
    by_cases a_:q<18
    ·simp [a_,show¬ (2:Int)≤st.length by omega];refine al (by simp) (aH (e_ _ (by simp) (by simp) (by simp) (by simp) (by simp)))
    ·simp [a_];refine al (by simp) (aH (e_ _ (by simp) (by simp) (by simp) (by simp) (by simp)))
 exact⟨g',u,h0,h1,hp.eq⟩
def eB(l:List kX):List (List FC):=l.map kX.row
@[simp] theorem aiV (l:List kX):(eB l).length=l.length:=by simp [eB]
theorem zE(l:List kX):bO 4 (eB l):=bO.map fun _=>rfl
theorem ED{l:List kX}{j:Nat}(b:j<l.length):(eB l)[j]?=ab l[j].row:=by simp [eB,b]
theorem af0{H:an}{g:Tg}{l:List kX}{j:Nat}(b:j<l.length)(d:l.length≤9223372036854775807):aL H 4 ae (.c (.f (sl g (eB l)))) (vi j)=ab (.c (.f (.fp (eB l).flatten (j*4)))):=by
 have:=cE (H:=H) (g:=g) (rows:=eB l) (sz:=4) (k:=.i64) (i:=(j:Int)) (by omega) (by simp;omega);simpa using this
theorem akG{H:an}{l:List kX}{j:Nat}(b:j<l.length):aV H (ab 4) (.c (.f (.fp (eB l).flatten (j*4))))=ab (.a (l[j].row.map .f)):=by
 have:=ez (H:=H) (rows:=eB l) (j:=j) (sz:=4) (row:=l[j].row) (zE l) (ED b);simpa using this
theorem aak{cals:Nat}(hc:cals=0∨cals=2)(g:Tg)(l:List kX)(hl:l.length≤9223372036854775807)(hx:∀ x ∈ l,x.OK) :
  ∃ r:sN,Good (et r.l)∧r.l.length≤15∧bB tab.get 26 [.c (.f (sl g (eB l))),vi cals]=Eq (.c (.f (sl r.tg (aM r.l)))):=by
 obtain⟨rr,⟨r,h1,h2,rfl⟩,hp⟩:∃ rr,(∃ r:sN,Good (et r.l)∧r.l.length≤15∧rr=.c (.f (sl r.tg (aM r.l))))∧bB tab.get 26 [.c (.f (sl g (eB l))),vi cals] rr:=by
  refine bY rfl rfl fun Q hQ=>?_;have U:∀(t:T) (H:an) (c:C) (r:sN),db deep H c=ab (sl r.tg (aM r.l))→Good (et r.l)→r.l.length≤15→t.g 7=.c c →
    WP tab.get 26 ae [.code Am] ⟨t,[],H⟩ Q:=by
   intro t H c r hx hg hl O;apply aj;simp [O];refine aE (hQ _ _ _ ⟨r,hg,hl,rfl⟩ ⟨rfl,.c c,?_,?_⟩)
   ·simp [Km.results,bw,aZ]
   ·simp [fZ,bX,hx]
  apply aj;simp;apply aj;simp;refine aq (aj ?_);simp;obtain⟨N,hN⟩:=aP (min l.length 8);refine bQ N (fun i t K=>∃ g' st,(st=[]→g'=.es)∧cQ (Cm st) i∧t.g 0=.c (.f (sl g (eB l)))∧t.g 1=vi cals∧t.g 5=.c (.f (sl g' (cK st)))) (by omega) (by decide) (by simp)
   ⟨.es,[],fun _=>rfl,.nil,by simp,by simp,by simp [sl,cK,Tg.fc]⟩ ?_ ?_ ?_
  ·rintro i t K L b7 ⟨g',st,v,d,z,y,q⟩ A hn;by_cases M:(i:Int)<l.length
   ·simp [A,z,M];exact hn _ ⟨g',st,v,d,by simp [z],by simp [y],by simp [q]⟩ (by simp [A]) (by simp;omega)
   ·simp [A,z,M];exact hn _ ⟨g',st,v,d,by simp [z],by simp [y],by simp [q]⟩ (by simp [A]) (by simp;omega)
  ·rintro i t K b7 ⟨g',st,v,d,z,y,q⟩ A nx;have F:i<l.length:=by omega
   obtain⟨x,a7⟩:=aP (l[i]);obtain⟨g2,c_,h,n,hp⟩:=ahD hc g' st d (by omega) x (by rw [a7];exact hx _ (IS F));refine az (au (.inl rfl) ?_);simp [q,y,z,A,af0 F hl,akG F,←a7,hp];refine aw ?_;exact nx _ _ ⟨g2,c_,fun e=>absurd e h,n,by simp [z],by simp [y],by simp⟩ (by simp [A])
  ·rintro t K ⟨g',st,v,d,z,y,q⟩ A;have f:=d.count;simp only [aur]at f;refine aq (aj ?_);simp [q];by_cases h0:st=[]
   ·subst h0;have a_:=v rfl;subst a_;refine ak (by simp) (au (.inl rfl) ?_);have d5:sN:=⟨.fs,[⟨⟨1,0,0,0,2,0,[]⟩,.nil⟩]⟩
    obtain⟨u,B⟩:=aP (K++[.box [cI 1,cI 0,cI 0,cI 0,cI 2,cI 0,.f .aG,.f (.str ⟨#[]⟩)] 0,.box [.sl K.length 0 1 1 0 8] 0]:an);have b0:u[K.length]?=ab (.box ((aU.row ⟨⟨1,0,0,0,2,0,[]⟩,.nil⟩).map .f) 0):=by rw [B,at1 (by omega),Nat.sub_self];rfl
    have b1:u[K.length+1]?=ab (.box [.sl K.length 0 1 1 0 8] 0):=by rw [B,at1 (by omega),Nat.add_sub_cancel_left];rfl
    have X:cX u 1 (.c (.sl (K.length+1) 0 1 1 0 1))=ab (1,[.sl K.length 0 1 1 0 8]):=by simp [cX,bJ,cS,b1]
    have I:bU 1 24=ag:=by decide
    have Y:bK u 1 24 (.c (.f (sl .es (cK [])))) (.c (.sl (K.length+1) 0 1 1 0 1))=ab (.c (.sl u.length 0 1 0 0 1),u++[.bR 1 [.sl K.length 0 1 1 0 8] 0 0 .loc]):=by
     simp [bK,X,I,sl,cK,Tg.fc]
    simp [q];rw [←B];simp [Y];obtain⟨J,E⟩:=aP (u++[.bR 1 [.sl K.length 0 1 1 0 8] 0 0 .loc]:an);have c0:J[K.length]?=ab (.box ((aU.row ⟨⟨1,0,0,0,2,0,[]⟩,.nil⟩).map .f) 0):=by rw [E,AI (ax b0)];exact b0
    have M:J[u.length]?=ab (.bR 1 [.sl K.length 0 1 1 0 8] 0 0 .loc):=by rw [E,at1 (by omega),Nat.sub_self];rfl
    rw [←E];have i0:aL J 1 ae (.c (.sl u.length 0 1 0 0 1)) (vi 0)=ab (.c (.ptr u.length 0 0)):=by simp [aL,dD,M]
    have l0:aV J ae (.c (.ptr u.length 0 0))=ab (.c (.sl K.length 0 1 1 0 8)):=by simp [aV,aF,M,aK]
    have n0:bJ J (.sl u.length 0 1 0 0 1)=ab 1:=by simp [bJ,M]
    apply aj;simp [i0,l0,-av];refine aq (aj ?_);simp;refine az (bG (fun m s=>∃(t:T),s=⟨t,[],J⟩∧t.g 5=.c (.sl u.length 0 1 0 0 1)∧t.g 7=.c (.sl K.length 0 1 1 0 8)∧t.g 8=vi 1) 0 ⟨_,rfl,by simp,by simp,by simp⟩ ?_);rintro m s ⟨t,rfl,q,O,W⟩ ih;refine aq (aj ?_);simp [q,W,n0];refine al (by simp) (bf rfl ?_);refine U _ _ _ ⟨.fs,[⟨⟨1,0,0,0,2,0,[]⟩,.nil⟩]⟩ (ZZ c0 rfl) ?_ (by simp) (by simp [O]);exact .leaf ⟨by simp,by simp [dg]⟩ rfl (fun _=>rfl) rfl
   ·refine aW (by simp [h0]) ?_;have k:=auF.2 h0;have l0:=xA (H:=K) (st:=st) (j:=0) (by omega);have i0:=rJ (H:=K) (g:=g') (st:=st) (j:=0) (by omega) (by omega);apply aj;simp only [au5]at i0;simp [q,i0,l0];refine aq (aj ?_);simp;refine az (bG (fun m s=>∃(j:Nat) (r:sN) (t:T) (K:an),s=⟨t,[],K⟩∧1≤j∧j≤st.length∧m=st.length-j∧Good (et r.l)∧r.l.length+1=total ((Cm st).take j)+j∧t.g 5=.c (.f (sl g' (cK st)))∧t.g 7=.c (.f (sl r.tg (aM r.l)))∧t.g 8=vi j) (st.length-1)
     ⟨1,st[0],_,_,rfl,by omega,by omega,rfl,qN d (by omega),?_,by simp [q],by simp,by simp⟩ ?_)
    ·have:=pE (st:=Cm st) (i:=0) (by simpa using k);rw [this];simp [total]
    ·rintro m s ⟨j,r,t,K,rfl,j1,j2,rfl,hr,c9,q,O,W⟩ ih;refine aq (aj ?_);simp [q,W];by_cases S:j<st.length
     ·refine ak (by simp [S]) (aH ?_);have hB:=zN d (j:=j) S;have gB:=qN d (j:=j) S;have w:=pE (st:=Cm st) (i:=j) (by simpa using S);have o:=oZ (Cm st) (j+1);have p:=d.tot;obtain⟨b,hb⟩:=aP (st[j]);have lB:=xA (H:=K) (st:=st) (j:=j) S;have iB:=rJ (H:=K) (g:=g') (st:=st) (j:=j) S (by omega);simp at w;rw [←hb]at hB gB lB w;have pA:=hr.pos;have pB:=gB.pos;simp only [qc]at pA pB;obtain⟨y,l1,hd,a9⟩:=xc ⟨⟨9,0,0,0,0,0,[]⟩,.nil⟩ (by simp) r.tg b.tg (a:=r.l) (b:=b.l) (by omega) (by omega) hr.lib (fun i hi=>by
       have:=gB.at_ i (by simpa using hi);simpa using this) (by omega)
      have hw:ai .i64 ((j:Int)+1)=((j+1:Nat):Int):=by rw [aN];omega
      have Z:bB tab.get 75 [.a [cI 9,cI 0,cI 0,cI 0,cI 0,cI 0,.f .aG,.f (.str ⟨#[]⟩)],.c (.f (sl r.tg (aM r.l))),.c (.f (sl b.tg (aM b.l)))]=Eq (.c (.f (sl y (aM l1)))):=a9;refine aq (az (au (.inl rfl) ?_));simp [q,O,W,iB,lB,Z];refine aw (au (.inl rfl) ?_);simp [W,hw];have b_:l1.length=r.l.length+b.l.length+1:=by
       have:=congrArg List.length hd;simp at this;omega
      refine ih (st.length-(j+1)) _ (by omega) ⟨j+1,⟨y,l1⟩,_,_,rfl,by omega,by omega,rfl,?_,?_,by simp [q],by simp,by simp⟩
      ·rw [hd,←qc r.l];exact .bin (x:=⟨9,0,((et r.l).length:Int)-1,((et r.l).length:Int)+b.l.length-1,0,0,[]⟩) hr gB ⟨by simp,by simp [dg]⟩ rfl (by simp) (by simp)
      ·simp only [b_];omega
     ·have b9:j=st.length:=by omega
      subst b9;have o:(Cm st).take st.length=Cm st:=by rw [at6 (by simp)]
      rw [o]at c9;have p:=d.tot;refine al (by simp) (bf rfl ?_);exact U _ _ (.f (sl r.tg (aM r.l))) r (by simp [deep]) hr (by omega) (by simp [O])
 exact⟨r,h1,h2,hp.eq⟩
end Go.Proofs.YtmbjejcfadllnaaGreat
