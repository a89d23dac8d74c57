/-
  ahY the qE jX and the rI answer, for all arguments of their kind, in the small machine: part 2.
-/
import Derived.Test.YtmbjejcfadllnaaGreatS1
import Derived.Test.YtmbjejcfadllnaaGreatK4
open Option renaming some → aa,none → ab
open Bool renaming true → ae,false → ag
open Go.IntKind renaming wrap → ah
open List renaming getElem?_append_left → AI, getElem?_set_ne → AT, getElem?_set_self → IS, take_of_length_le → aqI, set_cons_succ → ar4, getElem?_eq_getElem → At, getElem_mem → OF, all_eq_true → aqH, getElem?_eq_none_iff → arv, getElem?_eq_some_iff → By, find?_eq_some_iff_getElem → ar8, find?_eq_none → arA, getElem_of_mem → aqE, pairwise_iff_getElem → aqM, mem_cons_self → aqK, mem_map → aq9, eq_nil_of_length_eq_zero → amu, mem_append → aq4, map_cons → ao1, map_nil → aqD, length_pos_iff → arn, length_eq_zero_iff → arj, getElem?_append_right → aqJ, pairwise_singleton → arL, take_succ_eq_append_getElem → aqC, take_length → aqX, map_append → art, length_map → aq3, mem_of_mem_drop → arH, mem_of_mem_take → arR, foldl_cons → arx
open Nat renaming le_refl → IT, lt_or_eq_of_le → arb, eq_zero_or_pos → ara, lt_trichotomy → aq1, zero_add → aq8
open Int renaming mul_ediv_add_emod → arq, emod_nonneg → aq5, emod_lt_of_pos → aq6, ediv_nonneg → arO, add_mul → arT, one_mul → arM, mul_comm → arJ, mul_nonneg → asd, natCast_zero → ar7, add_zero → arY, le_refl → arK, toNat_of_nonneg → arC, tmod_eq_emod_of_nonneg → ark
open Option renaming map_eq_some_iff → If
set_option linter.unusedVariables false
set_option linter.constructorNameAsVariable false
set_option linter.unusedSimpArgs false
set_option linter.unusedSectionVars false
set_option linter.unnecessarySimpa false
set_option maxRecDepth 100000
set_option maxHeartbeats 2000000
namespace Go.Proofs.YtmbjejcfadllnaaGreat
open Go Km
theorem W2{z:ZD}(E:z.c<3){fl:List FC}{k m y:Nat}{r q:ey}{n:Int}(X:xS fl (sl z.yg (bO z.yr)) k m r q)(a9:(1:Int)-k=m)(hr:r.OK)(hq:q.OK)(hy:y<nY z.c)
  {t:T} {J:aj} {cl:C} {d:List bI} (hJ:J[0]?=aa (.box (z.row.map .f) 0)) (hK:J[1]?=aa (.box (eL z cl n) 0)) (hL:LR J cl 2 (aR d)) (e_:d.length≤100)
  (W:t.g 1=.c (.ptr 0 0 0)) (Y:t.g 4=.c (.ptr 1 0 0)) (Z:t.g 8=vi (ji z.c y)) (g9:t.g 9=vi ((y:Int)+1)) (v:t.g 62=.c (.f (sl z.yg (bO z.yr)))) (F:t.g 63=vi 2) (u:t.g 64=vi (k:Nat)) {K:List cd} {Q:Option av→St→Prop}
  (next:∀(t:T) (J:aj) (cl:C),J[0]?=aa (.box (z.row.map .f) 0)→J[1]?=aa (.box (eL z cl n) 0)→LR J cl 2 (aR (d++dU z.c (y+1) r q))→t.g 1=.c (.ptr 0 0 0)→t.g 4=.c (.ptr 1 0 0)→t.g 8=vi (ji z.c y)→t.g 9=vi ((y:Int)+1)→t.g 62=.c (.f (sl z.yg (bO z.yr)))→t.g 63=vi 2→t.g 64=vi (k:Nat) →
   WP tab.get 84 ab K ⟨t,[],J⟩ Q) :
  WP tab.get 84 ab (.code vY::K) ⟨t,[],J⟩ Q:=by
 have f9:=xk z.c;obtain⟨b0,b1⟩:=th E (Nat.le_of_lt hy);have hf:=EH E (y:=y+1) (by omega) (by omega) (b:=ji z.c y) (by omega) (by omega) r hr;rw [show((y+1:Nat):Int)=(y:Int)+1 by omega]at hf;obtain⟨d0,d1⟩:=yq (c:=z.c) (y:=y+1) (b:=ji z.c y) (x:=r) (by omega) (by omega) hr;obtain⟨-,-,-,-,m0,m1,o0,o1⟩:=hr;obtain⟨-,-,-,-,-,-,p0,p1⟩:=hq;have j:dU z.c (y+1) r q=if gm (nS z.c (y+1) (ji z.c y) r) (pT z.c (y+1) r) r.wk r.wd then [⟨jE (nS z.c (y+1) (ji z.c y) r) (pT z.c (y+1) r) r.wk r.wd*1440+r.mi-q.off,r.off⟩]else []:=rfl;generalize hD:jE (nS z.c (y+1) (ji z.c y) r) (pT z.c (y+1) r) r.wk r.wd=D at *;generalize hO:gm (nS z.c (y+1) (ji z.c y) r) (pT z.c (y+1) r) r.wk r.wd=O at *;refine aC ?_;apply ai;have N:=X.row;have hi:=X.i J;have jl:2≤J.length:=by have:=aw hK;omega
 obtain⟨g,l⟩:=aT (J++[.box (r.row.map .f) 0]:aj);have z0:g[0]?=aa (.box (z.row.map .f) 0):=by rw [l,AI (by omega)];exact hJ
 have z1:g[1]?=aa (.box (eL z cl n) 0):=by rw [l,AI (by omega)];exact hK
 have zr:g[J.length]?=aa (.box (r.row.map .f) 0):=by rw [l];simp
 have H:LR g cl 2 (aR d):=by rw [l];exact hL.push _
 have l1:g.length=J.length+1:=by rw [l];simp
 have b7:(r.row.map C.f)=[.f (fi r.mo),.f (fi r.wk),.f (fi r.wd),.f (fi r.mi),.f (fi r.off)]:=rfl;simp [v,u,hi,N,ey.row];rw [←b7,←l];apply ai;have d8:=jq z0 E;have d9:=gv z0 E;have d6:aX g (aa 5) (.c (.ptr J.length 0 0))=aa (.a (r.row.map .f)):=by simp [aX,zr,aF,ey.row,aI]
 have c9:aX g ab (.c (.ptr J.length 3 0))=aa (vi r.mi):=by simp [aX,zr,aF,ey.row,aI]
 have c_:aX g ab (.c (.ptr J.length 4 0))=aa (vi r.off):=by simp [aX,zr,aF,ey.row,aI]
 simp [W,Z,g9,d8,d6,hf,-au];apply an;refine aq (.inl rfl) ?_;simp;cases O with
 | false=>
  simp only [Bool.false_eq_true,if_false]at j;rw [j,List.append_nil]at next
  refine ak (by simp) (aM (aA ?_));exact next _ g cl z0 z1 H (by simp [W]) (by simp [Y]) (by simp [Z]) (by simp [g9]) (by simp [v]) (by simp [F]) (by simp [u])
 | true=>
  simp only [if_true]at j;rw [j]at next
  refine al (by simp) ?_;refine aq (.inl rfl) ?_;have w1:=aO (n:=D*1440);have w2:=aO (n:=D*1440+r.mi);have w3:=aO (n:=D*1440+r.mi-q.off);have w4:ah .i64 (1-(k:Int))=m:=by rw [aO,a9]
  have a8:=X.i' g;have M:=X.of' g;have b_:=rv z1 E;obtain⟨S,s⟩:=aT (g++[.box [.f (fi (D*1440+r.mi-q.off)),.f (fi r.off)] 0]:aj);have y0:S[0]?=aa (.box (z.row.map .f) 0):=by rw [s,AI (by omega)];exact z0
  have y1:S[1]?=aa (.box (eL z cl n) 0):=by rw [s,AI (by omega)];exact z1
  have B:LR S cl 2 (aR d):=by rw [s];exact H.push _
  obtain⟨U,J3,L,I,A,d_⟩:=B.app (cq _) (by decide) (row:=[fi (D*1440+r.mi-q.off),fi r.off]) rfl (bytes:=16) (cO (by simp;omega) (by decide)) (b1:=g.length) (fl1:=0) (by rw [s];simp);have x0:=A.2 _ _ y0 (B.cY y0);have x1:=A.2 _ _ y1 (B.cY y1);have b9:=ala (cl':=U) x1 E;have l2:S.length=g.length+1:=by rw [s];simp
  have l3:=A.1;have a_:bf U≠aa 1:=I.cY x1;simp [W,Y,u,b_,c9,c_,d9,a8,M,w1,w2,w3,w4,-au,-bu];rw [←s];simp [L,b9,-au,-bu];refine aA ?_;refine next _ (J3.set 1 (.box (eL z U n) 0)) U (by rw [AT (by decide)];exact x0) (IS (by omega)) ?_ (by simp [W]) (by simp [Y]) (by simp [Z]) (by simp [g9]) (by simp [v]) (by simp [F]) (by simp [u])
  have e:aR d++[[fi (D*1440+r.mi-q.off),fi r.off]]=aR (d++[⟨D*1440+r.mi-q.off,r.off⟩]):=by simp [aR,bI.row]
  rw [←e];exact I.set a_ _
theorem alo{z:ZD}(N:z.c<3){r q:ey}(I:z.yr=[r,q])(hr:r.OK)(S:q.OK){y:Nat}{n:Int}(U:y<nY z.c)
  {t:T} {J:aj} {cl:C} {A:List bI} (l:J[0]?=aa (.box (z.row.map .f) 0)) (x:J[1]?=aa (.box (eL z cl n) 0)) (d:LR J cl 2 (aR A)) (X:A.length≤90)
  (g:t.g 1=.c (.ptr 0 0 0)) (s:t.g 4=.c (.ptr 1 0 0)) (u:t.g 8=vi (ji z.c y)) (v:t.g 9=vi ((y:Int)+1)) {K:List cd} {Q:Option av→St→Prop}
  (next:∀(t:T) (J:aj) (cl:C),J[0]?=aa (.box (z.row.map .f) 0)→J[1]?=aa (.box (eL z cl n) 0)→LR J cl 2 (aR (A++(dU z.c (y+1) r q++dU z.c (y+1) q r)))→t.g 1=.c (.ptr 0 0 0)→t.g 4=.c (.ptr 1 0 0)→t.g 8=vi (ji z.c y)→t.g 9=vi ((y:Int)+1) →
   WP tab.get 84 ab K ⟨t,[],J⟩ Q) :
  WP tab.get 84 ab (.code vX::K) ⟨t,[],J⟩ Q:=by
 apply ai;have Y:(bO z.yr).length=2:=by simp [I]
 have O:∀ H:aj,bE H (.f (sl z.yg (bO z.yr)))=aa 2:=by intro H;rw [I];rfl
 simp [g,gv l N,-au,O];refine fU 2 (fun j t H=>H[0]?=aa (.box (z.row.map .f) 0)∧t.g 1=.c (.ptr 0 0 0)∧t.g 4=.c (.ptr 1 0 0)∧t.g 8=vi (ji z.c y)∧t.g 9=vi ((y:Int)+1)∧t.g 62=.c (.f (sl z.yg (bO z.yr))) ∧
   ∃ cl,H[1]?=aa (.box (eL z cl n) 0)∧LR H cl 2 (aR (A++((if 1≤j then dU z.c (y+1) r q else [])++(if 2≤j then dU z.c (y+1) q r else []))))) (by omega) (by decide) (by decide) (by simp) (by simp [I])
  ⟨l,by simp [g],by simp [s],by simp [u],by simp [v],by simp,cl,x,by simpa using d⟩ ?_ ?_
 ·clear l x d g s u v;rintro j t J Z ⟨l,g,s,u,v,b,cl,x,d⟩ L M W;have a:=iZ z.c (y+1) r q;have F:j=0∨j=1:=by omega
  rcases F with rfl | rfl
  ·simp at d;refine W2 N (m:=1) (by rw [I];exact ad7 z.yg r q) (by decide) hr S U l x d (by omega) (by simp [g]) (by simp [s]) (by simp [u]) (by simp [v]) (by simp [b]) (by simp [M]) (by simp [L]) ?_;intro t J cl l x d g s u v b B E;refine W _ _ ⟨l,by simp [g],by simp [s],by simp [u],by simp [v],by simp [b],cl,x,by simpa using d⟩ (by simp [E]) (by simp [B])
  ·simp at d;refine W2 N (m:=0) (by rw [I];exact ad8 z.yg r q) (by decide) S hr U l x d (by simp;omega) (by simp [g]) (by simp [s]) (by simp [u]) (by simp [v]) (by simp [b]) (by simp [M]) (by simp [L]) ?_;intro t J cl l x d g s u v b B E;refine W _ _ ⟨l,by simp [g],by simp [s],by simp [u],by simp [v],by simp [b],cl,x,by simpa using d⟩ (by simp [E]) (by simp [B])
 ·clear l x d g s u v;rintro t J ⟨l,g,s,u,v,b,cl,x,d⟩ L M;exact next _ J cl l x (by simpa using d) (by simp [g]) (by simp [s]) (by simp [u]) (by simp [v])
theorem ac4(z:ZD)(d:z.c<3){r q:ey}(hz:z.yr=[r,q])(hr:r.OK)(hq:q.OK){o:List bI}(ho:dZ (nf z.c r q (nY z.c)) o)(hs:di o (cyc z.c*1440)=ae):∃ g,
  bF tab.get 84 [z.v]=Eq (.t [.c (.f (.fp (z.row++[sl g (aR o),fi (cyc z.c)]) 0)),vb ae]):=by
 obtain⟨rr,⟨g,rfl⟩,hp⟩:∃ rr,(∃ g,rr=.t [.c (.f (.fp (z.row++[sl g (aR o),fi (cyc z.c)]) 0)),vb ae])∧bF tab.get 84 [z.v] rr:=by
  refine cA rfl rfl fun Q hQ=>?_;apply ai;simp;have n4:([.box (z.row.map .f) 0]:aj)[0]?=aa (.box (z.row.map .f) 0):=rfl;have n6:cyc z.c=91∨cyc z.c=217:=by unfold cyc ij;split<;>simp
  have n9:JQ z.c=2∨JQ z.c=5:=by unfold JQ;split<;>simp
  have d6:=xX d;have o6:=xk z.c;have a_:=ZD.sH d;have n_:(z.row.map C.f).length=8:=by simp [a_]
  have hd:List.drop 10 (z.row.map C.f++[C.f .aE,C.f (fi 0)])=[]:=List.drop_eq_nil_of_le (by simp [a_]);apply ai;simp [eR n4 d,-au,a_,List.take_append,aqI,hd];have c_:z.row.map C.f++[C.f .aE,C.f (.int .i64 1)]=eL z (.f .aE) 1:=rfl;rw [c_];have k0:([.box (z.row.map .f) 0,.box (eL z (.f .aE) 1) 0]:aj)[0]?=aa (.box (z.row.map .f) 0):=rfl;have k1:([.box (z.row.map .f) 0,.box (eL z (.f .aE) 1) 0]:aj)[1]?=aa (.box (eL z (.f .aE) 1) 0):=rfl;apply an;apply ai;simp [gv k0 d,-au,hz];refine a5 (by simp) ?_;apply ai;simp [jq k0 d,-au,vh d];have s1:=ad_ (n':=(ij z.c:Nat)) k1 d;simp only [ar4,List.set_cons_zero]at s1;apply ai;simp [s1,-bu];have m0:([.box (z.row.map .f) 0,.box (eL z (.f .aE) (ij z.c:Nat)) 0]:aj)[0]?=aa (.box (z.row.map .f) 0):=rfl;have m1:([.box (z.row.map .f) 0,.box (eL z (.f .aE) (ij z.c:Nat)) 0]:aj)[1]?=aa (.box (eL z (.f .aE) (ij z.c:Nat)) 0):=rfl;have n7:ij z.c=13∨ij z.c=31:=by unfold ij;split<;>simp
  have d_:bM .rem (vi (ij z.c:Nat)) (vi 7)=aa (vi (((ij z.c:Nat):Int) % 7)):=nK (by omega) (by omega);apply an;apply ai;simp [d_];refine al (by simp;omega) ?_;have s2:=ad_ (n':=cyc z.c) m1 d;simp only [ar4,List.set_cons_zero]at s2;have hw:ah .i64 (((ij z.c:Nat):Int)*7)=cyc z.c:=by rw [aO];unfold cyc;omega
  refine aq (.inl rfl) ?_;simp [VH m1 d,hw,s2,-au,-bu];obtain⟨H0,Y⟩:=aT ([.box (z.row.map .f) 0,.box (eL z (.f .aE) (cyc z.c)) 0]:aj);have n0:H0[0]?=aa (.box (z.row.map .f) 0):=by rw [Y];rfl
  have n1:H0[1]?=aa (.box (eL z (.f .aE) (cyc z.c)) 0):=by rw [Y];rfl
  rw [←Y];clear m0 m1 k0 k1 s1 s2 d_;apply ai;simp [yH n0 d,-au];apply an;apply ai;simp;refine aC ?_;refine bD (fun n s=>∃(y:Nat) (t:T) (J:aj) (cl:C),s=⟨t,[],J⟩∧n=nY z.c-y∧y≤nY z.c∧J[0]?=aa (.box (z.row.map .f) 0)∧J[1]?=aa (.box (eL z cl (cyc z.c)) 0)∧LR J cl 2 (aR (nf z.c r q y)) ∧
    t.g 1=.c (.ptr 0 0 0)∧t.g 4=.c (.ptr 1 0 0)∧t.g 8=vi (ji z.c y)∧t.g 9=vi ((y:Int)+1)) (nY z.c)
   ⟨0,_,_,.f .aE,rfl,rfl,by omega,n0,n1,LR.nil _ _,by simp,by simp,by simp [ji],by simp⟩ ?_
  rintro n s ⟨y,t,J,cl,rfl,rfl,hy,M,F,E,g1,m,g8,g9⟩ ih;obtain⟨b0,b1⟩:=th d hy;apply an;apply ai;simp [g1,m,g8,yH M d,VH F d,-au,aO (n:=JQ z.c+cyc z.c)];by_cases d9:y<nY z.c
  ·have h1:=xY z.c d9;refine al (by simp;omega) (aM ?_);apply an;refine aC ?_;apply an;have m6:=jc z.c r q y;refine alo d hz hr hq d9 M F E (by omega) (by simp [g1]) (by simp [m]) (by simp [g8]) (by simp [g9]) ?_;clear g1 m g8 g9 M F E;intro t J cl M F E g1 m g8 g9;have f9:=EI d (y:=y+1) (by omega) (by omega);rw [show((y+1:Nat):Int)=(y:Int)+1 by omega]at f9;have o8:qY z.c (y+1)≤18:=by
    have h1:=fB z.c (y+1) 1;have h2:=fB z.c (y+1) 2;unfold qY;omega
   refine aq (.inl rfl) ?_;simp [g1,g8,g9,jq M d,-au,f9,aO (n:=ji z.c y+(qY z.c (y+1):Nat))];refine aA ?_;refine aq (.inl rfl) ?_;simp [g9,aO (n:=(y:Int)+1+1)];exact ih (nY z.c-(y+1)) _ (by omega) ⟨y+1,_,J,cl,rfl,rfl,by omega,M,F,E,by simp [g1],by simp [m],by simp [ji],by simp⟩
  have m_:y=nY z.c:=by omega
  subst m_;rw [d6];refine ak (by simp) ?_;refine bp (k':=[.code vZ]) rfl ?_;have m6:=jc z.c r q (nY z.c);obtain⟨J2,hE,Z,l2,I,m4,m9⟩:=Xg E (by omega);rw [KW ho hs m4 m9]at I;have x0:=Z.2 _ _ M (E.cY M);have L:=Z.2 _ _ F (E.cY F);have c9:=hE.eq;apply ai;simp [m,rv F d,-au,c9];clear ih E M F hE c9 Z g8 g9;have o7:o.length≤28:=by have:=ho.len;omega
  have a9:∀ x ∈ o,rf x:=fun x hx=>oU d hr hq _ (IT _) x (ho.perm.subset hx);apply an;apply ai;simp [m,rv L d,-au,I.len];refine fU o.length (fun j t H=>H[0]?=aa (.box (z.row.map .f) 0)∧H[1]?=aa (.box (eL z cl (cyc z.c)) 0)∧LR H cl 2 (aR o)∧t.g 4=.c (.ptr 1 0 0)∧t.g 119=.c cl) (by omega) (by decide) (by decide) (by simp) (by simp)
   ⟨x0,L,I,by simp [m],by simp⟩ ?_ ?_
  ·clear m x0 L I;rintro i t J B ⟨x0,L,E,m,l⟩ ha hb nx;rcases E with⟨h,_⟩ | ⟨l_,b,O,rfl,a8⟩
   ·have:o=[]:=by simpa [aR]using h
    subst this;simp at B
   rw [kX]at l L nx;have d8:=cq o;have o0:0<o.length:=by omega
   obtain⟨X,v⟩:=aT (J++[.box (o[i].row.map .f) 0]:aj);have A:RB X b 2 O (aR o):=by rw [v];exact a8.push _
   have jl:2≤J.length:=by have:=aw L;omega
   have y0:X[0]?=aa (.box (z.row.map .f) 0):=by rw [v,AI (by omega)];exact x0
   have W:X[1]?=aa (.box (eL z (.sl b 0 o.length 0 O 2) (cyc z.c)) 0):=by rw [v,AI (by omega)];exact L
   have yr:X[J.length]?=aa (.box (o[i].row.map .f) 0):=by rw [v];simp
   have b7:∀ {K:aj} (_:RB K b 2 O (aR o)) (k:Nat),k<o.length→aL K 2 ab (.c (.sl b 0 o.length 0 O 2)) (vi k)=aa (.c (.ptr b (k*2) O)):=fun F k hk=>by
    have:=F.idx (n:=o.length) (c:=0) (k:=.i64) (o:=0) (i:=(k:Int)) (by omega) (by omega);simpa using this
   have U:∀ k:Nat,(hk:k<o.length)→aX X ab (.c (.ptr b (k*2) O))=aa (vi o[k].at_):=fun k hk=>by
    have:=A.ldc d8 (du (At hk)) (k:=0) (x:=fi o[k].at_) rfl;simpa using this
   have f_:=a8.ldr d8 (du (At B));have n5:aX X ab (.c (.ptr J.length 0 0))=aa (vi o[i].at_):=by simp [aX,yr,aF,bI.row,aI]
   have i_:=a9 _ (OF o0);have j_:=a9 _ (OF B);unfold rf at i_ j_;have i0:=b7 A 0 o0;have l0:=U 0 o0;simp [-au]at i0 l0;have ii:=b7 a8 i B;have S:=(DV (VH W d) ⟨_,_,W⟩ (by omega) (by omega)).eq;have w2:=aO (n:=o[0].at_+cyc z.c*1440);have w3:=aO (n:=(i:Int)+1);have m7:o[i].row.map C.f=[.f (fi o[i].at_),.f (fi o[i].off)]:=rfl;refine aC ?_;apply ai;rw [m7]at f_ v;simp [l,ha,ii,f_,-au];rw [←v];refine an (kG (.inl rfl) ?_ ?_)
   case refine_2=>
    intro c l7;have k_:c=(3,11)∨c=(4,11)∨c=(6,11):=by simpa using l7
    rcases k_ with rfl | rfl | rfl
    all_goals
     refine⟨by decide,_,rfl,.inl ⟨by decide,?_⟩⟩;simp [m,rv W d,i0,l0,S,w2,np,-au]
     first | rfl | simp [V.beq,C.beq,FC.beq]
   simp [m,rv W d,i0,l0,S,w2,-au];have e_:2160≤dC o (cyc z.c*1440) i-o[i].at_:=by
    have h1:=aqH.1 hs i (by simpa using B);simp only [At B]at h1;exact of_decide_eq_true h1
   have u:∀ t:T,t.g 4=.c (.ptr 1 0 0)→t.g 119=.c (.sl b 0 o.length 0 O 2)→t.g 121=vi (i:Nat)→t.g 120=vi o.length→t.g 15=.c (.ptr J.length 0 0)→t.g 16=vi (dC o (cyc z.c*1440) i)→dC o (cyc z.c*1440) i≤900000 →
     WP tab.get 84 ab [.code wc,.inBlock 5,.code (J4 121 158),.inLoop (qG 4 121 120 122 158 wb),.inBlock 4,.code we] ⟨t,[],X⟩ Q:=by
    intro t m l b_ b9 g_ h_ n1;apply ai;simp [g_,h_,n5,-au,aO (n:=dC o (cyc z.c*1440) i-o[i].at_)];refine ak (by simp;omega) (aM (aA ?_));exact nx _ _ ⟨y0,W,.inr ⟨l_,b,O,by rw [kX],A⟩,by simp [m],by simp [l]⟩ (by simp [b_]) (by simp [b9])
   apply an;by_cases N:i+1<o.length
   ·have i1:=b7 A (i+1) N;have l1:=U (i+1) N;have j9:=a9 _ (OF N);unfold rf at j9;rw [show((i+1:Nat):Int)=(i:Int)+1 by omega]at i1;have hn:dC o (cyc z.c*1440) i=o[i+1].at_:=by simp [dC,At N]
    rw [hn]at u e_;apply ai;simp [m,rv W d,w3,A.len,-au];refine al (by simp;omega) ?_;refine aq (.inl rfl) ?_;simp [m,rv W d,w3,i1,l1,-au];exact u _ (by simp [m]) (by simp [l]) (by simp [ha]) (by simp [hb]) (by simp) (by simp) (by omega)
   ·have hn:dC o (cyc z.c*1440) i=o[0].at_+cyc z.c*1440:=by
     simp [dC,arv.2 (show o.length≤i+1 by omega),At o0]
    rw [hn]at u e_;apply ai;simp [m,rv W d,w3,A.len,-au];refine ak (by simp;omega) (aM ?_);exact u _ (by simp [m]) (by simp [l]) (by simp [ha]) (by simp [hb]) (by simp) (by simp) (by omega)
  ·clear m x0 L I;rintro t J ⟨x0,L,E,m,l⟩ ha hb;obtain⟨g',l9⟩:=E.ex (cq _) 62;apply ai;simp [m];refine aH (hQ _ _ (.t [.c (.f (.fp (z.row++[sl g' (aR o),fi (cyc z.c)]) 0)),vb ae]) ⟨g',rfl⟩ ?_);have hx:bj (da 63 J) (eL z cl (cyc z.c))=aa (z.row++[sl g' (aR o),fi (cyc z.c)]):=by
    refine gS (qz _) ?_;have:da 63 J cl=aa (sl g' (aR o)):=l9;simp [bj,this,da]
   simp [iI,cg,deep,bj,m,da,L,hx]
 exact⟨g,bF.eq hp⟩
theorem Xn(z:ZD)(g:z.c<3)(m:z.yr=[]):bF tab.get 84 [z.v]=Eq (.t [.c (.f (.fp (z.row++[.aE,fi 1]) 0)),vb ae]):=bF.eq (by
 refine bK rfl rfl fun Q q=>?_;apply ai;simp;have l:([.box (z.row.map .f) 0]:aj)[0]?=aa (.box (z.row.map .f) 0):=rfl;have d:=ZD.sH g;have s:List.drop 10 (z.row.map C.f++[C.f .aE,C.f (fi 0)])=[]:=List.drop_eq_nil_of_le (by simp [d]);apply ai;simp [eR l g,-au,d,List.take_append,aqI,s];have b:z.row.map C.f++[C.f .aE,C.f (.int .i64 1)]=eL z (.f .aE) 1:=rfl;rw [b];have k0:([.box (z.row.map .f) 0,.box (eL z (.f .aE) 1) 0]:aj)[0]?=aa (.box (z.row.map .f) 0):=rfl;apply an;apply ai;have j:∀ H:aj,bE H (.f (sl z.yg (bO z.yr)))=aa 0:=by intro H;rw [m];cases z.yg<;>rfl
 simp [gv k0 g,-au,j];refine al (by simp [m]) ?_;apply ai;simp;refine aH (q _ _ ?_);have u:∀ J:aj,bj (da 63 J) (eL z (.f .aE) 1)=aa (z.row++[.aE,fi 1]):=fun J=>by
  refine gS (qz _) ?_;simp [bj,da]
 simp [cg,deep,bj,da,u])
def turns(o:List bI)(size t:Int):Int:=match o[0]? with
 | some x=>if x.at_<t then(t-x.at_) / size else 0| none=>0
def hV(o:List bI)(size t k:Int):Option bI:=(o.find? fun x=>decide (t≤x.at_+k*size)).map fun x=>⟨x.at_+k*size,x.off⟩
def uW(o:List bI)(size t:Int):Option bI:=(hV o size t (turns o size t)).or (hV o size t (turns o size t+1))
theorem E8{p:bI→Bool}{l:List bI}{i:Nat}{x:bI}(h:l[i]?=aa x)(b:∀ j y,j<i→l[j]?=aa y→p y=ag)(g:p x=ae):l.find? p=aa x:=by
 obtain⟨hi,rfl⟩:=By.1 h;rw [ar8];exact⟨g,i,hi,rfl,fun j d=>by have:=b j l[j] d (At (by omega));simpa using this⟩
theorem Di(g:Tg)(o:List bI)(L:0<o.length)(hl:o.length≤1000)(S:∀ x ∈ o,rf x)(n t:Int)(n0:1≤n)(n1:n≤1000)(t0:-1000000≤t)(t1:t≤1000000) :
  ∃ x,uW o (n*1440) t=aa x∧bF tab.get 67 [.c (.f (sl g (aR o))),vi n,vi t]=Eq (.t [.a (x.row.map .f),vb ae]):=by
 obtain⟨rr,⟨x,hx,rfl⟩,hp⟩:∃ rr,(∃ x,uW o (n*1440) t=aa x∧rr=.t [.a (x.row.map .f),vb ae])∧bF tab.get 67 [.c (.f (sl g (aR o))),vi n,vi t] rr:=by
  refine cA rfl rfl fun Q hQ=>?_;have a_:=S _ (OF L);unfold rf at a_;obtain⟨K,hK⟩:=aT (turns o (n*1440) t);have l:K=if o[0].at_<t then(t-o[0].at_) / (n*1440)else 0:=by rw [hK];simp [turns,At L]
  have X:0<n*1440:=by omega
  have q0:=arq (t-o[0].at_) (n*1440);have q1:=aq5 (t-o[0].at_) (show n*1440≠0 by omega);have q2:=aq6 (t-o[0].at_) X;have O:0≤K:=by rw [l];split;exact arO (by omega) (by omega);omega
  have a9:K*(n*1440)≤2000000∧t≤o[0].at_+(K+1)*(n*1440):=by
   rw [l];split
   ·rw [arT,arM,arJ ((t-o[0].at_) / (n*1440))];omega
   ·omega
  have d8:0≤K*(n*1440):=asd O (by omega);have d9:K≤2000000:=by
   have:K*1≤K*(n*1440):=Int.mul_le_mul_of_nonneg_left (by omega) O;omega
  have W:=cq o;have I:∀ H:aj,bE H (.f (sl g (aR o)))=aa o.length:=fun H=>by
   have b_:¬ (aR o).isEmpty=ae:=by
    intro h;have:o=[]:=by simpa [aR]using h
    subst this;simp at L
   simp [sl,b_,bE]
  have Z:∀(H:aj) (i:Nat),i<o.length→aL H 2 ab (.c (.f (sl g (aR o)))) (vi i)=aa (.c (.f (.fp (aR o).flatten (i*2)))):=fun H i hi=>by
   have:=dg (H:=H) (g:=g) (rows:=aR o) (sz:=2) (k:=.i64) (i:=(i:Int)) (by omega) (by simp;omega);simpa using this
  have a8:∀(H:aj) (i:Nat) (hi:i<o.length),aX H ab (.c (.f (.fp (aR o).flatten (i*2))))=aa (vi o[i].at_):=fun H i hi=>jo W (du (At hi)) rfl;have d6:∀(H:aj) (i:Nat) (hi:i<o.length),aX H ab (.c (.f (.fp (aR o).flatten (i*2+1))))=aa (vi o[i].off):=fun H i hi=>DJ (k:=1) W (du (At hi)) rfl;have i0:=fun H=>Z H 0 L;have l0:=fun H=>a8 H 0 L;simp only [Nat.zero_mul,ar7]at i0 l0;apply ai;simp;apply an;apply ai;simp [I];refine ak (by simp;rintro rfl;simp at L) (aM ?_);apply ai;simp [aO (n:=n*1440)];apply ai;simp;apply an;have J:∀ b:T,b.g 0=.c (.f (sl g (aR o)))→b.g 2=vi t→b.g 6=.c (.ptr 0 0 0)→b.g 8=vi (n*1440)→b.g 9=vi K→WP tab.get 67 ab [.code Av] ⟨b,[],[.box [.f (fi 0),.f (fi 0)] 0]⟩ Q:=by
   intro b q B v z g9;apply ai;simp [g9];refine aC ?_;refine bD (fun m s=>∃(e:Int) (b:T),s=⟨b,[],[.box [.f (fi 0),.f (fi 0)] 0]⟩∧(e=0∧m=1∨e=1∧m=0∧hV o (n*1440) t K=ab)∧b.g 0=.c (.f (sl g (aR o)))∧b.g 2=vi t∧b.g 6=.c (.ptr 0 0 0)∧b.g 8=vi (n*1440)∧b.g 10=vi (K+e)) 1
    ⟨0,_,rfl,.inl ⟨rfl,rfl⟩,by simp [q],by simp [B],by simp [v],by simp [z],by simp⟩ ?_
   clear q B v z g9;rintro m s ⟨e,b,rfl,he,q,B,v,z,g10⟩ ih;have d_:0≤(K+e)*(n*1440)∧(K+e)*(n*1440)≤4000000:=by
    rcases he with⟨rfl,-⟩ | ⟨rfl,-⟩
    ·rw [arY];omega
    ·rw [arT,arM];omega
   apply an;refine aC ?_;apply ai;simp;refine aC ?_;refine bD (fun m' s=>∃(i:Nat) (b:T),s=⟨b,[],[.box [.f (fi 0),.f (fi 0)] 0]⟩∧m'=o.length-i∧i≤o.length∧(∀ j y,j<i→o[j]?=aa y→decide (t≤y.at_+(K+e)*(n*1440))=ag) ∧
     b.g 0=.c (.f (sl g (aR o)))∧b.g 2=vi t∧b.g 6=.c (.ptr 0 0 0)∧b.g 8=vi (n*1440)∧b.g 10=vi (K+e)∧b.g 11=vi (i:Nat)) o.length
    ⟨0,_,rfl,rfl,by omega,fun j y h=>absurd h (by omega),by simp [q],by simp [B],by simp [v],by simp [z],by simp [g10],by simp⟩ ?_
   clear q B v z g10;rintro m' s ⟨i,b,rfl,rfl,hi,F,q,B,v,z,g10,A⟩ c_;apply an;apply ai;simp [q,A,I];by_cases d:i<o.length
   case neg=>
    have u:hV o (n*1440) t (K+e)=ab:=by
     have:o.find? (fun x=>decide (t≤x.at_+(K+e)*(n*1440)))=ab:=by
      rw [arA];intro x hx;obtain⟨j,hj,rfl⟩:=aqE hx;have:=F j o[j] (by omega) (At hj);simp [this]
     simp [hV,this]
    rcases he with⟨rfl,rfl⟩ | ⟨rfl,rfl,-⟩
    ·rw [arY]at u;refine ak (by simp;omega) ?_;refine bp (k':=[.inBlock 1,.code Ax,.inLoop Aw,.inBlock 0]) rfl ?_;refine aA ?_;refine aq (.inl rfl) ?_;simp [g10,aO (n:=K+1)];exact ih 0 _ (by omega) ⟨1,_,rfl,.inr ⟨rfl,rfl,u⟩,by simp [q],by simp [B],by simp [v],by simp [z],by simp⟩
    ·exfalso;have:=F 0 o[0] (by omega) (At L);have h2:=of_decide_eq_false this;exact h2 a9.2
   refine al (by simp [d]) (aM ?_);apply an;refine aC ?_;have b7:=S _ (OF d);unfold rf at b7;have ii:=fun H=>Z H i d;have li:=fun H=>a8 H i d;have oi:=fun H=>d6 H i d;have w1:=aO (n:=(K+e)*(n*1440));have w2:=aO (n:=o[i].at_+(K+e)*(n*1440));apply ai;simp [q,B,z,g10,A,ii,li,w1,w2];by_cases N:t≤o[i].at_+(K+e)*(n*1440)
   ·refine al (by simp [N]) ?_;apply ai;simp [q,v,z,g10,A,ii,li,oi,w1,w2];have M:hV o (n*1440) t (K+e)=aa ⟨o[i].at_+(K+e)*(n*1440),o[i].off⟩:=by
     have:=E8 (p:=fun x=>decide (t≤x.at_+(K+e)*(n*1440))) (At d) (fun j y hj Y=>F j y hj Y) (by simp [N]);simp [hV,this]
    have U:uW o (n*1440) t=aa ⟨o[i].at_+(K+e)*(n*1440),o[i].off⟩:=by
     unfold uW;rw [←hK];rcases he with⟨rfl,-⟩ | ⟨rfl,-,hn⟩
     ·rw [arY]at M ⊢;rw [M];rfl
     ·rw [hn,M];rfl
    refine aH (hQ _ _ _ ⟨_,U,rfl⟩ ?_);simp [bI.row,v]
   ·refine ak (by simp;omega) (aM (aA ?_));refine aq (.inl rfl) ?_;simp [A,aO (n:=(i:Int)+1)];refine c_ (o.length-(i+1)) _ (by omega) ⟨i+1,_,rfl,rfl,by omega,fun j y hj Y=>?_,by simp [q],by simp [B],by simp [v],by simp [z],by simp [g10],by simp⟩;by_cases b9:j=i
    ·subst b9;rw [At d]at Y;cases Y;exact decide_eq_false N
    ·exact F j y (by omega) Y
  by_cases E:o[0].at_<t
  ·rw [bh E]at l;have c9:bM .quo (vi (t-o[0].at_)) (vi (n*1440))=aa (vi K):=by rw [l];exact WR (by omega) X (by omega)
   apply ai;simp [i0,l0];refine al (by simp [E]) ?_;refine aq (.inl rfl) ?_;simp [i0,l0,aO (n:=t-o[0].at_),c9];exact J _ (by simp) (by simp) (by simp) (by simp) (by simp)
  ·rw [aY E]at l;apply ai;simp [i0,l0];refine a5 (by simp [E]) ?_;exact J _ (by simp) (by simp) (by simp) (by simp) (by simp [l])
 exact⟨x,hx,bF.eq hp⟩
def Mem(o:List bI)(size:Int)(x:bI):Prop:=∃(k:Nat) (y:bI),y ∈ o∧x=⟨y.at_+k*size,y.off⟩
def aaL(tr o:List bI)(size b:Int)(x:bI):Prop:=x ∈ tr∨Mem o size x∧b≤x.at_
def fM(P:bI→Prop)(t:Int):Option bI→Prop
 | some x=>P x∧x.at_≤t∧∀ y,P y→y.at_≤t→y.at_≤x.at_| none=>∀ y,P y→t<y.at_
def L5(P:bI→Prop):Prop:=∀ x y,P x→P y→x.at_+2160≤y.at_∨y.at_+2160≤x.at_∨x=y
theorem fM.uniq{P:bI→Prop}{t:Int}(m:L5 P):∀ {r q:Option bI},fM P t r→fM P t q→r=q
 | none,ab,_,_=>rfl| none,aa y,d,g=>by have j:=d y g.1;have l:=g.2.1;omega
 | some x,ab,d,g=>by have j:=g x d.1;have l:=d.2.1;omega
 | some x,aa y,d,g=>by
  have a:=d.2.2 y g.1 g.2.1;have b:=g.2.2 x d.1 d.2.1;rcases m x y d.1 g.1 with h | h | h
  ·omega
  ·omega
  ·rw [h]
theorem fM.back{P:bI→Prop}{t s:Int}{x:bI}(h:fM P t (aa x))(b:x.at_≤s)(d:s≤t):fM P s (aa x):=⟨h.1,b,fun y hy g=>h.2.2 y hy (by omega)⟩
theorem fM.xm{P:bI→Prop}{t s:Int}(h:fM P t ab)(b:s≤t):fM P s ab:=fun y hy=>by have:=h y hy;omega
section
variable{o:List bI}{size:Int}
theorem eG(h:di o size=ae){i j:Nat}(l:i<j)(m:j<o.length):o[i].at_+2160≤o[j].at_:=by
 have d:=xA h i o[i] o[i+1] (At (by omega)) (At (by omega));rcases arb (show i+1≤j by omega)with b | b
 ·have g:=aqM.1 (jK h) (i+1) j (by omega) m b;unfold XD at g;omega
 ·subst b;exact d
theorem Ci(h:di o size=ae){i:Nat}(hi:i<o.length):o[i].at_+2160≤(o[0]'(by omega)).at_+size:=by
 have d:o.length-1<o.length:=by omega
 have g:=aqH.1 h (o.length-1) (by simpa using d);simp only [At d,dC,arv.2 (show o.length≤o.length-1+1 by omega),At (show 0<o.length by omega)]at g;have j:=of_decide_eq_true g;rcases arb (show i≤o.length-1 by omega)with b | b
 ·have:=eG h b d;omega
 ·subst b;omega
theorem iY{k m:Nat}(b:0≤size)(h:k<m):(k:Int)*size+size≤(m:Int)*size:=by
 have:=Int.mul_le_mul_of_nonneg_right (show((k:Int)+1)≤(m:Int) by omega) b;rw [arT,arM]at this;exact this
theorem fS(h:di o size=ae){x:bI}(d:x ∈ o):∃ g:0<o.length,o[0].at_≤x.at_∧x.at_+2160≤o[0].at_+size:=by
 obtain⟨i,hi,rfl⟩:=aqE d;refine⟨by omega,?_,Ci h hi⟩;rcases ara i with rfl | b
 ·omega
 ·have:=eG h b hi;omega
theorem Kv(h:di o size=ae)(l:0≤size):L5 (Mem o size):=by
 rintro x y ⟨k,a,d,rfl⟩ ⟨m,b,g,rfl⟩;obtain⟨v,a1,s⟩:=fS h d;obtain⟨_,b1,u⟩:=fS h g;simp only;rcases aq1 k m with e | e | e
 ·have:=iY l e;left;omega
 ·subst e;obtain⟨i,hi,rfl⟩:=aqE d;obtain⟨j,q,rfl⟩:=aqE g;rcases aq1 i j with e | e | e
  ·have:=eG h e q;left;omega
  ·subst e;right;right;rfl
  ·have:=eG h e hi;right;left;omega
 ·have:=iY l e;right;left;omega
theorem se(h:di o size=ae){t k:Int}{x:bI}(g:hV o size t k=aa x):(∃ y ∈ o,x=⟨y.at_+k*size,y.off⟩)∧t≤x.at_∧∀ b ∈ o,t≤b.at_+k*size→x.at_≤b.at_+k*size:=by
 unfold hV at g;rw [If]at g;obtain⟨y,l,rfl⟩:=g;rw [ar8]at l;obtain⟨d,i,hi,rfl,v⟩:=l;have d:=of_decide_eq_true d;refine⟨⟨_,OF hi,rfl⟩,d,fun b q s=>?_⟩;obtain⟨j,u,rfl⟩:=aqE q;rcases aq1 i j with e | e | e
 ·have:=eG h e u;simp only;omega
 ·subst e;exact arK _
 ·have m:=v j e;simp at m;omega
theorem EP{t k:Int}(d:hV o size t k=ab):∀ b ∈ o,b.at_+k*size<t:=by
 intro b g;unfold hV at d;rw [Option.map_eq_none_iff,arA]at d;have:=d b g;simp at this;exact this
theorem aeQ(h:di o size=ae)(O:0<size){t:Int}{x:bI}(d:uW o size t=aa x):∀ y,Mem o size y→t≤y.at_→x.at_≤y.at_:=by
 rintro y ⟨m,b,q,rfl⟩ s;simp only at s ⊢;obtain⟨F,b1,N⟩:=fS h q;have B:turns o size t=if o[0].at_<t then(t-o[0].at_) / size else 0:=by unfold turns;rw [At F]
 have J:0≤turns o size t:=by rw [B];split;exact arO (by omega) (by omega);omega
 have Q:=arq (t-o[0].at_) size;have S:=aq5 (t-o[0].at_) (show size≠0 by omega);have j:turns o size t=0∨o[0].at_+turns o size t*size≤t:=by
  rw [B];split
  ·right;rw [arJ];omega
  ·left;rfl
 obtain⟨K,E⟩:∃ K:Nat,turns o size t=(K:Int):=⟨(turns o size t).toNat,by omega⟩
 unfold uW at d;rw [E]at d j;have l:K≤m:=by
  rcases Nat.lt_or_ge m K with e | e
  ·exfalso;have g:=iY (size:=size) (by omega) e;rcases j with H | H
   ·omega
   ·omega
  ·exact e
 cases g:hV o size t (K:Int)with
 | some z=>
  rw [g]at d;simp at d;subst d;obtain⟨⟨w,A,rfl⟩,_,v⟩:=se h g;obtain⟨_,L,M⟩:=fS h A;rcases arb l with e | e
  ·have:=iY (size:=size) (by omega) e;simp only;omega
  ·subst e;exact v b q s
 | none=>
  rw [g]at d;simp at d;have v:=EP g;rcases arb l with e | e
  ·obtain⟨⟨w,A,rfl⟩,_,I⟩:=se h d;obtain⟨_,L,M⟩:=fS h A;rcases arb (show K+1≤m by omega)with u | u
   ·have:=iY (size:=size) (by omega) u;rw [show((K+1:Nat):Int)=(K:Int)+1 by omega]at this;simp only;omega
   ·subst u;rw [show((K+1:Nat):Int)=(K:Int)+1 by omega]at s ⊢;exact I b q s
  ·subst e;have:=v b q;omega
end
structure ft(z:ZD)(o:List bI):Prop where
 c:z.c<3
 st:-1080≤z.start∧z.start≤1080
 tl:z.tr.length≤3
 tb:∀ x ∈ z.tr,0≤x.at_∧x.at_<z.eP∧-1080≤x.off∧x.off≤1080
 ts:∀(i:Nat) x y,z.tr[i]?=aa x→z.tr[i+1]?=aa y→x.at_+2160≤y.at_
 ho:0≤z.eP∧z.eP≤40000
 y:(z.yr=[]∧o=[])∨∃ r q,z.yr=[r,q]∧r.OK∧q.OK∧dZ (nf z.c r q (nY z.c)) o∧di o (Go.Proofs.YtmbjejcfadllnaaGreat.cyc z.c*1440)=ae ∧
  ∀ x a,uW o (Go.Proofs.YtmbjejcfadllnaaGreat.cyc z.c*1440) z.eP=aa x→a ∈ z.tr→a.at_+2160≤x.at_
theorem qX:∀ {l:List bI},(∀(i:Nat) x y,l[i]?=aa x→l[i+1]?=aa y→x.at_+2160≤y.at_)→∀(i j:Nat) (d:i<j) (g:j<l.length),l[i].at_+2160≤l[j].at_:=by
 intro l h i j d g;have m:=h i l[i] l[i+1] (At (by omega)) (At (by omega));rcases arb (show i+1≤j by omega)with b | b
 ·have q:=aqM.1 (mX h) (i+1) j (by omega) g b;unfold XD at q;omega
 ·subst b;exact m
theorem ft.aaX{z:ZD}{o:List bI}(h:ft z o):1≤z.cyc∧z.cyc≤217:=by
 unfold ZD.cyc;split
 ·omega
 ·have:cyc z.c=91∨cyc z.c=217:=by unfold cyc ij;split<;>simp
  omega
theorem ft.sp{z:ZD}{o:List bI}(h:ft z o):di o (z.cyc*1440)=ae:=by
 rcases h.y with⟨e,rfl⟩ | ⟨r,q,e,-,-,-,b,-⟩
 ·rfl
 ·have:z.cyc=cyc z.c:=by simp [ZD.cyc,e]
  rw [this];exact b
theorem ft.apart{z:ZD}{o:List bI}(h:ft z o):L5 (aaL z.tr o (z.cyc*1440) z.eP):=by
 have hc:=h.aaX;have K:=Kv h.sp (by omega);have d:∀ x y,x ∈ z.tr→Mem o (z.cyc*1440) y→z.eP≤y.at_→x.at_+2160≤y.at_:=by
  intro x y g hy I;rcases h.y with⟨e,rfl⟩ | ⟨r,q,e,-,-,-,N,F⟩
  ·obtain⟨k,b,u,_⟩:=hy;cases u
  ·have v:z.cyc=cyc z.c:=by simp [ZD.cyc,e]
   rw [←v]at F;have m:=h.sp;cases l:uW o (z.cyc*1440) z.eP with
   | some w=>
    have L:=aeQ m (by omega) l y hy I;have M:=F w x l g;omega
   | none=>
    exfalso;obtain⟨k,b,u,rfl⟩:=hy;obtain⟨E,b1,b2⟩:=fS m u;unfold uW at l;simp only [Option.or_eq_none_iff]at l;have s:=EP l.2 _ (OF E);have H:turns o (z.cyc*1440) z.eP=if o[0].at_<z.eP then(z.eP-o[0].at_) / (z.cyc*1440)else 0:=by unfold turns;rw [At E]
    have O:=arq (z.eP-o[0].at_) (z.cyc*1440);have Q:=aq6 (z.eP-o[0].at_) (show 0<z.cyc*1440 by omega);rw [arT,arM,H]at s;split at s
    ·rw [arJ ((z.eP-o[0].at_) / (z.cyc*1440))]at s;omega
    ·omega
 rintro x y (g | ⟨g,A⟩) (hy | ⟨hy,B⟩)
 ·obtain⟨i,hi,rfl⟩:=aqE g;obtain⟨j,J,rfl⟩:=aqE hy;rcases aq1 i j with e | e | e
  ·left;exact qX h.ts i j e J
  ·subst e;right;right;rfl
  ·right;left;exact qX h.ts j i e hi
 ·left;exact d x y g hy B
 ·right;left;exact d y x hy g A
 ·exact K x y g hy
def jM(z:ZD)(g:Tg)(o:List bI):List FC:=z.row++[sl g (aR o),fi z.cyc]
abbrev rT(z:ZD)(g:Tg)(o:List bI):V:=.c (.f (.fp (jM z g o) 0))
section
variable{H:aj}{z:ZD}{g:Tg}{o:List bI}
theorem afD(b:z.c<3):aX H ab (.c (.f (.fp (jM z g o) 4)))=aa (vi z.start):=by
 obtain⟨c,s,j,tr,d,l,yr⟩:=z;have:c=0∨c=1∨c=2:=by simp at b;omega
 rcases this with rfl | rfl | rfl<;>simp [aX,aF,jM,ZD.row,fN,aI]
theorem DK(b:z.c<3):aX H ab (.c (.f (.fp (jM z g o) 5)))=aa (.c (.f (sl z.tg (aR z.tr)))):=by
 obtain⟨c,s,j,tr,d,l,yr⟩:=z;have:c=0∨c=1∨c=2:=by simp at b;omega
 rcases this with rfl | rfl | rfl<;>simp [aX,aF,jM,ZD.row,fN,aI]
theorem VG(b:z.c<3):aX H ab (.c (.f (.fp (jM z g o) 6)))=aa (vi z.eP):=by
 obtain⟨c,s,j,tr,d,l,yr⟩:=z;have:c=0∨c=1∨c=2:=by simp at b;omega
 rcases this with rfl | rfl | rfl<;>simp [aX,aF,jM,ZD.row,fN,aI]
theorem oI(b:z.c<3):aX H ab (.c (.f (.fp (jM z g o) 8)))=aa (.c (.f (sl g (aR o)))):=by
 obtain⟨c,s,j,tr,d,l,yr⟩:=z;have:c=0∨c=1∨c=2:=by simp at b;omega
 rcases this with rfl | rfl | rfl<;>simp [aX,aF,jM,ZD.row,fN,aI]
theorem ajf(b:z.c<3):aX H ab (.c (.f (.fp (jM z g o) 9)))=aa (vi z.cyc):=by
 obtain⟨c,s,j,tr,d,l,yr⟩:=z;have:c=0∨c=1∨c=2:=by simp at b;omega
 rcases this with rfl | rfl | rfl<;>simp [aX,aF,jM,ZD.row,fN,aI]
end
theorem js{z:ZD}{g:Tg}{o:List bI}(d:z.c<3)(l:0≤z.cyc)(m:z.cyc≤1000000)(H:aj) :
  Ev tab.get (.fn 122) [rT z g o] H (vi (z.cyc*1440)) H:=by
 obtain⟨r,H',j,rfl,rfl⟩:∃ r H',Ev tab.get (.fn 122) [rT z g o] H r H'∧r=vi (z.cyc*1440)∧H'=H:=by
  refine dk rfl rfl fun Q b=>?_;apply ai;simp;apply ai;simp [ajf d,aO (n:=z.cyc*1440)];exact aH (b _ _ _ rfl (jz (by simp)) ⟨rfl,rfl⟩)
 exact j
section
variable{g:Tg}{o:List bI}
theorem Er(H:aj)(d:0<o.length):bE H (.f (sl g (aR o)))=aa o.length:=by
 have b:¬ (aR o).isEmpty=ae:=by
  intro h;have:o=[]:=by simpa [aR]using h
  subst this;simp at d
 simp [sl,b,bE]
theorem gF(H:aj){i:Nat}(hi:i<o.length):aL H 2 ab (.c (.f (sl g (aR o)))) (vi i)=aa (.c (.f (.fp (aR o).flatten (i*2)))):=by
 have:=dg (H:=H) (g:=g) (rows:=aR o) (sz:=2) (k:=.i64) (i:=(i:Int)) (by omega) (by simp;omega);simpa using this
theorem uD(H:aj){i:Nat}(hi:i<o.length):aX H ab (.c (.f (.fp (aR o).flatten (i*2))))=aa (vi o[i].at_):=jo (cq o) (du (At hi)) rfl
theorem qU(H:aj){i:Nat}(hi:i<o.length):aX H (aa 2) (.c (.f (.fp (aR o).flatten (i*2))))=aa (.a (o[i].row.map .f)):=fV (cq o) (du (At hi))
end
theorem nB{b:Type}{f:b→b→Bool}:∀ {xs:List b},(∀ x ∈ xs,f x x=ae)→kZ f xs xs=ae
 | [],_=>rfl| x::xs,h=>by simp only [kZ,h x aqK,nB fun y d=>h y (List.mem_cons_of_mem _ d),Bool.and_self]
theorem lR{n:Nat}{xs:List FC}(h:∀ x ∈ xs,∃ k m,x=FC.int k m):kZ (FC.beq n) xs xs=ae:=nB fun x b=>by
 obtain⟨k,m,rfl⟩:=h x b;cases n<;>simp [FC.beq]
theorem pO(o:List bI):∀ x ∈ (aR o).flatten,∃ k m,x=FC.int k m:=by
 intro x b;obtain⟨r,hr,b⟩:=List.mem_flatten.1 b;obtain⟨y,-,rfl⟩:=aq9.1 hr;simp [bI.row]at b;rcases b with rfl | rfl<;>exact⟨_,_,rfl⟩
theorem UW(g:Tg)(o:List bI):FC.beq 64 (sl g (aR o)) (sl g (aR o))=ae:=by
 unfold sl;split
 ·cases g<;>rfl
 ·simp [FC.beq,lR (pO o)]
def rnd(o:List bI)(size t:Int):Int:=match o[0]? with
 | some x=>max (t-x.at_) 0 / size| none=>0
theorem B8{z:ZD}{g:Tg}{o:List bI}(d:z.c<3)(x:1≤z.cyc)(y:z.cyc≤217)(b:0<o.length)(v:rf o[0]){t:Int}(t0:-10000000≤t)(t1:t≤10000000) :
  bF tab.get 124 [rT z g o,vi t]=Eq (vi (rnd o (z.cyc*1440) t)):=bF.eq (by
 refine bK rfl rfl fun Q u=>?_;unfold rf at v;have i0:=fun H=>gF (g:=g) H b;have m:=fun H=>uD H b;simp only [Nat.zero_mul,ar7]at i0 m;have q:=fun H=>(js (g:=g) (o:=o) d (by omega) (by omega) H).eq;have hr:rnd o (z.cyc*1440) t=max (t-o[0].at_) 0 / (z.cyc*1440):=by unfold rnd;rw [At b]
 have s:bM .quo (vi (max (t-o[0].at_) 0)) (vi (z.cyc*1440))=aa (vi (max (t-o[0].at_) 0 / (z.cyc*1440))):=WR (by omega) (by omega) (by omega);apply ai;simp;refine an (kG (.inl rfl) ?_ ?_)
 case refine_2=>
  intro c l;have j:c=(4,14)∨c=(5,14)∨c=(7,14):=by simpa using l
  rcases j with rfl | rfl | rfl
  all_goals
   refine⟨by decide,_,rfl,.inl ⟨by decide,?_⟩⟩;simp [oI d,i0,m,q,np,aO (n:=t-o[0].at_),s]
   first | rfl | exact UW g o | exact lR (pO o) | simp [V.beq,C.beq,FC.beq,lR (pO o)]
 simp [oI d,i0,m,q,aO (n:=t-o[0].at_),s];refine aH (u _ _ ?_);simp [hr])
theorem Kg(x:bI)(t:Int):Kf tab.get 125 [.a (x.row.map .f),vi t] (vi (jS x.at_ t)):=by
 refine oH rfl rfl fun H Q b=>?_;apply ai;simp [bI.row];apply ai;simp [nD];refine aH (b _ _ ?_);simp
theorem mJ{a b:Int}:0≤jS a b↔b≤a:=by unfold jS;split<;>(try split)<;>omega
theorem tv{a b:Int}:0<jS a b↔b<a:=by unfold jS;split<;>(try split)<;>omega
theorem bsT(g:Tg)(l:List bI)(E:l.Pairwise XD)(F:l.length≤1000)(t:Int):∃(i:Nat) (w:Bool),i≤l.length∧(∀ j (d:j<l.length),j<i→l[j].at_<t)∧(∀ j (d:j<l.length),i≤j→t≤l[j].at_)∧(w=ae↔∃ h:i<l.length,l[i].at_=t) ∧
  bF tab.get 126 [.c (.f (sl g (aR l))),vi t,.c (.f (.fn 125 []))]=Eq (.t [vi i,vb w]):=by
 have B:tab.get 126=aa (EW 2):=ael;have b:∀(j:Nat) (d:j<(aR l).length),(aR l)[j]=(l[j]'(by simpa using d)).row:=fun j d=>by simp [aR]
 obtain⟨i,u,v,y,w,z,A⟩:=Dm B g (aR l) (cq l) (.c (.f (.fn 125 []))) (fi t) (fun r=>jS (rU r).at_ t) (by simp;omega)
  (fun r hr=>by
   obtain⟨x,-,rfl⟩:=aq9.1 hr;exact⟨125,_,by simp [bQ],Kg x t⟩)
  (fun i j hi d h=>by
   have s:j<l.length:=by simpa using d
   have q:i<l.length:=by omega
   simp only [b]at h ⊢;have:=aqM.1 E i j q s hi;unfold XD at this;rw [mJ]at h;rw [tv];show t<l[j].at_;have h:t≤l[i].at_:=h;omega)
 refine⟨i,w,by simpa using u,fun j d m=>?_,fun j d m=>?_,?_,A⟩
 ·have:=v j (by simpa using d) m;rw [b,jT]at this;exact this
 ·have:=y j (by simpa using d) m;rw [b,mJ]at this;exact this
 ·rw [z];constructor
  ·rintro⟨h,e⟩;rw [b,iG]at e;exact⟨by simpa using h,e⟩
  ·rintro⟨h,e⟩;refine⟨by simpa using h,?_⟩;rw [b,iG];exact e
theorem Lj{o:List bI}{size t:Int}(h:di o size=ae)(u:0<size)(A:0<o.length)(E:o[0].at_≤t){i:Nat}(hi:i<o.length)(l:∀ j (g:j<o.length),i<j→t-(t-o[0].at_) / size*size<o[j].at_) :
  ∀ y,Mem o size y→y.at_≤t→y.at_≤o[i].at_+(t-o[0].at_) / size*size:=by
 rintro y ⟨m,b,d,rfl⟩ v;simp only at v ⊢;have q:=arq (t-o[0].at_) size;have F:=aq5 (t-o[0].at_) (show size≠0 by omega);have H:=aq6 (t-o[0].at_) u;have B:0≤(t-o[0].at_) / size:=arO (by omega) (by omega);rw [arJ]at q;obtain⟨K,s⟩:∃ K:Nat,(t-o[0].at_) / size=(K:Int):=⟨((t-o[0].at_) / size).toNat,by omega⟩
 rw [s]at q l ⊢;obtain⟨_,b1,z⟩:=fS h d;obtain⟨_,a1,x⟩:=fS h (OF hi);rcases aq1 m K with e | e | e
 ·have:=iY (size:=size) (by omega) e;omega
 ·subst e;obtain⟨j,g,rfl⟩:=aqE d;rcases aq1 i j with e | e | e
  ·have:=l j g e;omega
  ·subst e;exact arK _
  ·have:=eG h e hi;omega
 ·have:=iY (size:=size) (by omega) e;omega
theorem abz{z:ZD}{o:List bI}(h:ft z o)(hb:∀ x ∈ o,rf x)(hl:o.length≤100)(g:Tg)(t:Int)(t0:-10000000≤t)(t1:t≤10000000) :
  ∃ r:Option bI,fM (aaL z.tr o (z.cyc*1440) z.eP) t r∧bF tab.get 86 [rT z g o,vi t]=Eq (.t [.a ((r.getD ⟨0,0⟩).row.map .f),vb r.isSome]):=by
 obtain⟨rr,⟨r,hr,rfl⟩,hp⟩:∃ rr,(∃ r:Option bI,fM (aaL z.tr o (z.cyc*1440) z.eP) t r∧rr=.t [.a ((r.getD ⟨0,0⟩).row.map .f),vb r.isSome])∧bF tab.get 86 [rT z g o,vi t] rr:=by
  have J:=h.c;have Y:=h.aaX;have F:=h.sp;have e_:=mX h.ts;have f_:=h.tl;refine cA rfl rfl fun Q hQ=>?_;apply ai;simp;apply ai;simp;apply an;have M:(∀ y,Mem o (z.cyc*1440) y→z.eP≤y.at_→t<y.at_)→∀(l:T) (H:aj),H[0]?=aa (.box [.f (fi 0),.f (fi 0)] 0)→l.g 0=rT z g o→l.g 1=vi t→l.g 4=.c (.ptr 0 0 0)→l.g 6=.c (.f (.fn 125 [])) →
    WP tab.get 86 ab [.code pZ] ⟨l,[],H⟩ Q:=by
   intro a9 l H hH I g1 v g6;obtain⟨i,w,hi,i1,i2,hw,N⟩:=bsT z.tg z.tr e_ (by omega) t;have Z:=aw hH;apply ai;simp [I,g1,g6,DK J,N];have s:∀(k:Nat) (u:k<z.tr.length),z.tr[k].at_≤t→(∀ j (d:j<z.tr.length),k<j→t<z.tr[j].at_)→∀ l:T,l.g 0=rT z g o→l.g 4=.c (.ptr 0 0 0)→l.g 11=vi (k:Nat)→WP tab.get 86 ab [.code vU] ⟨l,[],H⟩ Q:=by
    intro k u k1 k2 l I v U;have ii:=gF (g:=z.tg) H u;have ll:=qU H u;apply an;apply ai;simp [U];refine a5 (by simp) ?_;apply ai;simp [I,v,U,DK J,ii,ll,hH,bI.row];refine aH (hQ _ _ _ ⟨aa z.tr[k],⟨.inl (OF u),k1,?_⟩,rfl⟩ ?_)
    ·rintro y (q | ⟨q,K⟩) b9
     ·obtain⟨j,d,rfl⟩:=aqE q;rcases aq1 k j with e | e | e
      ·have:=k2 j d e;omega
      ·subst e;exact arK _
      ·have:=qX h.ts j k e u;omega
     ·have:=a9 y q K;omega
    ·simp [bI.row,v,Z]
   apply an;apply ai;simp;cases w with
   | true=>
    obtain⟨S,e⟩:=hw.1 rfl;refine a5 (by simp) ?_;exact s i S (by omega) (fun j d m=>by have:=qX h.ts i j m d;omega) _ (by simp [I]) (by simp [v]) (by simp)
   | false=>
    refine al (by simp) ?_;refine aq (.inl rfl) ?_;simp [aO (n:=(i:Int)-1)];have E:∀ j (d:j<z.tr.length),i≤j→t<z.tr[j].at_:=by
     intro j d m;have a:=i2 j d m;rcases arb m with e | e
     ·have b:=i2 i (by omega) (IT _);have:=qX h.ts i j e d;omega
     ·subst e;rcases Int.lt_or_eq_of_le a with e | e
      ·exact e
      ·exact absurd (hw.2 ⟨d,e.symm⟩) (by simp)
    by_cases A:i=0
    ·subst A;apply an;apply ai;simp;refine al (by simp) ?_;apply ai;simp [v,hH];refine aH (hQ _ _ _ ⟨ab,?_,rfl⟩ ?_)
     ·rintro y (q | ⟨q,K⟩)
      ·obtain⟨j,d,rfl⟩:=aqE q;exact E j d (by omega)
      ·exact a9 y q K
     ·simp [bI.row,v,Z]
    ·obtain⟨k,rfl⟩:∃ k,i=k+1:=⟨i-1,by omega⟩
     rw [show(((k+1:Nat):Int)-1)=(k:Int) by omega];exact s k (by omega) (by have:=i1 k (by omega) (by omega);omega) (fun j d d6=>E j d (by omega)) _ (by simp [I]) (by simp [v]) (by simp)
  apply an;by_cases A:0<o.length
  case neg=>
   have:o=[]:=amu (by omega);subst this;have d_:∀ H:aj,bE H (.f (sl g (aR [])))=aa 0:=by intro H;cases g<;>rfl
   refine aq (.inl rfl) ?_;simp [oI J,d_];refine a5 (by simp) ?_;exact M (fun y q _=>by obtain⟨k,b,hb,_⟩:=q;cases hb) _ _ rfl (by simp) (by simp) (by simp) (by simp)
  have X:=hb _ (OF A);have i0:=fun H=>gF (g:=g) H A;have l0:=fun H=>uD H A;simp only [Nat.zero_mul,ar7]at i0 l0;refine aq (.inl rfl) ?_;simp [oI J,Er _ A,i0,l0,A];by_cases O:o[0].at_≤t
  case neg=>
   refine a5 (by simp [O]) ?_;refine M (fun y q _=>?_) _ _ rfl (by simp) (by simp) (by simp) (by simp);obtain⟨k,b,c9,rfl⟩:=q;obtain⟨_,b1,b2⟩:=fS F c9;have:0≤(k:Int)*(z.cyc*1440):=asd (by omega) (by omega);simp only;omega
  refine al (by simp [O]) ?_;have a_:=B8 (g:=g) J Y.1 Y.2 A X t0 t1;have d8:=(js (g:=g) (o:=o) J (by omega) (by omega) [.box [.f (fi 0),.f (fi 0)] 0]).eq;unfold rf at X;have d9:rnd o (z.cyc*1440) t=(t-o[0].at_) / (z.cyc*1440):=by
   unfold rnd;rw [At A];simp only;rw [Int.max_eq_left (by omega)]
  rw [d9]at a_;have q0:=arq (t-o[0].at_) (z.cyc*1440);have q1:=aq5 (t-o[0].at_) (show z.cyc*1440≠0 by omega);have q2:=aq6 (t-o[0].at_) (show 0<z.cyc*1440 by omega);rw [arJ]at q0;have W:0≤(t-o[0].at_) / (z.cyc*1440):=arO (by omega) (by omega);have b_:0≤(t-o[0].at_) / (z.cyc*1440)*(z.cyc*1440):=asd W (by omega);have b7:=fun i hi hn=>Lj (t:=t) F (by omega) A O (i:=i) hi hn;obtain⟨B,hB⟩:=aT ((t-o[0].at_) / (z.cyc*1440)*(z.cyc*1440));have a8:∀ i (hi:i<o.length),Mem o (z.cyc*1440) ⟨o[i].at_+B,o[i].off⟩:=fun i hi=>⟨((t-o[0].at_) / (z.cyc*1440)).toNat,o[i],OF hi,by rw [arC W,hB]⟩
  rw [←hB]at q0 b_ b7;apply ai;simp [a_,d8,←hB,aO (n:=B)];obtain⟨i,w,hi,i1,i2,hw,N⟩:=bsT g o (jK F) (by omega) (t-B);apply ai;simp [oI J,aO (n:=t-B),N];have s:∀(k:Nat) (u:k<o.length),o[k].at_≤t-B→(∀ j (d:j<o.length),k<j→t-B<o[j].at_)→∀ l:T,l.g 0=rT z g o→l.g 1=vi t→l.g 4=.c (.ptr 0 0 0)→l.g 6=.c (.f (.fn 125 []))→l.g 7=vi B→l.g 8=vi (k:Nat)→WP tab.get 86 ab [.code vT,.code pZ] ⟨l,[],[.box [.f (fi 0),.f (fi 0)] 0]⟩ Q:=by
   intro k u k1 k2 l I g1 v g6 g7 g8;have ii:=fun H=>gF (g:=g) H u;have ll:=fun H=>qU H u;have c_:=hb _ (OF u);unfold rf at c_;have L:=b7 k u k2;apply ai;simp [I,g8,oI J,ii,ll,bI.row];apply an;refine aq (.inl rfl) ?_;simp [I,g7,VG J,aO (n:=o[k].at_+B)];by_cases hh:z.eP≤o[k].at_+B
   ·refine al (by simp [hh]) ?_;apply ai;simp [g7,aO (n:=o[k].at_+B)];apply ai;simp [v,aI];refine aH (hQ _ _ _ ⟨aa ⟨o[k].at_+B,o[k].off⟩,⟨.inr ⟨a8 k u,hh⟩,by show o[k].at_+B≤t;omega,?_⟩,rfl⟩ ?_)
    ·rintro y (q | ⟨q,K⟩) b9
     ·have:=(h.tb y q).2.1;show y.at_≤o[k].at_+B;omega
     ·exact L y q b9
    ·simp [bI.row,v]
   ·refine ak (by simp;omega) (aM ?_);refine M (fun y q g_=>?_) _ _ rfl (by simp [I]) (by simp [g1]) (by simp [v]) (by simp [g6]);rcases Int.lt_or_le t y.at_ with e | e
    ·exact e
    ·have:=L y q e;omega
  apply an;apply ai;simp;cases w with
  | true=>
   obtain⟨S,e⟩:=hw.1 rfl;refine a5 (by simp) ?_;exact s i S (by omega) (fun j d m=>by have:=eG F m d;omega) _ (by simp) (by simp) (by simp) (by simp) (by simp) (by simp)
  | false=>
   refine al (by simp) ?_;refine aq (.inl rfl) ?_;simp [aO (n:=(i:Int)-1)];have E:∀ j (d:j<o.length),i≤j→t-B<o[j].at_:=by
    intro j d m;have a:=i2 j d m;rcases arb m with e | e
    ·have b:=i2 i (by omega) (IT _);have:=eG F e d;omega
    ·subst e;rcases Int.lt_or_eq_of_le a with e | e
     ·exact e
     ·exact absurd (hw.2 ⟨d,e.symm⟩) (by simp)
   have f9:i≠0:=by
    rintro rfl;have:=E 0 A (IT _);omega
   obtain⟨k,rfl⟩:∃ k,i=k+1:=⟨i-1,by omega⟩
   rw [show(((k+1:Nat):Int)-1)=(k:Int) by omega];exact s k (by omega) (by have:=i1 k (by omega) (by omega);omega) (fun j d d6=>E j d (by omega)) _ (by simp) (by simp) (by simp) (by simp) (by simp) (by simp)
 exact⟨r,hr,bF.eq hp⟩
theorem ua{c y:Nat}{r q:ey}(hr:r.OK):∀ x ∈ dU c (y+1) r q,-1080≤x.off∧x.off≤1080:=by
 intro x b;obtain⟨-,-,-,-,-,-,p0,p1⟩:=hr;simp only [dU]at b;split at b
 ·simp only [List.mem_singleton]at b;subst b;exact⟨p0,p1⟩
 ·cases b
theorem B0{c:Nat}{r q:ey}(hr:r.OK)(d:q.OK):∀ n,∀ x ∈ nf c r q n,-1080≤x.off∧x.off≤1080
 | 0,x,b=>by cases b
 | n+1,x,b=>by
  simp only [nf,aq4]at b;rcases b with b | b | b
  ·exact B0 hr d n x b
  ·exact ua hr x b
  ·exact ua d x b
section
variable{z:ZD}{o:List bI}
theorem ft.bd(h:ft z o):∀ x ∈ o,rf x∧-1080≤x.off∧x.off≤1080:=by
 rcases h.y with⟨-,rfl⟩ | ⟨r,q,e,hr,d,hi,-,-⟩
 ·intro x b;cases b
 ·exact fun x b=>⟨oU h.c hr d _ (IT _) x (hi.perm.subset b),B0 hr d _ x (hi.perm.subset b)⟩
theorem ft.len(h:ft z o):o.length≤28:=by
 rcases h.y with⟨-,rfl⟩ | ⟨r,q,e,hr,g,hi,-,-⟩
 ·simp
 ·have b:=jc z.c r q (nY z.c);have d:=xk z.c;have:=hi.len;omega
abbrev ft.S{z:ZD}{o:List bI}(_:ft z o):bI→Prop:=aaL z.tr o (z.cyc*1440) z.eP
theorem ft.off(h:ft z o){x:bI}(d:h.S x):-1080≤x.off∧x.off≤1080:=by
 rcases d with d | ⟨⟨k,b,g,rfl⟩,_⟩
 ·exact(h.tb x d).2.2
 ·exact(h.bd b g).2
theorem ft.last(h:ft z o)(g:Tg){t:Int}(t0:-10000000≤t)(t1:t≤10000000) :
  ∃ r:Option bI,fM h.S t r∧bF tab.get 86 [rT z g o,vi t]=Eq (.t [.a ((r.getD ⟨0,0⟩).row.map .f),vb r.isSome]):=
 abz h (fun x b=>(h.bd x b).1) (by have:=h.len;omega) g t t0 t1
end
def offO(z:ZD):Option bI→Int
 | some x=>x.off| none=>z.start
theorem ft.offO{z:ZD}{o:List bI}(h:ft z o){t:Int}{r:Option bI}(hr:fM h.S t r):-1080≤offO z r∧offO z r≤1080:=by
 cases r with
 | none=>exact h.st| some x=>exact h.off hr.1
theorem xo{z:ZD}{o:List bI}(h:ft z o)(g:Tg){t:Int}(t0:-10000000≤t)(t1:t≤10000000) :
  ∃ r:Option bI,fM h.S t r∧bF tab.get 87 [rT z g o,vi t]=Eq (vi (offO z r)):=by
 obtain⟨r,hr,j⟩:=h.last g t0 t1;refine⟨r,hr,bF.eq ?_⟩;have d:=h.c;refine bK rfl rfl fun Q b=>?_;apply ai;simp;apply an;apply ai;simp [j,bI.row];apply an;refine aq (.inl rfl) ?_;simp;cases r with
 | some x=>
  refine al (by simp) ?_;apply ai;simp;refine aH (b _ _ ?_);simp [Go.Proofs.YtmbjejcfadllnaaGreat.offO]
 | none=>
  refine a5 (by simp) ?_;apply ai;simp [afD d];refine aH (b _ _ ?_);simp [Go.Proofs.YtmbjejcfadllnaaGreat.offO]
def dQ(H J:aj):Prop:=∀(i:Nat) y,H[i]?=aa y→J[i]?=aa y
theorem dQ.refl(H:aj):dQ H H:=fun _ _ h=>h
theorem dQ.push{H J:aj}(h:dQ H J)(L:aj):dQ H (J++L):=fun i y hy=>by have:=h i y hy;rw [AI (aw this)];exact this
theorem dQ.set{H J:aj}(h:dQ H J){i:Nat}{x:cS}(b:H[i]?=aa x):dQ H (J.set i x):=fun k y hy=>by
 by_cases e:i=k
 ·subst e;rw [b]at hy;cases hy;exact IS (aw (h i _ b))
 ·rw [AT e];exact h k y hy
theorem Lf{o:List bI}{size t:Int}(b:0<o.length):rnd o size t=turns o size t:=by
 unfold rnd turns;rw [At b];simp only;split
 ·rw [Int.max_eq_left (by omega)]
 ·rw [Int.max_eq_right (by omega)];simp
theorem Fa{z:ZD}{o:List bI}(h:ft z o)(g:Tg){b bc bt:Nat}{H:aj}{PP:aj→Prop}
  (b7:H[bc]?=aa (.box [.f (.fp (jM z g o) 0)] 0)) (b9:H[bt]?=aa (.box [.f (fi z.eP)] 0))
  (h0:o=[]→∀ J,dQ H J→PP J)
  (w:∀ x,uW o (z.cyc*1440) z.eP=aa x→∀ J,dQ H J→∃ J',Ev tab.get (.yield b) [.a (x.row.map .f)] J (vb ag) J'∧PP J') :
  ∃ r H',Ev tab.get (.fn 123) [.c (.yl b),.c (.ptr bc 0 0),.c (.ptr bt 0 0)] H r H'∧(r=.t []∧PP H'):=by
 have S:=h.c;have b_:=h.aaX;have j_:=h.sp;have i_:=h.ho;refine dk rfl rfl fun Q hQ=>?_;have kc:∀ J,dQ H J→J[bc]?=aa (.box [.f (.fp (jM z g o) 0)] 0):=fun J l=>l _ _ b7;have kt:∀ J,dQ H J→J[bt]?=aa (.box [.f (fi z.eP)] 0):=fun J l=>l _ _ b9;apply an;apply ai;simp [b7,aI,DK S];refine fU z.tr.length (fun j t J=>dQ H J∧t.g 0=.c (.yl b)∧t.g 1=.c (.ptr bc 0 0)∧t.g 2=.c (.ptr bt 0 0)∧t.g 13=.c (.f (sl z.tg (aR z.tr)))) (by have:=h.tl;omega) (by decide) (by decide) (by simp) (by simp)
  ⟨dQ.refl H,by simp,by simp,by simp,by simp⟩ ?_ ?_
 ·rintro j t J A ⟨l,v,q,u,X⟩ a hb nx;have f:=gF (g:=z.tg) J A;have E:=qU J A;have j9:=(h.tb _ (OF A)).2.1;have W:dQ H (J++[.box (z.tr[j].row.map .f) 0]):=l.push _;have e2:=kt _ W;simp only [bI.row,ao1,aqD]at E W e2;refine aC ?_;apply ai;simp [X,a,f,E];apply ai;simp [u,e2,aI,show¬ z.eP≤z.tr[j].at_ by omega];refine ak (by simp) (aM (aA ?_));exact nx _ _ ⟨W,by simp [v],by simp [q],by simp [u],by simp [X]⟩ (by simp [a]) (by simp [hb])
 rintro t J ⟨l,v,q,u,X⟩ a hb;apply an;have d:=kc J l;have B:=kt J l;by_cases ho:o=[]
 ·subst ho;have f_:∀ H:aj,bE H (.f (sl g (aR [])))=aa 0:=by intro H;cases g<;>rfl
  apply ai;simp [q,d,aI,oI S,f_];refine al (by simp) ?_;exact aH (hQ _ _ _ rfl rfl ⟨rfl,h0 rfl J l⟩)
 have U:0<o.length:=arn.2 ho;have a_:=(h.bd _ (OF U)).1;apply ai;simp [q,d,aI,oI S,Er _ U];refine a5 (by simp [ho]) ?_;apply ai;simp [q,u,d,B,aI,VG S];obtain⟨J1,Z⟩:=aT (J.set bt (.box [.f (fi z.eP)] 0):aj);have M:dQ H J1:=by rw [Z];exact l.set b9
 rw [←Z];clear d B l Z;have d:=kc J1 M;have B:=kt J1 M;have O:=(js (g:=g) (o:=o) S (by omega) (by omega) J1).eq;have k:=B8 (g:=g) (t:=z.eP) S b_.1 b_.2 U a_ (by omega) (by omega);rw [Lf U]at k;unfold rf at a_;obtain⟨K,hK⟩:=aT (turns o (z.cyc*1440) z.eP);have a8:K=if o[0].at_<z.eP then(z.eP-o[0].at_) / (z.cyc*1440)else 0:=by rw [hK];simp [turns,At U]
 have f9:0<z.cyc*1440:=by omega
 have q0:=arq (z.eP-o[0].at_) (z.cyc*1440);have q1:=aq5 (z.eP-o[0].at_) (show z.cyc*1440≠0 by omega);have q2:=aq6 (z.eP-o[0].at_) f9;have d6:0≤K:=by rw [a8];split;exact arO (by omega) (by omega);omega
 have d8:K*(z.cyc*1440)≤2000000∧z.eP≤o[0].at_+(K+1)*(z.cyc*1440):=by
  rw [a8];split
  ·rw [arT,arM,arJ ((z.eP-o[0].at_) / (z.cyc*1440))];omega
  ·omega
 have g_:0≤K*(z.cyc*1440):=asd d6 (by omega);rw [←hK]at k;apply ai;simp [q,u,d,B,aI,k,O,aO (n:=K*(z.cyc*1440))];refine aC ?_;refine bD (fun m s=>∃(e:Int) (t':T) (J:aj),s=⟨t',[],J⟩∧dQ H J∧(e=0∧m=1∨e=1∧m=0∧hV o (z.cyc*1440) z.eP K=ab)∧t'.g 0=.c (.yl b)∧t'.g 1=.c (.ptr bc 0 0)∧t'.g 2=.c (.ptr bt 0 0)∧t'.g 6=vi ((K+e)*(z.cyc*1440))) 1
  ⟨0,_,J1,rfl,M,.inl ⟨rfl,rfl⟩,by simp [v],by simp [q],by simp [u],by simp⟩ ?_
 clear v q u M d B O;rintro m s ⟨e,t',J,rfl,l,he,v,q,u,L⟩ ih;have h_:0≤(K+e)*(z.cyc*1440)∧(K+e)*(z.cyc*1440)≤4000000:=by
  rcases he with⟨rfl,-⟩ | ⟨rfl,-⟩
  ·rw [arY];omega
  ·rw [arT,arM];omega
 have d:=kc J l;apply an;refine aC ?_;apply ai;simp [q,d,aI,oI S,Er _ U];refine fU o.length (fun j t J=>dQ H J∧(∀ i y,i<j→o[i]?=aa y→decide (z.eP≤y.at_+(K+e)*(z.cyc*1440))=ag)∧t.g 0=.c (.yl b)∧t.g 1=.c (.ptr bc 0 0)∧t.g 2=.c (.ptr bt 0 0)∧t.g 6=vi ((K+e)*(z.cyc*1440))∧t.g 56=.c (.f (sl g (aR o)))) (by have:=h.len;omega) (by decide) (by decide) (by simp) (by simp)
  ⟨l,fun i y hi=>absurd hi (by omega),by simp [v],by simp [q],by simp [u],by simp [L],by simp⟩ ?_ ?_
 ·clear l d v q u L;rintro j t J A ⟨l,F,v,q,u,L,Y⟩ a a9 nx;have f:=gF (g:=g) J A;have E:=qU J A;have d_:=(h.bd _ (OF A)).1;unfold rf at d_;have w1:=aO (n:=o[j].at_+(K+e)*(z.cyc*1440));simp only [bI.row,ao1,aqD]at E;have W:dQ H (J++[.box [.f (fi (o[j].at_+(K+e)*(z.cyc*1440))),.f (fi o[j].off)] 0]):=l.push _;have e2:=kt _ W;refine aC ?_;apply ai;simp [Y,a,f,E];apply ai;simp [L,w1];by_cases N:z.eP≤o[j].at_+(K+e)*(z.cyc*1440)
  ·have c:hV o (z.cyc*1440) z.eP (K+e)=aa ⟨o[j].at_+(K+e)*(z.cyc*1440),o[j].off⟩:=by
    have:=E8 (p:=fun x=>decide (z.eP≤x.at_+(K+e)*(z.cyc*1440))) (At A) (fun i y hi w=>F i y hi w) (by simp [N]);simp [hV,this]
   have c_:uW o (z.cyc*1440) z.eP=aa ⟨o[j].at_+(K+e)*(z.cyc*1440),o[j].off⟩:=by
    unfold uW;rw [←hK];rcases he with⟨rfl,-⟩ | ⟨rfl,-,hn⟩
    ·rw [arY]at c ⊢;rw [c];rfl
    ·rw [hn,c];rfl
   obtain⟨J',c9,d9⟩:=w _ c_ _ W;simp only [bI.row,ao1,aqD]at c9;apply ai;simp [v,u,e2,aI,N,c9.eq];refine al (by simp) ?_;exact aH (hQ _ _ _ rfl rfl ⟨rfl,d9⟩)
  ·apply ai;simp [u,e2,aI,N];refine ak (by simp) (aM (aA ?_));refine nx _ _ ⟨W,fun i y hi w=>?_,by simp [v],by simp [q],by simp [u],by simp [L],by simp [Y]⟩ (by simp [a]) (by simp [a9]);by_cases e_:i=j
   ·subst e_;rw [At A]at w;cases w;exact decide_eq_false N
   ·exact F i y (by omega) w
 ·clear l d v q u L;rintro t J ⟨l,F,v,q,u,L,Y⟩ a a9;have I:hV o (z.cyc*1440) z.eP (K+e)=ab:=by
   have:o.find? (fun x=>decide (z.eP≤x.at_+(K+e)*(z.cyc*1440)))=ab:=by
    rw [arA];intro x hx;obtain⟨j,A,rfl⟩:=aqE hx;have:=F j o[j] A (At A);simp [this]
   simp [hV,this]
  rcases he with⟨rfl,rfl⟩ | ⟨rfl,rfl,-⟩
  ·rw [arY]at I L;have d:=kc J l;have O:=(js (g:=g) (o:=o) S (by omega) (by omega) J).eq;refine aA ?_;refine aq (.inl rfl) ?_;have hw:ah .i64 (K*(z.cyc*1440)+z.cyc*1440)=(K+1)*(z.cyc*1440):=by
    rw [aO,arT,arM]
   simp [q,L,d,aI,O,hw];exact ih 0 _ (by omega) ⟨1,_,J,rfl,l,.inr ⟨rfl,rfl,I⟩,by simp [v],by simp [q],by simp [u],by simp⟩
  ·exfalso;have:=F 0 o[0] U (At U);have h2:=of_decide_eq_false this;exact h2 d8.2
theorem VI{H:aj}{b d:Nat}{z:ZD}(h:H[b]?=aa (.box (z.row.map .f) d))(g:z.c<3):∃ cs,aX H ab (.c (.ptr b 1 0))=aa (.c (.f (.fs cs 2))):=by
 obtain⟨c,s,l,tr,j,m,yr⟩:=z;have:c=0∨c=1∨c=2:=by simp at g;omega
 rcases this with rfl | rfl | rfl<;>exact⟨_,by simp [aX,aF,h,ZD.row,fN,aI];rfl⟩
theorem abb(x:FC)(t:Int)(H:aj):Ev tab.get (.fn 85) [.c (.f x),vi t] H (.c (.cl 123 [.ptr H.length 0 0,.ptr (H.length+1) 0 0])) (H++[.box [.f x] 0,.box [.f (fi t)] 0]):=by
 obtain⟨r,H',d,rfl,rfl⟩:∃ r H',Ev tab.get (.fn 85) [.c (.f x),vi t] H r H'∧r=.c (.cl 123 [.ptr H.length 0 0,.ptr (H.length+1) 0 0])∧H'=H++[.box [.f x] 0,.box [.f (fi t)] 0]:=by
  refine dk rfl rfl fun Q b=>?_;apply ai;simp;apply ai;simp;exact aH (b _ _ _ rfl (jz (by simp)) ⟨rfl,rfl⟩)
 exact d
theorem ft.tick{z:ZD}{o:List bI}(h:ft z o):∃ g,bF tab.get 84 [z.v]=Eq (.t [rT z g o,vb ae]):=by
 rcases h.y with⟨e,rfl⟩ | ⟨r,q,e,hr,j,hi,l,m⟩
 ·refine⟨.nil,?_⟩;have b:z.cyc=1:=by simp [ZD.cyc,e]
  rw [Xn z h.c e,rT,jM,b];rfl
 ·obtain⟨g,d⟩:=ac4 z h.c e hr j hi l;refine⟨g,?_⟩;have b:z.cyc=cyc z.c:=by simp [ZD.cyc,e]
  rw [d,rT,jM,b]
theorem ft.aeP{z:ZD}{o:List bI}(h:ft z o){x:bI}(b:uW o (z.cyc*1440) z.eP=aa x):0≤x.at_∧x.at_≤10000000:=by
 have s:=h.aaX;have u:=h.ho;have j:0<o.length:=by
  rcases ara o.length with e | e
  ·have:o=[]:=arj.1 e;subst this;simp [uW,hV]at b
  ·exact e
 have g:=(h.bd _ (OF j)).1;unfold rf at g;have m:turns o (z.cyc*1440) z.eP=if o[0].at_<z.eP then(z.eP-o[0].at_) / (z.cyc*1440)else 0:=by unfold turns;rw [At j]
 have A:=arq (z.eP-o[0].at_) (z.cyc*1440);have B:=aq5 (z.eP-o[0].at_) (show z.cyc*1440≠0 by omega);have q:turns o (z.cyc*1440) z.eP*(z.cyc*1440)≤2000000:=by
  rw [m];split
  ·rw [arJ];omega
  ·omega
 have key:∀ k,k*(z.cyc*1440)≤4000000→hV o (z.cyc*1440) z.eP k=aa x→0≤x.at_∧x.at_≤10000000:=by
  intro k v b;obtain⟨⟨y,hy,rfl⟩,l,-⟩:=se h.sp b;have:=(h.bd _ hy).1;unfold rf at this;simp only at l ⊢;omega
 unfold uW at b;cases d:hV o (z.cyc*1440) z.eP (turns o (z.cyc*1440) z.eP)with
 | some w=>
  rw [d]at b;simp at b;subst b;exact key _ (by omega) d
 | none=>
  rw [d]at b;simp at b;exact key _ (by rw [arT,arM];omega) b
theorem KF{z:ZD}{o:List bI}(h:ft z o)(g:Tg){Q:Option av→St→Prop}
  (hQ:∀ j s r,r=.t [rT z g o,vb ae]→n8 [.cell (P.nat 2) ab,.cell (P.nat 3) ab] r s∨aeh [.cell (P.nat 2) ab,.cell (P.nat 3) ab] r s→Q j s)
  (t:T) (J:aj) (X:Nat) (g1:t.g 1=.c (.ptr 0 0 0)) (A:t.g 2=.c (.ptr 1 0 0)) (B:t.g 3=.c (.ptr 2 0 0)) (O:t.g 8=.c (.ptr X 0 0))
  (x0:J[0]?=aa (.box (z.row.map .f) 0)) (x1:J[1]?=aa (.box [.f .fY] 0)) (x2:J[2]?=aa (.box [.f (.bool ag)] 0)) (x8:J[X]?=aa (.box [.f (.fp (jM z g o) 0)] 0)) (h8:2<X) :
  WP tab.get 48 ab [.code vW] ⟨t,[],J⟩ Q:=by
 have hc:=h.c;have a_:∀(t:T) (J:aj) (ds:List dw),t.g 8=.c (.ptr X 0 0)→t.g 2=.c (.ptr 1 0 0)→t.g 3=.c (.ptr 2 0 0) →
   J[1]?=aa (.box [.f .fY] 0)→J[2]?=aa (.box [.f (.bool ag)] 0)→J[X]?=aa (.box [.f (.fp (jM z g o) 0)] 0) →
   (ds=[]∨∃ b,ds=[.ov b]∧2<b∧J[b]?=aa (.jF ae))→WP tab.get 48 ab [.code qa] ⟨t,ds,J⟩ Q:=by
  intro t J ds O A B x1 x2 x8 f9;have q1:(J.set 1 (.box [.f (.fp (jM z g o) 0)] 0))[2]?=aa (.box [.f (.bool ag)] 0):=by rw [AT (by decide)];exact x2
  apply ai;simp [O,A,B,x8,x1,aI,q1,List.length_set];obtain⟨K,hK⟩:=aT ((J.set 1 (.box [.f (.fp (jM z g o) 0)] 0)).set 2 (.box [.f (.bool ae)] 0):aj);have l1:=aw x1;have l2:=aw x2;have k1:K[1]?=aa (.box [.f (.fp (jM z g o) 0)] 0):=by rw [hK,AT (by decide),IS l1]
  have k2:K[2]?=aa (.box [.f (.bool ae)] 0):=by rw [hK,IS (by simpa using l2)]
  rw [←hK];rcases f9 with rfl | ⟨b,rfl,hb,b_⟩
  ·refine aH (hQ _ _ _ rfl (.inl ⟨rfl,.t [.c (.f (.fp (jM z g o) 0)),vb ae],?_,?_⟩))
   ·simp [Km.results,bJ,bj,A,B,k1,k2,aI]
   ·simp [iI,cg,bj]
  ·have kb:K[b]?=aa (.jF ae):=by rw [hK,AT (by omega),AT (by omega)];exact b_
   have r1:(K.set b (.jF ag))[1]?=aa (.box [.f (.fp (jM z g o) 0)] 0):=by rw [AT (by omega)];exact k1
   have r2:(K.set b (.jF ag))[2]?=aa (.box [.f (.bool ae)] 0):=by rw [AT (by omega)];exact k2
   refine aH (hQ _ _ _ rfl (.inr ⟨b,rfl,kb,.t [.c (.f (.fp (jM z g o) 0)),vb ae],?_,?_⟩))
   ·simp [Km.results,bJ,bj,A,B,r1,r2,aI]
   ·simp [iI,cg,bj]
 apply an;apply an;refine aq (.inl rfl) ?_;simp [g1,x0,fF x0 hc,-au];obtain⟨d,S⟩:=aT (J++[.box [.f (fi z.tr.length)] 0]:aj);have up:∀ i y,J[i]?=aa y→d[i]?=aa y:=fun i y u=>by rw [S,AI (aw u)];exact u
 have a9:d[J.length]?=aa (.box [.f (fi z.tr.length)] 0):=by rw [S];simp
 have y0:=up _ _ x0;have y1:=up _ _ x1;have y2:=up _ _ x2;have y8:=up _ _ x8;have m6:X<J.length:=aw x8;have k_:J.length<d.length:=by rw [S];simp
 rw [←S];apply ai;by_cases hn:z.tr=[]
 ·simp [a9,aI,hn];refine a5 (by simp) ?_;exact a_ _ _ _ (by simp [O]) (by simp [A]) (by simp [B]) y1 y2 y8 (.inl rfl)
 have g_:0<z.tr.length:=arn.2 hn;simp [a9,aI,hn,g_];refine al (by simp) ?_;have f_:=(abb (.fp (jM z g o) 0) z.eP d).eq;have l8:aX d ab (.c (.ptr X 0 0))=aa (rT z g o):=by simp [aX,aF,y8,aI]
 apply ai;simp [g1,O,l8,kH y0 hc,-au,f_];obtain⟨N,E⟩:=aT (d++[.box [.f (.fp (jM z g o) 0)] 0,.box [.f (fi z.eP)] 0]:aj);rw [←E];refine aC ?_;have l7:N.length=d.length+2:=by rw [E];simp
 have a8:∀ t:T,t.g 1=.c (.ptr 0 0 0)→t.g 2=.c (.ptr 1 0 0)→t.g 3=.c (.ptr 2 0 0)→t.g 8=.c (.ptr X 0 0)→t.g 10=.c (.ptr J.length 0 0) →
   t.g 158=.c (.cl 123 [.ptr d.length 0 0,.ptr (d.length+1) 0 0]) →
   WP tab.get 48 ab [.code (.jI (R 158) [P.nat 159] eH eI),.inBlock 4,.code qa] ⟨t,[],N⟩ Q:=by
  intro t g1 A B O g10 Y;have d6:∀ i y,d[i]?=aa y→N[i]?=aa y:=fun i y u=>by rw [E,AI (aw u)];exact u
  obtain⟨L,hL⟩:=aT (N.length);obtain⟨I,l⟩:=aT (N++[.jF ae,.lp 48 t [P.nat 159] eH eI .ready ab N.length]:aj);have zG:∀ i y,d[i]?=aa y→I[i]?=aa y:=fun i y u=>by rw [l,AI (aw (d6 i y u))];exact d6 i y u
  have b7:I[d.length]?=aa (.box [.f (.fp (jM z g o) 0)] 0):=by rw [l,AI (by omega),E];simp
  have b9:I[d.length+1]?=aa (.box [.f (fi z.eP)] 0):=by rw [l,AI (by omega),E];simp
  have hd:I[L]?=aa (.jF ae):=by rw [l,hL];simp
  have F:I[L+1]?=aa (.lp 48 t [P.nat 159] eH eI .ready ab L):=by rw [l,hL,aqJ (by omega),show N.length+1-N.length=1 by omega];rfl
  have w1:=zG _ _ y1;have w2:=zG _ _ y2;have w8:=zG _ _ y8;have w0:=zG _ _ y0;have j_:=zG _ _ a9;by_cases ho:o=[]
  ·obtain⟨r,H',he,rfl,U⟩:=Fa h g (b:=L+1) (bc:=d.length) (bt:=d.length+1) (H:=I) (PP:=fun H'=>dQ I H') b7 b9 (fun _ J hJ=>hJ) (fun x hx=>by subst ho;simp [uW,hV]at hx);rw [l,hL]at he;refine wZ (g:=123) (by rw [ahT,Y];simp [bQ]) he ?_;refine VC (U _ _ (by rw [←hL];exact F)) (by decide) ?_;refine aA ?_;have W:∀ i y,I[i]?=aa y→i≤L→(H'.set (N.length+1) (.lp 48 t [P.nat 159] eH eI .exhausted ab L))[i]?=aa y:=fun i y u hi=>by
    rw [AT (by omega)];exact U _ _ u
   exact a_ _ _ _ O A B (W _ _ w1 (by omega)) (W _ _ w2 (by omega)) (W _ _ w8 (by omega)) (.inr ⟨N.length,rfl,by omega,W _ _ (by rw [←hL];exact hd) (by omega)⟩)
  ·obtain⟨r,H',he,rfl,p1,p2,pL,f2,tm,ps,Z,bd,pl⟩:=Fa h g (b:=L+1) (bc:=d.length) (bt:=d.length+1) (H:=I)
    (PP:=fun H'=>H'[1]?=aa (.box [.f (.fp (jM z g o) 0)] 0)∧H'[2]?=aa (.box [.f (.bool ae)] 0)∧H'[L]?=aa (.jF ae)∧∃ f2 tm ps Z bd,H'[L+1]?=aa (.lp f2 tm ps Z bd .done (aa .ret) L)) b7 b9 (fun e=>absurd e ho) (fun x hx J' m=>by
     have b_:=h.aeP hx;obtain⟨r,H',e,rfl,U⟩:=Bc (tab:=tab.get) (b:=L+1) (args:=[.a (x.row.map .f)]) (H:=J')
      (C:=fun r H'=>r=vb ag∧H'[1]?=aa (.box [.f (.fp (jM z g o) 0)] 0)∧H'[2]?=aa (.box [.f (.bool ae)] 0)∧H'[L]?=aa (.jF ae)∧∃ f2 tm ps Z bd,H'[L+1]?=aa (.lp f2 tm ps Z bd .done (aa .ret) L)) (m _ _ F) rfl fun Q' d8=>by
       simp only [bI.row];refine aq (.inr rfl) ?_;simp;refine aby (by rw [AI (aw (m _ _ F))];exact m _ _ F) ?_;obtain⟨M,hM⟩:=aT ((J'++[cS.box [.f (fi x.at_),.f (fi x.off)] 0]).set (L+1) (.lp 48 t [P.nat 159] eH eI .busy ab L):aj);rw [←hM];have l_:=aw (m _ _ F);have v:∀ i y,I[i]?=aa y→i≠L+1→M[i]?=aa y:=fun i y u hi=>by
        rw [hM,AT (by omega),AI (aw (m _ _ u))];exact m _ _ u
       have m0:=v _ _ w0 (by omega);have m1:=v _ _ w1 (by omega);have m2:=v _ _ w2 (by omega);have m8:=v _ _ w8 (by omega);have c_:=v _ _ j_ (by omega);have mL:=v _ _ hd (by omega);have mb:M[L+1]?=aa (.lp 48 t [P.nat 159] eH eI .busy ab L):=by rw [hM,IS (by simp;omega)]
       have mx:M[J'.length]?=aa (.box [.f (fi x.at_),.f (fi x.off)] 0):=by rw [hM,AT (by omega)];simp
       have lM:aX M ab (.c (.ptr X 0 0))=aa (rT z g o):=by simp [aX,aF,m8,aI]
       have lx:aX M ab (.c (.ptr J'.length 0 0))=aa (vi x.at_):=by simp [aX,aF,mx,aI]
       have c9:aX M ab (.c (.ptr J.length 0 0))=aa (vi z.tr.length):=by simp [aX,aF,c_,aI]
       have W:=z.tr.length-1;have ii:=gF (g:=z.tg) M (show z.tr.length-1<z.tr.length by omega);have il:=uD M (show z.tr.length-1<z.tr.length by omega);have m4:=h.tb _ (OF (show z.tr.length-1<z.tr.length by omega));have l9:=h.ho;have e1:ah .i64 ((z.tr.length:Int)-1)=((z.tr.length-1:Nat):Int):=by rw [wrap64 (by omega) (by have:=h.tl;omega)];omega
       have e2:=aO (n:=x.at_-z.tr[z.tr.length-1].at_);have e3:(2160:Int)≤x.at_-z.tr[z.tr.length-1].at_:=by
        rcases h.y with⟨-,e⟩ | ⟨r,q,e,-,-,-,-,ha⟩
        ·exact absurd e ho
        ·have e_:z.cyc=cyc z.c:=by simp [ZD.cyc,e]
         have:=ha x _ (by rw [←e_];exact hx) (OF (show z.tr.length-1<z.tr.length by omega));omega
       have s1:df M (.ptr 1 0 0) [.f (.fp (jM z g o) 0)]=aa (M.set 1 (.box [.f (.fp (jM z g o) 0)] 0)):=by simp [df,m1,over]
       have q1:(M.set 1 (.box [.f (.fp (jM z g o) 0)] 0))[2]?=aa (.box [.f (.bool ag)] 0):=by rw [AT (by decide)];exact m2
       have s2:df (M.set 1 (.box [.f (.fp (jM z g o) 0)] 0)) (.ptr 2 0 0) [.f (.bool ae)]=aa ((M.set 1 (.box [.f (.fp (jM z g o) 0)] 0)).set 2 (.box [.f (.bool ae)] 0)):=by simp [df,q1,over]
       have n0:(M.set 1 (.box [.f (.fp (jM z g o) 0)] 0))[0]?=aa (.box (z.row.map .f) 0):=by rw [AT (by decide)];exact m0
       have nx:aX (M.set 1 (.box [.f (.fp (jM z g o) 0)] 0)) ab (.c (.ptr J'.length 0 0))=aa (vi x.at_):=by
        simp [aX,aF,AT (show 1≠J'.length by omega),mx,aI]
       have j9:aX (M.set 1 (.box [.f (.fp (jM z g o) 0)] 0)) ab (.c (.ptr J.length 0 0))=aa (vi z.tr.length):=by
        simp [aX,aF,AT (show 1≠J.length by omega),c_,aI]
       have h_:=gF (g:=z.tg) (M.set 1 (.box [.f (.fp (jM z g o) 0)] 0)) (show z.tr.length-1<z.tr.length by omega);have i_:=uD (M.set 1 (.box [.f (.fp (jM z g o) 0)] 0)) (show z.tr.length-1<z.tr.length by omega);refine aC ?_;refine an (kG (.inr rfl) ?_ ?_)
       case refine_2=>
        intro c d_;have d9:c=(2,13)∨c=(4,13)∨c=(5,13)∨c=(7,13)∨c=(9,13):=by simpa using d_
        rcases d9 with rfl | rfl | rfl | rfl | rfl
        all_goals
         refine⟨by decide,_,rfl,.inl ⟨by decide,?_⟩⟩;simp [g1,A,B,O,g10,lM,lx,c9,fF m0 hc,ii,il,e1,e2,e3,s1,s2,np,nx,j9,fF n0 hc,h_,i_,-au,-bu]
         first | rfl | exact UW z.tg z.tr | exact lR (pO z.tr) | simp [V.beq,C.beq,FC.beq,lR (pO z.tr)]
       simp [g1,A,B,O,g10,lM,lx,c9,fF m0 hc,ii,il,e1,e2,e3,s1,s2,-au,-bu];have kb:((M.set 1 (.box [.f (.fp (jM z g o) 0)] 0)).set 2 (.box [.f (.bool ae)] 0))[L+1]?=aa (.lp 48 t [P.nat 159] eH eI .busy ab L):=by rw [AT (by omega),AT (by omega)];exact mb
       refine aH (d8 _ _ _ _ _ _ _ _ _ _ rfl kb ⟨rfl,?_,?_,?_,48,t,[P.nat 159],eH,eI,?_⟩)
       ·simp only;rw [AT (by omega),AT (by decide),IS (aw m1)]
       ·simp only;rw [AT (by omega),IS (aw q1)]
       ·simp only;rw [AT (by omega),AT (by omega),AT (by omega)];exact mL
       ·exact IS (aw kb)
     exact⟨H',e,U⟩)
   rw [l,hL]at he;refine wZ (g:=123) (by rw [ahT,Y];simp [bQ]) he ?_;rw [←hL];refine yF pl (by decide) ?_;have W:∀ i,i<L+1→(H'.set (L+1) (.lp f2 tm ps Z bd .exhausted (aa .ret) L))[i]?=H'[i]?:=fun i hi=>AT (by omega);refine aH (hQ _ _ _ rfl (.inr ⟨L,rfl,by rw [W _ (by omega)];exact pL,.t [.c (.f (.fp (jM z g o) 0)),vb ae],?_,by simp [iI,cg,bj]⟩));have q1:((H'.set (L+1) (.lp f2 tm ps Z bd .exhausted (aa .ret) L)).set L (.jF ag))[1]?=aa (.box [.f (.fp (jM z g o) 0)] 0):=by rw [AT (by omega),W _ (by omega)];exact p1
   have q2:((H'.set (L+1) (.lp f2 tm ps Z bd .exhausted (aa .ret) L)).set L (.jF ag))[2]?=aa (.box [.f (.bool ae)] 0):=by rw [AT (by omega),W _ (by omega)];exact p2
   simp [Km.results,bJ,bj,A,B,q1,q2,aI]
 exact a8 _ (by simp [g1]) (by simp [A]) (by simp [B]) (by simp [O]) (by simp) (by simp)
theorem Fw{z:ZD}{o:List bI}(h:ft z o):∃ g,bF tab.get 48 [z.v]=Eq (.t [rT z g o,vb ae]):=by
 obtain⟨g,Y⟩:=h.tick;refine⟨g,?_⟩;obtain⟨rr,rfl,hp⟩:∃ rr,rr=.t [rT z g o,vb ae]∧bF tab.get 48 [z.v] rr:=by
  have E:=h.c;have a:=h.st;have b9:=h.ho;have c9:=h.tl;refine WN aeG rfl fun Q hQ=>?_;apply ai;simp;obtain⟨H0,F⟩:=aT ([.box (z.row.map .f) 0,.box [.f .fY] 0,.box [.f (.bool ag)] 0]:aj);rw [←F];have z0:H0[0]?=aa (.box (z.row.map .f) 0):=by rw [F];rfl
  have z1:H0[1]?=aa (.box [.f .fY] 0):=by rw [F];rfl
  have z2:H0[2]?=aa (.box [.f (.bool ag)] 0):=by rw [F];rfl
  have b_:H0.length=3:=by rw [F];rfl
  apply an;apply ai;simp [fF z0 E,jq z0 E,VJ z0 E,kH z0 E,-au,vj E,xF (n:=z.start) (m:=1080) (by decide) (by decide) a.1 a.2,xF (n:=z.eP) (m:=2251799813685248) (by decide) (by decide) (by omega) (by omega),show¬ 512<(z.tr.length:Int) by omega];refine a5 (by simp) ?_;apply an;apply ai;simp [fF z0 E,-au];refine fU z.tr.length (fun j t J=>dQ H0 J∧t.g 1=.c (.ptr 0 0 0)∧t.g 2=.c (.ptr 1 0 0)∧t.g 3=.c (.ptr 2 0 0)∧t.g 35=.c (.f (sl z.tg (aR z.tr)))) (by omega) (by decide) (by decide) (by simp) (by simp)
   ⟨dQ.refl _,by simp,by simp,by simp,by simp⟩ ?_ ?_
  ·rintro j t J X ⟨u,b,A,B,I⟩ M U c;have W:=gF (g:=z.tg) J X;have K:=qU J X;simp only [bI.row,ao1,aqD]at K;have l:=h.tb _ (OF X);obtain⟨v,d⟩:=aT (J++[.box (z.tr[j].row.map .f) 0]:aj);have Z:dQ H0 v:=by rw [d];exact u.push _
   have N:v[J.length]?=aa (.box [.f (fi z.tr[j].at_),.f (fi z.tr[j].off)] 0):=by rw [d];simp [bI.row]
   have y:=Z _ _ z0;simp only [bI.row,ao1,aqD]at d;refine aC ?_;apply ai;simp [I,M,W,K];rw [←d];have la:aX v ab (.c (.ptr J.length 0 0))=aa (vi z.tr[j].at_):=by simp [aX,aF,N,aI]
   have lo:aX v ab (.c (.ptr J.length 1 0))=aa (vi z.tr[j].off):=by simp [aX,aF,N,aI]
   have f:=xF (n:=z.tr[j].off) (m:=1080) (by decide) (by decide) l.2.2.1 l.2.2.2;have wa:=xF (n:=z.tr[j].at_) (m:=2251799813685248) (by decide) (by decide) (by omega) (by omega);apply ai;by_cases a8:j=0
   ·subst a8;simp [b,la,lo,f,wa,kH y E,-au,show¬ z.eP≤z.tr[0].at_ by omega];refine ak (by simp) (aM (aA ?_));exact c _ _ ⟨Z,by simp [b],by simp [A],by simp [B],by simp [I]⟩ (by simp [M]) (by simp [U])
   ·obtain⟨k,rfl⟩:∃ k,j=k+1:=⟨j-1,by omega⟩
    have w:=gF (g:=z.tg) v (show k<z.tr.length by omega);have a9:=uD v (show k<z.tr.length by omega);have hs:=h.ts k _ _ (At (by omega)) (At X);have c_:=h.tb _ (OF (show k<z.tr.length by omega));have wk:ah .i64 (k:Nat)=(k:Nat):=aO;have wd:=aO (n:=z.tr[k+1].at_-z.tr[k].at_);simp [b,la,lo,f,wa,kH y E,fF y E,-au,show¬ z.eP≤z.tr[k+1].at_ by omega,wk,w,a9,wd,show¬ z.tr[k+1].at_-z.tr[k].at_<2160 by omega,show(0:Int)<(k:Int)+1 by omega];refine ak (by simp) (aM (aA ?_));exact c _ _ ⟨Z,by simp [b],by simp [A],by simp [B],by simp [I]⟩ (by simp [M]) (by simp [U])
  clear F;rintro t J ⟨u,b,A,B,I⟩ M U;have y:=u _ _ z0;have L:z.yr.length=0∨z.yr.length=2:=by
   rcases h.y with⟨e,-⟩ | ⟨r,q,e,-⟩
   ·left;rw [e];rfl
   ·right;rw [e];rfl
  have b7:∀ x ∈ z.yr,x.OK:=by
   rcases h.y with⟨e,-⟩ | ⟨r,q,e,hr,hq,-⟩
   ·rw [e];intro x l;cases l
   ·rw [e];intro x l;simp at l;rcases l with rfl | rfl
    ·exact hr
    ·exact hq
  have mid:∀(t:T) (J:aj),dQ H0 J→t.g 1=.c (.ptr 0 0 0)→t.g 2=.c (.ptr 1 0 0)→t.g 3=.c (.ptr 2 0 0)→WP tab.get 48 ab [.code vV] ⟨t,[],J⟩ Q:=by
   clear b A B I M U y u;intro t J u b A B;have y:=u _ _ z0;apply an;apply ai;simp [b,gv y E,-au];refine fU z.yr.length (fun j t J=>dQ H0 J∧t.g 1=.c (.ptr 0 0 0)∧t.g 2=.c (.ptr 1 0 0)∧t.g 3=.c (.ptr 2 0 0)∧t.g 88=.c (.f (sl z.yg (bO z.yr)))) (by omega) (by decide) (by decide) (by simp) (by simp)
    ⟨u,by simp [b],by simp [A],by simp [B],by simp⟩ ?_ ?_
   ·clear u b A B y;rintro j t J X ⟨u,b,A,B,O⟩ M U c;have W:aL J 5 ab (.c (.f (sl z.yg (bO z.yr)))) (vi j)=aa (.c (.f (.fp (bO z.yr).flatten (j*5)))):=by
     have:=dg (H:=J) (g:=z.yg) (rows:=bO z.yr) (sz:=5) (k:=.i64) (i:=(j:Int)) (by omega) (by simp;omega);simpa using this
    have K:aX J (aa 5) (.c (.f (.fp (bO z.yr).flatten (j*5))))=aa (.a (z.yr[j].row.map .f)):=fV (jB z.yr) (xJ X);have l:=b7 _ (OF X);obtain⟨v,d⟩:=aT (J++[.box (z.yr[j].row.map .f) 0]:aj);have Z:dQ H0 v:=by rw [d];exact u.push _
    have N:v[J.length]?=aa (.box (z.yr[j].row.map .f) 0):=by rw [d];simp
    have y:=Z _ _ z0;have l0:aX v ab (.c (.ptr J.length 0 0))=aa (vi z.yr[j].mo):=by simp [aX,aF,N,aI,ey.row]
    have l1:aX v ab (.c (.ptr J.length 1 0))=aa (vi z.yr[j].wk):=by simp [aX,aF,N,aI,ey.row]
    have l2:aX v ab (.c (.ptr J.length 2 0))=aa (vi z.yr[j].wd):=by simp [aX,aF,N,aI,ey.row]
    have l3:aX v ab (.c (.ptr J.length 3 0))=aa (vi z.yr[j].mi):=by simp [aX,aF,N,aI,ey.row]
    have l4:aX v ab (.c (.ptr J.length 4 0))=aa (vi z.yr[j].off):=by simp [aX,aF,N,aI,ey.row]
    obtain⟨cs,lm⟩:=VI y E;simp only [ey.row,ao1,aqD]at d K;refine aC ?_;apply ai;simp [O,M,W,K];rw [←d];have f:=xF (n:=z.yr[j].off) (m:=1080) (by decide) (by decide) l.of0 l.of;apply ai;have a_:bE v (.f (.fs cs 2))=aa 2:=rfl;have f1:¬ z.yr[j].mo<1:=by have:=l.mo;omega
    have f2:¬ 2<z.yr[j].mo:=by have:=l.mo;omega
    have f3:¬ z.yr[j].wk<1:=by have:=l.wk;omega
    have f4:¬ 5<z.yr[j].wk:=by have:=l.wk;omega
    have f5:¬ z.yr[j].wd<0:=by have:=l.wd0;omega
    have f6:¬ 6<z.yr[j].wd:=by have:=l.wd;omega
    have f7:¬ z.yr[j].mi<0:=by have:=l.mi0;omega
    have f8:¬ 1440≤z.yr[j].mi:=by have:=l.mi;omega
    simp [b,l0,l1,l2,l3,l4,lm,f,-au,f1,f2,f3,f4,f5,f6,f7,f8,a_];refine ak (by simp) (aM (aA ?_));exact c _ _ ⟨Z,by simp [b],by simp [A],by simp [B],by simp [O]⟩ (by simp [M]) (by simp [U])
   ·clear u b A B y;rintro t J ⟨u,b,A,B,O⟩ M U;have y:=u _ _ z0;apply ai;simp [b,eR y E,-au,Y];obtain⟨J2,S⟩:=aT (J++[.box [.f (.fp (jM z g o) 0)] 0]:aj);rw [←S];have p:dQ H0 J2:=by rw [S];exact u.push _
    have hl:=aw (u _ _ z2);apply an;apply an;refine aq (.inl rfl) ?_;simp;refine a5 (by simp) ?_;refine KF h g (fun j s r hr hf=>hQ j s r hr hf) _ J2 J.length (by simp [b]) (by simp [A]) (by simp [B]) (by simp) (p _ _ z0) (p _ _ z1) (p _ _ z2) (by rw [S];simp) hl
  apply an;apply ai;rcases L with L | L
  ·simp [b,gv y E,-au,L];refine a5 (by simp) ?_;exact mid _ _ u (by simp [b]) (by simp [A]) (by simp [B])
  ·simp [b,gv y E,-au,L];refine a5 (by simp) ?_;exact mid _ _ u (by simp [b]) (by simp [A]) (by simp [B])
 exact hp.eq
theorem Lh{z:ZD}{o:List bI}(h:ft z o):bF tab.get 25 [z.v]=Eq (vi 0):=bF.eq (by
 obtain⟨g,d⟩:=Fw h;have j:=h.c;have m:=h.tl;refine bK rfl rfl fun Q l=>?_;apply ai;simp;obtain⟨H0,b⟩:=aT ([.box (z.row.map .f) 0]:aj);rw [←b];have z0:H0[0]?=aa (.box (z.row.map .f) 0):=by rw [b];rfl
 refine an (ai ?_);simp [fF z0 j,-au,show¬ 512<(z.tr.length:Int) by omega];refine ak (by simp) (aM (an ?_));apply ai;simp [eR z0 j,-au,d];apply ai;simp;refine a5 (by simp) ?_;apply ai;simp;refine aH (l _ _ ?_);simp)
structure aaK(z:ZD):Prop where
 c:z.c<3
 st:-1080≤z.start∧z.start≤1080
 tl:z.tr.length≤3
 tb:∀ x ∈ z.tr,0≤x.at_∧x.at_<z.eP∧-1080≤x.off∧x.off≤1080
 ts:∀(i:Nat) x y,z.tr[i]?=aa x→z.tr[i+1]?=aa y→x.at_+2160≤y.at_
 ho:0≤z.eP∧z.eP≤40000
theorem aaK.none{z:ZD}(h:aaK z)(e:z.yr=[]):ft z []:=⟨h.c,h.st,h.tl,h.tb,h.ts,h.ho,.inl ⟨e,rfl⟩⟩
theorem aaM{o:List bI}{size t:Int}(j:∀ x ∈ o,rf x)(u:di o size=ae)(E:1≤size)(F:size≤400000)(t0:0≤t)(t1:t≤40000){x:bI}(b:uW o size t=aa x):0≤x.at_∧x.at_≤10000000:=by
 have l:0<o.length:=by
  rcases ara o.length with e | e
  ·have:o=[]:=arj.1 e;subst this;simp [uW,hV]at b
  ·exact e
 have g:=j _ (OF l);unfold rf at g;have q:turns o size t=if o[0].at_<t then(t-o[0].at_) / size else 0:=by unfold turns;rw [At l]
 have A:=arq (t-o[0].at_) size;have B:=aq5 (t-o[0].at_) (show size≠0 by omega);have s:turns o size t*size≤2000000:=by
  rw [q];split
  ·rw [arJ];omega
  ·omega
 have key:∀ k,k*size≤4000000→hV o size t k=aa x→0≤x.at_∧x.at_≤10000000:=by
  intro k z b;obtain⟨⟨y,v,rfl⟩,m,-⟩:=se u b;have:=j _ v;unfold rf at this;simp only at m ⊢;omega
 unfold uW at b;cases d:hV o size t (turns o size t)with
 | some w=>
  rw [d]at b;simp at b;subst b;exact key _ (by omega) d
 | none=>
  rw [d]at b;simp at b;exact key _ (by rw [arT,arM];omega) b
theorem Dh(g:Tg)(n t:Int):bF tab.get 67 [.c (.f (sl g (aR []))),vi n,vi t]=Eq (.t [.a [.f (fi 0),.f (fi 0)],vb ag]):=bF.eq (by
 refine bK rfl rfl fun Q d=>?_;apply ai;simp;apply an;apply ai;have b:∀ H:aj,bE H (.f (sl g (aR [])))=aa 0:=fun H=>by simpa using tQ (H:=H) g (aR [])
 simp [b];refine al (by simp) ?_;apply ai;simp;refine aH (d _ _ ?_);simp)
theorem EE{z:ZD}(h:aaK z){r q:ey}(hz:z.yr=[r,q])(hr:r.OK)(hq:q.OK) :
  ∃ e:Int,bF tab.get 23 [z.v]=Eq (vi e)∧(e=0→∃ o,ft z o):=by
 obtain⟨rr,⟨e,he,rfl⟩,hp⟩:∃ rr,(∃ e:Int,(e=0→∃ o,ft z o)∧rr=vi e)∧bF tab.get 23 [z.v] rr:=by
  have s:=h.c;have Z:=h.st;have d8:=h.ho;have d_:=h.tl;have N:z.cyc=cyc z.c:=by simp [ZD.cyc,hz]
  have c9:z.yr.length=2:=by rw [hz];rfl
  have c_:∀ x ∈ z.yr,x.OK:=by
   rw [hz];intro x d;simp at d;rcases d with rfl | rfl
   ·exact hr
   ·exact hq
  obtain⟨g,o,ho,d6⟩:=CA z s hz hr hq;have X:=rk z s;refine cA rfl rfl fun Q hQ=>?_;apply ai;simp;obtain⟨H0,M⟩:=aT ([.box (z.row.map .f) 0]:aj);rw [←M];have z0:H0[0]?=aa (.box (z.row.map .f) 0):=by rw [M];rfl
  clear M;refine an (ai ?_);simp [fF z0 s,-au,show¬ 512<(z.tr.length:Int) by omega];refine a5 (by simp) ?_;refine an (ai ?_);simp [jq z0 s,VJ z0 s,kH z0 s,gv z0 s,-au,Lg s,uO (n:=z.start) (m:=1080) (by decide) (by decide) Z.1 Z.2,uO (n:=z.eP) (m:=2251799813685248) (by decide) (by decide) (by omega) (by omega),c9];refine a5 (by simp) ?_;refine an (ai ?_);simp;refine cw (H:=H0) z.tr.length (fun j t J=>J[0]?=aa (.box (z.row.map .f) 0)∧t.g 1=.c (.ptr 0 0 0)) (by omega) (by decide) (by simp) ⟨z0,by simp⟩ ?_ ?_ ?_
  ·rintro j t J L K ⟨y,b⟩ u hn;simp [b,u,fF y s,-au];exact hn _ ⟨y,by simp [b]⟩ (by simp [u]) (by simp)
  ·rintro j t J K ⟨y,b⟩ u nx;have O:=gF (g:=z.tg) J K;have E:=qU J K;simp only [bI.row,ao1,aqD]at E;have d:=h.tb _ (OF K);obtain⟨v,l⟩:=aT (J++[.box [.f (fi z.tr[j].at_),.f (fi z.tr[j].off)] 0]:aj);have F:v[J.length]?=aa (.box [.f (fi z.tr[j].at_),.f (fi z.tr[j].off)] 0):=by rw [l];simp
   have A:v[0]?=aa (.box (z.row.map .f) 0):=by rw [l,AI (aw y)];exact y
   refine aC ?_;apply ai;simp [b,u,O,E,fF y s,-au];rw [←l];have la:aX v ab (.c (.ptr J.length 0 0))=aa (vi z.tr[j].at_):=by simp [aX,aF,F,aI]
   have lo:aX v ab (.c (.ptr J.length 1 0))=aa (vi z.tr[j].off):=by simp [aX,aF,F,aI]
   have wo:=uO (n:=z.tr[j].off) (m:=1080) (by decide) (by decide) d.2.2.1 d.2.2.2;have wa:=uO (n:=z.tr[j].at_) (m:=2251799813685248) (by decide) (by decide) (by omega) (by omega);apply ai;by_cases a_:j=0
   ·subst a_;simp [b,u,la,lo,wo,wa,kH A s,-au,show¬ z.eP≤z.tr[0].at_ by omega];refine ak (by simp) (aM (aA ?_));exact nx _ _ ⟨A,by simp [b]⟩ (by simp [u])
   ·obtain⟨k,rfl⟩:∃ k,j=k+1:=⟨j-1,by omega⟩
    have a9:=gF (g:=z.tg) v (show k<z.tr.length by omega);have b7:=uD v (show k<z.tr.length by omega);have hs:=h.ts k _ _ (At (by omega)) (At K);have U:=h.tb _ (OF (show k<z.tr.length by omega));have wk:ah .i64 (k:Nat)=(k:Nat):=aO;have wd:=aO (n:=z.tr[k+1].at_-z.tr[k].at_);simp [b,u,la,lo,wo,wa,kH A s,fF A s,-au,show¬ z.eP≤z.tr[k+1].at_ by omega,wk,a9,b7,wd,show¬ z.tr[k+1].at_-z.tr[k].at_<2160 by omega,show(0:Int)<(k:Int)+1 by omega];refine ak (by simp) (aM (aA ?_));exact nx _ _ ⟨A,by simp [b]⟩ (by simp [u])
  clear z0;rintro t J ⟨z0,b⟩ u;refine an (ai ?_);simp;refine cw (H:=J) z.yr.length (fun j t J=>J[0]?=aa (.box (z.row.map .f) 0)∧t.g 1=.c (.ptr 0 0 0)) (by omega) (by decide) (by simp) ⟨z0,by simp [b]⟩ ?_ ?_ ?_
  ·clear b u z0;rintro j t J L K ⟨y,b⟩ u hn;simp [b,u,gv y s,-au];exact hn _ ⟨y,by simp [b]⟩ (by simp [u]) (by simp)
  ·clear b u z0;rintro j t J K ⟨y,b⟩ u nx;have O:aL J 5 ab (.c (.f (sl z.yg (bO z.yr)))) (vi j)=aa (.c (.f (.fp (bO z.yr).flatten (j*5)))):=by
    have:=dg (H:=J) (g:=z.yg) (rows:=bO z.yr) (sz:=5) (k:=.i64) (i:=(j:Int)) (by omega) (by simp;omega);simpa using this
   have E:aX J (aa 5) (.c (.f (.fp (bO z.yr).flatten (j*5))))=aa (.a (z.yr[j].row.map .f)):=fV (jB z.yr) (xJ K);have d:=c_ _ (OF K);obtain⟨v,l⟩:=aT (J++[.box (z.yr[j].row.map .f) 0]:aj);have A:v[0]?=aa (.box (z.row.map .f) 0):=by rw [l,AI (aw y)];exact y
   have F:v[J.length]?=aa (.box (z.yr[j].row.map .f) 0):=by rw [l];simp
   have l0:aX v ab (.c (.ptr J.length 0 0))=aa (vi z.yr[j].mo):=by simp [aX,aF,F,aI,ey.row]
   have l1:aX v ab (.c (.ptr J.length 1 0))=aa (vi z.yr[j].wk):=by simp [aX,aF,F,aI,ey.row]
   have l2:aX v ab (.c (.ptr J.length 2 0))=aa (vi z.yr[j].wd):=by simp [aX,aF,F,aI,ey.row]
   have l3:aX v ab (.c (.ptr J.length 3 0))=aa (vi z.yr[j].mi):=by simp [aX,aF,F,aI,ey.row]
   have l4:aX v ab (.c (.ptr J.length 4 0))=aa (vi z.yr[j].off):=by simp [aX,aF,F,aI,ey.row]
   obtain⟨cs,lm⟩:=VI A s;simp only [ey.row,ao1,aqD]at l E;refine aC ?_;apply ai;simp [b,u,O,E,gv y s,-au];rw [←l];have wo:=uO (n:=z.yr[j].off) (m:=1080) (by decide) (by decide) d.of0 d.of;apply ai;have b_:bE v (.f (.fs cs 2))=aa 2:=rfl;have f1:¬ z.yr[j].mo<1:=by have:=d.mo;omega
   have f2:¬ 2<z.yr[j].mo:=by have:=d.mo;omega
   have f3:¬ z.yr[j].wk<1:=by have:=d.wk;omega
   have f4:¬ 5<z.yr[j].wk:=by have:=d.wk;omega
   have f5:¬ z.yr[j].wd<0:=by have:=d.wd0;omega
   have f6:¬ 6<z.yr[j].wd:=by have:=d.wd;omega
   have f7:¬ z.yr[j].mi<0:=by have:=d.mi0;omega
   have f8:¬ 1439<z.yr[j].mi:=by have:=d.mi;omega
   simp [b,l0,l1,l2,l3,l4,lm,wo,-au,f1,f2,f3,f4,f5,f6,f7,f8,b_];refine ak (by simp) (aM (aA ?_));exact nx _ _ ⟨A,by simp [b]⟩ (by simp [u])
  clear b u z0;rintro t J ⟨z0,b⟩ u;apply ai;simp [b,eR z0 s,-au,d6];refine an (ai ?_);cases hs:di o (cyc z.c*1440)with
  | false=>
   simp;refine al (by simp) (ai ?_);simp;refine aH (hQ _ _ _ ⟨1,by simp,rfl⟩ ⟨rfl,vi 1,?_,?_⟩)
   ·simp [Km.results,bJ,bj]
   ·simp [iI,cg]
  | true=>
   simp;refine a5 (by simp) ?_;have mk:(∀ x a,uW o (cyc z.c*1440) z.eP=aa x→a ∈ z.tr→a.at_+2160≤x.at_)→∃ o,ft z o:=fun d=>⟨o,h.c,h.st,h.tl,h.tb,h.ts,h.ho,.inr ⟨r,q,hz,hr,hq,ho,hs,d⟩⟩
   have B:(∀ x a,uW o (cyc z.c*1440) z.eP=aa x→a ∈ z.tr→a.at_+2160≤x.at_)→∀(t:T) (J:aj),WP tab.get 23 ab [.code An] ⟨t,[],J⟩ Q:=by
    intro d t J;apply ai;simp;refine aH (hQ _ _ _ ⟨0,fun _=>mk d,rfl⟩ ⟨rfl,vi 0,?_,?_⟩)
    ·simp [Km.results,bJ,bj]
    ·simp [iI,cg]
   have a8:1≤cyc z.c∧cyc z.c≤217:=by
    have:cyc z.c=91∨cyc z.c=217:=by unfold cyc ij;split<;>simp
    omega
   rcases ara o.length with e0 | o0
   ·have e0:o=[]:=arj.1 e0;subst e0;have I:=Dh g z.cyc z.eP;apply ai;simp [b,eR z0 s,kH z0 s,-au,X,I];refine an (ai ?_);simp;refine a5 (by simp) ?_;exact B (by simp [uW,hV]) _ _
   ·have W:∀ x ∈ o,rf x:=fun x d=>oU s hr hq _ (IT _) x (ho.perm.subset d);have b9:o.length≤1000:=by
     have h1:=jc z.c r q (nY z.c);have h2:=xk z.c;have:=ho.len;omega
    obtain⟨x,d,I⟩:=Di g o o0 b9 W z.cyc z.eP (by rw [N];exact a8.1) (by rw [N];omega) (by omega) (by omega);rw [N]at d;have e_:=aaM W hs (by omega) (by omega) (by omega) (by omega) d;simp only [bI.row,ao1,aqD]at I;apply ai;simp [b,eR z0 s,kH z0 s,-au,X,I];obtain⟨v,l⟩:=aT (J++[.box [.f (fi x.at_),.f (fi x.off)] 0]:aj);rw [←l];have A:v[0]?=aa (.box (z.row.map .f) 0):=by rw [l,AI (aw z0)];exact z0
    have F:v[J.length]?=aa (.box [.f (fi x.at_),.f (fi x.off)] 0):=by rw [l];simp
    have la:aX v ab (.c (.ptr J.length 0 0))=aa (vi x.at_):=by simp [aX,aF,F,aI]
    refine an (ai ?_);by_cases S:z.tr=[]
    ·simp [b,fF A s,-au,S];refine a5 (by simp) ?_;exact B (by rw [S];intro x a _ u;cases u) _ _
    ·have Y:0<z.tr.length:=arn.2 S;have ii:=gF (g:=z.tg) v (show z.tr.length-1<z.tr.length by omega);have il:=uD v (show z.tr.length-1<z.tr.length by omega);have d9:=h.tb _ (OF (show z.tr.length-1<z.tr.length by omega));have e1:ah .i64 ((z.tr.length:Int)-1)=((z.tr.length-1:Nat):Int):=by rw [aO];omega
     have e2:=aO (n:=x.at_-z.tr[z.tr.length-1].at_);by_cases hd:x.at_-z.tr[z.tr.length-1].at_<2160
     ·simp [b,fF A s,-au,Y,e1,e2,ii,il,la,hd];refine al (by simp) (ai ?_);simp;refine aH (hQ _ _ _ ⟨1,by simp,rfl⟩ ⟨rfl,vi 1,?_,?_⟩)
      ·simp [Km.results,bJ,bj]
      ·simp [iI,cg]
     ·simp [b,fF A s,-au,Y,e1,e2,ii,il,la,hd];refine a5 (by simp) ?_;refine B ?_ _ _;intro x' a U u;rw [d]at U;cases U;obtain⟨i,hi,rfl⟩:=aqE u;rcases arb (show i≤z.tr.length-1 by omega)with h1 | h1
      ·have:=qX h.ts i _ h1 (by omega);omega
      ·subst h1;omega
 exact⟨e,hp.eq,he⟩
abbrev u8(n:Nat):FC:=.int .u8 (n:Nat)
structure gO where
 st:Nat
 gg:Tg
 rV:List Nat
 og:Tg
 yV:List Nat
 be:Nat
 y:Nat→Nat→Nat
 dW:Nat
 rules:Bool
def dj(l:List Nat):List (List FC):=l.map fun n=>[u8 n]
@[simp] theorem ahq (l:List Nat):(dj l).length=l.length:=by simp [dj]
theorem Dn(l:List Nat):bL 1 (dj l):=bL.map fun _=>rfl
theorem tO{j:Nat}{l:List Nat}(b:j<l.length){H:aj}:aX H ab (.c (.f (.fp (dj l).flatten j)))=aa (.c (.f (u8 l[j]))):=by
 have:=jo (H:=H) (rows:=dj l) (j:=j) (sz:=1) (row:=[u8 l[j]]) (x:=u8 l[j]) (Dn l) (by simp [dj,b]) rfl;simpa using this
theorem qq{j:Nat}{l:List Nat}{g:Tg}(b:j<l.length){H:aj}:aL H 1 ab (.c (.f (sl g (dj l)))) (vi j)=aa (.c (.f (.fp (dj l).flatten j))):=by
 have:=dg (H:=H) (g:=g) (rows:=dj l) (sz:=1) (k:=.i64) (i:=(j:Int)) (by omega) (by simp;omega);simpa using this
def gO.row(x:gO):List FC:=[u8 x.st,sl x.gg (dj x.rV),sl x.og (dj x.yV),u8 x.be,u8 (x.y 0 0),u8 (x.y 0 1),u8 (x.y 0 2),u8 (x.y 0 3),u8 (x.y 1 0),u8 (x.y 1 1),u8 (x.y 1 2),u8 (x.y 1 3),u8 x.dW,.bool x.rules]
structure gO.OK(x:gO):Prop where
 st:x.st<256
 gl:x.rV.length≤9223372036854775807
 ol:x.yV.length≤9223372036854775807
 ga:∀ n ∈ x.rV,n<256
 of:∀ n ∈ x.yV,n<256
 be:x.be<256
 y:∀ k i,k<2→i<4→x.y k i<256
 dW:x.dW<256
theorem uN(n:Nat){m:Nat}(b:0<m):bM .rem (.c (.f (u8 n))) (.c (.f (u8 m)))=aa (.c (.f (u8 (n % m)))):=by
 have:¬ ((m:Int)=0):=by omega
 simp only [bM,jR,if_true,this,if_false];rfl
theorem u8_quo{n:Nat}(g:n<256){m:Nat}(d:0<m):bM .quo (.c (.f (u8 n))) (.c (.f (u8 m)))=aa (.c (.f (u8 (n / m)))):=by
 have:¬ ((m:Int)=0):=by omega
 have b:n / m≤n:=Nat.div_le_self n m;simp only [bM,jR,if_true,this,if_false];rw [show(n:Int).tdiv (m:Int)=((n / m:Nat):Int) from rfl];have:IntKind.u8.wrap ((n / m:Nat):Int)=((n / m:Nat):Int):=by
  revert b;generalize n / m=q;intro b;exact Xw (by omega) (by omega)
 rw [this];rfl
def gN(J:aj)(cs:List C)(c:Nat):Prop:=
 (c=0∧cs=[.f (fi 2),.sl 2 0 2 2 0 1,.f (fi (-1)),.f .aE]∧∃ b,J[2]?=aa (.box [.f (fi 7),.f (fi 6)] b)) ∨
 ∃ k:Nat,k<2∧c=k+1∧cs=[.f (fi 5),.sl 4 0 2 2 0 1,.f (fi 1),.sl 5 0 1 1 0 3]∧(∃ b,J[4]?=aa (.box [.f (fi 7),.f (fi 8)] b))∧∃ b,J[5]?=aa (.box [.f (fi 2),.f (fi k),.f (.bool ae)] b)
section
variable{J J':aj}{cs:List C}{c:Nat}{s h:Int}{ct cy ct' cy':C}
theorem gN.wY(hc:gN J cs c)(m:∀(i:Nat) (l:List C) (q:Nat),J[i]?=aa (.box l q)→(i=2∨i=4∨i=5)→∃ b,J'[i]?=aa (.box l b)):gN J' cs c:=by
 rcases hc with⟨d,g,q,j⟩ | ⟨k,s,d,g,⟨v,j⟩,x,u⟩
 ·exact .inl ⟨d,g,m _ _ _ j (by omega)⟩
 ·exact .inr ⟨k,s,d,g,m _ _ _ j (by omega),m _ _ _ u (by omega)⟩
theorem gN.bY(hc:gN J cs c)(d:∀ i y,J[i]?=aa y→(i=2∨i=4∨i=5)→J'[i]?=aa y):gN J' cs c:=hc.wY fun i l b h hi=>⟨b,d i _ h hi⟩
theorem gN.four(hc:gN J cs c):∃ a b d e,cs=[a,b,d,e]:=by
 rcases hc with⟨-,rfl,-⟩ | ⟨k,-,-,rfl,-,-⟩<;>exact⟨_,_,_,_,rfl⟩
theorem gN.lt(hc:gN J cs c):c<3:=by
 rcases hc with⟨rfl,-⟩ | ⟨k,b,rfl,-⟩<;>omega
theorem gN.ex(hc:gN J cs c):bj (da 64 J) cs=aa (fN c):=by
 rcases hc with⟨rfl,rfl,l,b⟩ | ⟨k,m,rfl,rfl,⟨g,b⟩,j,d⟩
 ·simp [bj,lf,b,fN]
 ·simp [bj,lf,b,d,fN]
abbrev mF(cs:List C)(s:Int)(ct:C)(h:Int)(cy:C):cS:=.box (cs++[.f (fi s),ct,.f (fi h),cy]) 0
theorem alp(j:gN J cs c)(g:J[3]?=aa (mF cs s ct h cy)):aX J ab (.c (.ptr 3 5 0))=aa (.c ct):=by
 obtain⟨a,b,d,e,rfl⟩:=j.four;simp [aX,aF,g,aI]
theorem aed(j:gN J cs c)(g:J[3]?=aa (mF cs s ct h cy)):aX J ab (.c (.ptr 3 7 0))=aa (.c cy):=by
 obtain⟨a,b,d,e,rfl⟩:=j.four;simp [aX,aF,g,aI]
theorem EK(j:gN J cs c)(g:J[3]?=aa (mF cs s ct h cy)):aX J (aa 8) (.c (.ptr 3 0 0))=aa (.a (cs++[.f (fi s),ct,.f (fi h),cy])):=by
 obtain⟨a,b,d,e,rfl⟩:=j.four;simp [aX,aF,g,aI]
theorem alr(j:gN J cs c)(g:J[3]?=aa (mF cs s ct h cy)):df J (.ptr 3 5 0) [ct']=aa (J.set 3 (mF cs s ct' h cy)):=by
 obtain⟨a,b,d,e,rfl⟩:=j.four;simp [df,g,over];rfl
theorem alq{g:Int}(l:gN J cs c)(j:J[3]?=aa (mF cs s ct h cy)):df J (.ptr 3 6 0) [.f (fi g)]=aa (J.set 3 (mF cs s ct g cy)):=by
 obtain⟨a,b,d,e,rfl⟩:=l.four;simp [df,j,over];rfl
theorem aee(j:gN J cs c)(g:J[3]?=aa (mF cs s ct h cy)):df J (.ptr 3 7 0) [cy']=aa (J.set 3 (mF cs s ct h cy')):=by
 obtain⟨a,b,d,e,rfl⟩:=j.four;simp [df,g,over];rfl
end
structure TrP(tr:List bI)(at_:Int):Prop where
 tl:tr.length≤3
 lo:0≤at_∧at_≤7260*tr.length
 tb:∀ x ∈ tr,0≤x.at_∧x.at_≤at_∧-1080≤x.off∧x.off≤1080
 ts:∀(i:Nat) x y,tr[i]?=aa x→tr[i+1]?=aa y→x.at_+2160≤y.at_
theorem TrP.nil:TrP [] 0:=⟨by simp,by simp,by simp,by simp⟩
theorem TrP.app{tr:List bI}{at_:Int}(h:TrP tr at_)(v:tr.length≤2){n m:Nat}(z:n<256):TrP (tr++[⟨at_+2160+20*n,lC m⟩]) (at_+2160+20*n):=by
 have u:=kj m;have q:=h.lo;refine⟨by simp;omega,by simp;omega,fun x d=>?_,fun i x y d hy=>?_⟩
 ·rcases aq4.1 d with d | d
  ·have:=h.tb x d;omega
  ·simp at d;subst d;simp only;omega
 ·rw [List.getElem?_append]at d hy;split at hy
  ·rename_i j;rw [bh (by omega)]at d;exact h.ts i x y d hy
  ·rename_i j;have hi:i+1=tr.length:=by
    have:=b hy;simp at this;omega
   rw [bh (by omega)]at d;have s:=h.tb x (List.mem_of_getElem? d);rw [←hi]at hy;simp at hy;subst hy;simp only;omega
 where b {g:Type} {l:List g} {i:Nat} {x:g} (h:l[i]?=aa x):i<l.length:=(By.1 h).1
abbrev i8v(n:Int):V:=.c (.f (.int .i8 n))
theorem kJ{n k:Int}(z:-128≤n∧n≤127)(y:1≤k∧k≤1000):∃ m,0≤m∧m<k∧bF tab.get 100 [i8v n,vi k]=Eq (vi m):=by
 obtain⟨g,⟨m,q,s,rfl⟩,v⟩:∃ g,(∃ m,0≤m∧m<k∧g=vi m)∧bF tab.get 100 [i8v n,vi k] g:=by
  refine cA rfl rfl fun Q l=>?_;apply ai;simp;have x:=aO (n:=n);have hr:bM .rem (vi n) (vi k)=aa (vi (n.tmod k)):=mI (by omega);have u:-k<n.tmod k∧n.tmod k<k:=by
   rcases Int.le_total 0 n with h | h
   ·rw [ark h];have:=aq5 n (show k≠0 by omega);have:=aq6 n (show 0<k by omega);omega
   ·have:n = -(-n):=by omega
    rw [this,Int.neg_tmod,ark (by omega)];have:=aq5 (-n) (show k≠0 by omega);have:=aq6 (-n) (show 0<k by omega);omega
  apply ai;simp [x,hr];obtain⟨r,d⟩:=aT (n.tmod k);rw [←d]at u ⊢;refine an (ai ?_);simp;by_cases j:r<0
  ·have b:unV .neg (vi r)=aa (vi (-r)):=by
    show aa (V.c (.f (.int .i64 (ah .i64 (0-r)))))=_;rw [aO,Int.zero_sub]
   refine al (by simp [j]) (ai ?_);simp [b];exact aH (l _ _ _ ⟨-r,by omega,by omega,rfl⟩ (by simp))
  ·refine a5 (by simp [j]) ?_;apply ai;simp;exact aH (l _ _ _ ⟨r,by omega,by omega,rfl⟩ (by simp))
 exact⟨m,q,s,v.eq⟩
theorem wX(l:List Int)(v:Int):ints (l++[v])=ints l++[[fi v]]:=by simp [ints]
structure s0(lo x:Int)(zero:Bool)(li:List Int):Prop where
 pw:li.Pairwise (· < ·)
 bd:∀ v ∈ li,lo≤v∧v<x∧(zero=ag→v≠0)
theorem s0.snoc{lo x:Int}{zero:Bool}{li:List Int}(h:s0 lo x zero li)(l:lo≤x)(m:zero=ag→x≠0):s0 lo (x+1) zero (li++[x]):=by
 refine⟨List.pairwise_append.2 ⟨h.pw,arL _ _,fun a j b g=>?_⟩,fun v d=>?_⟩
 ·simp at g;subst g;exact(h.bd a j).2.1
 ·rcases aq4.1 d with d | d
  ·have:=h.bd v d;exact⟨this.1,by omega,this.2.2⟩
  ·simp at d;subst d;exact⟨l,by omega,m⟩
theorem s0.skip{lo x:Int}{zero:Bool}{li:List Int}(h:s0 lo x zero li):s0 lo (x+1) zero li:=⟨h.pw,fun v b=>by have:=h.bd v b;exact⟨this.1,by omega,this.2.2⟩⟩
theorem WQ{lo:Int}:∀ {n:Nat} {li:List Int},li.Pairwise (· < ·)→(∀ v ∈ li,lo≤v∧v<lo+n)→li.length≤n
 | 0,li,_,b=>by
  cases li with
  | nil=>exact IT _| cons v li=>have:=b v aqK;omega
 | n+1,li,g,b=>by
  rcases List.eq_nil_or_concat li with rfl | ⟨l,v,rfl⟩
  ·simp
  ·rw [List.concat_eq_append]at g b ⊢;have d:=List.pairwise_append.1 g;have s:=b v (by simp);have:=WQ (lo:=lo) (n:=n) (li:=l) d.1 fun w j=>by
    have m:=b w (List.mem_append_left _ j);have q:=d.2.2 w j v (by simp);omega
   simp;omega
theorem kQ(g:Tg)(l:List Nat)(e_:l.length≤9223372036854775807)(c9:∀ n ∈ l,n<256){lo hi:Int}(h1:-1000≤lo)(h2:lo≤hi)(h3:hi≤1000)(d:Bool)(hz:d=ag→hi≠0) :
  ∃ H li,JB li lo hi d∧li.length≤(hi-lo+1).toNat∧bF tab.get 101 [.c (.f (sl g (dj l))),vi lo,vi hi,vb d]=Eq (.c (.f (sl H (ints li)))):=by
 obtain⟨rr,⟨H,li,hr,hl,rfl⟩,hp⟩:∃ rr,(∃ H li,JB li lo hi d∧li.length≤(hi-lo+1).toNat∧rr=.c (.f (sl H (ints li))))∧bF tab.get 101 [.c (.f (sl g (dj l))),vi lo,vi hi,vb d] rr:=by
  refine cA rfl rfl fun Q hQ=>?_;apply ai;simp;apply ai;simp;refine an (ai ?_);simp;refine aC ?_;refine bD (fun n s=>∃(x:Int) (li:List Int) (c:C) (t:T) (J:aj),s=⟨t,[],J⟩∧lo≤x∧x≤hi+1∧n=(hi+1-x).toNat∧s0 lo x d li∧LR J c 1 (ints li)∧t.g 0=.c (.f (sl g (dj l)))∧t.g 1=vi lo∧t.g 2=vi hi∧t.g 3=vb d∧t.g 9=.c c∧t.g 10=vi x) (hi+1-lo).toNat
   ⟨lo,[],.f .es,_,[],rfl,arK _,by omega,rfl,⟨List.Pairwise.nil,by simp⟩,.inl ⟨rfl,.inr rfl⟩,by simp,by simp,by simp,by simp,by simp,by simp⟩ ?_
  rintro n s ⟨x,li,c,t,J,rfl,d8,f9,rfl,Y,M,u,B,y,A,m,g10⟩ ih;have d_:li.length≤(x-lo).toNat:=WQ (lo:=lo) Y.pw fun v X=>by have:=Y.bd v X;omega
  refine an (ai ?_);simp [g10,y];by_cases hx:x≤hi
  case neg=>
   refine ak (by simp [hx]) ?_;refine bp (k':=[.code nV]) rfl ?_;have c_:=M.len;have a8:∀(t:T) (J:aj) (c:C) (li:List Int),JB li lo hi d→li.length≤(hi-lo+1).toNat→LR J c 1 (ints li)→t.g 9=.c c→WP tab.get 101 ab [.code Aa] ⟨t,[],J⟩ Q:=by
    intro t J c li hr hl M m;obtain⟨H,hx⟩:=M.ex (eQ _) 63;have d6:da deep J c=aa (sl H (ints li)):=hx;apply ai;simp [m];refine aH (hQ _ _ _ ⟨H,li,hr,hl,rfl⟩ ⟨rfl,.c c,?_,?_⟩)
    ·simp [Km.results,bJ,bj]
    ·simp [iI,cg,d6]
   refine an (ai ?_);simp [m,c_];by_cases h0:li=[]
   ·subst h0;obtain⟨Z,z⟩:=aT (J++[.box ([fi hi].map .f) 0]:aj);have S:LR Z c 1 (ints []):=by rw [z];exact M.push _
    have U:Z[J.length]?=aa (.box ([fi hi].map .f) 0):=by rw [z];simp
    obtain⟨c',H',E,O,b7,b9⟩:=S.app (eQ _) (by decide) (row:=[fi hi]) rfl (bytes:=8) (by decide) U;simp only [ao1,aqD]at z;refine al (by simp) (aq (.inl rfl) ?_);simp [m,y];rw [←z];simp [E];have hr:JB [hi] lo hi d:=⟨by simp,arL _ _,fun v X=>by simp at X;subst X;exact⟨h2,arK _,hz⟩⟩
    exact a8 _ _ c' [hi] hr (by simp;omega) (by simpa [ints]using O) (by simp)
   ·refine a5 (by simp [h0]) ?_;have hr:JB li lo hi d:=⟨h0,Y.pw,fun v X=>by have:=Y.bd v X;exact⟨this.1,by omega,this.2.2⟩⟩
    exact a8 _ _ c li hr (by omega) M (by simp [m])
  refine al (by simp [hx]) (aM ?_);refine an (aC (ai ?_));simp;have a9:=aO (n:=x+1);refine an (ai ?_);simp;obtain⟨N,hN⟩:=aT (min l.length 4);refine cw N (fun i t K=>K=J∧t.g 0=.c (.f (sl g (dj l)))∧t.g 1=vi lo∧t.g 2=vi hi∧t.g 3=vb d∧t.g 9=.c c∧t.g 10=vi x∧∃ b,t.g 11=vb b) (by omega) (by decide) (by simp)
   ⟨rfl,by simp [u],by simp [B],by simp [y],by simp [A],by simp [m],by simp [g10],ag,by simp⟩ ?_ ?_ ?_
  ·rintro i t K L b_ ⟨rfl,u,B,y,A,m,g10,b,j⟩ F hn;by_cases c1:(i:Int)<l.length
   ·simp [F,u,c1];exact hn _ ⟨rfl,by simp [u],by simp [B],by simp [y],by simp [A],by simp [m],by simp [g10],b,by simp [j]⟩ (by simp [F]) (by simp;omega)
   ·simp [F,u,c1];exact hn _ ⟨rfl,by simp [u],by simp [B],by simp [y],by simp [A],by simp [m],by simp [g10],b,by simp [j]⟩ (by simp [F]) (by simp;omega)
  ·rintro i t K b_ ⟨rfl,u,B,y,A,m,g10,b,j⟩ F nx;have W:i<l.length:=by omega
   have X:=c9 _ (OF W);refine aC (aq (.inl rfl) ?_);cases b
   ·have w1:ah .i64 (l[i]:Int)=l[i]:=aO;have w2:=aO (n:=hi-lo);have w3:=aO (n:=hi-lo+1);have w4:=nK (a:=(l[i]:Int)) (b:=hi-lo+1) (by omega) (by omega);simp [j,B,u,F,qq W,tO W,w1,y,w2,w3,w4,g10];refine aA (nx _ _ ⟨rfl,by simp [u],by simp [B],by simp [y],by simp [A],by simp [m],by simp [g10],_,by simp;rfl⟩ (by simp [F]))
   ·simp [j];refine aA (nx _ _ ⟨rfl,by simp [u],by simp [B],by simp [y],by simp [A],by simp [m],by simp [g10],ae,by simp⟩ (by simp [F]))
  ·rintro t K ⟨rfl,u,B,y,A,m,g10,b,j⟩ F;have no:∀ t:T,t.g 0=.c (.f (sl g (dj l)))→t.g 1=vi lo→t.g 2=vi hi→t.g 3=vb d→t.g 9=.c c→t.g 10=vi x→t.g 54=vb ag →
     WP tab.get 101 ab [.code sN,.inBlock 1,.code sO,.inLoop xK,.inBlock 0,.code nV] ⟨t,[],K⟩ Q:=by
    intro t u B y A m g10 I;refine ak I (aM (aA (aq (.inl rfl) ?_)));simp [g10,a9];exact ih (hi+1-(x+1)).toNat _ (by omega) ⟨x+1,li,c,_,_,rfl,by omega,by omega,rfl,Y.skip,M,by simp [u],by simp [B],by simp [y],by simp [A],by simp [m],by simp⟩
   have a_:(d=ag→x≠0)→∀ t:T,t.g 0=.c (.f (sl g (dj l)))→t.g 1=vi lo→t.g 2=vi hi→t.g 3=vb d→t.g 9=.c c→t.g 10=vi x→t.g 54=vb ae →
     WP tab.get 101 ab [.code sN,.inBlock 1,.code sO,.inLoop xK,.inBlock 0,.code nV] ⟨t,[],K⟩ Q:=by
    intro d9 t u B y A m g10 I;obtain⟨Z,z⟩:=aT (K++[.box ([fi x].map .f) 0]:aj);have S:LR Z c 1 (ints li):=by rw [z];exact M.push _
    have U:Z[K.length]?=aa (.box ([fi x].map .f) 0):=by rw [z];simp
    obtain⟨c',H',E,O,b7,b9⟩:=S.app (eQ _) (by decide) (row:=[fi x]) rfl (bytes:=8) (cO (by simp;omega) (by decide)) U;simp only [ao1,aqD]at z;refine al I (aq (.inl rfl) ?_);simp [m,g10];rw [←z];simp [E];refine aA (aq (.inl rfl) ?_);simp [g10,a9];exact ih (hi+1-(x+1)).toNat _ (by omega) ⟨x+1,li++[x],c',_,_,rfl,by omega,by omega,rfl,Y.snoc d8 d9,by rw [wX];exact O,by simp [u],by simp [B],by simp [y],by simp [A],by simp,by simp⟩
   apply ai;cases b
   ·simp [j];exact no _ (by simp [u]) (by simp [B]) (by simp [y]) (by simp [A]) (by simp [m]) (by simp [g10]) (by simp)
   ·by_cases q:x=0
    ·cases d
     ·simp [j,g10,q,A];exact no _ (by simp [u]) (by simp [B]) (by simp [y]) (by simp [A]) (by simp [m]) (by simp [g10,q]) (by simp)
     ·simp [j,g10,q,A];exact a_ (fun e=>by cases e) _ (by simp [u]) (by simp [B]) (by simp [y]) (by simp [A]) (by simp [m]) (by simp [g10,q]) (by simp)
    ·simp [j,g10,q];exact a_ (fun _=>q) _ (by simp [u]) (by simp [B]) (by simp [y]) (by simp [A]) (by simp [m]) (by simp [g10]) (by simp)
 exact⟨H,li,hr,hl,hp.eq⟩
def eT:List C:=[.f (fi 0),.f (fi 0),.f (fi 0),.f (fi 0),.f (fi 0),.f (fi 0),.f .aE,.f (.str ⟨#[]⟩)]
theorem vr(l:List aN)(x:aN):aG (l++[x])=aG l++[x.row]:=by simp [aG]
theorem oJ{H:aj}{b d:Nat}{x:aN}(g:H[b]?=aa (.box (x.row.map .f) d)) :
  aX H ab (.c (.ptr b 0 0))=aa (vi x.d.k)∧aX H ab (.c (.ptr b 1 0))=aa (vi x.d.dW)∧aX H ab (.c (.ptr b 2 0))=aa (vi x.d.l)∧aX H ab (.c (.ptr b 3 0))=aa (vi x.d.r) ∧
  aX H ab (.c (.ptr b 4 0))=aa (vi x.d.n)∧aX H ab (.c (.ptr b 5 0))=aa (vi x.d.m)∧aX H ab (.c (.ptr b 6 0))=aa (.c (.f (sl x.tg (ints x.d.li))))∧aX H (aa 8) (.c (.ptr b 0 0))=aa (.a (x.row.map .f)):=by
 refine⟨?_,?_,?_,?_,?_,?_,?_,?_⟩<;>simp [aX,g,aF,aI,aN.row]
theorem iS(x:aN)(c9:x.d.li.length≤61):∃ U,bF tab.get 72 [.a (x.row.map .f)]=Eq (.a ((aN.row ⟨x.d,U⟩).map .f)):=by
 obtain⟨rr,⟨U,rfl⟩,hp⟩:∃ rr,(∃ U,rr=.a ((aN.row ⟨x.d,U⟩).map .f))∧bF tab.get 72 [.a (x.row.map .f)] rr:=by
  refine cA rfl rfl fun Q hQ=>?_;apply ai;simp;obtain⟨H,E⟩:=aT ([.box (x.row.map .f) 0,.box eT 0]:aj);have b0:H[0]?=aa (.box (x.row.map .f) 0):=by rw [E];rfl
  have b1:H[1]?=aa (.box eT 0):=by rw [E];rfl
  have hl:H.length=2:=by rw [E];rfl
  simp only [eT]at E;rw [←E];clear E;apply ai;simp;refine an (ai ?_);simp;refine cw x.d.li.length (fun j t K=>∃ c,t.g 1=.c (.ptr 0 0 0)∧t.g 2=.c (.ptr 1 0 0)∧t.g 3=.c c∧LR K c 1 (ints (x.d.li.take j))∧Kb H K (.f .es)∧(∀ b,bf c=aa b→2≤b)) (by omega) (by decide) (by simp)
   ⟨.f .es,by simp,by simp,by simp,.inl ⟨rfl,.inr rfl⟩,Kb.refl _ _,by simp [bf]⟩ ?_ ?_ ?_
  ·rintro j t K L hj ⟨c,u,B,J,q,d,l⟩ F I;obtain⟨-,-,-,-,-,-,Z,-⟩:=oJ (d.2 0 _ b0 (by simp [bf]));simp [F,u,Z,-au];exact I _ ⟨c,by simp [u],by simp [B],by simp [J],q,d,l⟩ (by simp [F]) (by simp)
  ·rintro j t K hj ⟨c,u,B,J,q,d,l⟩ F nx;obtain⟨-,-,-,-,-,-,Z,-⟩:=oJ (d.2 0 _ b0 (by simp [bf]));have w:∀ H,aL H 1 ab (.c (.f (sl x.tg (ints x.d.li)))) (vi j)=aa (.c (.f (.fp (ints x.d.li).flatten j))):=fun H=>by
    have:=dg (H:=H) (g:=x.tg) (rows:=ints x.d.li) (sz:=1) (k:=.i64) (i:=(j:Int)) (by omega) (by simp;omega);simpa using this
   obtain⟨v,hv⟩:=aT (x.d.li[j]);have a8:aX K ab (.c (.f (.fp (ints x.d.li).flatten j)))=aa (vi v):=by rw [hv];exact iW hj
   obtain⟨X,m⟩:=aT (K++[.box ([fi v].map .f) 0]:aj);have h:LR X c 1 (ints (x.d.li.take j)):=by rw [m];exact q.push _
   have o:X[K.length]?=aa (.box ([fi v].map .f) 0):=by rw [m];simp
   obtain⟨c',H',N,f,M,p⟩:=h.app (eQ _) (by decide) (row:=[fi v]) rfl (bytes:=8) (cO (by simp;omega) (by decide)) o;simp only [ao1,aqD]at m;refine aC (aq (.inl rfl) ?_);simp [u,J,Z,-au,F,w,a8];rw [←m];simp [N];have a:Kb H X (.f .es):=by
    refine⟨by have:=d.1;rw [m];simp;omega,fun i y O I=>?_⟩;rw [m,AI (aw (d.2 i y O I))];exact d.2 i y O I
   refine aA ?_;refine nx _ _ ⟨c',by simp [u],by simp [B],by simp,?_,?_,?_⟩ (by simp [F])
   ·rw [aqC hj,←hv,wX];exact f
   ·refine⟨Nat.le_trans a.1 M.1,fun i y O I=>M.2 i y (a.2 i y O I) fun e=>?_⟩;have:=l i e;have:=aw O;omega
   ·intro b hb;rcases p with e | e
    ·exact l b (by rw [←e];exact hb)
    ·rw [hb]at e;cases e;have:=a.1;omega
  ·rintro t K ⟨c,u,B,J,q,d,l⟩ F;rw [aqX]at q;have k0:=d.2 0 _ b0 (by simp [bf]);have k1:=d.2 1 _ b1 (by simp [bf]);have b9:df K (.ptr 0 6 0) [c]=aa (K.set 0 (.box (x.dA c) 0)):=by simp [df,k0,aN.row,aN.dA,over]
   obtain⟨A,s⟩:=aT (K.set 0 (.box (x.dA c) 0):aj);have a_:A[0]?=aa (.box (x.dA c) 0):=by rw [s];exact IS (aw k0)
   have S:A[1]?=aa (.box eT 0):=by rw [s,AT (by decide)];exact k1
   have e8:aX A (aa 8) (.c (.ptr 0 0 0))=aa (.a (x.dA c)):=by simp [aX,a_,aF,aI,aN.dA]
   have b_:df A (.ptr 1 0 0) (x.dA c)=aa (A.set 1 (.box (x.dA c) 0)):=by simp [df,S,over,eT,aN.dA]
   obtain⟨W,z⟩:=aT (A.set 1 (.box (x.dA c) 0):aj);have b7:W[1]?=aa (.box (x.dA c) 0):=by rw [z];exact IS (aw S)
   have n:LR W c 1 (ints x.d.li):=by
    rw [z,s];exact(q.set (fun e=>by have:=l 0 e;omega) _).set (fun e=>by have:=l 1 e;omega) _
   have r:(x.dA c).length=8:=rfl;obtain⟨g',hx⟩:=n.ex (eQ _) 63;have a9:da deep W c=aa (sl g' (ints x.d.li)):=hx;have Y:aX W (aa 8) (.c (.ptr 1 0 0))=aa (.a (x.dA c)):=by simp [aX,b7,aF,aI,aN.dA]
   apply ai;simp [u,J,b9,-bu];rw [←s];apply ai;simp [u,B,e8,b_,-bu,-au,r];rw [←z];refine aH (hQ _ _ _ ⟨g',rfl⟩ ⟨rfl,.a (x.dA c),?_,?_⟩)
   ·simp [Km.results,bJ,bj,B,Y,-au]
   ·simp [iI,cg,bj,aN.dA,a9,aN.row]
 exact⟨U,hp.eq⟩
def BW(d n:Nat):List Int:=(List.range n).map fun k:Nat=>((d+k:Nat):Int)
@[simp] theorem alT (d n:Nat):(BW d n).length=n:=by simp [BW]
theorem acL{d n k:Nat}(h:k<n):(BW d n)[k]'(by simpa using h)=((d+k:Nat):Int):=by simp [BW]
theorem WJ(d n:Nat):BW d (n+1)=BW d n++[((d+n:Nat):Int)]:=by simp [BW,List.range_succ]
theorem Fe{H:aj}{g:Tg}{d n:Nat}{k:Int}(b:0≤k)(m:k<n)(q:n≤1000):aL H 1 ab (.c (.f (sl g (ints (BW d n))))) (vi k)=aa (.c (.f (.fp (ints (BW d n)).flatten k.toNat))) ∧
  aX H ab (.c (.f (.fp (ints (BW d n)).flatten k.toNat)))=aa (vi (k+d)):=by
 constructor
 ·have:=dg (H:=H) (g:=g) (rows:=ints (BW d n)) (sz:=1) (k:=.i64) (i:=k) (by omega) (by simp;omega);simpa using this
 ·have:=iW (j:=k.toNat) (l:=BW d n) (by simp;omega) (H:=H);rw [acL (by omega)]at this;rw [this]
  congr 4
  omega
theorem Kw(x:aN){i:Nat}(M:kz i x.d)(hi:i≤100)(g:Tg)(d:Nat) :
  ∃ j,bF tab.get 102 [.a (x.row.map .f),.c (.f (sl g (ints (BW d (i+1)))))]=Eq (.a ((aN.row ⟨x.d.shift d,j⟩).map .f)):=by
 obtain⟨X,⟨j,rfl⟩,e⟩:∃ X,(∃ j,X=.a ((aN.row ⟨x.d.shift d,j⟩).map .f))∧bF tab.get 102 [.a (x.row.map .f),.c (.f (sl g (ints (BW d (i+1)))))] X:=by
  obtain⟨j,q⟩:=iS x M.ok.1;have v:=mu M.ok;have K:=mR x.d.k;obtain⟨⟨k,b,l,r,n,m,li⟩,f⟩:=x;simp only at q v K;have z:=M.l1;have A:=M.r2;simp only at z A;refine cA rfl rfl fun Q S=>?_;have Y:∀ j,aN.row ⟨bA.shift d ⟨k,b,l,r,n,m,li⟩,j⟩=aN.row ⟨⟨k,b,if 1≤dD k then l+d else l,if dD k=2 then r+d else r,n,m,li⟩,j⟩:=fun j=>rfl;simp only [Y]at S;apply ai;simp [aN.row];apply ai;simp only [aN.row,ao1,aqD]at q;simp [q];obtain⟨y,h⟩:=aT (⟨⟨k,b,l,r,n,m,li⟩,j⟩:aN);apply ai;simp [v];obtain⟨o,c⟩:=aT (dD k);rw [←c]at S z A K ⊢;have F:∀(t:T) (s r':Int) ,t.g 2=.c (.ptr 0 0 0)→t.g 4=.c (.ptr 1 0 0)→s=(if 1≤o then l+d else l)→r'=(if o=2 then r+d else r) →
    WP tab.get 102 ab [.code zR] ⟨t,[],[.box ((aN.row ⟨⟨k,b,s,r',n,m,li⟩,j⟩).map .f) 0,.box eT 0]⟩ Q:=by
   intro t s r' I J N hr;apply ai;simp [I,J,aN.row,eT];refine aH (S _ _ _ ⟨j,rfl⟩ ⟨rfl,.a ((aN.row ⟨⟨k,b,s,r',n,m,li⟩,j⟩).map .f),?_,?_⟩)
   ·simp [Km.results,bJ,bj,J,aN.row,aI]
   ·simp [iI,cg,aN.row,bj,N,hr]
  have u:∀(t:T) (s:Int) ,t.g 1=.c (.f (sl g (ints (BW d (i+1)))))→t.g 2=.c (.ptr 0 0 0)→t.g 4=.c (.ptr 1 0 0)→t.g 5=vi o→s=(if 1≤o then l+d else l) →
    WP tab.get 102 ab [.code zQ] ⟨t,[],[.box ((aN.row ⟨⟨k,b,s,r,n,m,li⟩,j⟩).map .f) 0,.box eT 0]⟩ Q:=by
   intro t s Z I J a N;refine an (ai ?_);simp [a];by_cases L:o=2
   ·have W:=A L;obtain⟨B,E⟩:=Fe (H:=[.box ((aN.row ⟨⟨k,b,s,r,n,m,li⟩,j⟩).map .f) 0,.box eT 0]) (g:=g) (d:=d) (n:=i+1) (k:=r) W.1 (by omega) (by omega);simp only [aN.row,ao1,aqD]at B E;refine al (by simp [L]) (aq (.inl rfl) ?_);simp [Z,I,aN.row,B,E];exact F _ s (r+d) (by simp [I]) (by simp [J]) N (by rw [bh L])
   ·refine ak (by simp;omega) (aM ?_);exact F _ s r (by simp [I]) (by simp [J]) N (by rw [aY L])
  refine an (ai ?_);simp;by_cases O:1≤o
  ·have U:=z O;obtain⟨B,E⟩:=Fe (H:=[.box ((aN.row ⟨⟨k,b,l,r,n,m,li⟩,j⟩).map .f) 0,.box eT 0]) (g:=g) (d:=d) (n:=i+1) (k:=l) U.1 (by omega) (by omega);simp only [aN.row,eT,ao1,aqD]at B E;refine al (by simp;omega) (aq (.inl rfl) ?_);simp [aN.row,B,E];exact u _ (l+d) (by simp) (by simp) (by simp) (by simp) (by rw [bh O])
  ·refine ak (by simp;omega) (aM ?_);exact u _ l (by simp) (by simp) (by simp) (by simp) (by rw [aY O])
 exact⟨j,e.eq⟩
def LiB(r:List aN):Prop:=∀ x ∈ r,x.d.li.length≤61
theorem mq{J:aj}{c:C}{l:List aN}(u:LR J c 8 (aG l))(v:l.length≤1000)(x:aN) :
  ∃ b H',bX (J++[.box (x.row.map .f) 0]) 8 88 (.c c) (.c (.sl J.length 0 1 1 0 8))=aa (.c b,H')∧LR H' b 8 (aG (l++[x]))∧Kb (J++[.box (x.row.map .f) 0]) H' c∧(bf b=bf c∨bf b=aa (J.length+1)):=by
 have q:=u.push [.box (x.row.map .f) 0];have s:(J++[.box (x.row.map .f) 0])[J.length]?=aa (.box (x.row.map .f) 0):=by simp
 obtain⟨b,H',d,m,j,g⟩:=q.app (dO _) (by decide) (row:=x.row) rfl (bytes:=88) (cO (by simp;omega) (by decide)) s;rw [List.length_append,List.length_singleton]at g;exact⟨b,H',d,by rw [vr];exact m,j,g⟩
theorem Xr(y:aN)(hy:y.d.li.length≤61)(g:Tg){r:List aN}(hr:r.length≤60)(w:LiB r) :
  ∃ s I,dB I=dB r++[⟨y.d.k,y.d.dW,(r.length:Int)-1,y.d.r,y.d.n,y.d.m,y.d.li⟩]∧bF tab.get 38 [.a (y.row.map .f),.c (.f (sl g (aG r)))]=Eq (.c (.f (sl s (aG I)))):=by
 obtain⟨h,⟨s,I,d,rfl⟩,hp⟩:∃ h,(∃ s I,dB I=dB r++[⟨y.d.k,y.d.dW,(r.length:Int)-1,y.d.r,y.d.n,y.d.m,y.d.li⟩]∧h=.c (.f (sl s (aG I))))∧bF tab.get 38 [.a (y.row.map .f),.c (.f (sl g (aG r)))] h:=by
  refine cA rfl rfl fun Q p=>?_;apply ai;simp;obtain⟨H,X⟩:=aT ([.box (y.row.map .f) 0]:aj);have b0:H[0]?=aa (.box (y.row.map .f) 0):=by rw [X];rfl
  have hl:H.length=1:=by rw [X];rfl
  rw [←X];clear X;apply ai;simp;refine an (ai ?_);simp;refine cw r.length (fun j t K=>∃ c l,t.g 1=.c (.f (sl g (aG r)))∧t.g 2=.c (.ptr 0 0 0)∧t.g 5=.c c∧LR K c 8 (aG l)∧dB l=dB (r.take j)∧K[0]?=aa (.box (y.row.map .f) 0)) (by omega) (by decide) (by simp)
   ⟨.f .es,[],by simp,by simp,by simp,.inl ⟨rfl,.inr rfl⟩,by simp,b0⟩ ?_ ?_ ?_
  ·rintro j t K L S ⟨c,l,z,J,N,b,d,b0⟩ M hn;simp [M,z];exact hn _ ⟨c,l,by simp [z],by simp [J],by simp [N],b,d,b0⟩ (by simp [M]) (by simp)
  ·rintro j t K S ⟨c,l,z,J,N,b,d,b0⟩ M nx;obtain⟨x,U⟩:=aT (r[j]);obtain⟨u,q⟩:=iS x (by rw [U];exact w _ (OF S));have a:l.length=j:=by have:=congrArg List.length d;simp at this;omega
   obtain⟨W,H',m,B,O,Z⟩:=mq b (by omega) ⟨x.d,u⟩;have E:((aN.row ⟨x.d,u⟩).map C.f).length=8:=rfl;refine aC (aq (.inl rfl) ?_);simp [z,N,M,dS S (by omega),iu S,←U,q,E,m];refine aA ?_;refine nx _ _ ⟨W,l++[⟨x.d,u⟩],by simp [z],by simp [J],by simp,B,?_,?_⟩ (by simp [M])
   ·rw [aqC S,←U];simp only [dB,art,ao1,aqD]at d ⊢;rw [d]
   ·exact O.2 0 _ (by rw [AI (aw b0)];exact b0) (b.cY b0)
  ·rintro t K ⟨c,l,z,J,N,b,d,b0⟩ M;rw [aqX]at d;have a:l.length=r.length:=by have:=congrArg List.length d;simpa using this
   obtain⟨v,F⟩:=aT (⟨⟨y.d.k,y.d.dW,(r.length:Int)-1,y.d.r,y.d.n,y.d.m,y.d.li⟩,y.tg⟩:aN);have i:df K (.ptr 0 2 0) [.f (fi ((r.length:Int)-1))]=aa (K.set 0 (.box (v.row.map .f) 0)):=by simp [df,b0,over,aN.row,F]
   obtain⟨k,A⟩:=aT (K.set 0 (.box (v.row.map .f) 0):aj);have f:k[0]?=aa (.box (v.row.map .f) 0):=by rw [A];exact IS (aw b0)
   have Y:LR k c 8 (aG l):=by rw [A];exact b.set (b.cY b0) _
   obtain⟨-,-,-,-,-,-,-,o⟩:=oJ f;obtain⟨u,q⟩:=iS v (by rw [F];exact hy);obtain⟨W,H',m,B,O,Z⟩:=mq Y (by omega) ⟨v.d,u⟩;have E:((aN.row ⟨v.d,u⟩).map C.f).length=8:=rfl;obtain⟨s,U⟩:=B.ex (dO _) 63;have e:da deep H' W=aa (sl s (aG (l++[⟨v.d,u⟩]))):=U;apply ai;simp [z,J,aO (n:=(r.length:Int)-1),i,-bu];rw [←A];apply ai;simp [N,J,o,-au,q,E,m];refine aH (p _ _ _ ⟨s,l++[⟨v.d,u⟩],?_,rfl⟩ ⟨rfl,.c W,?_,?_⟩)
   ·simp only [dB,art,ao1,aqD]at d ⊢;rw [d,F]
   ·simp [Km.results,bJ,bj]
   ·simp [iI,cg,e]
 exact⟨s,I,d,hp.eq⟩
section
variable{J:aj}{x:gO}
theorem FU(h:J[0]?=aa (.box (x.row.map .f) 0)):aX J ab (.c (.ptr 0 1 0))=aa (.c (.f (sl x.gg (dj x.rV)))):=by simp [aX,aF,h,aI,gO.row]
theorem FW(h:J[0]?=aa (.box (x.row.map .f) 0)):aX J ab (.c (.ptr 0 2 0))=aa (.c (.f (sl x.og (dj x.yV)))):=by simp [aX,aF,h,aI,gO.row]
theorem ak7(h:J[0]?=aa (.box (x.row.map .f) 0)):aX J ab (.c (.ptr 0 3 0))=aa (.c (.f (u8 x.be))):=by simp [aX,aF,h,aI,gO.row]
theorem B9(h:J[0]?=aa (.box (x.row.map .f) 0)):aX J ab (.c (.ptr 0 13 0))=aa (vb x.rules):=by simp [aX,aF,h,aI,gO.row]
theorem aoA(h:J[0]?=aa (.box (x.row.map .f) 0)){k:Nat}(b:k<2):aX J (aa 4) (.c (.ptr 0 (4+k*4) 0))=aa (.a [.f (u8 (x.y k 0)),.f (u8 (x.y k 1)),.f (u8 (x.y k 2)),.f (u8 (x.y k 3))]):=by
 have:k=0∨k=1:=by omega
 rcases this with rfl | rfl<;>simp [aX,aF,h,aI,gO.row]
end
theorem ft.ak3{c:Nat}{s h:Int}{tr:List bI}{yr:List ey}{tg b yg d:Tg}{o:List bI}(k:ft ⟨c,s,tg,tr,h,yg,yr⟩ o):ft ⟨c,s,b,tr,h,d,yr⟩ o:=⟨k.c,k.st,k.tl,k.tb,k.ts,k.ho,k.y⟩
structure ZI(x:gO)(cs:List C)(c:Nat)(s h:Int)(tr:List bI)(ct:C)(yr:List ey)(cy:C)(t:T)(J:aj):Prop where
 raw:J[0]?=aa (.box (x.row.map .f) 0)
 res:J[1]?=aa (.box [.f (fi 0),.f .aE,.f (fi 0),.f .aE,.f (fi 0),.f .aE,.f (fi 0),.f .aE] 0)
 dW:gN J cs c
 zb:J[3]?=aa (mF cs s ct h cy)
 lt:LR J ct 2 (aR tr)
 ly:LR J cy 5 (bO yr)
 ne:∀ i,bf ct=aa i→bf cy≠aa i
 g1:t.g 1=.c (.ptr 0 0 0)
 g2:t.g 2=.c (.ptr 1 0 0)
 g3:t.g 3=.c (.ptr 3 0 0)
def EO(H:aj)(c:C)(sz:Nat)(rows:List (List FC)):Prop:=(rows=[]∧(c=.f .aE∨c=.f .es))∨(rows≠[]∧∃ b d g,c=.sl b 0 rows.length 0 d sz∧H[b]?=aa (.bG sz (rows.flatten.map .f) g d .loc))
section
variable{H H':aj}{c:C}{sz:Nat}{rows:List (List FC)}
theorem EO.of(h:LR H c sz rows):EO H c sz rows:=by
 rcases h with h | ⟨h,b,d,g,j⟩
 ·exact .inl h
 ·exact .inr ⟨h,b,d,0,g,j⟩
theorem EO.exU(h:EO H c sz rows)(j:bL sz rows):∃ g,∀(H':aj) (n:Nat),EO H' c sz rows→da (n+1) H' c=aa (sl g rows):=by
 by_cases hr:rows=[]
 ·rcases h with⟨rfl,rfl | rfl⟩ | ⟨h,_⟩
  ·exact⟨.nil,fun _ _ _=>rfl⟩
  ·exact⟨.es,fun _ _ _=>rfl⟩
  ·exact absurd hr h
 ·refine⟨.fs,fun H' n m=>?_⟩;rcases m with⟨h,_⟩ | ⟨_,b,s,u,rfl,d⟩
  ·exact absurd h hr
  have q:rows.length*sz=rows.flatten.length:=(eE j).symm;simp only [lf,d];rw [bh ⟨trivial,trivial,by rw [aq3,aq8,q];exact IT _⟩,List.drop_zero,aqI (by rw [aq3];omega),qz];cases rows with
  | nil=>exact absurd rfl hr| cons x l=>simp [sl]
theorem EO.bY(h:EO H c sz rows)(v:∀(i s:Nat) (l:List C) (j g:Nat) (st:Km.Os),H[i]?=aa (.bG s l j g st)→∃ d,H'[i]?=aa (.bG s l d g st)):EO H' c sz rows:=by
 rcases h with h | ⟨h,b,g,j,m,q⟩
 ·exact .inl h
 ·obtain⟨d,u⟩:=v _ _ _ _ _ _ q;exact .inr ⟨h,b,g,d,m,u⟩
theorem EO.mk(h:EO H c sz rows):(∀(i:Nat) (l:List C) (d:Nat),H[i]?=aa (.box l d)→(iX deep c H)[i]?=aa (.box l d))∧∀(i s:Nat) (l:List C) (d g:Nat) (st:Km.Os),H[i]?=aa (.bG s l d g st)→∃ q,(iX deep c H)[i]?=aa (.bG s l q g st):=by
 rcases h with⟨_,rfl | rfl⟩ | ⟨h,b,g,d,rfl,j⟩
 ·exact⟨fun i l d h=>by simpa using h,fun i s l d g st h=>⟨d,by simpa using h⟩⟩
 ·exact⟨fun i l d h=>by simpa using h,fun i s l d g st h=>⟨d,by simpa using h⟩⟩
 ·have e:iX deep (.sl b 0 rows.length 0 g sz) H=H.set b (.bG sz (rows.flatten.map .f) (Nat.max d (0+rows.length*sz)) g .loc):=by
   simp only [deep,VT,j];rw [sk];intro x u;have u:=arH (arR u);obtain⟨m,_,rfl⟩:=aq9.1 u;exact⟨_,rfl⟩
  rw [e];refine⟨fun i l d h=>?_,fun i s l d g st h=>?_⟩
  ·rw [AT (by rintro rfl;rw [j]at h;cases h)];exact h
  ·by_cases e:b=i
   ·subst e;rw [j]at h;cases h;exact⟨_,IS (aw j)⟩
   ·rw [AT e];exact⟨d,h⟩
end
theorem DX{H:aj}{b l cp e sz g:Nat}{xs:List FC}(h:H[b]?=aa (.box (xs.map .f) g)):iX deep (.sl b 0 l cp e sz) H=H.set b (.box (xs.map .f) (Nat.max g (0+l*sz))):=by
 simp only [deep,VT,h];rw [sk];intro x d;have d:=arH (arR d);obtain⟨m,_,rfl⟩:=aq9.1 d;exact⟨_,rfl⟩
theorem gN.mk{H:aj}{cs:List C}{c:Nat}(hc:gN H cs c):gN (cs.foldl (fun H x=>iX deep x H) H) cs c∧(∀ i y,H[i]?=aa y→i≠2→i≠4→i≠5→(cs.foldl (fun H x=>iX deep x H) H)[i]?=aa y)∧(∀(i s:Nat) (l:List C) (g q:Nat) (st:Km.Os),H[i]?=aa (.bG s l g q st)→∃ u,(cs.foldl (fun H x=>iX deep x H) H)[i]?=aa (.bG s l u q st)):=by
 rcases hc with⟨rfl,rfl,g,d⟩ | ⟨k,B,rfl,rfl,⟨v,d⟩,A,j⟩
 ·have e:=DX (H:=H) (b:=2) (l:=2) (cp:=2) (e:=0) (sz:=1) (xs:=[fi 7,fi 6]) d;simp only [arx,List.foldl_nil,Fs,e];refine⟨.inl ⟨rfl,rfl,_,IS (aw d)⟩,fun i y hy j _ _=>by rw [AT (Ne.symm j)];exact hy,fun i s l g q st h=>⟨g,?_⟩⟩;rw [AT (by rintro rfl;rw [d]at h;cases h)];exact h
 ·have e:=DX (H:=H) (b:=4) (l:=2) (cp:=2) (e:=0) (sz:=1) (xs:=[fi 7,fi 8]) d;simp only [arx,List.foldl_nil,Fs,e];have m:(H.set 4 (.box ([fi 7,fi 8].map .f) (Nat.max v (0+2*1))))[5]?=aa (.box ([fi 2,fi k,.bool ae].map .f) A):=by rw [AT (by decide)];exact j
  have z:=DX (l:=1) (cp:=1) (e:=0) (sz:=3) m;rw [z];refine⟨.inr ⟨k,B,rfl,rfl,⟨Nat.max v (0+2*1),?_⟩,_,IS (aw m)⟩,fun i y hy j E F=>?_,fun i s l g q st h=>⟨g,?_⟩⟩
  ·rw [AT (by decide),IS (aw d)];rfl
  ·rw [AT (Ne.symm F),AT (Ne.symm E)];exact hy
  ·rw [AT (by rintro rfl;rw [j]at h;cases h),AT (by rintro rfl;rw [d]at h;cases h)];exact h
structure ZE(cs:List C)(c:Nat)(s h:Int)(tr:List bI)(ct:C)(yr:List ey)(cy:C)(J:aj):Prop where
 res:J[1]?=aa (.box [.f (fi 0),.f .aE,.f (fi 0),.f .aE,.f (fi 0),.f .aE,.f (fi 0),.f .aE] 0)
 dW:gN J cs c
 zb:J[3]?=aa (mF cs s ct h cy)
 lt:EO J ct 2 (aR tr)
 ly:EO J cy 5 (bO yr)
section
variable{x:gO}{cs:List C}{c:Nat}{s h:Int}{tr:List bI}{ct:C}{yr:List ey}{cy:C}{t:T}{J:aj}
theorem ZI.e(k:ZI x cs c s h tr ct yr cy t J):ZE cs c s h tr ct yr cy J:=⟨k.res,k.dW,k.zb,EO.of k.lt,EO.of k.ly⟩
theorem ZE.ex(k:ZE cs c s h tr ct yr cy J) :
  ∃ tg yg,∀ J':aj,(∀ i y,J[i]?=aa y→i≠1→J'[i]?=aa y)→bj (da 64 J') (cs++[.f (fi s),ct,.f (fi h),cy])=aa (ZD.row ⟨c,s,tg,tr,h,yg,yr⟩):=by
 obtain⟨tg,u⟩:=k.lt.exU (cq _);obtain⟨yg,hy⟩:=k.ly.exU (jB _);refine⟨tg,yg,fun J' j=>?_⟩;have hc:gN J' cs c:=k.dW.bY fun i y hy hi=>j i y hy (by omega);have ho:∀(i s:Nat) (l:List C) (d b:Nat) (st:Km.Os),J[i]?=aa (.bG s l d b st)→∃ g,J'[i]?=aa (.bG s l g b st):=fun i s l d b st h=>⟨d,j i _ h (by
  rintro rfl;rw [k.res]at h;cases h)⟩
 have m:=u J' 63 (k.lt.bY ho);have q:=hy J' 63 (k.ly.bY ho);exact gS hc.ex (by simp [bj,m,q])
theorem ZE.fin(k:ZE cs c s h tr ct yr cy J)(ho:∃ tg yg o,ft ⟨c,s,tg,tr,h,yg,yr⟩ o)
  (l:T) (j:l.g 2=.c (.ptr 1 0 0)):∃ z o J',ft z o∧df J (.ptr 1 0 0) (cs++[.f (fi s),ct,.f (fi h),cy])=aa J'∧n8 [.cell (P.nat 2) (aa 8)] (.a (z.row.map .f)) ⟨l,[],J'⟩:=by
 obtain⟨tg,yg,g⟩:=k.ex;obtain⟨u,v,o,ho⟩:=ho;obtain⟨a,b,d,e,rfl⟩:=k.dW.four;have q:df J (.ptr 1 0 0) ([a,b,d,e]++[.f (fi s),ct,.f (fi h),cy])=aa (J.set 1 (.box ([a,b,d,e]++[.f (fi s),ct,.f (fi h),cy]) 0)):=by simp [df,k.res,over]
 have m:=aw k.res;refine⟨⟨c,s,tg,tr,h,yg,yr⟩,o,_,ho.ak3,q,rfl,.a ([a,b,d,e]++[.f (fi s),ct,.f (fi h),cy]),?_,?_⟩
 ·simp [Km.results,bJ,bj,j,m,aI]
 ·have:=g (J.set 1 (.box ([a,b,d,e]++[.f (fi s),ct,.f (fi h),cy]) 0)) fun i y hy hi=>by rw [AT (by omega)];exact hy
  simp only [iI,cg,deep,this];rfl
theorem ZE.marked(k:ZE cs c s h tr ct yr cy J):ZE cs c s h tr ct yr cy (iX deep cy (iX deep ct (cs.foldl (fun H x=>iX deep x H) J))):=by
 obtain⟨z,u,v⟩:=k.dW.mk;obtain⟨B,j⟩:=aT (cs.foldl (fun H x=>iX deep x H) J);rw [←j]at z u v ⊢;have d:=k.lt.bY v;have q:=k.ly.bY v;have A:=u _ _ k.zb (by decide) (by decide) (by decide);have r1:=u _ _ k.res (by decide) (by decide) (by decide);obtain⟨a1,y⟩:=d.mk;have m:=d.bY y;have g:=q.bY y;obtain⟨b1,b2⟩:=g.mk;exact⟨b1 _ _ _ (a1 _ _ _ r1),(z.wY fun i l b h _=>⟨b,a1 i l b h⟩).wY fun i l b h _=>⟨b,b1 i l b h⟩,b1 _ _ _ (a1 _ _ _ A),m.bY b2,g.bY b2⟩
end
theorem yJ{H:aj}{c:C}{sz:Nat}{rows:List (List FC)}(h:LR H c sz rows)(b:bL sz rows):∃ g,da deep H c=aa (sl g rows):=h.ex b 63
def LM(H:aj)(c:C)(l:List Int):Prop:=(l=[]∧(c=.f .aE∨c=.f .es))∨(l≠[]∧∃ b d g,c=.sl b 0 l.length 0 d 1∧H[b]?=aa (.bG 1 (l.map cI) g d .loc)∧g≤l.length)
section
variable{H H':aj}{c:C}{l:List Int}
theorem LM.bY(h:LM H c l)(q:∀(i:Nat) (y:cS),H[i]?=aa y→bf c=aa i→H'[i]?=aa y):LM H' c l:=by
 rcases h with h | ⟨h,b,d,g,rfl,j,m⟩
 ·exact .inl h
 ·exact .inr ⟨h,b,d,g,rfl,q _ _ j rfl,m⟩
theorem LM.push(h:LM H c l)(J:aj):LM (H++J) c l:=h.bY fun i y hy _=>by rw [AI (aw hy)];exact hy
theorem LM.cY(h:LM H c l){i:Nat}{cs:List C}{d:Nat}(j:H[i]?=aa (.box cs d)):bf c≠aa i:=by
 rcases h with⟨_,rfl | rfl⟩ | ⟨_,b,m,d,rfl,g,q⟩
 ·simp [bf]
 ·simp [bf]
 ·intro e;simp [bf]at e;subst e;rw [j]at g;cases g
theorem LM.afN(h:LM H c l){g:C}{rows:List (List FC)}(hc:LR H g 8 rows):∀ i,bf g=aa i→bf c≠aa i:=by
 intro i hi d;rcases hc with⟨_,rfl | rfl⟩ | ⟨_,s,q,rfl,m⟩
 ·simp [bf]at hi
 ·simp [bf]at hi
 ·simp [bf]at hi;subst hi;unfold RB at m;rcases h with⟨_,rfl | rfl⟩ | ⟨_,b,q,u,rfl,j,v⟩
  ·simp [bf]at d
  ·simp [bf]at d
  ·simp [bf]at d;subst d;rw [m]at j;cases j
theorem LM.app(h:LM H c l)(E:l.length≤1000){v:Int}{b1 fl1:Nat}(q:H[b1]?=aa (.box [.f (fi v)] fl1)) :
  ∃ j H',bX H 1 8 (.c c) (.c (.sl b1 0 1 1 0 1))=aa (.c j,H')∧LM H' j (l++[v])∧Kb H H' c∧(bf j=bf c∨bf j=aa H.length):=by
 have g:cT H 1 (.c (.sl b1 0 1 1 0 1))=aa (1,[.f (fi v)]):=jQ q rfl;rcases h with⟨rfl,z⟩ | ⟨B,b,m,s,rfl,u,x⟩
 ·have d:bN 1 8=ae:=by decide
  refine⟨.sl H.length 0 1 0 0 1,H++[.bG 1 [.f (fi v)] 0 0 .loc],?_,.inr ⟨by simp,H.length,0,0,rfl,by simp,Nat.zero_le _⟩,⟨by simp,fun i y hy _=>by rw [AI (aw hy)];exact hy⟩,.inr rfl⟩;rcases z with rfl | rfl<;>simp [bX,g,d]
 ·have d:bN (l.length+1) 8=ae:=cO (by omega) (by decide);refine⟨.sl b 0 (l.length+1) 0 (m+1) 1,H.set b (.bG 1 (l.map cI++[.f (fi v)]) s (m+1) .loc),?_,.inr ⟨by simp,b,m+1,s,by simp,?_,by simp;omega⟩,⟨by simp,fun i y hy A=>?_⟩,.inl rfl⟩
  ·simp only [bX,g,u,and_self,if_true];rw [aY (by decide),aY (by decide),bh ⟨trivial,by simp,by simpa using x⟩,d];simp
  ·rw [IS (aw u)];simp
  ·have:b≠i:=by rintro rfl;exact A rfl
   rw [AT this];exact hy
theorem LM.ex(h:LM H c l):∃ g,da deep H c=aa (sl g (ints l)):=by
 rcases h with⟨rfl,rfl | rfl⟩ | ⟨j,b,q,s,rfl,m,u⟩
 ·exact⟨.nil,rfl⟩
 ·exact⟨.es,rfl⟩
 ·refine⟨.fs,?_⟩;show da (63+1) H _=_;rw [lf,m];have e:(((l.map cI).drop 0).take (l.length*1))=(l.map fi).map .f:=by rw [List.drop_zero,aqI (by simp)];simp
  have d:¬ (ints l).isEmpty=ae:=by simpa [ints]using j
  simp only [e,yP,Option.map_some];rw [bh ⟨trivial,trivial,by simp⟩,sl,aY d,wW,Bo]
theorem LM.mk(h:LM H c l):LM (iX deep c H) c l∧(∀(i:Nat) (y:cS),H[i]?=aa y→bf c≠aa i→(iX deep c H)[i]?=aa y):=by
 rcases h with⟨rfl,rfl | rfl⟩ | ⟨g,b,d,s,rfl,q,u⟩
 ·exact⟨.inl ⟨rfl,.inl rfl⟩,fun i y hy _=>by simpa using hy⟩
 ·exact⟨.inl ⟨rfl,.inr rfl⟩,fun i y hy _=>by simpa using hy⟩
 ·have e:iX deep (.sl b 0 l.length 0 d 1) H=H.set b (.bG 1 (l.map cI) (Nat.max s (0+l.length*1)) d .loc):=by
   simp only [deep,VT,q];rw [sk];intro x j;have j:=arH (arR j);obtain⟨m,_,rfl⟩:=aq9.1 j;exact⟨_,rfl⟩
  rw [e];refine⟨.inr ⟨g,b,d,_,rfl,IS (aw q),?_⟩,fun i y hy v=>?_⟩
  ·rw [aq8,Nat.mul_one];exact Nat.max_le.2 ⟨u,IT _⟩
  ·have:b≠i:=by rintro rfl;exact v rfl
   rw [AT this];exact hy
end
theorem wv(y:aN)(hy:y.d.li.length≤61)(ga gb:Tg){a b:List aN}(m9:a.length≤50)(n4:b.length≤50)(j_:LiB a)(k_:∀(i:Nat) (hi:i<b.length),kz i b[i].d)(m_:0<a.length+b.length) :
  ∃ g' l',dB l'=dB a++(dB b).map (bA.shift a.length)++[⟨y.d.k,y.d.dW,(a.length:Int)-1,(a.length:Int)+b.length-1,y.d.n,y.d.m,y.d.li⟩] ∧
   bF tab.get 63 [.a (y.row.map .f),.c (.f (sl ga (aG a))),.c (.f (sl gb (aG b)))]=Eq (.c (.f (sl g' (aG l')))):=by
 obtain⟨rr,⟨g',l',g,rfl⟩,hp⟩:∃ rr,(∃ g' l',dB l'=dB a++(dB b).map (bA.shift a.length)++[⟨y.d.k,y.d.dW,(a.length:Int)-1,(a.length:Int)+b.length-1,y.d.n,y.d.m,y.d.li⟩]∧rr=.c (.f (sl g' (aG l')))) ∧
   bF tab.get 63 [.a (y.row.map .f),.c (.f (sl ga (aG a))),.c (.f (sl gb (aG b)))] rr:=by
  refine cA rfl rfl fun Q hQ=>?_;apply ai;simp;obtain⟨H,hH⟩:=aT ([.box (y.row.map .f) 0]:aj);have b0:H[0]?=aa (.box (y.row.map .f) 0):=by rw [hH];rfl
  rw [←hH];clear hH;apply ai;simp;refine an (ai ?_);simp;refine cw a.length (fun j t K=>∃ c l,t.g 1=.c (.f (sl ga (aG a)))∧t.g 2=.c (.f (sl gb (aG b)))∧t.g 3=.c (.ptr 0 0 0)∧t.g 7=.c c∧LR K c 8 (aG l)∧dB l=dB (a.take j)∧K[0]?=aa (.box (y.row.map .f) 0)) (by omega) (by decide) (by simp)
   ⟨.f .es,[],by simp,by simp,by simp,by simp,.inl ⟨rfl,.inr rfl⟩,by simp,b0⟩ ?_ ?_ ?_
  ·rintro j t K L S ⟨c,l,s,E,A,F,d,g,b0⟩ u hn;simp [u,s];exact hn _ ⟨c,l,by simp [s],by simp [E],by simp [A],by simp [F],d,g,b0⟩ (by simp [u]) (by simp)
  ·rintro j t K S ⟨c,l,s,E,A,F,d,g,b0⟩ u nx;obtain⟨x,Y⟩:=aT (a[j]);obtain⟨I,O⟩:=iS x (by rw [Y];exact j_ _ (OF S));have c9:l.length=j:=by have:=congrArg List.length g;simp at this;omega
   obtain⟨c',H',q,N,J,d_⟩:=mq d (by omega) ⟨x.d,I⟩;have U:((aN.row ⟨x.d,I⟩).map C.f).length=8:=rfl;refine aC (aq (.inl rfl) ?_);simp [s,F,u,dS S (by omega),iu S,←Y,O,U,q];refine aA ?_;refine nx _ _ ⟨c',l++[⟨x.d,I⟩],by simp [s],by simp [E],by simp [A],by simp,N,?_,?_⟩ (by simp [u])
   ·rw [aqC S,←Y];simp only [dB,art,ao1,aqD]at g ⊢;rw [g]
   ·exact J.2 0 _ (by rw [AI (aw b0)];exact b0) (d.cY b0)
  ·rintro t K ⟨c,l,s,E,A,F,d,g,b0⟩ u;rw [aqX]at g;apply ai;simp;refine an (ai ?_);simp;refine cw b.length (fun j t K=>∃ c l p,t.g 1=.c (.f (sl ga (aG a)))∧t.g 2=.c (.f (sl gb (aG b)))∧t.g 3=.c (.ptr 0 0 0)∧t.g 7=.c c∧t.g 9=.c p∧LR K c 8 (aG l)∧LM K p (BW a.length j)∧dB l=dB a++(dB (b.take j)).map (bA.shift a.length)∧K[0]?=aa (.box (y.row.map .f) 0)) (by omega) (by decide) (by simp)
    ⟨c,l,.f .es,by simp [s],by simp [E],by simp [A],by simp [F],by simp,d,.inl ⟨rfl,.inr rfl⟩,by simpa using g,b0⟩ ?_ ?_ ?_
   ·rintro j t K L S ⟨c,l,p,s,E,A,F,g9,d,X,g,b0⟩ u hn;simp [u,E];exact hn _ ⟨c,l,p,by simp [s],by simp [E],by simp [A],by simp [F],by simp [g9],d,X,g,b0⟩ (by simp [u]) (by simp)
   ·rintro j t K S ⟨c,l,p,s,E,A,F,g9,d,X,g,b0⟩ u nx;obtain⟨x,Y⟩:=aT (b[j]);have hA:kz j x.d:=by rw [Y];exact k_ j S
    have c9:l.length=a.length+j:=by have:=congrArg List.length g;simp at this;omega
    obtain⟨v,hv⟩:=aT ((a.length:Int)+j:Int);have l9:ah .i64 ((a.length:Int)+j)=v:=by rw [hv];exact aO
    obtain⟨K1,M⟩:=aT (K++[.box [.f (fi v)] 0]:aj);have a9:LM K1 p (BW a.length j):=by rw [M];exact X.push _
    have l7:K1[K.length]?=aa (.box [.f (fi v)] 0):=by rw [M];simp
    have zG:∀ {i:Nat} {z:cS},K[i]?=aa z→K1[i]?=aa z:=fun {i z} Z=>by rw [M,AI (aw Z)];exact Z
    have e_:LR K1 c 8 (aG l):=by rw [M];exact d.push _
    obtain⟨p',W,q,m,J,n5⟩:=a9.app (by simp;omega) l7;rw [hv,show(a.length:Int)+(j:Int)=((a.length+j:Nat):Int) by omega,←WJ]at m;have b2:W[0]?=aa (.box (y.row.map .f) 0):=J.2 0 _ (zG b0) (a9.cY (zG b0));have f9:LR W c 8 (aG l):=e_.bY fun i z Z hi=>J.2 i z Z (a9.afN e_ i hi);obtain⟨gp,l_⟩:=m.ex;obtain⟨b7,c_⟩:=m.mk;obtain⟨I,g_⟩:=Kw x hA (by omega) gp a.length;obtain⟨K3,B⟩:=aT (iX deep p' W:aj);rw [←B]at b7 c_;have b3:K3[0]?=aa (.box (y.row.map .f) 0):=c_ 0 _ b2 (m.cY b2);have b_:LR K3 c 8 (aG l):=f9.bY fun i z Z hi=>c_ i z Z (m.afN f9 i hi);obtain⟨c',H',b9,N,d9,d_⟩:=mq b_ (by omega) ⟨x.d.shift a.length,I⟩;have U:((aN.row ⟨x.d.shift a.length,I⟩).map C.f).length=8:=rfl;refine aC (ai ?_);simp [g9,s,u,l9];rw [←M];simp [q];refine aq (.inl rfl) ?_;simp [F,E,u,dS S (by omega),iu S,←Y,l_,g_,←B,U,b9];refine aA ?_;refine nx _ _ ⟨c',l++[⟨x.d.shift a.length,I⟩],p',by simp [s],by simp [E],by simp [A],by simp,by simp,N,?_,?_,?_⟩ (by simp [u])
    ·refine(b7.push _).bY fun i z Z hi=>d9.2 i z Z fun e=>?_;exact(b7.push [.box ((aN.row ⟨x.d.shift a.length,I⟩).map .f) 0]).afN (b_.push _) i e hi
    ·rw [aqC S,←Y];simp only [dB,art,ao1,aqD]at g ⊢;rw [g,List.append_assoc]
    ·exact d9.2 0 _ (by rw [AI (aw b3)];exact b3) (b_.cY b3)
   ·rintro t K ⟨c,l,p,s,E,A,F,g9,d,X,g,b0⟩ u;rw [aqX]at g;have c9:l.length=a.length+b.length:=by have:=congrArg List.length g;simpa using this
    obtain⟨y1,i_⟩:=aT (⟨⟨y.d.k,y.d.dW,(a.length:Int)-1,y.d.r,y.d.n,y.d.m,y.d.li⟩,y.tg⟩:aN);obtain⟨y2,d6⟩:=aT (⟨⟨y.d.k,y.d.dW,(a.length:Int)-1,(a.length:Int)+b.length-1,y.d.n,y.d.m,y.d.li⟩,y.tg⟩:aN);have m6:df K (.ptr 0 2 0) [.f (fi ((a.length:Int)-1))]=aa (K.set 0 (.box (y1.row.map .f) 0)):=by simp [df,b0,over,aN.row,i_]
    obtain⟨W,a8⟩:=aT (K.set 0 (.box (y1.row.map .f) 0):aj);have d8:W[0]?=aa (.box (y1.row.map .f) 0):=by rw [a8];exact IS (aw b0)
    have a_:LR W c 8 (aG l):=by rw [a8];exact d.set (d.cY b0) _
    have m7:df W (.ptr 0 3 0) [.f (fi ((a.length:Int)+b.length-1))]=aa (W.set 0 (.box (y2.row.map .f) 0)):=by simp [df,d8,over,aN.row,i_,d6]
    obtain⟨K3,B⟩:=aT (W.set 0 (.box (y2.row.map .f) 0):aj);have m4:K3[0]?=aa (.box (y2.row.map .f) 0):=by rw [B];exact IS (aw d8)
    have j9:LR K3 c 8 (aG l):=by rw [B];exact a_.set (a_.cY d8) _
    obtain⟨-,-,-,-,-,-,-,e8⟩:=oJ m4;obtain⟨I,O⟩:=iS y2 (by rw [d6];exact hy);obtain⟨c',H',q,N,J,d_⟩:=mq j9 (by omega) ⟨y2.d,I⟩;have U:((aN.row ⟨y2.d,I⟩).map C.f).length=8:=rfl;obtain⟨g',Y⟩:=yJ N (dO _);have f_:=a_.len;rw [kL,c9]at f_;have h_:ah .i64 (((a.length+b.length:Nat):Int)-1)=(a.length:Int)+b.length-1:=by rw [aO];omega
    apply ai;simp [s,A,aO (n:=(a.length:Int)-1),m6,-bu];rw [←a8];apply ai;simp only [Int.natCast_add]at h_;simp [F,A,f_,h_,m7,-bu];rw [←B];apply ai;simp [F,A,e8,-au,O,U,q];refine aH (hQ _ _ _ ⟨g',l++[⟨y2.d,I⟩],?_,rfl⟩ ⟨rfl,.c c',?_,?_⟩)
    ·simp only [dB,art,ao1,aqD]at g ⊢;rw [g,d6]
    ·simp [Km.results,bJ,bj]
    ·simp [iI,cg,Y]
 exact⟨g',l',g,hp.eq⟩
structure jP where
 k:Nat
 n:Int
 m:Nat
 lg:Tg
 li:List Nat
def jP.row(x:jP):List FC:=[u8 x.k,.int .i8 x.n,u8 x.m,sl x.lg (dj x.li)]
structure jP.OK(x:jP):Prop where
 k:x.k<256
 n:-128≤x.n∧x.n≤127
 m:x.m<256
 ll:x.li.length≤9223372036854775807
 lb:∀ v ∈ x.li,v<256
theorem F2{n k:Int}(b:0<k):-k<n.tmod k∧n.tmod k<k:=by
 rcases Int.le_total 0 n with h | h
 ·rw [ark h];have:=aq5 n (show k≠0 by omega);have:=aq6 n b;omega
 ·have:n = -(-n):=by omega
  rw [this,Int.neg_tmod,ark (by omega)];have:=aq5 (-n) (show k≠0 by omega);have:=aq6 (-n) b;omega
def AS(x:bA):Prop:=x.OK∧dD x.k=0∧(x.k≠7→x.l=0)∧x.r=0
theorem AS.JX{x:bA}(h:AS x):Good [x]:=.leaf h.1 h.2.1 h.2.2.1 h.2.2.2
theorem gL(n:Nat){m:Int}(d:0<m):∃ a:Nat,(a:Int)<m∧bM .rem (.c (.f (.int .u8 n))) (.c (.f (.int .u8 m)))=aa (.c (.f (.int .u8 a))):=by
 have b:=aq5 (n:Int) (show m≠0 by omega);have g:=aq6 (n:Int) d;refine⟨((n:Int) % m).toNat,by omega,?_⟩;rw [mI (by omega),ark (by omega),arC b]
theorem zx{n:Nat}(l:n<256){m:Int}(d:0<m):∃ a:Nat,(a:Int)≤255 / m∧bM .quo (.c (.f (.int .u8 n))) (.c (.f (.int .u8 m)))=aa (.c (.f (.int .u8 a))):=by
 have b:0≤(n:Int) / m:=arO (by omega) (by omega);have g:(n:Int) / m≤255 / m:=Int.ediv_le_ediv d (by omega);have j:(n:Int) / m≤n:=Int.ediv_le_self _ (by omega);refine⟨((n:Int) / m).toNat,by omega,?_⟩;rw [xZ (by omega),Int.tdiv_eq_ediv_of_nonneg (by omega),Xw b (by omega),arC b]
theorem WX{a b:Int}(g:0≤a)(d:0<b):∃ r,0≤r∧r<b∧bM .rem (vi a) (vi b)=aa (vi r):=⟨a % b,aq5 _ (by omega),aq6 _ d,nK g d⟩
theorem mE(n:Nat)(h:n≤1000000):ah .i64 (n:Int)=n:=aO
theorem WI(x:jP)(hx:x.OK){cals:Nat}(hc:cals=0∨cals=2):∃ y:aN,AS y.d∧bF tab.get 99 [.a (x.row.map .f),vi cals]=Eq (.a (y.row.map .f)):=by
 obtain⟨rr,⟨y,hy,rfl⟩,hp⟩:∃ rr,(∃ y:aN,AS y.d∧rr=.a (y.row.map .f))∧bF tab.get 99 [.a (x.row.map .f),vi cals] rr:=by
  refine cA rfl rfl fun Q hQ=>?_;obtain⟨I,N,X,K,li⟩:=x;obtain⟨hk,i,hm,F,E⟩:=hx;simp only at hk i hm F E;apply ai;simp [jP.row];obtain⟨q,hq⟩:=aT ((I:Int) % 7:Int);obtain⟨H,b7⟩:=aT (1+I % 7:Nat);have w1:ah .i64 (I:Int)=I:=aO;have r1:bM .rem (vi I) (vi 7)=aa (vi q):=by rw [nK (by omega) (by omega),hq]
  have w2:ah .i64 (1+q)=H:=by rw [aO];omega
  apply ai;simp [w1,r1,w2];have v:∀(t:T) (y:aN),AS y.d→t.g 4=.c (.ptr 1 0 0)→t.g 6=.c (.ptr 2 0 0) →
    WP tab.get 99 ab [.code sP] ⟨t,[],[.box [.f (u8 I),.f (.int .i8 N),.f (u8 X),.f (sl K (dj li))] 0,.box eT 0,.box (y.row.map .f) 0]⟩ Q:=by
   intro t y hy u j;apply ai;simp [u,j,aN.row,eT];refine aH (hQ _ _ _ ⟨y,hy,rfl⟩ ⟨rfl,.a (y.row.map .f),?_,?_⟩)
   ·simp [Km.results,bJ,bj,u,aN.row,aI]
   ·simp [iI,cg]
  have L:∀(t:T) (g:Nat) (l:Int),1≤g→g≤7→0≤l→l≤1→(g=1∨g=5→l=0)→t.g 2=.c (.ptr 0 0 0)→t.g 4=.c (.ptr 1 0 0)→t.g 5=vi g→t.g 6=.c (.ptr 2 0 0) →
    WP tab.get 99 ab [.code Ab] ⟨t,[],[.box [.f (u8 I),.f (.int .i8 N),.f (u8 X),.f (sl K (dj li))] 0,.box eT 0,.box [cI g,cI l,cI 0,cI 0,cI 0,cI 0,.f .aE,.f (.str ⟨#[]⟩)] 0]⟩ Q:=by
   intro t g l w h7 c f J s u Y j;refine an (ai ?_);simp [Y];refine aC (ai ?_);simp;rcases(show g=1∨g=2∨g=3∨g=4∨g=5∨g=6∨g=7 by omega)with rfl | rfl | rfl | rfl | rfl | rfl | rfl
   ·obtain⟨Z,m0,m1,U⟩:=kJ i (k:=9) (by decide);obtain⟨a,a1,W⟩:=gL X (m:=12) (by decide);have S:=J (.inl rfl);subst S;refine al (by simp) (ai ?_);simp [s,j,U,aO (n:=1+Z)];refine aq (.inl rfl) ?_;simp [s,j,W,mE a (by omega)];refine aA ?_;exact v _ ⟨⟨1,0,0,0,1+Z,a,[]⟩,.nil⟩ ⟨⟨by simp,.inl ⟨rfl,rfl,rfl,(by dsimp only;omega),(by dsimp only;omega),(by dsimp only;omega),(by dsimp only;omega)⟩⟩,rfl,fun _=>rfl,rfl⟩ (by simp [u]) (by simp [j])
   ·obtain⟨Z,m0,m1,U⟩:=kJ i (k:=4) (by decide);obtain⟨a,a1,W⟩:=gL X (m:=8) (by decide);obtain⟨b,b0,b1,p⟩:=WX (a:=(a:Int)) (b:=1+Z) (by omega) (by omega);refine ak (by simp) (ai ?_);simp;refine al (by simp) (ai ?_);simp [s,j,U,aO (n:=1+Z)];refine aq (.inl rfl) ?_;simp [s,j,W,mE a (by omega),p];refine aA ?_;exact v _ ⟨⟨2,l,0,0,1+Z,b,[]⟩,.nil⟩ ⟨⟨by simp,.inr (.inl ⟨rfl,c,f,rfl,(by dsimp only;omega),(by dsimp only;omega),b0,by dsimp only;omega⟩)⟩,rfl,fun _=>rfl,rfl⟩ (by simp [u]) (by simp [j])
   ·obtain⟨O,lp,hr,z,A⟩:=kQ K li F E (lo:=1) (hi:=4) (by decide) (by decide) (by decide) ae (by decide);refine ak (by simp) (ai ?_);simp;refine ak (by simp) (ai ?_);simp;refine al (by simp) (aq (.inl rfl) ?_);simp [s,j,A];refine aA ?_;exact v _ ⟨⟨3,l,0,0,0,0,lp⟩,O⟩ ⟨⟨by simp at z ⊢;omega,.inr (.inr (.inl ⟨rfl,c,f,hr,rfl,rfl⟩))⟩,rfl,fun _=>rfl,rfl⟩ (by simp [u]) (by simp [j])
   ·obtain⟨O,lp,hr,z,A⟩:=kQ K li F E (lo:=(-3)) (hi:=6) (by decide) (by decide) (by decide) ag (by decide);refine ak (by simp) (ai ?_);simp;refine ak (by simp) (ai ?_);simp;refine ak (by simp) (ai ?_);simp;refine al (by simp) (aq (.inl rfl) ?_);simp [s,j,A];refine aA ?_;exact v _ ⟨⟨4,l,0,0,0,0,lp⟩,O⟩ ⟨⟨by simp at z ⊢;omega,.inr (.inr (.inr (.inl ⟨rfl,c,f,hr,rfl,rfl⟩)))⟩,rfl,fun _=>rfl,rfl⟩ (by simp [u]) (by simp [j])
   ·obtain⟨O,lp,hr,z,A⟩:=kQ K li F E (lo:=0) (hi:=6) (by decide) (by decide) (by decide) ae (by decide);have S:=J (.inr rfl);subst S;refine ak (by simp) (ai ?_);simp;refine ak (by simp) (ai ?_);simp;refine ak (by simp) (ai ?_);simp;refine ak (by simp) (ai ?_);simp;refine al (by simp) (aq (.inl rfl) ?_);simp [s,j,A];refine aA ?_;exact v _ ⟨⟨5,0,0,0,0,0,lp⟩,O⟩ ⟨⟨by simp at z ⊢;omega,.inr (.inr (.inr (.inr (.inl ⟨rfl,rfl,hr,rfl,rfl⟩))))⟩,rfl,fun _=>rfl,rfl⟩ (by simp [u]) (by simp [j])
   ·obtain⟨O,lp,hr,z,A⟩:=kQ K li F E (lo:=1) (hi:=5) (by decide) (by decide) (by decide) ae (by decide);refine ak (by simp) (ai ?_);simp;refine ak (by simp) (ai ?_);simp;refine ak (by simp) (ai ?_);simp;refine ak (by simp) (ai ?_);simp;refine ak (by simp) (ai ?_);simp;refine al (by simp) (aq (.inl rfl) ?_);simp [s,j,A];refine aA ?_;exact v _ ⟨⟨6,l,0,0,0,0,lp⟩,O⟩ ⟨⟨by simp at z ⊢;omega,.inr (.inr (.inr (.inr (.inr (.inl ⟨rfl,c,f,hr,rfl,rfl⟩)))))⟩,rfl,fun _=>rfl,rfl⟩ (by simp [u]) (by simp [j])
   ·obtain⟨a,a1,W⟩:=gL X (m:=8) (by decide);obtain⟨b,b0,b1,p⟩:=WX (a:=(a:Int)) (b:=7) (by omega) (by omega);obtain⟨d,d1,rd⟩:=zx hk (m:=128) (by decide);obtain⟨e,e0,e1,re⟩:=WX (a:=(d:Int)) (b:=2) (by omega) (by omega);have hw:=aO (n:=N);have a8:=F2 (n:=N) (k:=4) (by decide);obtain⟨r,hr⟩:=aT (N.tmod 4);have a_:bM .rem (vi N) (vi 4)=aa (vi r):=by rw [hr];exact mI (by decide)
    rw [←hr]at a8;refine ak (by simp) (ai ?_);simp;refine ak (by simp) (ai ?_);simp;refine ak (by simp) (ai ?_);simp;refine ak (by simp) (ai ?_);simp;refine ak (by simp) (ai ?_);simp;refine ak (by simp) (ai ?_);simp;refine al (by simp) (ai ?_);simp [s,j,hw,a_];have M:∀(t:T) (n:Int),(n=1∨n=2∨n=3∨-3≤n∧n≤-1)→t.g 2=.c (.ptr 0 0 0)→t.g 4=.c (.ptr 1 0 0)→t.g 6=.c (.ptr 2 0 0) →
      WP tab.get 99 ab [.code Ac,.inBlock 0,.code sP] ⟨t,[],[.box [.f (u8 I),.f (.int .i8 N),.f (u8 X),.f (sl K (dj li))] 0,.box eT 0,.box [cI 7,cI l,cI 0,cI 0,cI n,cI 0,.f .aE,.f (.str ⟨#[]⟩)] 0]⟩ Q:=by
     intro t n i s u j;apply ai;simp [s,j,W,mE a (by omega),p];refine aq (.inl rfl) ?_;simp [s,j,rd,mE d (by omega),re];refine aA ?_;exact v _ ⟨⟨7,l,e,0,n,b,[]⟩,.nil⟩ ⟨⟨by simp,.inr (.inr (.inr (.inr (.inr (.inr (.inl ⟨rfl,c,f,rfl,i,b0,(by dsimp only;omega),e0,(by dsimp only;omega)⟩))))))⟩,rfl,fun h=>absurd rfl h,rfl⟩ (by simp [u]) (by simp [j])
    refine an (ai ?_);simp [j];by_cases o:r=0
    ·refine al (by simp [o]) (aq (.inl rfl) ?_);simp [j];exact M _ 1 (.inl rfl) (by simp [s]) (by simp [u]) (by simp [j])
    ·refine a5 (by simp [o]) ?_;exact M _ r (by omega) (by simp [s]) (by simp [u]) (by simp [j])
  have B:∀(t:T) (g:Nat),1≤g→g≤7→(cals=0→g=1∨g=5)→t.g 1=vi cals→t.g 2=.c (.ptr 0 0 0)→t.g 4=.c (.ptr 1 0 0)→t.g 5=vi g →
    WP tab.get 99 ab [.code EL] ⟨t,[],[.box [.f (u8 I),.f (.int .i8 N),.f (u8 X),.f (sl K (dj li))] 0,.box eT 0]⟩ Q:=by
   intro t g w h7 h0 g1 s u Y;have hu:=mD g (by omega);apply ai;simp [Y,eT];refine an (ai ?_);simp [Y,hu];cases hs:lv g
   ·refine a5 (by simp) ?_;exact L _ g 0 w h7 (by omega) (by omega) (fun _=>rfl) (by simp [s]) (by simp [u]) (by simp [Y]) (by simp)
   ·have b9:g≠1∧g≠5:=by
     constructor<;>(rintro rfl;simp [lv]at hs)
    have a9:cals=2:=by
     rcases hc with e | e
     ·have:=h0 e;omega
     ·exact e
    subst a9;obtain⟨a,a1,W⟩:=zx hm (m:=8) (by decide);obtain⟨b,b0,b1,p⟩:=WX (a:=(a:Int)) (b:=2) (by omega) (by omega);refine al (by simp) (aq (.inl rfl) ?_);simp [g1,s,W,mE a (by omega),p];exact L _ g b w h7 b0 (by omega) (fun e=>by omega) (by simp [s]) (by simp [u]) (by simp [Y]) (by simp)
  refine an (ai ?_);have hu:=mD H (by omega);rcases hc with rfl | rfl
  ·simp [hu];cases hs:lv H
   ·refine a5 (by simp) ?_;refine B _ H (by omega) (by omega) (fun _=>?_) (by simp) (by simp) (by simp) (by simp);simp [lv]at hs;omega
   ·refine al (by simp) (aq (.inl rfl) ?_);simp;exact B _ 1 (by omega) (by omega) (fun _=>.inl rfl) (by simp) (by simp) (by simp) (by simp)
  ·simp;refine a5 (by simp) ?_;exact B _ H (by omega) (by omega) (fun h=>by omega) (by simp) (by simp) (by simp) (by simp)
 exact⟨y,hy,hp.eq⟩
structure rP where
 tg:Tg
 l:List aN
def rP.row(x:rP):List FC:=[sl x.tg (aG x.l)]
def cm(l:List rP):List (List FC):=l.map rP.row
@[simp] theorem ahb (l:List rP):(cm l).length=l.length:=by simp [cm]
theorem jA(l:List rP):bL 1 (cm l):=bL.map fun _=>rfl
theorem rM(l:List rP)(x:rP):cm (l++[x])=cm l++[x.row]:=by simp [cm]
theorem Le{l:List rP}{j:Nat}(b:j<l.length):(cm l)[j]?=aa l[j].row:=by simp [cm,b]
theorem qu{H:aj}{g:Tg}{st:List rP}{j:Nat}(b:j<st.length)(_:st.length≤1000):aL H 1 ab (.c (.f (sl g (cm st)))) (vi j)=aa (.c (.f (.fp (cm st).flatten j))):=by
 have:=dg (H:=H) (g:=g) (rows:=cm st) (sz:=1) (k:=.i64) (i:=(j:Int)) (by omega) (by simp;omega);simpa using this
theorem xb{H:aj}{st:List rP}{j:Nat}(b:j<st.length):aX H ab (.c (.f (.fp (cm st).flatten j)))=aa (.c (.f (sl st[j].tg (aG st[j].l)))):=by
 have:=jo (H:=H) (rows:=cm st) (j:=j) (sz:=1) (row:=st[j].row) (x:=sl st[j].tg (aG st[j].l)) (jA st) (Le b) rfl;simpa using this
theorem acN(g:Tg)(st:List rP)(W:st.length≤1000)(n:Nat)(Z:n≤st.length)(r:rP) :
  ∃ q,bF tab.get 98 [.c (.f (sl g (cm st))),vi n,.c (.f (sl r.tg (aG r.l)))]=Eq (.c (.f (sl q (cm (st.take n++[r]))))):=by
 obtain⟨O,⟨q,rfl⟩,X⟩:∃ O,(∃ q,O=.c (.f (sl q (cm (st.take n++[r])))))∧bF tab.get 98 [.c (.f (sl g (cm st))),vi n,.c (.f (sl r.tg (aG r.l)))] O:=by
  refine cA rfl rfl fun Q S=>?_;apply ai;simp;apply ai;simp;refine an (ai ?_);simp;refine cw n (fun j t K=>∃ c,t.g 0=.c (.f (sl g (cm st)))∧t.g 1=vi n∧t.g 2=.c (.f (sl r.tg (aG r.l)))∧t.g 7=.c c∧LR K c 1 (cm (st.take j))) (by omega) (by decide) (by simp)
   ⟨.f .es,by simp,by simp,by simp,by simp,.inl ⟨rfl,.inr rfl⟩⟩ ?_ ?_ ?_
  ·rintro j t K L U ⟨c,A,B,E,F,d⟩ y N;simp [y,B];exact N _ ⟨c,by simp [A],by simp [B],by simp [E],by simp [F],d⟩ (by simp [y]) (by simp)
  ·rintro j t K U ⟨c,A,B,E,F,d⟩ y Y;have v:j<st.length:=by omega
   obtain⟨x,H⟩:=aT (st[j]);obtain⟨z,b⟩:=aT (K++[.box (x.row.map .f) 0]:aj);have s:LR z c 1 (cm (st.take j)):=by rw [b];exact d.push _
   have u:z[K.length]?=aa (.box (x.row.map .f) 0):=by rw [b];simp
   obtain⟨I,H',l,m,J,M⟩:=s.app (jA _) (by decide) (row:=x.row) rfl (bytes:=24) (cO (by simp;omega) (by decide)) u;simp only [rP.row,ao1,aqD]at b;refine aC (aq (.inl rfl) ?_);simp [A,F,y,qu v W,xb v,←H];rw [←b];simp [l];refine aA ?_;refine Y _ _ ⟨I,by simp [A],by simp [B],by simp [E],by simp,?_⟩ (by simp [y]);rw [aqC v,←H,rM];exact m
  ·rintro t K ⟨c,A,B,E,F,d⟩ y;obtain⟨z,b⟩:=aT (K++[.box (r.row.map .f) 0]:aj);have s:LR z c 1 (cm (st.take n)):=by rw [b];exact d.push _
   have u:z[K.length]?=aa (.box (r.row.map .f) 0):=by rw [b];simp
   obtain⟨I,H',l,m,J,M⟩:=s.app (jA _) (by decide) (row:=r.row) rfl (bytes:=24) (cO (by simp;omega) (by decide)) u;rw [←rM]at m;obtain⟨q,H⟩:=yJ m (jA _);simp only [rP.row,ao1,aqD]at b;apply ai;simp [E,F];rw [←b];simp [l];refine aH (S _ _ _ ⟨q,rfl⟩ ⟨rfl,.c I,?_,?_⟩)
   ·simp [Km.results,bJ,bj]
   ·simp [iI,cg,H]
 exact⟨q,X.eq⟩
abbrev Cj(st:List rP):List (List bA):=st.map fun x=>dB x.l
theorem Vl{H:aj}{b d:Nat}{x:aN}(g:H[b]?=aa (.box (x.row.map .f) d)){l:List aN}(j:l=[x]):da deep H (.sl b 0 1 1 0 8)=aa (sl .fs (aG l)):=by
 subst j;show da (63+1) H _=_;rw [lf,g];simp [sl,aG];exact⟨IT 8,yP (n:=63) (H:=H) x.row⟩
theorem Good.lib{r:List aN}(h:Good (dB r)):LiB r:=by
 intro x b;obtain⟨i,hi,rfl⟩:=aqE b;have:=(h.at_ i (by simpa using hi)).ok.1;simpa using this
theorem zq{st:List rP}{k:Nat}(h:cD (Cj st) k){j:Nat}(d:j<st.length):st[j].l.length≤k:=by
 have g:=h.tot;have b:=nP (st:=Cj st) (i:=j) (by simpa using d);have l:=ny (Cj st) (j+1);simp at b;omega
theorem pN{st:List rP}{k:Nat}(h:cD (Cj st) k){j:Nat}(b:j<st.length):Good (dB st[j].l):=
 h.JX _ (aq9.2 ⟨st[j],OF b,rfl⟩)
theorem UY(X:cS){q:Int}(h:14≤q∧q<18):∃(j b:Nat),(b=8∨b=9∨b=10∨b=17)∧aL [X,.box [cI 8,cI 9,cI 10,cI 17] 0] 1 ab (.c (.sl 1 0 4 4 0 1)) (vi (q-14))=aa (.c (.ptr 1 j 0))∧aX [X,.box [cI 8,cI 9,cI 10,cI 17] 0] ab (.c (.ptr 1 j 0))=aa (vi b):=by
 rcases(show q=14∨q=15∨q=16∨q=17 by omega)with rfl | rfl | rfl | rfl
 ·exact⟨0,8,by simp,rfl,rfl⟩
 ·exact⟨1,9,by simp,rfl,rfl⟩
 ·exact⟨2,10,by simp,rfl,rfl⟩
 ·exact⟨3,17,by simp,rfl,rfl⟩
theorem aoI(X:cS){e:Int}(h:0≤e∧e<7):∃(j b:Nat),(11≤b∧b≤16)∧aL [X,.box [cI 11,cI 12,cI 13,cI 14,cI 15,cI 16,cI 11] 0] 1 ab (.c (.sl 1 0 7 7 0 1)) (vi e)=aa (.c (.ptr 1 j 0))∧aX [X,.box [cI 11,cI 12,cI 13,cI 14,cI 15,cI 16,cI 11] 0] ab (.c (.ptr 1 j 0))=aa (vi b):=by
 rcases(show e=0∨e=1∨e=2∨e=3∨e=4∨e=5∨e=6 by omega)with rfl | rfl | rfl | rfl | rfl | rfl | rfl
 ·exact⟨0,11,by simp,rfl,rfl⟩
 ·exact⟨1,12,by simp,rfl,rfl⟩
 ·exact⟨2,13,by simp,rfl,rfl⟩
 ·exact⟨3,14,by simp,rfl,rfl⟩
 ·exact⟨4,15,by simp,rfl,rfl⟩
 ·exact⟨5,16,by simp,rfl,rfl⟩
 ·exact⟨6,11,by simp,rfl,rfl⟩
theorem ac2{cals:Nat}(hc:cals=0∨cals=2)(g:Tg)(st:List rP){k:Nat}(s:cD (Cj st) k)(hk:k≤8)(x:jP)(hx:x.OK) :
  ∃ M u,u≠[]∧cD (Cj u) (k+1)∧bF tab.get 62 [.c (.f (sl g (cm st))),.a (x.row.map .f),vi cals]=Eq (.c (.f (sl M (cm u)))):=by
 obtain⟨rr,⟨M,u,h0,h1,rfl⟩,hp⟩:∃ rr,(∃ M u,u≠[]∧cD (Cj u) (k+1)∧rr=.c (.f (sl M (cm u))))∧bF tab.get 62 [.c (.f (sl g (cm st))),.a (x.row.map .f),vi cals] rr:=by
  have f9:=s.count;simp only [aq3]at f9;obtain⟨yp,m9,d_⟩:=WI x hx hc;obtain⟨n,hn⟩:=aT (st.length);refine cA rfl rfl fun Q hQ=>?_;obtain⟨S,U,K,W,li⟩:=x;obtain⟨m7,i_,h_,a9,a8⟩:=hx;simp only at m7 i_ h_ a9 a8;simp only [jP.row]at d_;apply ai;simp [jP.row];apply ai;simp;obtain⟨q,hq⟩:=aT ((S:Int) % 25:Int);have w1:ah .i64 (S:Int)=S:=aO;have r1:bM .rem (vi S) (vi 25)=aa (vi q):=by rw [nK (by omega) (by omega),hq]
  apply ai;simp [w1,r1];refine an (ai ?_);simp;have B:=fun(m:Nat) (hm:m≤st.length) (r:rP)=>acN g st (by omega) m hm r;have n6:∀(b:Int),True:=fun _=>trivial;have b_:∀(t:T),t.g 0=.c (.f (sl g (cm st)))→t.g 2=vi cals→t.g 4=.c (.ptr 0 0 0)→t.g 7=vi st.length →
    WP tab.get 62 ab [.code Ag,.code Ah] ⟨t,[],[.box [.f (u8 S),.f (.int .i8 U),.f (u8 K),.f (sl W (dj li))] 0]⟩ Q:=by
   intro t v g2 E z;obtain⟨M,A⟩:=B st.length (IT _) ⟨.fs,[yp]⟩;apply ai;simp only [ao1,aqD]at d_;have l_:yp.row.length=8:=rfl;have hx:da deep [.box [.f (u8 S),.f (.int .i8 U),.f (u8 K),.f (sl W (dj li))] 0,.box (yp.row.map .f) 0] (.sl 1 0 1 1 0 8)=aa (sl .fs (aG [yp])):=Vl rfl rfl;simp [v,g2,E,z,d_,l_,hx,A];refine aH (hQ _ _ _ ⟨M,st++[⟨.fs,[yp]⟩],by simp,?_,rfl⟩ ?_)
   ·have:=s.leaf m9.JX (r:=[yp.d]) rfl;rw [aqX]at this;simpa [Cj]using this
   ·simp
  obtain⟨X,hX⟩:=aT (.box [.f (u8 S),.f (.int .i8 U),.f (u8 K),.f (sl W (dj li))] 0:cS);have bin:∀(t:T) (y:aN) (H:aj),2≤st.length→(∀ l r,bA.OK ⟨y.d.k,y.d.dW,l,r,y.d.n,y.d.m,y.d.li⟩)→dD y.d.k=2→H[2]?=aa (.box (y.row.map .f) 0)→t.g 0=.c (.f (sl g (cm st)))→t.g 7=vi st.length→t.g 9=.c (.ptr 2 0 0) →
    WP tab.get 62 ab [.code Ai,.code sQ] ⟨t,[],H⟩ Q:=by
   intro t y H h2 hy d9 b2 v z g9;obtain⟨-,-,-,-,-,-,-,e8⟩:=oJ b2;have hA:=zq s (j:=st.length-2) (by omega);have Z:=zq s (j:=st.length-1) (by omega);have gA:=pN s (j:=st.length-2) (by omega);have Y:=pN s (j:=st.length-1) (by omega);obtain⟨a,ha⟩:=aT (st[st.length-2]'(by omega));obtain⟨b,hb⟩:=aT (st[st.length-1]'(by omega));have lA:=xb (H:=H) (st:=st) (j:=st.length-2) (by omega);have lB:=xb (H:=H) (st:=st) (j:=st.length-1) (by omega);have iA:=qu (H:=H) (g:=g) (st:=st) (j:=st.length-2) (by omega) (by omega);have iB:=qu (H:=H) (g:=g) (st:=st) (j:=st.length-1) (by omega) (by omega);rw [←ha]at hA gA lA;rw [←hb]at Z Y lB;have pA:=gA.pos;have pB:=Y.pos;simp only [ow]at pA pB;obtain⟨g1,l1,hd,c_⟩:=wv y (hy 0 0).1 a.tg b.tg (a:=a.l) (b:=b.l) (by omega) (by omega) gA.lib (fun i hi=>by
    have:=Y.at_ i (by simpa using hi);simpa using this) (by omega)
   obtain⟨M,A⟩:=B (st.length-2) (by omega) ⟨g1,l1⟩;have c2:((st.length-2:Nat):Int)=(st.length:Int)-2:=by omega
   have c1:((st.length-1:Nat):Int)=(st.length:Int)-1:=by omega
   rw [c2]at iA A;rw [c1]at iB;have w2:=aO (n:=(st.length:Int)-2);have e_:=aO (n:=(st.length:Int)-1);apply ai;simp [v,z,g9,w2,e_,e8,-au,iA,iB,lA,lB,c_,A];refine aH (hQ _ _ _ ⟨M,st.take (st.length-2)++[⟨g1,l1⟩],by simp,?_,rfl⟩ (by simp));have hG:Good (dB l1):=by
    rw [hd,←ow a.l];exact .bin (x:=⟨y.d.k,y.d.dW,((dB a.l).length:Int)-1,((dB a.l).length:Int)+b.l.length-1,y.d.n,y.d.m,y.d.li⟩) gA Y (hy _ _) d9 (by simp) (by simp)
   have:=s.bin (r:=dB l1) (by simpa using h2) hG (by
    have:=congrArg List.length hd;simp at this;simp [←ha,←hb];omega)
   simpa [Cj]using this
  have J:∀(t:T) (y:aN) (H:aj),1≤st.length→(∀ l,bA.OK ⟨y.d.k,y.d.dW,l,y.d.r,y.d.n,y.d.m,y.d.li⟩)→dD y.d.k=1→y.d.r=0→H[2]?=aa (.box (y.row.map .f) 0)→t.g 0=.c (.f (sl g (cm st)))→t.g 7=vi st.length→t.g 10=.c (.ptr 2 0 0) →
    WP tab.get 62 ab [.code Ak] ⟨t,[],H⟩ Q:=by
   intro t y H h2 hy d9 m_ b2 v z g10;obtain⟨-,-,-,-,-,-,-,e8⟩:=oJ b2;have Z:=zq s (j:=st.length-1) (by omega);have Y:=pN s (j:=st.length-1) (by omega);obtain⟨b,hb⟩:=aT (st[st.length-1]'(by omega));have lB:=xb (H:=H) (st:=st) (j:=st.length-1) (by omega);have iB:=qu (H:=H) (g:=g) (st:=st) (j:=st.length-1) (by omega) (by omega);rw [←hb]at Z Y lB;have pB:=Y.pos;simp only [ow]at pB;obtain⟨g1,l1,hd,c_⟩:=Xr y (hy 0).1 b.tg (r:=b.l) (by omega) Y.lib;obtain⟨M,A⟩:=B (st.length-1) (by omega) ⟨g1,l1⟩;have c1:((st.length-1:Nat):Int)=(st.length:Int)-1:=by omega
   rw [c1]at iB A;have e_:=aO (n:=(st.length:Int)-1);apply ai;simp [v,z,g10,e_,e8,-au,iB,lB,c_,A];refine aH (hQ _ _ _ ⟨M,st.take (st.length-1)++[⟨g1,l1⟩],by simp,?_,rfl⟩ (by simp));have hG:Good (dB l1):=by
    rw [hd];exact .un (x:=⟨y.d.k,y.d.dW,(b.l.length:Int)-1,y.d.r,y.d.n,y.d.m,y.d.li⟩) Y (hy _) d9 (by simp) m_
   have:=s.un (r:=dB l1) (by simp;omega) hG (by
    have:=congrArg List.length hd;simp at this;simp [←hb];omega)
   simpa [Cj]using this
  by_cases hA:q<14∨st.length=0
  ·have hR:(if decide (q<14)=ae then aa ae else aa (decide (st.length=0)))=aa ae:=by
    rcases hA with h | h<;>simp [h]
   by_cases F:q<14
   ·simp [F];refine al (by simp) (b_ _ (by simp) (by simp) (by simp) (by simp))
   ·have h0:st.length=0:=by omega
    have j9:(st.length:Int)=0:=by omega
    have f_:=amu h0;simp [F,j9];refine al (by simp [f_]) (b_ _ (by simp) (by simp) (by simp) (by simp [h0]))
  ·have F:¬ q<14:=fun h=>hA (.inl h);have l7:st.length≠0:=fun h=>hA (.inr h);have n5:14≤q∧q<25:=by omega
   have l9:st≠[]:=fun h=>l7 (by rw [h];rfl);simp [F];refine a5 (by simp [l9]) ?_;refine an (ai ?_);by_cases Z:q<18∧2≤st.length
   ·simp [Z.1,show(2:Int)≤st.length by omega];refine al (by simp) (ai ?_);have n4:=aO (n:=q-14);obtain⟨j,L,a_,d6,d8⟩:=UY (.box [.f (u8 S),.f (.int .i8 U),.f (u8 K),.f (sl W (dj li))] 0) (q:=q) (by omega);simp [n4,d6,d8,-au];refine an (ai ?_);simp;rcases a_ with rfl | rfl | rfl | rfl
    ·refine a5 (by simp) ?_;exact bin _ ⟨⟨8,0,0,0,0,0,[]⟩,.nil⟩ _ Z.2 (fun l r=>⟨by simp,by simp [cV]⟩) (by rfl) (by rfl) (by simp) (by simp) (by simp)
    ·refine a5 (by simp) ?_;exact bin _ ⟨⟨9,0,0,0,0,0,[]⟩,.nil⟩ _ Z.2 (fun l r=>⟨by simp,by simp [cV]⟩) (by rfl) (by rfl) (by simp) (by simp) (by simp)
    ·refine a5 (by simp) ?_;exact bin _ ⟨⟨10,0,0,0,0,0,[]⟩,.nil⟩ _ Z.2 (fun l r=>⟨by simp,by simp [cV]⟩) (by rfl) (by rfl) (by simp) (by simp) (by simp)
    ·obtain⟨mg,m0,m1,k_⟩:=kJ i_ (k:=3) (by decide);refine al (by simp) (aq (.inl rfl) ?_);simp [k_,aO (n:=1+mg)];exact bin _ ⟨⟨17,0,0,0,1+mg,0,[]⟩,.nil⟩ _ Z.2 (fun l r=>⟨by simp,by simp [cV];omega⟩) (by rfl) (by rfl) (by simp) (by simp) (by simp)
   ·have g_:∀(t:T),t.g 0=.c (.f (sl g (cm st)))→t.g 2=vi cals→t.g 4=.c (.ptr 0 0 0)→t.g 7=vi st.length→t.g 8=vi q →
      WP tab.get 62 ab [.code sQ] ⟨t,[],[.box [.f (u8 S),.f (.int .i8 U),.f (u8 K),.f (sl W (dj li))] 0]⟩ Q:=by
     intro t v g2 E z g8;obtain⟨e,he⟩:=aT (max q 18-18:Int);obtain⟨j,L,a_,d6,d8⟩:=aoI (.box [.f (u8 S),.f (.int .i8 U),.f (u8 K),.f (sl W (dj li))] 0) (e:=e) (by omega);have wE:ah .i64 (max q 18-18)=e:=by rw [he];exact aO
     apply ai;simp [g8,wE,d6,d8,-au];have I:1≤st.length:=by omega
     have m6:=aO (n:=U);have b9:ah .i64 (K:Int)=K:=aO;have c9:∀(t:T),t.g 0=.c (.f (sl g (cm st)))→t.g 4=.c (.ptr 0 0 0)→t.g 7=vi st.length→t.g 10=.c (.ptr 2 0 0)→∀ L:Nat,(L=12∨L=13) →
       WP tab.get 62 ab [.code Aj] ⟨t,[],[.box [.f (u8 S),.f (.int .i8 U),.f (u8 K),.f (sl W (dj li))] 0,.box [cI 11,cI 12,cI 13,cI 14,cI 15,cI 16,cI 11] 0,.box [cI L,cI 0,cI 0,cI 0,cI 0,cI 0,.f .aE,.f (.str ⟨#[]⟩)] 0]⟩ Q:=by
      intro t v E z g10 L a_;refine an (ai ?_);simp [g10];refine aC (ai ?_);rcases a_ with rfl | rfl
      ·simp;refine ak (by simp) (an (ai ?_));simp;refine al (by simp) (aM ?_);refine al (by simp) (aq (.inl rfl) ?_);simp [E,g10,b9];refine aA ?_;exact J _ ⟨⟨12,0,0,0,K,0,[]⟩,.nil⟩ _ I (fun l=>⟨by simp,by simp [cV];omega⟩) (by rfl) rfl (by rfl) (by simp [v]) (by simp [z]) (by simp [g10])
      ·simp;refine ak (by simp) (an (ai ?_));simp;refine ak (by simp) (aq (.inl rfl) ?_);simp;refine al (by simp) (aq (.inl rfl) ?_);simp [E,g10,b9];refine aA ?_;exact J _ ⟨⟨13,0,0,0,K,0,[]⟩,.nil⟩ _ I (fun l=>⟨by simp,by simp [cV];omega⟩) (by rfl) rfl (by rfl) (by simp [v]) (by simp [z]) (by simp [g10])
     refine an (ai ?_);rcases(show L=11∨L=12∨L=13∨L=14∨L=15∨L=16 by omega)with rfl | rfl | rfl | rfl | rfl | rfl
     ·obtain⟨r,hr⟩:=aT (U.tmod 12);have m4:bM .rem (vi U) (vi 12)=aa (vi r):=by rw [hr];exact mI (by decide)
      have j_:=F2 (n:=U) (k:=12) (by decide);rw [←hr]at j_;simp;refine ak (by simp) (aM (an (ai ?_)));simp;refine aC (ai ?_);simp;refine al (by simp) (aq (.inl rfl) ?_);simp [E,m6,m4];refine aA ?_;exact J _ ⟨⟨11,0,0,0,r,0,[]⟩,.nil⟩ _ I (fun l=>⟨by simp,by simp [cV];omega⟩) (by rfl) rfl (by rfl) (by simp [v]) (by simp [z]) (by simp)
     ·simp;refine a5 (by simp) ?_;exact c9 _ (by simp [v]) (by simp [E]) (by simp [z]) (by simp) 12 (.inl rfl)
     ·simp;refine a5 (by simp) ?_;exact c9 _ (by simp [v]) (by simp [E]) (by simp [z]) (by simp) 13 (.inr rfl)
     ·obtain⟨gp,lp,hr,N,O⟩:=kQ W li a9 a8 (lo:=0) (hi:=60) (by decide) (by decide) (by decide) ae (by decide);simp;refine ak (by simp) (aM (an (ai ?_)));simp;refine aC (ai ?_);simp;refine ak (by simp) (an (ai ?_));simp;refine ak (by simp) (aq (.inl rfl) ?_);simp;refine ak (by simp) (an (ai ?_));simp;refine al (by simp) (aM ?_);refine al (by simp) (aq (.inl rfl) ?_);simp [E,O];refine aA ?_;exact J _ ⟨⟨14,0,0,0,0,0,lp⟩,gp⟩ _ I (fun l=>⟨by simp at N ⊢;omega,by simp [cV];exact hr⟩) (by rfl) rfl (by rfl) (by simp [v]) (by simp [z]) (by simp)
     ·obtain⟨gp,lp,hr,N,O⟩:=kQ W li a9 a8 (lo:=0) (hi:=60) (by decide) (by decide) (by decide) ae (by decide);simp;refine ak (by simp) (aM (an (ai ?_)));simp;refine aC (ai ?_);simp;refine ak (by simp) (an (ai ?_));simp;refine ak (by simp) (aq (.inl rfl) ?_);simp;refine ak (by simp) (an (ai ?_));simp;refine ak (by simp) (aq (.inl rfl) ?_);simp;refine al (by simp) (aq (.inl rfl) ?_);simp [E,O];refine aA ?_;exact J _ ⟨⟨15,0,0,0,0,0,lp⟩,gp⟩ _ I (fun l=>⟨by simp at N ⊢;omega,by simp [cV];exact hr⟩) (by rfl) rfl (by rfl) (by simp [v]) (by simp [z]) (by simp)
     ·rcases hc with rfl | rfl
      ·simp [g2];refine al (by simp) (aq (.inl rfl) ?_);simp;exact c9 _ (by simp [v]) (by simp [E]) (by simp [z]) (by simp) 12 (.inl rfl)
      ·obtain⟨gp,lp,hr,N,O⟩:=kQ W li a9 a8 (lo:=(-3)) (hi:=4) (by decide) (by decide) (by decide) ag (by decide);obtain⟨a,a1,ra⟩:=zx h_ (m:=8) (by decide);obtain⟨b,b0,b1,rb⟩:=WX (a:=(a:Int)) (b:=2) (by omega) (by omega);obtain⟨d,d1,rd⟩:=gL K (m:=2) (by decide);simp [g2];refine ak (by simp) (aM (an (ai ?_)));simp;refine aC (ai ?_);simp;refine ak (by simp) (an (ai ?_));simp;refine ak (by simp) (aq (.inl rfl) ?_);simp;refine ak (by simp) (an (ai ?_));simp;refine ak (by simp) (aq (.inl rfl) ?_);simp;refine ak (by simp) (ai ?_);simp;refine al (by simp) (ai ?_);simp [g2,E,ra,mE a (by omega),rb];apply ai;simp [E,rd,mE d (by omega)];refine aq (.inl rfl) ?_;simp [E,O];refine aA ?_;exact J _ ⟨⟨16,b,0,0,0,d,lp⟩,gp⟩ _ I (fun l=>⟨by simp at N ⊢;omega,by simp [cV];exact⟨b0,by omega,hr,by omega⟩⟩) (by rfl) rfl (by rfl) (by simp [v]) (by simp [z]) (by simp)
    by_cases b7:q<18
    ·simp [b7,show¬ (2:Int)≤st.length by omega];refine ak (by simp) (aM (g_ _ (by simp) (by simp) (by simp) (by simp) (by simp)))
    ·simp [b7];refine ak (by simp) (aM (g_ _ (by simp) (by simp) (by simp) (by simp) (by simp)))
 exact⟨M,u,h0,h1,hp.eq⟩
def ee(l:List jP):List (List FC):=l.map jP.row
@[simp] theorem ad5 (l:List jP):(ee l).length=l.length:=by simp [ee]
theorem zh(l:List jP):bL 4 (ee l):=bL.map fun _=>rfl
theorem Ei{l:List jP}{j:Nat}(b:j<l.length):(ee l)[j]?=aa l[j].row:=by simp [ee,b]
theorem abr{H:aj}{g:Tg}{l:List jP}{j:Nat}(b:j<l.length)(d:l.length≤9223372036854775807):aL H 4 ab (.c (.f (sl g (ee l)))) (vi j)=aa (.c (.f (.fp (ee l).flatten (j*4)))):=by
 have:=dg (H:=H) (g:=g) (rows:=ee l) (sz:=4) (k:=.i64) (i:=(j:Int)) (by omega) (by simp;omega);simpa using this
theorem afC{H:aj}{l:List jP}{j:Nat}(b:j<l.length):aX H (aa 4) (.c (.f (.fp (ee l).flatten (j*4))))=aa (.a (l[j].row.map .f)):=by
 have:=fV (H:=H) (rows:=ee l) (j:=j) (sz:=4) (row:=l[j].row) (zh l) (Ei b);simpa using this
theorem VN{cals:Nat}(hc:cals=0∨cals=2)(g:Tg)(l:List jP)(hl:l.length≤9223372036854775807)(hx:∀ x ∈ l,x.OK) :
  ∃ r:rP,Good (dB r.l)∧r.l.length≤15∧bF tab.get 21 [.c (.f (sl g (ee l))),vi cals]=Eq (.c (.f (sl r.tg (aG r.l)))):=by
 obtain⟨rr,⟨r,h1,h2,rfl⟩,hp⟩:∃ rr,(∃ r:rP,Good (dB r.l)∧r.l.length≤15∧rr=.c (.f (sl r.tg (aG r.l))))∧bF tab.get 21 [.c (.f (sl g (ee l))),vi cals] rr:=by
  refine cA rfl rfl fun Q hQ=>?_;have W:∀(t:T) (H:aj) (c:C) (r:rP),da deep H c=aa (sl r.tg (aG r.l))→Good (dB r.l)→r.l.length≤15→t.g 7=.c c →
    WP tab.get 21 ab [.code zO] ⟨t,[],H⟩ Q:=by
   intro t H c r hx hg hl S;apply ai;simp [S];refine aH (hQ _ _ _ ⟨r,hg,hl,rfl⟩ ⟨rfl,.c c,?_,?_⟩)
   ·simp [Km.results,bJ,bj]
   ·simp [iI,cg,hx]
  apply ai;simp;apply ai;simp;refine an (ai ?_);simp;obtain⟨N,hN⟩:=aT (min l.length 8);refine cw N (fun i t K=>∃ v st,(st=[]→v=.es)∧cD (Cj st) i∧t.g 0=.c (.f (sl g (ee l)))∧t.g 1=vi cals∧t.g 5=.c (.f (sl v (cm st)))) (by omega) (by decide) (by simp)
   ⟨.es,[],fun _=>rfl,.nil,by simp,by simp,by simp [sl,cm,Tg.fc]⟩ ?_ ?_ ?_
  ·rintro i t K L b9 ⟨v,st,y,d,A,z,q⟩ B hn;by_cases O:(i:Int)<l.length
   ·simp [B,A,O];exact hn _ ⟨v,st,y,d,by simp [A],by simp [z],by simp [q]⟩ (by simp [B]) (by simp;omega)
   ·simp [B,A,O];exact hn _ ⟨v,st,y,d,by simp [A],by simp [z],by simp [q]⟩ (by simp [B]) (by simp;omega)
  ·rintro i t K b9 ⟨v,st,y,d,A,z,q⟩ B nx;have I:i<l.length:=by omega
   obtain⟨x,a9⟩:=aT (l[i]);obtain⟨g2,d6,k,o,hp⟩:=ac2 hc v st d (by omega) x (by rw [a9];exact hx _ (OF I));refine aC (aq (.inl rfl) ?_);simp [q,z,A,B,abr I hl,afC I,←a9,hp];refine aA ?_;exact nx _ _ ⟨g2,d6,fun e=>absurd e k,o,by simp [A],by simp [z],by simp⟩ (by simp [B])
  ·rintro t K ⟨v,st,y,d,A,z,q⟩ B;have h:=d.count;simp only [aq3]at h;refine an (ai ?_);simp [q];by_cases h0:st=[]
   ·subst h0;have b7:=y rfl;subst b7;refine al (by simp) (aq (.inl rfl) ?_);have d8:rP:=⟨.fs,[⟨⟨1,0,0,0,2,0,[]⟩,.nil⟩]⟩
    obtain⟨u,E⟩:=aT (K++[.box [cI 1,cI 0,cI 0,cI 0,cI 2,cI 0,.f .aE,.f (.str ⟨#[]⟩)] 0,.box [.sl K.length 0 1 1 0 8] 0]:aj);have b0:u[K.length]?=aa (.box ((aN.row ⟨⟨1,0,0,0,2,0,[]⟩,.nil⟩).map .f) 0):=by rw [E,aqJ (by omega),Nat.sub_self];rfl
    have b1:u[K.length+1]?=aa (.box [.sl K.length 0 1 1 0 8] 0):=by rw [E,aqJ (by omega),Nat.add_sub_cancel_left];rfl
    have Y:cT u 1 (.c (.sl (K.length+1) 0 1 1 0 1))=aa (1,[.sl K.length 0 1 1 0 8]):=by simp [cT,bE,cF,b1]
    have J:bN 1 24=ae:=by decide
    have Z:bX u 1 24 (.c (.f (sl .es (cm [])))) (.c (.sl (K.length+1) 0 1 1 0 1))=aa (.c (.sl u.length 0 1 0 0 1),u++[.bG 1 [.sl K.length 0 1 1 0 8] 0 0 .loc]):=by
     simp [bX,Y,J,sl,cm,Tg.fc]
    simp [q];rw [←E];simp [Z];obtain⟨M,F⟩:=aT (u++[.bG 1 [.sl K.length 0 1 1 0 8] 0 0 .loc]:aj);have c0:M[K.length]?=aa (.box ((aN.row ⟨⟨1,0,0,0,2,0,[]⟩,.nil⟩).map .f) 0):=by rw [F,AI (aw b0)];exact b0
    have O:M[u.length]?=aa (.bG 1 [.sl K.length 0 1 1 0 8] 0 0 .loc):=by rw [F,aqJ (by omega),Nat.sub_self];rfl
    rw [←F];have i0:aL M 1 ab (.c (.sl u.length 0 1 0 0 1)) (vi 0)=aa (.c (.ptr u.length 0 0)):=by simp [aL,dy,O]
    have l0:aX M ab (.c (.ptr u.length 0 0))=aa (.c (.sl K.length 0 1 1 0 8)):=by simp [aX,aF,O,aI]
    have n0:bE M (.sl u.length 0 1 0 0 1)=aa 1:=by simp [bE,O]
    apply ai;simp [i0,l0,-au];refine an (ai ?_);simp;refine aC (bD (fun m s=>∃(t:T),s=⟨t,[],M⟩∧t.g 5=.c (.sl u.length 0 1 0 0 1)∧t.g 7=.c (.sl K.length 0 1 1 0 8)∧t.g 8=vi 1) 0 ⟨_,rfl,by simp,by simp,by simp⟩ ?_);rintro m s ⟨t,rfl,q,S,X⟩ ih;refine an (ai ?_);simp [q,X,n0];refine ak (by simp) (bp rfl ?_);refine W _ _ _ ⟨.fs,[⟨⟨1,0,0,0,2,0,[]⟩,.nil⟩]⟩ (Vl c0 rfl) ?_ (by simp) (by simp [S]);exact .leaf ⟨by simp,by simp [cV]⟩ rfl (fun _=>rfl) rfl
   ·refine a5 (by simp [h0]) ?_;have n:=arn.2 h0;have l0:=xb (H:=K) (st:=st) (j:=0) (by omega);have i0:=qu (H:=K) (g:=v) (st:=st) (j:=0) (by omega) (by omega);apply ai;simp only [ar7]at i0;simp [q,i0,l0];refine an (ai ?_);simp;refine aC (bD (fun m s=>∃(j:Nat) (r:rP) (t:T) (K:aj),s=⟨t,[],K⟩∧1≤j∧j≤st.length∧m=st.length-j∧Good (dB r.l)∧r.l.length+1=total ((Cj st).take j)+j∧t.g 5=.c (.f (sl v (cm st)))∧t.g 7=.c (.f (sl r.tg (aG r.l)))∧t.g 8=vi j) (st.length-1)
     ⟨1,st[0],_,_,rfl,by omega,by omega,rfl,pN d (by omega),?_,by simp [q],by simp,by simp⟩ ?_)
    ·have:=nP (st:=Cj st) (i:=0) (by simpa using n);rw [this];simp [total]
    ·rintro m s ⟨j,r,t,K,rfl,j1,j2,rfl,hr,c_,q,S,X⟩ ih;refine an (ai ?_);simp [q,X];by_cases U:j<st.length
     ·refine al (by simp [U]) (aM ?_);have hB:=zq d (j:=j) U;have gB:=pN d (j:=j) U;have a8:=nP (st:=Cj st) (i:=j) (by simpa using U);have p:=ny (Cj st) (j+1);have w:=d.tot;obtain⟨b,hb⟩:=aT (st[j]);have lB:=xb (H:=K) (st:=st) (j:=j) U;have iB:=qu (H:=K) (g:=v) (st:=st) (j:=j) U (by omega);simp at a8;rw [←hb]at hB gB lB a8;have pA:=hr.pos;have pB:=gB.pos;simp only [ow]at pA pB;obtain⟨z,l1,hd,a_⟩:=wv ⟨⟨9,0,0,0,0,0,[]⟩,.nil⟩ (by simp) r.tg b.tg (a:=r.l) (b:=b.l) (by omega) (by omega) hr.lib (fun i hi=>by
       have:=gB.at_ i (by simpa using hi);simpa using this) (by omega)
      have hw:ah .i64 ((j:Int)+1)=((j+1:Nat):Int):=by rw [aO];omega
      have f:bF tab.get 63 [.a [cI 9,cI 0,cI 0,cI 0,cI 0,cI 0,.f .aE,.f (.str ⟨#[]⟩)],.c (.f (sl r.tg (aG r.l))),.c (.f (sl b.tg (aG b.l)))]=Eq (.c (.f (sl z (aG l1)))):=a_;refine an (aC (aq (.inl rfl) ?_));simp [q,S,X,iB,lB,f];refine aA (aq (.inl rfl) ?_);simp [X,hw];have c9:l1.length=r.l.length+b.l.length+1:=by
       have:=congrArg List.length hd;simp at this;omega
      refine ih (st.length-(j+1)) _ (by omega) ⟨j+1,⟨z,l1⟩,_,_,rfl,by omega,by omega,rfl,?_,?_,by simp [q],by simp,by simp⟩
      ·rw [hd,←ow r.l];exact .bin (x:=⟨9,0,((dB r.l).length:Int)-1,((dB r.l).length:Int)+b.l.length-1,0,0,[]⟩) hr gB ⟨by simp,by simp [cV]⟩ rfl (by simp) (by simp)
      ·simp only [c9];omega
     ·have b_:j=st.length:=by omega
      subst b_;have p:(Cj st).take st.length=Cj st:=by rw [aqI (by simp)]
      rw [p]at c_;have w:=d.tot;refine ak (by simp) (bp rfl ?_);exact W _ _ (.f (sl r.tg (aG r.l))) r (by simp [deep]) hr (by omega) (by simp [S])
 exact⟨r,h1,h2,hp.eq⟩
theorem Bq(a b:Int):bF tab.get 152 [vi a,vi b]=Eq (vb (decide (a<b))):=Kf.eq (by
 refine oH rfl rfl fun H Q d=>?_;apply ai;simp;apply ai;simp [oF];refine aH (d _ _ ?_);simp [oF])
end Go.Proofs.YtmbjejcfadllnaaGreat
