/-
  ahd the ow jO and the nP answer, for all arguments of their kind, in the small machine: part 2.
-/
import Derived.Test.YtmbjejcfadllnaaGreatS1
import Derived.Test.YtmbjejcfadllnaaGreatK4
open Option renaming some → aa,none → ab
open Bool renaming true → ae,false → ag
open Go.IntKind renaming wrap → ah
open List renaming getElem?_append_left → At, getElem?_set_ne → AI, getElem?_set_self → If, take_of_length_le → arT, set_cons_succ → atl, getElem?_eq_getElem → AT, getElem_mem → IT, all_eq_true → arX, getElem?_eq_none_iff → asJ, getElem?_eq_some_iff → By, find?_eq_some_iff_getElem → ato, find?_eq_none → as9, getElem_of_mem → arS, pairwise_iff_getElem → ar1, mem_cons_self → arU, mem_map → ase, eq_nil_of_length_eq_zero → anc, mem_append → ar3, map_cons → aft, map_nil → apr, length_pos_iff → asC, length_eq_zero_iff → asr, getElem?_append_right → arY, pairwise_append → asX, pairwise_singleton → asP, take_succ_eq_append_getElem → aq8, take_length → ar8, map_append → asB, length_map → asn, drop_zero → asV, mem_of_mem_drop → asW, mem_of_mem_take → as4, foldl_cons → asL
open Nat renaming le_refl → OF, lt_or_eq_of_le → asi, eq_zero_or_pos → asq, lt_trichotomy → ash, zero_add → aso
open Int renaming mul_ediv_add_emod → asx, emod_nonneg → asd, emod_lt_of_pos → asj, ediv_nonneg → asY, add_mul → as6, one_mul → asZ, mul_comm → asO, mul_nonneg → ate, natCast_zero → as7, add_zero → atf, le_refl → asR, toNat_of_nonneg → asK, tmod_eq_emod_of_nonneg → asw
open Option renaming map_eq_some_iff → IN
set_option linter.unusedVariables false
set_option linter.constructorNameAsVariable false
set_option linter.unusedSimpArgs false
set_option linter.unusedSectionVars false
set_option linter.unnecessarySimpa false
set_option maxRecDepth 100000
set_option maxHeartbeats 2000000
namespace Go.Proofs.YtmbjejcfadllnaaGreat
open Go Km
theorem Y6{z:ZD}(E:z.c<3){fl:List FC}{k m y:Nat}{r q:ey}{n:Int}(X:yN fl (sl z.yg (bP z.yr)) k m r q)(a9:(1:Int)-k=m)(hr:r.OK)(hq:q.OK)(hy:y<nY z.c)
  {t:T} {J:aj} {cl:C} {d:List bC} (hJ:J[0]?=aa (.box (z.row.map .f) 0)) (hK:J[1]?=aa (.box (fj z cl n) 0)) (hL:LR J cl 2 (aT d)) (d9:d.length≤100)
  (W:t.g 1=.c (.ptr 0 0 0)) (Y:t.g 4=.c (.ptr 1 0 0)) (Z:t.g 8=vi (kr z.c y)) (g9:t.g 9=vi ((y:Int)+1)) (v:t.g 62=.c (.f (sl z.yg (bP z.yr)))) (F:t.g 63=vi 2) (u:t.g 64=vi (k:Nat)) {K:List cA} {Q:Option az→St→Prop}
  (next:∀(t:T) (J:aj) (cl:C),J[0]?=aa (.box (z.row.map .f) 0)→J[1]?=aa (.box (fj z cl n) 0)→LR J cl 2 (aT (d++en z.c (y+1) r q))→t.g 1=.c (.ptr 0 0 0)→t.g 4=.c (.ptr 1 0 0)→t.g 8=vi (kr z.c y)→t.g 9=vi ((y:Int)+1)→t.g 62=.c (.f (sl z.yg (bP z.yr)))→t.g 63=vi 2→t.g 64=vi (k:Nat) →
   WP tab.get 90 ab K ⟨t,[],J⟩ Q) :
  WP tab.get 90 ab (.code xe::K) ⟨t,[],J⟩ Q:=by
 have d_:=xV z.c;obtain⟨b0,b1⟩:=uo E (Nat.le_of_lt hy);have hf:=EX E (y:=y+1) (by omega) (by omega) (b:=kr z.c y) (by omega) (by omega) r hr;rw [show((y+1:Nat):Int)=(y:Int)+1 by omega]at hf;obtain⟨d0,d1⟩:=y7 (c:=z.c) (y:=y+1) (b:=kr z.c y) (x:=r) (by omega) (by omega) hr;obtain⟨-,-,-,-,m0,m1,o0,o1⟩:=hr;obtain⟨-,-,-,-,-,-,p0,p1⟩:=hq;have j:en z.c (y+1) r q=if gJ (pF z.c (y+1) (kr z.c y) r) (qP z.c (y+1) r) r.wk r.wd then [⟨kS (pF z.c (y+1) (kr z.c y) r) (qP z.c (y+1) r) r.wk r.wd*1440+r.mi-q.off,r.off⟩]else []:=rfl;generalize hD:kS (pF z.c (y+1) (kr z.c y) r) (qP z.c (y+1) r) r.wk r.wd=D at *;generalize hO:gJ (pF z.c (y+1) (kr z.c y) r) (qP z.c (y+1) r) r.wk r.wd=O at *;refine aB ?_;apply ai;have N:=X.row;have hi:=X.i J;have jl:2≤J.length:=by have:=au hK;omega
 obtain⟨g,l⟩:=aO (J++[.box (r.row.map .f) 0]:aj);have z0:g[0]?=aa (.box (z.row.map .f) 0):=by rw [l,At (by omega)];exact hJ
 have z1:g[1]?=aa (.box (fj z cl n) 0):=by rw [l,At (by omega)];exact hK
 have zr:g[J.length]?=aa (.box (r.row.map .f) 0):=by rw [l];simp
 have H:LR g cl 2 (aT d):=by rw [l];exact hL.push _
 have l1:g.length=J.length+1:=by rw [l];simp
 have b9:(r.row.map C.f)=[.f (fi r.mo),.f (fi r.wk),.f (fi r.wd),.f (fi r.mi),.f (fi r.off)]:=rfl;simp [v,u,hi,N,ey.row];rw [←b9,←l];apply ai;have d6:=gZ z0 E;have d7:=eQ z0 E;have d5:aU g (aa 5) (.c (.ptr J.length 0 0))=aa (.a (r.row.map .f)):=by simp [aU,zr,aC,ey.row,aK]
 have c_:aU g ab (.c (.ptr J.length 3 0))=aa (vi r.mi):=by simp [aU,zr,aC,ey.row,aK]
 have d3:aU g ab (.c (.ptr J.length 4 0))=aa (vi r.off):=by simp [aU,zr,aC,ey.row,aK]
 simp [W,Z,g9,d6,d5,hf,-an];apply aq;refine av (.inl rfl) ?_;simp;cases O with
 | false=>
  simp only [Bool.false_eq_true,if_false]at j;rw [j,List.append_nil]at next
  refine al (by simp) (aL (aw ?_));exact next _ g cl z0 z1 H (by simp [W]) (by simp [Y]) (by simp [Z]) (by simp [g9]) (by simp [v]) (by simp [F]) (by simp [u])
 | true=>
  simp only [if_true]at j;rw [j]at next
  refine ak (by simp) ?_;refine av (.inl rfl) ?_;have w1:=aQ (n:=D*1440);have w2:=aQ (n:=D*1440+r.mi);have w3:=aQ (n:=D*1440+r.mi-q.off);have w4:ah .i64 (1-(k:Int))=m:=by rw [aQ,a9]
  have a8:=X.i' g;have M:=X.of' g;have c9:=sF z1 E;obtain⟨S,s⟩:=aO (g++[.box [.f (fi (D*1440+r.mi-q.off)),.f (fi r.off)] 0]:aj);have y0:S[0]?=aa (.box (z.row.map .f) 0):=by rw [s,At (by omega)];exact z0
  have y1:S[1]?=aa (.box (fj z cl n) 0):=by rw [s,At (by omega)];exact z1
  have B:LR S cl 2 (aT d):=by rw [s];exact H.push _
  obtain⟨U,J3,L,I,A,d8⟩:=B.app (cu _) (by decide) (row:=[fi (D*1440+r.mi-q.off),fi r.off]) rfl (bytes:=16) (cC (by simp;omega) (by decide)) (b1:=g.length) (fl1:=0) (by rw [s];simp);have x0:=A.2 _ _ y0 (B.cQ y0);have x1:=A.2 _ _ y1 (B.cQ y1);have b_:=an_ (cl':=U) x1 E;have l2:S.length=g.length+1:=by rw [s];simp
  have l3:=A.1;have a_:a6 U≠aa 1:=I.cQ x1;simp [W,Y,u,c9,c_,d3,d7,a8,M,w1,w2,w3,w4,-an,-bh];rw [←s];simp [L,b_,-an,-bh];refine aw ?_;refine next _ (J3.set 1 (.box (fj z U n) 0)) U (by rw [AI (by decide)];exact x0) (If (by omega)) ?_ (by simp [W]) (by simp [Y]) (by simp [Z]) (by simp [g9]) (by simp [v]) (by simp [F]) (by simp [u])
  have e:aT d++[[fi (D*1440+r.mi-q.off),fi r.off]]=aT (d++[⟨D*1440+r.mi-q.off,r.off⟩]):=by simp [aT,bC.row]
  rw [←e];exact I.set a_ _
theorem aom{z:ZD}(N:z.c<3){r q:ey}(I:z.yr=[r,q])(hr:r.OK)(S:q.OK){y:Nat}{n:Int}(U:y<nY z.c)
  {t:T} {J:aj} {cl:C} {A:List bC} (l:J[0]?=aa (.box (z.row.map .f) 0)) (x:J[1]?=aa (.box (fj z cl n) 0)) (d:LR J cl 2 (aT A)) (X:A.length≤90)
  (g:t.g 1=.c (.ptr 0 0 0)) (s:t.g 4=.c (.ptr 1 0 0)) (u:t.g 8=vi (kr z.c y)) (v:t.g 9=vi ((y:Int)+1)) {K:List cA} {Q:Option az→St→Prop}
  (next:∀(t:T) (J:aj) (cl:C),J[0]?=aa (.box (z.row.map .f) 0)→J[1]?=aa (.box (fj z cl n) 0)→LR J cl 2 (aT (A++(en z.c (y+1) r q++en z.c (y+1) q r)))→t.g 1=.c (.ptr 0 0 0)→t.g 4=.c (.ptr 1 0 0)→t.g 8=vi (kr z.c y)→t.g 9=vi ((y:Int)+1) →
   WP tab.get 90 ab K ⟨t,[],J⟩ Q) :
  WP tab.get 90 ab (.code xd::K) ⟨t,[],J⟩ Q:=by
 apply ai;have Y:(bP z.yr).length=2:=by simp [I]
 have O:∀ H:aj,bH H (.f (sl z.yg (bP z.yr)))=aa 2:=by intro H;rw [I];rfl
 simp [g,eQ l N,-an,O];refine gu 2 (fun j t H=>H[0]?=aa (.box (z.row.map .f) 0)∧t.g 1=.c (.ptr 0 0 0)∧t.g 4=.c (.ptr 1 0 0)∧t.g 8=vi (kr z.c y)∧t.g 9=vi ((y:Int)+1)∧t.g 62=.c (.f (sl z.yg (bP z.yr))) ∧
   ∃ cl,H[1]?=aa (.box (fj z cl n) 0)∧LR H cl 2 (aT (A++((if 1≤j then en z.c (y+1) r q else [])++(if 2≤j then en z.c (y+1) q r else []))))) (by omega) (by decide) (by decide) (by simp) (by simp [I])
  ⟨l,by simp [g],by simp [s],by simp [u],by simp [v],by simp,cl,x,by simpa using d⟩ ?_ ?_
 ·clear l x d g s u v;rintro j t J Z ⟨l,g,s,u,v,b,cl,x,d⟩ L M W;have a:=ka z.c (y+1) r q;have F:j=0∨j=1:=by omega
  rcases F with rfl | rfl
  ·simp at d;refine Y6 N (m:=1) (by rw [I];exact agC z.yg r q) (by decide) hr S U l x d (by omega) (by simp [g]) (by simp [s]) (by simp [u]) (by simp [v]) (by simp [b]) (by simp [M]) (by simp [L]) ?_;intro t J cl l x d g s u v b B E;refine W _ _ ⟨l,by simp [g],by simp [s],by simp [u],by simp [v],by simp [b],cl,x,by simpa using d⟩ (by simp [E]) (by simp [B])
  ·simp at d;refine Y6 N (m:=0) (by rw [I];exact agD z.yg r q) (by decide) S hr U l x d (by simp;omega) (by simp [g]) (by simp [s]) (by simp [u]) (by simp [v]) (by simp [b]) (by simp [M]) (by simp [L]) ?_;intro t J cl l x d g s u v b B E;refine W _ _ ⟨l,by simp [g],by simp [s],by simp [u],by simp [v],by simp [b],cl,x,by simpa using d⟩ (by simp [E]) (by simp [B])
 ·clear l x d g s u v;rintro t J ⟨l,g,s,u,v,b,cl,x,d⟩ L M;exact next _ J cl l x (by simpa using d) (by simp [g]) (by simp [s]) (by simp [u]) (by simp [v])
theorem afr(z:ZD)(d:z.c<3){r q:ey}(hz:z.yr=[r,q])(hr:r.OK)(hq:q.OK){o:List bC}(ho:dM (oJ z.c r q (nY z.c)) o)(hs:c6 o (cyc z.c*1440)=ae):∃ g,
  bA tab.get 90 [z.v]=Eq (.t [.c (.f (.fp (z.row++[sl g (aT o),fi (cyc z.c)]) 0)),vb ae]):=by
 obtain⟨rr,⟨g,rfl⟩,hp⟩:∃ rr,(∃ g,rr=.t [.c (.f (.fp (z.row++[sl g (aT o),fi (cyc z.c)]) 0)),vb ae])∧bA tab.get 90 [z.v] rr:=by
  refine bQ rfl rfl fun Q hQ=>?_;apply ai;simp;have m6:([.box (z.row.map .f) 0]:aj)[0]?=aa (.box (z.row.map .f) 0):=rfl;have m9:cyc z.c=91∨cyc z.c=217:=by unfold cyc jk;split<;>simp
  have n4:Lu z.c=2∨Lu z.c=5:=by unfold Lu;split<;>simp
  have d5:=yS d;have n6:=xV z.c;have a_:=ZD.tM d;have n5:(z.row.map C.f).length=8:=by simp [a_]
  have hd:List.drop 10 (z.row.map C.f++[C.f .aF,C.f (fi 0)])=[]:=List.drop_eq_nil_of_le (by simp [a_]);apply ai;simp [cm m6 d,-an,a_,List.take_append,arT,hd];have d3:z.row.map C.f++[C.f .aF,C.f (.int .i64 1)]=fj z (.f .aF) 1:=rfl;rw [d3];have k0:([.box (z.row.map .f) 0,.box (fj z (.f .aF) 1) 0]:aj)[0]?=aa (.box (z.row.map .f) 0):=rfl;have k1:([.box (z.row.map .f) 0,.box (fj z (.f .aF) 1) 0]:aj)[1]?=aa (.box (fj z (.f .aF) 1) 0):=rfl;apply aq;apply ai;simp [eQ k0 d,-an,hz];refine a5 (by simp) ?_;apply ai;simp [gZ k0 d,-an,vV d];have s1:=agG (n':=(jk z.c:Nat)) k1 d;simp only [atl,List.set_cons_zero]at s1;apply ai;simp [s1,-bh];have m0:([.box (z.row.map .f) 0,.box (fj z (.f .aF) (jk z.c:Nat)) 0]:aj)[0]?=aa (.box (z.row.map .f) 0):=rfl;have m1:([.box (z.row.map .f) 0,.box (fj z (.f .aF) (jk z.c:Nat)) 0]:aj)[1]?=aa (.box (fj z (.f .aF) (jk z.c:Nat)) 0):=rfl;have m_:jk z.c=13∨jk z.c=31:=by unfold jk;split<;>simp
  have d8:bS .rem (vi (jk z.c:Nat)) (vi 7)=aa (vi (((jk z.c:Nat):Int) % 7)):=po (by omega) (by omega);apply aq;apply ai;simp [d8];refine ak (by simp;omega) ?_;have s2:=agG (n':=cyc z.c) m1 d;simp only [atl,List.set_cons_zero]at s2;have hw:ah .i64 (((jk z.c:Nat):Int)*7)=cyc z.c:=by rw [aQ];unfold cyc;omega
  refine av (.inl rfl) ?_;simp [XX m1 d,hw,s2,-an,-bh];obtain⟨H0,Y⟩:=aO ([.box (z.row.map .f) 0,.box (fj z (.f .aF) (cyc z.c)) 0]:aj);have n0:H0[0]?=aa (.box (z.row.map .f) 0):=by rw [Y];rfl
  have n1:H0[1]?=aa (.box (fj z (.f .aF) (cyc z.c)) 0):=by rw [Y];rfl
  rw [←Y];clear m0 m1 k0 k1 s1 s2 d8;apply ai;simp [zm n0 d,-an];apply aq;apply ai;simp;refine aB ?_;refine bI (fun n s=>∃(y:Nat) (t:T) (J:aj) (cl:C),s=⟨t,[],J⟩∧n=nY z.c-y∧y≤nY z.c∧J[0]?=aa (.box (z.row.map .f) 0)∧J[1]?=aa (.box (fj z cl (cyc z.c)) 0)∧LR J cl 2 (aT (oJ z.c r q y)) ∧
    t.g 1=.c (.ptr 0 0 0)∧t.g 4=.c (.ptr 1 0 0)∧t.g 8=vi (kr z.c y)∧t.g 9=vi ((y:Int)+1)) (nY z.c)
   ⟨0,_,_,.f .aF,rfl,rfl,by omega,n0,n1,LR.nil _ _,by simp,by simp,by simp [kr],by simp⟩ ?_
  rintro n s ⟨y,t,J,cl,rfl,rfl,hy,M,F,E,g1,m,g8,g9⟩ ih;obtain⟨b0,b1⟩:=uo d hy;apply aq;apply ai;simp [g1,m,g8,zm M d,XX F d,-an,aQ (n:=Lu z.c+cyc z.c)];by_cases d7:y<nY z.c
  ·have h1:=yT z.c d7;refine ak (by simp;omega) (aL ?_);apply aq;refine aB ?_;apply aq;have l7:=kg z.c r q y;refine aom d hz hr hq d7 M F E (by omega) (by simp [g1]) (by simp [m]) (by simp [g8]) (by simp [g9]) ?_;clear g1 m g8 g9 M F E;intro t J cl M F E g1 m g8 g9;have d_:=EY d (y:=y+1) (by omega) (by omega);rw [show((y+1:Nat):Int)=(y:Int)+1 by omega]at d_;have n9:sk z.c (y+1)≤18:=by
    have h1:=fN z.c (y+1) 1;have h2:=fN z.c (y+1) 2;unfold sk;omega
   refine av (.inl rfl) ?_;simp [g1,g8,g9,gZ M d,-an,d_,aQ (n:=kr z.c y+(sk z.c (y+1):Nat))];refine aw ?_;refine av (.inl rfl) ?_;simp [g9,aQ (n:=(y:Int)+1+1)];exact ih (nY z.c-(y+1)) _ (by omega) ⟨y+1,_,J,cl,rfl,rfl,by omega,M,F,E,by simp [g1],by simp [m],by simp [kr],by simp⟩
  have m4:y=nY z.c:=by omega
  subst m4;rw [d5];refine al (by simp) ?_;refine bq (k':=[.code xf]) rfl ?_;have l7:=kg z.c r q (nY z.c);obtain⟨J2,hE,Z,l2,I,k_,l_⟩:=Zk E (by omega);rw [My ho hs k_ l_]at I;have x0:=Z.2 _ _ M (E.cQ M);have L:=Z.2 _ _ F (E.cQ F);have c_:=hE.eq;apply ai;simp [m,sF F d,-an,c_];clear ih E M F hE c_ Z g8 g9;have n7:o.length≤28:=by have:=ho.len;omega
  have a9:∀ x ∈ o,pI x:=fun x hx=>qA d hr hq _ (OF _) x (ho.perm.subset hx);apply aq;apply ai;simp [m,sF L d,-an,I.len];refine gu o.length (fun j t H=>H[0]?=aa (.box (z.row.map .f) 0)∧H[1]?=aa (.box (fj z cl (cyc z.c)) 0)∧LR H cl 2 (aT o)∧t.g 4=.c (.ptr 1 0 0)∧t.g 119=.c cl) (by omega) (by decide) (by decide) (by simp) (by simp)
   ⟨x0,L,I,by simp [m],by simp⟩ ?_ ?_
  ·clear m x0 L I;rintro i t J B ⟨x0,L,E,m,l⟩ ha hb nx;rcases E with⟨h,_⟩ | ⟨j_,b,O,rfl,a8⟩
   ·have:o=[]:=by simpa [aT]using h
    subst this;simp at B
   rw [my]at l L nx;have d6:=cu o;have o0:0<o.length:=by omega
   obtain⟨X,v⟩:=aO (J++[.box (o[i].row.map .f) 0]:aj);have A:RB X b 2 O (aT o):=by rw [v];exact a8.push _
   have jl:2≤J.length:=by have:=au L;omega
   have y0:X[0]?=aa (.box (z.row.map .f) 0):=by rw [v,At (by omega)];exact x0
   have W:X[1]?=aa (.box (fj z (.sl b 0 o.length 0 O 2) (cyc z.c)) 0):=by rw [v,At (by omega)];exact L
   have yr:X[J.length]?=aa (.box (o[i].row.map .f) 0):=by rw [v];simp
   have b9:∀ {K:aj} (_:RB K b 2 O (aT o)) (k:Nat),k<o.length→aP K 2 ab (.c (.sl b 0 o.length 0 O 2)) (vi k)=aa (.c (.ptr b (k*2) O)):=fun F k hk=>by
    have:=F.idx (n:=o.length) (c:=0) (k:=.i64) (o:=0) (i:=(k:Int)) (by omega) (by omega);simpa using this
   have U:∀ k:Nat,(hk:k<o.length)→aU X ab (.c (.ptr b (k*2) O))=aa (vi o[k].at_):=fun k hk=>by
    have:=A.ldc d6 (dk (AT hk)) (k:=0) (x:=fi o[k].at_) rfl;simpa using this
   have e_:=a8.ldr d6 (dk (AT B));have m7:aU X ab (.c (.ptr J.length 0 0))=aa (vi o[i].at_):=by simp [aU,yr,aC,bC.row,aK]
   have g_:=a9 _ (IT o0);have i_:=a9 _ (IT B);unfold pI at g_ i_;have i0:=b9 A 0 o0;have l0:=U 0 o0;simp [-an]at i0 l0;have ii:=b9 a8 i B;have S:=(D2 (XX W d) ⟨_,_,W⟩ (by omega) (by omega)).eq;have w2:=aQ (n:=o[0].at_+cyc z.c*1440);have w3:=aQ (n:=(i:Int)+1);have l9:o[i].row.map C.f=[.f (fi o[i].at_),.f (fi o[i].off)]:=rfl;refine aB ?_;apply ai;rw [l9]at e_ v;simp [l,ha,ii,e_,-an];rw [←v];refine aq (fV (.inl rfl) ?_ ?_)
   case refine_2=>
    intro c j8;have j7:c=(3,11)∨c=(4,11)∨c=(6,11):=by simpa using j8
    rcases j7 with rfl | rfl | rfl
    all_goals
     refine⟨by decide,_,rfl,.inl ⟨by decide,?_⟩⟩;simp [m,sF W d,i0,l0,S,w2,jh,-an]
     first | rfl | simp [V.beq,C.beq,FC.beq]
   simp [m,sF W d,i0,l0,S,w2,-an];have d9:2160≤dP o (cyc z.c*1440) i-o[i].at_:=by
    have h1:=arX.1 hs i (by simpa using B);simp only [AT B]at h1;exact of_decide_eq_true h1
   have u:∀ t:T,t.g 4=.c (.ptr 1 0 0)→t.g 119=.c (.sl b 0 o.length 0 O 2)→t.g 121=vi (i:Nat)→t.g 120=vi o.length→t.g 15=.c (.ptr J.length 0 0)→t.g 16=vi (dP o (cyc z.c*1440) i)→dP o (cyc z.c*1440) i≤900000 →
     WP tab.get 90 ab [.code xh,.inBlock 5,.code (LI 121 158),.inLoop (rZ 4 121 120 122 158 xg),.inBlock 4,.code xi] ⟨t,[],X⟩ Q:=by
    intro t m l c9 b_ f9 f_ n1;apply ai;simp [f9,f_,m7,-an,aQ (n:=dP o (cyc z.c*1440) i-o[i].at_)];refine al (by simp;omega) (aL (aw ?_));exact nx _ _ ⟨y0,W,.inr ⟨j_,b,O,by rw [my],A⟩,by simp [m],by simp [l]⟩ (by simp [c9]) (by simp [b_])
   apply aq;by_cases N:i+1<o.length
   ·have i1:=b9 A (i+1) N;have l1:=U (i+1) N;have h_:=a9 _ (IT N);unfold pI at h_;rw [show((i+1:Nat):Int)=(i:Int)+1 by omega]at i1;have hn:dP o (cyc z.c*1440) i=o[i+1].at_:=by simp [dP,AT N]
    rw [hn]at u d9;apply ai;simp [m,sF W d,w3,A.len,-an];refine ak (by simp;omega) ?_;refine av (.inl rfl) ?_;simp [m,sF W d,w3,i1,l1,-an];exact u _ (by simp [m]) (by simp [l]) (by simp [ha]) (by simp [hb]) (by simp) (by simp) (by omega)
   ·have hn:dP o (cyc z.c*1440) i=o[0].at_+cyc z.c*1440:=by
     simp [dP,asJ.2 (show o.length≤i+1 by omega),AT o0]
    rw [hn]at u d9;apply ai;simp [m,sF W d,w3,A.len,-an];refine al (by simp;omega) (aL ?_);exact u _ (by simp [m]) (by simp [l]) (by simp [ha]) (by simp [hb]) (by simp) (by simp) (by omega)
  ·clear m x0 L I;rintro t J ⟨x0,L,E,m,l⟩ ha hb;obtain⟨g',j9⟩:=E.ex (cu _) 62;apply ai;simp [m];refine aJ (hQ _ _ (.t [.c (.f (.fp (z.row++[sl g' (aT o),fi (cyc z.c)]) 0)),vb ae]) ⟨g',rfl⟩ ?_);have hx:ba (c8 63 J) (fj z cl (cyc z.c))=aa (z.row++[sl g' (aT o),fi (cyc z.c)]):=by
    refine iu (rS _) ?_;have:c8 63 J cl=aa (sl g' (aT o)):=j9;simp [ba,this,c8]
   simp [fJ,bO,deep,ba,m,c8,L,hx]
 exact⟨g,bA.eq hp⟩
theorem Zs(z:ZD)(g:z.c<3)(m:z.yr=[]):bA tab.get 90 [z.v]=Eq (.t [.c (.f (.fp (z.row++[.aF,fi 1]) 0)),vb ae]):=bA.eq (by
 refine bG rfl rfl fun Q q=>?_;apply ai;simp;have l:([.box (z.row.map .f) 0]:aj)[0]?=aa (.box (z.row.map .f) 0):=rfl;have d:=ZD.tM g;have s:List.drop 10 (z.row.map C.f++[C.f .aF,C.f (fi 0)])=[]:=List.drop_eq_nil_of_le (by simp [d]);apply ai;simp [cm l g,-an,d,List.take_append,arT,s];have b:z.row.map C.f++[C.f .aF,C.f (.int .i64 1)]=fj z (.f .aF) 1:=rfl;rw [b];have k0:([.box (z.row.map .f) 0,.box (fj z (.f .aF) 1) 0]:aj)[0]?=aa (.box (z.row.map .f) 0):=rfl;apply aq;apply ai;have j:∀ H:aj,bH H (.f (sl z.yg (bP z.yr)))=aa 0:=by intro H;rw [m];cases z.yg<;>rfl
 simp [eQ k0 g,-an,j];refine ak (by simp [m]) ?_;apply ai;simp;refine aJ (q _ _ ?_);have u:∀ J:aj,ba (c8 63 J) (fj z (.f .aF) 1)=aa (z.row++[.aF,fi 1]):=fun J=>by
  refine iu (rS _) ?_;simp [ba,c8]
 simp [bO,deep,ba,c8,u])
theorem EZ(z:ZD)(l:z.c<3)(g:z.yr=[]):bA tab.get 70 [z.v]=Eq (.t [.c (.f .es),vb ae]):=bA.eq (by
 refine bG rfl rfl fun Q j=>?_;apply ai;simp;have d:([.box (z.row.map .f) 0]:aj)[0]?=aa (.box (z.row.map .f) 0):=rfl;apply ai;simp;apply aq;apply ai;have b:∀ H:aj,bH H (.f (sl z.yg (bP z.yr)))=aa 0:=by intro H;rw [g];cases z.yg<;>rfl
 simp [eQ d l,-an,b];refine ak (by simp [g]) ?_;apply ai;simp;refine aJ (j _ _ ?_);simp)
def turns(o:List bC)(size t:Int):Int:=match o[0]? with
 | some x=>if x.at_<t then(t-x.at_) / size else 0| none=>0
def ij(o:List bC)(size t k:Int):Option bC:=(o.find? fun x=>decide (t≤x.at_+k*size)).map fun x=>⟨x.at_+k*size,x.off⟩
def tn(o:List bC)(size t:Int):Option bC:=(ij o size t (turns o size t)).or (ij o size t (turns o size t+1))
theorem Fw{p:bC→Bool}{l:List bC}{i:Nat}{x:bC}(h:l[i]?=aa x)(b:∀ j y,j<i→l[j]?=aa y→p y=ag)(g:p x=ae):l.find? p=aa x:=by
 obtain⟨hi,rfl⟩:=By.1 h;rw [ato];exact⟨g,i,hi,rfl,fun j d=>by have:=b j l[j] d (AT (by omega));simpa using this⟩
theorem uh(g:Tg)(o:List bC)(L:0<o.length)(hl:o.length≤1000)(S:∀ x ∈ o,pI x)(n t:Int)(n0:1≤n)(n1:n≤1000)(t0:-1000000≤t)(t1:t≤1000000) :
  ∃ x,tn o (n*1440) t=aa x∧bA tab.get 71 [.c (.f (sl g (aT o))),vi n,vi t]=Eq (.t [.a (x.row.map .f),vb ae]):=by
 obtain⟨rr,⟨x,hx,rfl⟩,hp⟩:∃ rr,(∃ x,tn o (n*1440) t=aa x∧rr=.t [.a (x.row.map .f),vb ae])∧bA tab.get 71 [.c (.f (sl g (aT o))),vi n,vi t] rr:=by
  refine bQ rfl rfl fun Q hQ=>?_;have a_:=S _ (IT L);unfold pI at a_;obtain⟨K,hK⟩:=aO (turns o (n*1440) t);have l:K=if o[0].at_<t then(t-o[0].at_) / (n*1440)else 0:=by rw [hK];simp [turns,AT L]
  have X:0<n*1440:=by omega
  have q0:=asx (t-o[0].at_) (n*1440);have q1:=asd (t-o[0].at_) (show n*1440≠0 by omega);have q2:=asj (t-o[0].at_) X;have O:0≤K:=by rw [l];split;exact asY (by omega) (by omega);omega
  have a9:K*(n*1440)≤2000000∧t≤o[0].at_+(K+1)*(n*1440):=by
   rw [l];split
   ·rw [as6,asZ,asO ((t-o[0].at_) / (n*1440))];omega
   ·omega
  have d6:0≤K*(n*1440):=ate O (by omega);have d7:K≤2000000:=by
   have:K*1≤K*(n*1440):=Int.mul_le_mul_of_nonneg_left (by omega) O;omega
  have W:=cu o;have I:∀ H:aj,bH H (.f (sl g (aT o)))=aa o.length:=fun H=>by
   have c9:¬ (aT o).isEmpty=ae:=by
    intro h;have:o=[]:=by simpa [aT]using h
    subst this;simp at L
   simp [sl,c9,bH]
  have Z:∀(H:aj) (i:Nat),i<o.length→aP H 2 ab (.c (.f (sl g (aT o)))) (vi i)=aa (.c (.f (.fp (aT o).flatten (i*2)))):=fun H i hi=>by
   have:=c5 (H:=H) (g:=g) (rows:=aT o) (sz:=2) (k:=.i64) (i:=(i:Int)) (by omega) (by simp;omega);simpa using this
  have a8:∀(H:aj) (i:Nat) (hi:i<o.length),aU H ab (.c (.f (.fp (aT o).flatten (i*2))))=aa (vi o[i].at_):=fun H i hi=>kF W (dk (AT hi)) rfl;have d5:∀(H:aj) (i:Nat) (hi:i<o.length),aU H ab (.c (.f (.fp (aT o).flatten (i*2+1))))=aa (vi o[i].off):=fun H i hi=>zl (k:=1) W (dk (AT hi)) rfl;have i0:=fun H=>Z H 0 L;have l0:=fun H=>a8 H 0 L;simp only [Nat.zero_mul,as7]at i0 l0;apply ai;simp;apply aq;apply ai;simp [I];refine al (by simp;rintro rfl;simp at L) (aL ?_);apply ai;simp [aQ (n:=n*1440)];apply ai;simp;apply aq;have J:∀ b:T,b.g 0=.c (.f (sl g (aT o)))→b.g 2=vi t→b.g 6=.c (.ptr 0 0 0)→b.g 8=vi (n*1440)→b.g 9=vi K→WP tab.get 71 ab [.code A0] ⟨b,[],[.box [.f (fi 0),.f (fi 0)] 0]⟩ Q:=by
   intro b q B v z g9;apply ai;simp [g9];refine aB ?_;refine bI (fun m s=>∃(e:Int) (b:T),s=⟨b,[],[.box [.f (fi 0),.f (fi 0)] 0]⟩∧(e=0∧m=1∨e=1∧m=0∧ij o (n*1440) t K=ab)∧b.g 0=.c (.f (sl g (aT o)))∧b.g 2=vi t∧b.g 6=.c (.ptr 0 0 0)∧b.g 8=vi (n*1440)∧b.g 10=vi (K+e)) 1
    ⟨0,_,rfl,.inl ⟨rfl,rfl⟩,by simp [q],by simp [B],by simp [v],by simp [z],by simp⟩ ?_
   clear q B v z g9;rintro m s ⟨e,b,rfl,he,q,B,v,z,g10⟩ ih;have d8:0≤(K+e)*(n*1440)∧(K+e)*(n*1440)≤4000000:=by
    rcases he with⟨rfl,-⟩ | ⟨rfl,-⟩
    ·rw [atf];omega
    ·rw [as6,asZ];omega
   apply aq;refine aB ?_;apply ai;simp;refine aB ?_;refine bI (fun m' s=>∃(i:Nat) (b:T),s=⟨b,[],[.box [.f (fi 0),.f (fi 0)] 0]⟩∧m'=o.length-i∧i≤o.length∧(∀ j y,j<i→o[j]?=aa y→decide (t≤y.at_+(K+e)*(n*1440))=ag) ∧
     b.g 0=.c (.f (sl g (aT o)))∧b.g 2=vi t∧b.g 6=.c (.ptr 0 0 0)∧b.g 8=vi (n*1440)∧b.g 10=vi (K+e)∧b.g 11=vi (i:Nat)) o.length
    ⟨0,_,rfl,rfl,by omega,fun j y h=>absurd h (by omega),by simp [q],by simp [B],by simp [v],by simp [z],by simp [g10],by simp⟩ ?_
   clear q B v z g10;rintro m' s ⟨i,b,rfl,rfl,hi,F,q,B,v,z,g10,A⟩ d3;apply aq;apply ai;simp [q,A,I];by_cases d:i<o.length
   case neg=>
    have u:ij o (n*1440) t (K+e)=ab:=by
     have:o.find? (fun x=>decide (t≤x.at_+(K+e)*(n*1440)))=ab:=by
      rw [as9];intro x hx;obtain⟨j,hj,rfl⟩:=arS hx;have:=F j o[j] (by omega) (AT hj);simp [this]
     simp [ij,this]
    rcases he with⟨rfl,rfl⟩ | ⟨rfl,rfl,-⟩
    ·rw [atf]at u;refine al (by simp;omega) ?_;refine bq (k':=[.inBlock 1,.code A3,.inLoop A1,.inBlock 0]) rfl ?_;refine aw ?_;refine av (.inl rfl) ?_;simp [g10,aQ (n:=K+1)];exact ih 0 _ (by omega) ⟨1,_,rfl,.inr ⟨rfl,rfl,u⟩,by simp [q],by simp [B],by simp [v],by simp [z],by simp⟩
    ·exfalso;have:=F 0 o[0] (by omega) (AT L);have h2:=of_decide_eq_false this;exact h2 a9.2
   refine ak (by simp [d]) (aL ?_);apply aq;refine aB ?_;have b9:=S _ (IT d);unfold pI at b9;have ii:=fun H=>Z H i d;have li:=fun H=>a8 H i d;have oi:=fun H=>d5 H i d;have w1:=aQ (n:=(K+e)*(n*1440));have w2:=aQ (n:=o[i].at_+(K+e)*(n*1440));apply ai;simp [q,B,z,g10,A,ii,li,w1,w2];by_cases N:t≤o[i].at_+(K+e)*(n*1440)
   ·refine ak (by simp [N]) ?_;apply ai;simp [q,v,z,g10,A,ii,li,oi,w1,w2];have M:ij o (n*1440) t (K+e)=aa ⟨o[i].at_+(K+e)*(n*1440),o[i].off⟩:=by
     have:=Fw (p:=fun x=>decide (t≤x.at_+(K+e)*(n*1440))) (AT d) (fun j y hj Y=>F j y hj Y) (by simp [N]);simp [ij,this]
    have U:tn o (n*1440) t=aa ⟨o[i].at_+(K+e)*(n*1440),o[i].off⟩:=by
     unfold tn;rw [←hK];rcases he with⟨rfl,-⟩ | ⟨rfl,-,hn⟩
     ·rw [atf]at M ⊢;rw [M];rfl
     ·rw [hn,M];rfl
    refine aJ (hQ _ _ _ ⟨_,U,rfl⟩ ?_);simp [bC.row,v]
   ·refine al (by simp;omega) (aL (aw ?_));refine av (.inl rfl) ?_;simp [A,aQ (n:=(i:Int)+1)];refine d3 (o.length-(i+1)) _ (by omega) ⟨i+1,_,rfl,rfl,by omega,fun j y hj Y=>?_,by simp [q],by simp [B],by simp [v],by simp [z],by simp [g10],by simp⟩;by_cases b_:j=i
    ·subst b_;rw [AT d]at Y;cases Y;exact decide_eq_false N
    ·exact F j y (by omega) Y
  by_cases E:o[0].at_<t
  ·rw [bp E]at l;have c_:bS .quo (vi (t-o[0].at_)) (vi (n*1440))=aa (vi K):=by rw [l];exact YV (by omega) X (by omega)
   apply ai;simp [i0,l0];refine ak (by simp [E]) ?_;refine av (.inl rfl) ?_;simp [i0,l0,aQ (n:=t-o[0].at_),c_];exact J _ (by simp) (by simp) (by simp) (by simp) (by simp)
  ·rw [aZ E]at l;apply ai;simp [i0,l0];refine a5 (by simp [E]) ?_;exact J _ (by simp) (by simp) (by simp) (by simp) (by simp [l])
 exact⟨x,hx,bA.eq hp⟩
def Mem(o:List bC)(size:Int)(x:bC):Prop:=∃(k:Nat) (y:bC),y ∈ o∧x=⟨y.at_+k*size,y.off⟩
def ac6(tr o:List bC)(size b:Int)(x:bC):Prop:=x ∈ tr∨Mem o size x∧b≤x.at_
def ea(P:bC→Prop)(t:Int):Option bC→Prop
 | some x=>P x∧x.at_≤t∧∀ y,P y→y.at_≤t→y.at_≤x.at_| none=>∀ y,P y→t<y.at_
def Nt(P:bC→Prop):Prop:=∀ x y,P x→P y→x.at_+2160≤y.at_∨y.at_+2160≤x.at_∨x=y
theorem ea.uniq{P:bC→Prop}{t:Int}(m:Nt P):∀ {r q:Option bC},ea P t r→ea P t q→r=q
 | none,ab,_,_=>rfl| none,aa y,d,g=>by have j:=d y g.1;have l:=g.2.1;omega
 | some x,ab,d,g=>by have j:=g x d.1;have l:=d.2.1;omega
 | some x,aa y,d,g=>by
  have a:=d.2.2 y g.1 g.2.1;have b:=g.2.2 x d.1 d.2.1;rcases m x y d.1 g.1 with h | h | h
  ·omega
  ·omega
  ·rw [h]
theorem ea.back{P:bC→Prop}{t s:Int}{x:bC}(h:ea P t (aa x))(b:x.at_≤s)(d:s≤t):ea P s (aa x):=⟨h.1,b,fun y hy g=>h.2.2 y hy (by omega)⟩
theorem ea.rV{P:bC→Prop}{t s:Int}(h:ea P t ab)(b:s≤t):ea P s ab:=fun y hy=>by have:=h y hy;omega
section
variable{o:List bC}{size:Int}
theorem eG(h:c6 o size=ae){i j:Nat}(l:i<j)(m:j<o.length):o[i].at_+2160≤o[j].at_:=by
 have d:=yv h i o[i] o[i+1] (AT (by omega)) (AT (by omega));rcases asi (show i+1≤j by omega)with b | b
 ·have g:=ar1.1 (hV h) (i+1) j (by omega) m b;unfold ZM at g;omega
 ·subst b;exact d
theorem Cu(h:c6 o size=ae){i:Nat}(hi:i<o.length):o[i].at_+2160≤(o[0]'(by omega)).at_+size:=by
 have d:o.length-1<o.length:=by omega
 have g:=arX.1 h (o.length-1) (by simpa using d);simp only [AT d,dP,asJ.2 (show o.length≤o.length-1+1 by omega),AT (show 0<o.length by omega)]at g;have j:=of_decide_eq_true g;rcases asi (show i≤o.length-1 by omega)with b | b
 ·have:=eG h b d;omega
 ·subst b;omega
theorem gC{k m:Nat}(b:0≤size)(h:k<m):(k:Int)*size+size≤(m:Int)*size:=by
 have:=Int.mul_le_mul_of_nonneg_right (show((k:Int)+1)≤(m:Int) by omega) b;rw [as6,asZ]at this;exact this
theorem ei(h:c6 o size=ae){x:bC}(d:x ∈ o):∃ g:0<o.length,o[0].at_≤x.at_∧x.at_+2160≤o[0].at_+size:=by
 obtain⟨i,hi,rfl⟩:=arS d;refine⟨by omega,?_,Cu h hi⟩;rcases asq i with rfl | b
 ·omega
 ·have:=eG h b hi;omega
theorem L_(h:c6 o size=ae)(l:0≤size):Nt (Mem o size):=by
 rintro x y ⟨k,a,d,rfl⟩ ⟨m,b,g,rfl⟩;obtain⟨v,a1,s⟩:=ei h d;obtain⟨_,b1,u⟩:=ei h g;simp only;rcases ash k m with e | e | e
 ·have:=gC l e;left;omega
 ·subst e;obtain⟨i,hi,rfl⟩:=arS d;obtain⟨j,q,rfl⟩:=arS g;rcases ash i j with e | e | e
  ·have:=eG h e q;left;omega
  ·subst e;right;right;rfl
  ·have:=eG h e hi;right;left;omega
 ·have:=gC l e;right;left;omega
theorem tp(h:c6 o size=ae){t k:Int}{x:bC}(g:ij o size t k=aa x):(∃ y ∈ o,x=⟨y.at_+k*size,y.off⟩)∧t≤x.at_∧∀ b ∈ o,t≤b.at_+k*size→x.at_≤b.at_+k*size:=by
 unfold ij at g;rw [IN]at g;obtain⟨y,l,rfl⟩:=g;rw [ato]at l;obtain⟨d,i,hi,rfl,v⟩:=l;have d:=of_decide_eq_true d;refine⟨⟨_,IT hi,rfl⟩,d,fun b q s=>?_⟩;obtain⟨j,u,rfl⟩:=arS q;rcases ash i j with e | e | e
 ·have:=eG h e u;simp only;omega
 ·subst e;exact asR _
 ·have m:=v j e;simp at m;omega
theorem Fb{t k:Int}(d:ij o size t k=ab):∀ b ∈ o,b.at_+k*size<t:=by
 intro b g;unfold ij at d;rw [Option.map_eq_none_iff,as9]at d;have:=d b g;simp at this;exact this
theorem ahl(h:c6 o size=ae)(O:0<size){t:Int}{x:bC}(d:tn o size t=aa x):∀ y,Mem o size y→t≤y.at_→x.at_≤y.at_:=by
 rintro y ⟨m,b,q,rfl⟩ s;simp only at s ⊢;obtain⟨F,b1,N⟩:=ei h q;have B:turns o size t=if o[0].at_<t then(t-o[0].at_) / size else 0:=by unfold turns;rw [AT F]
 have J:0≤turns o size t:=by rw [B];split;exact asY (by omega) (by omega);omega
 have Q:=asx (t-o[0].at_) size;have S:=asd (t-o[0].at_) (show size≠0 by omega);have j:turns o size t=0∨o[0].at_+turns o size t*size≤t:=by
  rw [B];split
  ·right;rw [asO];omega
  ·left;rfl
 obtain⟨K,E⟩:∃ K:Nat,turns o size t=(K:Int):=⟨(turns o size t).toNat,by omega⟩
 unfold tn at d;rw [E]at d j;have l:K≤m:=by
  rcases Nat.lt_or_ge m K with e | e
  ·exfalso;have g:=gC (size:=size) (by omega) e;rcases j with H | H
   ·omega
   ·omega
  ·exact e
 cases g:ij o size t (K:Int)with
 | some z=>
  rw [g]at d;simp at d;subst d;obtain⟨⟨w,A,rfl⟩,_,v⟩:=tp h g;obtain⟨_,L,M⟩:=ei h A;rcases asi l with e | e
  ·have:=gC (size:=size) (by omega) e;simp only;omega
  ·subst e;exact v b q s
 | none=>
  rw [g]at d;simp at d;have v:=Fb g;rcases asi l with e | e
  ·obtain⟨⟨w,A,rfl⟩,_,I⟩:=tp h d;obtain⟨_,L,M⟩:=ei h A;rcases asi (show K+1≤m by omega)with u | u
   ·have:=gC (size:=size) (by omega) u;rw [show((K+1:Nat):Int)=(K:Int)+1 by omega]at this;simp only;omega
   ·subst u;rw [show((K+1:Nat):Int)=(K:Int)+1 by omega]at s ⊢;exact I b q s
  ·subst e;have:=v b q;omega
end
structure dZ(z:ZD)(o:List bC):Prop where
 c:z.c<3
 st:-1080≤z.start∧z.start≤1080
 tl:z.tr.length≤3
 tb:∀ x ∈ z.tr,0≤x.at_∧x.at_<z.dJ∧-1080≤x.off∧x.off≤1080
 ts:∀(i:Nat) x y,z.tr[i]?=aa x→z.tr[i+1]?=aa y→x.at_+2160≤y.at_
 ho:0≤z.dJ∧z.dJ≤40000
 y:(z.yr=[]∧o=[])∨∃ r q,z.yr=[r,q]∧r.OK∧q.OK∧dM (oJ z.c r q (nY z.c)) o∧c6 o (Go.Proofs.YtmbjejcfadllnaaGreat.cyc z.c*1440)=ae ∧
  ∀ x a,tn o (Go.Proofs.YtmbjejcfadllnaaGreat.cyc z.c*1440) z.dJ=aa x→a ∈ z.tr→a.at_+2160≤x.at_
theorem pD:∀ {l:List bC},(∀(i:Nat) x y,l[i]?=aa x→l[i+1]?=aa y→x.at_+2160≤y.at_)→∀(i j:Nat) (d:i<j) (g:j<l.length),l[i].at_+2160≤l[j].at_:=by
 intro l h i j d g;have m:=h i l[i] l[i+1] (AT (by omega)) (AT (by omega));rcases asi (show i+1≤j by omega)with b | b
 ·have q:=ar1.1 (oE h) (i+1) j (by omega) g b;unfold ZM at q;omega
 ·subst b;exact m
theorem dZ.Lp{z:ZD}{o:List bC}(h:dZ z o):1≤z.cyc∧z.cyc≤217:=by
 unfold ZD.cyc;split
 ·omega
 ·have:cyc z.c=91∨cyc z.c=217:=by unfold cyc jk;split<;>simp
  omega
theorem dZ.sp{z:ZD}{o:List bC}(h:dZ z o):c6 o (z.cyc*1440)=ae:=by
 rcases h.y with⟨e,rfl⟩ | ⟨r,q,e,-,-,-,b,-⟩
 ·rfl
 ·have:z.cyc=cyc z.c:=by simp [ZD.cyc,e]
  rw [this];exact b
theorem dZ.apart{z:ZD}{o:List bC}(h:dZ z o):Nt (ac6 z.tr o (z.cyc*1440) z.dJ):=by
 have hc:=h.Lp;have K:=L_ h.sp (by omega);have d:∀ x y,x ∈ z.tr→Mem o (z.cyc*1440) y→z.dJ≤y.at_→x.at_+2160≤y.at_:=by
  intro x y g hy I;rcases h.y with⟨e,rfl⟩ | ⟨r,q,e,-,-,-,N,F⟩
  ·obtain⟨k,b,u,_⟩:=hy;cases u
  ·have v:z.cyc=cyc z.c:=by simp [ZD.cyc,e]
   rw [←v]at F;have m:=h.sp;cases l:tn o (z.cyc*1440) z.dJ with
   | some w=>
    have L:=ahl m (by omega) l y hy I;have M:=F w x l g;omega
   | none=>
    exfalso;obtain⟨k,b,u,rfl⟩:=hy;obtain⟨E,b1,b2⟩:=ei m u;unfold tn at l;simp only [Option.or_eq_none_iff]at l;have s:=Fb l.2 _ (IT E);have H:turns o (z.cyc*1440) z.dJ=if o[0].at_<z.dJ then(z.dJ-o[0].at_) / (z.cyc*1440)else 0:=by unfold turns;rw [AT E]
    have O:=asx (z.dJ-o[0].at_) (z.cyc*1440);have Q:=asj (z.dJ-o[0].at_) (show 0<z.cyc*1440 by omega);rw [as6,asZ,H]at s;split at s
    ·rw [asO ((z.dJ-o[0].at_) / (z.cyc*1440))]at s;omega
    ·omega
 rintro x y (g | ⟨g,A⟩) (hy | ⟨hy,B⟩)
 ·obtain⟨i,hi,rfl⟩:=arS g;obtain⟨j,J,rfl⟩:=arS hy;rcases ash i j with e | e | e
  ·left;exact pD h.ts i j e J
  ·subst e;right;right;rfl
  ·right;left;exact pD h.ts j i e hi
 ·left;exact d x y g hy B
 ·right;left;exact d y x hy g A
 ·exact K x y g hy
def ld(z:ZD)(g:Tg)(o:List bC):List FC:=z.row++[sl g (aT o),fi z.cyc]
abbrev sY(z:ZD)(g:Tg)(o:List bC):V:=.c (.f (.fp (ld z g o) 0))
section
variable{H:aj}{z:ZD}{g:Tg}{o:List bC}
theorem ah_(b:z.c<3):aU H ab (.c (.f (.fp (ld z g o) 4)))=aa (vi z.start):=by
 obtain⟨c,s,j,tr,d,l,yr⟩:=z;have:c=0∨c=1∨c=2:=by simp at b;omega
 rcases this with rfl | rfl | rfl<;>simp [aU,aC,ld,ZD.row,gh,aK]
theorem DQ(b:z.c<3):aU H ab (.c (.f (.fp (ld z g o) 5)))=aa (.c (.f (sl z.tg (aT z.tr)))):=by
 obtain⟨c,s,j,tr,d,l,yr⟩:=z;have:c=0∨c=1∨c=2:=by simp at b;omega
 rcases this with rfl | rfl | rfl<;>simp [aU,aC,ld,ZD.row,gh,aK]
theorem XW(b:z.c<3):aU H ab (.c (.f (.fp (ld z g o) 6)))=aa (vi z.dJ):=by
 obtain⟨c,s,j,tr,d,l,yr⟩:=z;have:c=0∨c=1∨c=2:=by simp at b;omega
 rcases this with rfl | rfl | rfl<;>simp [aU,aC,ld,ZD.row,gh,aK]
theorem qj(b:z.c<3):aU H ab (.c (.f (.fp (ld z g o) 8)))=aa (.c (.f (sl g (aT o)))):=by
 obtain⟨c,s,j,tr,d,l,yr⟩:=z;have:c=0∨c=1∨c=2:=by simp at b;omega
 rcases this with rfl | rfl | rfl<;>simp [aU,aC,ld,ZD.row,gh,aK]
theorem al9(b:z.c<3):aU H ab (.c (.f (.fp (ld z g o) 9)))=aa (vi z.cyc):=by
 obtain⟨c,s,j,tr,d,l,yr⟩:=z;have:c=0∨c=1∨c=2:=by simp at b;omega
 rcases this with rfl | rfl | rfl<;>simp [aU,aC,ld,ZD.row,gh,aK]
end
theorem kH{z:ZD}{g:Tg}{o:List bC}(d:z.c<3)(l:0≤z.cyc)(m:z.cyc≤1000000)(H:aj) :
  Ev tab.get (.fn 132) [sY z g o] H (vi (z.cyc*1440)) H:=by
 obtain⟨r,H',j,rfl,rfl⟩:∃ r H',Ev tab.get (.fn 132) [sY z g o] H r H'∧r=vi (z.cyc*1440)∧H'=H:=by
  refine dn rfl rfl fun Q b=>?_;apply ai;simp;apply ai;simp [al9 d,aQ (n:=z.cyc*1440)];exact aJ (b _ _ _ rfl (kM (by simp)) ⟨rfl,rfl⟩)
 exact j
section
variable{g:Tg}{o:List bC}
theorem zR(H:aj)(d:0<o.length):bH H (.f (sl g (aT o)))=aa o.length:=by
 have b:¬ (aT o).isEmpty=ae:=by
  intro h;have:o=[]:=by simpa [aT]using h
  subst this;simp at d
 simp [sl,b,bH]
theorem eF(H:aj){i:Nat}(hi:i<o.length):aP H 2 ab (.c (.f (sl g (aT o)))) (vi i)=aa (.c (.f (.fp (aT o).flatten (i*2)))):=by
 have:=c5 (H:=H) (g:=g) (rows:=aT o) (sz:=2) (k:=.i64) (i:=(i:Int)) (by omega) (by simp;omega);simpa using this
theorem mI(H:aj){i:Nat}(hi:i<o.length):aU H ab (.c (.f (.fp (aT o).flatten (i*2))))=aa (vi o[i].at_):=kF (cu o) (dk (AT hi)) rfl
theorem nQ(H:aj){i:Nat}(hi:i<o.length):aU H (aa 2) (.c (.f (.fp (aT o).flatten (i*2))))=aa (.a (o[i].row.map .f)):=fM (cu o) (dk (AT hi))
end
theorem jT{b:Type}{f:b→b→Bool}:∀ {xs:List b},(∀ x ∈ xs,f x x=ae)→jS f xs xs=ae
 | [],_=>rfl| x::xs,h=>by simp only [jS,h x arU,jT fun y d=>h y (List.mem_cons_of_mem _ d),Bool.and_self]
theorem nh{n:Nat}{xs:List FC}(h:∀ x ∈ xs,∃ k m,x=FC.int k m):jS (FC.beq n) xs xs=ae:=jT fun x b=>by
 obtain⟨k,m,rfl⟩:=h x b;cases n<;>simp [FC.beq]
theorem qK(o:List bC):∀ x ∈ (aT o).flatten,∃ k m,x=FC.int k m:=by
 intro x b;obtain⟨r,hr,b⟩:=List.mem_flatten.1 b;obtain⟨y,-,rfl⟩:=ase.1 hr;simp [bC.row]at b;rcases b with rfl | rfl<;>exact⟨_,_,rfl⟩
theorem W_(g:Tg)(o:List bC):FC.beq 64 (sl g (aT o)) (sl g (aT o))=ae:=by
 unfold sl;split
 ·cases g<;>rfl
 ·simp [FC.beq,nh (qK o)]
def rnd(o:List bC)(size t:Int):Int:=match o[0]? with
 | some x=>max (t-x.at_) 0 / size| none=>0
theorem Ck{z:ZD}{g:Tg}{o:List bC}(d:z.c<3)(x:1≤z.cyc)(y:z.cyc≤217)(b:0<o.length)(v:pI o[0]){t:Int}(t0:-10000000≤t)(t1:t≤10000000) :
  bA tab.get 134 [sY z g o,vi t]=Eq (vi (rnd o (z.cyc*1440) t)):=bA.eq (by
 refine bG rfl rfl fun Q u=>?_;unfold pI at v;have i0:=fun H=>eF (g:=g) H b;have m:=fun H=>mI H b;simp only [Nat.zero_mul,as7]at i0 m;have q:=fun H=>(kH (g:=g) (o:=o) d (by omega) (by omega) H).eq;have hr:rnd o (z.cyc*1440) t=max (t-o[0].at_) 0 / (z.cyc*1440):=by unfold rnd;rw [AT b]
 have s:bS .quo (vi (max (t-o[0].at_) 0)) (vi (z.cyc*1440))=aa (vi (max (t-o[0].at_) 0 / (z.cyc*1440))):=YV (by omega) (by omega) (by omega);apply ai;simp;refine aq (fV (.inl rfl) ?_ ?_)
 case refine_2=>
  intro c l;have j:c=(4,14)∨c=(5,14)∨c=(7,14):=by simpa using l
  rcases j with rfl | rfl | rfl
  all_goals
   refine⟨by decide,_,rfl,.inl ⟨by decide,?_⟩⟩;simp [qj d,i0,m,q,jh,aQ (n:=t-o[0].at_),s]
   first | rfl | exact W_ g o | exact nh (qK o) | simp [V.beq,C.beq,FC.beq,nh (qK o)]
 simp [qj d,i0,m,q,aQ (n:=t-o[0].at_),s];refine aJ (u _ _ ?_);simp [hr])
theorem LW(x:bC)(t:Int):Kf tab.get 135 [.a (x.row.map .f),vi t] (vi (lv x.at_ t)):=by
 refine qh rfl rfl fun H Q b=>?_;apply ai;simp [bC.row];apply ai;simp [oZ];refine aJ (b _ _ ?_);simp
theorem oa{a b:Int}:0≤lv a b↔b≤a:=by unfold lv;split<;>(try split)<;>omega
theorem uE{a b:Int}:0<lv a b↔b<a:=by unfold lv;split<;>(try split)<;>omega
theorem bsT(g:Tg)(l:List bC)(E:l.Pairwise ZM)(F:l.length≤1000)(t:Int):∃(i:Nat) (w:Bool),i≤l.length∧(∀ j (d:j<l.length),j<i→l[j].at_<t)∧(∀ j (d:j<l.length),i≤j→t≤l[j].at_)∧(w=ae↔∃ h:i<l.length,l[i].at_=t) ∧
  bA tab.get 136 [.c (.f (sl g (aT l))),vi t,.c (.f (.fn 135 []))]=Eq (.t [vi i,vb w]):=by
 have B:tab.get 136=aa (Fk 2):=agU;have b:∀(j:Nat) (d:j<(aT l).length),(aT l)[j]=(l[j]'(by simpa using d)).row:=fun j d=>by simp [aT]
 obtain⟨i,u,v,y,w,z,A⟩:=Du B g (aT l) (cu l) (.c (.f (.fn 135 []))) (fi t) (fun r=>lv (sZ r).at_ t) (by simp;omega)
  (fun r hr=>by
   obtain⟨x,-,rfl⟩:=ase.1 hr;exact⟨135,_,by simp [bZ],LW x t⟩)
  (fun i j hi d h=>by
   have s:j<l.length:=by simpa using d
   have q:i<l.length:=by omega
   simp only [b]at h ⊢;have:=ar1.1 E i j q s hi;unfold ZM at this;rw [oa]at h;rw [uE];show t<l[j].at_;have h:t≤l[i].at_:=h;omega)
 refine⟨i,w,by simpa using u,fun j d m=>?_,fun j d m=>?_,?_,A⟩
 ·have:=v j (by simpa using d) m;rw [b,lz]at this;exact this
 ·have:=y j (by simpa using d) m;rw [b,oa]at this;exact this
 ·rw [z];constructor
  ·rintro⟨h,e⟩;rw [b,jM]at e;exact⟨by simpa using h,e⟩
  ·rintro⟨h,e⟩;refine⟨by simpa using h,?_⟩;rw [b,jM];exact e
theorem MK{o:List bC}{size t:Int}(h:c6 o size=ae)(u:0<size)(A:0<o.length)(E:o[0].at_≤t){i:Nat}(hi:i<o.length)(l:∀ j (g:j<o.length),i<j→t-(t-o[0].at_) / size*size<o[j].at_) :
  ∀ y,Mem o size y→y.at_≤t→y.at_≤o[i].at_+(t-o[0].at_) / size*size:=by
 rintro y ⟨m,b,d,rfl⟩ v;simp only at v ⊢;have q:=asx (t-o[0].at_) size;have F:=asd (t-o[0].at_) (show size≠0 by omega);have H:=asj (t-o[0].at_) u;have B:0≤(t-o[0].at_) / size:=asY (by omega) (by omega);rw [asO]at q;obtain⟨K,s⟩:∃ K:Nat,(t-o[0].at_) / size=(K:Int):=⟨((t-o[0].at_) / size).toNat,by omega⟩
 rw [s]at q l ⊢;obtain⟨_,b1,z⟩:=ei h d;obtain⟨_,a1,x⟩:=ei h (IT hi);rcases ash m K with e | e | e
 ·have:=gC (size:=size) (by omega) e;omega
 ·subst e;obtain⟨j,g,rfl⟩:=arS d;rcases ash i j with e | e | e
  ·have:=l j g e;omega
  ·subst e;exact asR _
  ·have:=eG h e hi;omega
 ·have:=gC (size:=size) (by omega) e;omega
theorem ad2{z:ZD}{o:List bC}(h:dZ z o)(hb:∀ x ∈ o,pI x)(hl:o.length≤100)(g:Tg)(t:Int)(t0:-10000000≤t)(t1:t≤10000000) :
  ∃ r:Option bC,ea (ac6 z.tr o (z.cyc*1440) z.dJ) t r∧bA tab.get 92 [sY z g o,vi t]=Eq (.t [.a ((r.getD ⟨0,0⟩).row.map .f),vb r.isSome]):=by
 obtain⟨rr,⟨r,hr,rfl⟩,hp⟩:∃ rr,(∃ r:Option bC,ea (ac6 z.tr o (z.cyc*1440) z.dJ) t r∧rr=.t [.a ((r.getD ⟨0,0⟩).row.map .f),vb r.isSome])∧bA tab.get 92 [sY z g o,vi t] rr:=by
  have J:=h.c;have Y:=h.Lp;have F:=h.sp;have d9:=oE h.ts;have e_:=h.tl;refine bQ rfl rfl fun Q hQ=>?_;apply ai;simp;apply ai;simp;apply aq;have M:(∀ y,Mem o (z.cyc*1440) y→z.dJ≤y.at_→t<y.at_)→∀(l:T) (H:aj),H[0]?=aa (.box [.f (fi 0),.f (fi 0)] 0)→l.g 0=sY z g o→l.g 1=vi t→l.g 4=.c (.ptr 0 0 0)→l.g 6=.c (.f (.fn 135 [])) →
    WP tab.get 92 ab [.code ri] ⟨l,[],H⟩ Q:=by
   intro a9 l H hH I g1 v g6;obtain⟨i,w,hi,i1,i2,hw,N⟩:=bsT z.tg z.tr d9 (by omega) t;have Z:=au hH;apply ai;simp [I,g1,g6,DQ J,N];have s:∀(k:Nat) (u:k<z.tr.length),z.tr[k].at_≤t→(∀ j (d:j<z.tr.length),k<j→t<z.tr[j].at_)→∀ l:T,l.g 0=sY z g o→l.g 4=.c (.ptr 0 0 0)→l.g 11=vi (k:Nat)→WP tab.get 92 ab [.code xa] ⟨l,[],H⟩ Q:=by
    intro k u k1 k2 l I v U;have ii:=eF (g:=z.tg) H u;have ll:=nQ H u;apply aq;apply ai;simp [U];refine a5 (by simp) ?_;apply ai;simp [I,v,U,DQ J,ii,ll,hH,bC.row];refine aJ (hQ _ _ _ ⟨aa z.tr[k],⟨.inl (IT u),k1,?_⟩,rfl⟩ ?_)
    ·rintro y (q | ⟨q,K⟩) b_
     ·obtain⟨j,d,rfl⟩:=arS q;rcases ash k j with e | e | e
      ·have:=k2 j d e;omega
      ·subst e;exact asR _
      ·have:=pD h.ts j k e u;omega
     ·have:=a9 y q K;omega
    ·simp [bC.row,v,Z]
   apply aq;apply ai;simp;cases w with
   | true=>
    obtain⟨S,e⟩:=hw.1 rfl;refine a5 (by simp) ?_;exact s i S (by omega) (fun j d m=>by have:=pD h.ts i j m d;omega) _ (by simp [I]) (by simp [v]) (by simp)
   | false=>
    refine ak (by simp) ?_;refine av (.inl rfl) ?_;simp [aQ (n:=(i:Int)-1)];have E:∀ j (d:j<z.tr.length),i≤j→t<z.tr[j].at_:=by
     intro j d m;have a:=i2 j d m;rcases asi m with e | e
     ·have b:=i2 i (by omega) (OF _);have:=pD h.ts i j e d;omega
     ·subst e;rcases Int.lt_or_eq_of_le a with e | e
      ·exact e
      ·exact absurd (hw.2 ⟨d,e.symm⟩) (by simp)
    by_cases A:i=0
    ·subst A;apply aq;apply ai;simp;refine ak (by simp) ?_;apply ai;simp [v,hH];refine aJ (hQ _ _ _ ⟨ab,?_,rfl⟩ ?_)
     ·rintro y (q | ⟨q,K⟩)
      ·obtain⟨j,d,rfl⟩:=arS q;exact E j d (by omega)
      ·exact a9 y q K
     ·simp [bC.row,v,Z]
    ·obtain⟨k,rfl⟩:∃ k,i=k+1:=⟨i-1,by omega⟩
     rw [show(((k+1:Nat):Int)-1)=(k:Int) by omega];exact s k (by omega) (by have:=i1 k (by omega) (by omega);omega) (fun j d d5=>E j d (by omega)) _ (by simp [I]) (by simp [v]) (by simp)
  apply aq;by_cases A:0<o.length
  case neg=>
   have:o=[]:=anc (by omega);subst this;have d8:∀ H:aj,bH H (.f (sl g (aT [])))=aa 0:=by intro H;cases g<;>rfl
   refine av (.inl rfl) ?_;simp [qj J,d8];refine a5 (by simp) ?_;exact M (fun y q _=>by obtain⟨k,b,hb,_⟩:=q;cases hb) _ _ rfl (by simp) (by simp) (by simp) (by simp)
  have X:=hb _ (IT A);have i0:=fun H=>eF (g:=g) H A;have l0:=fun H=>mI H A;simp only [Nat.zero_mul,as7]at i0 l0;refine av (.inl rfl) ?_;simp [qj J,zR _ A,i0,l0,A];by_cases O:o[0].at_≤t
  case neg=>
   refine a5 (by simp [O]) ?_;refine M (fun y q _=>?_) _ _ rfl (by simp) (by simp) (by simp) (by simp);obtain⟨k,b,c_,rfl⟩:=q;obtain⟨_,b1,b2⟩:=ei F c_;have:0≤(k:Int)*(z.cyc*1440):=ate (by omega) (by omega);simp only;omega
  refine ak (by simp [O]) ?_;have a_:=Ck (g:=g) J Y.1 Y.2 A X t0 t1;have d6:=(kH (g:=g) (o:=o) J (by omega) (by omega) [.box [.f (fi 0),.f (fi 0)] 0]).eq;unfold pI at X;have d7:rnd o (z.cyc*1440) t=(t-o[0].at_) / (z.cyc*1440):=by
   unfold rnd;rw [AT A];simp only;rw [Int.max_eq_left (by omega)]
  rw [d7]at a_;have q0:=asx (t-o[0].at_) (z.cyc*1440);have q1:=asd (t-o[0].at_) (show z.cyc*1440≠0 by omega);have q2:=asj (t-o[0].at_) (show 0<z.cyc*1440 by omega);rw [asO]at q0;have W:0≤(t-o[0].at_) / (z.cyc*1440):=asY (by omega) (by omega);have c9:0≤(t-o[0].at_) / (z.cyc*1440)*(z.cyc*1440):=ate W (by omega);have b9:=fun i hi hn=>MK (t:=t) F (by omega) A O (i:=i) hi hn;obtain⟨B,hB⟩:=aO ((t-o[0].at_) / (z.cyc*1440)*(z.cyc*1440));have a8:∀ i (hi:i<o.length),Mem o (z.cyc*1440) ⟨o[i].at_+B,o[i].off⟩:=fun i hi=>⟨((t-o[0].at_) / (z.cyc*1440)).toNat,o[i],IT hi,by rw [asK W,hB]⟩
  rw [←hB]at q0 c9 b9;apply ai;simp [a_,d6,←hB,aQ (n:=B)];obtain⟨i,w,hi,i1,i2,hw,N⟩:=bsT g o (hV F) (by omega) (t-B);apply ai;simp [qj J,aQ (n:=t-B),N];have s:∀(k:Nat) (u:k<o.length),o[k].at_≤t-B→(∀ j (d:j<o.length),k<j→t-B<o[j].at_)→∀ l:T,l.g 0=sY z g o→l.g 1=vi t→l.g 4=.c (.ptr 0 0 0)→l.g 6=.c (.f (.fn 135 []))→l.g 7=vi B→l.g 8=vi (k:Nat)→WP tab.get 92 ab [.code w_,.code ri] ⟨l,[],[.box [.f (fi 0),.f (fi 0)] 0]⟩ Q:=by
   intro k u k1 k2 l I g1 v g6 g7 g8;have ii:=fun H=>eF (g:=g) H u;have ll:=fun H=>nQ H u;have d3:=hb _ (IT u);unfold pI at d3;have L:=b9 k u k2;apply ai;simp [I,g8,qj J,ii,ll,bC.row];apply aq;refine av (.inl rfl) ?_;simp [I,g7,XW J,aQ (n:=o[k].at_+B)];by_cases hh:z.dJ≤o[k].at_+B
   ·refine ak (by simp [hh]) ?_;apply ai;simp [g7,aQ (n:=o[k].at_+B)];apply ai;simp [v,aK];refine aJ (hQ _ _ _ ⟨aa ⟨o[k].at_+B,o[k].off⟩,⟨.inr ⟨a8 k u,hh⟩,by show o[k].at_+B≤t;omega,?_⟩,rfl⟩ ?_)
    ·rintro y (q | ⟨q,K⟩) b_
     ·have:=(h.tb y q).2.1;show y.at_≤o[k].at_+B;omega
     ·exact L y q b_
    ·simp [bC.row,v]
   ·refine al (by simp;omega) (aL ?_);refine M (fun y q f9=>?_) _ _ rfl (by simp [I]) (by simp [g1]) (by simp [v]) (by simp [g6]);rcases Int.lt_or_le t y.at_ with e | e
    ·exact e
    ·have:=L y q e;omega
  apply aq;apply ai;simp;cases w with
  | true=>
   obtain⟨S,e⟩:=hw.1 rfl;refine a5 (by simp) ?_;exact s i S (by omega) (fun j d m=>by have:=eG F m d;omega) _ (by simp) (by simp) (by simp) (by simp) (by simp) (by simp)
  | false=>
   refine ak (by simp) ?_;refine av (.inl rfl) ?_;simp [aQ (n:=(i:Int)-1)];have E:∀ j (d:j<o.length),i≤j→t-B<o[j].at_:=by
    intro j d m;have a:=i2 j d m;rcases asi m with e | e
    ·have b:=i2 i (by omega) (OF _);have:=eG F e d;omega
    ·subst e;rcases Int.lt_or_eq_of_le a with e | e
     ·exact e
     ·exact absurd (hw.2 ⟨d,e.symm⟩) (by simp)
   have d_:i≠0:=by
    rintro rfl;have:=E 0 A (OF _);omega
   obtain⟨k,rfl⟩:∃ k,i=k+1:=⟨i-1,by omega⟩
   rw [show(((k+1:Nat):Int)-1)=(k:Int) by omega];exact s k (by omega) (by have:=i1 k (by omega) (by omega);omega) (fun j d d5=>E j d (by omega)) _ (by simp) (by simp) (by simp) (by simp) (by simp) (by simp)
 exact⟨r,hr,bA.eq hp⟩
theorem va{c y:Nat}{r q:ey}(hr:r.OK):∀ x ∈ en c (y+1) r q,-1080≤x.off∧x.off≤1080:=by
 intro x b;obtain⟨-,-,-,-,-,-,p0,p1⟩:=hr;simp only [en]at b;split at b
 ·simp only [List.mem_singleton]at b;subst b;exact⟨p0,p1⟩
 ·cases b
theorem Cd{c:Nat}{r q:ey}(hr:r.OK)(d:q.OK):∀ n,∀ x ∈ oJ c r q n,-1080≤x.off∧x.off≤1080
 | 0,x,b=>by cases b
 | n+1,x,b=>by
  simp only [oJ,ar3]at b;rcases b with b | b | b
  ·exact Cd hr d n x b
  ·exact va hr x b
  ·exact va d x b
section
variable{z:ZD}{o:List bC}
theorem dZ.bd(h:dZ z o):∀ x ∈ o,pI x∧-1080≤x.off∧x.off≤1080:=by
 rcases h.y with⟨-,rfl⟩ | ⟨r,q,e,hr,d,hi,-,-⟩
 ·intro x b;cases b
 ·exact fun x b=>⟨qA h.c hr d _ (OF _) x (hi.perm.subset b),Cd hr d _ x (hi.perm.subset b)⟩
theorem dZ.len(h:dZ z o):o.length≤28:=by
 rcases h.y with⟨-,rfl⟩ | ⟨r,q,e,hr,g,hi,-,-⟩
 ·simp
 ·have b:=kg z.c r q (nY z.c);have d:=xV z.c;have:=hi.len;omega
abbrev dZ.S{z:ZD}{o:List bC}(_:dZ z o):bC→Prop:=ac6 z.tr o (z.cyc*1440) z.dJ
theorem dZ.off(h:dZ z o){x:bC}(d:h.S x):-1080≤x.off∧x.off≤1080:=by
 rcases d with d | ⟨⟨k,b,g,rfl⟩,_⟩
 ·exact(h.tb x d).2.2
 ·exact(h.bd b g).2
theorem dZ.last(h:dZ z o)(g:Tg){t:Int}(t0:-10000000≤t)(t1:t≤10000000) :
  ∃ r:Option bC,ea h.S t r∧bA tab.get 92 [sY z g o,vi t]=Eq (.t [.a ((r.getD ⟨0,0⟩).row.map .f),vb r.isSome]):=
 ad2 h (fun x b=>(h.bd x b).1) (by have:=h.len;omega) g t t0 t1
end
def offO(z:ZD):Option bC→Int
 | some x=>x.off| none=>z.start
theorem dZ.offO{z:ZD}{o:List bC}(h:dZ z o){t:Int}{r:Option bC}(hr:ea h.S t r):-1080≤offO z r∧offO z r≤1080:=by
 cases r with
 | none=>exact h.st| some x=>exact h.off hr.1
theorem xY{z:ZD}{o:List bC}(h:dZ z o)(g:Tg){t:Int}(t0:-10000000≤t)(t1:t≤10000000) :
  ∃ r:Option bC,ea h.S t r∧bA tab.get 93 [sY z g o,vi t]=Eq (vi (offO z r)):=by
 obtain⟨r,hr,j⟩:=h.last g t0 t1;refine⟨r,hr,bA.eq ?_⟩;have d:=h.c;refine bG rfl rfl fun Q b=>?_;apply ai;simp;apply aq;apply ai;simp [j,bC.row];apply aq;refine av (.inl rfl) ?_;simp;cases r with
 | some x=>
  refine ak (by simp) ?_;apply ai;simp;refine aJ (b _ _ ?_);simp [Go.Proofs.YtmbjejcfadllnaaGreat.offO]
 | none=>
  refine a5 (by simp) ?_;apply ai;simp [ah_ d];refine aJ (b _ _ ?_);simp [Go.Proofs.YtmbjejcfadllnaaGreat.offO]
def ef(H J:aj):Prop:=∀(i:Nat) y,H[i]?=aa y→J[i]?=aa y
theorem ef.refl(H:aj):ef H H:=fun _ _ h=>h
theorem ef.push{H J:aj}(h:ef H J)(L:aj):ef H (J++L):=fun i y hy=>by have:=h i y hy;rw [At (au this)];exact this
theorem ef.set{H J:aj}(h:ef H J){i:Nat}{x:cT}(b:H[i]?=aa x):ef H (J.set i x):=fun k y hy=>by
 by_cases e:i=k
 ·subst e;rw [b]at hy;cases hy;exact If (au (h i _ b))
 ·rw [AI e];exact h k y hy
theorem MI{o:List bC}{size t:Int}(b:0<o.length):rnd o size t=turns o size t:=by
 unfold rnd turns;rw [AT b];simp only;split
 ·rw [Int.max_eq_left (by omega)]
 ·rw [Int.max_eq_right (by omega)];simp
theorem Fz{z:ZD}{o:List bC}(h:dZ z o)(g:Tg){b bc bt:Nat}{H:aj}{PP:aj→Prop}
  (b9:H[bc]?=aa (.box [.f (.fp (ld z g o) 0)] 0)) (b_:H[bt]?=aa (.box [.f (fi z.dJ)] 0))
  (h0:o=[]→∀ J,ef H J→PP J)
  (w:∀ x,tn o (z.cyc*1440) z.dJ=aa x→∀ J,ef H J→∃ J',Ev tab.get (.yield b) [.a (x.row.map .f)] J (vb ag) J'∧PP J') :
  ∃ r H',Ev tab.get (.fn 133) [.c (.yl b),.c (.ptr bc 0 0),.c (.ptr bt 0 0)] H r H'∧(r=.t []∧PP H'):=by
 have S:=h.c;have c9:=h.Lp;have i_:=h.sp;have g_:=h.ho;refine dn rfl rfl fun Q hQ=>?_;have kc:∀ J,ef H J→J[bc]?=aa (.box [.f (.fp (ld z g o) 0)] 0):=fun J l=>l _ _ b9;have kt:∀ J,ef H J→J[bt]?=aa (.box [.f (fi z.dJ)] 0):=fun J l=>l _ _ b_;apply aq;apply ai;simp [b9,aK,DQ S];refine gu z.tr.length (fun j t J=>ef H J∧t.g 0=.c (.yl b)∧t.g 1=.c (.ptr bc 0 0)∧t.g 2=.c (.ptr bt 0 0)∧t.g 13=.c (.f (sl z.tg (aT z.tr)))) (by have:=h.tl;omega) (by decide) (by decide) (by simp) (by simp)
  ⟨ef.refl H,by simp,by simp,by simp,by simp⟩ ?_ ?_
 ·rintro j t J A ⟨l,v,q,u,X⟩ a hb nx;have f:=eF (g:=z.tg) J A;have E:=nQ J A;have h_:=(h.tb _ (IT A)).2.1;have W:ef H (J++[.box (z.tr[j].row.map .f) 0]):=l.push _;have e2:=kt _ W;simp only [bC.row,aft,apr]at E W e2;refine aB ?_;apply ai;simp [X,a,f,E];apply ai;simp [u,e2,aK,show¬ z.dJ≤z.tr[j].at_ by omega];refine al (by simp) (aL (aw ?_));exact nx _ _ ⟨W,by simp [v],by simp [q],by simp [u],by simp [X]⟩ (by simp [a]) (by simp [hb])
 rintro t J ⟨l,v,q,u,X⟩ a hb;apply aq;have d:=kc J l;have B:=kt J l;by_cases ho:o=[]
 ·subst ho;have e_:∀ H:aj,bH H (.f (sl g (aT [])))=aa 0:=by intro H;cases g<;>rfl
  apply ai;simp [q,d,aK,qj S,e_];refine ak (by simp) ?_;exact aJ (hQ _ _ _ rfl rfl ⟨rfl,h0 rfl J l⟩)
 have U:0<o.length:=asC.2 ho;have a_:=(h.bd _ (IT U)).1;apply ai;simp [q,d,aK,qj S,zR _ U];refine a5 (by simp [ho]) ?_;apply ai;simp [q,u,d,B,aK,XW S];obtain⟨J1,Z⟩:=aO (J.set bt (.box [.f (fi z.dJ)] 0):aj);have M:ef H J1:=by rw [Z];exact l.set b_
 rw [←Z];clear d B l Z;have d:=kc J1 M;have B:=kt J1 M;have O:=(kH (g:=g) (o:=o) S (by omega) (by omega) J1).eq;have k:=Ck (g:=g) (t:=z.dJ) S c9.1 c9.2 U a_ (by omega) (by omega);rw [MI U]at k;unfold pI at a_;obtain⟨K,hK⟩:=aO (turns o (z.cyc*1440) z.dJ);have a8:K=if o[0].at_<z.dJ then(z.dJ-o[0].at_) / (z.cyc*1440)else 0:=by rw [hK];simp [turns,AT U]
 have d_:0<z.cyc*1440:=by omega
 have q0:=asx (z.dJ-o[0].at_) (z.cyc*1440);have q1:=asd (z.dJ-o[0].at_) (show z.cyc*1440≠0 by omega);have q2:=asj (z.dJ-o[0].at_) d_;have d5:0≤K:=by rw [a8];split;exact asY (by omega) (by omega);omega
 have d6:K*(z.cyc*1440)≤2000000∧z.dJ≤o[0].at_+(K+1)*(z.cyc*1440):=by
  rw [a8];split
  ·rw [as6,asZ,asO ((z.dJ-o[0].at_) / (z.cyc*1440))];omega
  ·omega
 have f9:0≤K*(z.cyc*1440):=ate d5 (by omega);rw [←hK]at k;apply ai;simp [q,u,d,B,aK,k,O,aQ (n:=K*(z.cyc*1440))];refine aB ?_;refine bI (fun m s=>∃(e:Int) (t':T) (J:aj),s=⟨t',[],J⟩∧ef H J∧(e=0∧m=1∨e=1∧m=0∧ij o (z.cyc*1440) z.dJ K=ab)∧t'.g 0=.c (.yl b)∧t'.g 1=.c (.ptr bc 0 0)∧t'.g 2=.c (.ptr bt 0 0)∧t'.g 6=vi ((K+e)*(z.cyc*1440))) 1
  ⟨0,_,J1,rfl,M,.inl ⟨rfl,rfl⟩,by simp [v],by simp [q],by simp [u],by simp⟩ ?_
 clear v q u M d B O;rintro m s ⟨e,t',J,rfl,l,he,v,q,u,L⟩ ih;have f_:0≤(K+e)*(z.cyc*1440)∧(K+e)*(z.cyc*1440)≤4000000:=by
  rcases he with⟨rfl,-⟩ | ⟨rfl,-⟩
  ·rw [atf];omega
  ·rw [as6,asZ];omega
 have d:=kc J l;apply aq;refine aB ?_;apply ai;simp [q,d,aK,qj S,zR _ U];refine gu o.length (fun j t J=>ef H J∧(∀ i y,i<j→o[i]?=aa y→decide (z.dJ≤y.at_+(K+e)*(z.cyc*1440))=ag)∧t.g 0=.c (.yl b)∧t.g 1=.c (.ptr bc 0 0)∧t.g 2=.c (.ptr bt 0 0)∧t.g 6=vi ((K+e)*(z.cyc*1440))∧t.g 56=.c (.f (sl g (aT o)))) (by have:=h.len;omega) (by decide) (by decide) (by simp) (by simp)
  ⟨l,fun i y hi=>absurd hi (by omega),by simp [v],by simp [q],by simp [u],by simp [L],by simp⟩ ?_ ?_
 ·clear l d v q u L;rintro j t J A ⟨l,F,v,q,u,L,Y⟩ a a9 nx;have f:=eF (g:=g) J A;have E:=nQ J A;have d8:=(h.bd _ (IT A)).1;unfold pI at d8;have w1:=aQ (n:=o[j].at_+(K+e)*(z.cyc*1440));simp only [bC.row,aft,apr]at E;have W:ef H (J++[.box [.f (fi (o[j].at_+(K+e)*(z.cyc*1440))),.f (fi o[j].off)] 0]):=l.push _;have e2:=kt _ W;refine aB ?_;apply ai;simp [Y,a,f,E];apply ai;simp [L,w1];by_cases N:z.dJ≤o[j].at_+(K+e)*(z.cyc*1440)
  ·have c:ij o (z.cyc*1440) z.dJ (K+e)=aa ⟨o[j].at_+(K+e)*(z.cyc*1440),o[j].off⟩:=by
    have:=Fw (p:=fun x=>decide (z.dJ≤x.at_+(K+e)*(z.cyc*1440))) (AT A) (fun i y hi w=>F i y hi w) (by simp [N]);simp [ij,this]
   have d3:tn o (z.cyc*1440) z.dJ=aa ⟨o[j].at_+(K+e)*(z.cyc*1440),o[j].off⟩:=by
    unfold tn;rw [←hK];rcases he with⟨rfl,-⟩ | ⟨rfl,-,hn⟩
    ·rw [atf]at c ⊢;rw [c];rfl
    ·rw [hn,c];rfl
   obtain⟨J',c_,d7⟩:=w _ d3 _ W;simp only [bC.row,aft,apr]at c_;apply ai;simp [v,u,e2,aK,N,c_.eq];refine ak (by simp) ?_;exact aJ (hQ _ _ _ rfl rfl ⟨rfl,d7⟩)
  ·apply ai;simp [u,e2,aK,N];refine al (by simp) (aL (aw ?_));refine nx _ _ ⟨W,fun i y hi w=>?_,by simp [v],by simp [q],by simp [u],by simp [L],by simp [Y]⟩ (by simp [a]) (by simp [a9]);by_cases d9:i=j
   ·subst d9;rw [AT A]at w;cases w;exact decide_eq_false N
   ·exact F i y (by omega) w
 ·clear l d v q u L;rintro t J ⟨l,F,v,q,u,L,Y⟩ a a9;have I:ij o (z.cyc*1440) z.dJ (K+e)=ab:=by
   have:o.find? (fun x=>decide (z.dJ≤x.at_+(K+e)*(z.cyc*1440)))=ab:=by
    rw [as9];intro x hx;obtain⟨j,A,rfl⟩:=arS hx;have:=F j o[j] A (AT A);simp [this]
   simp [ij,this]
  rcases he with⟨rfl,rfl⟩ | ⟨rfl,rfl,-⟩
  ·rw [atf]at I L;have d:=kc J l;have O:=(kH (g:=g) (o:=o) S (by omega) (by omega) J).eq;refine aw ?_;refine av (.inl rfl) ?_;have hw:ah .i64 (K*(z.cyc*1440)+z.cyc*1440)=(K+1)*(z.cyc*1440):=by
    rw [aQ,as6,asZ]
   simp [q,L,d,aK,O,hw];exact ih 0 _ (by omega) ⟨1,_,J,rfl,l,.inr ⟨rfl,rfl,I⟩,by simp [v],by simp [q],by simp [u],by simp⟩
  ·exfalso;have:=F 0 o[0] U (AT U);have h2:=of_decide_eq_false this;exact h2 d6.2
theorem DR{H:aj}{b d:Nat}{z:ZD}(h:H[b]?=aa (.box (z.row.map .f) d))(g:z.c<3):∃ cs,aU H ab (.c (.ptr b 1 0))=aa (.c (.f (.fs cs 2))):=by
 obtain⟨c,s,l,tr,j,m,yr⟩:=z;have:c=0∨c=1∨c=2:=by simp at g;omega
 rcases this with rfl | rfl | rfl<;>exact⟨_,by simp [aU,aC,h,ZD.row,gh,aK];rfl⟩
theorem adC(x:FC)(t:Int)(H:aj):Ev tab.get (.fn 91) [.c (.f x),vi t] H (.c (.cl 133 [.ptr H.length 0 0,.ptr (H.length+1) 0 0])) (H++[.box [.f x] 0,.box [.f (fi t)] 0]):=by
 obtain⟨r,H',d,rfl,rfl⟩:∃ r H',Ev tab.get (.fn 91) [.c (.f x),vi t] H r H'∧r=.c (.cl 133 [.ptr H.length 0 0,.ptr (H.length+1) 0 0])∧H'=H++[.box [.f x] 0,.box [.f (fi t)] 0]:=by
  refine dn rfl rfl fun Q b=>?_;apply ai;simp;apply ai;simp;exact aJ (b _ _ _ rfl (kM (by simp)) ⟨rfl,rfl⟩)
 exact d
theorem dZ.tick{z:ZD}{o:List bC}(h:dZ z o):∃ g,bA tab.get 90 [z.v]=Eq (.t [sY z g o,vb ae]):=by
 rcases h.y with⟨e,rfl⟩ | ⟨r,q,e,hr,j,hi,l,m⟩
 ·refine⟨.nil,?_⟩;have b:z.cyc=1:=by simp [ZD.cyc,e]
  rw [Zs z h.c e,sY,ld,b];rfl
 ·obtain⟨g,d⟩:=afr z h.c e hr j hi l;refine⟨g,?_⟩;have b:z.cyc=cyc z.c:=by simp [ZD.cyc,e]
  rw [d,sY,ld,b]
theorem dZ.ahk{z:ZD}{o:List bC}(h:dZ z o){x:bC}(b:tn o (z.cyc*1440) z.dJ=aa x):0≤x.at_∧x.at_≤10000000:=by
 have s:=h.Lp;have u:=h.ho;have j:0<o.length:=by
  rcases asq o.length with e | e
  ·have:o=[]:=asr.1 e;subst this;simp [tn,ij]at b
  ·exact e
 have g:=(h.bd _ (IT j)).1;unfold pI at g;have m:turns o (z.cyc*1440) z.dJ=if o[0].at_<z.dJ then(z.dJ-o[0].at_) / (z.cyc*1440)else 0:=by unfold turns;rw [AT j]
 have A:=asx (z.dJ-o[0].at_) (z.cyc*1440);have B:=asd (z.dJ-o[0].at_) (show z.cyc*1440≠0 by omega);have q:turns o (z.cyc*1440) z.dJ*(z.cyc*1440)≤2000000:=by
  rw [m];split
  ·rw [asO];omega
  ·omega
 have key:∀ k,k*(z.cyc*1440)≤4000000→ij o (z.cyc*1440) z.dJ k=aa x→0≤x.at_∧x.at_≤10000000:=by
  intro k v b;obtain⟨⟨y,hy,rfl⟩,l,-⟩:=tp h.sp b;have:=(h.bd _ hy).1;unfold pI at this;simp only at l ⊢;omega
 unfold tn at b;cases d:ij o (z.cyc*1440) z.dJ (turns o (z.cyc*1440) z.dJ)with
 | some w=>
  rw [d]at b;simp at b;subst b;exact key _ (by omega) d
 | none=>
  rw [d]at b;simp at b;exact key _ (by rw [as6,asZ];omega) b
theorem Mi{z:ZD}{o:List bC}(h:dZ z o)(g:Tg){Q:Option az→St→Prop}
  (hQ:∀ j s r,r=.t [sY z g o,vb ae]→mX [.cell (P.nat 2) ab,.cell (P.nat 3) ab] r s∨agN [.cell (P.nat 2) ab,.cell (P.nat 3) ab] r s→Q j s)
  (t:T) (J:aj) (X:Nat) (g1:t.g 1=.c (.ptr 0 0 0)) (A:t.g 2=.c (.ptr 1 0 0)) (B:t.g 3=.c (.ptr 2 0 0)) (O:t.g 8=.c (.ptr X 0 0))
  (x0:J[0]?=aa (.box (z.row.map .f) 0)) (x1:J[1]?=aa (.box [.f .gD] 0)) (x2:J[2]?=aa (.box [.f (.bool ag)] 0)) (x8:J[X]?=aa (.box [.f (.fp (ld z g o) 0)] 0)) (h8:2<X) :
  WP tab.get 52 ab [.code xc] ⟨t,[],J⟩ Q:=by
 have hc:=h.c;have a_:∀(t:T) (J:aj) (ds:List dH),t.g 8=.c (.ptr X 0 0)→t.g 2=.c (.ptr 1 0 0)→t.g 3=.c (.ptr 2 0 0) →
   J[1]?=aa (.box [.f .gD] 0)→J[2]?=aa (.box [.f (.bool ag)] 0)→J[X]?=aa (.box [.f (.fp (ld z g o) 0)] 0) →
   (ds=[]∨∃ b,ds=[.pV b]∧2<b∧J[b]?=aa (.kT ae))→WP tab.get 52 ab [.code rj] ⟨t,ds,J⟩ Q:=by
  intro t J ds O A B x1 x2 x8 d_;have q1:(J.set 1 (.box [.f (.fp (ld z g o) 0)] 0))[2]?=aa (.box [.f (.bool ag)] 0):=by rw [AI (by decide)];exact x2
  apply ai;simp [O,A,B,x8,x1,aK,q1,List.length_set];obtain⟨K,hK⟩:=aO ((J.set 1 (.box [.f (.fp (ld z g o) 0)] 0)).set 2 (.box [.f (.bool ae)] 0):aj);have l1:=au x1;have l2:=au x2;have k1:K[1]?=aa (.box [.f (.fp (ld z g o) 0)] 0):=by rw [hK,AI (by decide),If l1]
  have k2:K[2]?=aa (.box [.f (.bool ae)] 0):=by rw [hK,If (by simpa using l2)]
  rw [←hK];rcases d_ with rfl | ⟨b,rfl,hb,c9⟩
  ·refine aJ (hQ _ _ _ rfl (.inl ⟨rfl,.t [.c (.f (.fp (ld z g o) 0)),vb ae],?_,?_⟩))
   ·simp [Km.results,bs,ba,A,B,k1,k2,aK]
   ·simp [fJ,bO,ba]
  ·have kb:K[b]?=aa (.kT ae):=by rw [hK,AI (by omega),AI (by omega)];exact c9
   have r1:(K.set b (.kT ag))[1]?=aa (.box [.f (.fp (ld z g o) 0)] 0):=by rw [AI (by omega)];exact k1
   have r2:(K.set b (.kT ag))[2]?=aa (.box [.f (.bool ae)] 0):=by rw [AI (by omega)];exact k2
   refine aJ (hQ _ _ _ rfl (.inr ⟨b,rfl,kb,.t [.c (.f (.fp (ld z g o) 0)),vb ae],?_,?_⟩))
   ·simp [Km.results,bs,ba,A,B,r1,r2,aK]
   ·simp [fJ,bO,ba]
 apply aq;apply aq;refine av (.inl rfl) ?_;simp [g1,x0,du x0 hc,-an];obtain⟨d,S⟩:=aO (J++[.box [.f (fi z.tr.length)] 0]:aj);have up:∀ i y,J[i]?=aa y→d[i]?=aa y:=fun i y u=>by rw [S,At (au u)];exact u
 have a9:d[J.length]?=aa (.box [.f (fi z.tr.length)] 0):=by rw [S];simp
 have y0:=up _ _ x0;have y1:=up _ _ x1;have y2:=up _ _ x2;have y8:=up _ _ x8;have l7:X<J.length:=au x8;have j7:J.length<d.length:=by rw [S];simp
 rw [←S];apply ai;by_cases hn:z.tr=[]
 ·simp [a9,aK,hn];refine a5 (by simp) ?_;exact a_ _ _ _ (by simp [O]) (by simp [A]) (by simp [B]) y1 y2 y8 (.inl rfl)
 have f9:0<z.tr.length:=asC.2 hn;simp [a9,aK,hn,f9];refine ak (by simp) ?_;have e_:=(adC (.fp (ld z g o) 0) z.dJ d).eq;have l8:aU d ab (.c (.ptr X 0 0))=aa (sY z g o):=by simp [aU,aC,y8,aK]
 apply ai;simp [g1,O,l8,fF y0 hc,-an,e_];obtain⟨N,E⟩:=aO (d++[.box [.f (.fp (ld z g o) 0)] 0,.box [.f (fi z.dJ)] 0]:aj);rw [←E];refine aB ?_;have j8:N.length=d.length+2:=by rw [E];simp
 have a8:∀ t:T,t.g 1=.c (.ptr 0 0 0)→t.g 2=.c (.ptr 1 0 0)→t.g 3=.c (.ptr 2 0 0)→t.g 8=.c (.ptr X 0 0)→t.g 10=.c (.ptr J.length 0 0) →
   t.g 158=.c (.cl 133 [.ptr d.length 0 0,.ptr (d.length+1) 0 0]) →
   WP tab.get 52 ab [.code (.kX (R 158) [P.nat 159] fg fh),.inBlock 4,.code rj] ⟨t,[],N⟩ Q:=by
  intro t g1 A B O g10 Y;have d5:∀ i y,d[i]?=aa y→N[i]?=aa y:=fun i y u=>by rw [E,At (au u)];exact u
  obtain⟨L,hL⟩:=aO (N.length);obtain⟨I,l⟩:=aO (N++[.kT ae,.lp 52 t [P.nat 159] fg fh .ready ab N.length]:aj);have Gn:∀ i y,d[i]?=aa y→I[i]?=aa y:=fun i y u=>by rw [l,At (au (d5 i y u))];exact d5 i y u
  have b9:I[d.length]?=aa (.box [.f (.fp (ld z g o) 0)] 0):=by rw [l,At (by omega),E];simp
  have b_:I[d.length+1]?=aa (.box [.f (fi z.dJ)] 0):=by rw [l,At (by omega),E];simp
  have hd:I[L]?=aa (.kT ae):=by rw [l,hL];simp
  have F:I[L+1]?=aa (.lp 52 t [P.nat 159] fg fh .ready ab L):=by rw [l,hL,arY (by omega),show N.length+1-N.length=1 by omega];rfl
  have w1:=Gn _ _ y1;have w2:=Gn _ _ y2;have w8:=Gn _ _ y8;have w0:=Gn _ _ y0;have i_:=Gn _ _ a9;by_cases ho:o=[]
  ·obtain⟨r,H',he,rfl,U⟩:=Fz h g (b:=L+1) (bc:=d.length) (bt:=d.length+1) (H:=I) (PP:=fun H'=>ef I H') b9 b_ (fun _ J hJ=>hJ) (fun x hx=>by subst ho;simp [tn,ij]at hx);rw [l,hL]at he;refine xM (g:=133) (by rw [akH,Y];simp [bZ]) he ?_;refine XT (U _ _ (by rw [←hL];exact F)) (by decide) ?_;refine aw ?_;have W:∀ i y,I[i]?=aa y→i≤L→(H'.set (N.length+1) (.lp 52 t [P.nat 159] fg fh .exhausted ab L))[i]?=aa y:=fun i y u hi=>by
    rw [AI (by omega)];exact U _ _ u
   exact a_ _ _ _ O A B (W _ _ w1 (by omega)) (W _ _ w2 (by omega)) (W _ _ w8 (by omega)) (.inr ⟨N.length,rfl,by omega,W _ _ (by rw [←hL];exact hd) (by omega)⟩)
  ·obtain⟨r,H',he,rfl,p1,p2,pL,f2,tm,ps,Z,bd,pl⟩:=Fz h g (b:=L+1) (bc:=d.length) (bt:=d.length+1) (H:=I)
    (PP:=fun H'=>H'[1]?=aa (.box [.f (.fp (ld z g o) 0)] 0)∧H'[2]?=aa (.box [.f (.bool ae)] 0)∧H'[L]?=aa (.kT ae)∧∃ f2 tm ps Z bd,H'[L+1]?=aa (.lp f2 tm ps Z bd .done (aa .ret) L)) b9 b_ (fun e=>absurd e ho) (fun x hx J' m=>by
     have c9:=h.ahk hx;obtain⟨r,H',e,rfl,U⟩:=Bx (tab:=tab.get) (b:=L+1) (args:=[.a (x.row.map .f)]) (H:=J')
      (C:=fun r H'=>r=vb ag∧H'[1]?=aa (.box [.f (.fp (ld z g o) 0)] 0)∧H'[2]?=aa (.box [.f (.bool ae)] 0)∧H'[L]?=aa (.kT ae)∧∃ f2 tm ps Z bd,H'[L+1]?=aa (.lp f2 tm ps Z bd .done (aa .ret) L)) (m _ _ F) rfl fun Q' d6=>by
       simp only [bC.row];refine av (.inr rfl) ?_;simp;refine ad1 (by rw [At (au (m _ _ F))];exact m _ _ F) ?_;obtain⟨M,hM⟩:=aO ((J'++[cT.box [.f (fi x.at_),.f (fi x.off)] 0]).set (L+1) (.lp 52 t [P.nat 159] fg fh .busy ab L):aj);rw [←hM];have j_:=au (m _ _ F);have v:∀ i y,I[i]?=aa y→i≠L+1→M[i]?=aa y:=fun i y u hi=>by
        rw [hM,AI (by omega),At (au (m _ _ u))];exact m _ _ u
       have m0:=v _ _ w0 (by omega);have m1:=v _ _ w1 (by omega);have m2:=v _ _ w2 (by omega);have m8:=v _ _ w8 (by omega);have d3:=v _ _ i_ (by omega);have mL:=v _ _ hd (by omega);have mb:M[L+1]?=aa (.lp 52 t [P.nat 159] fg fh .busy ab L):=by rw [hM,If (by simp;omega)]
       have mx:M[J'.length]?=aa (.box [.f (fi x.at_),.f (fi x.off)] 0):=by rw [hM,AI (by omega)];simp
       have lM:aU M ab (.c (.ptr X 0 0))=aa (sY z g o):=by simp [aU,aC,m8,aK]
       have lx:aU M ab (.c (.ptr J'.length 0 0))=aa (vi x.at_):=by simp [aU,aC,mx,aK]
       have c_:aU M ab (.c (.ptr J.length 0 0))=aa (vi z.tr.length):=by simp [aU,aC,d3,aK]
       have W:=z.tr.length-1;have ii:=eF (g:=z.tg) M (show z.tr.length-1<z.tr.length by omega);have il:=mI M (show z.tr.length-1<z.tr.length by omega);have k_:=h.tb _ (IT (show z.tr.length-1<z.tr.length by omega));have j9:=h.ho;have e1:ah .i64 ((z.tr.length:Int)-1)=((z.tr.length-1:Nat):Int):=by rw [wrap64 (by omega) (by have:=h.tl;omega)];omega
       have e2:=aQ (n:=x.at_-z.tr[z.tr.length-1].at_);have e3:(2160:Int)≤x.at_-z.tr[z.tr.length-1].at_:=by
        rcases h.y with⟨-,e⟩ | ⟨r,q,e,-,-,-,-,ha⟩
        ·exact absurd e ho
        ·have d9:z.cyc=cyc z.c:=by simp [ZD.cyc,e]
         have:=ha x _ (by rw [←d9];exact hx) (IT (show z.tr.length-1<z.tr.length by omega));omega
       have s1:cE M (.ptr 1 0 0) [.f (.fp (ld z g o) 0)]=aa (M.set 1 (.box [.f (.fp (ld z g o) 0)] 0)):=by simp [cE,m1,over]
       have q1:(M.set 1 (.box [.f (.fp (ld z g o) 0)] 0))[2]?=aa (.box [.f (.bool ag)] 0):=by rw [AI (by decide)];exact m2
       have s2:cE (M.set 1 (.box [.f (.fp (ld z g o) 0)] 0)) (.ptr 2 0 0) [.f (.bool ae)]=aa ((M.set 1 (.box [.f (.fp (ld z g o) 0)] 0)).set 2 (.box [.f (.bool ae)] 0)):=by simp [cE,q1,over]
       have n0:(M.set 1 (.box [.f (.fp (ld z g o) 0)] 0))[0]?=aa (.box (z.row.map .f) 0):=by rw [AI (by decide)];exact m0
       have nx:aU (M.set 1 (.box [.f (.fp (ld z g o) 0)] 0)) ab (.c (.ptr J'.length 0 0))=aa (vi x.at_):=by
        simp [aU,aC,AI (show 1≠J'.length by omega),mx,aK]
       have h_:aU (M.set 1 (.box [.f (.fp (ld z g o) 0)] 0)) ab (.c (.ptr J.length 0 0))=aa (vi z.tr.length):=by
        simp [aU,aC,AI (show 1≠J.length by omega),d3,aK]
       have f_:=eF (g:=z.tg) (M.set 1 (.box [.f (.fp (ld z g o) 0)] 0)) (show z.tr.length-1<z.tr.length by omega);have g_:=mI (M.set 1 (.box [.f (.fp (ld z g o) 0)] 0)) (show z.tr.length-1<z.tr.length by omega);refine aB ?_;refine aq (fV (.inr rfl) ?_ ?_)
       case refine_2=>
        intro c d8;have d7:c=(2,13)∨c=(4,13)∨c=(5,13)∨c=(7,13)∨c=(9,13):=by simpa using d8
        rcases d7 with rfl | rfl | rfl | rfl | rfl
        all_goals
         refine⟨by decide,_,rfl,.inl ⟨by decide,?_⟩⟩;simp [g1,A,B,O,g10,lM,lx,c_,du m0 hc,ii,il,e1,e2,e3,s1,s2,jh,nx,h_,du n0 hc,f_,g_,-an,-bh]
         first | rfl | exact W_ z.tg z.tr | exact nh (qK z.tr) | simp [V.beq,C.beq,FC.beq,nh (qK z.tr)]
       simp [g1,A,B,O,g10,lM,lx,c_,du m0 hc,ii,il,e1,e2,e3,s1,s2,-an,-bh];have kb:((M.set 1 (.box [.f (.fp (ld z g o) 0)] 0)).set 2 (.box [.f (.bool ae)] 0))[L+1]?=aa (.lp 52 t [P.nat 159] fg fh .busy ab L):=by rw [AI (by omega),AI (by omega)];exact mb
       refine aJ (d6 _ _ _ _ _ _ _ _ _ _ rfl kb ⟨rfl,?_,?_,?_,52,t,[P.nat 159],fg,fh,?_⟩)
       ·simp only;rw [AI (by omega),AI (by decide),If (au m1)]
       ·simp only;rw [AI (by omega),If (au q1)]
       ·simp only;rw [AI (by omega),AI (by omega),AI (by omega)];exact mL
       ·exact If (au kb)
     exact⟨H',e,U⟩)
   rw [l,hL]at he;refine xM (g:=133) (by rw [akH,Y];simp [bZ]) he ?_;rw [←hL];refine zk pl (by decide) ?_;have W:∀ i,i<L+1→(H'.set (L+1) (.lp f2 tm ps Z bd .exhausted (aa .ret) L))[i]?=H'[i]?:=fun i hi=>AI (by omega);refine aJ (hQ _ _ _ rfl (.inr ⟨L,rfl,by rw [W _ (by omega)];exact pL,.t [.c (.f (.fp (ld z g o) 0)),vb ae],?_,by simp [fJ,bO,ba]⟩));have q1:((H'.set (L+1) (.lp f2 tm ps Z bd .exhausted (aa .ret) L)).set L (.kT ag))[1]?=aa (.box [.f (.fp (ld z g o) 0)] 0):=by rw [AI (by omega),W _ (by omega)];exact p1
   have q2:((H'.set (L+1) (.lp f2 tm ps Z bd .exhausted (aa .ret) L)).set L (.kT ag))[2]?=aa (.box [.f (.bool ae)] 0):=by rw [AI (by omega),W _ (by omega)];exact p2
   simp [Km.results,bs,ba,A,B,q1,q2,aK]
 exact a8 _ (by simp [g1]) (by simp [A]) (by simp [B]) (by simp [O]) (by simp) (by simp)
theorem FU{z:ZD}{o:List bC}(h:dZ z o):∃ g,bA tab.get 52 [z.v]=Eq (.t [sY z g o,vb ae]):=by
 obtain⟨g,Y⟩:=h.tick;refine⟨g,?_⟩;obtain⟨rr,rfl,hp⟩:∃ rr,rr=.t [sY z g o,vb ae]∧bA tab.get 52 [z.v] rr:=by
  have E:=h.c;have a:=h.st;have b_:=h.ho;have c_:=h.tl;refine YS ahc rfl fun Q hQ=>?_;apply ai;simp;obtain⟨H0,F⟩:=aO ([.box (z.row.map .f) 0,.box [.f .gD] 0,.box [.f (.bool ag)] 0]:aj);rw [←F];have z0:H0[0]?=aa (.box (z.row.map .f) 0):=by rw [F];rfl
  have z1:H0[1]?=aa (.box [.f .gD] 0):=by rw [F];rfl
  have z2:H0[2]?=aa (.box [.f (.bool ag)] 0):=by rw [F];rfl
  have c9:H0.length=3:=by rw [F];rfl
  apply aq;apply ai;simp [du z0 E,gZ z0 E,rQ z0 E,fF z0 E,-an,vW E,yB (n:=z.start) (m:=1080) (by decide) (by decide) a.1 a.2,yB (n:=z.dJ) (m:=2251799813685248) (by decide) (by decide) (by omega) (by omega),show¬ 512<(z.tr.length:Int) by omega];refine a5 (by simp) ?_;apply aq;apply ai;simp [du z0 E,-an];refine gu z.tr.length (fun j t J=>ef H0 J∧t.g 1=.c (.ptr 0 0 0)∧t.g 2=.c (.ptr 1 0 0)∧t.g 3=.c (.ptr 2 0 0)∧t.g 35=.c (.f (sl z.tg (aT z.tr)))) (by omega) (by decide) (by decide) (by simp) (by simp)
   ⟨ef.refl _,by simp,by simp,by simp,by simp⟩ ?_ ?_
  ·rintro j t J X ⟨u,b,A,B,I⟩ M U c;have W:=eF (g:=z.tg) J X;have K:=nQ J X;simp only [bC.row,aft,apr]at K;have l:=h.tb _ (IT X);obtain⟨v,d⟩:=aO (J++[.box (z.tr[j].row.map .f) 0]:aj);have Z:ef H0 v:=by rw [d];exact u.push _
   have N:v[J.length]?=aa (.box [.f (fi z.tr[j].at_),.f (fi z.tr[j].off)] 0):=by rw [d];simp [bC.row]
   have y:=Z _ _ z0;simp only [bC.row,aft,apr]at d;refine aB ?_;apply ai;simp [I,M,W,K];rw [←d];have la:aU v ab (.c (.ptr J.length 0 0))=aa (vi z.tr[j].at_):=by simp [aU,aC,N,aK]
   have lo:aU v ab (.c (.ptr J.length 1 0))=aa (vi z.tr[j].off):=by simp [aU,aC,N,aK]
   have f:=yB (n:=z.tr[j].off) (m:=1080) (by decide) (by decide) l.2.2.1 l.2.2.2;have wa:=yB (n:=z.tr[j].at_) (m:=2251799813685248) (by decide) (by decide) (by omega) (by omega);apply ai;by_cases a8:j=0
   ·subst a8;simp [b,la,lo,f,wa,fF y E,-an,show¬ z.dJ≤z.tr[0].at_ by omega];refine al (by simp) (aL (aw ?_));exact c _ _ ⟨Z,by simp [b],by simp [A],by simp [B],by simp [I]⟩ (by simp [M]) (by simp [U])
   ·obtain⟨k,rfl⟩:∃ k,j=k+1:=⟨j-1,by omega⟩
    have w:=eF (g:=z.tg) v (show k<z.tr.length by omega);have a9:=mI v (show k<z.tr.length by omega);have hs:=h.ts k _ _ (AT (by omega)) (AT X);have d3:=h.tb _ (IT (show k<z.tr.length by omega));have wk:ah .i64 (k:Nat)=(k:Nat):=aQ;have wd:=aQ (n:=z.tr[k+1].at_-z.tr[k].at_);simp [b,la,lo,f,wa,fF y E,du y E,-an,show¬ z.dJ≤z.tr[k+1].at_ by omega,wk,w,a9,wd,show¬ z.tr[k+1].at_-z.tr[k].at_<2160 by omega,show(0:Int)<(k:Int)+1 by omega];refine al (by simp) (aL (aw ?_));exact c _ _ ⟨Z,by simp [b],by simp [A],by simp [B],by simp [I]⟩ (by simp [M]) (by simp [U])
  clear F;rintro t J ⟨u,b,A,B,I⟩ M U;have y:=u _ _ z0;have L:z.yr.length=0∨z.yr.length=2:=by
   rcases h.y with⟨e,-⟩ | ⟨r,q,e,-⟩
   ·left;rw [e];rfl
   ·right;rw [e];rfl
  have b9:∀ x ∈ z.yr,x.OK:=by
   rcases h.y with⟨e,-⟩ | ⟨r,q,e,hr,hq,-⟩
   ·rw [e];intro x l;cases l
   ·rw [e];intro x l;simp at l;rcases l with rfl | rfl
    ·exact hr
    ·exact hq
  have mid:∀(t:T) (J:aj),ef H0 J→t.g 1=.c (.ptr 0 0 0)→t.g 2=.c (.ptr 1 0 0)→t.g 3=.c (.ptr 2 0 0)→WP tab.get 52 ab [.code xb] ⟨t,[],J⟩ Q:=by
   clear b A B I M U y u;intro t J u b A B;have y:=u _ _ z0;apply aq;apply ai;simp [b,eQ y E,-an];refine gu z.yr.length (fun j t J=>ef H0 J∧t.g 1=.c (.ptr 0 0 0)∧t.g 2=.c (.ptr 1 0 0)∧t.g 3=.c (.ptr 2 0 0)∧t.g 88=.c (.f (sl z.yg (bP z.yr)))) (by omega) (by decide) (by decide) (by simp) (by simp)
    ⟨u,by simp [b],by simp [A],by simp [B],by simp⟩ ?_ ?_
   ·clear u b A B y;rintro j t J X ⟨u,b,A,B,O⟩ M U c;have W:aP J 5 ab (.c (.f (sl z.yg (bP z.yr)))) (vi j)=aa (.c (.f (.fp (bP z.yr).flatten (j*5)))):=by
     have:=c5 (H:=J) (g:=z.yg) (rows:=bP z.yr) (sz:=5) (k:=.i64) (i:=(j:Int)) (by omega) (by simp;omega);simpa using this
    have K:aU J (aa 5) (.c (.f (.fp (bP z.yr).flatten (j*5))))=aa (.a (z.yr[j].row.map .f)):=fM (iH z.yr) (sm X);have l:=b9 _ (IT X);obtain⟨v,d⟩:=aO (J++[.box (z.yr[j].row.map .f) 0]:aj);have Z:ef H0 v:=by rw [d];exact u.push _
    have N:v[J.length]?=aa (.box (z.yr[j].row.map .f) 0):=by rw [d];simp
    have y:=Z _ _ z0;have l0:aU v ab (.c (.ptr J.length 0 0))=aa (vi z.yr[j].mo):=by simp [aU,aC,N,aK,ey.row]
    have l1:aU v ab (.c (.ptr J.length 1 0))=aa (vi z.yr[j].wk):=by simp [aU,aC,N,aK,ey.row]
    have l2:aU v ab (.c (.ptr J.length 2 0))=aa (vi z.yr[j].wd):=by simp [aU,aC,N,aK,ey.row]
    have l3:aU v ab (.c (.ptr J.length 3 0))=aa (vi z.yr[j].mi):=by simp [aU,aC,N,aK,ey.row]
    have l4:aU v ab (.c (.ptr J.length 4 0))=aa (vi z.yr[j].off):=by simp [aU,aC,N,aK,ey.row]
    obtain⟨cs,lm⟩:=DR y E;simp only [ey.row,aft,apr]at d K;refine aB ?_;apply ai;simp [O,M,W,K];rw [←d];have f:=yB (n:=z.yr[j].off) (m:=1080) (by decide) (by decide) l.of0 l.of;apply ai;have a_:bH v (.f (.fs cs 2))=aa 2:=rfl;have f1:¬ z.yr[j].mo<1:=by have:=l.mo;omega
    have f2:¬ 2<z.yr[j].mo:=by have:=l.mo;omega
    have f3:¬ z.yr[j].wk<1:=by have:=l.wk;omega
    have f4:¬ 5<z.yr[j].wk:=by have:=l.wk;omega
    have f5:¬ z.yr[j].wd<0:=by have:=l.wd0;omega
    have f6:¬ 6<z.yr[j].wd:=by have:=l.wd;omega
    have f7:¬ z.yr[j].mi<0:=by have:=l.mi0;omega
    have f8:¬ 1440≤z.yr[j].mi:=by have:=l.mi;omega
    simp [b,l0,l1,l2,l3,l4,lm,f,-an,f1,f2,f3,f4,f5,f6,f7,f8,a_];refine al (by simp) (aL (aw ?_));exact c _ _ ⟨Z,by simp [b],by simp [A],by simp [B],by simp [O]⟩ (by simp [M]) (by simp [U])
   ·clear u b A B y;rintro t J ⟨u,b,A,B,O⟩ M U;have y:=u _ _ z0;apply ai;simp [b,cm y E,-an,Y];obtain⟨J2,S⟩:=aO (J++[.box [.f (.fp (ld z g o) 0)] 0]:aj);rw [←S];have p:ef H0 J2:=by rw [S];exact u.push _
    have hl:=au (u _ _ z2);apply aq;apply aq;refine av (.inl rfl) ?_;simp;refine a5 (by simp) ?_;refine Mi h g (fun j s r hr hf=>hQ j s r hr hf) _ J2 J.length (by simp [b]) (by simp [A]) (by simp [B]) (by simp) (p _ _ z0) (p _ _ z1) (p _ _ z2) (by rw [S];simp) hl
  apply aq;apply ai;rcases L with L | L
  ·simp [b,eQ y E,-an,L];refine a5 (by simp) ?_;exact mid _ _ u (by simp [b]) (by simp [A]) (by simp [B])
  ·simp [b,eQ y E,-an,L];refine a5 (by simp) ?_;exact mid _ _ u (by simp [b]) (by simp [A]) (by simp [B])
 exact hp.eq
theorem yy{z:ZD}{o:List bC}(h:dZ z o):bA tab.get 27 [z.v]=Eq (vi 0):=bA.eq (by
 obtain⟨g,d⟩:=FU h;have j:=h.c;have m:=h.tl;refine bG rfl rfl fun Q l=>?_;apply ai;simp;obtain⟨H0,b⟩:=aO ([.box (z.row.map .f) 0]:aj);rw [←b];have z0:H0[0]?=aa (.box (z.row.map .f) 0):=by rw [b];rfl
 refine aq (ai ?_);simp [du z0 j,-an,show¬ 512<(z.tr.length:Int) by omega];refine al (by simp) (aL (aq ?_));apply ai;simp [cm z0 j,-an,d];apply ai;simp;refine a5 (by simp) ?_;apply ai;simp;refine aJ (l _ _ ?_);simp)
structure ac5(z:ZD):Prop where
 c:z.c<3
 st:-1080≤z.start∧z.start≤1080
 tl:z.tr.length≤3
 tb:∀ x ∈ z.tr,0≤x.at_∧x.at_<z.dJ∧-1080≤x.off∧x.off≤1080
 ts:∀(i:Nat) x y,z.tr[i]?=aa x→z.tr[i+1]?=aa y→x.at_+2160≤y.at_
 ho:0≤z.dJ∧z.dJ≤40000
theorem ac5.none{z:ZD}(h:ac5 z)(e:z.yr=[]):dZ z []:=⟨h.c,h.st,h.tl,h.tb,h.ts,h.ho,.inl ⟨e,rfl⟩⟩
theorem Fc{o:List bC}{size t:Int}(j:∀ x ∈ o,pI x)(u:c6 o size=ae)(E:1≤size)(F:size≤400000)(t0:0≤t)(t1:t≤40000){x:bC}(b:tn o size t=aa x):0≤x.at_∧x.at_≤10000000:=by
 have l:0<o.length:=by
  rcases asq o.length with e | e
  ·have:o=[]:=asr.1 e;subst this;simp [tn,ij]at b
  ·exact e
 have g:=j _ (IT l);unfold pI at g;have q:turns o size t=if o[0].at_<t then(t-o[0].at_) / size else 0:=by unfold turns;rw [AT l]
 have A:=asx (t-o[0].at_) size;have B:=asd (t-o[0].at_) (show size≠0 by omega);have s:turns o size t*size≤2000000:=by
  rw [q];split
  ·rw [asO];omega
  ·omega
 have key:∀ k,k*size≤4000000→ij o size t k=aa x→0≤x.at_∧x.at_≤10000000:=by
  intro k z b;obtain⟨⟨y,v,rfl⟩,m,-⟩:=tp u b;have:=j _ v;unfold pI at this;simp only at m ⊢;omega
 unfold tn at b;cases d:ij o size t (turns o size t)with
 | some w=>
  rw [d]at b;simp at b;subst b;exact key _ (by omega) d
 | none=>
  rw [d]at b;simp at b;exact key _ (by rw [as6,asZ];omega) b
theorem ug(g:Tg)(n t:Int):bA tab.get 71 [.c (.f (sl g (aT []))),vi n,vi t]=Eq (.t [.a [.f (fi 0),.f (fi 0)],vb ag]):=bA.eq (by
 refine bG rfl rfl fun Q d=>?_;apply ai;simp;apply aq;apply ai;have b:∀ H:aj,bH H (.f (sl g (aT [])))=aa 0:=fun H=>by simpa using rR (H:=H) g (aT [])
 simp [b];refine ak (by simp) ?_;apply ai;simp;refine aJ (d _ _ ?_);simp)
theorem EU{z:ZD}(h:ac5 z){r q:ey}(hz:z.yr=[r,q])(hr:r.OK)(hq:q.OK) :
  ∃ e:Int,bA tab.get 25 [z.v]=Eq (vi e)∧(e=0→∃ o,dZ z o):=by
 obtain⟨rr,⟨e,he,rfl⟩,hp⟩:∃ rr,(∃ e:Int,(e=0→∃ o,dZ z o)∧rr=vi e)∧bA tab.get 25 [z.v] rr:=by
  have s:=h.c;have Z:=h.st;have d6:=h.ho;have d8:=h.tl;have N:z.cyc=cyc z.c:=by simp [ZD.cyc,hz]
  have c_:z.yr.length=2:=by rw [hz];rfl
  have d3:∀ x ∈ z.yr,x.OK:=by
   rw [hz];intro x d;simp at d;rcases d with rfl | rfl
   ·exact hr
   ·exact hq
  obtain⟨g,o,ho,d5⟩:=sR z s hz hr hq;have X:=kD z s;refine bQ rfl rfl fun Q hQ=>?_;apply ai;simp;obtain⟨H0,M⟩:=aO ([.box (z.row.map .f) 0]:aj);rw [←M];have z0:H0[0]?=aa (.box (z.row.map .f) 0):=by rw [M];rfl
  clear M;refine aq (ai ?_);simp [du z0 s,-an,show¬ 512<(z.tr.length:Int) by omega];refine a5 (by simp) ?_;refine aq (ai ?_);simp [gZ z0 s,rQ z0 s,fF z0 s,eQ z0 s,-an,sj s,gT (n:=z.start) (m:=1080) (by decide) (by decide) Z.1 Z.2,gT (n:=z.dJ) (m:=2251799813685248) (by decide) (by decide) (by omega) (by omega),c_];refine a5 (by simp) ?_;refine aq (ai ?_);simp;refine bV (H:=H0) z.tr.length (fun j t J=>J[0]?=aa (.box (z.row.map .f) 0)∧t.g 1=.c (.ptr 0 0 0)) (by omega) (by decide) (by simp) ⟨z0,by simp⟩ ?_ ?_ ?_
  ·rintro j t J L K ⟨y,b⟩ u hn;simp [b,u,du y s,-an];exact hn _ ⟨y,by simp [b]⟩ (by simp [u]) (by simp)
  ·rintro j t J K ⟨y,b⟩ u nx;have O:=eF (g:=z.tg) J K;have E:=nQ J K;simp only [bC.row,aft,apr]at E;have d:=h.tb _ (IT K);obtain⟨v,l⟩:=aO (J++[.box [.f (fi z.tr[j].at_),.f (fi z.tr[j].off)] 0]:aj);have F:v[J.length]?=aa (.box [.f (fi z.tr[j].at_),.f (fi z.tr[j].off)] 0):=by rw [l];simp
   have A:v[0]?=aa (.box (z.row.map .f) 0):=by rw [l,At (au y)];exact y
   refine aB ?_;apply ai;simp [b,u,O,E,du y s,-an];rw [←l];have la:aU v ab (.c (.ptr J.length 0 0))=aa (vi z.tr[j].at_):=by simp [aU,aC,F,aK]
   have lo:aU v ab (.c (.ptr J.length 1 0))=aa (vi z.tr[j].off):=by simp [aU,aC,F,aK]
   have wo:=gT (n:=z.tr[j].off) (m:=1080) (by decide) (by decide) d.2.2.1 d.2.2.2;have wa:=gT (n:=z.tr[j].at_) (m:=2251799813685248) (by decide) (by decide) (by omega) (by omega);apply ai;by_cases a_:j=0
   ·subst a_;simp [b,u,la,lo,wo,wa,fF A s,-an,show¬ z.dJ≤z.tr[0].at_ by omega];refine al (by simp) (aL (aw ?_));exact nx _ _ ⟨A,by simp [b]⟩ (by simp [u])
   ·obtain⟨k,rfl⟩:∃ k,j=k+1:=⟨j-1,by omega⟩
    have a9:=eF (g:=z.tg) v (show k<z.tr.length by omega);have b9:=mI v (show k<z.tr.length by omega);have hs:=h.ts k _ _ (AT (by omega)) (AT K);have U:=h.tb _ (IT (show k<z.tr.length by omega));have wk:ah .i64 (k:Nat)=(k:Nat):=aQ;have wd:=aQ (n:=z.tr[k+1].at_-z.tr[k].at_);simp [b,u,la,lo,wo,wa,fF A s,du A s,-an,show¬ z.dJ≤z.tr[k+1].at_ by omega,wk,a9,b9,wd,show¬ z.tr[k+1].at_-z.tr[k].at_<2160 by omega,show(0:Int)<(k:Int)+1 by omega];refine al (by simp) (aL (aw ?_));exact nx _ _ ⟨A,by simp [b]⟩ (by simp [u])
  clear z0;rintro t J ⟨z0,b⟩ u;refine aq (ai ?_);simp;refine bV (H:=J) z.yr.length (fun j t J=>J[0]?=aa (.box (z.row.map .f) 0)∧t.g 1=.c (.ptr 0 0 0)) (by omega) (by decide) (by simp) ⟨z0,by simp [b]⟩ ?_ ?_ ?_
  ·clear b u z0;rintro j t J L K ⟨y,b⟩ u hn;simp [b,u,eQ y s,-an];exact hn _ ⟨y,by simp [b]⟩ (by simp [u]) (by simp)
  ·clear b u z0;rintro j t J K ⟨y,b⟩ u nx;have O:aP J 5 ab (.c (.f (sl z.yg (bP z.yr)))) (vi j)=aa (.c (.f (.fp (bP z.yr).flatten (j*5)))):=by
    have:=c5 (H:=J) (g:=z.yg) (rows:=bP z.yr) (sz:=5) (k:=.i64) (i:=(j:Int)) (by omega) (by simp;omega);simpa using this
   have E:aU J (aa 5) (.c (.f (.fp (bP z.yr).flatten (j*5))))=aa (.a (z.yr[j].row.map .f)):=fM (iH z.yr) (sm K);have d:=d3 _ (IT K);obtain⟨v,l⟩:=aO (J++[.box (z.yr[j].row.map .f) 0]:aj);have A:v[0]?=aa (.box (z.row.map .f) 0):=by rw [l,At (au y)];exact y
   have F:v[J.length]?=aa (.box (z.yr[j].row.map .f) 0):=by rw [l];simp
   have l0:aU v ab (.c (.ptr J.length 0 0))=aa (vi z.yr[j].mo):=by simp [aU,aC,F,aK,ey.row]
   have l1:aU v ab (.c (.ptr J.length 1 0))=aa (vi z.yr[j].wk):=by simp [aU,aC,F,aK,ey.row]
   have l2:aU v ab (.c (.ptr J.length 2 0))=aa (vi z.yr[j].wd):=by simp [aU,aC,F,aK,ey.row]
   have l3:aU v ab (.c (.ptr J.length 3 0))=aa (vi z.yr[j].mi):=by simp [aU,aC,F,aK,ey.row]
   have l4:aU v ab (.c (.ptr J.length 4 0))=aa (vi z.yr[j].off):=by simp [aU,aC,F,aK,ey.row]
   obtain⟨cs,lm⟩:=DR A s;simp only [ey.row,aft,apr]at l E;refine aB ?_;apply ai;simp [b,u,O,E,eQ y s,-an];rw [←l];have wo:=gT (n:=z.yr[j].off) (m:=1080) (by decide) (by decide) d.of0 d.of;apply ai;have c9:bH v (.f (.fs cs 2))=aa 2:=rfl;have f1:¬ z.yr[j].mo<1:=by have:=d.mo;omega
   have f2:¬ 2<z.yr[j].mo:=by have:=d.mo;omega
   have f3:¬ z.yr[j].wk<1:=by have:=d.wk;omega
   have f4:¬ 5<z.yr[j].wk:=by have:=d.wk;omega
   have f5:¬ z.yr[j].wd<0:=by have:=d.wd0;omega
   have f6:¬ 6<z.yr[j].wd:=by have:=d.wd;omega
   have f7:¬ z.yr[j].mi<0:=by have:=d.mi0;omega
   have f8:¬ 1439<z.yr[j].mi:=by have:=d.mi;omega
   simp [b,l0,l1,l2,l3,l4,lm,wo,-an,f1,f2,f3,f4,f5,f6,f7,f8,c9];refine al (by simp) (aL (aw ?_));exact nx _ _ ⟨A,by simp [b]⟩ (by simp [u])
  clear b u z0;rintro t J ⟨z0,b⟩ u;apply ai;simp [b,cm z0 s,-an,d5];refine aq (ai ?_);cases hs:c6 o (cyc z.c*1440)with
  | false=>
   simp;refine ak (by simp) (ai ?_);simp;refine aJ (hQ _ _ _ ⟨1,by simp,rfl⟩ ⟨rfl,vi 1,?_,?_⟩)
   ·simp [Km.results,bs,ba]
   ·simp [fJ,bO]
  | true=>
   simp;refine a5 (by simp) ?_;have mk:(∀ x a,tn o (cyc z.c*1440) z.dJ=aa x→a ∈ z.tr→a.at_+2160≤x.at_)→∃ o,dZ z o:=fun d=>⟨o,h.c,h.st,h.tl,h.tb,h.ts,h.ho,.inr ⟨r,q,hz,hr,hq,ho,hs,d⟩⟩
   have B:(∀ x a,tn o (cyc z.c*1440) z.dJ=aa x→a ∈ z.tr→a.at_+2160≤x.at_)→∀(t:T) (J:aj),WP tab.get 25 ab [.code tX] ⟨t,[],J⟩ Q:=by
    intro d t J;apply ai;simp;refine aJ (hQ _ _ _ ⟨0,fun _=>mk d,rfl⟩ ⟨rfl,vi 0,?_,?_⟩)
    ·simp [Km.results,bs,ba]
    ·simp [fJ,bO]
   have a8:1≤cyc z.c∧cyc z.c≤217:=by
    have:cyc z.c=91∨cyc z.c=217:=by unfold cyc jk;split<;>simp
    omega
   rcases asq o.length with e0 | o0
   ·have e0:o=[]:=asr.1 e0;subst e0;have I:=ug g z.cyc z.dJ;apply ai;simp [b,cm z0 s,fF z0 s,-an,X,I];refine aq (ai ?_);simp;refine a5 (by simp) ?_;exact B (by simp [tn,ij]) _ _
   ·have W:∀ x ∈ o,pI x:=fun x d=>qA s hr hq _ (OF _) x (ho.perm.subset d);have b_:o.length≤1000:=by
     have h1:=kg z.c r q (nY z.c);have h2:=xV z.c;have:=ho.len;omega
    obtain⟨x,d,I⟩:=uh g o o0 b_ W z.cyc z.dJ (by rw [N];exact a8.1) (by rw [N];omega) (by omega) (by omega);rw [N]at d;have d9:=Fc W hs (by omega) (by omega) (by omega) (by omega) d;simp only [bC.row,aft,apr]at I;apply ai;simp [b,cm z0 s,fF z0 s,-an,X,I];obtain⟨v,l⟩:=aO (J++[.box [.f (fi x.at_),.f (fi x.off)] 0]:aj);rw [←l];have A:v[0]?=aa (.box (z.row.map .f) 0):=by rw [l,At (au z0)];exact z0
    have F:v[J.length]?=aa (.box [.f (fi x.at_),.f (fi x.off)] 0):=by rw [l];simp
    have la:aU v ab (.c (.ptr J.length 0 0))=aa (vi x.at_):=by simp [aU,aC,F,aK]
    refine aq (ai ?_);by_cases S:z.tr=[]
    ·simp [b,du A s,-an,S];refine a5 (by simp) ?_;exact B (by rw [S];intro x a _ u;cases u) _ _
    ·have Y:0<z.tr.length:=asC.2 S;have ii:=eF (g:=z.tg) v (show z.tr.length-1<z.tr.length by omega);have il:=mI v (show z.tr.length-1<z.tr.length by omega);have d7:=h.tb _ (IT (show z.tr.length-1<z.tr.length by omega));have e1:ah .i64 ((z.tr.length:Int)-1)=((z.tr.length-1:Nat):Int):=by rw [aQ];omega
     have e2:=aQ (n:=x.at_-z.tr[z.tr.length-1].at_);by_cases hd:x.at_-z.tr[z.tr.length-1].at_<2160
     ·simp [b,du A s,-an,Y,e1,e2,ii,il,la,hd];refine ak (by simp) (ai ?_);simp;refine aJ (hQ _ _ _ ⟨1,by simp,rfl⟩ ⟨rfl,vi 1,?_,?_⟩)
      ·simp [Km.results,bs,ba]
      ·simp [fJ,bO]
     ·simp [b,du A s,-an,Y,e1,e2,ii,il,la,hd];refine a5 (by simp) ?_;refine B ?_ _ _;intro x' a U u;rw [d]at U;cases U;obtain⟨i,hi,rfl⟩:=arS u;rcases asi (show i≤z.tr.length-1 by omega)with h1 | h1
      ·have:=pD h.ts i _ h1 (by omega);omega
      ·subst h1;omega
 exact⟨e,hp.eq,he⟩
abbrev u8(n:Nat):FC:=.int .u8 (n:Nat)
structure ib where
 st:Nat
 gg:Tg
 s0:List Nat
 og:Tg
 zB:List Nat
 be:Nat
 y:Nat→Nat→Nat
 er:Nat
 rules:Bool
def dx(l:List Nat):List (List FC):=l.map fun n=>[u8 n]
@[simp] theorem aka (l:List Nat):(dx l).length=l.length:=by simp [dx]
theorem Dv(l:List Nat):bR 1 (dx l):=bR.map fun _=>rfl
theorem uU{j:Nat}{l:List Nat}(b:j<l.length){H:aj}:aU H ab (.c (.f (.fp (dx l).flatten j)))=aa (.c (.f (u8 l[j]))):=by
 have:=kF (H:=H) (rows:=dx l) (j:=j) (sz:=1) (row:=[u8 l[j]]) (x:=u8 l[j]) (Dv l) (by simp [dx,b]) rfl;simpa using this
theorem rJ{j:Nat}{l:List Nat}{g:Tg}(b:j<l.length){H:aj}:aP H 1 ab (.c (.f (sl g (dx l)))) (vi j)=aa (.c (.f (.fp (dx l).flatten j))):=by
 have:=c5 (H:=H) (g:=g) (rows:=dx l) (sz:=1) (k:=.i64) (i:=(j:Int)) (by omega) (by simp;omega);simpa using this
def ib.row(x:ib):List FC:=[u8 x.st,sl x.gg (dx x.s0),sl x.og (dx x.zB),u8 x.be,u8 (x.y 0 0),u8 (x.y 0 1),u8 (x.y 0 2),u8 (x.y 0 3),u8 (x.y 1 0),u8 (x.y 1 1),u8 (x.y 1 2),u8 (x.y 1 3),u8 x.er,.bool x.rules]
structure ib.OK(x:ib):Prop where
 st:x.st<256
 gl:x.s0.length≤9223372036854775807
 ol:x.zB.length≤9223372036854775807
 ga:∀ n ∈ x.s0,n<256
 of:∀ n ∈ x.zB,n<256
 be:x.be<256
 y:∀ k i,k<2→i<4→x.y k i<256
 er:x.er<256
theorem vH(n:Nat){m:Nat}(b:0<m):bS .rem (.c (.f (u8 n))) (.c (.f (u8 m)))=aa (.c (.f (u8 (n % m)))):=by
 have:¬ ((m:Int)=0):=by omega
 simp only [bS,lu,if_true,this,if_false];rfl
theorem u8_quo{n:Nat}(g:n<256){m:Nat}(d:0<m):bS .quo (.c (.f (u8 n))) (.c (.f (u8 m)))=aa (.c (.f (u8 (n / m)))):=by
 have:¬ ((m:Int)=0):=by omega
 have b:n / m≤n:=Nat.div_le_self n m;simp only [bS,lu,if_true,this,if_false];rw [show(n:Int).tdiv (m:Int)=((n / m:Nat):Int) from rfl];have:IntKind.u8.wrap ((n / m:Nat):Int)=((n / m:Nat):Int):=by
  revert b;generalize n / m=q;intro b;exact ZA (by omega) (by omega)
 rw [this];rfl
def hZ(J:aj)(cs:List C)(c:Nat):Prop:=
 (c=0∧cs=[.f (fi 2),.sl 2 0 2 2 0 1,.f (fi (-1)),.f .aF]∧∃ b,J[2]?=aa (.box [.f (fi 7),.f (fi 6)] b)) ∨
 ∃ k:Nat,k<2∧c=k+1∧cs=[.f (fi 5),.sl 4 0 2 2 0 1,.f (fi 1),.sl 5 0 1 1 0 3]∧(∃ b,J[4]?=aa (.box [.f (fi 7),.f (fi 8)] b))∧∃ b,J[5]?=aa (.box [.f (fi 2),.f (fi k),.f (.bool ae)] b)
section
variable{J J':aj}{cs:List C}{c:Nat}{s h:Int}{ct cy ct' cy':C}
theorem hZ.xL(hc:hZ J cs c)(m:∀(i:Nat) (l:List C) (q:Nat),J[i]?=aa (.box l q)→(i=2∨i=4∨i=5)→∃ b,J'[i]?=aa (.box l b)):hZ J' cs c:=by
 rcases hc with⟨d,g,q,j⟩ | ⟨k,s,d,g,⟨v,j⟩,x,u⟩
 ·exact .inl ⟨d,g,m _ _ _ j (by omega)⟩
 ·exact .inr ⟨k,s,d,g,m _ _ _ j (by omega),m _ _ _ u (by omega)⟩
theorem hZ.bT(hc:hZ J cs c)(d:∀ i y,J[i]?=aa y→(i=2∨i=4∨i=5)→J'[i]?=aa y):hZ J' cs c:=hc.xL fun i l b h hi=>⟨b,d i _ h hi⟩
theorem hZ.four(hc:hZ J cs c):∃ a b d e,cs=[a,b,d,e]:=by
 rcases hc with⟨-,rfl,-⟩ | ⟨k,-,-,rfl,-,-⟩<;>exact⟨_,_,_,_,rfl⟩
theorem hZ.lt(hc:hZ J cs c):c<3:=by
 rcases hc with⟨rfl,-⟩ | ⟨k,b,rfl,-⟩<;>omega
theorem hZ.ex(hc:hZ J cs c):ba (c8 64 J) cs=aa (gh c):=by
 rcases hc with⟨rfl,rfl,l,b⟩ | ⟨k,m,rfl,rfl,⟨g,b⟩,j,d⟩
 ·simp [ba,kE,b,gh]
 ·simp [ba,kE,b,d,gh]
abbrev nX(cs:List C)(s:Int)(ct:C)(h:Int)(cy:C):cT:=.box (cs++[.f (fi s),ct,.f (fi h),cy]) 0
theorem aon(j:hZ J cs c)(g:J[3]?=aa (nX cs s ct h cy)):aU J ab (.c (.ptr 3 5 0))=aa (.c ct):=by
 obtain⟨a,b,d,e,rfl⟩:=j.four;simp [aU,aC,g,aK]
theorem agK(j:hZ J cs c)(g:J[3]?=aa (nX cs s ct h cy)):aU J ab (.c (.ptr 3 7 0))=aa (.c cy):=by
 obtain⟨a,b,d,e,rfl⟩:=j.four;simp [aU,aC,g,aK]
theorem E3(j:hZ J cs c)(g:J[3]?=aa (nX cs s ct h cy)):aU J (aa 8) (.c (.ptr 3 0 0))=aa (.a (cs++[.f (fi s),ct,.f (fi h),cy])):=by
 obtain⟨a,b,d,e,rfl⟩:=j.four;simp [aU,aC,g,aK]
theorem aop(j:hZ J cs c)(g:J[3]?=aa (nX cs s ct h cy)):cE J (.ptr 3 5 0) [ct']=aa (J.set 3 (nX cs s ct' h cy)):=by
 obtain⟨a,b,d,e,rfl⟩:=j.four;simp [cE,g,over];rfl
theorem aoo{g:Int}(l:hZ J cs c)(j:J[3]?=aa (nX cs s ct h cy)):cE J (.ptr 3 6 0) [.f (fi g)]=aa (J.set 3 (nX cs s ct g cy)):=by
 obtain⟨a,b,d,e,rfl⟩:=l.four;simp [cE,j,over];rfl
theorem agL(j:hZ J cs c)(g:J[3]?=aa (nX cs s ct h cy)):cE J (.ptr 3 7 0) [cy']=aa (J.set 3 (nX cs s ct h cy')):=by
 obtain⟨a,b,d,e,rfl⟩:=j.four;simp [cE,g,over];rfl
end
structure TrP(tr:List bC)(at_:Int):Prop where
 tl:tr.length≤3
 lo:0≤at_∧at_≤7260*tr.length
 tb:∀ x ∈ tr,0≤x.at_∧x.at_≤at_∧-1080≤x.off∧x.off≤1080
 ts:∀(i:Nat) x y,tr[i]?=aa x→tr[i+1]?=aa y→x.at_+2160≤y.at_
theorem TrP.nil:TrP [] 0:=⟨by simp,by simp,by simp,by simp⟩
theorem TrP.app{tr:List bC}{at_:Int}(h:TrP tr at_)(v:tr.length≤2){n m:Nat}(z:n<256):TrP (tr++[⟨at_+2160+20*n,mJ m⟩]) (at_+2160+20*n):=by
 have u:=lK m;have q:=h.lo;refine⟨by simp;omega,by simp;omega,fun x d=>?_,fun i x y d hy=>?_⟩
 ·rcases ar3.1 d with d | d
  ·have:=h.tb x d;omega
  ·simp at d;subst d;simp only;omega
 ·rw [List.getElem?_append]at d hy;split at hy
  ·rename_i j;rw [bp (by omega)]at d;exact h.ts i x y d hy
  ·rename_i j;have hi:i+1=tr.length:=by
    have:=b hy;simp at this;omega
   rw [bp (by omega)]at d;have s:=h.tb x (List.mem_of_getElem? d);rw [←hi]at hy;simp at hy;subst hy;simp only;omega
 where b {g:Type} {l:List g} {i:Nat} {x:g} (h:l[i]?=aa x):i<l.length:=(By.1 h).1
abbrev i8v(n:Int):V:=.c (.f (.int .i8 n))
theorem ma{n k:Int}(z:-128≤n∧n≤127)(y:1≤k∧k≤1000):∃ m,0≤m∧m<k∧bA tab.get 106 [i8v n,vi k]=Eq (vi m):=by
 obtain⟨g,⟨m,q,s,rfl⟩,v⟩:∃ g,(∃ m,0≤m∧m<k∧g=vi m)∧bA tab.get 106 [i8v n,vi k] g:=by
  refine bQ rfl rfl fun Q l=>?_;apply ai;simp;have x:=aQ (n:=n);have hr:bS .rem (vi n) (vi k)=aa (vi (n.tmod k)):=lV (by omega);have u:-k<n.tmod k∧n.tmod k<k:=by
   rcases Int.le_total 0 n with h | h
   ·rw [asw h];have:=asd n (show k≠0 by omega);have:=asj n (show 0<k by omega);omega
   ·have:n = -(-n):=by omega
    rw [this,Int.neg_tmod,asw (by omega)];have:=asd (-n) (show k≠0 by omega);have:=asj (-n) (show 0<k by omega);omega
  apply ai;simp [x,hr];obtain⟨r,d⟩:=aO (n.tmod k);rw [←d]at u ⊢;refine aq (ai ?_);simp;by_cases j:r<0
  ·have b:unV .neg (vi r)=aa (vi (-r)):=by
    show aa (V.c (.f (.int .i64 (ah .i64 (0-r)))))=_;rw [aQ,Int.zero_sub]
   refine ak (by simp [j]) (ai ?_);simp [b];exact aJ (l _ _ _ ⟨-r,by omega,by omega,rfl⟩ (by simp))
  ·refine a5 (by simp [j]) ?_;apply ai;simp;exact aJ (l _ _ _ ⟨r,by omega,by omega,rfl⟩ (by simp))
 exact⟨m,q,s,v.eq⟩
theorem rN(l:List Int)(v:Int):ints (l++[v])=ints l++[[fi v]]:=by simp [ints]
structure ub(lo x:Int)(zero:Bool)(li:List Int):Prop where
 pw:li.Pairwise (· < ·)
 bd:∀ v ∈ li,lo≤v∧v<x∧(zero=ag→v≠0)
theorem ub.snoc{lo x:Int}{zero:Bool}{li:List Int}(h:ub lo x zero li)(l:lo≤x)(m:zero=ag→x≠0):ub lo (x+1) zero (li++[x]):=by
 refine⟨asX.2 ⟨h.pw,asP _ _,fun a j b g=>?_⟩,fun v d=>?_⟩
 ·simp at g;subst g;exact(h.bd a j).2.1
 ·rcases ar3.1 d with d | d
  ·have:=h.bd v d;exact⟨this.1,by omega,this.2.2⟩
  ·simp at d;subst d;exact⟨l,by omega,m⟩
theorem ub.skip{lo x:Int}{zero:Bool}{li:List Int}(h:ub lo x zero li):ub lo (x+1) zero li:=⟨h.pw,fun v b=>by have:=h.bd v b;exact⟨this.1,by omega,this.2.2⟩⟩
theorem YU{lo:Int}:∀ {n:Nat} {li:List Int},li.Pairwise (· < ·)→(∀ v ∈ li,lo≤v∧v<lo+n)→li.length≤n
 | 0,li,_,b=>by
  cases li with
  | nil=>exact OF _| cons v li=>have:=b v arU;omega
 | n+1,li,g,b=>by
  rcases List.eq_nil_or_concat li with rfl | ⟨l,v,rfl⟩
  ·simp
  ·rw [List.concat_eq_append]at g b ⊢;have d:=asX.1 g;have s:=b v (by simp);have:=YU (lo:=lo) (n:=n) (li:=l) d.1 fun w j=>by
    have m:=b w (List.mem_append_left _ j);have q:=d.2.2 w j v (by simp);omega
   simp;omega
theorem mf(g:Tg)(l:List Nat)(d9:l.length≤9223372036854775807)(c_:∀ n ∈ l,n<256){lo hi:Int}(h1:-1000≤lo)(h2:lo≤hi)(h3:hi≤1000)(d:Bool)(hz:d=ag→hi≠0) :
  ∃ H li,Lb li lo hi d∧li.length≤(hi-lo+1).toNat∧bA tab.get 107 [.c (.f (sl g (dx l))),vi lo,vi hi,vb d]=Eq (.c (.f (sl H (ints li)))):=by
 obtain⟨rr,⟨H,li,hr,hl,rfl⟩,hp⟩:∃ rr,(∃ H li,Lb li lo hi d∧li.length≤(hi-lo+1).toNat∧rr=.c (.f (sl H (ints li))))∧bA tab.get 107 [.c (.f (sl g (dx l))),vi lo,vi hi,vb d] rr:=by
  refine bQ rfl rfl fun Q hQ=>?_;apply ai;simp;apply ai;simp;refine aq (ai ?_);simp;refine aB ?_;refine bI (fun n s=>∃(x:Int) (li:List Int) (c:C) (t:T) (J:aj),s=⟨t,[],J⟩∧lo≤x∧x≤hi+1∧n=(hi+1-x).toNat∧ub lo x d li∧LR J c 1 (ints li)∧t.g 0=.c (.f (sl g (dx l)))∧t.g 1=vi lo∧t.g 2=vi hi∧t.g 3=vb d∧t.g 9=.c c∧t.g 10=vi x) (hi+1-lo).toNat
   ⟨lo,[],.f .es,_,[],rfl,asR _,by omega,rfl,⟨List.Pairwise.nil,by simp⟩,.inl ⟨rfl,.inr rfl⟩,by simp,by simp,by simp,by simp,by simp,by simp⟩ ?_
  rintro n s ⟨x,li,c,t,J,rfl,d6,d_,rfl,Y,M,u,B,y,A,m,g10⟩ ih;have d8:li.length≤(x-lo).toNat:=YU (lo:=lo) Y.pw fun v X=>by have:=Y.bd v X;omega
  refine aq (ai ?_);simp [g10,y];by_cases hx:x≤hi
  case neg=>
   refine al (by simp [hx]) ?_;refine bq (k':=[.code pJ]) rfl ?_;have d3:=M.len;have a8:∀(t:T) (J:aj) (c:C) (li:List Int),Lb li lo hi d→li.length≤(hi-lo+1).toNat→LR J c 1 (ints li)→t.g 9=.c c→WP tab.get 107 ab [.code AE] ⟨t,[],J⟩ Q:=by
    intro t J c li hr hl M m;obtain⟨H,hx⟩:=M.ex (ek _) 63;have d5:c8 deep J c=aa (sl H (ints li)):=hx;apply ai;simp [m];refine aJ (hQ _ _ _ ⟨H,li,hr,hl,rfl⟩ ⟨rfl,.c c,?_,?_⟩)
    ·simp [Km.results,bs,ba]
    ·simp [fJ,bO,d5]
   refine aq (ai ?_);simp [m,d3];by_cases h0:li=[]
   ·subst h0;obtain⟨Z,z⟩:=aO (J++[.box ([fi hi].map .f) 0]:aj);have S:LR Z c 1 (ints []):=by rw [z];exact M.push _
    have U:Z[J.length]?=aa (.box ([fi hi].map .f) 0):=by rw [z];simp
    obtain⟨c',H',E,O,b9,b_⟩:=S.app (ek _) (by decide) (row:=[fi hi]) rfl (bytes:=8) (by decide) U;simp only [aft,apr]at z;refine ak (by simp) (av (.inl rfl) ?_);simp [m,y];rw [←z];simp [E];have hr:Lb [hi] lo hi d:=⟨by simp,asP _ _,fun v X=>by simp at X;subst X;exact⟨h2,asR _,hz⟩⟩
    exact a8 _ _ c' [hi] hr (by simp;omega) (by simpa [ints]using O) (by simp)
   ·refine a5 (by simp [h0]) ?_;have hr:Lb li lo hi d:=⟨h0,Y.pw,fun v X=>by have:=Y.bd v X;exact⟨this.1,by omega,this.2.2⟩⟩
    exact a8 _ _ c li hr (by omega) M (by simp [m])
  refine ak (by simp [hx]) (aL ?_);refine aq (aB (ai ?_));simp;have a9:=aQ (n:=x+1);refine aq (ai ?_);simp;obtain⟨N,hN⟩:=aO (min l.length 4);refine bV N (fun i t K=>K=J∧t.g 0=.c (.f (sl g (dx l)))∧t.g 1=vi lo∧t.g 2=vi hi∧t.g 3=vb d∧t.g 9=.c c∧t.g 10=vi x∧∃ b,t.g 11=vb b) (by omega) (by decide) (by simp)
   ⟨rfl,by simp [u],by simp [B],by simp [y],by simp [A],by simp [m],by simp [g10],ag,by simp⟩ ?_ ?_ ?_
  ·rintro i t K L c9 ⟨rfl,u,B,y,A,m,g10,b,j⟩ F hn;by_cases c1:(i:Int)<l.length
   ·simp [F,u,c1];exact hn _ ⟨rfl,by simp [u],by simp [B],by simp [y],by simp [A],by simp [m],by simp [g10],b,by simp [j]⟩ (by simp [F]) (by simp;omega)
   ·simp [F,u,c1];exact hn _ ⟨rfl,by simp [u],by simp [B],by simp [y],by simp [A],by simp [m],by simp [g10],b,by simp [j]⟩ (by simp [F]) (by simp;omega)
  ·rintro i t K c9 ⟨rfl,u,B,y,A,m,g10,b,j⟩ F nx;have W:i<l.length:=by omega
   have X:=c_ _ (IT W);refine aB (av (.inl rfl) ?_);cases b
   ·have w1:ah .i64 (l[i]:Int)=l[i]:=aQ;have w2:=aQ (n:=hi-lo);have w3:=aQ (n:=hi-lo+1);have w4:=po (a:=(l[i]:Int)) (b:=hi-lo+1) (by omega) (by omega);simp [j,B,u,F,rJ W,uU W,w1,y,w2,w3,w4,g10];refine aw (nx _ _ ⟨rfl,by simp [u],by simp [B],by simp [y],by simp [A],by simp [m],by simp [g10],_,by simp;rfl⟩ (by simp [F]))
   ·simp [j];refine aw (nx _ _ ⟨rfl,by simp [u],by simp [B],by simp [y],by simp [A],by simp [m],by simp [g10],ae,by simp⟩ (by simp [F]))
  ·rintro t K ⟨rfl,u,B,y,A,m,g10,b,j⟩ F;have no:∀ t:T,t.g 0=.c (.f (sl g (dx l)))→t.g 1=vi lo→t.g 2=vi hi→t.g 3=vb d→t.g 9=.c c→t.g 10=vi x→t.g 54=vb ag →
     WP tab.get 107 ab [.code tS,.inBlock 1,.code tT,.inLoop yF,.inBlock 0,.code pJ] ⟨t,[],K⟩ Q:=by
    intro t u B y A m g10 I;refine al I (aL (aw (av (.inl rfl) ?_)));simp [g10,a9];exact ih (hi+1-(x+1)).toNat _ (by omega) ⟨x+1,li,c,_,_,rfl,by omega,by omega,rfl,Y.skip,M,by simp [u],by simp [B],by simp [y],by simp [A],by simp [m],by simp⟩
   have a_:(d=ag→x≠0)→∀ t:T,t.g 0=.c (.f (sl g (dx l)))→t.g 1=vi lo→t.g 2=vi hi→t.g 3=vb d→t.g 9=.c c→t.g 10=vi x→t.g 54=vb ae →
     WP tab.get 107 ab [.code tS,.inBlock 1,.code tT,.inLoop yF,.inBlock 0,.code pJ] ⟨t,[],K⟩ Q:=by
    intro d7 t u B y A m g10 I;obtain⟨Z,z⟩:=aO (K++[.box ([fi x].map .f) 0]:aj);have S:LR Z c 1 (ints li):=by rw [z];exact M.push _
    have U:Z[K.length]?=aa (.box ([fi x].map .f) 0):=by rw [z];simp
    obtain⟨c',H',E,O,b9,b_⟩:=S.app (ek _) (by decide) (row:=[fi x]) rfl (bytes:=8) (cC (by simp;omega) (by decide)) U;simp only [aft,apr]at z;refine ak I (av (.inl rfl) ?_);simp [m,g10];rw [←z];simp [E];refine aw (av (.inl rfl) ?_);simp [g10,a9];exact ih (hi+1-(x+1)).toNat _ (by omega) ⟨x+1,li++[x],c',_,_,rfl,by omega,by omega,rfl,Y.snoc d6 d7,by rw [rN];exact O,by simp [u],by simp [B],by simp [y],by simp [A],by simp,by simp⟩
   apply ai;cases b
   ·simp [j];exact no _ (by simp [u]) (by simp [B]) (by simp [y]) (by simp [A]) (by simp [m]) (by simp [g10]) (by simp)
   ·by_cases q:x=0
    ·cases d
     ·simp [j,g10,q,A];exact no _ (by simp [u]) (by simp [B]) (by simp [y]) (by simp [A]) (by simp [m]) (by simp [g10,q]) (by simp)
     ·simp [j,g10,q,A];exact a_ (fun e=>by cases e) _ (by simp [u]) (by simp [B]) (by simp [y]) (by simp [A]) (by simp [m]) (by simp [g10,q]) (by simp)
    ·simp [j,g10,q];exact a_ (fun _=>q) _ (by simp [u]) (by simp [B]) (by simp [y]) (by simp [A]) (by simp [m]) (by simp [g10]) (by simp)
 exact⟨H,li,hr,hl,hp.eq⟩
def fe:List C:=[.f (fi 0),.f (fi 0),.f (fi 0),.f (fi 0),.f (fi 0),.f (fi 0),.f .aF,.f (.str ⟨#[]⟩)]
theorem wb(l:List aR)(x:aR):aH (l++[x])=aH l++[x.row]:=by simp [aH]
theorem qk{H:aj}{b d:Nat}{x:aR}(g:H[b]?=aa (.box (x.row.map .f) d)) :
  aU H ab (.c (.ptr b 0 0))=aa (vi x.d.k)∧aU H ab (.c (.ptr b 1 0))=aa (vi x.d.er)∧aU H ab (.c (.ptr b 2 0))=aa (vi x.d.l)∧aU H ab (.c (.ptr b 3 0))=aa (vi x.d.r) ∧
  aU H ab (.c (.ptr b 4 0))=aa (vi x.d.n)∧aU H ab (.c (.ptr b 5 0))=aa (vi x.d.m)∧aU H ab (.c (.ptr b 6 0))=aa (.c (.f (sl x.tg (ints x.d.li))))∧aU H (aa 8) (.c (.ptr b 0 0))=aa (.a (x.row.map .f)):=by
 refine⟨?_,?_,?_,?_,?_,?_,?_,?_⟩<;>simp [aU,g,aC,aK,aR.row]
theorem jW(x:aR)(c_:x.d.li.length≤61):∃ U,bA tab.get 78 [.a (x.row.map .f)]=Eq (.a ((aR.row ⟨x.d,U⟩).map .f)):=by
 obtain⟨rr,⟨U,rfl⟩,hp⟩:∃ rr,(∃ U,rr=.a ((aR.row ⟨x.d,U⟩).map .f))∧bA tab.get 78 [.a (x.row.map .f)] rr:=by
  refine bQ rfl rfl fun Q hQ=>?_;apply ai;simp;obtain⟨H,E⟩:=aO ([.box (x.row.map .f) 0,.box fe 0]:aj);have b0:H[0]?=aa (.box (x.row.map .f) 0):=by rw [E];rfl
  have b1:H[1]?=aa (.box fe 0):=by rw [E];rfl
  have hl:H.length=2:=by rw [E];rfl
  simp only [fe]at E;rw [←E];clear E;apply ai;simp;refine aq (ai ?_);simp;refine bV x.d.li.length (fun j t K=>∃ c,t.g 1=.c (.ptr 0 0 0)∧t.g 2=.c (.ptr 1 0 0)∧t.g 3=.c c∧LR K c 1 (ints (x.d.li.take j))∧Kb H K (.f .es)∧(∀ b,a6 c=aa b→2≤b)) (by omega) (by decide) (by simp)
   ⟨.f .es,by simp,by simp,by simp,.inl ⟨rfl,.inr rfl⟩,Kb.refl _ _,by simp [a6]⟩ ?_ ?_ ?_
  ·rintro j t K L hj ⟨c,u,B,J,q,d,l⟩ F I;obtain⟨-,-,-,-,-,-,Z,-⟩:=qk (d.2 0 _ b0 (by simp [a6]));simp [F,u,Z,-an];exact I _ ⟨c,by simp [u],by simp [B],by simp [J],q,d,l⟩ (by simp [F]) (by simp)
  ·rintro j t K hj ⟨c,u,B,J,q,d,l⟩ F nx;obtain⟨-,-,-,-,-,-,Z,-⟩:=qk (d.2 0 _ b0 (by simp [a6]));have w:∀ H,aP H 1 ab (.c (.f (sl x.tg (ints x.d.li)))) (vi j)=aa (.c (.f (.fp (ints x.d.li).flatten j))):=fun H=>by
    have:=c5 (H:=H) (g:=x.tg) (rows:=ints x.d.li) (sz:=1) (k:=.i64) (i:=(j:Int)) (by omega) (by simp;omega);simpa using this
   obtain⟨v,hv⟩:=aO (x.d.li[j]);have a8:aU K ab (.c (.f (.fp (ints x.d.li).flatten j)))=aa (vi v):=by rw [hv];exact fW hj
   obtain⟨X,m⟩:=aO (K++[.box ([fi v].map .f) 0]:aj);have h:LR X c 1 (ints (x.d.li.take j)):=by rw [m];exact q.push _
   have o:X[K.length]?=aa (.box ([fi v].map .f) 0):=by rw [m];simp
   obtain⟨c',H',N,f,M,p⟩:=h.app (ek _) (by decide) (row:=[fi v]) rfl (bytes:=8) (cC (by simp;omega) (by decide)) o;simp only [aft,apr]at m;refine aB (av (.inl rfl) ?_);simp [u,J,Z,-an,F,w,a8];rw [←m];simp [N];have a:Kb H X (.f .es):=by
    refine⟨by have:=d.1;rw [m];simp;omega,fun i y O I=>?_⟩;rw [m,At (au (d.2 i y O I))];exact d.2 i y O I
   refine aw ?_;refine nx _ _ ⟨c',by simp [u],by simp [B],by simp,?_,?_,?_⟩ (by simp [F])
   ·rw [aq8 hj,←hv,rN];exact f
   ·refine⟨Nat.le_trans a.1 M.1,fun i y O I=>M.2 i y (a.2 i y O I) fun e=>?_⟩;have:=l i e;have:=au O;omega
   ·intro b hb;rcases p with e | e
    ·exact l b (by rw [←e];exact hb)
    ·rw [hb]at e;cases e;have:=a.1;omega
  ·rintro t K ⟨c,u,B,J,q,d,l⟩ F;rw [ar8]at q;have k0:=d.2 0 _ b0 (by simp [a6]);have k1:=d.2 1 _ b1 (by simp [a6]);have b_:cE K (.ptr 0 6 0) [c]=aa (K.set 0 (.box (x.dK c) 0)):=by simp [cE,k0,aR.row,aR.dK,over]
   obtain⟨A,s⟩:=aO (K.set 0 (.box (x.dK c) 0):aj);have a_:A[0]?=aa (.box (x.dK c) 0):=by rw [s];exact If (au k0)
   have S:A[1]?=aa (.box fe 0):=by rw [s,AI (by decide)];exact k1
   have e8:aU A (aa 8) (.c (.ptr 0 0 0))=aa (.a (x.dK c)):=by simp [aU,a_,aC,aK,aR.dK]
   have c9:cE A (.ptr 1 0 0) (x.dK c)=aa (A.set 1 (.box (x.dK c) 0)):=by simp [cE,S,over,fe,aR.dK]
   obtain⟨W,z⟩:=aO (A.set 1 (.box (x.dK c) 0):aj);have b9:W[1]?=aa (.box (x.dK c) 0):=by rw [z];exact If (au S)
   have n:LR W c 1 (ints x.d.li):=by
    rw [z,s];exact(q.set (fun e=>by have:=l 0 e;omega) _).set (fun e=>by have:=l 1 e;omega) _
   have r:(x.dK c).length=8:=rfl;obtain⟨g',hx⟩:=n.ex (ek _) 63;have a9:c8 deep W c=aa (sl g' (ints x.d.li)):=hx;have Y:aU W (aa 8) (.c (.ptr 1 0 0))=aa (.a (x.dK c)):=by simp [aU,b9,aC,aK,aR.dK]
   apply ai;simp [u,J,b_,-bh];rw [←s];apply ai;simp [u,B,e8,c9,-bh,-an,r];rw [←z];refine aJ (hQ _ _ _ ⟨g',rfl⟩ ⟨rfl,.a (x.dK c),?_,?_⟩)
   ·simp [Km.results,bs,ba,B,Y,-an]
   ·simp [fJ,bO,ba,aR.dK,a9,aR.row]
 exact⟨U,hp.eq⟩
def B_(d n:Nat):List Int:=(List.range n).map fun k:Nat=>((d+k:Nat):Int)
@[simp] theorem aoR (d n:Nat):(B_ d n).length=n:=by simp [B_]
theorem ae9{d n k:Nat}(h:k<n):(B_ d n)[k]'(by simpa using h)=((d+k:Nat):Int):=by simp [B_]
theorem YN(d n:Nat):B_ d (n+1)=B_ d n++[((d+n:Nat):Int)]:=by simp [B_,List.range_succ]
theorem FD{H:aj}{g:Tg}{d n:Nat}{k:Int}(b:0≤k)(m:k<n)(q:n≤1000):aP H 1 ab (.c (.f (sl g (ints (B_ d n))))) (vi k)=aa (.c (.f (.fp (ints (B_ d n)).flatten k.toNat))) ∧
  aU H ab (.c (.f (.fp (ints (B_ d n)).flatten k.toNat)))=aa (vi (k+d)):=by
 constructor
 ·have:=c5 (H:=H) (g:=g) (rows:=ints (B_ d n)) (sz:=1) (k:=.i64) (i:=k) (by omega) (by simp;omega);simpa using this
 ·have:=fW (j:=k.toNat) (l:=B_ d n) (by simp;omega) (H:=H);rw [ae9 (by omega)]at this;rw [this]
  congr 4
  omega
theorem Mb(x:aR){i:Nat}(M:lS i x.d)(hi:i≤100)(g:Tg)(d:Nat) :
  ∃ j,bA tab.get 108 [.a (x.row.map .f),.c (.f (sl g (ints (B_ d (i+1)))))]=Eq (.a ((aR.row ⟨x.d.shift d,j⟩).map .f)):=by
 obtain⟨X,⟨j,rfl⟩,e⟩:∃ X,(∃ j,X=.a ((aR.row ⟨x.d.shift d,j⟩).map .f))∧bA tab.get 108 [.a (x.row.map .f),.c (.f (sl g (ints (B_ d (i+1)))))] X:=by
  obtain⟨j,q⟩:=jW x M.ok.1;have v:=nK M.ok;have K:=ou x.d.k;obtain⟨⟨k,b,l,r,n,m,li⟩,f⟩:=x;simp only at q v K;have z:=M.l1;have A:=M.r2;simp only at z A;refine bQ rfl rfl fun Q S=>?_;have Y:∀ j,aR.row ⟨bE.shift d ⟨k,b,l,r,n,m,li⟩,j⟩=aR.row ⟨⟨k,b,if 1≤dQ k then l+d else l,if dQ k=2 then r+d else r,n,m,li⟩,j⟩:=fun j=>rfl;simp only [Y]at S;apply ai;simp [aR.row];apply ai;simp only [aR.row,aft,apr]at q;simp [q];obtain⟨y,h⟩:=aO (⟨⟨k,b,l,r,n,m,li⟩,j⟩:aR);apply ai;simp [v];obtain⟨o,c⟩:=aO (dQ k);rw [←c]at S z A K ⊢;have F:∀(t:T) (s r':Int) ,t.g 2=.c (.ptr 0 0 0)→t.g 4=.c (.ptr 1 0 0)→s=(if 1≤o then l+d else l)→r'=(if o=2 then r+d else r) →
    WP tab.get 108 ab [.code Av] ⟨t,[],[.box ((aR.row ⟨⟨k,b,s,r',n,m,li⟩,j⟩).map .f) 0,.box fe 0]⟩ Q:=by
   intro t s r' I J N hr;apply ai;simp [I,J,aR.row,fe];refine aJ (S _ _ _ ⟨j,rfl⟩ ⟨rfl,.a ((aR.row ⟨⟨k,b,s,r',n,m,li⟩,j⟩).map .f),?_,?_⟩)
   ·simp [Km.results,bs,ba,J,aR.row,aK]
   ·simp [fJ,bO,aR.row,ba,N,hr]
  have u:∀(t:T) (s:Int) ,t.g 1=.c (.f (sl g (ints (B_ d (i+1)))))→t.g 2=.c (.ptr 0 0 0)→t.g 4=.c (.ptr 1 0 0)→t.g 5=vi o→s=(if 1≤o then l+d else l) →
    WP tab.get 108 ab [.code Au] ⟨t,[],[.box ((aR.row ⟨⟨k,b,s,r,n,m,li⟩,j⟩).map .f) 0,.box fe 0]⟩ Q:=by
   intro t s Z I J a N;refine aq (ai ?_);simp [a];by_cases L:o=2
   ·have W:=A L;obtain⟨B,E⟩:=FD (H:=[.box ((aR.row ⟨⟨k,b,s,r,n,m,li⟩,j⟩).map .f) 0,.box fe 0]) (g:=g) (d:=d) (n:=i+1) (k:=r) W.1 (by omega) (by omega);simp only [aR.row,aft,apr]at B E;refine ak (by simp [L]) (av (.inl rfl) ?_);simp [Z,I,aR.row,B,E];exact F _ s (r+d) (by simp [I]) (by simp [J]) N (by rw [bp L])
   ·refine al (by simp;omega) (aL ?_);exact F _ s r (by simp [I]) (by simp [J]) N (by rw [aZ L])
  refine aq (ai ?_);simp;by_cases O:1≤o
  ·have U:=z O;obtain⟨B,E⟩:=FD (H:=[.box ((aR.row ⟨⟨k,b,l,r,n,m,li⟩,j⟩).map .f) 0,.box fe 0]) (g:=g) (d:=d) (n:=i+1) (k:=l) U.1 (by omega) (by omega);simp only [aR.row,fe,aft,apr]at B E;refine ak (by simp;omega) (av (.inl rfl) ?_);simp [aR.row,B,E];exact u _ (l+d) (by simp) (by simp) (by simp) (by simp) (by rw [bp O])
  ·refine al (by simp;omega) (aL ?_);exact u _ l (by simp) (by simp) (by simp) (by simp) (by rw [aZ O])
 exact⟨j,e.eq⟩
def LiB(r:List aR):Prop:=∀ x ∈ r,x.d.li.length≤61
theorem nF{J:aj}{c:C}{l:List aR}(u:LR J c 8 (aH l))(v:l.length≤1000)(x:aR) :
  ∃ b H',bU (J++[.box (x.row.map .f) 0]) 8 88 (.c c) (.c (.sl J.length 0 1 1 0 8))=aa (.c b,H')∧LR H' b 8 (aH (l++[x]))∧Kb (J++[.box (x.row.map .f) 0]) H' c∧(a6 b=a6 c∨a6 b=aa (J.length+1)):=by
 have q:=u.push [.box (x.row.map .f) 0];have s:(J++[.box (x.row.map .f) 0])[J.length]?=aa (.box (x.row.map .f) 0):=by simp
 obtain⟨b,H',d,m,j,g⟩:=q.app (ed _) (by decide) (row:=x.row) rfl (bytes:=88) (cC (by simp;omega) (by decide)) s;rw [List.length_append,List.length_singleton]at g;exact⟨b,H',d,by rw [wb];exact m,j,g⟩
theorem vI(y:aR)(hy:y.d.li.length≤61)(g:Tg){r:List aR}(hr:r.length≤60)(w:LiB r) :
  ∃ s I,dN I=dN r++[⟨y.d.k,y.d.er,(r.length:Int)-1,y.d.r,y.d.n,y.d.m,y.d.li⟩]∧bA tab.get 42 [.a (y.row.map .f),.c (.f (sl g (aH r)))]=Eq (.c (.f (sl s (aH I)))):=by
 obtain⟨h,⟨s,I,d,rfl⟩,hp⟩:∃ h,(∃ s I,dN I=dN r++[⟨y.d.k,y.d.er,(r.length:Int)-1,y.d.r,y.d.n,y.d.m,y.d.li⟩]∧h=.c (.f (sl s (aH I))))∧bA tab.get 42 [.a (y.row.map .f),.c (.f (sl g (aH r)))] h:=by
  refine bQ rfl rfl fun Q p=>?_;apply ai;simp;obtain⟨H,X⟩:=aO ([.box (y.row.map .f) 0]:aj);have b0:H[0]?=aa (.box (y.row.map .f) 0):=by rw [X];rfl
  have hl:H.length=1:=by rw [X];rfl
  rw [←X];clear X;apply ai;simp;refine aq (ai ?_);simp;refine bV r.length (fun j t K=>∃ c l,t.g 1=.c (.f (sl g (aH r)))∧t.g 2=.c (.ptr 0 0 0)∧t.g 5=.c c∧LR K c 8 (aH l)∧dN l=dN (r.take j)∧K[0]?=aa (.box (y.row.map .f) 0)) (by omega) (by decide) (by simp)
   ⟨.f .es,[],by simp,by simp,by simp,.inl ⟨rfl,.inr rfl⟩,by simp,b0⟩ ?_ ?_ ?_
  ·rintro j t K L S ⟨c,l,z,J,N,b,d,b0⟩ M hn;simp [M,z];exact hn _ ⟨c,l,by simp [z],by simp [J],by simp [N],b,d,b0⟩ (by simp [M]) (by simp)
  ·rintro j t K S ⟨c,l,z,J,N,b,d,b0⟩ M nx;obtain⟨x,U⟩:=aO (r[j]);obtain⟨u,q⟩:=jW x (by rw [U];exact w _ (IT S));have a:l.length=j:=by have:=congrArg List.length d;simp at this;omega
   obtain⟨W,H',m,B,O,Z⟩:=nF b (by omega) ⟨x.d,u⟩;have E:((aR.row ⟨x.d,u⟩).map C.f).length=8:=rfl;refine aB (av (.inl rfl) ?_);simp [z,N,M,ej S (by omega),js S,←U,q,E,m];refine aw ?_;refine nx _ _ ⟨W,l++[⟨x.d,u⟩],by simp [z],by simp [J],by simp,B,?_,?_⟩ (by simp [M])
   ·rw [aq8 S,←U];simp only [dN,asB,aft,apr]at d ⊢;rw [d]
   ·exact O.2 0 _ (by rw [At (au b0)];exact b0) (b.cQ b0)
  ·rintro t K ⟨c,l,z,J,N,b,d,b0⟩ M;rw [ar8]at d;have a:l.length=r.length:=by have:=congrArg List.length d;simpa using this
   obtain⟨v,F⟩:=aO (⟨⟨y.d.k,y.d.er,(r.length:Int)-1,y.d.r,y.d.n,y.d.m,y.d.li⟩,y.tg⟩:aR);have i:cE K (.ptr 0 2 0) [.f (fi ((r.length:Int)-1))]=aa (K.set 0 (.box (v.row.map .f) 0)):=by simp [cE,b0,over,aR.row,F]
   obtain⟨k,A⟩:=aO (K.set 0 (.box (v.row.map .f) 0):aj);have f:k[0]?=aa (.box (v.row.map .f) 0):=by rw [A];exact If (au b0)
   have Y:LR k c 8 (aH l):=by rw [A];exact b.set (b.cQ b0) _
   obtain⟨-,-,-,-,-,-,-,o⟩:=qk f;obtain⟨u,q⟩:=jW v (by rw [F];exact hy);obtain⟨W,H',m,B,O,Z⟩:=nF Y (by omega) ⟨v.d,u⟩;have E:((aR.row ⟨v.d,u⟩).map C.f).length=8:=rfl;obtain⟨s,U⟩:=B.ex (ed _) 63;have e:c8 deep H' W=aa (sl s (aH (l++[⟨v.d,u⟩]))):=U;apply ai;simp [z,J,aQ (n:=(r.length:Int)-1),i,-bh];rw [←A];apply ai;simp [N,J,o,-an,q,E,m];refine aJ (p _ _ _ ⟨s,l++[⟨v.d,u⟩],?_,rfl⟩ ⟨rfl,.c W,?_,?_⟩)
   ·simp only [dN,asB,aft,apr]at d ⊢;rw [d,F]
   ·simp [Km.results,bs,ba]
   ·simp [fJ,bO,e]
 exact⟨s,I,d,hp.eq⟩
section
variable{J:aj}{x:ib}
theorem Gg(h:J[0]?=aa (.box (x.row.map .f) 0)):aU J ab (.c (.ptr 0 1 0))=aa (.c (.f (sl x.gg (dx x.s0)))):=by simp [aU,aC,h,aK,ib.row]
theorem Gh(h:J[0]?=aa (.box (x.row.map .f) 0)):aU J ab (.c (.ptr 0 2 0))=aa (.c (.f (sl x.og (dx x.zB)))):=by simp [aU,aC,h,aK,ib.row]
theorem an6(h:J[0]?=aa (.box (x.row.map .f) 0)):aU J ab (.c (.ptr 0 3 0))=aa (.c (.f (u8 x.be))):=by simp [aU,aC,h,aK,ib.row]
theorem Cl(h:J[0]?=aa (.box (x.row.map .f) 0)):aU J ab (.c (.ptr 0 13 0))=aa (vb x.rules):=by simp [aU,aC,h,aK,ib.row]
theorem aqG(h:J[0]?=aa (.box (x.row.map .f) 0)){k:Nat}(b:k<2):aU J (aa 4) (.c (.ptr 0 (4+k*4) 0))=aa (.a [.f (u8 (x.y k 0)),.f (u8 (x.y k 1)),.f (u8 (x.y k 2)),.f (u8 (x.y k 3))]):=by
 have:k=0∨k=1:=by omega
 rcases this with rfl | rfl<;>simp [aU,aC,h,aK,ib.row]
end
theorem dZ.an2{c:Nat}{s h:Int}{tr:List bC}{yr:List ey}{tg b yg d:Tg}{o:List bC}(k:dZ ⟨c,s,tg,tr,h,yg,yr⟩ o):dZ ⟨c,s,b,tr,h,d,yr⟩ o:=⟨k.c,k.st,k.tl,k.tb,k.ts,k.ho,k.y⟩
structure ZI(x:ib)(cs:List C)(c:Nat)(s h:Int)(tr:List bC)(ct:C)(yr:List ey)(cy:C)(t:T)(J:aj):Prop where
 raw:J[0]?=aa (.box (x.row.map .f) 0)
 res:J[1]?=aa (.box [.f (fi 0),.f .aF,.f (fi 0),.f .aF,.f (fi 0),.f .aF,.f (fi 0),.f .aF] 0)
 er:hZ J cs c
 zb:J[3]?=aa (nX cs s ct h cy)
 lt:LR J ct 2 (aT tr)
 ly:LR J cy 5 (bP yr)
 ne:∀ i,a6 ct=aa i→a6 cy≠aa i
 g1:t.g 1=.c (.ptr 0 0 0)
 g2:t.g 2=.c (.ptr 1 0 0)
 g3:t.g 3=.c (.ptr 3 0 0)
def E_(H:aj)(c:C)(sz:Nat)(rows:List (List FC)):Prop:=(rows=[]∧(c=.f .aF∨c=.f .es))∨(rows≠[]∧∃ b d g,c=.sl b 0 rows.length 0 d sz∧H[b]?=aa (.bM sz (rows.flatten.map .f) g d .loc))
section
variable{H H':aj}{c:C}{sz:Nat}{rows:List (List FC)}
theorem E_.of(h:LR H c sz rows):E_ H c sz rows:=by
 rcases h with h | ⟨h,b,d,g,j⟩
 ·exact .inl h
 ·exact .inr ⟨h,b,d,0,g,j⟩
theorem E_.exU(h:E_ H c sz rows)(j:bR sz rows):∃ g,∀(H':aj) (n:Nat),E_ H' c sz rows→c8 (n+1) H' c=aa (sl g rows):=by
 by_cases hr:rows=[]
 ·rcases h with⟨rfl,rfl | rfl⟩ | ⟨h,_⟩
  ·exact⟨.nil,fun _ _ _=>rfl⟩
  ·exact⟨.es,fun _ _ _=>rfl⟩
  ·exact absurd hr h
 ·refine⟨.fs,fun H' n m=>?_⟩;rcases m with⟨h,_⟩ | ⟨_,b,s,u,rfl,d⟩
  ·exact absurd h hr
  have q:rows.length*sz=rows.flatten.length:=(et j).symm;simp only [kE,d];rw [bp ⟨trivial,trivial,by rw [asn,aso,q];exact OF _⟩,asV,arT (by rw [asn];omega),rS];cases rows with
  | nil=>exact absurd rfl hr| cons x l=>simp [sl]
theorem E_.bT(h:E_ H c sz rows)(v:∀(i s:Nat) (l:List C) (j g:Nat) (st:Km.Os),H[i]?=aa (.bM s l j g st)→∃ d,H'[i]?=aa (.bM s l d g st)):E_ H' c sz rows:=by
 rcases h with h | ⟨h,b,g,j,m,q⟩
 ·exact .inl h
 ·obtain⟨d,u⟩:=v _ _ _ _ _ _ q;exact .inr ⟨h,b,g,d,m,u⟩
theorem E_.mk(h:E_ H c sz rows):(∀(i:Nat) (l:List C) (d:Nat),H[i]?=aa (.box l d)→(jt deep c H)[i]?=aa (.box l d))∧∀(i s:Nat) (l:List C) (d g:Nat) (st:Km.Os),H[i]?=aa (.bM s l d g st)→∃ q,(jt deep c H)[i]?=aa (.bM s l q g st):=by
 rcases h with⟨_,rfl | rfl⟩ | ⟨h,b,g,d,rfl,j⟩
 ·exact⟨fun i l d h=>by simpa using h,fun i s l d g st h=>⟨d,by simpa using h⟩⟩
 ·exact⟨fun i l d h=>by simpa using h,fun i s l d g st h=>⟨d,by simpa using h⟩⟩
 ·have e:jt deep (.sl b 0 rows.length 0 g sz) H=H.set b (.bM sz (rows.flatten.map .f) (Nat.max d (0+rows.length*sz)) g .loc):=by
   simp only [deep,Yb,j];rw [tx];intro x u;have u:=asW (as4 u);obtain⟨m,_,rfl⟩:=ase.1 u;exact⟨_,rfl⟩
  rw [e];refine⟨fun i l d h=>?_,fun i s l d g st h=>?_⟩
  ·rw [AI (by rintro rfl;rw [j]at h;cases h)];exact h
  ·by_cases e:b=i
   ·subst e;rw [j]at h;cases h;exact⟨_,If (au j)⟩
   ·rw [AI e];exact⟨d,h⟩
end
theorem D4{H:aj}{b l cp e sz g:Nat}{xs:List FC}(h:H[b]?=aa (.box (xs.map .f) g)):jt deep (.sl b 0 l cp e sz) H=H.set b (.box (xs.map .f) (Nat.max g (0+l*sz))):=by
 simp only [deep,Yb,h];rw [tx];intro x d;have d:=asW (as4 d);obtain⟨m,_,rfl⟩:=ase.1 d;exact⟨_,rfl⟩
theorem hZ.mk{H:aj}{cs:List C}{c:Nat}(hc:hZ H cs c):hZ (cs.foldl (fun H x=>jt deep x H) H) cs c∧(∀ i y,H[i]?=aa y→i≠2→i≠4→i≠5→(cs.foldl (fun H x=>jt deep x H) H)[i]?=aa y)∧(∀(i s:Nat) (l:List C) (g q:Nat) (st:Km.Os),H[i]?=aa (.bM s l g q st)→∃ u,(cs.foldl (fun H x=>jt deep x H) H)[i]?=aa (.bM s l u q st)):=by
 rcases hc with⟨rfl,rfl,g,d⟩ | ⟨k,B,rfl,rfl,⟨v,d⟩,A,j⟩
 ·have e:=D4 (H:=H) (b:=2) (l:=2) (cp:=2) (e:=0) (sz:=1) (xs:=[fi 7,fi 6]) d;simp only [asL,List.foldl_nil,FP,e];refine⟨.inl ⟨rfl,rfl,_,If (au d)⟩,fun i y hy j _ _=>by rw [AI (Ne.symm j)];exact hy,fun i s l g q st h=>⟨g,?_⟩⟩;rw [AI (by rintro rfl;rw [d]at h;cases h)];exact h
 ·have e:=D4 (H:=H) (b:=4) (l:=2) (cp:=2) (e:=0) (sz:=1) (xs:=[fi 7,fi 8]) d;simp only [asL,List.foldl_nil,FP,e];have m:(H.set 4 (.box ([fi 7,fi 8].map .f) (Nat.max v (0+2*1))))[5]?=aa (.box ([fi 2,fi k,.bool ae].map .f) A):=by rw [AI (by decide)];exact j
  have z:=D4 (l:=1) (cp:=1) (e:=0) (sz:=3) m;rw [z];refine⟨.inr ⟨k,B,rfl,rfl,⟨Nat.max v (0+2*1),?_⟩,_,If (au m)⟩,fun i y hy j E F=>?_,fun i s l g q st h=>⟨g,?_⟩⟩
  ·rw [AI (by decide),If (au d)];rfl
  ·rw [AI (Ne.symm F),AI (Ne.symm E)];exact hy
  ·rw [AI (by rintro rfl;rw [j]at h;cases h),AI (by rintro rfl;rw [d]at h;cases h)];exact h
structure ZE(cs:List C)(c:Nat)(s h:Int)(tr:List bC)(ct:C)(yr:List ey)(cy:C)(J:aj):Prop where
 res:J[1]?=aa (.box [.f (fi 0),.f .aF,.f (fi 0),.f .aF,.f (fi 0),.f .aF,.f (fi 0),.f .aF] 0)
 er:hZ J cs c
 zb:J[3]?=aa (nX cs s ct h cy)
 lt:E_ J ct 2 (aT tr)
 ly:E_ J cy 5 (bP yr)
section
variable{x:ib}{cs:List C}{c:Nat}{s h:Int}{tr:List bC}{ct:C}{yr:List ey}{cy:C}{t:T}{J:aj}
theorem ZI.e(k:ZI x cs c s h tr ct yr cy t J):ZE cs c s h tr ct yr cy J:=⟨k.res,k.er,k.zb,E_.of k.lt,E_.of k.ly⟩
theorem ZE.ex(k:ZE cs c s h tr ct yr cy J) :
  ∃ tg yg,∀ J':aj,(∀ i y,J[i]?=aa y→i≠1→J'[i]?=aa y)→ba (c8 64 J') (cs++[.f (fi s),ct,.f (fi h),cy])=aa (ZD.row ⟨c,s,tg,tr,h,yg,yr⟩):=by
 obtain⟨tg,u⟩:=k.lt.exU (cu _);obtain⟨yg,hy⟩:=k.ly.exU (iH _);refine⟨tg,yg,fun J' j=>?_⟩;have hc:hZ J' cs c:=k.er.bT fun i y hy hi=>j i y hy (by omega);have ho:∀(i s:Nat) (l:List C) (d b:Nat) (st:Km.Os),J[i]?=aa (.bM s l d b st)→∃ g,J'[i]?=aa (.bM s l g b st):=fun i s l d b st h=>⟨d,j i _ h (by
  rintro rfl;rw [k.res]at h;cases h)⟩
 have m:=u J' 63 (k.lt.bT ho);have q:=hy J' 63 (k.ly.bT ho);exact iu hc.ex (by simp [ba,m,q])
theorem ZE.fin(k:ZE cs c s h tr ct yr cy J)(ho:∃ tg yg o,dZ ⟨c,s,tg,tr,h,yg,yr⟩ o)
  (l:T) (j:l.g 2=.c (.ptr 1 0 0)):∃ z o J',dZ z o∧cE J (.ptr 1 0 0) (cs++[.f (fi s),ct,.f (fi h),cy])=aa J'∧mX [.cell (P.nat 2) (aa 8)] (.a (z.row.map .f)) ⟨l,[],J'⟩:=by
 obtain⟨tg,yg,g⟩:=k.ex;obtain⟨u,v,o,ho⟩:=ho;obtain⟨a,b,d,e,rfl⟩:=k.er.four;have q:cE J (.ptr 1 0 0) ([a,b,d,e]++[.f (fi s),ct,.f (fi h),cy])=aa (J.set 1 (.box ([a,b,d,e]++[.f (fi s),ct,.f (fi h),cy]) 0)):=by simp [cE,k.res,over]
 have m:=au k.res;refine⟨⟨c,s,tg,tr,h,yg,yr⟩,o,_,ho.an2,q,rfl,.a ([a,b,d,e]++[.f (fi s),ct,.f (fi h),cy]),?_,?_⟩
 ·simp [Km.results,bs,ba,j,m,aK]
 ·have:=g (J.set 1 (.box ([a,b,d,e]++[.f (fi s),ct,.f (fi h),cy]) 0)) fun i y hy hi=>by rw [AI (by omega)];exact hy
  simp only [fJ,bO,deep,this];rfl
theorem ZE.marked(k:ZE cs c s h tr ct yr cy J):ZE cs c s h tr ct yr cy (jt deep cy (jt deep ct (cs.foldl (fun H x=>jt deep x H) J))):=by
 obtain⟨z,u,v⟩:=k.er.mk;obtain⟨B,j⟩:=aO (cs.foldl (fun H x=>jt deep x H) J);rw [←j]at z u v ⊢;have d:=k.lt.bT v;have q:=k.ly.bT v;have A:=u _ _ k.zb (by decide) (by decide) (by decide);have r1:=u _ _ k.res (by decide) (by decide) (by decide);obtain⟨a1,y⟩:=d.mk;have m:=d.bT y;have g:=q.bT y;obtain⟨b1,b2⟩:=g.mk;exact⟨b1 _ _ _ (a1 _ _ _ r1),(z.xL fun i l b h _=>⟨b,a1 i l b h⟩).xL fun i l b h _=>⟨b,b1 i l b h⟩,b1 _ _ _ (a1 _ _ _ A),m.bT b2,g.bT b2⟩
end
theorem qn{H:aj}{c:C}{sz:Nat}{rows:List (List FC)}(h:LR H c sz rows)(b:bR sz rows):∃ g,c8 deep H c=aa (sl g rows):=h.ex b 63
def LM(H:aj)(c:C)(l:List Int):Prop:=(l=[]∧(c=.f .aF∨c=.f .es))∨(l≠[]∧∃ b d g,c=.sl b 0 l.length 0 d 1∧H[b]?=aa (.bM 1 (l.map cI) g d .loc)∧g≤l.length)
section
variable{H H':aj}{c:C}{l:List Int}
theorem LM.bT(h:LM H c l)(q:∀(i:Nat) (y:cT),H[i]?=aa y→a6 c=aa i→H'[i]?=aa y):LM H' c l:=by
 rcases h with h | ⟨h,b,d,g,rfl,j,m⟩
 ·exact .inl h
 ·exact .inr ⟨h,b,d,g,rfl,q _ _ j rfl,m⟩
theorem LM.push(h:LM H c l)(J:aj):LM (H++J) c l:=h.bT fun i y hy _=>by rw [At (au hy)];exact hy
theorem LM.cQ(h:LM H c l){i:Nat}{cs:List C}{d:Nat}(j:H[i]?=aa (.box cs d)):a6 c≠aa i:=by
 rcases h with⟨_,rfl | rfl⟩ | ⟨_,b,m,d,rfl,g,q⟩
 ·simp [a6]
 ·simp [a6]
 ·intro e;simp [a6]at e;subst e;rw [j]at g;cases g
theorem LM.aij(h:LM H c l){g:C}{rows:List (List FC)}(hc:LR H g 8 rows):∀ i,a6 g=aa i→a6 c≠aa i:=by
 intro i hi d;rcases hc with⟨_,rfl | rfl⟩ | ⟨_,s,q,rfl,m⟩
 ·simp [a6]at hi
 ·simp [a6]at hi
 ·simp [a6]at hi;subst hi;unfold RB at m;rcases h with⟨_,rfl | rfl⟩ | ⟨_,b,q,u,rfl,j,v⟩
  ·simp [a6]at d
  ·simp [a6]at d
  ·simp [a6]at d;subst d;rw [m]at j;cases j
theorem LM.app(h:LM H c l)(E:l.length≤1000){v:Int}{b1 fl1:Nat}(q:H[b1]?=aa (.box [.f (fi v)] fl1)) :
  ∃ j H',bU H 1 8 (.c c) (.c (.sl b1 0 1 1 0 1))=aa (.c j,H')∧LM H' j (l++[v])∧Kb H H' c∧(a6 j=a6 c∨a6 j=aa H.length):=by
 have g:c4 H 1 (.c (.sl b1 0 1 1 0 1))=aa (1,[.f (fi v)]):=lk q rfl;rcases h with⟨rfl,z⟩ | ⟨B,b,m,s,rfl,u,x⟩
 ·have d:bW 1 8=ae:=by decide
  refine⟨.sl H.length 0 1 0 0 1,H++[.bM 1 [.f (fi v)] 0 0 .loc],?_,.inr ⟨by simp,H.length,0,0,rfl,by simp,Nat.zero_le _⟩,⟨by simp,fun i y hy _=>by rw [At (au hy)];exact hy⟩,.inr rfl⟩;rcases z with rfl | rfl<;>simp [bU,g,d]
 ·have d:bW (l.length+1) 8=ae:=cC (by omega) (by decide);refine⟨.sl b 0 (l.length+1) 0 (m+1) 1,H.set b (.bM 1 (l.map cI++[.f (fi v)]) s (m+1) .loc),?_,.inr ⟨by simp,b,m+1,s,by simp,?_,by simp;omega⟩,⟨by simp,fun i y hy A=>?_⟩,.inl rfl⟩
  ·simp only [bU,g,u,and_self,if_true];rw [aZ (by decide),aZ (by decide),bp ⟨trivial,by simp,by simpa using x⟩,d];simp
  ·rw [If (au u)];simp
  ·have:b≠i:=by rintro rfl;exact A rfl
   rw [AI this];exact hy
theorem LM.ex(h:LM H c l):∃ g,c8 deep H c=aa (sl g (ints l)):=by
 rcases h with⟨rfl,rfl | rfl⟩ | ⟨j,b,q,s,rfl,m,u⟩
 ·exact⟨.nil,rfl⟩
 ·exact⟨.es,rfl⟩
 ·refine⟨.fs,?_⟩;show c8 (63+1) H _=_;rw [kE,m];have e:(((l.map cI).drop 0).take (l.length*1))=(l.map fi).map .f:=by rw [asV,arT (by simp)];simp
  have d:¬ (ints l).isEmpty=ae:=by simpa [ints]using j
  simp only [e,zw,Option.map_some];rw [bp ⟨trivial,trivial,by simp⟩,sl,aZ d,xK,BJ]
theorem LM.mk(h:LM H c l):LM (jt deep c H) c l∧(∀(i:Nat) (y:cT),H[i]?=aa y→a6 c≠aa i→(jt deep c H)[i]?=aa y):=by
 rcases h with⟨rfl,rfl | rfl⟩ | ⟨g,b,d,s,rfl,q,u⟩
 ·exact⟨.inl ⟨rfl,.inl rfl⟩,fun i y hy _=>by simpa using hy⟩
 ·exact⟨.inl ⟨rfl,.inr rfl⟩,fun i y hy _=>by simpa using hy⟩
 ·have e:jt deep (.sl b 0 l.length 0 d 1) H=H.set b (.bM 1 (l.map cI) (Nat.max s (0+l.length*1)) d .loc):=by
   simp only [deep,Yb,q];rw [tx];intro x j;have j:=asW (as4 j);obtain⟨m,_,rfl⟩:=ase.1 j;exact⟨_,rfl⟩
  rw [e];refine⟨.inr ⟨g,b,d,_,rfl,If (au q),?_⟩,fun i y hy v=>?_⟩
  ·rw [aso,Nat.mul_one];exact Nat.max_le.2 ⟨u,OF _⟩
  ·have:b≠i:=by rintro rfl;exact v rfl
   rw [AI this];exact hy
end
theorem xp(y:aR)(hy:y.d.li.length≤61)(ga gb:Tg){a b:List aR}(l_:a.length≤50)(m6:b.length≤50)(i_:LiB a)(j7:∀(i:Nat) (hi:i<b.length),lS i b[i].d)(m4:0<a.length+b.length) :
  ∃ g' l',dN l'=dN a++(dN b).map (bE.shift a.length)++[⟨y.d.k,y.d.er,(a.length:Int)-1,(a.length:Int)+b.length-1,y.d.n,y.d.m,y.d.li⟩] ∧
   bA tab.get 67 [.a (y.row.map .f),.c (.f (sl ga (aH a))),.c (.f (sl gb (aH b)))]=Eq (.c (.f (sl g' (aH l')))):=by
 obtain⟨rr,⟨g',l',g,rfl⟩,hp⟩:∃ rr,(∃ g' l',dN l'=dN a++(dN b).map (bE.shift a.length)++[⟨y.d.k,y.d.er,(a.length:Int)-1,(a.length:Int)+b.length-1,y.d.n,y.d.m,y.d.li⟩]∧rr=.c (.f (sl g' (aH l')))) ∧
   bA tab.get 67 [.a (y.row.map .f),.c (.f (sl ga (aH a))),.c (.f (sl gb (aH b)))] rr:=by
  refine bQ rfl rfl fun Q hQ=>?_;apply ai;simp;obtain⟨H,hH⟩:=aO ([.box (y.row.map .f) 0]:aj);have b0:H[0]?=aa (.box (y.row.map .f) 0):=by rw [hH];rfl
  rw [←hH];clear hH;apply ai;simp;refine aq (ai ?_);simp;refine bV a.length (fun j t K=>∃ c l,t.g 1=.c (.f (sl ga (aH a)))∧t.g 2=.c (.f (sl gb (aH b)))∧t.g 3=.c (.ptr 0 0 0)∧t.g 7=.c c∧LR K c 8 (aH l)∧dN l=dN (a.take j)∧K[0]?=aa (.box (y.row.map .f) 0)) (by omega) (by decide) (by simp)
   ⟨.f .es,[],by simp,by simp,by simp,by simp,.inl ⟨rfl,.inr rfl⟩,by simp,b0⟩ ?_ ?_ ?_
  ·rintro j t K L S ⟨c,l,s,E,A,F,d,g,b0⟩ u hn;simp [u,s];exact hn _ ⟨c,l,by simp [s],by simp [E],by simp [A],by simp [F],d,g,b0⟩ (by simp [u]) (by simp)
  ·rintro j t K S ⟨c,l,s,E,A,F,d,g,b0⟩ u nx;obtain⟨x,Y⟩:=aO (a[j]);obtain⟨I,O⟩:=jW x (by rw [Y];exact i_ _ (IT S));have c_:l.length=j:=by have:=congrArg List.length g;simp at this;omega
   obtain⟨c',H',q,N,J,d8⟩:=nF d (by omega) ⟨x.d,I⟩;have U:((aR.row ⟨x.d,I⟩).map C.f).length=8:=rfl;refine aB (av (.inl rfl) ?_);simp [s,F,u,ej S (by omega),js S,←Y,O,U,q];refine aw ?_;refine nx _ _ ⟨c',l++[⟨x.d,I⟩],by simp [s],by simp [E],by simp [A],by simp,N,?_,?_⟩ (by simp [u])
   ·rw [aq8 S,←Y];simp only [dN,asB,aft,apr]at g ⊢;rw [g]
   ·exact J.2 0 _ (by rw [At (au b0)];exact b0) (d.cQ b0)
  ·rintro t K ⟨c,l,s,E,A,F,d,g,b0⟩ u;rw [ar8]at g;apply ai;simp;refine aq (ai ?_);simp;refine bV b.length (fun j t K=>∃ c l p,t.g 1=.c (.f (sl ga (aH a)))∧t.g 2=.c (.f (sl gb (aH b)))∧t.g 3=.c (.ptr 0 0 0)∧t.g 7=.c c∧t.g 9=.c p∧LR K c 8 (aH l)∧LM K p (B_ a.length j)∧dN l=dN a++(dN (b.take j)).map (bE.shift a.length)∧K[0]?=aa (.box (y.row.map .f) 0)) (by omega) (by decide) (by simp)
    ⟨c,l,.f .es,by simp [s],by simp [E],by simp [A],by simp [F],by simp,d,.inl ⟨rfl,.inr rfl⟩,by simpa using g,b0⟩ ?_ ?_ ?_
   ·rintro j t K L S ⟨c,l,p,s,E,A,F,g9,d,X,g,b0⟩ u hn;simp [u,E];exact hn _ ⟨c,l,p,by simp [s],by simp [E],by simp [A],by simp [F],by simp [g9],d,X,g,b0⟩ (by simp [u]) (by simp)
   ·rintro j t K S ⟨c,l,p,s,E,A,F,g9,d,X,g,b0⟩ u nx;obtain⟨x,Y⟩:=aO (b[j]);have hA:lS j x.d:=by rw [Y];exact j7 j S
    have c_:l.length=a.length+j:=by have:=congrArg List.length g;simp at this;omega
    obtain⟨v,hv⟩:=aO ((a.length:Int)+j:Int);have j9:ah .i64 ((a.length:Int)+j)=v:=by rw [hv];exact aQ
    obtain⟨K1,M⟩:=aO (K++[.box [.f (fi v)] 0]:aj);have a9:LM K1 p (B_ a.length j):=by rw [M];exact X.push _
    have j8:K1[K.length]?=aa (.box [.f (fi v)] 0):=by rw [M];simp
    have Gn:∀ {i:Nat} {z:cT},K[i]?=aa z→K1[i]?=aa z:=fun {i z} Z=>by rw [M,At (au Z)];exact Z
    have d9:LR K1 c 8 (aH l):=by rw [M];exact d.push _
    obtain⟨p',W,q,m,J,m7⟩:=a9.app (by simp;omega) j8;rw [hv,show(a.length:Int)+(j:Int)=((a.length+j:Nat):Int) by omega,←YN]at m;have b2:W[0]?=aa (.box (y.row.map .f) 0):=J.2 0 _ (Gn b0) (a9.cQ (Gn b0));have d_:LR W c 8 (aH l):=d9.bT fun i z Z hi=>J.2 i z Z (a9.aij d9 i hi);obtain⟨gp,j_⟩:=m.ex;obtain⟨b9,d3⟩:=m.mk;obtain⟨I,f9⟩:=Mb x hA (by omega) gp a.length;obtain⟨K3,B⟩:=aO (jt deep p' W:aj);rw [←B]at b9 d3;have b3:K3[0]?=aa (.box (y.row.map .f) 0):=d3 0 _ b2 (m.cQ b2);have c9:LR K3 c 8 (aH l):=d_.bT fun i z Z hi=>d3 i z Z (m.aij d_ i hi);obtain⟨c',H',b_,N,d7,d8⟩:=nF c9 (by omega) ⟨x.d.shift a.length,I⟩;have U:((aR.row ⟨x.d.shift a.length,I⟩).map C.f).length=8:=rfl;refine aB (ai ?_);simp [g9,s,u,j9];rw [←M];simp [q];refine av (.inl rfl) ?_;simp [F,E,u,ej S (by omega),js S,←Y,j_,f9,←B,U,b_];refine aw ?_;refine nx _ _ ⟨c',l++[⟨x.d.shift a.length,I⟩],p',by simp [s],by simp [E],by simp [A],by simp,by simp,N,?_,?_,?_⟩ (by simp [u])
    ·refine(b9.push _).bT fun i z Z hi=>d7.2 i z Z fun e=>?_;exact(b9.push [.box ((aR.row ⟨x.d.shift a.length,I⟩).map .f) 0]).aij (c9.push _) i e hi
    ·rw [aq8 S,←Y];simp only [dN,asB,aft,apr]at g ⊢;rw [g,List.append_assoc]
    ·exact d7.2 0 _ (by rw [At (au b3)];exact b3) (c9.cQ b3)
   ·rintro t K ⟨c,l,p,s,E,A,F,g9,d,X,g,b0⟩ u;rw [ar8]at g;have c_:l.length=a.length+b.length:=by have:=congrArg List.length g;simpa using this
    obtain⟨y1,g_⟩:=aO (⟨⟨y.d.k,y.d.er,(a.length:Int)-1,y.d.r,y.d.n,y.d.m,y.d.li⟩,y.tg⟩:aR);obtain⟨y2,d5⟩:=aO (⟨⟨y.d.k,y.d.er,(a.length:Int)-1,(a.length:Int)+b.length-1,y.d.n,y.d.m,y.d.li⟩,y.tg⟩:aR);have l7:cE K (.ptr 0 2 0) [.f (fi ((a.length:Int)-1))]=aa (K.set 0 (.box (y1.row.map .f) 0)):=by simp [cE,b0,over,aR.row,g_]
    obtain⟨W,a8⟩:=aO (K.set 0 (.box (y1.row.map .f) 0):aj);have d6:W[0]?=aa (.box (y1.row.map .f) 0):=by rw [a8];exact If (au b0)
    have a_:LR W c 8 (aH l):=by rw [a8];exact d.set (d.cQ b0) _
    have l9:cE W (.ptr 0 3 0) [.f (fi ((a.length:Int)+b.length-1))]=aa (W.set 0 (.box (y2.row.map .f) 0)):=by simp [cE,d6,over,aR.row,g_,d5]
    obtain⟨K3,B⟩:=aO (W.set 0 (.box (y2.row.map .f) 0):aj);have k_:K3[0]?=aa (.box (y2.row.map .f) 0):=by rw [B];exact If (au d6)
    have h_:LR K3 c 8 (aH l):=by rw [B];exact a_.set (a_.cQ d6) _
    obtain⟨-,-,-,-,-,-,-,e8⟩:=qk k_;obtain⟨I,O⟩:=jW y2 (by rw [d5];exact hy);obtain⟨c',H',q,N,J,d8⟩:=nF h_ (by omega) ⟨y2.d,I⟩;have U:((aR.row ⟨y2.d,I⟩).map C.f).length=8:=rfl;obtain⟨g',Y⟩:=qn N (ed _);have e_:=a_.len;rw [me,c_]at e_;have f_:ah .i64 (((a.length+b.length:Nat):Int)-1)=(a.length:Int)+b.length-1:=by rw [aQ];omega
    apply ai;simp [s,A,aQ (n:=(a.length:Int)-1),l7,-bh];rw [←a8];apply ai;simp only [Int.natCast_add]at f_;simp [F,A,e_,f_,l9,-bh];rw [←B];apply ai;simp [F,A,e8,-an,O,U,q];refine aJ (hQ _ _ _ ⟨g',l++[⟨y2.d,I⟩],?_,rfl⟩ ⟨rfl,.c c',?_,?_⟩)
    ·simp only [dN,asB,aft,apr]at g ⊢;rw [g,d5]
    ·simp [Km.results,bs,ba]
    ·simp [fJ,bO,Y]
 exact⟨g',l',g,hp.eq⟩
structure lj where
 k:Nat
 n:Int
 m:Nat
 lg:Tg
 li:List Nat
def lj.row(x:lj):List FC:=[u8 x.k,.int .i8 x.n,u8 x.m,sl x.lg (dx x.li)]
structure lj.OK(x:lj):Prop where
 k:x.k<256
 n:-128≤x.n∧x.n≤127
 m:x.m<256
 ll:x.li.length≤9223372036854775807
 lb:∀ v ∈ x.li,v<256
theorem Gm{n k:Int}(b:0<k):-k<n.tmod k∧n.tmod k<k:=by
 rcases Int.le_total 0 n with h | h
 ·rw [asw h];have:=asd n (show k≠0 by omega);have:=asj n b;omega
 ·have:n = -(-n):=by omega
  rw [this,Int.neg_tmod,asw (by omega)];have:=asd (-n) (show k≠0 by omega);have:=asj (-n) b;omega
def Bf(x:bE):Prop:=x.OK∧dQ x.k=0∧(x.k≠7→x.l=0)∧x.r=0
theorem Bf.LF{x:bE}(h:Bf x):Good [x]:=.leaf h.1 h.2.1 h.2.2.1 h.2.2.2
theorem jI(n:Nat){m:Int}(d:0<m):∃ a:Nat,(a:Int)<m∧bS .rem (.c (.f (.int .u8 n))) (.c (.f (.int .u8 m)))=aa (.c (.f (.int .u8 a))):=by
 have b:=asd (n:Int) (show m≠0 by omega);have g:=asj (n:Int) d;refine⟨((n:Int) % m).toNat,by omega,?_⟩;rw [lV (by omega),asw (by omega),asK b]
theorem z6{n:Nat}(l:n<256){m:Int}(d:0<m):∃ a:Nat,(a:Int)≤255 / m∧bS .quo (.c (.f (.int .u8 n))) (.c (.f (.int .u8 m)))=aa (.c (.f (.int .u8 a))):=by
 have b:0≤(n:Int) / m:=asY (by omega) (by omega);have g:(n:Int) / m≤255 / m:=Int.ediv_le_ediv d (by omega);have j:(n:Int) / m≤n:=Int.ediv_le_self _ (by omega);refine⟨((n:Int) / m).toNat,by omega,?_⟩;rw [tt (by omega),Int.tdiv_eq_ediv_of_nonneg (by omega),ZA b (by omega),asK b]
theorem Y2{a b:Int}(g:0≤a)(d:0<b):∃ r,0≤r∧r<b∧bS .rem (vi a) (vi b)=aa (vi r):=⟨a % b,asd _ (by omega),asj _ d,po g d⟩
theorem oL(n:Nat)(h:n≤1000000):ah .i64 (n:Int)=n:=aQ
theorem YM(x:lj)(hx:x.OK){cals:Nat}(hc:cals=0∨cals=2):∃ y:aR,Bf y.d∧bA tab.get 105 [.a (x.row.map .f),vi cals]=Eq (.a (y.row.map .f)):=by
 obtain⟨rr,⟨y,hy,rfl⟩,hp⟩:∃ rr,(∃ y:aR,Bf y.d∧rr=.a (y.row.map .f))∧bA tab.get 105 [.a (x.row.map .f),vi cals] rr:=by
  refine bQ rfl rfl fun Q hQ=>?_;obtain⟨I,N,X,K,li⟩:=x;obtain⟨hk,i,hm,F,E⟩:=hx;simp only at hk i hm F E;apply ai;simp [lj.row];obtain⟨q,hq⟩:=aO ((I:Int) % 7:Int);obtain⟨H,b9⟩:=aO (1+I % 7:Nat);have w1:ah .i64 (I:Int)=I:=aQ;have r1:bS .rem (vi I) (vi 7)=aa (vi q):=by rw [po (by omega) (by omega),hq]
  have w2:ah .i64 (1+q)=H:=by rw [aQ];omega
  apply ai;simp [w1,r1,w2];have v:∀(t:T) (y:aR),Bf y.d→t.g 4=.c (.ptr 1 0 0)→t.g 6=.c (.ptr 2 0 0) →
    WP tab.get 105 ab [.code tU] ⟨t,[],[.box [.f (u8 I),.f (.int .i8 N),.f (u8 X),.f (sl K (dx li))] 0,.box fe 0,.box (y.row.map .f) 0]⟩ Q:=by
   intro t y hy u j;apply ai;simp [u,j,aR.row,fe];refine aJ (hQ _ _ _ ⟨y,hy,rfl⟩ ⟨rfl,.a (y.row.map .f),?_,?_⟩)
   ·simp [Km.results,bs,ba,u,aR.row,aK]
   ·simp [fJ,bO]
  have L:∀(t:T) (g:Nat) (l:Int),1≤g→g≤7→0≤l→l≤1→(g=1∨g=5→l=0)→t.g 2=.c (.ptr 0 0 0)→t.g 4=.c (.ptr 1 0 0)→t.g 5=vi g→t.g 6=.c (.ptr 2 0 0) →
    WP tab.get 105 ab [.code AF] ⟨t,[],[.box [.f (u8 I),.f (.int .i8 N),.f (u8 X),.f (sl K (dx li))] 0,.box fe 0,.box [cI g,cI l,cI 0,cI 0,cI 0,cI 0,.f .aF,.f (.str ⟨#[]⟩)] 0]⟩ Q:=by
   intro t g l w h7 c f J s u Y j;refine aq (ai ?_);simp [Y];refine aB (ai ?_);simp;rcases(show g=1∨g=2∨g=3∨g=4∨g=5∨g=6∨g=7 by omega)with rfl | rfl | rfl | rfl | rfl | rfl | rfl
   ·obtain⟨Z,m0,m1,U⟩:=ma i (k:=9) (by decide);obtain⟨a,a1,W⟩:=jI X (m:=12) (by decide);have S:=J (.inl rfl);subst S;refine ak (by simp) (ai ?_);simp [s,j,U,aQ (n:=1+Z)];refine av (.inl rfl) ?_;simp [s,j,W,oL a (by omega)];refine aw ?_;exact v _ ⟨⟨1,0,0,0,1+Z,a,[]⟩,.nil⟩ ⟨⟨by simp,.inl ⟨rfl,rfl,rfl,(by dsimp only;omega),(by dsimp only;omega),(by dsimp only;omega),(by dsimp only;omega)⟩⟩,rfl,fun _=>rfl,rfl⟩ (by simp [u]) (by simp [j])
   ·obtain⟨Z,m0,m1,U⟩:=ma i (k:=4) (by decide);obtain⟨a,a1,W⟩:=jI X (m:=8) (by decide);obtain⟨b,b0,b1,p⟩:=Y2 (a:=(a:Int)) (b:=1+Z) (by omega) (by omega);refine al (by simp) (ai ?_);simp;refine ak (by simp) (ai ?_);simp [s,j,U,aQ (n:=1+Z)];refine av (.inl rfl) ?_;simp [s,j,W,oL a (by omega),p];refine aw ?_;exact v _ ⟨⟨2,l,0,0,1+Z,b,[]⟩,.nil⟩ ⟨⟨by simp,.inr (.inl ⟨rfl,c,f,rfl,(by dsimp only;omega),(by dsimp only;omega),b0,by dsimp only;omega⟩)⟩,rfl,fun _=>rfl,rfl⟩ (by simp [u]) (by simp [j])
   ·obtain⟨O,lp,hr,z,A⟩:=mf K li F E (lo:=1) (hi:=4) (by decide) (by decide) (by decide) ae (by decide);refine al (by simp) (ai ?_);simp;refine al (by simp) (ai ?_);simp;refine ak (by simp) (av (.inl rfl) ?_);simp [s,j,A];refine aw ?_;exact v _ ⟨⟨3,l,0,0,0,0,lp⟩,O⟩ ⟨⟨by simp at z ⊢;omega,.inr (.inr (.inl ⟨rfl,c,f,hr,rfl,rfl⟩))⟩,rfl,fun _=>rfl,rfl⟩ (by simp [u]) (by simp [j])
   ·obtain⟨O,lp,hr,z,A⟩:=mf K li F E (lo:=(-3)) (hi:=6) (by decide) (by decide) (by decide) ag (by decide);refine al (by simp) (ai ?_);simp;refine al (by simp) (ai ?_);simp;refine al (by simp) (ai ?_);simp;refine ak (by simp) (av (.inl rfl) ?_);simp [s,j,A];refine aw ?_;exact v _ ⟨⟨4,l,0,0,0,0,lp⟩,O⟩ ⟨⟨by simp at z ⊢;omega,.inr (.inr (.inr (.inl ⟨rfl,c,f,hr,rfl,rfl⟩)))⟩,rfl,fun _=>rfl,rfl⟩ (by simp [u]) (by simp [j])
   ·obtain⟨O,lp,hr,z,A⟩:=mf K li F E (lo:=0) (hi:=6) (by decide) (by decide) (by decide) ae (by decide);have S:=J (.inr rfl);subst S;refine al (by simp) (ai ?_);simp;refine al (by simp) (ai ?_);simp;refine al (by simp) (ai ?_);simp;refine al (by simp) (ai ?_);simp;refine ak (by simp) (av (.inl rfl) ?_);simp [s,j,A];refine aw ?_;exact v _ ⟨⟨5,0,0,0,0,0,lp⟩,O⟩ ⟨⟨by simp at z ⊢;omega,.inr (.inr (.inr (.inr (.inl ⟨rfl,rfl,hr,rfl,rfl⟩))))⟩,rfl,fun _=>rfl,rfl⟩ (by simp [u]) (by simp [j])
   ·obtain⟨O,lp,hr,z,A⟩:=mf K li F E (lo:=1) (hi:=5) (by decide) (by decide) (by decide) ae (by decide);refine al (by simp) (ai ?_);simp;refine al (by simp) (ai ?_);simp;refine al (by simp) (ai ?_);simp;refine al (by simp) (ai ?_);simp;refine al (by simp) (ai ?_);simp;refine ak (by simp) (av (.inl rfl) ?_);simp [s,j,A];refine aw ?_;exact v _ ⟨⟨6,l,0,0,0,0,lp⟩,O⟩ ⟨⟨by simp at z ⊢;omega,.inr (.inr (.inr (.inr (.inr (.inl ⟨rfl,c,f,hr,rfl,rfl⟩)))))⟩,rfl,fun _=>rfl,rfl⟩ (by simp [u]) (by simp [j])
   ·obtain⟨a,a1,W⟩:=jI X (m:=8) (by decide);obtain⟨b,b0,b1,p⟩:=Y2 (a:=(a:Int)) (b:=7) (by omega) (by omega);obtain⟨d,d1,rd⟩:=z6 hk (m:=128) (by decide);obtain⟨e,e0,e1,re⟩:=Y2 (a:=(d:Int)) (b:=2) (by omega) (by omega);have hw:=aQ (n:=N);have a8:=Gm (n:=N) (k:=4) (by decide);obtain⟨r,hr⟩:=aO (N.tmod 4);have a_:bS .rem (vi N) (vi 4)=aa (vi r):=by rw [hr];exact lV (by decide)
    rw [←hr]at a8;refine al (by simp) (ai ?_);simp;refine al (by simp) (ai ?_);simp;refine al (by simp) (ai ?_);simp;refine al (by simp) (ai ?_);simp;refine al (by simp) (ai ?_);simp;refine al (by simp) (ai ?_);simp;refine ak (by simp) (ai ?_);simp [s,j,hw,a_];have M:∀(t:T) (n:Int),(n=1∨n=2∨n=3∨-3≤n∧n≤-1)→t.g 2=.c (.ptr 0 0 0)→t.g 4=.c (.ptr 1 0 0)→t.g 6=.c (.ptr 2 0 0) →
      WP tab.get 105 ab [.code AG,.inBlock 0,.code tU] ⟨t,[],[.box [.f (u8 I),.f (.int .i8 N),.f (u8 X),.f (sl K (dx li))] 0,.box fe 0,.box [cI 7,cI l,cI 0,cI 0,cI n,cI 0,.f .aF,.f (.str ⟨#[]⟩)] 0]⟩ Q:=by
     intro t n i s u j;apply ai;simp [s,j,W,oL a (by omega),p];refine av (.inl rfl) ?_;simp [s,j,rd,oL d (by omega),re];refine aw ?_;exact v _ ⟨⟨7,l,e,0,n,b,[]⟩,.nil⟩ ⟨⟨by simp,.inr (.inr (.inr (.inr (.inr (.inr (.inl ⟨rfl,c,f,rfl,i,b0,(by dsimp only;omega),e0,(by dsimp only;omega)⟩))))))⟩,rfl,fun h=>absurd rfl h,rfl⟩ (by simp [u]) (by simp [j])
    refine aq (ai ?_);simp [j];by_cases o:r=0
    ·refine ak (by simp [o]) (av (.inl rfl) ?_);simp [j];exact M _ 1 (.inl rfl) (by simp [s]) (by simp [u]) (by simp [j])
    ·refine a5 (by simp [o]) ?_;exact M _ r (by omega) (by simp [s]) (by simp [u]) (by simp [j])
  have B:∀(t:T) (g:Nat),1≤g→g≤7→(cals=0→g=1∨g=5)→t.g 1=vi cals→t.g 2=.c (.ptr 0 0 0)→t.g 4=.c (.ptr 1 0 0)→t.g 5=vi g →
    WP tab.get 105 ab [.code E5] ⟨t,[],[.box [.f (u8 I),.f (.int .i8 N),.f (u8 X),.f (sl K (dx li))] 0,.box fe 0]⟩ Q:=by
   intro t g w h7 h0 g1 s u Y;have hu:=nV g (by omega);apply ai;simp [Y,fe];refine aq (ai ?_);simp [Y,hu];cases hs:mG g
   ·refine a5 (by simp) ?_;exact L _ g 0 w h7 (by omega) (by omega) (fun _=>rfl) (by simp [s]) (by simp [u]) (by simp [Y]) (by simp)
   ·have b_:g≠1∧g≠5:=by
     constructor<;>(rintro rfl;simp [mG]at hs)
    have a9:cals=2:=by
     rcases hc with e | e
     ·have:=h0 e;omega
     ·exact e
    subst a9;obtain⟨a,a1,W⟩:=z6 hm (m:=8) (by decide);obtain⟨b,b0,b1,p⟩:=Y2 (a:=(a:Int)) (b:=2) (by omega) (by omega);refine ak (by simp) (av (.inl rfl) ?_);simp [g1,s,W,oL a (by omega),p];exact L _ g b w h7 b0 (by omega) (fun e=>by omega) (by simp [s]) (by simp [u]) (by simp [Y]) (by simp)
  refine aq (ai ?_);have hu:=nV H (by omega);rcases hc with rfl | rfl
  ·simp [hu];cases hs:mG H
   ·refine a5 (by simp) ?_;refine B _ H (by omega) (by omega) (fun _=>?_) (by simp) (by simp) (by simp) (by simp);simp [mG]at hs;omega
   ·refine ak (by simp) (av (.inl rfl) ?_);simp;exact B _ 1 (by omega) (by omega) (fun _=>.inl rfl) (by simp) (by simp) (by simp) (by simp)
  ·simp;refine a5 (by simp) ?_;exact B _ H (by omega) (by omega) (fun h=>by omega) (by simp) (by simp) (by simp) (by simp)
 exact⟨y,hy,hp.eq⟩
structure sU where
 tg:Tg
 l:List aR
def sU.row(x:sU):List FC:=[sl x.tg (aH x.l)]
def cD(l:List sU):List (List FC):=l.map sU.row
@[simp] theorem ajW (l:List sU):(cD l).length=l.length:=by simp [cD]
theorem kO(l:List sU):bR 1 (cD l):=bR.map fun _=>rfl
theorem sO(l:List sU)(x:sU):cD (l++[x])=cD l++[x.row]:=by simp [cD]
theorem MH{l:List sU}{j:Nat}(b:j<l.length):(cD l)[j]?=aa l[j].row:=by simp [cD,b]
theorem rK{H:aj}{g:Tg}{st:List sU}{j:Nat}(b:j<st.length)(_:st.length≤1000):aP H 1 ab (.c (.f (sl g (cD st)))) (vi j)=aa (.c (.f (.fp (cD st).flatten j))):=by
 have:=c5 (H:=H) (g:=g) (rows:=cD st) (sz:=1) (k:=.i64) (i:=(j:Int)) (by omega) (by simp;omega);simpa using this
theorem xN{H:aj}{st:List sU}{j:Nat}(b:j<st.length):aU H ab (.c (.f (.fp (cD st).flatten j)))=aa (.c (.f (sl st[j].tg (aH st[j].l)))):=by
 have:=kF (H:=H) (rows:=cD st) (j:=j) (sz:=1) (row:=st[j].row) (x:=sl st[j].tg (aH st[j].l)) (kO st) (MH b) rfl;simpa using this
theorem ae_(g:Tg)(st:List sU)(W:st.length≤1000)(n:Nat)(Z:n≤st.length)(r:sU) :
  ∃ q,bA tab.get 104 [.c (.f (sl g (cD st))),vi n,.c (.f (sl r.tg (aH r.l)))]=Eq (.c (.f (sl q (cD (st.take n++[r]))))):=by
 obtain⟨O,⟨q,rfl⟩,X⟩:∃ O,(∃ q,O=.c (.f (sl q (cD (st.take n++[r])))))∧bA tab.get 104 [.c (.f (sl g (cD st))),vi n,.c (.f (sl r.tg (aH r.l)))] O:=by
  refine bQ rfl rfl fun Q S=>?_;apply ai;simp;apply ai;simp;refine aq (ai ?_);simp;refine bV n (fun j t K=>∃ c,t.g 0=.c (.f (sl g (cD st)))∧t.g 1=vi n∧t.g 2=.c (.f (sl r.tg (aH r.l)))∧t.g 7=.c c∧LR K c 1 (cD (st.take j))) (by omega) (by decide) (by simp)
   ⟨.f .es,by simp,by simp,by simp,by simp,.inl ⟨rfl,.inr rfl⟩⟩ ?_ ?_ ?_
  ·rintro j t K L U ⟨c,A,B,E,F,d⟩ y N;simp [y,B];exact N _ ⟨c,by simp [A],by simp [B],by simp [E],by simp [F],d⟩ (by simp [y]) (by simp)
  ·rintro j t K U ⟨c,A,B,E,F,d⟩ y Y;have v:j<st.length:=by omega
   obtain⟨x,H⟩:=aO (st[j]);obtain⟨z,b⟩:=aO (K++[.box (x.row.map .f) 0]:aj);have s:LR z c 1 (cD (st.take j)):=by rw [b];exact d.push _
   have u:z[K.length]?=aa (.box (x.row.map .f) 0):=by rw [b];simp
   obtain⟨I,H',l,m,J,M⟩:=s.app (kO _) (by decide) (row:=x.row) rfl (bytes:=24) (cC (by simp;omega) (by decide)) u;simp only [sU.row,aft,apr]at b;refine aB (av (.inl rfl) ?_);simp [A,F,y,rK v W,xN v,←H];rw [←b];simp [l];refine aw ?_;refine Y _ _ ⟨I,by simp [A],by simp [B],by simp [E],by simp,?_⟩ (by simp [y]);rw [aq8 v,←H,sO];exact m
  ·rintro t K ⟨c,A,B,E,F,d⟩ y;obtain⟨z,b⟩:=aO (K++[.box (r.row.map .f) 0]:aj);have s:LR z c 1 (cD (st.take n)):=by rw [b];exact d.push _
   have u:z[K.length]?=aa (.box (r.row.map .f) 0):=by rw [b];simp
   obtain⟨I,H',l,m,J,M⟩:=s.app (kO _) (by decide) (row:=r.row) rfl (bytes:=24) (cC (by simp;omega) (by decide)) u;rw [←sO]at m;obtain⟨q,H⟩:=qn m (kO _);simp only [sU.row,aft,apr]at b;apply ai;simp [E,F];rw [←b];simp [l];refine aJ (S _ _ _ ⟨q,rfl⟩ ⟨rfl,.c I,?_,?_⟩)
   ·simp [Km.results,bs,ba]
   ·simp [fJ,bO,H]
 exact⟨q,X.eq⟩
abbrev Cx(st:List sU):List (List bE):=st.map fun x=>dN x.l
theorem XB{H:aj}{b d:Nat}{x:aR}(g:H[b]?=aa (.box (x.row.map .f) d)){l:List aR}(j:l=[x]):c8 deep H (.sl b 0 1 1 0 8)=aa (sl .fs (aH l)):=by
 subst j;show c8 (63+1) H _=_;rw [kE,g];simp [sl,aH];exact⟨OF 8,zw (n:=63) (H:=H) x.row⟩
theorem Good.lib{r:List aR}(h:Good (dN r)):LiB r:=by
 intro x b;obtain⟨i,hi,rfl⟩:=arS b;have:=(h.at_ i (by simpa using hi)).ok.1;simpa using this
theorem zW{st:List sU}{k:Nat}(h:cK (Cx st) k){j:Nat}(d:j<st.length):st[j].l.length≤k:=by
 have g:=h.tot;have b:=pz (st:=Cx st) (i:=j) (by simpa using d);have l:=oV (Cx st) (j+1);simp at b;omega
theorem qJ{st:List sU}{k:Nat}(h:cK (Cx st) k){j:Nat}(b:j<st.length):Good (dN st[j].l):=
 h.LF _ (ase.2 ⟨st[j],IT b,rfl⟩)
theorem Xb(X:cT){q:Int}(h:14≤q∧q<18):∃(j b:Nat),(b=8∨b=9∨b=10∨b=17)∧aP [X,.box [cI 8,cI 9,cI 10,cI 17] 0] 1 ab (.c (.sl 1 0 4 4 0 1)) (vi (q-14))=aa (.c (.ptr 1 j 0))∧aU [X,.box [cI 8,cI 9,cI 10,cI 17] 0] ab (.c (.ptr 1 j 0))=aa (vi b):=by
 rcases(show q=14∨q=15∨q=16∨q=17 by omega)with rfl | rfl | rfl | rfl
 ·exact⟨0,8,by simp,rfl,rfl⟩
 ·exact⟨1,9,by simp,rfl,rfl⟩
 ·exact⟨2,10,by simp,rfl,rfl⟩
 ·exact⟨3,17,by simp,rfl,rfl⟩
theorem aqP(X:cT){e:Int}(h:0≤e∧e<7):∃(j b:Nat),(11≤b∧b≤16)∧aP [X,.box [cI 11,cI 12,cI 13,cI 14,cI 15,cI 16,cI 11] 0] 1 ab (.c (.sl 1 0 7 7 0 1)) (vi e)=aa (.c (.ptr 1 j 0))∧aU [X,.box [cI 11,cI 12,cI 13,cI 14,cI 15,cI 16,cI 11] 0] ab (.c (.ptr 1 j 0))=aa (vi b):=by
 rcases(show e=0∨e=1∨e=2∨e=3∨e=4∨e=5∨e=6 by omega)with rfl | rfl | rfl | rfl | rfl | rfl | rfl
 ·exact⟨0,11,by simp,rfl,rfl⟩
 ·exact⟨1,12,by simp,rfl,rfl⟩
 ·exact⟨2,13,by simp,rfl,rfl⟩
 ·exact⟨3,14,by simp,rfl,rfl⟩
 ·exact⟨4,15,by simp,rfl,rfl⟩
 ·exact⟨5,16,by simp,rfl,rfl⟩
 ·exact⟨6,11,by simp,rfl,rfl⟩
theorem afp{cals:Nat}(hc:cals=0∨cals=2)(g:Tg)(st:List sU){k:Nat}(s:cK (Cx st) k)(hk:k≤8)(x:lj)(hx:x.OK) :
  ∃ M u,u≠[]∧cK (Cx u) (k+1)∧bA tab.get 66 [.c (.f (sl g (cD st))),.a (x.row.map .f),vi cals]=Eq (.c (.f (sl M (cD u)))):=by
 obtain⟨rr,⟨M,u,h0,h1,rfl⟩,hp⟩:∃ rr,(∃ M u,u≠[]∧cK (Cx u) (k+1)∧rr=.c (.f (sl M (cD u))))∧bA tab.get 66 [.c (.f (sl g (cD st))),.a (x.row.map .f),vi cals] rr:=by
  have d_:=s.count;simp only [asn]at d_;obtain⟨yp,l_,d8⟩:=YM x hx hc;obtain⟨n,hn⟩:=aO (st.length);refine bQ rfl rfl fun Q hQ=>?_;obtain⟨S,U,K,W,li⟩:=x;obtain⟨l9,g_,f_,a9,a8⟩:=hx;simp only at l9 g_ f_ a9 a8;simp only [lj.row]at d8;apply ai;simp [lj.row];apply ai;simp;obtain⟨q,hq⟩:=aO ((S:Int) % 25:Int);have w1:ah .i64 (S:Int)=S:=aQ;have r1:bS .rem (vi S) (vi 25)=aa (vi q):=by rw [po (by omega) (by omega),hq]
  apply ai;simp [w1,r1];refine aq (ai ?_);simp;have B:=fun(m:Nat) (hm:m≤st.length) (r:sU)=>ae_ g st (by omega) m hm r;have m9:∀(b:Int),True:=fun _=>trivial;have c9:∀(t:T),t.g 0=.c (.f (sl g (cD st)))→t.g 2=vi cals→t.g 4=.c (.ptr 0 0 0)→t.g 7=vi st.length →
    WP tab.get 66 ab [.code AL,.code AM] ⟨t,[],[.box [.f (u8 S),.f (.int .i8 U),.f (u8 K),.f (sl W (dx li))] 0]⟩ Q:=by
   intro t v g2 E z;obtain⟨M,A⟩:=B st.length (OF _) ⟨.fs,[yp]⟩;apply ai;simp only [aft,apr]at d8;have j_:yp.row.length=8:=rfl;have hx:c8 deep [.box [.f (u8 S),.f (.int .i8 U),.f (u8 K),.f (sl W (dx li))] 0,.box (yp.row.map .f) 0] (.sl 1 0 1 1 0 8)=aa (sl .fs (aH [yp])):=XB rfl rfl;simp [v,g2,E,z,d8,j_,hx,A];refine aJ (hQ _ _ _ ⟨M,st++[⟨.fs,[yp]⟩],by simp,?_,rfl⟩ ?_)
   ·have:=s.leaf l_.LF (r:=[yp.d]) rfl;rw [ar8]at this;simpa [Cx]using this
   ·simp
  obtain⟨X,hX⟩:=aO (.box [.f (u8 S),.f (.int .i8 U),.f (u8 K),.f (sl W (dx li))] 0:cT);have bin:∀(t:T) (y:aR) (H:aj),2≤st.length→(∀ l r,bE.OK ⟨y.d.k,y.d.er,l,r,y.d.n,y.d.m,y.d.li⟩)→dQ y.d.k=2→H[2]?=aa (.box (y.row.map .f) 0)→t.g 0=.c (.f (sl g (cD st)))→t.g 7=vi st.length→t.g 9=.c (.ptr 2 0 0) →
    WP tab.get 66 ab [.code AN,.code tV] ⟨t,[],H⟩ Q:=by
   intro t y H h2 hy d7 b2 v z g9;obtain⟨-,-,-,-,-,-,-,e8⟩:=qk b2;have hA:=zW s (j:=st.length-2) (by omega);have Z:=zW s (j:=st.length-1) (by omega);have gA:=qJ s (j:=st.length-2) (by omega);have Y:=qJ s (j:=st.length-1) (by omega);obtain⟨a,ha⟩:=aO (st[st.length-2]'(by omega));obtain⟨b,hb⟩:=aO (st[st.length-1]'(by omega));have lA:=xN (H:=H) (st:=st) (j:=st.length-2) (by omega);have lB:=xN (H:=H) (st:=st) (j:=st.length-1) (by omega);have iA:=rK (H:=H) (g:=g) (st:=st) (j:=st.length-2) (by omega) (by omega);have iB:=rK (H:=H) (g:=g) (st:=st) (j:=st.length-1) (by omega) (by omega);rw [←ha]at hA gA lA;rw [←hb]at Z Y lB;have pA:=gA.pos;have pB:=Y.pos;simp only [pW]at pA pB;obtain⟨g1,l1,hd,d3⟩:=xp y (hy 0 0).1 a.tg b.tg (a:=a.l) (b:=b.l) (by omega) (by omega) gA.lib (fun i hi=>by
    have:=Y.at_ i (by simpa using hi);simpa using this) (by omega)
   obtain⟨M,A⟩:=B (st.length-2) (by omega) ⟨g1,l1⟩;have c2:((st.length-2:Nat):Int)=(st.length:Int)-2:=by omega
   have c1:((st.length-1:Nat):Int)=(st.length:Int)-1:=by omega
   rw [c2]at iA A;rw [c1]at iB;have w2:=aQ (n:=(st.length:Int)-2);have d9:=aQ (n:=(st.length:Int)-1);apply ai;simp [v,z,g9,w2,d9,e8,-an,iA,iB,lA,lB,d3,A];refine aJ (hQ _ _ _ ⟨M,st.take (st.length-2)++[⟨g1,l1⟩],by simp,?_,rfl⟩ (by simp));have hG:Good (dN l1):=by
    rw [hd,←pW a.l];exact .bin (x:=⟨y.d.k,y.d.er,((dN a.l).length:Int)-1,((dN a.l).length:Int)+b.l.length-1,y.d.n,y.d.m,y.d.li⟩) gA Y (hy _ _) d7 (by simp) (by simp)
   have:=s.bin (r:=dN l1) (by simpa using h2) hG (by
    have:=congrArg List.length hd;simp at this;simp [←ha,←hb];omega)
   simpa [Cx]using this
  have J:∀(t:T) (y:aR) (H:aj),1≤st.length→(∀ l,bE.OK ⟨y.d.k,y.d.er,l,y.d.r,y.d.n,y.d.m,y.d.li⟩)→dQ y.d.k=1→y.d.r=0→H[2]?=aa (.box (y.row.map .f) 0)→t.g 0=.c (.f (sl g (cD st)))→t.g 7=vi st.length→t.g 10=.c (.ptr 2 0 0) →
    WP tab.get 66 ab [.code AP] ⟨t,[],H⟩ Q:=by
   intro t y H h2 hy d7 m4 b2 v z g10;obtain⟨-,-,-,-,-,-,-,e8⟩:=qk b2;have Z:=zW s (j:=st.length-1) (by omega);have Y:=qJ s (j:=st.length-1) (by omega);obtain⟨b,hb⟩:=aO (st[st.length-1]'(by omega));have lB:=xN (H:=H) (st:=st) (j:=st.length-1) (by omega);have iB:=rK (H:=H) (g:=g) (st:=st) (j:=st.length-1) (by omega) (by omega);rw [←hb]at Z Y lB;have pB:=Y.pos;simp only [pW]at pB;obtain⟨g1,l1,hd,d3⟩:=vI y (hy 0).1 b.tg (r:=b.l) (by omega) Y.lib;obtain⟨M,A⟩:=B (st.length-1) (by omega) ⟨g1,l1⟩;have c1:((st.length-1:Nat):Int)=(st.length:Int)-1:=by omega
   rw [c1]at iB A;have d9:=aQ (n:=(st.length:Int)-1);apply ai;simp [v,z,g10,d9,e8,-an,iB,lB,d3,A];refine aJ (hQ _ _ _ ⟨M,st.take (st.length-1)++[⟨g1,l1⟩],by simp,?_,rfl⟩ (by simp));have hG:Good (dN l1):=by
    rw [hd];exact .un (x:=⟨y.d.k,y.d.er,(b.l.length:Int)-1,y.d.r,y.d.n,y.d.m,y.d.li⟩) Y (hy _) d7 (by simp) m4
   have:=s.un (r:=dN l1) (by simp;omega) hG (by
    have:=congrArg List.length hd;simp at this;simp [←hb];omega)
   simpa [Cx]using this
  by_cases hA:q<14∨st.length=0
  ·have hR:(if decide (q<14)=ae then aa ae else aa (decide (st.length=0)))=aa ae:=by
    rcases hA with h | h<;>simp [h]
   by_cases F:q<14
   ·simp [F];refine ak (by simp) (c9 _ (by simp) (by simp) (by simp) (by simp))
   ·have h0:st.length=0:=by omega
    have h_:(st.length:Int)=0:=by omega
    have e_:=anc h0;simp [F,h_];refine ak (by simp [e_]) (c9 _ (by simp) (by simp) (by simp) (by simp [h0]))
  ·have F:¬ q<14:=fun h=>hA (.inl h);have j8:st.length≠0:=fun h=>hA (.inr h);have m7:14≤q∧q<25:=by omega
   have j9:st≠[]:=fun h=>j8 (by rw [h];rfl);simp [F];refine a5 (by simp [j9]) ?_;refine aq (ai ?_);by_cases Z:q<18∧2≤st.length
   ·simp [Z.1,show(2:Int)≤st.length by omega];refine ak (by simp) (ai ?_);have m6:=aQ (n:=q-14);obtain⟨j,L,a_,d5,d6⟩:=Xb (.box [.f (u8 S),.f (.int .i8 U),.f (u8 K),.f (sl W (dx li))] 0) (q:=q) (by omega);simp [m6,d5,d6,-an];refine aq (ai ?_);simp;rcases a_ with rfl | rfl | rfl | rfl
    ·refine a5 (by simp) ?_;exact bin _ ⟨⟨8,0,0,0,0,0,[]⟩,.nil⟩ _ Z.2 (fun l r=>⟨by simp,by simp [db]⟩) (by rfl) (by rfl) (by simp) (by simp) (by simp)
    ·refine a5 (by simp) ?_;exact bin _ ⟨⟨9,0,0,0,0,0,[]⟩,.nil⟩ _ Z.2 (fun l r=>⟨by simp,by simp [db]⟩) (by rfl) (by rfl) (by simp) (by simp) (by simp)
    ·refine a5 (by simp) ?_;exact bin _ ⟨⟨10,0,0,0,0,0,[]⟩,.nil⟩ _ Z.2 (fun l r=>⟨by simp,by simp [db]⟩) (by rfl) (by rfl) (by simp) (by simp) (by simp)
    ·obtain⟨mg,m0,m1,j7⟩:=ma g_ (k:=3) (by decide);refine ak (by simp) (av (.inl rfl) ?_);simp [j7,aQ (n:=1+mg)];exact bin _ ⟨⟨17,0,0,0,1+mg,0,[]⟩,.nil⟩ _ Z.2 (fun l r=>⟨by simp,by simp [db];omega⟩) (by rfl) (by rfl) (by simp) (by simp) (by simp)
   ·have f9:∀(t:T),t.g 0=.c (.f (sl g (cD st)))→t.g 2=vi cals→t.g 4=.c (.ptr 0 0 0)→t.g 7=vi st.length→t.g 8=vi q →
      WP tab.get 66 ab [.code tV] ⟨t,[],[.box [.f (u8 S),.f (.int .i8 U),.f (u8 K),.f (sl W (dx li))] 0]⟩ Q:=by
     intro t v g2 E z g8;obtain⟨e,he⟩:=aO (max q 18-18:Int);obtain⟨j,L,a_,d5,d6⟩:=aqP (.box [.f (u8 S),.f (.int .i8 U),.f (u8 K),.f (sl W (dx li))] 0) (e:=e) (by omega);have wE:ah .i64 (max q 18-18)=e:=by rw [he];exact aQ
     apply ai;simp [g8,wE,d5,d6,-an];have I:1≤st.length:=by omega
     have l7:=aQ (n:=U);have b_:ah .i64 (K:Int)=K:=aQ;have c_:∀(t:T),t.g 0=.c (.f (sl g (cD st)))→t.g 4=.c (.ptr 0 0 0)→t.g 7=vi st.length→t.g 10=.c (.ptr 2 0 0)→∀ L:Nat,(L=12∨L=13) →
       WP tab.get 66 ab [.code AO] ⟨t,[],[.box [.f (u8 S),.f (.int .i8 U),.f (u8 K),.f (sl W (dx li))] 0,.box [cI 11,cI 12,cI 13,cI 14,cI 15,cI 16,cI 11] 0,.box [cI L,cI 0,cI 0,cI 0,cI 0,cI 0,.f .aF,.f (.str ⟨#[]⟩)] 0]⟩ Q:=by
      intro t v E z g10 L a_;refine aq (ai ?_);simp [g10];refine aB (ai ?_);rcases a_ with rfl | rfl
      ·simp;refine al (by simp) (aq (ai ?_));simp;refine ak (by simp) (aL ?_);refine ak (by simp) (av (.inl rfl) ?_);simp [E,g10,b_];refine aw ?_;exact J _ ⟨⟨12,0,0,0,K,0,[]⟩,.nil⟩ _ I (fun l=>⟨by simp,by simp [db];omega⟩) (by rfl) rfl (by rfl) (by simp [v]) (by simp [z]) (by simp [g10])
      ·simp;refine al (by simp) (aq (ai ?_));simp;refine al (by simp) (av (.inl rfl) ?_);simp;refine ak (by simp) (av (.inl rfl) ?_);simp [E,g10,b_];refine aw ?_;exact J _ ⟨⟨13,0,0,0,K,0,[]⟩,.nil⟩ _ I (fun l=>⟨by simp,by simp [db];omega⟩) (by rfl) rfl (by rfl) (by simp [v]) (by simp [z]) (by simp [g10])
     refine aq (ai ?_);rcases(show L=11∨L=12∨L=13∨L=14∨L=15∨L=16 by omega)with rfl | rfl | rfl | rfl | rfl | rfl
     ·obtain⟨r,hr⟩:=aO (U.tmod 12);have k_:bS .rem (vi U) (vi 12)=aa (vi r):=by rw [hr];exact lV (by decide)
      have i_:=Gm (n:=U) (k:=12) (by decide);rw [←hr]at i_;simp;refine al (by simp) (aL (aq (ai ?_)));simp;refine aB (ai ?_);simp;refine ak (by simp) (av (.inl rfl) ?_);simp [E,l7,k_];refine aw ?_;exact J _ ⟨⟨11,0,0,0,r,0,[]⟩,.nil⟩ _ I (fun l=>⟨by simp,by simp [db];omega⟩) (by rfl) rfl (by rfl) (by simp [v]) (by simp [z]) (by simp)
     ·simp;refine a5 (by simp) ?_;exact c_ _ (by simp [v]) (by simp [E]) (by simp [z]) (by simp) 12 (.inl rfl)
     ·simp;refine a5 (by simp) ?_;exact c_ _ (by simp [v]) (by simp [E]) (by simp [z]) (by simp) 13 (.inr rfl)
     ·obtain⟨gp,lp,hr,N,O⟩:=mf W li a9 a8 (lo:=0) (hi:=60) (by decide) (by decide) (by decide) ae (by decide);simp;refine al (by simp) (aL (aq (ai ?_)));simp;refine aB (ai ?_);simp;refine al (by simp) (aq (ai ?_));simp;refine al (by simp) (av (.inl rfl) ?_);simp;refine al (by simp) (aq (ai ?_));simp;refine ak (by simp) (aL ?_);refine ak (by simp) (av (.inl rfl) ?_);simp [E,O];refine aw ?_;exact J _ ⟨⟨14,0,0,0,0,0,lp⟩,gp⟩ _ I (fun l=>⟨by simp at N ⊢;omega,by simp [db];exact hr⟩) (by rfl) rfl (by rfl) (by simp [v]) (by simp [z]) (by simp)
     ·obtain⟨gp,lp,hr,N,O⟩:=mf W li a9 a8 (lo:=0) (hi:=60) (by decide) (by decide) (by decide) ae (by decide);simp;refine al (by simp) (aL (aq (ai ?_)));simp;refine aB (ai ?_);simp;refine al (by simp) (aq (ai ?_));simp;refine al (by simp) (av (.inl rfl) ?_);simp;refine al (by simp) (aq (ai ?_));simp;refine al (by simp) (av (.inl rfl) ?_);simp;refine ak (by simp) (av (.inl rfl) ?_);simp [E,O];refine aw ?_;exact J _ ⟨⟨15,0,0,0,0,0,lp⟩,gp⟩ _ I (fun l=>⟨by simp at N ⊢;omega,by simp [db];exact hr⟩) (by rfl) rfl (by rfl) (by simp [v]) (by simp [z]) (by simp)
     ·rcases hc with rfl | rfl
      ·simp [g2];refine ak (by simp) (av (.inl rfl) ?_);simp;exact c_ _ (by simp [v]) (by simp [E]) (by simp [z]) (by simp) 12 (.inl rfl)
      ·obtain⟨gp,lp,hr,N,O⟩:=mf W li a9 a8 (lo:=(-3)) (hi:=4) (by decide) (by decide) (by decide) ag (by decide);obtain⟨a,a1,ra⟩:=z6 f_ (m:=8) (by decide);obtain⟨b,b0,b1,rb⟩:=Y2 (a:=(a:Int)) (b:=2) (by omega) (by omega);obtain⟨d,d1,rd⟩:=jI K (m:=2) (by decide);simp [g2];refine al (by simp) (aL (aq (ai ?_)));simp;refine aB (ai ?_);simp;refine al (by simp) (aq (ai ?_));simp;refine al (by simp) (av (.inl rfl) ?_);simp;refine al (by simp) (aq (ai ?_));simp;refine al (by simp) (av (.inl rfl) ?_);simp;refine al (by simp) (ai ?_);simp;refine ak (by simp) (ai ?_);simp [g2,E,ra,oL a (by omega),rb];apply ai;simp [E,rd,oL d (by omega)];refine av (.inl rfl) ?_;simp [E,O];refine aw ?_;exact J _ ⟨⟨16,b,0,0,0,d,lp⟩,gp⟩ _ I (fun l=>⟨by simp at N ⊢;omega,by simp [db];exact⟨b0,by omega,hr,by omega⟩⟩) (by rfl) rfl (by rfl) (by simp [v]) (by simp [z]) (by simp)
    by_cases b9:q<18
    ·simp [b9,show¬ (2:Int)≤st.length by omega];refine al (by simp) (aL (f9 _ (by simp) (by simp) (by simp) (by simp) (by simp)))
    ·simp [b9];refine al (by simp) (aL (f9 _ (by simp) (by simp) (by simp) (by simp) (by simp)))
 exact⟨M,u,h0,h1,hp.eq⟩
def eE(l:List lj):List (List FC):=l.map lj.row
@[simp] theorem agA (l:List lj):(eE l).length=l.length:=by simp [eE]
theorem zL(l:List lj):bR 4 (eE l):=bR.map fun _=>rfl
theorem EA{l:List lj}{j:Nat}(b:j<l.length):(eE l)[j]?=aa l[j].row:=by simp [eE,b]
theorem adS{H:aj}{g:Tg}{l:List lj}{j:Nat}(b:j<l.length)(d:l.length≤9223372036854775807):aP H 4 ab (.c (.f (sl g (eE l)))) (vi j)=aa (.c (.f (.fp (eE l).flatten (j*4)))):=by
 have:=c5 (H:=H) (g:=g) (rows:=eE l) (sz:=4) (k:=.i64) (i:=(j:Int)) (by omega) (by simp;omega);simpa using this
theorem ah'{H:aj}{l:List lj}{j:Nat}(b:j<l.length):aU H (aa 4) (.c (.f (.fp (eE l).flatten (j*4))))=aa (.a (l[j].row.map .f)):=by
 have:=fM (H:=H) (rows:=eE l) (j:=j) (sz:=4) (row:=l[j].row) (zL l) (EA b);simpa using this
theorem X6{cals:Nat}(hc:cals=0∨cals=2)(g:Tg)(l:List lj)(hl:l.length≤9223372036854775807)(hx:∀ x ∈ l,x.OK) :
  ∃ r:sU,Good (dN r.l)∧r.l.length≤15∧bA tab.get 23 [.c (.f (sl g (eE l))),vi cals]=Eq (.c (.f (sl r.tg (aH r.l)))):=by
 obtain⟨rr,⟨r,h1,h2,rfl⟩,hp⟩:∃ rr,(∃ r:sU,Good (dN r.l)∧r.l.length≤15∧rr=.c (.f (sl r.tg (aH r.l))))∧bA tab.get 23 [.c (.f (sl g (eE l))),vi cals] rr:=by
  refine bQ rfl rfl fun Q hQ=>?_;have W:∀(t:T) (H:aj) (c:C) (r:sU),c8 deep H c=aa (sl r.tg (aH r.l))→Good (dN r.l)→r.l.length≤15→t.g 7=.c c →
    WP tab.get 23 ab [.code Ar] ⟨t,[],H⟩ Q:=by
   intro t H c r hx hg hl S;apply ai;simp [S];refine aJ (hQ _ _ _ ⟨r,hg,hl,rfl⟩ ⟨rfl,.c c,?_,?_⟩)
   ·simp [Km.results,bs,ba]
   ·simp [fJ,bO,hx]
  apply ai;simp;apply ai;simp;refine aq (ai ?_);simp;obtain⟨N,hN⟩:=aO (min l.length 8);refine bV N (fun i t K=>∃ v st,(st=[]→v=.es)∧cK (Cx st) i∧t.g 0=.c (.f (sl g (eE l)))∧t.g 1=vi cals∧t.g 5=.c (.f (sl v (cD st)))) (by omega) (by decide) (by simp)
   ⟨.es,[],fun _=>rfl,.nil,by simp,by simp,by simp [sl,cD,Tg.fc]⟩ ?_ ?_ ?_
  ·rintro i t K L b_ ⟨v,st,y,d,A,z,q⟩ B hn;by_cases O:(i:Int)<l.length
   ·simp [B,A,O];exact hn _ ⟨v,st,y,d,by simp [A],by simp [z],by simp [q]⟩ (by simp [B]) (by simp;omega)
   ·simp [B,A,O];exact hn _ ⟨v,st,y,d,by simp [A],by simp [z],by simp [q]⟩ (by simp [B]) (by simp;omega)
  ·rintro i t K b_ ⟨v,st,y,d,A,z,q⟩ B nx;have I:i<l.length:=by omega
   obtain⟨x,a9⟩:=aO (l[i]);obtain⟨g2,d5,k,o,hp⟩:=afp hc v st d (by omega) x (by rw [a9];exact hx _ (IT I));refine aB (av (.inl rfl) ?_);simp [q,z,A,B,adS I hl,ah' I,←a9,hp];refine aw ?_;exact nx _ _ ⟨g2,d5,fun e=>absurd e k,o,by simp [A],by simp [z],by simp⟩ (by simp [B])
  ·rintro t K ⟨v,st,y,d,A,z,q⟩ B;have h:=d.count;simp only [asn]at h;refine aq (ai ?_);simp [q];by_cases h0:st=[]
   ·subst h0;have b9:=y rfl;subst b9;refine ak (by simp) (av (.inl rfl) ?_);have d6:sU:=⟨.fs,[⟨⟨1,0,0,0,2,0,[]⟩,.nil⟩]⟩
    obtain⟨u,E⟩:=aO (K++[.box [cI 1,cI 0,cI 0,cI 0,cI 2,cI 0,.f .aF,.f (.str ⟨#[]⟩)] 0,.box [.sl K.length 0 1 1 0 8] 0]:aj);have b0:u[K.length]?=aa (.box ((aR.row ⟨⟨1,0,0,0,2,0,[]⟩,.nil⟩).map .f) 0):=by rw [E,arY (by omega),Nat.sub_self];rfl
    have b1:u[K.length+1]?=aa (.box [.sl K.length 0 1 1 0 8] 0):=by rw [E,arY (by omega),Nat.add_sub_cancel_left];rfl
    have Y:c4 u 1 (.c (.sl (K.length+1) 0 1 1 0 1))=aa (1,[.sl K.length 0 1 1 0 8]):=by simp [c4,bH,cO,b1]
    have J:bW 1 24=ae:=by decide
    have Z:bU u 1 24 (.c (.f (sl .es (cD [])))) (.c (.sl (K.length+1) 0 1 1 0 1))=aa (.c (.sl u.length 0 1 0 0 1),u++[.bM 1 [.sl K.length 0 1 1 0 8] 0 0 .loc]):=by
     simp [bU,Y,J,sl,cD,Tg.fc]
    simp [q];rw [←E];simp [Z];obtain⟨M,F⟩:=aO (u++[.bM 1 [.sl K.length 0 1 1 0 8] 0 0 .loc]:aj);have c0:M[K.length]?=aa (.box ((aR.row ⟨⟨1,0,0,0,2,0,[]⟩,.nil⟩).map .f) 0):=by rw [F,At (au b0)];exact b0
    have O:M[u.length]?=aa (.bM 1 [.sl K.length 0 1 1 0 8] 0 0 .loc):=by rw [F,arY (by omega),Nat.sub_self];rfl
    rw [←F];have i0:aP M 1 ab (.c (.sl u.length 0 1 0 0 1)) (vi 0)=aa (.c (.ptr u.length 0 0)):=by simp [aP,dy,O]
    have l0:aU M ab (.c (.ptr u.length 0 0))=aa (.c (.sl K.length 0 1 1 0 8)):=by simp [aU,aC,O,aK]
    have n0:bH M (.sl u.length 0 1 0 0 1)=aa 1:=by simp [bH,O]
    apply ai;simp [i0,l0,-an];refine aq (ai ?_);simp;refine aB (bI (fun m s=>∃(t:T),s=⟨t,[],M⟩∧t.g 5=.c (.sl u.length 0 1 0 0 1)∧t.g 7=.c (.sl K.length 0 1 1 0 8)∧t.g 8=vi 1) 0 ⟨_,rfl,by simp,by simp,by simp⟩ ?_);rintro m s ⟨t,rfl,q,S,X⟩ ih;refine aq (ai ?_);simp [q,X,n0];refine al (by simp) (bq rfl ?_);refine W _ _ _ ⟨.fs,[⟨⟨1,0,0,0,2,0,[]⟩,.nil⟩]⟩ (XB c0 rfl) ?_ (by simp) (by simp [S]);exact .leaf ⟨by simp,by simp [db]⟩ rfl (fun _=>rfl) rfl
   ·refine a5 (by simp [h0]) ?_;have n:=asC.2 h0;have l0:=xN (H:=K) (st:=st) (j:=0) (by omega);have i0:=rK (H:=K) (g:=v) (st:=st) (j:=0) (by omega) (by omega);apply ai;simp only [as7]at i0;simp [q,i0,l0];refine aq (ai ?_);simp;refine aB (bI (fun m s=>∃(j:Nat) (r:sU) (t:T) (K:aj),s=⟨t,[],K⟩∧1≤j∧j≤st.length∧m=st.length-j∧Good (dN r.l)∧r.l.length+1=total ((Cx st).take j)+j∧t.g 5=.c (.f (sl v (cD st)))∧t.g 7=.c (.f (sl r.tg (aH r.l)))∧t.g 8=vi j) (st.length-1)
     ⟨1,st[0],_,_,rfl,by omega,by omega,rfl,qJ d (by omega),?_,by simp [q],by simp,by simp⟩ ?_)
    ·have:=pz (st:=Cx st) (i:=0) (by simpa using n);rw [this];simp [total]
    ·rintro m s ⟨j,r,t,K,rfl,j1,j2,rfl,hr,d3,q,S,X⟩ ih;refine aq (ai ?_);simp [q,X];by_cases U:j<st.length
     ·refine ak (by simp [U]) (aL ?_);have hB:=zW d (j:=j) U;have gB:=qJ d (j:=j) U;have a8:=pz (st:=Cx st) (i:=j) (by simpa using U);have p:=oV (Cx st) (j+1);have w:=d.tot;obtain⟨b,hb⟩:=aO (st[j]);have lB:=xN (H:=K) (st:=st) (j:=j) U;have iB:=rK (H:=K) (g:=v) (st:=st) (j:=j) U (by omega);simp at a8;rw [←hb]at hB gB lB a8;have pA:=hr.pos;have pB:=gB.pos;simp only [pW]at pA pB;obtain⟨z,l1,hd,a_⟩:=xp ⟨⟨9,0,0,0,0,0,[]⟩,.nil⟩ (by simp) r.tg b.tg (a:=r.l) (b:=b.l) (by omega) (by omega) hr.lib (fun i hi=>by
       have:=gB.at_ i (by simpa using hi);simpa using this) (by omega)
      have hw:ah .i64 ((j:Int)+1)=((j+1:Nat):Int):=by rw [aQ];omega
      have f:bA tab.get 67 [.a [cI 9,cI 0,cI 0,cI 0,cI 0,cI 0,.f .aF,.f (.str ⟨#[]⟩)],.c (.f (sl r.tg (aH r.l))),.c (.f (sl b.tg (aH b.l)))]=Eq (.c (.f (sl z (aH l1)))):=a_;refine aq (aB (av (.inl rfl) ?_));simp [q,S,X,iB,lB,f];refine aw (av (.inl rfl) ?_);simp [X,hw];have c_:l1.length=r.l.length+b.l.length+1:=by
       have:=congrArg List.length hd;simp at this;omega
      refine ih (st.length-(j+1)) _ (by omega) ⟨j+1,⟨z,l1⟩,_,_,rfl,by omega,by omega,rfl,?_,?_,by simp [q],by simp,by simp⟩
      ·rw [hd,←pW r.l];exact .bin (x:=⟨9,0,((dN r.l).length:Int)-1,((dN r.l).length:Int)+b.l.length-1,0,0,[]⟩) hr gB ⟨by simp,by simp [db]⟩ rfl (by simp) (by simp)
      ·simp only [c_];omega
     ·have c9:j=st.length:=by omega
      subst c9;have p:(Cx st).take st.length=Cx st:=by rw [arT (by simp)]
      rw [p]at d3;have w:=d.tot;refine al (by simp) (bq rfl ?_);exact W _ _ (.f (sl r.tg (aH r.l))) r (by simp [deep]) hr (by omega) (by simp [S])
 exact⟨r,h1,h2,hp.eq⟩
theorem BK(a b:Int):bA tab.get 163 [vi a,vi b]=Eq (vb (decide (a<b))):=Kf.eq (by
 refine qh rfl rfl fun H Q d=>?_;apply ai;simp;apply ai;simp [qf];refine aJ (d _ _ ?_);simp [qf])
end Go.Proofs.YtmbjejcfadllnaaGreat
