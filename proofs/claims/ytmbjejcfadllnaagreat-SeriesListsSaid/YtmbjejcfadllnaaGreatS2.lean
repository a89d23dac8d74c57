/-
  ajN the nE iO and the nb answer, for all arguments of their kind, in the small machine: part 2.
-/
import Derived.Test.YtmbjejcfadllnaaGreatS1
import Derived.Test.YtmbjejcfadllnaaGreatK4
open List renaming getElem?_append_left → AT, getElem?_set_ne → By, getElem?_set_self → OF, take_of_length_le → avS, set_cons_succ → axc, getElem?_eq_getElem → AI, getElem_mem → IT, all_eq_true → avP, getElem?_eq_none_iff → awp, getElem?_eq_some_iff → BY, find?_eq_some_iff_getElem → axf, find?_eq_none → aw2, getElem_of_mem → avT, pairwise_iff_getElem → avX, mem_cons_self → avQ, mem_map → av9, eq_nil_of_length_eq_zero → api, mem_append → av1, map_cons → anc, map_nil → avO, length_pos_iff → aww, length_eq_zero_iff → awm, getElem?_append_right → avM, pairwise_append → awA, pairwise_singleton → awo, take_succ_eq_append_getElem → avN, take_length → awc, map_append → awG, length_map → av7, mem_of_mem_drop → awO, mem_of_mem_take → awJ, foldl_cons → awF
open Nat renaming le_refl → aft, lt_or_eq_of_le → awi, eq_zero_or_pos → awk, lt_trichotomy → av5, zero_add → awn
open Int renaming mul_ediv_add_emod → awC, emod_nonneg → awd, emod_lt_of_pos → awe, ediv_nonneg → awV, add_mul → aw0, one_mul → awS, mul_comm → awP, mul_nonneg → axk, natCast_zero → aw8, add_zero → aw5, le_refl → awQ, toNat_of_nonneg → awL, tmod_eq_emod_of_nonneg → awy
open Option renaming map_eq_some_iff → IN
set_option linter.unusedVariables false
set_option linter.unusedSimpArgs false
set_option linter.unusedSectionVars false
set_option linter.unnecessarySimpa false
set_option maxRecDepth 100000
namespace Go.Proofs.YtmbjejcfadllnaaGreat
open Go Km
section
theorem abS{z:ZD}(F:z.c<3){fl:List FC}{k m y:Nat}{r q:eg}{n:Int}(X:zB fl (sl z.yg (bO z.yr)) k m r q)(a_:(1:Int)-k=m)(hr:r.OK)(hq:q.OK)(hy:y<nY z.c)
  {t:T} {J:ai} {cl:C} {g:List bD} (hJ:J[0]?=some (.box (z.row.map .f) 0)) (hK:J[1]?=some (.box (ey z cl n) 0)) (hL:LR J cl 2 (aJ g)) (d_:g.length≤100)
  (W:t.g 1=.c (.ptr 0 0 0)) (Y:t.g 4=.c (.ptr 1 0 0)) (Z:t.g 8=vi (jj z.c y)) (g9:t.g 9=vi ((y:Int)+1)) (v:t.g 62=.c (.f (sl z.yg (bO z.yr)))) (H:t.g 63=vi 2) (u:t.g 64=vi (k:Nat)) {K:List cm} {Q:Option aq→St→Prop}
  (next:∀(t:T) (J:ai) (cl:C),J[0]?=some (.box (z.row.map .f) 0)→J[1]?=some (.box (ey z cl n) 0)→LR J cl 2 (aJ (g++dP z.c (y+1) r q))→t.g 1=.c (.ptr 0 0 0)→t.g 4=.c (.ptr 1 0 0)→t.g 8=vi (jj z.c y)→t.g 9=vi ((y:Int)+1)→t.g 62=.c (.f (sl z.yg (bO z.yr)))→t.g 63=vi 2→t.g 64=vi (k:Nat) →
   WP tab.get iS none K ⟨t,[],J⟩ Q) :
  WP tab.get iS none (.code xk::K) ⟨t,[],J⟩ Q:=by
 have e_:=yE z.c;obtain⟨b0,b1⟩:=ur F (Nat.le_of_lt hy);have hf:=G9 F (y:=y+1) (by omega) (by omega) (b:=jj z.c y) (by omega) (by omega) r hr
 rw [show((y+1:Nat):Int)=(y:Int)+1 by omega]at hf
 obtain⟨d0,d1⟩:=zR (c:=z.c) (y:=y+1) (b:=jj z.c y) (x:=r) (by omega) (by omega) hr
 obtain⟨-,-,-,-,m0,m1,o0,o1⟩:=hr;obtain⟨-,-,-,-,-,-,p0,p1⟩:=hq;have j:dP z.c (y+1) r q=if gm (oO z.c (y+1) (jj z.c y) r) (qN z.c (y+1) r) r.wk r.wd then [⟨jL (oO z.c (y+1) (jj z.c y) r) (qN z.c (y+1) r) r.wk r.wd*1440+r.mi-q.off,r.off⟩]else []:=rfl
 generalize hD:jL (oO z.c (y+1) (jj z.c y) r) (qN z.c (y+1) r) r.wk r.wd=D at *;generalize hO:gm (oO z.c (y+1) (jj z.c y) r) (qN z.c (y+1) r) r.wk r.wd=O at *;refine av ?_;refine ae ?_;have S:=X.row;have hi:=X.i J;have jl:2≤J.length:=by have:=ak hK;omega
 obtain⟨d,l⟩:∃ d:ai,d=J++[.box (r.row.map .f) 0]:=⟨_,rfl⟩;have z0:d[0]?=some (.box (z.row.map .f) 0):=by rw [l,AT (by omega)];exact hJ
 have z1:d[1]?=some (.box (ey z cl n) 0):=by rw [l,AT (by omega)];exact hK
 have zr:d[J.length]?=some (.box (r.row.map .f) 0):=by rw [l];simp
 have I:LR d cl 2 (aJ g):=by rw [l];exact hL.push _
 have l1:d.length=J.length+1:=by rw [l];simp
 have b9:(r.row.map C.f)=[.f (fi r.mo),.f (fi r.wk),.f (fi r.wd),.f (fi r.mi),.f (fi r.off)]:=rfl;simp [v,u,hi,S,eg.row];rw [←b9,←l];refine ae ?_;have d7:=jv z0 F;have d8:=gw z0 F;have d6:aQ d (some 5) (.c (.ptr J.length 0 0))=some (.a (r.row.map .f)):=by simp [aQ,zr,az,eg.row,aF]
 have c_:aQ d none (.c (.ptr J.length 3 0))=some (vi r.mi):=by simp [aQ,zr,az,eg.row,aF]
 have d5:aQ d none (.c (.ptr J.length 4 0))=some (vi r.off):=by simp [aQ,zr,az,eg.row,aF]
 simp [W,Z,g9,d7,d6,hf,-an];refine ag ?_;refine ab (.inl rfl) ?_;simp
 cases O with
 | false=>
  simp only [Bool.false_eq_true,if_false]at j;rw [j,List.append_nil]at next;refine ah (by simp) (aB (al ?_))
  exact next _ d cl z0 z1 I (by simp [W]) (by simp [Y]) (by simp [Z]) (by simp [g9]) (by simp [v]) (by simp [H]) (by simp [u])
 | true=>
  simp only [if_true]at j;rw [j]at next;refine aj (by simp) ?_
  refine ab (.inl rfl) ?_;have w1:IntKind.i64.wrap (D*1440)=D*1440:=wrap64 (by omega) (by omega)
  have w2:IntKind.i64.wrap (D*1440+r.mi)=D*1440+r.mi:=wrap64 (by omega) (by omega)
  have w3:IntKind.i64.wrap (D*1440+r.mi-q.off)=D*1440+r.mi-q.off:=wrap64 (by omega) (by omega)
  have w4:IntKind.i64.wrap (1-(k:Int))=m:=by rw [wrap64 (by omega) (by omega),a_]
  have a8:=X.i' d;have N:=X.of' d;have c9:=sL z1 F;obtain⟨E,s⟩:∃ E:ai,E=d++[.box [.f (fi (D*1440+r.mi-q.off)),.f (fi r.off)] 0]:=⟨_,rfl⟩;have y0:E[0]?=some (.box (z.row.map .f) 0):=by rw [s,AT (by omega)];exact z0
  have y1:E[1]?=some (.box (ey z cl n) 0):=by rw [s,AT (by omega)];exact z1
  have B:LR E cl 2 (aJ g):=by rw [s];exact I.push _
  obtain⟨U,J3,M,L,A,d9⟩:=B.app (cw _) (by decide) (row:=[fi (D*1440+r.mi-q.off),fi r.off]) rfl (bytes:=16) (cd (by simp;omega) (by decide)) (b1:=d.length) (fl1:=0) (by rw [s];simp)
  have x0:=A.2 _ _ y0 (B.cB y0);have x1:=A.2 _ _ y1 (B.cB y1);have b_:=arx (cl':=U) x1 F;have l2:E.length=d.length+1:=by rw [s];simp
  have l3:=A.1;have b7:aL U≠some 1:=L.cB x1;simp [W,Y,u,c9,c_,d5,d8,a8,N,w1,w2,w3,w4,-an,-ba];rw [←s];simp [M,b_,-an,-ba];refine al ?_;refine next _ (J3.set 1 (.box (ey z U n) 0)) U (by rw [By (by decide)];exact x0) (OF (by omega)) ?_ (by simp [W]) (by simp [Y]) (by simp [Z]) (by simp [g9]) (by simp [v]) (by simp [H]) (by simp [u])
  have e:aJ g++[[fi (D*1440+r.mi-q.off),fi r.off]]=aJ (g++[⟨D*1440+r.mi-q.off,r.off⟩]):=by simp [aJ,bD.row]
  rw [←e];exact L.set b7 _
end
section
theorem arI{z:ZD}(N:z.c<3){r q:eg}(I:z.yr=[r,q])(hr:r.OK)(S:q.OK){y:Nat}{n:Int}(U:y<nY z.c)
  {t:T} {J:ai} {cl:C} {A:List bD} (l:J[0]?=some (.box (z.row.map .f) 0)) (x:J[1]?=some (.box (ey z cl n) 0)) (d:LR J cl 2 (aJ A)) (X:A.length≤90)
  (g:t.g 1=.c (.ptr 0 0 0)) (s:t.g 4=.c (.ptr 1 0 0)) (u:t.g 8=vi (jj z.c y)) (v:t.g 9=vi ((y:Int)+1)) {K:List cm} {Q:Option aq→St→Prop}
  (next:∀(t:T) (J:ai) (cl:C),J[0]?=some (.box (z.row.map .f) 0)→J[1]?=some (.box (ey z cl n) 0)→LR J cl 2 (aJ (A++(dP z.c (y+1) r q++dP z.c (y+1) q r)))→t.g 1=.c (.ptr 0 0 0)→t.g 4=.c (.ptr 1 0 0)→t.g 8=vi (jj z.c y)→t.g 9=vi ((y:Int)+1) →
   WP tab.get iS none K ⟨t,[],J⟩ Q) :
  WP tab.get iS none (.code xj::K) ⟨t,[],J⟩ Q:=by
 refine ae ?_;have Y:(bO z.yr).length=2:=by simp [I]
 have O:∀ H:ai,bA H (.f (sl z.yg (bO z.yr)))=some 2:=by intro H;rw [I];rfl
 simp [g,gw l N,-an,O]
 refine eV 2 (fun j t H=>H[0]?=some (.box (z.row.map .f) 0)∧t.g 1=.c (.ptr 0 0 0)∧t.g 4=.c (.ptr 1 0 0)∧t.g 8=vi (jj z.c y)∧t.g 9=vi ((y:Int)+1)∧t.g 62=.c (.f (sl z.yg (bO z.yr))) ∧
   ∃ cl,H[1]?=some (.box (ey z cl n) 0)∧LR H cl 2 (aJ (A++((if 1≤j then dP z.c (y+1) r q else [])++(if 2≤j then dP z.c (y+1) q r else []))))) (by omega) (by decide) (by decide) (by simp) (by simp [I])
  ⟨l,by simp [g],by simp [s],by simp [u],by simp [v],by simp,cl,x,by simpa using d⟩ ?_ ?_
 ·clear l x d g s u v;rintro j t J Z ⟨l,g,s,u,v,b,cl,x,d⟩ L M W;have l1:=jd z.c (y+1) r q;have F:j=0∨j=1:=by omega
  rcases F with rfl | rfl
  ·simp at d;refine abS N (m:=1) (by rw [I];exact aiv z.yg r q) (by decide) hr S U l x d (by omega) (by simp [g]) (by simp [s]) (by simp [u]) (by simp [v]) (by simp [b]) (by simp [M]) (by simp [L]) ?_
   intro t J cl l x d g s u v b B E;refine W _ _ ⟨l,by simp [g],by simp [s],by simp [u],by simp [v],by simp [b],cl,x,by simpa using d⟩ (by simp [E]) (by simp [B])
  ·simp at d;refine abS N (m:=0) (by rw [I];exact aiw z.yg r q) (by decide) S hr U l x d (by simp;omega) (by simp [g]) (by simp [s]) (by simp [u]) (by simp [v]) (by simp [b]) (by simp [M]) (by simp [L]) ?_
   intro t J cl l x d g s u v b B E;refine W _ _ ⟨l,by simp [g],by simp [s],by simp [u],by simp [v],by simp [b],cl,x,by simpa using d⟩ (by simp [E]) (by simp [B])
 ·clear l x d g s u v;rintro t J ⟨l,g,s,u,v,b,cl,x,d⟩ L M;exact next _ J cl l x (by simpa using d) (by simp [g]) (by simp [s]) (by simp [u]) (by simp [v])
end
section
theorem ah8(z:ZD)(d:z.c<3){r q:eg}(hz:z.yr=[r,q])(hr:r.OK)(hq:q.OK){o:List bD}(ho:dT (nO z.c r q (nY z.c)) o)(hs:de o (cyc z.c*1440)=true):∃ g,
  Km.Pure tab.get iS [z.v]=Eq (.t [.c (.f (.fp (z.row++[sl g (aJ o),fi (cyc z.c)]) 0)),vb true]):=by
 obtain⟨rr,⟨g,rfl⟩,hp⟩:∃ rr,(∃ g,rr=.t [.c (.f (.fp (z.row++[sl g (aJ o),fi (cyc z.c)]) 0)),vb true])∧Km.Pure tab.get iS [z.v] rr:=by
  refine ca ZV rfl fun Q hQ=>?_
  refine ae ?_;simp;have m5:([.box (z.row.map .f) 0]:ai)[0]?=some (.box (z.row.map .f) 0):=rfl;have m9:cyc z.c=91∨cyc z.c=217:=by unfold cyc ib;split<;>simp
  have n4:NW z.c=2∨NW z.c=5:=by unfold NW;split<;>simp
  have d6:=zI d;have n6:=yE z.c;have b7:=ZD.tF d;have n5:(z.row.map C.f).length=8:=by simp [b7]
  have hd:List.drop 10 (z.row.map C.f++[C.f .ay,C.f (fi 0)])=[]:=List.drop_eq_nil_of_le (by simp [b7])
  refine ae ?_;simp [eC m5 d,-an,b7,List.take_append,avS,hd];have d5:z.row.map C.f++[C.f .ay,C.f (.int .i64 1)]=ey z (.f .ay) 1:=rfl;rw [d5];have k0:([.box (z.row.map .f) 0,.box (ey z (.f .ay) 1) 0]:ai)[0]?=some (.box (z.row.map .f) 0):=rfl;have k1:([.box (z.row.map .f) 0,.box (ey z (.f .ay) 1) 0]:ai)[1]?=some (.box (ey z (.f .ay) 1) 0):=rfl;refine ag ?_;refine ae ?_;simp [gw k0 d,-an,hz];refine aY (by simp) ?_
  refine ae ?_;simp [jv k0 d,-an,wh d];have s1:=aiz (n':=(ib z.c:Nat)) k1 d;simp only [axc,List.set_cons_zero]at s1;refine ae ?_;simp [s1,-ba];have m0:([.box (z.row.map .f) 0,.box (ey z (.f .ay) (ib z.c:Nat)) 0]:ai)[0]?=some (.box (z.row.map .f) 0):=rfl;have m1:([.box (z.row.map .f) 0,.box (ey z (.f .ay) (ib z.c:Nat)) 0]:ai)[1]?=some (.box (ey z (.f .ay) (ib z.c:Nat)) 0):=rfl;have m_:ib z.c=13∨ib z.c=31:=by unfold ib;split<;>simp
  have d9:bJ .rem (vi (ib z.c:Nat)) (vi 7)=some (vi (((ib z.c:Nat):Int) % 7)):=jR (by omega) (by omega)
  refine ag ?_;refine ae ?_;simp [d9];refine aj (by simp;omega) ?_
  have s2:=aiz (n':=cyc z.c) m1 d;simp only [axc,List.set_cons_zero]at s2;have hw:IntKind.i64.wrap (((ib z.c:Nat):Int)*7)=cyc z.c:=by rw [wrap64 (by omega) (by omega)];unfold cyc;omega
  refine ab (.inl rfl) ?_;simp [aaP m1 d,hw,s2,-an,-ba];obtain⟨H0,Y⟩:∃ H0:ai,H0=[.box (z.row.map .f) 0,.box (ey z (.f .ay) (cyc z.c)) 0]:=⟨_,rfl⟩;have n0:H0[0]?=some (.box (z.row.map .f) 0):=by rw [Y];rfl
  have n1:H0[1]?=some (.box (ey z (.f .ay) (cyc z.c)) 0):=by rw [Y];rfl
  rw [←Y];clear m0 m1 k0 k1 s1 s2 d9;refine ae ?_;simp [Ag n0 d,-an];refine ag ?_;refine ae ?_;simp;refine av ?_
  refine bw (fun n s=>∃(y:Nat) (t:T) (J:ai) (cl:C),s=⟨t,[],J⟩∧n=nY z.c-y∧y≤nY z.c∧J[0]?=some (.box (z.row.map .f) 0)∧J[1]?=some (.box (ey z cl (cyc z.c)) 0)∧LR J cl 2 (aJ (nO z.c r q y)) ∧
    t.g 1=.c (.ptr 0 0 0)∧t.g 4=.c (.ptr 1 0 0)∧t.g 8=vi (jj z.c y)∧t.g 9=vi ((y:Int)+1)) (nY z.c)
   ⟨0,_,_,.f .ay,rfl,rfl,by omega,n0,n1,LR.nil _ _,by simp,by simp,by simp [jj],by simp⟩ ?_
  rintro n s ⟨y,t,J,cl,rfl,rfl,hy,N,F,E,g1,m,g8,g9⟩ ih;obtain⟨b0,b1⟩:=ur d hy;refine ag ?_;refine ae ?_;simp [g1,m,g8,Ag N d,aaP F d,-an,wrap64 (n:=NW z.c+cyc z.c) (by omega) (by omega)]
  by_cases d8:y<nY z.c
  ·have h1:=zJ z.c d8;refine aj (by simp;omega) (aB ?_)
   refine ag ?_;refine av ?_;refine ag ?_;have l7:=jf z.c r q y;refine arI d hz hr hq d8 N F E (by omega) (by simp [g1]) (by simp [m]) (by simp [g8]) (by simp [g9]) ?_
   clear g1 m g8 g9 N F E;intro t J cl N F E g1 m g8 g9;have e_:=G' d (y:=y+1) (by omega) (by omega)
   rw [show((y+1:Nat):Int)=(y:Int)+1 by omega]at e_
   have n9:sy z.c (y+1)≤18:=by
    have h1:=fq z.c (y+1) 1;have h2:=fq z.c (y+1) 2;unfold sy;omega
   refine ab (.inl rfl) ?_;simp [g1,g8,g9,jv N d,-an,e_,wrap64 (n:=jj z.c y+(sy z.c (y+1):Nat)) (by omega) (by omega)]
   refine al ?_;refine ab (.inl rfl) ?_;simp [g9,wrap64 (n:=(y:Int)+1+1) (by omega) (by omega)]
   exact ih (nY z.c-(y+1)) _ (by omega) ⟨y+1,_,J,cl,rfl,rfl,by omega,N,F,E,by simp [g1],by simp [m],by simp [jj],by simp⟩
  have m4:y=nY z.c:=by omega
  subst m4;rw [d6];refine ah (by simp) ?_
  refine aT (k':=[.code xl]) rfl ?_;have l7:=jf z.c r q (nY z.c);obtain⟨J2,hE,Z,l2,I,k_,l_⟩:=ab9 E (by omega)
  rw [OV ho hs k_ l_]at I;have x0:=Z.2 _ _ N (E.cB N);have L:=Z.2 _ _ F (E.cB F);have c_:=hE.eq;refine ae ?_;simp [m,sL F d,-an,c_];clear ih E N F hE c_ Z g8 g9;have n7:o.length≤28:=by have:=ho.len;omega
  have a_:∀ x ∈ o,sB x:=fun x hx=>qb d hr hq _ (aft _) x (ho.perm.subset hx)
  refine ag ?_;refine ae ?_;simp [m,sL L d,-an,I.len]
  refine eV o.length (fun j t H=>H[0]?=some (.box (z.row.map .f) 0)∧H[1]?=some (.box (ey z cl (cyc z.c)) 0)∧LR H cl 2 (aJ o)∧t.g 4=.c (.ptr 1 0 0)∧t.g 119=.c cl) (by omega) (by decide) (by decide) (by simp) (by simp)
   ⟨x0,L,I,by simp [m],by simp⟩ ?_ ?_
  ·clear m x0 L I;rintro i t J B ⟨x0,L,E,m,l⟩ ha hb nx;rcases E with⟨h,_⟩ | ⟨j_,b,S,rfl,a8⟩
   ·have:o=[]:=by simpa [aJ]using h
    subst this;simp at B
   rw [lG]at l L nx;have d7:=cw o;have o0:0<o.length:=by omega
   obtain⟨M,v⟩:∃ M:ai,M=J++[.box (o[i].row.map .f) 0]:=⟨_,rfl⟩;have A:RB M b 2 S (aJ o):=by rw [v];exact a8.push _
   have jl:2≤J.length:=by have:=ak L;omega
   have y0:M[0]?=some (.box (z.row.map .f) 0):=by rw [v,AT (by omega)];exact x0
   have X:M[1]?=some (.box (ey z (.sl b 0 o.length 0 S 2) (cyc z.c)) 0):=by rw [v,AT (by omega)];exact L
   have yr:M[J.length]?=some (.box (o[i].row.map .f) 0):=by rw [v];simp
   have b9:∀ {K:ai} (_:RB K b 2 S (aJ o)) (k:Nat),k<o.length→aG K 2 none (.c (.sl b 0 o.length 0 S 2)) (vi k)=some (.c (.ptr b (k*2) S)):=fun F k hk=>by
    have:=F.idx (n:=o.length) (c:=0) (k:=.i64) (o:=0) (i:=(k:Int)) (by omega) (by omega)
    simpa using this
   have W:∀ k:Nat,(hk:k<o.length)→aQ M none (.c (.ptr b (k*2) S))=some (vi o[k].at_):=fun k hk=>by
    have:=A.ldc d7 (dn (AI hk)) (k:=0) (x:=fi o[k].at_) rfl;simpa using this
   have f_:=a8.ldr d7 (dn (AI B));have m7:aQ M none (.c (.ptr J.length 0 0))=some (vi o[i].at_):=by simp [aQ,yr,az,bD.row,aF]
   have i_:=a_ _ (IT o0);have j4:=a_ _ (IT B);unfold sB at i_ j4;have i0:=b9 A 0 o0;have l0:=W 0 o0;simp [-an]at i0 l0;have ii:=b9 a8 i B;have U:=(Gj (aaP X d) ⟨_,_,X⟩ (by omega) (by omega)).eq
   have w2:IntKind.i64.wrap (o[0].at_+cyc z.c*1440)=o[0].at_+cyc z.c*1440:=wrap64 (by omega) (by omega)
   have w3:IntKind.i64.wrap ((i:Int)+1)=(i:Int)+1:=wrap64 (by omega) (by omega)
   have l9:o[i].row.map C.f=[.f (fi o[i].at_),.f (fi o[i].off)]:=rfl;refine av ?_;refine ae ?_;rw [l9]at f_ v;simp [l,ha,ii,f_,-an];rw [←v];refine ag (kU (.inl rfl) ?_ ?_)
   case refine_2=>
    intro c j8;have j7:c=(3,11)∨c=(4,11)∨c=(6,11):=by simpa using j8
    rcases j7 with rfl | rfl | rfl
    all_goals
     refine⟨by decide,_,rfl,.inl ⟨by decide,?_⟩⟩
     simp [m,sL X d,i0,l0,U,w2,nT,-an]
     first | rfl | simp [V.beq,C.beq,FC.beq]
   simp [m,sL X d,i0,l0,U,w2,-an]
   have d_:2160≤dv o (cyc z.c*1440) i-o[i].at_:=by
    have h1:=avP.1 hs i (by simpa using B)
    simp only [AI B]at h1;exact of_decide_eq_true h1
   have u:∀ t:T,t.g 4=.c (.ptr 1 0 0)→t.g 119=.c (.sl b 0 o.length 0 S 2)→t.g 121=vi (i:Nat)→t.g 120=vi o.length→t.g 15=.c (.ptr J.length 0 0)→t.g 16=vi (dv o (cyc z.c*1440) i)→dv o (cyc z.c*1440) i≤900000 →
     WP tab.get iS none [.code xn,.inBlock 5,.code (N5 121 158),.inLoop (rV 4 121 120 122 158 xm),.inBlock 4,.code xo] ⟨t,[],M⟩ Q:=by
    intro t m l c9 b_ g_ h_ n1;refine ae ?_;simp [g_,h_,m7,-an,wrap64 (n:=dv o (cyc z.c*1440) i-o[i].at_) (by omega) (by omega)]
    refine ah (by simp;omega) (aB (al ?_))
    exact nx _ _ ⟨y0,X,.inr ⟨j_,b,S,by rw [lG],A⟩,by simp [m],by simp [l]⟩ (by simp [c9]) (by simp [b_])
   refine ag ?_;by_cases O:i+1<o.length
   ·have i1:=b9 A (i+1) O;have l1:=W (i+1) O;have j3:=a_ _ (IT O);unfold sB at j3;rw [show((i+1:Nat):Int)=(i:Int)+1 by omega]at i1
    have hn:dv o (cyc z.c*1440) i=o[i+1].at_:=by simp [dv,AI O]
    rw [hn]at u d_;refine ae ?_;simp [m,sL X d,w3,A.len,-an];refine aj (by simp;omega) ?_
    refine ab (.inl rfl) ?_;simp [m,sL X d,w3,i1,l1,-an];exact u _ (by simp [m]) (by simp [l]) (by simp [ha]) (by simp [hb]) (by simp) (by simp) (by omega)
   ·have hn:dv o (cyc z.c*1440) i=o[0].at_+cyc z.c*1440:=by
     simp [dv,awp.2 (show o.length≤i+1 by omega),AI o0]
    rw [hn]at u d_;refine ae ?_;simp [m,sL X d,w3,A.len,-an];refine ah (by simp;omega) (aB ?_)
    exact u _ (by simp [m]) (by simp [l]) (by simp [ha]) (by simp [hb]) (by simp) (by simp) (by omega)
  ·clear m x0 L I;rintro t J ⟨x0,L,E,m,l⟩ ha hb;obtain⟨g',j9⟩:=E.ex (cw _) 62;refine ae ?_;simp [m];refine aA (hQ _ _ (.t [.c (.f (.fp (z.row++[sl g' (aJ o),fi (cyc z.c)]) 0)),vb true]) ⟨g',rfl⟩ ?_)
   have hx:aU (cW 63 J) (ey z cl (cyc z.c))=some (z.row++[sl g' (aJ o),fi (cyc z.c)]):=by
    refine gV (rP _) ?_;have:cW 63 J cl=some (sl g' (aJ o)):=j9;simp [aU,this,cW]
   simp [iN,bX,deep,aU,m,cW,L,hx]
 exact⟨g,Km.Pure.eq hp⟩
end
section
theorem acd(z:ZD)(g:z.c<3)(m:z.yr=[]):Km.Pure tab.get iS [z.v]=Eq (.t [.c (.f (.fp (z.row++[.ay,fi 1]) 0)),vb true]):=Km.Pure.eq (by
 refine bK ZV rfl fun Q q=>?_
 refine ae ?_;simp;have l:([.box (z.row.map .f) 0]:ai)[0]?=some (.box (z.row.map .f) 0):=rfl;have d:=ZD.tF g;have s:List.drop 10 (z.row.map C.f++[C.f .ay,C.f (fi 0)])=[]:=List.drop_eq_nil_of_le (by simp [d])
 refine ae ?_;simp [eC l g,-an,d,List.take_append,avS,s];have b:z.row.map C.f++[C.f .ay,C.f (.int .i64 1)]=ey z (.f .ay) 1:=rfl;rw [b];have k0:([.box (z.row.map .f) 0,.box (ey z (.f .ay) 1) 0]:ai)[0]?=some (.box (z.row.map .f) 0):=rfl;refine ag ?_;refine ae ?_;have j:∀ H:ai,bA H (.f (sl z.yg (bO z.yr)))=some 0:=by intro H;rw [m];cases z.yg<;>rfl
 simp [gw k0 g,-an,j];refine aj (by simp [m]) ?_
 refine ae ?_;simp;refine aA (q _ _ ?_)
 have u:∀ J:ai,aU (cW 63 J) (ey z (.f .ay) 1)=some (z.row++[.ay,fi 1]):=fun J=>by
  refine gV (rP _) ?_;simp [aU,cW]
 simp [bX,deep,aU,cW,u])
end
section
def turns(o:List bD)(size t:Int):Int:=match o[0]? with
 | some x=>if x.at_<t then(t-x.at_) / size else 0
 | none=>0
def hZ(o:List bD)(size t k:Int):Option bD:=(o.find? fun x=>decide (t≤x.at_+k*size)).map fun x=>⟨x.at_+k*size,x.off⟩
def vU(o:List bD)(size t:Int):Option bD:=(hZ o size t (turns o size t)).or (hZ o size t (turns o size t+1))
theorem HM{p:bD→Bool}{l:List bD}{i:Nat}{x:bD}(h:l[i]?=some x)(b:∀ j y,j<i→l[j]?=some y→p y=false)(g:p x=true):l.find? p=some x:=by
 obtain⟨hi,rfl⟩:=BY.1 h;rw [axf];exact⟨g,i,hi,rfl,fun j d=>by have:=b j l[j] d (AI (by omega));simpa using this⟩
theorem FH(g:Tg)(o:List bD)(L:0<o.length)(hl:o.length≤1000)(S:∀ x ∈ o,sB x)(n t:Int)(n0:1≤n)(n1:n≤1000)(t0:-1000000≤t)(t1:t≤1000000) :
  ∃ x,vU o (n*1440) t=some x∧Km.Pure tab.get xB [.c (.f (sl g (aJ o))),vi n,vi t]=Eq (.t [.a (x.row.map .f),vb true]):=by
 obtain⟨rr,⟨x,hx,rfl⟩,hp⟩:∃ rr,(∃ x,vU o (n*1440) t=some x∧rr=.t [.a (x.row.map .f),vb true])∧Km.Pure tab.get xB [.c (.f (sl g (aJ o))),vi n,vi t] rr:=by
  refine ca aid rfl fun Q hQ=>?_
  have b7:=S _ (IT L);unfold sB at b7;obtain⟨K,hK⟩:∃ K,K=turns o (n*1440) t:=⟨_,rfl⟩;have l:K=if o[0].at_<t then(t-o[0].at_) / (n*1440)else 0:=by rw [hK];simp [turns,AI L]
  have X:0<n*1440:=by omega
  have q0:=awC (t-o[0].at_) (n*1440);have q1:=awd (t-o[0].at_) (show n*1440≠0 by omega)
  have q2:=awe (t-o[0].at_) X;have O:0≤K:=by rw [l];split;exact awV (by omega) (by omega);omega
  have a_:K*(n*1440)≤2000000∧t≤o[0].at_+(K+1)*(n*1440):=by
   rw [l];split
   ·rw [aw0,awS,awP ((t-o[0].at_) / (n*1440))];omega
   ·omega
  have d7:0≤K*(n*1440):=axk O (by omega)
  have d8:K≤2000000:=by
   have:K*1≤K*(n*1440):=Int.mul_le_mul_of_nonneg_left (by omega) O
   omega
  have W:=cw o
  have I:∀ H:ai,bA H (.f (sl g (aJ o)))=some o.length:=fun H=>by
   have c9:¬ (aJ o).isEmpty=true:=by
    intro h;have:o=[]:=by simpa [aJ]using h
    subst this;simp at L
   simp [sl,c9,bA]
  have Z:∀(H:ai) (i:Nat),i<o.length→aG H 2 none (.c (.f (sl g (aJ o)))) (vi i)=some (.c (.f (.fp (aJ o).flatten (i*2)))):=fun H i hi=>by
   have:=cT (H:=H) (g:=g) (rows:=aJ o) (sz:=2) (k:=.i64) (i:=(i:Int)) (by omega) (by simp;omega)
   simpa using this
  have a8:∀(H:ai) (i:Nat) (hi:i<o.length),aQ H none (.c (.f (.fp (aJ o).flatten (i*2))))=some (vi o[i].at_):=fun H i hi=>gN W (dn (AI hi)) rfl
  have d6:∀(H:ai) (i:Nat) (hi:i<o.length),aQ H none (.c (.f (.fp (aJ o).flatten (i*2+1))))=some (vi o[i].off):=fun H i hi=>Af (k:=1) W (dn (AI hi)) rfl
  have i0:=fun H=>Z H 0 L
  have l0:=fun H=>a8 H 0 L
  simp only [Nat.zero_mul,aw8]at i0 l0;refine ae ?_;simp;refine ag ?_;refine ae ?_;simp [I];refine ah (by simp;rintro rfl;simp at L) (aB ?_)
  refine ae ?_;simp [wrap64 (n:=n*1440) (by omega) (by omega)]
  refine ae ?_;simp;refine ag ?_
  have J:∀ b:T,b.g 0=.c (.f (sl g (aJ o)))→b.g 2=vi t→b.g 6=.c (.ptr 0 0 0)→b.g 8=vi (n*1440)→b.g 9=vi K→WP tab.get xB none [.code BN] ⟨b,[],[.box [.f (fi 0),.f (fi 0)] 0]⟩ Q:=by
   intro b q B v z g9;refine ae ?_;simp [g9];refine av ?_
   refine bw (fun m s=>∃(e:Int) (b:T),s=⟨b,[],[.box [.f (fi 0),.f (fi 0)] 0]⟩∧(e=0∧m=1∨e=1∧m=0∧hZ o (n*1440) t K=none)∧b.g 0=.c (.f (sl g (aJ o)))∧b.g 2=vi t∧b.g 6=.c (.ptr 0 0 0)∧b.g 8=vi (n*1440)∧b.g 10=vi (K+e)) 1
    ⟨0,_,rfl,.inl ⟨rfl,rfl⟩,by simp [q],by simp [B],by simp [v],by simp [z],by simp⟩ ?_
   clear q B v z g9;rintro m s ⟨e,b,rfl,he,q,B,v,z,g10⟩ ih
   have d9:0≤(K+e)*(n*1440)∧(K+e)*(n*1440)≤4000000:=by
    rcases he with⟨rfl,-⟩ | ⟨rfl,-⟩
    ·rw [aw5];omega
    ·rw [aw0,awS];omega
   refine ag ?_;refine av ?_;refine ae ?_;simp;refine av ?_
   refine bw (fun m' s=>∃(i:Nat) (b:T),s=⟨b,[],[.box [.f (fi 0),.f (fi 0)] 0]⟩∧m'=o.length-i∧i≤o.length∧(∀ j y,j<i→o[j]?=some y→decide (t≤y.at_+(K+e)*(n*1440))=false) ∧
     b.g 0=.c (.f (sl g (aJ o)))∧b.g 2=vi t∧b.g 6=.c (.ptr 0 0 0)∧b.g 8=vi (n*1440)∧b.g 10=vi (K+e)∧b.g 11=vi (i:Nat)) o.length
    ⟨0,_,rfl,rfl,by omega,fun j y h=>absurd h (by omega),by simp [q],by simp [B],by simp [v],by simp [z],by simp [g10],by simp⟩ ?_
   clear q B v z g10;rintro m' s ⟨i,b,rfl,rfl,hi,F,q,B,v,z,g10,A⟩ d5;refine ag ?_;refine ae ?_;simp [q,A,I];by_cases d:i<o.length
   case neg=>
    have u:hZ o (n*1440) t (K+e)=none:=by
     have:o.find? (fun x=>decide (t≤x.at_+(K+e)*(n*1440)))=none:=by
      rw [aw2];intro x hx;obtain⟨j,hj,rfl⟩:=avT hx;have:=F j o[j] (by omega) (AI hj)
      simp [this]
     simp [hZ,this]
    rcases he with⟨rfl,rfl⟩ | ⟨rfl,rfl,-⟩
    ·rw [aw5]at u;refine ah (by simp;omega) ?_
     refine aT (k':=[.inBlock 1,.code BP,.inLoop BO,.inBlock 0]) rfl ?_;refine al ?_;refine ab (.inl rfl) ?_;simp [g10,wrap64 (n:=K+1) (by omega) (by omega)]
     exact ih 0 _ (by omega) ⟨1,_,rfl,.inr ⟨rfl,rfl,u⟩,by simp [q],by simp [B],by simp [v],by simp [z],by simp⟩
    ·exfalso;have:=F 0 o[0] (by omega) (AI L)
     have h2:=of_decide_eq_false this;exact h2 a_.2
   refine aj (by simp [d]) (aB ?_)
   refine ag ?_;refine av ?_;have b9:=S _ (IT d);unfold sB at b9;have ii:=fun H=>Z H i d
   have li:=fun H=>a8 H i d
   have oi:=fun H=>d6 H i d
   have w1:IntKind.i64.wrap ((K+e)*(n*1440))=(K+e)*(n*1440):=wrap64 (by omega) (by omega)
   have w2:IntKind.i64.wrap (o[i].at_+(K+e)*(n*1440))=o[i].at_+(K+e)*(n*1440):=wrap64 (by omega) (by omega)
   refine ae ?_;simp [q,B,z,g10,A,ii,li,w1,w2];by_cases N:t≤o[i].at_+(K+e)*(n*1440)
   ·refine aj (by simp [N]) ?_
    refine ae ?_;simp [q,v,z,g10,A,ii,li,oi,w1,w2]
    have M:hZ o (n*1440) t (K+e)=some ⟨o[i].at_+(K+e)*(n*1440),o[i].off⟩:=by
     have:=HM (p:=fun x=>decide (t≤x.at_+(K+e)*(n*1440))) (AI d) (fun j y hj Y=>F j y hj Y) (by simp [N])
     simp [hZ,this]
    have U:vU o (n*1440) t=some ⟨o[i].at_+(K+e)*(n*1440),o[i].off⟩:=by
     unfold vU;rw [←hK];rcases he with⟨rfl,-⟩ | ⟨rfl,-,hn⟩
     ·rw [aw5]at M ⊢;rw [M];rfl
     ·rw [hn,M];rfl
    refine aA (hQ _ _ _ ⟨_,U,rfl⟩ ?_);simp [bD.row,v]
   ·refine ah (by simp;omega) (aB (al ?_))
    refine ab (.inl rfl) ?_;simp [A,wrap64 (n:=(i:Int)+1) (by omega) (by omega)]
    refine d5 (o.length-(i+1)) _ (by omega) ⟨i+1,_,rfl,rfl,by omega,fun j y hj Y=>?_,by simp [q],by simp [B],by simp [v],by simp [z],by simp [g10],by simp⟩
    by_cases b_:j=i
    ·subst b_;rw [AI d]at Y;cases Y;exact decide_eq_false N
    ·exact F j y (by omega) Y
  by_cases E:o[0].at_<t
  ·rw [if_pos E]at l;have c_:bJ .quo (vi (t-o[0].at_)) (vi (n*1440))=some (vi K):=by rw [l];exact abM (by omega) X (by omega)
   refine ae ?_;simp [i0,l0];refine aj (by simp [E]) ?_
   refine ab (.inl rfl) ?_;simp [i0,l0,wrap64 (n:=t-o[0].at_) (by omega) (by omega),c_]
   exact J _ (by simp) (by simp) (by simp) (by simp) (by simp)
  ·rw [if_neg E]at l;refine ae ?_;simp [i0,l0];refine aY (by simp [E]) ?_
   exact J _ (by simp) (by simp) (by simp) (by simp) (by simp [l])
 exact⟨x,hx,Km.Pure.eq hp⟩
end
section
def Mem(o:List bD)(size:Int)(x:bD):Prop:=∃(k:Nat) (y:bD),y ∈ o∧x=⟨y.at_+k*size,y.off⟩
def afO(tr o:List bD)(size b:Int)(x:bD):Prop:=x ∈ tr∨Mem o size x∧b≤x.at_
def gP(P:bD→Prop)(t:Int):Option bD→Prop
 | some x=>P x∧x.at_≤t∧∀ y,P y→y.at_≤t→y.at_≤x.at_
 | none=>∀ y,P y→t<y.at_
def Qd(P:bD→Prop):Prop:=∀ x y,P x→P y→x.at_+2160≤y.at_∨y.at_+2160≤x.at_∨x=y
theorem gP.uniq{P:bD→Prop}{t:Int}(m:Qd P):∀ {r q:Option bD},gP P t r→gP P t q→r=q
 | none,none,_,_=>rfl
 | none,some y,d,g=>by have j:=d y g.1;have l:=g.2.1;omega
 | some x,none,d,g=>by have j:=g x d.1;have l:=d.2.1;omega
 | some x,some y,d,g=>by
  have a:=d.2.2 y g.1 g.2.1;have b:=g.2.2 x d.1 d.2.1;rcases m x y d.1 g.1 with h | h | h
  ·omega
  ·omega
  ·rw [h]
theorem gP.back{P:bD→Prop}{t s:Int}{x:bD}(h:gP P t (some x))(b:x.at_≤s)(d:s≤t):gP P s (some x):=⟨h.1,b,fun y hy g=>h.2.2 y hy (by omega)⟩
theorem gP.yG{P:bD→Prop}{t s:Int}(h:gP P t none)(b:s≤t):gP P s none:=fun y hy=>by have:=h y hy;omega
section
variable{o:List bD}{size:Int}
theorem et(h:de o size=true){i j:Nat}(l:i<j)(m:j<o.length):o[i].at_+2160≤o[j].at_:=by
 have d:=yY h i o[i] o[i+1] (AI (by omega)) (AI (by omega))
 rcases awi (show i+1≤j by omega)with b | b
 ·have g:=avX.1 (jS h) (i+1) j (by omega) m b
  unfold TLt at g;omega
 ·subst b;exact d
theorem DG(h:de o size=true){i:Nat}(hi:i<o.length):o[i].at_+2160≤(o[0]'(by omega)).at_+size:=by
 have d:o.length-1<o.length:=by omega
 have g:=avP.1 h (o.length-1) (by simpa using d)
 simp only [AI d,dv,awp.2 (show o.length≤o.length-1+1 by omega),AI (show 0<o.length by omega)]at g
 have j:=of_decide_eq_true g;rcases awi (show i≤o.length-1 by omega)with b | b
 ·have:=et h b d;omega
 ·subst b;omega
theorem jb{k m:Nat}(b:0≤size)(h:k<m):(k:Int)*size+size≤(m:Int)*size:=by
 have:=Int.mul_le_mul_of_nonneg_right (show((k:Int)+1)≤(m:Int) by omega) b
 rw [aw0,awS]at this;exact this
theorem fO(h:de o size=true){x:bD}(d:x ∈ o):∃ g:0<o.length,o[0].at_≤x.at_∧x.at_+2160≤o[0].at_+size:=by
 obtain⟨i,hi,rfl⟩:=avT d;refine⟨by omega,?_,DG h hi⟩
 rcases awk i with rfl | b
 ·omega
 ·have:=et h b hi;omega
theorem Ol(h:de o size=true)(l:0≤size):Qd (Mem o size):=by
 rintro x y ⟨k,a,d,rfl⟩ ⟨m,b,g,rfl⟩;obtain⟨v,a1,s⟩:=fO h d;obtain⟨_,b1,u⟩:=fO h g;simp only;rcases av5 k m with e | e | e
 ·have:=jb l e;left;omega
 ·subst e;obtain⟨i,hi,rfl⟩:=avT d;obtain⟨j,q,rfl⟩:=avT g;rcases av5 i j with e | e | e
  ·have:=et h e q;left;omega
  ·subst e;right;right;rfl
  ·have:=et h e hi;right;left;omega
 ·have:=jb l e;right;left;omega
theorem tp(h:de o size=true){t k:Int}{x:bD}(g:hZ o size t k=some x):(∃ y ∈ o,x=⟨y.at_+k*size,y.off⟩)∧t≤x.at_∧∀ b ∈ o,t≤b.at_+k*size→x.at_≤b.at_+k*size:=by
 unfold hZ at g;rw [IN]at g;obtain⟨y,l,rfl⟩:=g;rw [axf]at l;obtain⟨d,i,hi,rfl,v⟩:=l;have d:=of_decide_eq_true d;refine⟨⟨_,IT hi,rfl⟩,d,fun b q s=>?_⟩
 obtain⟨j,u,rfl⟩:=avT q;rcases av5 i j with e | e | e
 ·have:=et h e u;simp only;omega
 ·subst e;exact awQ _
 ·have m:=v j e;simp at m;omega
theorem Hx{t k:Int}(d:hZ o size t k=none):∀ b ∈ o,b.at_+k*size<t:=by
 intro b g;unfold hZ at d;rw [Option.map_eq_none_iff,aw2]at d;have:=d b g;simp at this;exact this
theorem ajV(h:de o size=true)(O:0<size){t:Int}{x:bD}(d:vU o size t=some x):∀ y,Mem o size y→t≤y.at_→x.at_≤y.at_:=by
 rintro y ⟨m,b,q,rfl⟩ s;simp only at s ⊢;obtain⟨F,b1,N⟩:=fO h q;have B:turns o size t=if o[0].at_<t then(t-o[0].at_) / size else 0:=by unfold turns;rw [AI F]
 have J:0≤turns o size t:=by rw [B];split;exact awV (by omega) (by omega);omega
 have Q:=awC (t-o[0].at_) size;have S:=awd (t-o[0].at_) (show size≠0 by omega)
 have j:turns o size t=0∨o[0].at_+turns o size t*size≤t:=by
  rw [B];split
  ·right;rw [awP];omega
  ·left;rfl
 obtain⟨K,E⟩:∃ K:Nat,turns o size t=(K:Int):=⟨(turns o size t).toNat,by omega⟩
 unfold vU at d;rw [E]at d j
 have l:K≤m:=by
  rcases Nat.lt_or_ge m K with e | e
  ·exfalso;have g:=jb (size:=size) (by omega) e
   rcases j with H | H
   ·omega
   ·omega
  ·exact e
 cases g:hZ o size t (K:Int)with
 | some z=>
  rw [g]at d;simp at d;subst d;obtain⟨⟨w,A,rfl⟩,_,v⟩:=tp h g;obtain⟨_,L,M⟩:=fO h A;rcases awi l with e | e
  ·have:=jb (size:=size) (by omega) e;simp only;omega
  ·subst e;exact v b q s
 | none=>
  rw [g]at d;simp at d;have v:=Hx g;rcases awi l with e | e
  ·obtain⟨⟨w,A,rfl⟩,_,I⟩:=tp h d;obtain⟨_,L,M⟩:=fO h A;rcases awi (show K+1≤m by omega)with u | u
   ·have:=jb (size:=size) (by omega) u
    rw [show((K+1:Nat):Int)=(K:Int)+1 by omega]at this
    simp only;omega
   ·subst u;rw [show((K+1:Nat):Int)=(K:Int)+1 by omega]at s ⊢
    exact I b q s
  ·subst e;have:=v b q;omega
end
structure ee(z:ZD)(o:List bD):Prop where
 c:z.c<3
 st:-1080≤z.start∧z.start≤1080
 tl:z.tr.length≤3
 tb:∀ x ∈ z.tr,0≤x.at_∧x.at_<z.eA∧-1080≤x.off∧x.off≤1080
 ts:∀(i:Nat) x y,z.tr[i]?=some x→z.tr[i+1]?=some y→x.at_+2160≤y.at_
 ho:0≤z.eA∧z.eA≤40000
 y:(z.yr=[]∧o=[])∨∃ r q,z.yr=[r,q]∧r.OK∧q.OK∧dT (nO z.c r q (nY z.c)) o∧de o (Go.Proofs.YtmbjejcfadllnaaGreat.cyc z.c*1440)=true ∧
  ∀ x a,vU o (Go.Proofs.YtmbjejcfadllnaaGreat.cyc z.c*1440) z.eA=some x→a ∈ z.tr→a.at_+2160≤x.at_
theorem sx:∀ {l:List bD},(∀(i:Nat) x y,l[i]?=some x→l[i+1]?=some y→x.at_+2160≤y.at_)→∀(i j:Nat) (d:i<j) (g:j<l.length),l[i].at_+2160≤l[j].at_:=by
 intro l h i j d g;have m:=h i l[i] l[i+1] (AI (by omega)) (AI (by omega))
 rcases awi (show i+1≤j by omega)with b | b
 ·have q:=avX.1 (nH h) (i+1) j (by omega) g b
  unfold TLt at q;omega
 ·subst b;exact m
theorem ee.af1{z:ZD}{o:List bD}(h:ee z o):1≤z.cyc∧z.cyc≤217:=by
 unfold ZD.cyc;split
 ·omega
 ·have:cyc z.c=91∨cyc z.c=217:=by unfold cyc ib;split<;>simp
  omega
theorem ee.sp{z:ZD}{o:List bD}(h:ee z o):de o (z.cyc*1440)=true:=by
 rcases h.y with⟨e,rfl⟩ | ⟨r,q,e,-,-,-,b,-⟩
 ·rfl
 ·have:z.cyc=cyc z.c:=by simp [ZD.cyc,e]
  rw [this];exact b
theorem ee.apart{z:ZD}{o:List bD}(h:ee z o):Qd (afO z.tr o (z.cyc*1440) z.eA):=by
 have hc:=h.af1;have K:=Ol h.sp (by omega)
 have d:∀ x y,x ∈ z.tr→Mem o (z.cyc*1440) y→z.eA≤y.at_→x.at_+2160≤y.at_:=by
  intro x y g hy I;rcases h.y with⟨e,rfl⟩ | ⟨r,q,e,-,-,-,N,F⟩
  ·obtain⟨k,b,u,_⟩:=hy;cases u
  ·have v:z.cyc=cyc z.c:=by simp [ZD.cyc,e]
   rw [←v]at F;have m:=h.sp
   cases l:vU o (z.cyc*1440) z.eA with
   | some w=>
    have L:=ajV m (by omega) l y hy I
    have M:=F w x l g
    omega
   | none=>
    exfalso;obtain⟨k,b,u,rfl⟩:=hy;obtain⟨E,b1,b2⟩:=fO m u;unfold vU at l;simp only [Option.or_eq_none_iff]at l;have s:=Hx l.2 _ (IT E);have H:turns o (z.cyc*1440) z.eA=if o[0].at_<z.eA then(z.eA-o[0].at_) / (z.cyc*1440)else 0:=by unfold turns;rw [AI E]
    have O:=awC (z.eA-o[0].at_) (z.cyc*1440);have Q:=awe (z.eA-o[0].at_) (show 0<z.cyc*1440 by omega)
    rw [aw0,awS,H]at s;split at s
    ·rw [awP ((z.eA-o[0].at_) / (z.cyc*1440))]at s;omega
    ·omega
 rintro x y (g | ⟨g,A⟩) (hy | ⟨hy,B⟩)
 ·obtain⟨i,hi,rfl⟩:=avT g;obtain⟨j,J,rfl⟩:=avT hy;rcases av5 i j with e | e | e
  ·left;exact sx h.ts i j e J
  ·subst e;right;right;rfl
  ·right;left;exact sx h.ts j i e hi
 ·left;exact d x y g hy B
 ·right;left;exact d y x hy g A
 ·exact K x y g hy
end
section
def jT(z:ZD)(g:Tg)(o:List bD):List FC:=z.row++[sl g (aJ o),fi z.cyc]
abbrev tc(z:ZD)(g:Tg)(o:List bD):V:=.c (.f (.fp (jT z g o) 0))
section
variable{H:ai}{z:ZD}{g:Tg}{o:List bD}
theorem akJ(b:z.c<3):aQ H none (.c (.f (.fp (jT z g o) 4)))=some (vi z.start):=by
 obtain⟨c,s,tg,tr,d,j,yr⟩:=z;have:c=0∨c=1∨c=2:=by simp at b;omega
 rcases this with rfl | rfl | rfl<;>simp [aQ,az,jT,ZD.row,fI,aF]
theorem F9(b:z.c<3):aQ H none (.c (.f (.fp (jT z g o) 5)))=some (.c (.f (sl z.tg (aJ z.tr)))):=by
 obtain⟨c,s,tg,tr,d,j,yr⟩:=z;have:c=0∨c=1∨c=2:=by simp at b;omega
 rcases this with rfl | rfl | rfl<;>simp [aQ,az,jT,ZD.row,fI,aF]
theorem aaO(b:z.c<3):aQ H none (.c (.f (.fp (jT z g o) 6)))=some (vi z.eA):=by
 obtain⟨c,s,tg,tr,d,j,yr⟩:=z;have:c=0∨c=1∨c=2:=by simp at b;omega
 rcases this with rfl | rfl | rfl<;>simp [aQ,az,jT,ZD.row,fI,aF]
theorem pO(b:z.c<3):aQ H none (.c (.f (.fp (jT z g o) 8)))=some (.c (.f (sl g (aJ o)))):=by
 obtain⟨c,s,tg,tr,d,j,yr⟩:=z;have:c=0∨c=1∨c=2:=by simp at b;omega
 rcases this with rfl | rfl | rfl<;>simp [aQ,az,jT,ZD.row,fI,aF]
theorem apt(b:z.c<3):aQ H none (.c (.f (.fp (jT z g o) 9)))=some (vi z.cyc):=by
 obtain⟨c,s,tg,tr,d,j,yr⟩:=z;have:c=0∨c=1∨c=2:=by simp at b;omega
 rcases this with rfl | rfl | rfl<;>simp [aQ,az,jT,ZD.row,fI,aF]
end
theorem jy{z:ZD}{g:Tg}{o:List bD}(d:z.c<3)(l:0≤z.cyc)(m:z.cyc≤1000000)(H:ai) :
  Ev tab.get (.fn jF) [tc z g o] H (vi (z.cyc*1440)) H:=by
 obtain⟨r,H',j,rfl,rfl⟩:∃ r H',Ev tab.get (.fn jF) [tc z g o] H r H'∧r=vi (z.cyc*1440)∧H'=H:=by
  refine da ZU rfl fun Q b=>?_
  refine ae ?_;simp;refine ae ?_;simp [apt d,wrap64 (n:=z.cyc*1440) (by omega) (by omega)]
  exact aA (b _ _ _ rfl (iF (by simp)) ⟨rfl,rfl⟩)
 exact j
section
variable{g:Tg}{o:List bD}
theorem GS(H:ai)(d:0<o.length):bA H (.f (sl g (aJ o)))=some o.length:=by
 have b:¬ (aJ o).isEmpty=true:=by
  intro h;have:o=[]:=by simpa [aJ]using h
  subst this;simp at d
 simp [sl,b,bA]
theorem gH(H:ai){i:Nat}(hi:i<o.length):aG H 2 none (.c (.f (sl g (aJ o)))) (vi i)=some (.c (.f (.fp (aJ o).flatten (i*2)))):=by
 have:=cT (H:=H) (g:=g) (rows:=aJ o) (sz:=2) (k:=.i64) (i:=(i:Int)) (by omega) (by simp;omega)
 simpa using this
theorem vG(H:ai){i:Nat}(hi:i<o.length):aQ H none (.c (.f (.fp (aJ o).flatten (i*2))))=some (vi o[i].at_):=gN (cw o) (dn (AI hi)) rfl
theorem su(H:ai){i:Nat}(hi:i<o.length):aQ H (some 2) (.c (.f (.fp (aJ o).flatten (i*2))))=some (.a (o[i].row.map .f)):=fk (cw o) (dn (AI hi))
end
theorem uj{b:Type}{f:b→b→Bool}:∀ {xs:List b},(∀ x ∈ xs,f x x=true)→mr f xs xs=true
 | [],_=>rfl
 | x::xs,h=>by simp only [mr,h x avQ,uj fun y d=>h y (List.mem_cons_of_mem _ d),Bool.and_self]
theorem mw{n:Nat}{xs:List FC}(h:∀ x ∈ xs,∃ k m,x=FC.int k m):mr (FC.beq n) xs xs=true:=uj fun x b=>by
 obtain⟨k,m,rfl⟩:=h x b;cases n<;>simp [FC.beq]
theorem qI(o:List bD):∀ x ∈ (aJ o).flatten,∃ k m,x=FC.int k m:=by
 intro x b;obtain⟨r,hr,b⟩:=List.mem_flatten.1 b;obtain⟨y,-,rfl⟩:=av9.1 hr;simp [bD.row]at b;rcases b with rfl | rfl<;>exact⟨_,_,rfl⟩
theorem Z8(g:Tg)(o:List bD):FC.beq 64 (sl g (aJ o)) (sl g (aJ o))=true:=by
 unfold sl;split
 ·cases g<;>rfl
 ·simp [FC.beq,mw (qI o)]
def rnd(o:List bD)(size t:Int):Int:=match o[0]? with
 | some x=>max (t-x.at_) 0 / size
 | none=>0
theorem Dv{z:ZD}{g:Tg}{o:List bD}(d:z.c<3)(x:1≤z.cyc)(y:z.cyc≤217)(b:0<o.length)(v:sB o[0]){t:Int}(t0:-10000000≤t)(t1:t≤10000000) :
  Km.Pure tab.get zv [tc z g o,vi t]=Eq (vi (rnd o (z.cyc*1440) t)):=Km.Pure.eq (by
 refine bK ajF rfl fun Q u=>?_
 unfold sB at v;have i0:=fun H=>gH (g:=g) H b
 have m:=fun H=>vG H b
 simp only [Nat.zero_mul,aw8]at i0 m;have q:=fun H=>(jy (g:=g) (o:=o) d (by omega) (by omega) H).eq
 have hr:rnd o (z.cyc*1440) t=max (t-o[0].at_) 0 / (z.cyc*1440):=by unfold rnd;rw [AI b]
 have s:bJ .quo (vi (max (t-o[0].at_) 0)) (vi (z.cyc*1440))=some (vi (max (t-o[0].at_) 0 / (z.cyc*1440))):=abM (by omega) (by omega) (by omega)
 refine ae ?_;simp;refine ag (kU (.inl rfl) ?_ ?_)
 case refine_2=>
  intro c l;have j:c=(4,14)∨c=(5,14)∨c=(7,14):=by simpa using l
  rcases j with rfl | rfl | rfl
  all_goals
   refine⟨by decide,_,rfl,.inl ⟨by decide,?_⟩⟩
   simp [pO d,i0,m,q,nT,wrap64 (n:=t-o[0].at_) (by omega) (by omega),s]
   first | rfl | exact Z8 g o | exact mw (qI o) | simp [V.beq,C.beq,FC.beq,mw (qI o)]
 simp [pO d,i0,m,q,wrap64 (n:=t-o[0].at_) (by omega) (by omega),s]
 refine aA (u _ _ ?_)
 simp [hr])
end
section
theorem N'(x:bD)(t:Int):Kf tab.get mh [.a (x.row.map .f),vi t] (vi (fA x.at_ t)):=by
 refine fg ajD rfl fun H Q b=>?_
 refine ae ?_;simp [bD.row];refine ae ?_;simp [kK];refine aA (b _ _ ?_);simp
theorem tt{a b:Int}:0≤fA a b↔b≤a:=by unfold fA;split<;>(try split)<;>omega
theorem CC{a b:Int}:0<fA a b↔b<a:=by unfold fA;split<;>(try split)<;>omega
theorem bsT(g:Tg)(l:List bD)(E:l.Pairwise TLt)(F:l.length≤1000)(t:Int):∃(i:Nat) (w:Bool),i≤l.length∧(∀ j (d:j<l.length),j<i→l[j].at_<t)∧(∀ j (d:j<l.length),i≤j→t≤l[j].at_)∧(w=true↔∃ h:i<l.length,l[i].at_=t) ∧
  Km.Pure tab.get tY [.c (.f (sl g (aJ l))),vi t,.c (.f (.fn mh []))]=Eq (.t [vi i,vb w]):=by
 have B:tab.get tY=some (aae 2):=aiW;have b:∀(j:Nat) (d:j<(aJ l).length),(aJ l)[j]=(l[j]'(by simpa using d)).row:=fun j d=>by simp [aJ]
 obtain⟨i,u,v,y,w,z,A⟩:=aaf B g (aJ l) (cw l) (.c (.f (.fn mh []))) (fi t) (fun r=>fA (td r).at_ t) (by simp;omega)
  (fun r hr=>by
   obtain⟨x,-,rfl⟩:=av9.1 hr
   exact⟨mh,_,by simp [bP],N' x t⟩)
  (fun i j hi d h=>by
   have s:j<l.length:=by simpa using d
   have q:i<l.length:=by omega
   simp only [b]at h ⊢;have:=avX.1 E i j q s hi;unfold TLt at this;rw [tt]at h;rw [CC]
   show t<l[j].at_
   have h:t≤l[i].at_:=h
   omega)
 refine⟨i,w,by simpa using u,fun j d m=>?_,fun j d m=>?_,?_,A⟩
 ·have:=v j (by simpa using d) m
  rw [b,mz]at this;exact this
 ·have:=y j (by simpa using d) m
  rw [b,tt]at this;exact this
 ·rw [z];constructor
  ·rintro⟨h,e⟩;rw [b,nu]at e;exact⟨by simpa using h,e⟩
  ·rintro⟨h,e⟩;refine⟨by simpa using h,?_⟩
   rw [b,nu];exact e
theorem O8{o:List bD}{size t:Int}(h:de o size=true)(u:0<size)(A:0<o.length)(E:o[0].at_≤t){i:Nat}(hi:i<o.length)(l:∀ j (g:j<o.length),i<j→t-(t-o[0].at_) / size*size<o[j].at_) :
  ∀ y,Mem o size y→y.at_≤t→y.at_≤o[i].at_+(t-o[0].at_) / size*size:=by
 rintro y ⟨m,b,d,rfl⟩ v;simp only at v ⊢;have q:=awC (t-o[0].at_) size;have F:=awd (t-o[0].at_) (show size≠0 by omega)
 have H:=awe (t-o[0].at_) u;have B:0≤(t-o[0].at_) / size:=awV (by omega) (by omega)
 rw [awP]at q;obtain⟨K,s⟩:∃ K:Nat,(t-o[0].at_) / size=(K:Int):=⟨((t-o[0].at_) / size).toNat,by omega⟩
 rw [s]at q l ⊢;obtain⟨_,b1,z⟩:=fO h d;obtain⟨_,a1,x⟩:=fO h (IT hi);rcases av5 m K with e | e | e
 ·have:=jb (size:=size) (by omega) e;omega
 ·subst e;obtain⟨j,g,rfl⟩:=avT d;rcases av5 i j with e | e | e
  ·have:=l j g e;omega
  ·subst e;exact awQ _
  ·have:=et h e hi;omega
 ·have:=jb (size:=size) (by omega) e;omega
theorem agF{z:ZD}{o:List bD}(h:ee z o)(hb:∀ x ∈ o,sB x)(hl:o.length≤100)(g:Tg)(t:Int)(t0:-10000000≤t)(t1:t≤10000000) :
  ∃ r:Option bD,gP (afO z.tr o (z.cyc*1440) z.eA) t r∧Km.Pure tab.get kG [tc z g o,vi t]=Eq (.t [.a ((r.getD ⟨0,0⟩).row.map .f),vb r.isSome]):=by
 obtain⟨rr,⟨r,hr,rfl⟩,hp⟩:∃ rr,(∃ r:Option bD,gP (afO z.tr o (z.cyc*1440) z.eA) t r∧rr=.t [.a ((r.getD ⟨0,0⟩).row.map .f),vb r.isSome])∧Km.Pure tab.get kG [tc z g o,vi t] rr:=by
  have J:=h.c;have Y:=h.af1;have F:=h.sp;have d_:=nH h.ts;have f_:=h.tl;refine ca ajC rfl fun Q hQ=>?_
  refine ae ?_;simp;refine ae ?_;simp;refine ag ?_
  have M:(∀ y,Mem o (z.cyc*1440) y→z.eA≤y.at_→t<y.at_)→∀(l:T) (H:ai),H[0]?=some (.box [.f (fi 0),.f (fi 0)] 0)→l.g 0=tc z g o→l.g 1=vi t→l.g 4=.c (.ptr 0 0 0)→l.g 6=.c (.f (.fn mh [])) →
    WP tab.get kG none [.code qX] ⟨l,[],H⟩ Q:=by
   intro a_ l H hH I g1 v g6;obtain⟨i,w,hi,i1,i2,hw,N⟩:=bsT z.tg z.tr d_ (by omega) t
   have Z:=ak hH;refine ae ?_;simp [I,g1,g6,F9 J,N]
   have s:∀(k:Nat) (u:k<z.tr.length),z.tr[k].at_≤t→(∀ j (d:j<z.tr.length),k<j→t<z.tr[j].at_)→∀ l:T,l.g 0=tc z g o→l.g 4=.c (.ptr 0 0 0)→l.g 11=vi (k:Nat)→WP tab.get kG none [.code xg] ⟨l,[],H⟩ Q:=by
    intro k u k1 k2 l I v U;have ii:=gH (g:=z.tg) H u;have ll:=su H u;refine ag ?_;refine ae ?_;simp [U];refine aY (by simp) ?_
    refine ae ?_;simp [I,v,U,F9 J,ii,ll,hH,bD.row];refine aA (hQ _ _ _ ⟨some z.tr[k],⟨.inl (IT u),k1,?_⟩,rfl⟩ ?_)
    ·rintro y (q | ⟨q,K⟩) b_
     ·obtain⟨j,d,rfl⟩:=avT q;rcases av5 k j with e | e | e
      ·have:=k2 j d e;omega
      ·subst e;exact awQ _
      ·have:=sx h.ts j k e u;omega
     ·have:=a_ y q K;omega
    ·simp [bD.row,v,Z]
   refine ag ?_;refine ae ?_;simp
   cases w with
   | true=>
    obtain⟨S,e⟩:=hw.1 rfl;refine aY (by simp) ?_
    exact s i S (by omega) (fun j d m=>by have:=sx h.ts i j m d;omega) _ (by simp [I]) (by simp [v]) (by simp)
   | false=>
    refine aj (by simp) ?_
    refine ab (.inl rfl) ?_;simp [wrap64 (n:=(i:Int)-1) (by omega) (by omega)]
    have E:∀ j (d:j<z.tr.length),i≤j→t<z.tr[j].at_:=by
     intro j d m;have a:=i2 j d m;rcases awi m with e | e
     ·have b:=i2 i (by omega) (aft _)
      have:=sx h.ts i j e d;omega
     ·subst e;rcases Int.lt_or_eq_of_le a with e | e
      ·exact e
      ·exact absurd (hw.2 ⟨d,e.symm⟩) (by simp)
    by_cases A:i=0
    ·subst A;refine ag ?_;refine ae ?_;simp;refine aj (by simp) ?_
     refine ae ?_;simp [v,hH];refine aA (hQ _ _ _ ⟨none,?_,rfl⟩ ?_)
     ·rintro y (q | ⟨q,K⟩)
      ·obtain⟨j,d,rfl⟩:=avT q;exact E j d (by omega)
      ·exact a_ y q K
     ·simp [bD.row,v,Z]
    ·obtain⟨k,rfl⟩:∃ k,i=k+1:=⟨i-1,by omega⟩
     rw [show(((k+1:Nat):Int)-1)=(k:Int) by omega]
     exact s k (by omega) (by have:=i1 k (by omega) (by omega);omega) (fun j d d6=>E j d (by omega)) _ (by simp [I]) (by simp [v]) (by simp)
  refine ag ?_;by_cases A:0<o.length
  case neg=>
   have:o=[]:=api (by omega)
   subst this;have d9:∀ H:ai,bA H (.f (sl g (aJ [])))=some 0:=by intro H;cases g<;>rfl
   refine ab (.inl rfl) ?_;simp [pO J,d9];refine aY (by simp) ?_
   exact M (fun y q _=>by obtain⟨k,b,hb,_⟩:=q;cases hb) _ _ rfl (by simp) (by simp) (by simp) (by simp)
  have X:=hb _ (IT A);have i0:=fun H=>gH (g:=g) H A
  have l0:=fun H=>vG H A
  simp only [Nat.zero_mul,aw8]at i0 l0;refine ab (.inl rfl) ?_;simp [pO J,GS _ A,i0,l0,A];by_cases O:o[0].at_≤t
  case neg=>
   refine aY (by simp [O]) ?_
   refine M (fun y q _=>?_) _ _ rfl (by simp) (by simp) (by simp) (by simp)
   obtain⟨k,b,c_,rfl⟩:=q;obtain⟨_,b1,b2⟩:=fO F c_;have:0≤(k:Int)*(z.cyc*1440):=axk (by omega) (by omega)
   simp only;omega
  refine aj (by simp [O]) ?_
  have b7:=Dv (g:=g) J Y.1 Y.2 A X t0 t1;have d7:=(jy (g:=g) (o:=o) J (by omega) (by omega) [.box [.f (fi 0),.f (fi 0)] 0]).eq
  unfold sB at X
  have d8:rnd o (z.cyc*1440) t=(t-o[0].at_) / (z.cyc*1440):=by
   unfold rnd;rw [AI A];simp only;rw [Int.max_eq_left (by omega)]
  rw [d8]at b7;have q0:=awC (t-o[0].at_) (z.cyc*1440);have q1:=awd (t-o[0].at_) (show z.cyc*1440≠0 by omega)
  have q2:=awe (t-o[0].at_) (show 0<z.cyc*1440 by omega)
  rw [awP]at q0;have W:0≤(t-o[0].at_) / (z.cyc*1440):=awV (by omega) (by omega)
  have c9:0≤(t-o[0].at_) / (z.cyc*1440)*(z.cyc*1440):=axk W (by omega)
  have b9:=fun i hi hn=>O8 (t:=t) F (by omega) A O (i:=i) hi hn
  obtain⟨B,hB⟩:∃ B,B=(t-o[0].at_) / (z.cyc*1440)*(z.cyc*1440):=⟨_,rfl⟩;have a8:∀ i (hi:i<o.length),Mem o (z.cyc*1440) ⟨o[i].at_+B,o[i].off⟩:=fun i hi=>⟨((t-o[0].at_) / (z.cyc*1440)).toNat,o[i],IT hi,by rw [awL W,hB]⟩
  rw [←hB]at q0 c9 b9;refine ae ?_;simp [b7,d7,←hB,wrap64 (n:=B) (by omega) (by omega)]
  obtain⟨i,w,hi,i1,i2,hw,N⟩:=bsT g o (jS F) (by omega) (t-B)
  refine ae ?_;simp [pO J,wrap64 (n:=t-B) (by omega) (by omega),N]
  have s:∀(k:Nat) (u:k<o.length),o[k].at_≤t-B→(∀ j (d:j<o.length),k<j→t-B<o[j].at_)→∀ l:T,l.g 0=tc z g o→l.g 1=vi t→l.g 4=.c (.ptr 0 0 0)→l.g 6=.c (.f (.fn mh []))→l.g 7=vi B→l.g 8=vi (k:Nat)→WP tab.get kG none [.code xf,.code qX] ⟨l,[],[.box [.f (fi 0),.f (fi 0)] 0]⟩ Q:=by
   intro k u k1 k2 l I g1 v g6 g7 g8;have ii:=fun H=>gH (g:=g) H u
   have ll:=fun H=>su H u
   have d5:=hb _ (IT u);unfold sB at d5;have L:=b9 k u k2;refine ae ?_;simp [I,g8,pO J,ii,ll,bD.row];refine ag ?_;refine ab (.inl rfl) ?_;simp [I,g7,aaO J,wrap64 (n:=o[k].at_+B) (by omega) (by omega)]
   by_cases hh:z.eA≤o[k].at_+B
   ·refine aj (by simp [hh]) ?_
    refine ae ?_;simp [g7,wrap64 (n:=o[k].at_+B) (by omega) (by omega)]
    refine ae ?_;simp [v,aF];refine aA (hQ _ _ _ ⟨some ⟨o[k].at_+B,o[k].off⟩,⟨.inr ⟨a8 k u,hh⟩,by show o[k].at_+B≤t;omega,?_⟩,rfl⟩ ?_)
    ·rintro y (q | ⟨q,K⟩) b_
     ·have:=(h.tb y q).2.1
      show y.at_≤o[k].at_+B
      omega
     ·exact L y q b_
    ·simp [bD.row,v]
   ·refine ah (by simp;omega) (aB ?_)
    refine M (fun y q g_=>?_) _ _ rfl (by simp [I]) (by simp [g1]) (by simp [v]) (by simp [g6])
    rcases Int.lt_or_le t y.at_ with e | e
    ·exact e
    ·have:=L y q e;omega
  refine ag ?_;refine ae ?_;simp
  cases w with
  | true=>
   obtain⟨S,e⟩:=hw.1 rfl;refine aY (by simp) ?_
   exact s i S (by omega) (fun j d m=>by have:=et F m d;omega) _ (by simp) (by simp) (by simp) (by simp) (by simp) (by simp)
  | false=>
   refine aj (by simp) ?_
   refine ab (.inl rfl) ?_;simp [wrap64 (n:=(i:Int)-1) (by omega) (by omega)]
   have E:∀ j (d:j<o.length),i≤j→t-B<o[j].at_:=by
    intro j d m;have a:=i2 j d m;rcases awi m with e | e
    ·have b:=i2 i (by omega) (aft _)
     have:=et F e d;omega
    ·subst e;rcases Int.lt_or_eq_of_le a with e | e
     ·exact e
     ·exact absurd (hw.2 ⟨d,e.symm⟩) (by simp)
   have e_:i≠0:=by
    rintro rfl;have:=E 0 A (aft _);omega
   obtain⟨k,rfl⟩:∃ k,i=k+1:=⟨i-1,by omega⟩
   rw [show(((k+1:Nat):Int)-1)=(k:Int) by omega]
   exact s k (by omega) (by have:=i1 k (by omega) (by omega);omega) (fun j d d6=>E j d (by omega)) _ (by simp) (by simp) (by simp) (by simp) (by simp) (by simp)
 exact⟨r,hr,Km.Pure.eq hp⟩
end
section
theorem ve{c y:Nat}{r q:eg}(hr:r.OK):∀ x ∈ dP c (y+1) r q,-1080≤x.off∧x.off≤1080:=by
 intro x b;obtain⟨-,-,-,-,-,-,p0,p1⟩:=hr;simp only [dP]at b;split at b
 ·simp only [List.mem_singleton]at b;subst b;exact⟨p0,p1⟩
 ·cases b
theorem Dp{c:Nat}{r q:eg}(hr:r.OK)(d:q.OK):∀ n,∀ x ∈ nO c r q n,-1080≤x.off∧x.off≤1080
 | 0,x,b=>by cases b
 | n+1,x,b=>by
  simp only [nO,av1]at b;rcases b with b | b | b
  ·exact Dp hr d n x b
  ·exact ve hr x b
  ·exact ve d x b
section
variable{z:ZD}{o:List bD}
theorem ee.bd(h:ee z o):∀ x ∈ o,sB x∧-1080≤x.off∧x.off≤1080:=by
 rcases h.y with⟨-,rfl⟩ | ⟨r,q,e,hr,d,hi,-,-⟩
 ·intro x b;cases b
 ·exact fun x b=>⟨qb h.c hr d _ (aft _) x (hi.perm.subset b),Dp hr d _ x (hi.perm.subset b)⟩
theorem ee.len(h:ee z o):o.length≤28:=by
 rcases h.y with⟨-,rfl⟩ | ⟨r,q,e,hr,g,hi,-,-⟩
 ·simp
 ·have b:=jf z.c r q (nY z.c);have d:=yE z.c;have:=hi.len;omega
abbrev ee.S{z:ZD}{o:List bD}(_:ee z o):bD→Prop:=afO z.tr o (z.cyc*1440) z.eA
theorem ee.off(h:ee z o){x:bD}(d:h.S x):-1080≤x.off∧x.off≤1080:=by
 rcases d with d | ⟨⟨k,b,g,rfl⟩,_⟩
 ·exact(h.tb x d).2.2
 ·exact(h.bd b g).2
theorem ee.last(h:ee z o)(g:Tg){t:Int}(t0:-10000000≤t)(t1:t≤10000000) :
  ∃ r:Option bD,gP h.S t r∧Km.Pure tab.get kG [tc z g o,vi t]=Eq (.t [.a ((r.getD ⟨0,0⟩).row.map .f),vb r.isSome]):=
 agF h (fun x b=>(h.bd x b).1) (by have:=h.len;omega) g t t0 t1
end
def offO(z:ZD):Option bD→Int
 | some x=>x.off
 | none=>z.start
theorem ee.offO{z:ZD}{o:List bD}(h:ee z o){t:Int}{r:Option bD}(hr:gP h.S t r):-1080≤offO z r∧offO z r≤1080:=by
 cases r with
 | none=>exact h.st
 | some x=>exact h.off hr.1
theorem yI{z:ZD}{o:List bD}(h:ee z o)(g:Tg){t:Int}(t0:-10000000≤t)(t1:t≤10000000) :
  ∃ r:Option bD,gP h.S t r∧Km.Pure tab.get zu [tc z g o,vi t]=Eq (vi (offO z r)):=by
 obtain⟨r,hr,j⟩:=h.last g t0 t1;refine⟨r,hr,Km.Pure.eq ?_⟩;have d:=h.c;refine bK ajE rfl fun Q b=>?_
 refine ae ?_;simp;refine ag ?_;refine ae ?_;simp [j,bD.row];refine ag ?_;refine ab (.inl rfl) ?_;simp
 cases r with
 | some x=>
  refine aj (by simp) ?_
  refine ae ?_;simp;refine aA (b _ _ ?_)
  simp [Go.Proofs.YtmbjejcfadllnaaGreat.offO]
 | none=>
  refine aY (by simp) ?_
  refine ae ?_;simp [akJ d];refine aA (b _ _ ?_);simp [Go.Proofs.YtmbjejcfadllnaaGreat.offO]
end
section
def dK(H J:ai):Prop:=∀(i:Nat) y,H[i]?=some y→J[i]?=some y
theorem dK.refl(H:ai):dK H H:=fun _ _ h=>h
theorem dK.push{H J:ai}(h:dK H J)(L:ai):dK H (J++L):=fun i y hy=>by have:=h i y hy;rw [AT (ak this)];exact this
theorem dK.set{H J:ai}(h:dK H J){i:Nat}{x:cU}(b:H[i]?=some x):dK H (J.set i x):=fun k y hy=>by
 by_cases e:i=k
 ·subst e;rw [b]at hy;cases hy;exact OF (ak (h i _ b))
 ·rw [By e];exact h k y hy
theorem O5{o:List bD}{size t:Int}(b:0<o.length):rnd o size t=turns o size t:=by
 unfold rnd turns;rw [AI b];simp only;split
 ·rw [Int.max_eq_left (by omega)]
 ·rw [Int.max_eq_right (by omega)];simp
theorem HP{z:ZD}{o:List bD}(h:ee z o)(g:Tg){b bc bt:Nat}{H:ai}{PP:ai→Prop}
  (d5:H[bc]?=some (.box [.f (.fp (jT z g o) 0)] 0)) (d6:H[bt]?=some (.box [.f (fi z.eA)] 0))
  (h0:o=[]→∀ J,dK H J→PP J)
  (hy:∀ x,vU o (z.cyc*1440) z.eA=some x→∀ J,dK H J→∃ J',Ev tab.get (.yield b) [.a (x.row.map .f)] J (vb false) J'∧PP J') :
  ∃ r H',Ev tab.get (.fn mf) [.c (.yl b),.c (.ptr bc 0 0),.c (.ptr bt 0 0)] H r H'∧(r=.t []∧PP H'):=by
 have S:=h.c;have d7:=h.af1;have j_:=h.sp;have j8:=h.ho;refine da ajA rfl fun Q hQ=>?_
 have kc:∀ J,dK H J→J[bc]?=some (.box [.f (.fp (jT z g o) 0)] 0):=fun J l=>l _ _ d5
 have kt:∀ J,dK H J→J[bt]?=some (.box [.f (fi z.eA)] 0):=fun J l=>l _ _ d6
 refine ag ?_;refine ae ?_;simp [d5,aF,F9 S]
 refine eV z.tr.length (fun j t J=>dK H J∧t.g 0=.c (.yl b)∧t.g 1=.c (.ptr bc 0 0)∧t.g 2=.c (.ptr bt 0 0)∧t.g 13=.c (.f (sl z.tg (aJ z.tr)))) (by have:=h.tl;omega) (by decide) (by decide) (by simp) (by simp)
  ⟨dK.refl H,by simp,by simp,by simp,by simp⟩ ?_ ?_
 ·rintro j t J A ⟨l,v,q,u,Y⟩ ha hb nx;have b7:=gH (g:=z.tg) J A;have E:=su J A;have j9:=(h.tb _ (IT A)).2.1;have X:dK H (J++[.box (z.tr[j].row.map .f) 0]):=l.push _;have e2:=kt _ X;simp only [bD.row,anc,avO]at E X e2;refine av ?_;refine ae ?_;simp [Y,ha,b7,E];refine ae ?_;simp [u,e2,aF,show¬ z.eA≤z.tr[j].at_ by omega]
  refine ah (by simp) (aB (al ?_))
  exact nx _ _ ⟨X,by simp [v],by simp [q],by simp [u],by simp [Y]⟩ (by simp [ha]) (by simp [hb])
 rintro t J ⟨l,v,q,u,Y⟩ ha hb;refine ag ?_;have d:=kc J l;have B:=kt J l;by_cases ho:o=[]
 ·subst ho;have j3:∀ H:ai,bA H (.f (sl g (aJ [])))=some 0:=by intro H;cases g<;>rfl
  refine ae ?_;simp [q,d,aF,pO S,j3];refine aj (by simp) ?_
  exact aA (hQ _ _ _ rfl rfl ⟨rfl,h0 rfl J l⟩)
 have U:0<o.length:=aww.2 ho;have c_:=(h.bd _ (IT U)).1;refine ae ?_;simp [q,d,aF,pO S,GS _ U];refine aY (by simp [ho]) ?_
 refine ae ?_;simp [q,u,d,B,aF,aaO S];obtain⟨W,a8⟩:∃ W:ai,W=J.set bt (.box [.f (fi z.eA)] 0):=⟨_,rfl⟩;have M:dK H W:=by rw [a8];exact l.set d6
 rw [←a8];clear d B l a8;have d:=kc W M;have B:=kt W M;have O:=(jy (g:=g) (o:=o) S (by omega) (by omega) W).eq
 have b9:=Dv (g:=g) (t:=z.eA) S d7.1 d7.2 U c_ (by omega) (by omega)
 rw [O5 U]at b9;unfold sB at c_;obtain⟨K,hK⟩:∃ K,K=turns o (z.cyc*1440) z.eA:=⟨_,rfl⟩;have b_:K=if o[0].at_<z.eA then(z.eA-o[0].at_) / (z.cyc*1440)else 0:=by rw [hK];simp [turns,AI U]
 have i_:0<z.cyc*1440:=by omega
 have q0:=awC (z.eA-o[0].at_) (z.cyc*1440);have q1:=awd (z.eA-o[0].at_) (show z.cyc*1440≠0 by omega)
 have q2:=awe (z.eA-o[0].at_) i_;have d_:0≤K:=by rw [b_];split;exact awV (by omega) (by omega);omega
 have e_:K*(z.cyc*1440)≤2000000∧z.eA≤o[0].at_+(K+1)*(z.cyc*1440):=by
  rw [b_];split
  ·rw [aw0,awS,awP ((z.eA-o[0].at_) / (z.cyc*1440))];omega
  ·omega
 have j4:0≤K*(z.cyc*1440):=axk d_ (by omega)
 rw [←hK]at b9;refine ae ?_;simp [q,u,d,B,aF,b9,O,wrap64 (n:=K*(z.cyc*1440)) (by omega) (by omega)]
 refine av ?_
 refine bw (fun m s=>∃(e:Int) (t':T) (J:ai),s=⟨t',[],J⟩∧dK H J∧(e=0∧m=1∨e=1∧m=0∧hZ o (z.cyc*1440) z.eA K=none)∧t'.g 0=.c (.yl b)∧t'.g 1=.c (.ptr bc 0 0)∧t'.g 2=.c (.ptr bt 0 0)∧t'.g 6=vi ((K+e)*(z.cyc*1440))) 1
  ⟨0,_,W,rfl,M,.inl ⟨rfl,rfl⟩,by simp [v],by simp [q],by simp [u],by simp⟩ ?_
 clear v q u M d B O;rintro m s ⟨e,t',J,rfl,l,he,v,q,u,L⟩ ih
 have j7:0≤(K+e)*(z.cyc*1440)∧(K+e)*(z.cyc*1440)≤4000000:=by
  rcases he with⟨rfl,-⟩ | ⟨rfl,-⟩
  ·rw [aw5];omega
  ·rw [aw0,awS];omega
 have d:=kc J l;refine ag ?_;refine av ?_;refine ae ?_;simp [q,d,aF,pO S,GS _ U]
 refine eV o.length (fun j t J=>dK H J∧(∀ i y,i<j→o[i]?=some y→decide (z.eA≤y.at_+(K+e)*(z.cyc*1440))=false)∧t.g 0=.c (.yl b)∧t.g 1=.c (.ptr bc 0 0)∧t.g 2=.c (.ptr bt 0 0)∧t.g 6=vi ((K+e)*(z.cyc*1440))∧t.g 56=.c (.f (sl g (aJ o)))) (by have:=h.len;omega) (by decide) (by decide) (by simp) (by simp)
  ⟨l,fun i y hi=>absurd hi (by omega),by simp [v],by simp [q],by simp [u],by simp [L],by simp⟩ ?_ ?_
 ·clear l d v q u L;rintro j t J A ⟨l,F,v,q,u,L,Z⟩ ha c9 nx;have b7:=gH (g:=g) J A;have E:=su J A;have g_:=(h.bd _ (IT A)).1;unfold sB at g_;have w1:IntKind.i64.wrap (o[j].at_+(K+e)*(z.cyc*1440))=o[j].at_+(K+e)*(z.cyc*1440):=wrap64 (by omega) (by omega)
  simp only [bD.row,anc,avO]at E;have X:dK H (J++[.box [.f (fi (o[j].at_+(K+e)*(z.cyc*1440))),.f (fi o[j].off)] 0]):=l.push _;have e2:=kt _ X;refine av ?_;refine ae ?_;simp [Z,ha,b7,E];refine ae ?_;simp [L,w1];by_cases N:z.eA≤o[j].at_+(K+e)*(z.cyc*1440)
  ·have a_:hZ o (z.cyc*1440) z.eA (K+e)=some ⟨o[j].at_+(K+e)*(z.cyc*1440),o[j].off⟩:=by
    have:=HM (p:=fun x=>decide (z.eA≤x.at_+(K+e)*(z.cyc*1440))) (AI A) (fun i y hi hy=>F i y hi hy) (by simp [N])
    simp [hZ,this]
   have d9:vU o (z.cyc*1440) z.eA=some ⟨o[j].at_+(K+e)*(z.cyc*1440),o[j].off⟩:=by
    unfold vU;rw [←hK];rcases he with⟨rfl,-⟩ | ⟨rfl,-,hn⟩
    ·rw [aw5]at a_ ⊢;rw [a_];rfl
    ·rw [hn,a_];rfl
   obtain⟨J',d8,f_⟩:=hy _ d9 _ X;simp only [bD.row,anc,avO]at d8;refine ae ?_;simp [v,u,e2,aF,N,d8.eq];refine aj (by simp) ?_
   exact aA (hQ _ _ _ rfl rfl ⟨rfl,f_⟩)
  ·refine ae ?_;simp [u,e2,aF,N];refine ah (by simp) (aB (al ?_))
   refine nx _ _ ⟨X,fun i y hi hy=>?_,by simp [v],by simp [q],by simp [u],by simp [L],by simp [Z]⟩ (by simp [ha]) (by simp [c9])
   by_cases h_:i=j
   ·subst h_;rw [AI A]at hy;cases hy;exact decide_eq_false N
   ·exact F i y (by omega) hy
 ·clear l d v q u L;rintro t J ⟨l,F,v,q,u,L,Z⟩ ha c9
  have I:hZ o (z.cyc*1440) z.eA (K+e)=none:=by
   have:o.find? (fun x=>decide (z.eA≤x.at_+(K+e)*(z.cyc*1440)))=none:=by
    rw [aw2];intro x hx;obtain⟨j,A,rfl⟩:=avT hx;have:=F j o[j] A (AI A);simp [this]
   simp [hZ,this]
  rcases he with⟨rfl,rfl⟩ | ⟨rfl,rfl,-⟩
  ·rw [aw5]at I L;have d:=kc J l;have O:=(jy (g:=g) (o:=o) S (by omega) (by omega) J).eq
   refine al ?_;refine ab (.inl rfl) ?_
   have hw:IntKind.i64.wrap (K*(z.cyc*1440)+z.cyc*1440)=(K+1)*(z.cyc*1440):=by
    rw [wrap64 (by omega) (by omega),aw0,awS]
   simp [q,L,d,aF,O,hw];exact ih 0 _ (by omega) ⟨1,_,J,rfl,l,.inr ⟨rfl,rfl,I⟩,by simp [v],by simp [q],by simp [u],by simp⟩
  ·exfalso;have:=F 0 o[0] U (AI U);have h2:=of_decide_eq_false this;exact h2 e_.2
end
section
theorem aaQ{H:ai}{b d:Nat}{z:ZD}(h:H[b]?=some (.box (z.row.map .f) d))(g:z.c<3):∃ cs,aQ H none (.c (.ptr b 1 0))=some (.c (.f (.fs cs 2))):=by
 obtain⟨c,s,tg,tr,j,l,yr⟩:=z;have:c=0∨c=1∨c=2:=by simp at g;omega
 rcases this with rfl | rfl | rfl<;>exact⟨_,by simp [aQ,az,h,ZD.row,fI,aF];rfl⟩
theorem agh(x:FC)(t:Int)(H:ai):Ev tab.get (.fn zt) [.c (.f x),vi t] H (.c (.cl mf [.ptr H.length 0 0,.ptr (H.length+1) 0 0])) (H++[.box [.f x] 0,.box [.f (fi t)] 0]):=by
 obtain⟨r,H',d,rfl,rfl⟩:∃ r H',Ev tab.get (.fn zt) [.c (.f x),vi t] H r H'∧r=.c (.cl mf [.ptr H.length 0 0,.ptr (H.length+1) 0 0])∧H'=H++[.box [.f x] 0,.box [.f (fi t)] 0]:=by
  refine da ajz rfl fun Q b=>?_
  refine ae ?_;simp;refine ae ?_;simp;exact aA (b _ _ _ rfl (iF (by simp)) ⟨rfl,rfl⟩)
 exact d
theorem ee.tick{z:ZD}{o:List bD}(h:ee z o):∃ g,Km.Pure tab.get iS [z.v]=Eq (.t [tc z g o,vb true]):=by
 rcases h.y with⟨e,rfl⟩ | ⟨r,q,e,hr,d,hi,j,l⟩
 ·refine⟨.nil,?_⟩;have b:z.cyc=1:=by simp [ZD.cyc,e]
  rw [acd z h.c e,tc,jT,b];rfl
 ·obtain⟨g,hg⟩:=ah8 z h.c e hr d hi j;refine⟨g,?_⟩;have b:z.cyc=cyc z.c:=by simp [ZD.cyc,e]
  rw [hg,tc,jT,b]
end
section
theorem ee.ajU{z:ZD}{o:List bD}(h:ee z o){x:bD}(b:vU o (z.cyc*1440) z.eA=some x):0≤x.at_∧x.at_≤10000000:=by
 have s:=h.af1;have u:=h.ho
 have j:0<o.length:=by
  rcases awk o.length with e | e
  ·have:o=[]:=awm.1 e;subst this;simp [vU,hZ]at b
  ·exact e
 have g:=(h.bd _ (IT j)).1;unfold sB at g;have m:turns o (z.cyc*1440) z.eA=if o[0].at_<z.eA then(z.eA-o[0].at_) / (z.cyc*1440)else 0:=by unfold turns;rw [AI j]
 have A:=awC (z.eA-o[0].at_) (z.cyc*1440);have B:=awd (z.eA-o[0].at_) (show z.cyc*1440≠0 by omega)
 have q:turns o (z.cyc*1440) z.eA*(z.cyc*1440)≤2000000:=by
  rw [m];split
  ·rw [awP];omega
  ·omega
 have key:∀ k,k*(z.cyc*1440)≤4000000→hZ o (z.cyc*1440) z.eA k=some x→0≤x.at_∧x.at_≤10000000:=by
  intro k v b;obtain⟨⟨y,hy,rfl⟩,l,-⟩:=tp h.sp b;have:=(h.bd _ hy).1;unfold sB at this;simp only at l ⊢;omega
 unfold vU at b
 cases d:hZ o (z.cyc*1440) z.eA (turns o (z.cyc*1440) z.eA)with
 | some w=>
  rw [d]at b;simp at b;subst b
  exact key _ (by omega) d
 | none=>
  rw [d]at b;simp at b;exact key _ (by rw [aw0,awS];omega) b
theorem OA{z:ZD}{o:List bD}(h:ee z o)(g:Tg){Q:Option aq→St→Prop}
  (hQ:∀ j s r,r=.t [tc z g o,vb true]→oh [.cell (P.nat 2) none,.cell (P.nat 3) none] r s∨aiH [.cell (P.nat 2) none,.cell (P.nat 3) none] r s→Q j s)
  (t:T) (J:ai) (Y:Nat) (g1:t.g 1=.c (.ptr 0 0 0)) (E:t.g 2=.c (.ptr 1 0 0)) (F:t.g 3=.c (.ptr 2 0 0)) (S:t.g 8=.c (.ptr Y 0 0))
  (x0:J[0]?=some (.box (z.row.map .f) 0)) (x1:J[1]?=some (.box [.f .fU] 0)) (x2:J[2]?=some (.box [.f (.bool false)] 0)) (x8:J[Y]?=some (.box [.f (.fp (jT z g o) 0)] 0)) (h8:2<Y) :
  WP tab.get eS none [.code xi] ⟨t,[],J⟩ Q:=by
 have hc:=h.c
 have b7:∀(t:T) (J:ai) (ds:List dt),t.g 8=.c (.ptr Y 0 0)→t.g 2=.c (.ptr 1 0 0)→t.g 3=.c (.ptr 2 0 0) →
   J[1]?=some (.box [.f .fU] 0)→J[2]?=some (.box [.f (.bool false)] 0)→J[Y]?=some (.box [.f (.fp (jT z g o) 0)] 0) →
   (ds=[]∨∃ b,ds=[.py b]∧2<b∧J[b]?=some (.jM true))→WP tab.get eS none [.code qY] ⟨t,ds,J⟩ Q:=by
  intro t J ds S E F x1 x2 x8 e_;have q1:(J.set 1 (.box [.f (.fp (jT z g o) 0)] 0))[2]?=some (.box [.f (.bool false)] 0):=by rw [By (by decide)];exact x2
  refine ae ?_;simp [S,E,F,x8,x1,aF,q1,List.length_set];obtain⟨K,hK⟩:∃ K:ai,K=(J.set 1 (.box [.f (.fp (jT z g o) 0)] 0)).set 2 (.box [.f (.bool true)] 0):=⟨_,rfl⟩;have l1:=ak x1;have l2:=ak x2;have k1:K[1]?=some (.box [.f (.fp (jT z g o) 0)] 0):=by rw [hK,By (by decide),OF l1]
  have k2:K[2]?=some (.box [.f (.bool true)] 0):=by rw [hK,OF (by simpa using l2)]
  rw [←hK];rcases e_ with rfl | ⟨b,rfl,hb,c9⟩
  ·refine aA (hQ _ _ _ rfl (.inl ⟨rfl,.t [.c (.f (.fp (jT z g o) 0)),vb true],?_,?_⟩))
   ·simp [Km.results,bG,aU,E,F,k1,k2,aF]
   ·simp [iN,bX,aU]
  ·have kb:K[b]?=some (.jM true):=by rw [hK,By (by omega),By (by omega)];exact c9
   have r1:(K.set b (.jM false))[1]?=some (.box [.f (.fp (jT z g o) 0)] 0):=by rw [By (by omega)];exact k1
   have r2:(K.set b (.jM false))[2]?=some (.box [.f (.bool true)] 0):=by rw [By (by omega)];exact k2
   refine aA (hQ _ _ _ rfl (.inr ⟨b,rfl,kb,.t [.c (.f (.fp (jT z g o) 0)),vb true],?_,?_⟩))
   ·simp [Km.results,bG,aU,E,F,r1,r2,aF]
   ·simp [iN,bX,aU]
 refine ag ?_;refine ag ?_;refine ab (.inl rfl) ?_;simp [g1,x0,fB x0 hc,-an];obtain⟨d,U⟩:∃ d:ai,d=J++[.box [.f (fi z.tr.length)] 0]:=⟨_,rfl⟩;have up:∀ i y,J[i]?=some y→d[i]?=some y:=fun i y u=>by rw [U,AT (ak u)];exact u
 have a_:d[J.length]?=some (.box [.f (fi z.tr.length)] 0):=by rw [U];simp
 have y0:=up _ _ x0;have y1:=up _ _ x1;have y2:=up _ _ x2;have y8:=up _ _ x8;have l7:Y<J.length:=ak x8;have j7:J.length<d.length:=by rw [U];simp
 rw [←U];refine ae ?_;by_cases hn:z.tr=[]
 ·simp [a_,aF,hn];refine aY (by simp) ?_
  exact b7 _ _ _ (by simp [S]) (by simp [E]) (by simp [F]) y1 y2 y8 (.inl rfl)
 have g_:0<z.tr.length:=aww.2 hn;simp [a_,aF,hn,g_];refine aj (by simp) ?_
 have f_:=(agh (.fp (jT z g o) 0) z.eA d).eq;have l8:aQ d none (.c (.ptr Y 0 0))=some (tc z g o):=by simp [aQ,az,y8,aF]
 refine ae ?_;simp [g1,S,l8,kW y0 hc,-an,f_];obtain⟨B,I⟩:∃ B:ai,B=d++[.box [.f (.fp (jT z g o) 0)] 0,.box [.f (fi z.eA)] 0]:=⟨_,rfl⟩;rw [←I];refine av ?_;have j8:B.length=d.length+2:=by rw [I];simp
 have a8:∀ t:T,t.g 1=.c (.ptr 0 0 0)→t.g 2=.c (.ptr 1 0 0)→t.g 3=.c (.ptr 2 0 0)→t.g 8=.c (.ptr Y 0 0)→t.g 10=.c (.ptr J.length 0 0) →
   t.g 158=.c (.cl mf [.ptr d.length 0 0,.ptr (d.length+1) 0 0]) →
   WP tab.get eS none [.code (.jQ (R 158) [P.nat 159] eu ew),.inBlock 4,.code qY] ⟨t,[],B⟩ Q:=by
  intro t g1 E F S g10 Z;have d6:∀ i y,d[i]?=some y→B[i]?=some y:=fun i y u=>by rw [I,AT (ak u)];exact u
  obtain⟨L,hL⟩:∃ L,L=B.length:=⟨_,rfl⟩;obtain⟨A,l⟩:∃ A:ai,A=B++[.jM true,.lp eS t [P.nat 159] eu ew .ready none B.length]:=⟨_,rfl⟩;have O:∀ i y,d[i]?=some y→A[i]?=some y:=fun i y u=>by rw [l,AT (ak (d6 i y u))];exact d6 i y u
  have b9:A[d.length]?=some (.box [.f (.fp (jT z g o) 0)] 0):=by rw [l,AT (by omega),I];simp
  have b_:A[d.length+1]?=some (.box [.f (fi z.eA)] 0):=by rw [l,AT (by omega),I];simp
  have hd:A[L]?=some (.jM true):=by rw [l,hL];simp
  have N:A[L+1]?=some (.lp eS t [P.nat 159] eu ew .ready none L):=by rw [l,hL,avM (by omega),show B.length+1-B.length=1 by omega];rfl
  have w1:=O _ _ y1;have w2:=O _ _ y2;have w8:=O _ _ y8;have w0:=O _ _ y0;have j4:=O _ _ a_;by_cases ho:o=[]
  ·obtain⟨r,H',he,rfl,W⟩:=HP h g (b:=L+1) (bc:=d.length) (bt:=d.length+1) (H:=A) (PP:=fun H'=>dK A H') b9 b_ (fun _ J hJ=>hJ) (fun x hx=>by subst ho;simp [vU,hZ]at hx)
   rw [l,hL]at he;refine yk (g:=mf) (by rw [ang,Z];simp [bP]) he ?_
   refine aaL (W _ _ (by rw [←hL];exact N)) (by decide) ?_
   refine al ?_
   have X:∀ i y,A[i]?=some y→i≤L→(H'.set (B.length+1) (.lp eS t [P.nat 159] eu ew .exhausted none L))[i]?=some y:=fun i y u hi=>by
    rw [By (by omega)];exact W _ _ u
   exact b7 _ _ _ S E F (X _ _ w1 (by omega)) (X _ _ w2 (by omega)) (X _ _ w8 (by omega)) (.inr ⟨B.length,rfl,by omega,X _ _ (by rw [←hL];exact hd) (by omega)⟩)
  ·obtain⟨r,H',he,rfl,p1,p2,pL,f2,tm,ps,aa,bd,pl⟩:=HP h g (b:=L+1) (bc:=d.length) (bt:=d.length+1) (H:=A)
    (PP:=fun H'=>H'[1]?=some (.box [.f (.fp (jT z g o) 0)] 0)∧H'[2]?=some (.box [.f (.bool true)] 0)∧H'[L]?=some (.jM true)∧∃ f2 tm ps aa bd,H'[L+1]?=some (.lp f2 tm ps aa bd .done (some .ret) L)) b9 b_ (fun e=>absurd e ho) (fun x hx J' m=>by
     have c9:=h.ajU hx
     obtain⟨r,H',e,rfl,W⟩:=CG (tab:=tab.get) (b:=L+1) (args:=[.a (x.row.map .f)]) (H:=J')
      (C:=fun r H'=>r=vb false∧H'[1]?=some (.box [.f (.fp (jT z g o) 0)] 0)∧H'[2]?=some (.box [.f (.bool true)] 0)∧H'[L]?=some (.jM true)∧∃ f2 tm ps aa bd,H'[L+1]?=some (.lp f2 tm ps aa bd .done (some .ret) L)) (m _ _ N) rfl fun Q' d7=>by
       simp only [bD.row];refine ab (.inr rfl) ?_;simp;refine agE (by rw [AT (ak (m _ _ N))];exact m _ _ N) ?_
       obtain⟨M,hM⟩:∃ M:ai,M=(J'++[cU.box [.f (fi x.at_),.f (fi x.off)] 0]).set (L+1) (.lp eS t [P.nat 159] eu ew .busy none L):=⟨_,rfl⟩;rw [←hM];have j_:=ak (m _ _ N)
       have v:∀ i y,A[i]?=some y→i≠L+1→M[i]?=some y:=fun i y u hi=>by
        rw [hM,By (by omega),AT (ak (m _ _ u))];exact m _ _ u
       have m0:=v _ _ w0 (by omega)
       have m1:=v _ _ w1 (by omega)
       have m2:=v _ _ w2 (by omega)
       have m8:=v _ _ w8 (by omega)
       have d5:=v _ _ j4 (by omega)
       have mL:=v _ _ hd (by omega)
       have mb:M[L+1]?=some (.lp eS t [P.nat 159] eu ew .busy none L):=by rw [hM,OF (by simp;omega)]
       have mx:M[J'.length]?=some (.box [.f (fi x.at_),.f (fi x.off)] 0):=by rw [hM,By (by omega)];simp
       have lM:aQ M none (.c (.ptr Y 0 0))=some (tc z g o):=by simp [aQ,az,m8,aF]
       have lx:aQ M none (.c (.ptr J'.length 0 0))=some (vi x.at_):=by simp [aQ,az,mx,aF]
       have c_:aQ M none (.c (.ptr J.length 0 0))=some (vi z.tr.length):=by simp [aQ,az,d5,aF]
       have X:=z.tr.length-1;have ii:=gH (g:=z.tg) M (show z.tr.length-1<z.tr.length by omega)
       have il:=vG M (show z.tr.length-1<z.tr.length by omega)
       have k_:=h.tb _ (IT (show z.tr.length-1<z.tr.length by omega))
       have j9:=h.ho;have e1:IntKind.i64.wrap ((z.tr.length:Int)-1)=((z.tr.length-1:Nat):Int):=by rw [wrap64 (by omega) (by have:=h.tl;omega)];omega
       have e2:IntKind.i64.wrap (x.at_-z.tr[z.tr.length-1].at_)=x.at_-z.tr[z.tr.length-1].at_:=wrap64 (by omega) (by omega)
       have e3:(2160:Int)≤x.at_-z.tr[z.tr.length-1].at_:=by
        rcases h.y with⟨-,e⟩ | ⟨r,q,e,-,-,-,-,ha⟩
        ·exact absurd e ho
        ·have d_:z.cyc=cyc z.c:=by simp [ZD.cyc,e]
         have:=ha x _ (by rw [←d_];exact hx) (IT (show z.tr.length-1<z.tr.length by omega))
         omega
       have s1:df M (.ptr 1 0 0) [.f (.fp (jT z g o) 0)]=some (M.set 1 (.box [.f (.fp (jT z g o) 0)] 0)):=by simp [df,m1,over]
       have q1:(M.set 1 (.box [.f (.fp (jT z g o) 0)] 0))[2]?=some (.box [.f (.bool false)] 0):=by rw [By (by decide)];exact m2
       have s2:df (M.set 1 (.box [.f (.fp (jT z g o) 0)] 0)) (.ptr 2 0 0) [.f (.bool true)]=some ((M.set 1 (.box [.f (.fp (jT z g o) 0)] 0)).set 2 (.box [.f (.bool true)] 0)):=by simp [df,q1,over]
       have n0:(M.set 1 (.box [.f (.fp (jT z g o) 0)] 0))[0]?=some (.box (z.row.map .f) 0):=by rw [By (by decide)];exact m0
       have nx:aQ (M.set 1 (.box [.f (.fp (jT z g o) 0)] 0)) none (.c (.ptr J'.length 0 0))=some (vi x.at_):=by
        simp [aQ,az,By (show 1≠J'.length by omega),mx,aF]
       have j3:aQ (M.set 1 (.box [.f (.fp (jT z g o) 0)] 0)) none (.c (.ptr J.length 0 0))=some (vi z.tr.length):=by
        simp [aQ,az,By (show 1≠J.length by omega),d5,aF]
       have h_:=gH (g:=z.tg) (M.set 1 (.box [.f (.fp (jT z g o) 0)] 0)) (show z.tr.length-1<z.tr.length by omega)
       have i_:=vG (M.set 1 (.box [.f (.fp (jT z g o) 0)] 0)) (show z.tr.length-1<z.tr.length by omega)
       refine av ?_;refine ag (kU (.inr rfl) ?_ ?_)
       case refine_2=>
        intro c d9;have d8:c=(2,13)∨c=(4,13)∨c=(5,13)∨c=(7,13)∨c=(9,13):=by simpa using d9
        rcases d8 with rfl | rfl | rfl | rfl | rfl
        all_goals
         refine⟨by decide,_,rfl,.inl ⟨by decide,?_⟩⟩
         simp [g1,E,F,S,g10,lM,lx,c_,fB m0 hc,ii,il,e1,e2,e3,s1,s2,nT,nx,j3,fB n0 hc,h_,i_,-an,-ba]
         first | rfl | exact Z8 z.tg z.tr | exact mw (qI z.tr) | simp [V.beq,C.beq,FC.beq,mw (qI z.tr)]
       simp [g1,E,F,S,g10,lM,lx,c_,fB m0 hc,ii,il,e1,e2,e3,s1,s2,-an,-ba];have kb:((M.set 1 (.box [.f (.fp (jT z g o) 0)] 0)).set 2 (.box [.f (.bool true)] 0))[L+1]?=some (.lp eS t [P.nat 159] eu ew .busy none L):=by rw [By (by omega),By (by omega)];exact mb
       refine aA (d7 _ _ _ _ _ _ _ _ _ _ rfl kb ⟨rfl,?_,?_,?_,eS,t,[P.nat 159],eu,ew,?_⟩)
       ·simp only;rw [By (by omega),By (by decide),OF (ak m1)]
       ·simp only;rw [By (by omega),OF (ak q1)]
       ·simp only;rw [By (by omega),By (by omega),By (by omega)];exact mL
       ·exact OF (ak kb)
     exact⟨H',e,W⟩)
   rw [l,hL]at he;refine yk (g:=mf) (by rw [ang,Z];simp [bP]) he ?_
   rw [←hL];refine Ad pl (by decide) ?_
   have X:∀ i,i<L+1→(H'.set (L+1) (.lp f2 tm ps aa bd .exhausted (some .ret) L))[i]?=H'[i]?:=fun i hi=>By (by omega)
   refine aA (hQ _ _ _ rfl (.inr ⟨L,rfl,by rw [X _ (by omega)];exact pL,.t [.c (.f (.fp (jT z g o) 0)),vb true],?_,by simp [iN,bX,aU]⟩))
   have q1:((H'.set (L+1) (.lp f2 tm ps aa bd .exhausted (some .ret) L)).set L (.jM false))[1]?=some (.box [.f (.fp (jT z g o) 0)] 0):=by rw [By (by omega),X _ (by omega)];exact p1
   have q2:((H'.set (L+1) (.lp f2 tm ps aa bd .exhausted (some .ret) L)).set L (.jM false))[2]?=some (.box [.f (.bool true)] 0):=by rw [By (by omega),X _ (by omega)];exact p2
   simp [Km.results,bG,aU,E,F,q1,q2,aF]
 exact a8 _ (by simp [g1]) (by simp [E]) (by simp [F]) (by simp [S]) (by simp) (by simp)
end
section
theorem Ii{z:ZD}{o:List bD}(h:ee z o):∃ g,Km.Pure tab.get eS [z.v]=Eq (.t [tc z g o,vb true]):=by
 obtain⟨g,Y⟩:=h.tick;refine⟨g,?_⟩
 obtain⟨rr,rfl,hp⟩:∃ rr,rr=.t [tc z g o,vb true]∧Km.Pure tab.get eS [z.v] rr:=by
  have E:=h.c;have a8:=h.st;have c_:=h.ho;have d6:=h.tl;refine abJ ajG rfl fun Q hQ=>?_
  refine ae ?_;simp;obtain⟨H0,F⟩:∃ H0:ai,H0=[.box (z.row.map .f) 0,.box [.f .fU] 0,.box [.f (.bool false)] 0]:=⟨_,rfl⟩;rw [←F];have z0:H0[0]?=some (.box (z.row.map .f) 0):=by rw [F];rfl
  have z1:H0[1]?=some (.box [.f .fU] 0):=by rw [F];rfl
  have z2:H0[2]?=some (.box [.f (.bool false)] 0):=by rw [F];rfl
  have d5:H0.length=3:=by rw [F];rfl
  refine ag ?_;refine ae ?_;simp [fB z0 E,jv z0 E,aaR z0 E,kW z0 E,-an,wm E,zc (n:=z.start) (m:=1080) (by decide) (by decide) a8.1 a8.2,zc (n:=z.eA) (m:=2251799813685248) (by decide) (by decide) (by omega) (by omega),show¬ 512<(z.tr.length:Int) by omega]
  refine aY (by simp) ?_
  refine ag ?_;refine ae ?_;simp [fB z0 E,-an]
  refine eV z.tr.length (fun j t J=>dK H0 J∧t.g 1=.c (.ptr 0 0 0)∧t.g 2=.c (.ptr 1 0 0)∧t.g 3=.c (.ptr 2 0 0)∧t.g 35=.c (.f (sl z.tg (aJ z.tr)))) (by omega) (by decide) (by decide) (by simp) (by simp)
   ⟨dK.refl _,by simp,by simp,by simp,by simp⟩ ?_ ?_
  ·rintro j t J X ⟨v,b,A,B,I⟩ M U nx;have W:=gH (g:=z.tg) J X;have K:=su J X;simp only [bD.row,anc,avO]at K;have u:=h.tb _ (IT X);obtain⟨d,l⟩:∃ d:ai,d=J++[.box (z.tr[j].row.map .f) 0]:=⟨_,rfl⟩;have Z:dK H0 d:=by rw [l];exact v.push _
   have N:d[J.length]?=some (.box [.f (fi z.tr[j].at_),.f (fi z.tr[j].off)] 0):=by rw [l];simp [bD.row]
   have y:=Z _ _ z0;simp only [bD.row,anc,avO]at l;refine av ?_;refine ae ?_;simp [I,M,W,K];rw [←l];have la:aQ d none (.c (.ptr J.length 0 0))=some (vi z.tr[j].at_):=by simp [aQ,az,N,aF]
   have lo:aQ d none (.c (.ptr J.length 1 0))=some (vi z.tr[j].off):=by simp [aQ,az,N,aF]
   have wo:=zc (n:=z.tr[j].off) (m:=1080) (by decide) (by decide) u.2.2.1 u.2.2.2
   have wa:=zc (n:=z.tr[j].at_) (m:=2251799813685248) (by decide) (by decide) (by omega) (by omega)
   refine ae ?_;by_cases b7:j=0
   ·subst b7;simp [b,la,lo,wo,wa,kW y E,-an,show¬ z.eA≤z.tr[0].at_ by omega]
    refine ah (by simp) (aB (al ?_))
    exact nx _ _ ⟨Z,by simp [b],by simp [A],by simp [B],by simp [I]⟩ (by simp [M]) (by simp [U])
   ·obtain⟨k,rfl⟩:∃ k,j=k+1:=⟨j-1,by omega⟩
    have a_:=gH (g:=z.tg) d (show k<z.tr.length by omega)
    have b9:=vG d (show k<z.tr.length by omega)
    have hs:=h.ts k _ _ (AI (by omega)) (AI X)
    have d7:=h.tb _ (IT (show k<z.tr.length by omega))
    have wk:IntKind.i64.wrap (k:Nat)=(k:Nat):=wrap64 (by omega) (by omega)
    have wd:IntKind.i64.wrap (z.tr[k+1].at_-z.tr[k].at_)=z.tr[k+1].at_-z.tr[k].at_:=wrap64 (by omega) (by omega)
    simp [b,la,lo,wo,wa,kW y E,fB y E,-an,show¬ z.eA≤z.tr[k+1].at_ by omega,wk,a_,b9,wd,show¬ z.tr[k+1].at_-z.tr[k].at_<2160 by omega,show(0:Int)<(k:Int)+1 by omega]
    refine ah (by simp) (aB (al ?_))
    exact nx _ _ ⟨Z,by simp [b],by simp [A],by simp [B],by simp [I]⟩ (by simp [M]) (by simp [U])
  clear F;rintro t J ⟨v,b,A,B,I⟩ M U;have y:=v _ _ z0
  have L:z.yr.length=0∨z.yr.length=2:=by
   rcases h.y with⟨e,-⟩ | ⟨r,q,e,-⟩
   ·left;rw [e];rfl
   ·right;rw [e];rfl
  have c9:∀ x ∈ z.yr,x.OK:=by
   rcases h.y with⟨e,-⟩ | ⟨r,q,e,hr,hq,-⟩
   ·rw [e];intro x u;cases u
   ·rw [e];intro x u;simp at u;rcases u with rfl | rfl
    ·exact hr
    ·exact hq
  have mid:∀(t:T) (J:ai),dK H0 J→t.g 1=.c (.ptr 0 0 0)→t.g 2=.c (.ptr 1 0 0)→t.g 3=.c (.ptr 2 0 0)→WP tab.get eS none [.code xh] ⟨t,[],J⟩ Q:=by
   clear b A B I M U y v;intro t J v b A B;have y:=v _ _ z0;refine ag ?_;refine ae ?_;simp [b,gw y E,-an]
   refine eV z.yr.length (fun j t J=>dK H0 J∧t.g 1=.c (.ptr 0 0 0)∧t.g 2=.c (.ptr 1 0 0)∧t.g 3=.c (.ptr 2 0 0)∧t.g 88=.c (.f (sl z.yg (bO z.yr)))) (by omega) (by decide) (by decide) (by simp) (by simp)
    ⟨v,by simp [b],by simp [A],by simp [B],by simp⟩ ?_ ?_
   ·clear v b A B y;rintro j t J X ⟨v,b,A,B,O⟩ M U nx
    have W:aG J 5 none (.c (.f (sl z.yg (bO z.yr)))) (vi j)=some (.c (.f (.fp (bO z.yr).flatten (j*5)))):=by
     have:=cT (H:=J) (g:=z.yg) (rows:=bO z.yr) (sz:=5) (k:=.i64) (i:=(j:Int)) (by omega) (by simp;omega)
     simpa using this
    have K:aQ J (some 5) (.c (.f (.fp (bO z.yr).flatten (j*5))))=some (.a (z.yr[j].row.map .f)):=fk (jE z.yr) (zf X);have u:=c9 _ (IT X);obtain⟨d,l⟩:∃ d:ai,d=J++[.box (z.yr[j].row.map .f) 0]:=⟨_,rfl⟩;have Z:dK H0 d:=by rw [l];exact v.push _
    have N:d[J.length]?=some (.box (z.yr[j].row.map .f) 0):=by rw [l];simp
    have y:=Z _ _ z0;have l0:aQ d none (.c (.ptr J.length 0 0))=some (vi z.yr[j].mo):=by simp [aQ,az,N,aF,eg.row]
    have l1:aQ d none (.c (.ptr J.length 1 0))=some (vi z.yr[j].wk):=by simp [aQ,az,N,aF,eg.row]
    have l2:aQ d none (.c (.ptr J.length 2 0))=some (vi z.yr[j].wd):=by simp [aQ,az,N,aF,eg.row]
    have l3:aQ d none (.c (.ptr J.length 3 0))=some (vi z.yr[j].mi):=by simp [aQ,az,N,aF,eg.row]
    have l4:aQ d none (.c (.ptr J.length 4 0))=some (vi z.yr[j].off):=by simp [aQ,az,N,aF,eg.row]
    obtain⟨cs,lm⟩:=aaQ y E;simp only [eg.row,anc,avO]at l K;refine av ?_;refine ae ?_;simp [O,M,W,K];rw [←l];have wo:=zc (n:=z.yr[j].off) (m:=1080) (by decide) (by decide) u.of0 u.of
    refine ae ?_;have b_:bA d (.f (.fs cs 2))=some 2:=rfl;have f1:¬ z.yr[j].mo<1:=by have:=u.mo;omega
    have f2:¬ 2<z.yr[j].mo:=by have:=u.mo;omega
    have f3:¬ z.yr[j].wk<1:=by have:=u.wk;omega
    have f4:¬ 5<z.yr[j].wk:=by have:=u.wk;omega
    have f5:¬ z.yr[j].wd<0:=by have:=u.wd0;omega
    have f6:¬ 6<z.yr[j].wd:=by have:=u.wd;omega
    have f7:¬ z.yr[j].mi<0:=by have:=u.mi0;omega
    have f8:¬ 1440≤z.yr[j].mi:=by have:=u.mi;omega
    simp [b,l0,l1,l2,l3,l4,lm,wo,-an,f1,f2,f3,f4,f5,f6,f7,f8,b_];refine ah (by simp) (aB (al ?_))
    exact nx _ _ ⟨Z,by simp [b],by simp [A],by simp [B],by simp [O]⟩ (by simp [M]) (by simp [U])
   ·clear v b A B y;rintro t J ⟨v,b,A,B,O⟩ M U;have y:=v _ _ z0;refine ae ?_;simp [b,eC y E,-an,Y];obtain⟨J2,S⟩:∃ J2:ai,J2=J++[.box [.f (.fp (jT z g o) 0)] 0]:=⟨_,rfl⟩;rw [←S];have e2:dK H0 J2:=by rw [S];exact v.push _
    have hl:=ak (v _ _ z2);refine ag ?_;refine ag ?_;refine ab (.inl rfl) ?_;simp;refine aY (by simp) ?_
    refine OA h g (fun j s r hr hf=>hQ j s r hr hf) _ J2 J.length (by simp [b]) (by simp [A]) (by simp [B]) (by simp) (e2 _ _ z0) (e2 _ _ z1) (e2 _ _ z2) (by rw [S];simp) hl
  refine ag ?_;refine ae ?_;rcases L with L | L
  ·simp [b,gw y E,-an,L];refine aY (by simp) ?_
   exact mid _ _ v (by simp [b]) (by simp [A]) (by simp [B])
  ·simp [b,gw y E,-an,L];refine aY (by simp) ?_
   exact mid _ _ v (by simp [b]) (by simp [A]) (by simp [B])
 exact hp.eq
end
section
theorem y7{z:ZD}{o:List bD}(h:ee z o):Km.Pure tab.get zq [z.v]=Eq (vi 0):=Km.Pure.eq (by
 obtain⟨g,d⟩:=Ii h;have j:=h.c;have m:=h.tl;refine bK ajy rfl fun Q l=>?_
 refine ae ?_;simp;obtain⟨H0,b⟩:∃ H0:ai,H0=[.box (z.row.map .f) 0]:=⟨_,rfl⟩;rw [←b];have z0:H0[0]?=some (.box (z.row.map .f) 0):=by rw [b];rfl
 refine ag (ae ?_);simp [fB z0 j,-an,show¬ 512<(z.tr.length:Int) by omega]
 refine ah (by simp) (aB (ag ?_))
 refine ae ?_;simp [eC z0 j,-an,d];refine ae ?_;simp;refine aY (by simp) ?_
 refine ae ?_;simp;refine aA (l _ _ ?_)
 simp)
end
section
structure afM(z:ZD):Prop where
 c:z.c<3
 st:-1080≤z.start∧z.start≤1080
 tl:z.tr.length≤3
 tb:∀ x ∈ z.tr,0≤x.at_∧x.at_<z.eA∧-1080≤x.off∧x.off≤1080
 ts:∀(i:Nat) x y,z.tr[i]?=some x→z.tr[i+1]?=some y→x.at_+2160≤y.at_
 ho:0≤z.eA∧z.eA≤40000
theorem afM.none{z:ZD}(h:afM z)(e:z.yr=[]):ee z []:=⟨h.c,h.st,h.tl,h.tb,h.ts,h.ho,.inl ⟨e,rfl⟩⟩
theorem afP{o:List bD}{size t:Int}(j:∀ x ∈ o,sB x)(u:de o size=true)(E:1≤size)(F:size≤400000)(t0:0≤t)(t1:t≤40000){x:bD}(b:vU o size t=some x):0≤x.at_∧x.at_≤10000000:=by
 have l:0<o.length:=by
  rcases awk o.length with e | e
  ·have:o=[]:=awm.1 e;subst this;simp [vU,hZ]at b
  ·exact e
 have g:=j _ (IT l);unfold sB at g;have q:turns o size t=if o[0].at_<t then(t-o[0].at_) / size else 0:=by unfold turns;rw [AI l]
 have A:=awC (t-o[0].at_) size;have B:=awd (t-o[0].at_) (show size≠0 by omega)
 have s:turns o size t*size≤2000000:=by
  rw [q];split
  ·rw [awP];omega
  ·omega
 have key:∀ k,k*size≤4000000→hZ o size t k=some x→0≤x.at_∧x.at_≤10000000:=by
  intro k z b;obtain⟨⟨y,v,rfl⟩,m,-⟩:=tp u b;have:=j _ v;unfold sB at this;simp only at m ⊢;omega
 unfold vU at b
 cases d:hZ o size t (turns o size t)with
 | some w=>
  rw [d]at b;simp at b;subst b
  exact key _ (by omega) d
 | none=>
  rw [d]at b;simp at b;exact key _ (by rw [aw0,awS];omega) b
theorem FG(g:Tg)(n t:Int):Km.Pure tab.get xB [.c (.f (sl g (aJ []))),vi n,vi t]=Eq (.t [.a [.f (fi 0),.f (fi 0)],vb false]):=Km.Pure.eq (by
 refine bK aid rfl fun Q d=>?_
 refine ae ?_;simp;refine ag ?_;refine ae ?_;have b:∀ H:ai,bA H (.f (sl g (aJ [])))=some 0:=fun H=>by simpa using rO (H:=H) g (aJ [])
 simp [b];refine aj (by simp) ?_
 refine ae ?_;simp;refine aA (d _ _ ?_)
 simp)
theorem G6{z:ZD}(h:afM z){r q:eg}(hz:z.yr=[r,q])(hr:r.OK)(hq:q.OK) :
  ∃ e:Int,Km.Pure tab.get Cg [z.v]=Eq (vi e)∧(e=0→∃ o,ee z o):=by
 obtain⟨rr,⟨e,he,rfl⟩,hp⟩:∃ rr,(∃ e:Int,(e=0→∃ o,ee z o)∧rr=vi e)∧Km.Pure tab.get Cg [z.v] rr:=by
  have u:=h.c;have Z:=h.st;have d7:=h.ho;have d9:=h.tl;have N:z.cyc=cyc z.c:=by simp [ZD.cyc,hz]
  have c_:z.yr.length=2:=by rw [hz];rfl
  have d5:∀ x ∈ z.yr,x.OK:=by
   rw [hz];intro x l;simp at l;rcases l with rfl | rfl
   ·exact hr
   ·exact hq
  obtain⟨g,o,ho,d6⟩:=DX z u hz hr hq;have X:=sI z u;refine ca anV rfl fun Q hQ=>?_
  refine ae ?_;simp;obtain⟨H0,M⟩:∃ H0:ai,H0=[.box (z.row.map .f) 0]:=⟨_,rfl⟩;rw [←M];have z0:H0[0]?=some (.box (z.row.map .f) 0):=by rw [M];rfl
  clear M;refine ag (ae ?_);simp [fB z0 u,-an,show¬ 512<(z.tr.length:Int) by omega]
  refine aY (by simp) ?_
  refine ag (ae ?_);simp [jv z0 u,aaR z0 u,kW z0 u,gw z0 u,-an,O6 u,vP (n:=z.start) (m:=1080) (by decide) (by decide) Z.1 Z.2,vP (n:=z.eA) (m:=2251799813685248) (by decide) (by decide) (by omega) (by omega),c_]
  refine aY (by simp) ?_
  refine ag (ae ?_);simp;refine bZ (H:=H0) z.tr.length (fun j t J=>J[0]?=some (.box (z.row.map .f) 0)∧t.g 1=.c (.ptr 0 0 0)) (by omega) (by decide) (by simp) ⟨z0,by simp⟩ ?_ ?_ ?_
  ·rintro j t J L K ⟨y,d⟩ v hn;simp [d,v,fB y u,-an];exact hn _ ⟨y,by simp [d]⟩ (by simp [v]) (by simp)
  ·rintro j t J K ⟨y,d⟩ v nx;have O:=gH (g:=z.tg) J K;have E:=su J K;simp only [bD.row,anc,avO]at E;have l:=h.tb _ (IT K);obtain⟨b,s⟩:∃ b:ai,b=J++[.box [.f (fi z.tr[j].at_),.f (fi z.tr[j].off)] 0]:=⟨_,rfl⟩;have F:b[J.length]?=some (.box [.f (fi z.tr[j].at_),.f (fi z.tr[j].off)] 0):=by rw [s];simp
   have A:b[0]?=some (.box (z.row.map .f) 0):=by rw [s,AT (ak y)];exact y
   refine av ?_;refine ae ?_;simp [d,v,O,E,fB y u,-an];rw [←s];have la:aQ b none (.c (.ptr J.length 0 0))=some (vi z.tr[j].at_):=by simp [aQ,az,F,aF]
   have lo:aQ b none (.c (.ptr J.length 1 0))=some (vi z.tr[j].off):=by simp [aQ,az,F,aF]
   have wo:=vP (n:=z.tr[j].off) (m:=1080) (by decide) (by decide) l.2.2.1 l.2.2.2
   have wa:=vP (n:=z.tr[j].at_) (m:=2251799813685248) (by decide) (by decide) (by omega) (by omega)
   refine ae ?_;by_cases b7:j=0
   ·subst b7;simp [d,v,la,lo,wo,wa,kW A u,-an,show¬ z.eA≤z.tr[0].at_ by omega]
    refine ah (by simp) (aB (al ?_))
    exact nx _ _ ⟨A,by simp [d]⟩ (by simp [v])
   ·obtain⟨k,rfl⟩:∃ k,j=k+1:=⟨j-1,by omega⟩
    have a_:=gH (g:=z.tg) b (show k<z.tr.length by omega)
    have b9:=vG b (show k<z.tr.length by omega)
    have hs:=h.ts k _ _ (AI (by omega)) (AI K)
    have U:=h.tb _ (IT (show k<z.tr.length by omega))
    have wk:IntKind.i64.wrap (k:Nat)=(k:Nat):=wrap64 (by omega) (by omega)
    have wd:IntKind.i64.wrap (z.tr[k+1].at_-z.tr[k].at_)=z.tr[k+1].at_-z.tr[k].at_:=wrap64 (by omega) (by omega)
    simp [d,v,la,lo,wo,wa,kW A u,fB A u,-an,show¬ z.eA≤z.tr[k+1].at_ by omega,wk,a_,b9,wd,show¬ z.tr[k+1].at_-z.tr[k].at_<2160 by omega,show(0:Int)<(k:Int)+1 by omega]
    refine ah (by simp) (aB (al ?_))
    exact nx _ _ ⟨A,by simp [d]⟩ (by simp [v])
  clear z0;rintro t J ⟨z0,d⟩ v;refine ag (ae ?_);simp;refine bZ (H:=J) z.yr.length (fun j t J=>J[0]?=some (.box (z.row.map .f) 0)∧t.g 1=.c (.ptr 0 0 0)) (by omega) (by decide) (by simp) ⟨z0,by simp [d]⟩ ?_ ?_ ?_
  ·clear d v z0;rintro j t J L K ⟨y,d⟩ v hn;simp [d,v,gw y u,-an];exact hn _ ⟨y,by simp [d]⟩ (by simp [v]) (by simp)
  ·clear d v z0;rintro j t J K ⟨y,d⟩ v nx
   have O:aG J 5 none (.c (.f (sl z.yg (bO z.yr)))) (vi j)=some (.c (.f (.fp (bO z.yr).flatten (j*5)))):=by
    have:=cT (H:=J) (g:=z.yg) (rows:=bO z.yr) (sz:=5) (k:=.i64) (i:=(j:Int)) (by omega) (by simp;omega)
    simpa using this
   have E:aQ J (some 5) (.c (.f (.fp (bO z.yr).flatten (j*5))))=some (.a (z.yr[j].row.map .f)):=fk (jE z.yr) (zf K);have l:=d5 _ (IT K);obtain⟨b,s⟩:∃ b:ai,b=J++[.box (z.yr[j].row.map .f) 0]:=⟨_,rfl⟩;have A:b[0]?=some (.box (z.row.map .f) 0):=by rw [s,AT (ak y)];exact y
   have F:b[J.length]?=some (.box (z.yr[j].row.map .f) 0):=by rw [s];simp
   have l0:aQ b none (.c (.ptr J.length 0 0))=some (vi z.yr[j].mo):=by simp [aQ,az,F,aF,eg.row]
   have l1:aQ b none (.c (.ptr J.length 1 0))=some (vi z.yr[j].wk):=by simp [aQ,az,F,aF,eg.row]
   have l2:aQ b none (.c (.ptr J.length 2 0))=some (vi z.yr[j].wd):=by simp [aQ,az,F,aF,eg.row]
   have l3:aQ b none (.c (.ptr J.length 3 0))=some (vi z.yr[j].mi):=by simp [aQ,az,F,aF,eg.row]
   have l4:aQ b none (.c (.ptr J.length 4 0))=some (vi z.yr[j].off):=by simp [aQ,az,F,aF,eg.row]
   obtain⟨cs,lm⟩:=aaQ A u;simp only [eg.row,anc,avO]at s E;refine av ?_;refine ae ?_;simp [d,v,O,E,gw y u,-an];rw [←s];have wo:=vP (n:=z.yr[j].off) (m:=1080) (by decide) (by decide) l.of0 l.of
   refine ae ?_;have c9:bA b (.f (.fs cs 2))=some 2:=rfl;have f1:¬ z.yr[j].mo<1:=by have:=l.mo;omega
   have f2:¬ 2<z.yr[j].mo:=by have:=l.mo;omega
   have f3:¬ z.yr[j].wk<1:=by have:=l.wk;omega
   have f4:¬ 5<z.yr[j].wk:=by have:=l.wk;omega
   have f5:¬ z.yr[j].wd<0:=by have:=l.wd0;omega
   have f6:¬ 6<z.yr[j].wd:=by have:=l.wd;omega
   have f7:¬ z.yr[j].mi<0:=by have:=l.mi0;omega
   have f8:¬ 1439<z.yr[j].mi:=by have:=l.mi;omega
   simp [d,l0,l1,l2,l3,l4,lm,wo,-an,f1,f2,f3,f4,f5,f6,f7,f8,c9];refine ah (by simp) (aB (al ?_))
   exact nx _ _ ⟨A,by simp [d]⟩ (by simp [v])
  clear d v z0;rintro t J ⟨z0,d⟩ v;refine ae ?_;simp [d,eC z0 u,-an,d6];refine ag (ae ?_)
  cases hs:de o (cyc z.c*1440)with
  | false=>
   simp;refine aj (by simp) (ae ?_)
   simp;refine aA (hQ _ _ _ ⟨1,by simp,rfl⟩ ⟨rfl,vi 1,?_,?_⟩)
   ·simp [Km.results,bG,aU]
   ·simp [iN,bX]
  | true=>
   simp;refine aY (by simp) ?_
   have mk:(∀ x a,vU o (cyc z.c*1440) z.eA=some x→a ∈ z.tr→a.at_+2160≤x.at_)→∃ o,ee z o:=fun l=>⟨o,h.c,h.st,h.tl,h.tb,h.ts,h.ho,.inr ⟨r,q,hz,hr,hq,ho,hs,l⟩⟩
   have B:(∀ x a,vU o (cyc z.c*1440) z.eA=some x→a ∈ z.tr→a.at_+2160≤x.at_)→∀(t:T) (J:ai),WP tab.get Cg none [.code BG] ⟨t,[],J⟩ Q:=by
    intro l t J;refine ae ?_;simp;refine aA (hQ _ _ _ ⟨0,fun _=>mk l,rfl⟩ ⟨rfl,vi 0,?_,?_⟩)
    ·simp [Km.results,bG,aU]
    ·simp [iN,bX]
   have a8:1≤cyc z.c∧cyc z.c≤217:=by
    have:cyc z.c=91∨cyc z.c=217:=by unfold cyc ib;split<;>simp
    omega
   rcases awk o.length with e0 | o0
   ·have e0:o=[]:=awm.1 e0;subst e0;have I:=FG g z.cyc z.eA;refine ae ?_;simp [d,eC z0 u,kW z0 u,-an,X,I];refine ag (ae ?_);simp;refine aY (by simp) ?_
    exact B (by simp [vU,hZ]) _ _
   ·have W:∀ x ∈ o,sB x:=fun x l=>qb u hr hq _ (aft _) x (ho.perm.subset l)
    have b_:o.length≤1000:=by
     have h1:=jf z.c r q (nY z.c);have h2:=yE z.c;have:=ho.len;omega
    obtain⟨x,l,I⟩:=FH g o o0 b_ W z.cyc z.eA (by rw [N];exact a8.1) (by rw [N];omega) (by omega) (by omega)
    rw [N]at l;have d_:=afP W hs (by omega) (by omega) (by omega) (by omega) l
    simp only [bD.row,anc,avO]at I;refine ae ?_;simp [d,eC z0 u,kW z0 u,-an,X,I];obtain⟨b,s⟩:∃ b:ai,b=J++[.box [.f (fi x.at_),.f (fi x.off)] 0]:=⟨_,rfl⟩;rw [←s];have A:b[0]?=some (.box (z.row.map .f) 0):=by rw [s,AT (ak z0)];exact z0
    have F:b[J.length]?=some (.box [.f (fi x.at_),.f (fi x.off)] 0):=by rw [s];simp
    have la:aQ b none (.c (.ptr J.length 0 0))=some (vi x.at_):=by simp [aQ,az,F,aF]
    refine ag (ae ?_);by_cases S:z.tr=[]
    ·simp [d,fB A u,-an,S];refine aY (by simp) ?_
     exact B (by rw [S];intro x a _ v;cases v) _ _
    ·have Y:0<z.tr.length:=aww.2 S;have ii:=gH (g:=z.tg) b (show z.tr.length-1<z.tr.length by omega)
     have il:=vG b (show z.tr.length-1<z.tr.length by omega)
     have d8:=h.tb _ (IT (show z.tr.length-1<z.tr.length by omega))
     have e1:IntKind.i64.wrap ((z.tr.length:Int)-1)=((z.tr.length-1:Nat):Int):=by rw [wrap64 (by omega) (by omega)];omega
     have e2:IntKind.i64.wrap (x.at_-z.tr[z.tr.length-1].at_)=x.at_-z.tr[z.tr.length-1].at_:=wrap64 (by omega) (by omega)
     by_cases hd:x.at_-z.tr[z.tr.length-1].at_<2160
     ·simp [d,fB A u,-an,Y,e1,e2,ii,il,la,hd];refine aj (by simp) (ae ?_)
      simp;refine aA (hQ _ _ _ ⟨1,by simp,rfl⟩ ⟨rfl,vi 1,?_,?_⟩)
      ·simp [Km.results,bG,aU]
      ·simp [iN,bX]
     ·simp [d,fB A u,-an,Y,e1,e2,ii,il,la,hd];refine aY (by simp) ?_
      refine B ?_ _ _;intro x' a U v;rw [l]at U;cases U;obtain⟨i,hi,rfl⟩:=avT v;rcases awi (show i≤z.tr.length-1 by omega)with h1 | h1
      ·have:=sx h.ts i _ h1 (by omega);omega
      ·subst h1;omega
 exact⟨e,hp.eq,he⟩
end
section
abbrev u8(n:Nat):FC:=.int .u8 (n:Nat)
structure gQ where
 st:Nat
 gg:Tg
 pH:List Nat
 og:Tg
 As:List Nat
 be:Nat
 y:Nat→Nat→Nat
 dM:Nat
 rules:Bool
def bM(l:List Nat):List (List FC):=l.map fun n=>[u8 n]
@[simp] theorem amL (l:List Nat):(bM l).length=l.length:=by simp [bM]
theorem FN(l:List Nat):bC 1 (bM l):=bC.map fun _=>rfl
theorem iZ{j:Nat}{l:List Nat}(b:j<l.length){H:ai}:aQ H none (.c (.f (.fp (bM l).flatten j)))=some (.c (.f (u8 l[j]))):=by
 have:=gN (H:=H) (rows:=bM l) (j:=j) (sz:=1) (row:=[u8 l[j]]) (x:=u8 l[j]) (FN l) (by simp [bM,b]) rfl
 simpa using this
theorem ke{j:Nat}{l:List Nat}{g:Tg}(b:j<l.length){H:ai}:aG H 1 none (.c (.f (sl g (bM l)))) (vi j)=some (.c (.f (.fp (bM l).flatten j))):=by
 have:=cT (H:=H) (g:=g) (rows:=bM l) (sz:=1) (k:=.i64) (i:=(j:Int)) (by omega) (by simp;omega)
 simpa using this
def gQ.row(x:gQ):List FC:=[u8 x.st,sl x.gg (bM x.pH),sl x.og (bM x.As),u8 x.be,u8 (x.y 0 0),u8 (x.y 0 1),u8 (x.y 0 2),u8 (x.y 0 3),u8 (x.y 1 0),u8 (x.y 1 1),u8 (x.y 1 2),u8 (x.y 1 3),u8 x.dM,.bool x.rules]
structure gQ.OK(x:gQ):Prop where
 st:x.st<256
 gl:x.pH.length≤9223372036854775807
 ol:x.As.length≤9223372036854775807
 ga:∀ n ∈ x.pH,n<256
 of:∀ n ∈ x.As,n<256
 be:x.be<256
 y:∀ k i,k<2→i<4→x.y k i<256
 dM:x.dM<256
theorem vO(n:Nat){m:Nat}(b:0<m):bJ .rem (.c (.f (u8 n))) (.c (.f (u8 m)))=some (.c (.f (u8 (n % m)))):=by
 have:¬ ((m:Int)=0):=by omega
 simp only [bJ,jJ,if_true,this,if_false];rfl
theorem amA{n:Nat}(g:n<256){m:Nat}(d:0<m):bJ .quo (.c (.f (u8 n))) (.c (.f (u8 m)))=some (.c (.f (u8 (n / m)))):=by
 have:¬ ((m:Int)=0):=by omega
 have b:n / m≤n:=Nat.div_le_self n m;simp only [bJ,jJ,if_true,this,if_false];rw [show(n:Int).tdiv (m:Int)=((n / m:Nat):Int) from rfl]
 have:IntKind.u8.wrap ((n / m:Nat):Int)=((n / m:Nat):Int):=by
  revert b;generalize n / m=q;intro b;exact acm (by omega) (by omega)
 rw [this];rfl
def gO(J:ai)(cs:List C)(c:Nat):Prop:=
 (c=0∧cs=[.f (fi 2),.sl 2 0 2 2 0 1,.f (fi (-1)),.f .ay]∧∃ b,J[2]?=some (.box [.f (fi 7),.f (fi 6)] b)) ∨
 ∃ k:Nat,k<2∧c=k+1∧cs=[.f (fi 5),.sl 4 0 2 2 0 1,.f (fi 1),.sl 5 0 1 1 0 3]∧(∃ b,J[4]?=some (.box [.f (fi 7),.f (fi 8)] b))∧∃ b,J[5]?=some (.box [.f (fi 2),.f (fi k),.f (.bool true)] b)
section
variable{J J':ai}{cs:List C}{c:Nat}{s h:Int}{ct cy ct' cy':C}
theorem gO.yj(hc:gO J cs c)(m:∀(i:Nat) (l:List C) (q:Nat),J[i]?=some (.box l q)→(i=2∨i=4∨i=5)→∃ b,J'[i]?=some (.box l b)):gO J' cs c:=by
 rcases hc with⟨d,g,q,j⟩ | ⟨k,s,d,g,⟨v,j⟩,x,u⟩
 ·exact .inl ⟨d,g,m _ _ _ j (by omega)⟩
 ·exact .inr ⟨k,s,d,g,m _ _ _ j (by omega),m _ _ _ u (by omega)⟩
theorem gO.bN(hc:gO J cs c)(d:∀ i y,J[i]?=some y→(i=2∨i=4∨i=5)→J'[i]?=some y):gO J' cs c:=hc.yj fun i l b h hi=>⟨b,d i _ h hi⟩
theorem gO.four(hc:gO J cs c):∃ a b d e,cs=[a,b,d,e]:=by
 rcases hc with⟨-,rfl,-⟩ | ⟨k,-,-,rfl,-,-⟩<;>exact⟨_,_,_,_,rfl⟩
theorem gO.lt(hc:gO J cs c):c<3:=by
 rcases hc with⟨rfl,-⟩ | ⟨k,b,rfl,-⟩<;>omega
theorem gO.ex(hc:gO J cs c):aU (cW 64 J) cs=some (fI c):=by
 rcases hc with⟨rfl,rfl,l,b⟩ | ⟨k,m,rfl,rfl,⟨g,b⟩,j,d⟩
 ·simp [aU,iV,b,fI]
 ·simp [aU,iV,b,d,fI]
abbrev np(cs:List C)(s:Int)(ct:C)(h:Int)(cy:C):cU:=.box (cs++[.f (fi s),ct,.f (fi h),cy]) 0
theorem arJ(j:gO J cs c)(g:J[3]?=some (np cs s ct h cy)):aQ J none (.c (.ptr 3 5 0))=some (.c ct):=by
 obtain⟨a,b,d,e,rfl⟩:=j.four;simp [aQ,az,g,aF]
theorem aiD(j:gO J cs c)(g:J[3]?=some (np cs s ct h cy)):aQ J none (.c (.ptr 3 7 0))=some (.c cy):=by
 obtain⟨a,b,d,e,rfl⟩:=j.four;simp [aQ,az,g,aF]
theorem Ha(j:gO J cs c)(g:J[3]?=some (np cs s ct h cy)):aQ J (some 8) (.c (.ptr 3 0 0))=some (.a (cs++[.f (fi s),ct,.f (fi h),cy])):=by
 obtain⟨a,b,d,e,rfl⟩:=j.four;simp [aQ,az,g,aF]
theorem arL(j:gO J cs c)(g:J[3]?=some (np cs s ct h cy)):df J (.ptr 3 5 0) [ct']=some (J.set 3 (np cs s ct' h cy)):=by
 obtain⟨a,b,d,e,rfl⟩:=j.four;simp [df,g,over];rfl
theorem arK{g:Int}(l:gO J cs c)(j:J[3]?=some (np cs s ct h cy)):df J (.ptr 3 6 0) [.f (fi g)]=some (J.set 3 (np cs s ct g cy)):=by
 obtain⟨a,b,d,e,rfl⟩:=l.four;simp [df,j,over];rfl
theorem aiE(j:gO J cs c)(g:J[3]?=some (np cs s ct h cy)):df J (.ptr 3 7 0) [cy']=some (J.set 3 (np cs s ct h cy')):=by
 obtain⟨a,b,d,e,rfl⟩:=j.four;simp [df,g,over];rfl
end
structure TrP(tr:List bD)(at_:Int):Prop where
 tl:tr.length≤3
 lo:0≤at_∧at_≤7260*tr.length
 tb:∀ x ∈ tr,0≤x.at_∧x.at_≤at_∧-1080≤x.off∧x.off≤1080
 ts:∀(i:Nat) x y,tr[i]?=some x→tr[i+1]?=some y→x.at_+2160≤y.at_
theorem TrP.nil:TrP [] 0:=⟨by simp,by simp,by simp,by simp⟩
theorem TrP.app{tr:List bD}{at_:Int}(h:TrP tr at_)(v:tr.length≤2){n m:Nat}(z:n<256):TrP (tr++[⟨at_+2160+20*n,lX m⟩]) (at_+2160+20*n):=by
 have u:=kv m;have q:=h.lo;refine⟨by simp;omega,by simp;omega,fun x d=>?_,fun i x y d hy=>?_⟩
 ·rcases av1.1 d with d | d
  ·have:=h.tb x d;omega
  ·simp at d;subst d;simp only;omega
 ·rw [List.getElem?_append]at d hy;split at hy
  ·rename_i j;rw [if_pos (by omega)]at d
   exact h.ts i x y d hy
  ·rename_i j
   have hi:i+1=tr.length:=by
    have:=b hy;simp at this;omega
   rw [if_pos (by omega)]at d
   have s:=h.tb x (List.mem_of_getElem? d);rw [←hi]at hy;simp at hy;subst hy;simp only;omega
 where b {g:Type} {l:List g} {i:Nat} {x:g} (h:l[i]?=some x):i<l.length:=(BY.1 h).1
end
section
abbrev i8v(n:Int):V:=.c (.f (.int .i8 n))
theorem kY{n k:Int}(z:-128≤n∧n≤127)(y:1≤k∧k≤1000):∃ m,0≤m∧m<k∧Km.Pure tab.get xw [i8v n,vi k]=Eq (vi m):=by
 obtain⟨g,⟨m,q,s,rfl⟩,v⟩:∃ g,(∃ m,0≤m∧m<k∧g=vi m)∧Km.Pure tab.get xw [i8v n,vi k] g:=by
  refine ca anK rfl fun Q l=>?_
  refine ae ?_;simp;have x:IntKind.i64.wrap n=n:=wrap64 (by omega) (by omega)
  have hr:bJ .rem (vi n) (vi k)=some (vi (n.tmod k)):=ns (by omega)
  have u:-k<n.tmod k∧n.tmod k<k:=by
   rcases Int.le_total 0 n with h | h
   ·rw [awy h];have:=awd n (show k≠0 by omega)
    have:=awe n (show 0<k by omega)
    omega
   ·have:n = -(-n):=by omega
    rw [this,Int.neg_tmod,awy (by omega)]
    have:=awd (-n) (show k≠0 by omega)
    have:=awe (-n) (show 0<k by omega)
    omega
  refine ae ?_;simp [x,hr];obtain⟨r,d⟩:∃ r,r=n.tmod k:=⟨_,rfl⟩;rw [←d]at u ⊢;refine ag (ae ?_);simp;by_cases j:r<0
  ·have b:unV .neg (vi r)=some (vi (-r)):=by
    show some (V.c (.f (.int .i64 (IntKind.i64.wrap (0-r)))))=_
    rw [wrap64 (by omega) (by omega),Int.zero_sub]
   refine aj (by simp [j]) (ae ?_)
   simp [b];exact aA (l _ _ _ ⟨-r,by omega,by omega,rfl⟩ (by simp))
  ·refine aY (by simp [j]) ?_
   refine ae ?_;simp;exact aA (l _ _ _ ⟨r,by omega,by omega,rfl⟩ (by simp))
 exact⟨m,q,s,v.eq⟩
theorem ye(l:List Int)(v:Int):ints (l++[v])=ints l++[[fi v]]:=by simp [ints]
structure uf(lo x:Int)(zero:Bool)(li:List Int):Prop where
 pw:li.Pairwise (· < ·)
 bd:∀ v ∈ li,lo≤v∧v<x∧(zero=false→v≠0)
theorem uf.snoc{lo x:Int}{zero:Bool}{li:List Int}(h:uf lo x zero li)(l:lo≤x)(m:zero=false→x≠0):uf lo (x+1) zero (li++[x]):=by
 refine⟨awA.2 ⟨h.pw,awo _ _,fun a j b g=>?_⟩,fun v d=>?_⟩
 ·simp at g;subst g;exact(h.bd a j).2.1
 ·rcases av1.1 d with d | d
  ·have:=h.bd v d;exact⟨this.1,by omega,this.2.2⟩
  ·simp at d;subst d;exact⟨l,by omega,m⟩
theorem uf.skip{lo x:Int}{zero:Bool}{li:List Int}(h:uf lo x zero li):uf lo (x+1) zero li:=⟨h.pw,fun v b=>by have:=h.bd v b;exact⟨this.1,by omega,this.2.2⟩⟩
theorem abL{lo:Int}:∀ {n:Nat} {li:List Int},li.Pairwise (· < ·)→(∀ v ∈ li,lo≤v∧v<lo+n)→li.length≤n
 | 0,li,_,b=>by
  cases li with
  | nil=>exact aft _
  | cons v li=>have:=b v avQ;omega
 | n+1,li,g,b=>by
  rcases List.eq_nil_or_concat li with rfl | ⟨l,v,rfl⟩
  ·simp
  ·rw [List.concat_eq_append]at g b ⊢;have d:=awA.1 g;have s:=b v (by simp)
   have:=abL (lo:=lo) (n:=n) (li:=l) d.1 fun w j=>by
    have m:=b w (List.mem_append_left _ j);have q:=d.2.2 w j v (by simp)
    omega
   simp;omega
set_option maxHeartbeats 1000000 in
theorem lq(g:Tg)(l:List Nat)(d9:l.length≤9223372036854775807)(c9:∀ n ∈ l,n<256){lo hi:Int}(h1:-1000≤lo)(h2:lo≤hi)(h3:hi≤1000)(d:Bool)(hz:d=false→hi≠0) :
  ∃ g' li,Ny li lo hi d∧li.length≤(hi-lo+1).toNat∧Km.Pure tab.get lK [.c (.f (sl g (bM l))),vi lo,vi hi,vb d]=Eq (.c (.f (sl g' (ints li)))):=by
 obtain⟨rr,⟨g',li,hr,hl,rfl⟩,hp⟩:∃ rr,(∃ g' li,Ny li lo hi d∧li.length≤(hi-lo+1).toNat∧rr=.c (.f (sl g' (ints li))))∧Km.Pure tab.get lK [.c (.f (sl g (bM l))),vi lo,vi hi,vb d] rr:=by
  refine ca anO rfl fun Q hQ=>?_
  refine ae ?_;simp;refine ae ?_;simp;refine ag (ae ?_);simp;refine av ?_
  refine bw (fun n s=>∃(x:Int) (li:List Int) (c:C) (t:T) (J:ai),s=⟨t,[],J⟩∧lo≤x∧x≤hi+1∧n=(hi+1-x).toNat∧uf lo x d li∧LR J c 1 (ints li)∧t.g 0=.c (.f (sl g (bM l)))∧t.g 1=vi lo∧t.g 2=vi hi∧t.g 3=vb d∧t.g 9=.c c∧t.g 10=vi x) (hi+1-lo).toNat
   ⟨lo,[],.f .es,_,[],rfl,awQ _,by omega,rfl,⟨List.Pairwise.nil,by simp⟩,.inl ⟨rfl,.inr rfl⟩,by simp,by simp,by simp,by simp,by simp,by simp⟩ ?_
  rintro n s ⟨x,li,c,t,J,rfl,d6,d_,rfl,Y,M,u,B,y,A,m,g10⟩ ih;have d8:li.length≤(x-lo).toNat:=abL (lo:=lo) Y.pw fun v X=>by have:=Y.bd v X;omega
  refine ag (ae ?_);simp [g10,y];by_cases hx:x≤hi
  case neg=>
   refine ah (by simp [hx]) ?_
   refine aT (k':=[.code oR]) rfl ?_;have c_:=M.len
   have Z:∀(t:T) (J:ai) (c:C) (li:List Int),Ny li lo hi d→li.length≤(hi-lo+1).toNat→LR J c 1 (ints li)→t.g 9=.c c→WP tab.get lK none [.code Bs] ⟨t,[],J⟩ Q:=by
    intro t J c li hr hl M m;obtain⟨g',hx⟩:=M.ex (eB _) 63;have d5:cW deep J c=some (sl g' (ints li)):=hx;refine ae ?_;simp [m];refine aA (hQ _ _ _ ⟨g',li,hr,hl,rfl⟩ ⟨rfl,.c c,?_,?_⟩)
    ·simp [Km.results,bG,aU]
    ·simp [iN,bX,d5]
   refine ag (ae ?_);simp [m,c_];by_cases h0:li=[]
   ·subst h0;obtain⟨F,z⟩:∃ F:ai,F=J++[.box ([fi hi].map .f) 0]:=⟨_,rfl⟩;have S:LR F c 1 (ints []):=by rw [z];exact M.push _
    have U:F[J.length]?=some (.box ([fi hi].map .f) 0):=by rw [z];simp
    obtain⟨c',H',E,O,b7,b9⟩:=S.app (eB _) (by decide) (row:=[fi hi]) rfl (bytes:=8) (by decide) U
    simp only [anc,avO]at z;refine aj (by simp) (ab (.inl rfl) ?_)
    simp [m,y];rw [←z];simp [E];have hr:Ny [hi] lo hi d:=⟨by simp,awo _ _,fun v X=>by simp at X;subst X;exact⟨h2,awQ _,hz⟩⟩
    exact Z _ _ c' [hi] hr (by simp;omega) (by simpa [ints]using O) (by simp)
   ·refine aY (by simp [h0]) ?_
    have hr:Ny li lo hi d:=⟨h0,Y.pw,fun v X=>by have:=Y.bd v X;exact⟨this.1,by omega,this.2.2⟩⟩
    exact Z _ _ c li hr (by omega) M (by simp [m])
  refine aj (by simp [hx]) (aB ?_)
  refine ag (av (ae ?_));simp;have a8:IntKind.i64.wrap (x+1)=x+1:=wrap64 (by omega) (by omega)
  refine ag (ae ?_);simp;obtain⟨N,hN⟩:∃ N,N=min l.length 4:=⟨_,rfl⟩
  refine bZ N (fun i t K=>K=J∧t.g 0=.c (.f (sl g (bM l)))∧t.g 1=vi lo∧t.g 2=vi hi∧t.g 3=vb d∧t.g 9=.c c∧t.g 10=vi x∧∃ b,t.g 11=vb b) (by omega) (by decide) (by simp)
   ⟨rfl,by simp [u],by simp [B],by simp [y],by simp [A],by simp [m],by simp [g10],false,by simp⟩ ?_ ?_ ?_
  ·rintro i t K L b_ ⟨rfl,u,B,y,A,m,g10,b,j⟩ H hn;by_cases c1:(i:Int)<l.length
   ·simp [H,u,c1];exact hn _ ⟨rfl,by simp [u],by simp [B],by simp [y],by simp [A],by simp [m],by simp [g10],b,by simp [j]⟩ (by simp [H]) (by simp;omega)
   ·simp [H,u,c1];exact hn _ ⟨rfl,by simp [u],by simp [B],by simp [y],by simp [A],by simp [m],by simp [g10],b,by simp [j]⟩ (by simp [H]) (by simp;omega)
  ·rintro i t K b_ ⟨rfl,u,B,y,A,m,g10,b,j⟩ H nx;have W:i<l.length:=by omega
   have X:=c9 _ (IT W);refine av (ab (.inl rfl) ?_);cases b
   ·have w1:IntKind.i64.wrap (l[i]:Int)=l[i]:=wrap64 (by omega) (by omega)
    have w2:IntKind.i64.wrap (hi-lo)=hi-lo:=wrap64 (by omega) (by omega)
    have w3:IntKind.i64.wrap (hi-lo+1)=hi-lo+1:=wrap64 (by omega) (by omega)
    have w4:=jR (a:=(l[i]:Int)) (b:=hi-lo+1) (by omega) (by omega)
    simp [j,B,u,H,ke W,iZ W,w1,y,w2,w3,w4,g10];refine al (nx _ _ ⟨rfl,by simp [u],by simp [B],by simp [y],by simp [A],by simp [m],by simp [g10],_,by simp;rfl⟩ (by simp [H]))
   ·simp [j];refine al (nx _ _ ⟨rfl,by simp [u],by simp [B],by simp [y],by simp [A],by simp [m],by simp [g10],true,by simp⟩ (by simp [H]))
  ·rintro t K ⟨rfl,u,B,y,A,m,g10,b,j⟩ H
   have no:∀ t:T,t.g 0=.c (.f (sl g (bM l)))→t.g 1=vi lo→t.g 2=vi hi→t.g 3=vb d→t.g 9=.c c→t.g 10=vi x→t.g 54=vb false →
     WP tab.get lK none [.code tM,.inBlock 1,.code tN,.inLoop zg,.inBlock 0,.code oR] ⟨t,[],K⟩ Q:=by
    intro t u B y A m g10 I;refine ah I (aB (al (ab (.inl rfl) ?_)));simp [g10,a8];exact ih (hi+1-(x+1)).toNat _ (by omega) ⟨x+1,li,c,_,_,rfl,by omega,by omega,rfl,Y.skip,M,by simp [u],by simp [B],by simp [y],by simp [A],by simp [m],by simp⟩
   have a_:(d=false→x≠0)→∀ t:T,t.g 0=.c (.f (sl g (bM l)))→t.g 1=vi lo→t.g 2=vi hi→t.g 3=vb d→t.g 9=.c c→t.g 10=vi x→t.g 54=vb true →
     WP tab.get lK none [.code tM,.inBlock 1,.code tN,.inLoop zg,.inBlock 0,.code oR] ⟨t,[],K⟩ Q:=by
    intro d7 t u B y A m g10 I;obtain⟨F,z⟩:∃ F:ai,F=K++[.box ([fi x].map .f) 0]:=⟨_,rfl⟩;have S:LR F c 1 (ints li):=by rw [z];exact M.push _
    have U:F[K.length]?=some (.box ([fi x].map .f) 0):=by rw [z];simp
    obtain⟨c',H',E,O,b7,b9⟩:=S.app (eB _) (by decide) (row:=[fi x]) rfl (bytes:=8) (cd (by simp;omega) (by decide)) U
    simp only [anc,avO]at z;refine aj I (ab (.inl rfl) ?_);simp [m,g10];rw [←z];simp [E];refine al (ab (.inl rfl) ?_);simp [g10,a8];exact ih (hi+1-(x+1)).toNat _ (by omega) ⟨x+1,li++[x],c',_,_,rfl,by omega,by omega,rfl,Y.snoc d6 d7,by rw [ye];exact O,by simp [u],by simp [B],by simp [y],by simp [A],by simp,by simp⟩
   refine ae ?_;cases b
   ·simp [j];exact no _ (by simp [u]) (by simp [B]) (by simp [y]) (by simp [A]) (by simp [m]) (by simp [g10]) (by simp)
   ·by_cases q:x=0
    ·cases d
     ·simp [j,g10,q,A];exact no _ (by simp [u]) (by simp [B]) (by simp [y]) (by simp [A]) (by simp [m]) (by simp [g10,q]) (by simp)
     ·simp [j,g10,q,A];exact a_ (fun e=>by cases e) _ (by simp [u]) (by simp [B]) (by simp [y]) (by simp [A]) (by simp [m]) (by simp [g10,q]) (by simp)
    ·simp [j,g10,q];exact a_ (fun _=>q) _ (by simp [u]) (by simp [B]) (by simp [y]) (by simp [A]) (by simp [m]) (by simp [g10]) (by simp)
 exact⟨g',li,hr,hl,hp.eq⟩
end
section
def mS:List C:=[.f (fi 0),.f (fi 0),.f (fi 0),.f (fi 0),.f (fi 0),.f (fi 0),.f .ay,.f (.str ⟨#[]⟩)]
theorem wG(l:List aK)(x:aK):aE (l++[x])=aE l++[x.row]:=by simp [aE]
theorem yq{H:ai}{b d:Nat}{x:aK}(g:H[b]?=some (.box (x.row.map .f) d)) :
  aQ H none (.c (.ptr b 0 0))=some (vi x.d.k)∧aQ H none (.c (.ptr b 1 0))=some (vi x.d.dM)∧aQ H none (.c (.ptr b 2 0))=some (vi x.d.l)∧aQ H none (.c (.ptr b 3 0))=some (vi x.d.r) ∧
  aQ H none (.c (.ptr b 4 0))=some (vi x.d.n)∧aQ H none (.c (.ptr b 5 0))=some (vi x.d.m)∧aQ H none (.c (.ptr b 6 0))=some (.c (.f (sl x.tg (ints x.d.li))))∧aQ H (some 8) (.c (.ptr b 0 0))=some (.a (x.row.map .f)):=by
 refine⟨?_,?_,?_,?_,?_,?_,?_,?_⟩<;>simp [aQ,g,az,aF,aK.row]
theorem iU(x:aK)(e_:x.d.li.length≤61):∃ tg,Km.Pure tab.get sC [.a (x.row.map .f)]=Eq (.a ((aK.row ⟨x.d,tg⟩).map .f)):=by
 obtain⟨rr,⟨tg,rfl⟩,hp⟩:∃ rr,(∃ tg,rr=.a ((aK.row ⟨x.d,tg⟩).map .f))∧Km.Pure tab.get sC [.a (x.row.map .f)] rr:=by
  refine ca anH rfl fun Q hQ=>?_
  refine ae ?_;simp;obtain⟨H,F⟩:∃ H:ai,H=[.box (x.row.map .f) 0,.box mS 0]:=⟨_,rfl⟩;have b0:H[0]?=some (.box (x.row.map .f) 0):=by rw [F];rfl
  have b1:H[1]?=some (.box mS 0):=by rw [F];rfl
  have hl:H.length=2:=by rw [F];rfl
  simp only [mS]at F;rw [←F];clear F;refine ae ?_;simp;refine ag (ae ?_);simp
  refine bZ x.d.li.length (fun j t K=>∃ c,t.g 1=.c (.ptr 0 0 0)∧t.g 2=.c (.ptr 1 0 0)∧t.g 3=.c c∧LR K c 1 (ints (x.d.li.take j))∧Kb H K (.f .es)∧(∀ b,aL c=some b→2≤b)) (by omega) (by decide) (by simp)
   ⟨.f .es,by simp,by simp,by simp,.inl ⟨rfl,.inr rfl⟩,Kb.refl _ _,by simp [aL]⟩ ?_ ?_ ?_
  ·rintro j t K L hj ⟨c,z,E,N,q,d,l⟩ I J;obtain⟨-,-,-,-,-,-,Y,-⟩:=yq (d.2 0 _ b0 (by simp [aL]))
   simp [I,z,Y,-an];exact J _ ⟨c,by simp [z],by simp [E],by simp [N],q,d,l⟩ (by simp [I]) (by simp)
  ·rintro j t K hj ⟨c,z,E,N,q,d,l⟩ I nx;obtain⟨-,-,-,-,-,-,Y,-⟩:=yq (d.2 0 _ b0 (by simp [aL]))
   have c_:∀ H,aG H 1 none (.c (.f (sl x.tg (ints x.d.li)))) (vi j)=some (.c (.f (.fp (ints x.d.li).flatten j))):=fun H=>by
    have:=cT (H:=H) (g:=x.tg) (rows:=ints x.d.li) (sz:=1) (k:=.i64) (i:=(j:Int)) (by omega) (by simp;omega)
    simpa using this
   obtain⟨v,hv⟩:∃ v,v=x.d.li[j]:=⟨_,rfl⟩;have d5:aQ K none (.c (.f (.fp (ints x.d.li).flatten j)))=some (vi v):=by rw [hv];exact fQ hj
   obtain⟨M,m⟩:∃ M:ai,M=K++[.box ([fi v].map .f) 0]:=⟨_,rfl⟩;have a_:LR M c 1 (ints (x.d.li.take j)):=by rw [m];exact q.push _
   have b9:M[K.length]?=some (.box ([fi v].map .f) 0):=by rw [m];simp
   obtain⟨c',H',S,a8,O,b_⟩:=a_.app (eB _) (by decide) (row:=[fi v]) rfl (bytes:=8) (cd (by simp;omega) (by decide)) b9
   simp only [anc,avO]at m;refine av (ab (.inl rfl) ?_);simp [z,N,Y,-an,I,c_,d5];rw [←m];simp [S]
   have Z:Kb H M (.f .es):=by
    refine⟨by have:=d.1;rw [m];simp;omega,fun i y U J=>?_⟩
    rw [m,AT (ak (d.2 i y U J))];exact d.2 i y U J
   refine al ?_;refine nx _ _ ⟨c',by simp [z],by simp [E],by simp,?_,?_,?_⟩ (by simp [I])
   ·rw [avN hj,←hv,ye];exact a8
   ·refine⟨Nat.le_trans Z.1 O.1,fun i y U J=>O.2 i y (Z.2 i y U J) fun e=>?_⟩
    have:=l i e;have:=ak U;omega
   ·intro b hb;rcases b_ with e | e
    ·exact l b (by rw [←e];exact hb)
    ·rw [hb]at e;cases e;have:=Z.1;omega
  ·rintro t K ⟨c,z,E,N,q,d,l⟩ I;rw [awc]at q;have k0:=d.2 0 _ b0 (by simp [aL])
   have k1:=d.2 1 _ b1 (by simp [aL])
   have d9:df K (.ptr 0 6 0) [c]=some (K.set 0 (.box (x.dR c) 0)):=by simp [df,k0,aK.row,aK.dR,over]
   obtain⟨u,s⟩:∃ u:ai,u=K.set 0 (.box (x.dR c) 0):=⟨_,rfl⟩;have d7:u[0]?=some (.box (x.dR c) 0):=by rw [s];exact OF (ak k0)
   have W:u[1]?=some (.box mS 0):=by rw [s,By (by decide)];exact k1
   have e8:aQ u (some 8) (.c (.ptr 0 0 0))=some (.a (x.dR c)):=by simp [aQ,d7,az,aF,aK.dR]
   have d_:df u (.ptr 1 0 0) (x.dR c)=some (u.set 1 (.box (x.dR c) 0)):=by simp [df,W,over,mS,aK.dR]
   obtain⟨B,A⟩:∃ B:ai,B=u.set 1 (.box (x.dR c) 0):=⟨_,rfl⟩;have d8:B[1]?=some (.box (x.dR c) 0):=by rw [A];exact OF (ak W)
   have b7:LR B c 1 (ints x.d.li):=by
    rw [A,s];exact(q.set (fun e=>by have:=l 0 e;omega) _).set (fun e=>by have:=l 1 e;omega) _
   have c9:(x.dR c).length=8:=rfl;obtain⟨g',hx⟩:=b7.ex (eB _) 63;have d6:cW deep B c=some (sl g' (ints x.d.li)):=hx;have X:aQ B (some 8) (.c (.ptr 1 0 0))=some (.a (x.dR c)):=by simp [aQ,d8,az,aF,aK.dR]
   refine ae ?_;simp [z,N,d9,-ba];rw [←s];refine ae ?_;simp [z,E,e8,d_,-ba,-an,c9];rw [←A];refine aA (hQ _ _ _ ⟨g',rfl⟩ ⟨rfl,.a (x.dR c),?_,?_⟩)
   ·simp [Km.results,bG,aU,E,X,-an]
   ·simp [iN,bX,aU,aK.dR,d6,aK.row]
 exact⟨tg,hp.eq⟩
def Dj(d n:Nat):List Int:=(List.range n).map fun k:Nat=>((d+k:Nat):Int)
@[simp] theorem asa (d n:Nat):(Dj d n).length=n:=by simp [Dj]
theorem ahO{d n k:Nat}(h:k<n):(Dj d n)[k]'(by simpa using h)=((d+k:Nat):Int):=by simp [Dj]
theorem abF(d n:Nat):Dj d (n+1)=Dj d n++[((d+n:Nat):Int)]:=by simp [Dj,List.range_succ]
theorem HS{H:ai}{g:Tg}{d n:Nat}{k:Int}(b:0≤k)(m:k<n)(q:n≤1000):aG H 1 none (.c (.f (sl g (ints (Dj d n))))) (vi k)=some (.c (.f (.fp (ints (Dj d n)).flatten k.toNat))) ∧
  aQ H none (.c (.f (.fp (ints (Dj d n)).flatten k.toNat)))=some (vi (k+d)):=by
 constructor
 ·have:=cT (H:=H) (g:=g) (rows:=ints (Dj d n)) (sz:=1) (k:=.i64) (i:=k) (by omega) (by simp;omega)
  simpa using this
 ·have:=fQ (j:=k.toNat) (l:=Dj d n) (by simp;omega) (H:=H)
  rw [ahO (by omega)]at this
  rw [this]
  congr 4
  omega
theorem Oq(x:aK){i:Nat}(L:kJ i x.d)(hi:i≤100)(g:Tg)(d:Nat) :
  ∃ tg,Km.Pure tab.get xx [.a (x.row.map .f),.c (.f (sl g (ints (Dj d (i+1)))))]=Eq (.a ((aK.row ⟨x.d.shift d,tg⟩).map .f)):=by
 obtain⟨W,⟨tg,rfl⟩,hp⟩:∃ W,(∃ tg,W=.a ((aK.row ⟨x.d.shift d,tg⟩).map .f))∧Km.Pure tab.get xx [.a (x.row.map .f),.c (.f (sl g (ints (Dj d (i+1)))))] W:=by
  obtain⟨tg,j⟩:=iU x L.ok.1;have u:=mX L.ok;have J:=nB x.d.k;obtain⟨⟨k,b,l,r,n,m,li⟩,a8⟩:=x;simp only at j u J;have v:=L.l1;have z:=L.r2;simp only at v z;refine ca anL rfl fun Q O=>?_
  have X:∀ tg,aK.row ⟨bp.shift d ⟨k,b,l,r,n,m,li⟩,tg⟩=aK.row ⟨⟨k,b,if 1≤dw k then l+d else l,if dw k=2 then r+d else r,n,m,li⟩,tg⟩:=fun tg=>rfl
  simp only [X]at O;refine ae ?_;simp [aK.row];refine ae ?_;simp only [aK.row,anc,avO]at j;simp [j];obtain⟨y,hy⟩:∃ y:aK,y=⟨⟨k,b,l,r,n,m,li⟩,tg⟩:=⟨_,rfl⟩;refine ae ?_;simp [u];obtain⟨o,ho⟩:∃ o,o=dw k:=⟨_,rfl⟩;rw [←ho]at O v z J ⊢
  have E:∀(t:T) (q r':Int) ,t.g 2=.c (.ptr 0 0 0)→t.g 4=.c (.ptr 1 0 0)→q=(if 1≤o then l+d else l)→r'=(if o=2 then r+d else r) →
    WP tab.get xx none [.code Bk] ⟨t,[],[.box ((aK.row ⟨⟨k,b,q,r',n,m,li⟩,tg⟩).map .f) 0,.box mS 0]⟩ Q:=by
   intro t q r' F I M hr;refine ae ?_;simp [F,I,aK.row,mS];refine aA (O _ _ _ ⟨tg,rfl⟩ ⟨rfl,.a ((aK.row ⟨⟨k,b,q,r',n,m,li⟩,tg⟩).map .f),?_,?_⟩)
   ·simp [Km.results,bG,aU,I,aK.row,aF]
   ·simp [iN,bX,aK.row,aU,M,hr]
  have s:∀(t:T) (q:Int) ,t.g 1=.c (.f (sl g (ints (Dj d (i+1)))))→t.g 2=.c (.ptr 0 0 0)→t.g 4=.c (.ptr 1 0 0)→t.g 5=vi o→q=(if 1≤o then l+d else l) →
    WP tab.get xx none [.code Bj] ⟨t,[],[.box ((aK.row ⟨⟨k,b,q,r,n,m,li⟩,tg⟩).map .f) 0,.box mS 0]⟩ Q:=by
   intro t q Y F I Z M;refine ag (ae ?_);simp [Z];by_cases K:o=2
   ·have U:=z K;obtain⟨A,B⟩:=HS (H:=[.box ((aK.row ⟨⟨k,b,q,r,n,m,li⟩,tg⟩).map .f) 0,.box mS 0]) (g:=g) (d:=d) (n:=i+1) (k:=r) U.1 (by omega) (by omega)
    simp only [aK.row,anc,avO]at A B;refine aj (by simp [K]) (ab (.inl rfl) ?_)
    simp [Y,F,aK.row,A,B];exact E _ q (r+d) (by simp [F]) (by simp [I]) M (by rw [if_pos K])
   ·refine ah (by simp;omega) (aB ?_)
    exact E _ q r (by simp [F]) (by simp [I]) M (by rw [if_neg K])
  refine ag (ae ?_);simp;by_cases N:1≤o
  ·have S:=v N;obtain⟨A,B⟩:=HS (H:=[.box ((aK.row ⟨⟨k,b,l,r,n,m,li⟩,tg⟩).map .f) 0,.box mS 0]) (g:=g) (d:=d) (n:=i+1) (k:=l) S.1 (by omega) (by omega)
   simp only [aK.row,mS,anc,avO]at A B;refine aj (by simp;omega) (ab (.inl rfl) ?_)
   simp [aK.row,A,B];exact s _ (l+d) (by simp) (by simp) (by simp) (by simp) (by rw [if_pos N])
  ·refine ah (by simp;omega) (aB ?_)
   exact s _ l (by simp) (by simp) (by simp) (by simp) (by rw [if_neg N])
 exact⟨tg,hp.eq⟩
end
section
def LiB(r:List aK):Prop:=∀ x ∈ r,x.d.li.length≤61
theorem mU{J:ai}{c:C}{l:List aK}(u:LR J c 8 (aE l))(v:l.length≤1000)(x:aK) :
  ∃ b H',bz (J++[.box (x.row.map .f) 0]) 8 88 (.c c) (.c (.sl J.length 0 1 1 0 8))=some (.c b,H')∧LR H' b 8 (aE (l++[x]))∧Kb (J++[.box (x.row.map .f) 0]) H' c∧(aL b=aL c∨aL b=some (J.length+1)):=by
 have q:=u.push [.box (x.row.map .f) 0];have s:(J++[.box (x.row.map .f) 0])[J.length]?=some (.box (x.row.map .f) 0):=by simp
 obtain⟨b,H',d,m,j,g⟩:=q.app (ea _) (by decide) (row:=x.row) rfl (bytes:=88) (cd (by simp;omega) (by decide)) s
 rw [List.length_append,List.length_singleton]at g;exact⟨b,H',d,by rw [wG];exact m,j,g⟩
theorem acg(y:aK)(hy:y.d.li.length≤61)(g:Tg){r:List aK}(hr:r.length≤60)(hb:LiB r) :
  ∃ g' E,dS E=dS r++[⟨y.d.k,y.d.dM,(r.length:Int)-1,y.d.r,y.d.n,y.d.m,y.d.li⟩]∧Km.Pure tab.get Hi [.a (y.row.map .f),.c (.f (sl g (aE r)))]=Eq (.c (.f (sl g' (aE E)))):=by
 obtain⟨rr,⟨g',E,d,rfl⟩,hp⟩:∃ rr,(∃ g' E,dS E=dS r++[⟨y.d.k,y.d.dM,(r.length:Int)-1,y.d.r,y.d.n,y.d.m,y.d.li⟩]∧rr=.c (.f (sl g' (aE E))))∧Km.Pure tab.get Hi [.a (y.row.map .f),.c (.f (sl g (aE r)))] rr:=by
  refine ca anF rfl fun Q hQ=>?_
  refine ae ?_;simp;obtain⟨H,W⟩:∃ H:ai,H=[.box (y.row.map .f) 0]:=⟨_,rfl⟩;have b0:H[0]?=some (.box (y.row.map .f) 0):=by rw [W];rfl
  have hl:H.length=1:=by rw [W];rfl
  rw [←W];clear W;refine ae ?_;simp;refine ag (ae ?_);simp
  refine bZ r.length (fun j t K=>∃ c l,t.g 1=.c (.f (sl g (aE r)))∧t.g 2=.c (.ptr 0 0 0)∧t.g 5=.c c∧LR K c 8 (aE l)∧dS l=dS (r.take j)∧K[0]?=some (.box (y.row.map .f) 0)) (by omega) (by decide) (by simp)
   ⟨.f .es,[],by simp,by simp,by simp,.inl ⟨rfl,.inr rfl⟩,by simp,b0⟩ ?_ ?_ ?_
  ·rintro j t K L N ⟨c,l,u,F,J,b,d,b0⟩ I hn;simp [I,u];exact hn _ ⟨c,l,by simp [u],by simp [F],by simp [J],b,d,b0⟩ (by simp [I]) (by simp)
  ·rintro j t K N ⟨c,l,u,F,J,b,d,b0⟩ I nx;obtain⟨x,O⟩:∃ x,x=r[j]:=⟨_,rfl⟩;obtain⟨tg,q⟩:=iU x (by rw [O];exact hb _ (IT N))
   have Z:l.length=j:=by have:=congrArg List.length d;simp at this;omega
   obtain⟨U,H',m,z,M,Y⟩:=mU b (by omega) ⟨x.d,tg⟩
   have A:((aK.row ⟨x.d,tg⟩).map C.f).length=8:=rfl;refine av (ab (.inl rfl) ?_);simp [u,J,I,eo N (by omega),kV N,←O,q,A,m]
   refine al ?_;refine nx _ _ ⟨U,l++[⟨x.d,tg⟩],by simp [u],by simp [F],by simp,z,?_,?_⟩ (by simp [I])
   ·rw [avN N,←O];simp only [dS,awG,anc,avO]at d ⊢;rw [d]
   ·exact M.2 0 _ (by rw [AT (ak b0)];exact b0) (b.cB b0)
  ·rintro t K ⟨c,l,u,F,J,b,d,b0⟩ I;rw [awc]at d;have Z:l.length=r.length:=by have:=congrArg List.length d;simpa using this
   obtain⟨s,B⟩:∃ s:aK,s=⟨⟨y.d.k,y.d.dM,(r.length:Int)-1,y.d.r,y.d.n,y.d.m,y.d.li⟩,y.tg⟩:=⟨_,rfl⟩;have b7:df K (.ptr 0 2 0) [.f (fi ((r.length:Int)-1))]=some (K.set 0 (.box (s.row.map .f) 0)):=by simp [df,b0,over,aK.row,B]
   obtain⟨S,v⟩:∃ S:ai,S=K.set 0 (.box (s.row.map .f) 0):=⟨_,rfl⟩;have a_:S[0]?=some (.box (s.row.map .f) 0):=by rw [v];exact OF (ak b0)
   have X:LR S c 8 (aE l):=by rw [v];exact b.set (b.cB b0) _
   obtain⟨-,-,-,-,-,-,-,e8⟩:=yq a_;obtain⟨tg,q⟩:=iU s (by rw [B];exact hy)
   obtain⟨U,H',m,z,M,Y⟩:=mU X (by omega) ⟨s.d,tg⟩
   have A:((aK.row ⟨s.d,tg⟩).map C.f).length=8:=rfl;obtain⟨g',O⟩:=z.ex (ea _) 63;have a8:cW deep H' U=some (sl g' (aE (l++[⟨s.d,tg⟩]))):=O;refine ae ?_;simp [u,F,wrap64 (n:=(r.length:Int)-1) (by omega) (by omega),b7,-ba]
   rw [←v];refine ae ?_;simp [J,F,e8,-an,q,A,m];refine aA (hQ _ _ _ ⟨g',l++[⟨s.d,tg⟩],?_,rfl⟩ ⟨rfl,.c U,?_,?_⟩)
   ·simp only [dS,awG,anc,avO]at d ⊢;rw [d,B]
   ·simp [Km.results,bG,aU]
   ·simp [iN,bX,a8]
 exact⟨g',E,d,hp.eq⟩
end
section
section
variable{J:ai}{x:gQ}
theorem IL(h:J[0]?=some (.box (x.row.map .f) 0)):aQ J none (.c (.ptr 0 1 0))=some (.c (.f (sl x.gg (bM x.pH)))):=by simp [aQ,az,h,aF,gQ.row]
theorem IM(h:J[0]?=some (.box (x.row.map .f) 0)):aQ J none (.c (.ptr 0 2 0))=some (.c (.f (sl x.og (bM x.As)))):=by simp [aQ,az,h,aF,gQ.row]
theorem arq(h:J[0]?=some (.box (x.row.map .f) 0)):aQ J none (.c (.ptr 0 3 0))=some (.c (.f (u8 x.be))):=by simp [aQ,az,h,aF,gQ.row]
theorem Dw(h:J[0]?=some (.box (x.row.map .f) 0)):aQ J none (.c (.ptr 0 13 0))=some (vb x.rules):=by simp [aQ,az,h,aF,gQ.row]
theorem aui(h:J[0]?=some (.box (x.row.map .f) 0)){k:Nat}(b:k<2):aQ J (some 4) (.c (.ptr 0 (4+k*4) 0))=some (.a [.f (u8 (x.y k 0)),.f (u8 (x.y k 1)),.f (u8 (x.y k 2)),.f (u8 (x.y k 3))]):=by
 have:k=0∨k=1:=by omega
 rcases this with rfl | rfl<;>simp [aQ,az,h,aF,gQ.row]
end
theorem ee.arl{c:Nat}{s h:Int}{tr:List bD}{yr:List eg}{tg b yg d:Tg}{o:List bD}(k:ee ⟨c,s,tg,tr,h,yg,yr⟩ o):ee ⟨c,s,b,tr,h,d,yr⟩ o:=⟨k.c,k.st,k.tl,k.tb,k.ts,k.ho,k.y⟩
structure ZI(x:gQ)(cs:List C)(c:Nat)(s h:Int)(tr:List bD)(ct:C)(yr:List eg)(cy:C)(t:T)(J:ai):Prop where
 raw:J[0]?=some (.box (x.row.map .f) 0)
 res:J[1]?=some (.box [.f (fi 0),.f .ay,.f (fi 0),.f .ay,.f (fi 0),.f .ay,.f (fi 0),.f .ay] 0)
 dM:gO J cs c
 zb:J[3]?=some (np cs s ct h cy)
 lt:LR J ct 2 (aJ tr)
 ly:LR J cy 5 (bO yr)
 ne:∀ i,aL ct=some i→aL cy≠some i
 g1:t.g 1=.c (.ptr 0 0 0)
 g2:t.g 2=.c (.ptr 1 0 0)
 g3:t.g 3=.c (.ptr 3 0 0)
def rv(H:ai)(c:C)(sz:Nat)(rows:List (List FC)):Prop:=(rows=[]∧(c=.f .ay∨c=.f .es))∨(rows≠[]∧∃ b d g,c=.sl b 0 rows.length 0 d sz∧H[b]?=some (.bE sz (rows.flatten.map .f) g d .loc))
section
variable{H H':ai}{c:C}{sz:Nat}{rows:List (List FC)}
theorem rv.of(h:LR H c sz rows):rv H c sz rows:=by
 rcases h with h | ⟨h,b,d,g,j⟩
 ·exact .inl h
 ·exact .inr ⟨h,b,d,0,g,j⟩
theorem rv.exU(h:rv H c sz rows)(hg:bC sz rows):∃ g,∀(H':ai) (n:Nat),rv H' c sz rows→cW (n+1) H' c=some (sl g rows):=by
 by_cases hr:rows=[]
 ·rcases h with⟨rfl,rfl | rfl⟩ | ⟨h,_⟩
  ·exact⟨.nil,fun _ _ _=>rfl⟩
  ·exact⟨.es,fun _ _ _=>rfl⟩
  ·exact absurd hr h
 ·refine⟨.fs,fun H' n j=>?_⟩
  rcases j with⟨h,_⟩ | ⟨_,b,q,s,rfl,d⟩
  ·exact absurd h hr
  have m:rows.length*sz=rows.flatten.length:=(en hg).symm;simp only [iV,d];rw [if_pos ⟨trivial,trivial,by rw [av7,awn,m];exact aft _⟩,List.drop_zero,avS (by rw [av7];omega),rP]
  cases rows with
  | nil=>exact absurd rfl hr
  | cons x l=>simp [sl]
theorem rv.bN(h:rv H c sz rows)(v:∀(i s:Nat) (l:List C) (j g:Nat) (st:Km.Os),H[i]?=some (.bE s l j g st)→∃ d,H'[i]?=some (.bE s l d g st)):rv H' c sz rows:=by
 rcases h with h | ⟨h,b,g,j,m,q⟩
 ·exact .inl h
 ·obtain⟨d,u⟩:=v _ _ _ _ _ _ q;exact .inr ⟨h,b,g,d,m,u⟩
theorem rv.mk(h:rv H c sz rows):(∀(i:Nat) (l:List C) (d:Nat),H[i]?=some (.box l d)→(fZ deep c H)[i]?=some (.box l d))∧∀(i s:Nat) (l:List C) (d g:Nat) (st:Km.Os),H[i]?=some (.bE s l d g st)→∃ q,(fZ deep c H)[i]?=some (.bE s l q g st):=by
 rcases h with⟨_,rfl | rfl⟩ | ⟨h,b,g,d,rfl,j⟩
 ·exact⟨fun i l d h=>by simpa using h,fun i s l d g st h=>⟨d,by simpa using h⟩⟩
 ·exact⟨fun i l d h=>by simpa using h,fun i s l d g st h=>⟨d,by simpa using h⟩⟩
 ·have e:fZ deep (.sl b 0 rows.length 0 g sz) H=H.set b (.bE sz (rows.flatten.map .f) (Nat.max d (0+rows.length*sz)) g .loc):=by
   simp only [deep,yA,j];rw [kO];intro x u;have u:=awO (awJ u);obtain⟨m,_,rfl⟩:=av9.1 u;exact⟨_,rfl⟩
  rw [e];refine⟨fun i l d h=>?_,fun i s l d g st h=>?_⟩
  ·rw [By (by rintro rfl;rw [j]at h;cases h)];exact h
  ·by_cases e:b=i
   ·subst e;rw [j]at h;cases h;exact⟨_,OF (ak j)⟩
   ·rw [By e];exact⟨d,h⟩
end
theorem Gl{H:ai}{b l cp e sz g:Nat}{xs:List FC}(h:H[b]?=some (.box (xs.map .f) g)):fZ deep (.sl b 0 l cp e sz) H=H.set b (.box (xs.map .f) (Nat.max g (0+l*sz))):=by
 simp only [deep,yA,h];rw [kO];intro x d;have d:=awO (awJ d);obtain⟨m,_,rfl⟩:=av9.1 d;exact⟨_,rfl⟩
theorem gO.mk{H:ai}{cs:List C}{c:Nat}(hc:gO H cs c):gO (cs.foldl (fun H x=>fZ deep x H) H) cs c∧(∀ i y,H[i]?=some y→i≠2→i≠4→i≠5→(cs.foldl (fun H x=>fZ deep x H) H)[i]?=some y)∧(∀(i s:Nat) (l:List C) (g q:Nat) (st:Km.Os),H[i]?=some (.bE s l g q st)→∃ u,(cs.foldl (fun H x=>fZ deep x H) H)[i]?=some (.bE s l u q st)):=by
 rcases hc with⟨rfl,rfl,g,d⟩ | ⟨k,B,rfl,rfl,⟨v,d⟩,A,j⟩
 ·have e:=Gl (H:=H) (b:=2) (l:=2) (cp:=2) (e:=0) (sz:=1) (xs:=[fi 7,fi 6]) d;simp only [awF,List.foldl_nil,Ib,e];refine⟨.inl ⟨rfl,rfl,_,OF (ak d)⟩,fun i y hy j _ _=>by rw [By (Ne.symm j)];exact hy,fun i s l g q st h=>⟨g,?_⟩⟩
  rw [By (by rintro rfl;rw [d]at h;cases h)];exact h
 ·have e:=Gl (H:=H) (b:=4) (l:=2) (cp:=2) (e:=0) (sz:=1) (xs:=[fi 7,fi 8]) d;simp only [awF,List.foldl_nil,Ib,e];have m:(H.set 4 (.box ([fi 7,fi 8].map .f) (Nat.max v (0+2*1))))[5]?=some (.box ([fi 2,fi k,.bool true].map .f) A):=by rw [By (by decide)];exact j
  have z:=Gl (l:=1) (cp:=1) (e:=0) (sz:=3) m;rw [z];refine⟨.inr ⟨k,B,rfl,rfl,⟨Nat.max v (0+2*1),?_⟩,_,OF (ak m)⟩,fun i y hy j E F=>?_,fun i s l g q st h=>⟨g,?_⟩⟩
  ·rw [By (by decide),OF (ak d)];rfl
  ·rw [By (Ne.symm F),By (Ne.symm E)];exact hy
  ·rw [By (by rintro rfl;rw [j]at h;cases h),By (by rintro rfl;rw [d]at h;cases h)];exact h
structure ZE(cs:List C)(c:Nat)(s h:Int)(tr:List bD)(ct:C)(yr:List eg)(cy:C)(J:ai):Prop where
 res:J[1]?=some (.box [.f (fi 0),.f .ay,.f (fi 0),.f .ay,.f (fi 0),.f .ay,.f (fi 0),.f .ay] 0)
 dM:gO J cs c
 zb:J[3]?=some (np cs s ct h cy)
 lt:rv J ct 2 (aJ tr)
 ly:rv J cy 5 (bO yr)
section
variable{x:gQ}{cs:List C}{c:Nat}{s h:Int}{tr:List bD}{ct:C}{yr:List eg}{cy:C}{t:T}{J:ai}
theorem ZI.e(k:ZI x cs c s h tr ct yr cy t J):ZE cs c s h tr ct yr cy J:=⟨k.res,k.dM,k.zb,rv.of k.lt,rv.of k.ly⟩
theorem ZE.ex(k:ZE cs c s h tr ct yr cy J) :
  ∃ tg yg,∀ J':ai,(∀ i y,J[i]?=some y→i≠1→J'[i]?=some y)→aU (cW 64 J') (cs++[.f (fi s),ct,.f (fi h),cy])=some (ZD.row ⟨c,s,tg,tr,h,yg,yr⟩):=by
 obtain⟨tg,u⟩:=k.lt.exU (cw _);obtain⟨yg,hy⟩:=k.ly.exU (jE _);refine⟨tg,yg,fun J' j=>?_⟩
 have hc:gO J' cs c:=k.dM.bN fun i y hy hi=>j i y hy (by omega)
 have ho:∀(i s:Nat) (l:List C) (d b:Nat) (st:Km.Os),J[i]?=some (.bE s l d b st)→∃ g,J'[i]?=some (.bE s l g b st):=fun i s l d b st h=>⟨d,j i _ h (by
  rintro rfl
  rw [k.res]at h;cases h)⟩
 have m:=u J' 63 (k.lt.bN ho);have q:=hy J' 63 (k.ly.bN ho);exact gV hc.ex (by simp [aU,m,q])
theorem ZE.fin(k:ZE cs c s h tr ct yr cy J)(ho:∃ tg yg o,ee ⟨c,s,tg,tr,h,yg,yr⟩ o)
  (l:T) (j:l.g 2=.c (.ptr 1 0 0)):∃ z o J',ee z o∧df J (.ptr 1 0 0) (cs++[.f (fi s),ct,.f (fi h),cy])=some J'∧oh [.cell (P.nat 2) (some 8)] (.a (z.row.map .f)) ⟨l,[],J'⟩:=by
 obtain⟨tg,yg,g⟩:=k.ex;obtain⟨u,v,o,ho⟩:=ho;obtain⟨a,b,d,e,rfl⟩:=k.dM.four;have q:df J (.ptr 1 0 0) ([a,b,d,e]++[.f (fi s),ct,.f (fi h),cy])=some (J.set 1 (.box ([a,b,d,e]++[.f (fi s),ct,.f (fi h),cy]) 0)):=by simp [df,k.res,over]
 have m:=ak k.res;refine⟨⟨c,s,tg,tr,h,yg,yr⟩,o,_,ho.arl,q,rfl,.a ([a,b,d,e]++[.f (fi s),ct,.f (fi h),cy]),?_,?_⟩
 ·simp [Km.results,bG,aU,j,m,aF]
 ·have:=g (J.set 1 (.box ([a,b,d,e]++[.f (fi s),ct,.f (fi h),cy]) 0)) fun i y hy hi=>by rw [By (by omega)];exact hy
  simp only [iN,bX,deep,this];rfl
theorem ZE.marked(k:ZE cs c s h tr ct yr cy J):ZE cs c s h tr ct yr cy (fZ deep cy (fZ deep ct (cs.foldl (fun H x=>fZ deep x H) J))):=by
 obtain⟨A,u,v⟩:=k.dM.mk;obtain⟨y,j⟩:∃ y,y=cs.foldl (fun H x=>fZ deep x H) J:=⟨_,rfl⟩
 rw [←j]at A u v ⊢;have d:=k.lt.bN v;have q:=k.ly.bN v;have B:=u _ _ k.zb (by decide) (by decide) (by decide)
 have r1:=u _ _ k.res (by decide) (by decide) (by decide)
 obtain⟨a1,z⟩:=d.mk;have m:=d.bN z;have g:=q.bN z;obtain⟨b1,b2⟩:=g.mk;exact⟨b1 _ _ _ (a1 _ _ _ r1),(A.yj fun i l b h _=>⟨b,a1 i l b h⟩).yj fun i l b h _=>⟨b,b1 i l b h⟩,b1 _ _ _ (a1 _ _ _ B),m.bN b2,g.bN b2⟩
end
end
section
theorem tx{H:ai}{c:C}{sz:Nat}{rows:List (List FC)}(h:LR H c sz rows)(b:bC sz rows):∃ g,cW deep H c=some (sl g rows):=h.ex b 63
def LM(H:ai)(c:C)(l:List Int):Prop:=(l=[]∧(c=.f .ay∨c=.f .es))∨(l≠[]∧∃ b d g,c=.sl b 0 l.length 0 d 1∧H[b]?=some (.bE 1 (l.map cI) g d .loc)∧g≤l.length)
section
variable{H H':ai}{c:C}{l:List Int}
theorem LM.bN(h:LM H c l)(q:∀(i:Nat) (y:cU),H[i]?=some y→aL c=some i→H'[i]?=some y):LM H' c l:=by
 rcases h with h | ⟨h,b,d,g,rfl,j,m⟩
 ·exact .inl h
 ·exact .inr ⟨h,b,d,g,rfl,q _ _ j rfl,m⟩
theorem LM.push(h:LM H c l)(J:ai):LM (H++J) c l:=h.bN fun i y hy _=>by rw [AT (ak hy)];exact hy
theorem LM.cB(h:LM H c l){i:Nat}{cs:List C}{d:Nat}(j:H[i]?=some (.box cs d)):aL c≠some i:=by
 rcases h with⟨_,rfl | rfl⟩ | ⟨_,b,m,d,rfl,g,q⟩
 ·simp [aL]
 ·simp [aL]
 ·intro e;simp [aL]at e;subst e;rw [j]at g;cases g
theorem LM.akW(h:LM H c l){g:C}{rows:List (List FC)}(hc:LR H g 8 rows):∀ i,aL g=some i→aL c≠some i:=by
 intro i hi d;rcases hc with⟨_,rfl | rfl⟩ | ⟨_,s,q,rfl,m⟩
 ·simp [aL]at hi
 ·simp [aL]at hi
 ·simp [aL]at hi;subst hi;unfold RB at m;rcases h with⟨_,rfl | rfl⟩ | ⟨_,b,q,u,rfl,j,v⟩
  ·simp [aL]at d
  ·simp [aL]at d
  ·simp [aL]at d;subst d;rw [m]at j;cases j
theorem LM.app(h:LM H c l)(E:l.length≤1000){v:Int}{b1 fl1:Nat}(q:H[b1]?=some (.box [.f (fi v)] fl1)) :
  ∃ j H',bz H 1 8 (.c c) (.c (.sl b1 0 1 1 0 1))=some (.c j,H')∧LM H' j (l++[v])∧Kb H H' c∧(aL j=aL c∨aL j=some H.length):=by
 have g:cM H 1 (.c (.sl b1 0 1 1 0 1))=some (1,[.f (fi v)]):=jX q rfl;rcases h with⟨rfl,z⟩ | ⟨B,b,m,s,rfl,u,x⟩
 ·have d:bI 1 8=true:=by decide
  refine⟨.sl H.length 0 1 0 0 1,H++[.bE 1 [.f (fi v)] 0 0 .loc],?_,.inr ⟨by simp,H.length,0,0,rfl,by simp,Nat.zero_le _⟩,⟨by simp,fun i y hy _=>by rw [AT (ak hy)];exact hy⟩,.inr rfl⟩
  rcases z with rfl | rfl<;>simp [bz,g,d]
 ·have d:bI (l.length+1) 8=true:=cd (by omega) (by decide)
  refine⟨.sl b 0 (l.length+1) 0 (m+1) 1,H.set b (.bE 1 (l.map cI++[.f (fi v)]) s (m+1) .loc),?_,.inr ⟨by simp,b,m+1,s,by simp,?_,by simp;omega⟩,⟨by simp,fun i y hy A=>?_⟩,.inl rfl⟩
  ·simp only [bz,g,u,and_self,if_true];rw [if_neg (by decide),if_neg (by decide),if_pos ⟨trivial,by simp,by simpa using x⟩,d]
   simp
  ·rw [OF (ak u)];simp
  ·have:b≠i:=by rintro rfl;exact A rfl
   rw [By this];exact hy
theorem LM.ex(h:LM H c l):∃ g,cW deep H c=some (sl g (ints l)):=by
 rcases h with⟨rfl,rfl | rfl⟩ | ⟨j,b,q,s,rfl,m,u⟩
 ·exact⟨.nil,rfl⟩
 ·exact⟨.es,rfl⟩
 ·refine⟨.fs,?_⟩
  show cW (63+1) H _=_
  rw [iV,m];have e:(((l.map cI).drop 0).take (l.length*1))=(l.map fi).map .f:=by rw [List.drop_zero,avS (by simp)];simp
  have d:¬ (ints l).isEmpty=true:=by simpa [ints]using j
  simp only [e,An,Option.map_some];rw [if_pos ⟨trivial,trivial,by simp⟩,sl,if_neg d,yd,CT]
theorem LM.mk(h:LM H c l):LM (fZ deep c H) c l∧(∀(i:Nat) (y:cU),H[i]?=some y→aL c≠some i→(fZ deep c H)[i]?=some y):=by
 rcases h with⟨rfl,rfl | rfl⟩ | ⟨g,b,d,s,rfl,q,u⟩
 ·exact⟨.inl ⟨rfl,.inl rfl⟩,fun i y hy _=>by simpa using hy⟩
 ·exact⟨.inl ⟨rfl,.inr rfl⟩,fun i y hy _=>by simpa using hy⟩
 ·have e:fZ deep (.sl b 0 l.length 0 d 1) H=H.set b (.bE 1 (l.map cI) (Nat.max s (0+l.length*1)) d .loc):=by
   simp only [deep,yA,q];rw [kO];intro x j;have j:=awO (awJ j);obtain⟨m,_,rfl⟩:=av9.1 j;exact⟨_,rfl⟩
  rw [e];refine⟨.inr ⟨g,b,d,_,rfl,OF (ak q),?_⟩,fun i y hy v=>?_⟩
  ·rw [awn,Nat.mul_one];exact Nat.max_le.2 ⟨u,aft _⟩
  ·have:b≠i:=by rintro rfl;exact v rfl
   rw [By this];exact hy
end
set_option maxHeartbeats 1000000 in
theorem xI(y:aK)(hy:y.d.li.length≤61)(ga gb:Tg){a b:List aK}(m4:a.length≤50)(m7:b.length≤50)(j7:LiB a)(j8:∀(i:Nat) (hi:i<b.length),kJ i b[i].d)(m5:0<a.length+b.length) :
  ∃ g' l',dS l'=dS a++(dS b).map (bp.shift a.length)++[⟨y.d.k,y.d.dM,(a.length:Int)-1,(a.length:Int)+b.length-1,y.d.n,y.d.m,y.d.li⟩] ∧
   Km.Pure tab.get xv [.a (y.row.map .f),.c (.f (sl ga (aE a))),.c (.f (sl gb (aE b)))]=Eq (.c (.f (sl g' (aE l')))):=by
 obtain⟨rr,⟨g',l',g,rfl⟩,hp⟩:∃ rr,(∃ g' l',dS l'=dS a++(dS b).map (bp.shift a.length)++[⟨y.d.k,y.d.dM,(a.length:Int)-1,(a.length:Int)+b.length-1,y.d.n,y.d.m,y.d.li⟩]∧rr=.c (.f (sl g' (aE l')))) ∧
   Km.Pure tab.get xv [.a (y.row.map .f),.c (.f (sl ga (aE a))),.c (.f (sl gb (aE b)))] rr:=by
  refine ca anC rfl fun Q hQ=>?_
  refine ae ?_;simp;obtain⟨H,hH⟩:∃ H:ai,H=[.box (y.row.map .f) 0]:=⟨_,rfl⟩;have b0:H[0]?=some (.box (y.row.map .f) 0):=by rw [hH];rfl
  rw [←hH];clear hH;refine ae ?_;simp;refine ag (ae ?_);simp
  refine bZ a.length (fun j t K=>∃ c l,t.g 1=.c (.f (sl ga (aE a)))∧t.g 2=.c (.f (sl gb (aE b)))∧t.g 3=.c (.ptr 0 0 0)∧t.g 7=.c c∧LR K c 8 (aE l)∧dS l=dS (a.take j)∧K[0]?=some (.box (y.row.map .f) 0)) (by omega) (by decide) (by simp)
   ⟨.f .es,[],by simp,by simp,by simp,by simp,.inl ⟨rfl,.inr rfl⟩,by simp,b0⟩ ?_ ?_ ?_
  ·rintro j t K L S ⟨c,l,s,E,A,F,d,g,b0⟩ u hn;simp [u,s];exact hn _ ⟨c,l,by simp [s],by simp [E],by simp [A],by simp [F],d,g,b0⟩ (by simp [u]) (by simp)
  ·rintro j t K S ⟨c,l,s,E,A,F,d,g,b0⟩ u nx;obtain⟨x,Y⟩:∃ x,x=a[j]:=⟨_,rfl⟩;obtain⟨tg,O⟩:=iU x (by rw [Y];exact j7 _ (IT S))
   have c_:l.length=j:=by have:=congrArg List.length g;simp at this;omega
   obtain⟨c',H',q,N,J,d9⟩:=mU d (by omega) ⟨x.d,tg⟩
   have U:((aK.row ⟨x.d,tg⟩).map C.f).length=8:=rfl;refine av (ab (.inl rfl) ?_);simp [s,F,u,eo S (by omega),kV S,←Y,O,U,q]
   refine al ?_;refine nx _ _ ⟨c',l++[⟨x.d,tg⟩],by simp [s],by simp [E],by simp [A],by simp,N,?_,?_⟩ (by simp [u])
   ·rw [avN S,←Y];simp only [dS,awG,anc,avO]at g ⊢;rw [g]
   ·exact J.2 0 _ (by rw [AT (ak b0)];exact b0) (d.cB b0)
  ·rintro t K ⟨c,l,s,E,A,F,d,g,b0⟩ u;rw [awc]at g;refine ae ?_;simp;refine ag (ae ?_);simp
   refine bZ b.length (fun j t K=>∃ c l p,t.g 1=.c (.f (sl ga (aE a)))∧t.g 2=.c (.f (sl gb (aE b)))∧t.g 3=.c (.ptr 0 0 0)∧t.g 7=.c c∧t.g 9=.c p∧LR K c 8 (aE l)∧LM K p (Dj a.length j)∧dS l=dS a++(dS (b.take j)).map (bp.shift a.length)∧K[0]?=some (.box (y.row.map .f) 0)) (by omega) (by decide) (by simp)
    ⟨c,l,.f .es,by simp [s],by simp [E],by simp [A],by simp [F],by simp,d,.inl ⟨rfl,.inr rfl⟩,by simpa using g,b0⟩ ?_ ?_ ?_
   ·rintro j t K L S ⟨c,l,p,s,E,A,F,g9,d,X,g,b0⟩ u hn;simp [u,E];exact hn _ ⟨c,l,p,by simp [s],by simp [E],by simp [A],by simp [F],by simp [g9],d,X,g,b0⟩ (by simp [u]) (by simp)
   ·rintro j t K S ⟨c,l,p,s,E,A,F,g9,d,X,g,b0⟩ u nx;obtain⟨x,Y⟩:∃ x,x=b[j]:=⟨_,rfl⟩;have hA:kJ j x.d:=by rw [Y];exact j8 j S
    have c_:l.length=a.length+j:=by have:=congrArg List.length g;simp at this;omega
    obtain⟨v,hv⟩:∃ v:Int,v=(a.length:Int)+j:=⟨_,rfl⟩;have j_:IntKind.i64.wrap ((a.length:Int)+j)=v:=by rw [hv];exact wrap64 (by omega) (by omega)
    obtain⟨K1,M⟩:∃ K1:ai,K1=K++[.box [.f (fi v)] 0]:=⟨_,rfl⟩;have a_:LM K1 p (Dj a.length j):=by rw [M];exact X.push _
    have j9:K1[K.length]?=some (.box [.f (fi v)] 0):=by rw [M];simp
    have j3:∀ {i:Nat} {z:cU},K[i]?=some z→K1[i]?=some z:=fun {i z} hz=>by rw [M,AT (ak hz)];exact hz
    have d_:LR K1 c 8 (aE l):=by rw [M];exact d.push _
    obtain⟨p',I,q,m,J,m9⟩:=a_.app (by simp;omega) j9
    rw [hv,show(a.length:Int)+(j:Int)=((a.length+j:Nat):Int) by omega,←abF]at m
    have b2:I[0]?=some (.box (y.row.map .f) 0):=J.2 0 _ (j3 b0) (a_.cB (j3 b0));have e_:LR I c 8 (aE l):=d_.bN fun i z hz hi=>J.2 i z hz (a_.akW d_ i hi)
    obtain⟨gp,k_⟩:=m.ex;obtain⟨b9,d5⟩:=m.mk;obtain⟨tg,g_⟩:=Oq x hA (by omega) gp a.length
    obtain⟨W,B⟩:∃ W:ai,W=fZ deep p' I:=⟨_,rfl⟩;rw [←B]at b9 d5;have b3:W[0]?=some (.box (y.row.map .f) 0):=d5 0 _ b2 (m.cB b2);have c9:LR W c 8 (aE l):=e_.bN fun i z hz hi=>d5 i z hz (m.akW e_ i hi)
    obtain⟨c',H',b_,N,d8,d9⟩:=mU c9 (by omega) ⟨x.d.shift a.length,tg⟩
    have U:((aK.row ⟨x.d.shift a.length,tg⟩).map C.f).length=8:=rfl;refine av (ae ?_);simp [g9,s,u,j_];rw [←M];simp [q];refine ab (.inl rfl) ?_;simp [F,E,u,eo S (by omega),kV S,←Y,k_,g_,←B,U,b_]
    refine al ?_;refine nx _ _ ⟨c',l++[⟨x.d.shift a.length,tg⟩],p',by simp [s],by simp [E],by simp [A],by simp,by simp,N,?_,?_,?_⟩ (by simp [u])
    ·refine(b9.push _).bN fun i z hz hi=>d8.2 i z hz fun e=>?_
     exact(b9.push [.box ((aK.row ⟨x.d.shift a.length,tg⟩).map .f) 0]).akW (c9.push _) i e hi
    ·rw [avN S,←Y];simp only [dS,awG,anc,avO]at g ⊢;rw [g,List.append_assoc]
    ·exact d8.2 0 _ (by rw [AT (ak b3)];exact b3) (c9.cB b3)
   ·rintro t K ⟨c,l,p,s,E,A,F,g9,d,X,g,b0⟩ u;rw [awc]at g;have c_:l.length=a.length+b.length:=by have:=congrArg List.length g;simpa using this
    obtain⟨y1,i_⟩:∃ y1:aK,y1=⟨⟨y.d.k,y.d.dM,(a.length:Int)-1,y.d.r,y.d.n,y.d.m,y.d.li⟩,y.tg⟩:=⟨_,rfl⟩;obtain⟨Z,d6⟩:∃ Z:aK,Z=⟨⟨y.d.k,y.d.dM,(a.length:Int)-1,(a.length:Int)+b.length-1,y.d.n,y.d.m,y.d.li⟩,y.tg⟩:=⟨_,rfl⟩;have l9:df K (.ptr 0 2 0) [.f (fi ((a.length:Int)-1))]=some (K.set 0 (.box (y1.row.map .f) 0)):=by simp [df,b0,over,aK.row,i_]
    obtain⟨I,a8⟩:∃ I:ai,I=K.set 0 (.box (y1.row.map .f) 0):=⟨_,rfl⟩;have d7:I[0]?=some (.box (y1.row.map .f) 0):=by rw [a8];exact OF (ak b0)
    have b7:LR I c 8 (aE l):=by rw [a8];exact d.set (d.cB b0) _
    have l_:df I (.ptr 0 3 0) [.f (fi ((a.length:Int)+b.length-1))]=some (I.set 0 (.box (Z.row.map .f) 0)):=by simp [df,d7,over,aK.row,i_,d6]
    obtain⟨W,B⟩:∃ W:ai,W=I.set 0 (.box (Z.row.map .f) 0):=⟨_,rfl⟩;have l7:W[0]?=some (.box (Z.row.map .f) 0):=by rw [B];exact OF (ak d7)
    have j4:LR W c 8 (aE l):=by rw [B];exact b7.set (b7.cB d7) _
    obtain⟨-,-,-,-,-,-,-,e8⟩:=yq l7;obtain⟨tg,O⟩:=iU Z (by rw [d6];exact hy)
    obtain⟨c',H',q,N,J,d9⟩:=mU j4 (by omega) ⟨Z.d,tg⟩
    have U:((aK.row ⟨Z.d,tg⟩).map C.f).length=8:=rfl;obtain⟨g',Y⟩:=tx N (ea _);have f_:=b7.len;rw [pV,c_]at f_;have h_:IntKind.i64.wrap (((a.length+b.length:Nat):Int)-1)=(a.length:Int)+b.length-1:=by rw [wrap64 (by omega) (by omega)];omega
    refine ae ?_;simp [s,A,wrap64 (n:=(a.length:Int)-1) (by omega) (by omega),l9,-ba]
    rw [←a8];refine ae ?_;simp only [Int.natCast_add]at h_;simp [F,A,f_,h_,l_,-ba];rw [←B];refine ae ?_;simp [F,A,e8,-an,O,U,q];refine aA (hQ _ _ _ ⟨g',l++[⟨Z.d,tg⟩],?_,rfl⟩ ⟨rfl,.c c',?_,?_⟩)
    ·simp only [dS,awG,anc,avO]at g ⊢;rw [g,d6]
    ·simp [Km.results,bG,aU]
    ·simp [iN,bX,Y]
 exact⟨g',l',g,hp.eq⟩
end
section
structure jW where
 k:Nat
 n:Int
 m:Nat
 lg:Tg
 li:List Nat
def jW.row(x:jW):List FC:=[u8 x.k,.int .i8 x.n,u8 x.m,sl x.lg (bM x.li)]
structure jW.OK(x:jW):Prop where
 k:x.k<256
 n:-128≤x.n∧x.n≤127
 m:x.m<256
 ll:x.li.length≤9223372036854775807
 lb:∀ v ∈ x.li,v<256
theorem IY{n k:Int}(b:0<k):-k<n.tmod k∧n.tmod k<k:=by
 rcases Int.le_total 0 n with h | h
 ·rw [awy h];have:=awd n (show k≠0 by omega)
  have:=awe n b;omega
 ·have:n = -(-n):=by omega
  rw [this,Int.neg_tmod,awy (by omega)]
  have:=awd (-n) (show k≠0 by omega)
  have:=awe (-n) b;omega
def Ck(x:bp):Prop:=x.OK∧dw x.k=0∧(x.k≠7→x.l=0)∧x.r=0
theorem Ck.N3{x:bp}(h:Ck x):Good [x]:=.leaf h.1 h.2.1 h.2.2.1 h.2.2.2
theorem fv(n:Nat){m:Int}(d:0<m):∃ a:Nat,(a:Int)<m∧bJ .rem (.c (.f (.int .u8 n))) (.c (.f (.int .u8 m)))=some (.c (.f (.int .u8 a))):=by
 have b:=awd (n:Int) (show m≠0 by omega)
 have g:=awe (n:Int) d;refine⟨((n:Int) % m).toNat,by omega,?_⟩
 rw [ns (by omega),awy (by omega),awL b]
theorem AW{n:Nat}(l:n<256){m:Int}(d:0<m):∃ a:Nat,(a:Int)≤255 / m∧bJ .quo (.c (.f (.int .u8 n))) (.c (.f (.int .u8 m)))=some (.c (.f (.int .u8 a))):=by
 have b:0≤(n:Int) / m:=awV (by omega) (by omega)
 have g:(n:Int) / m≤255 / m:=Int.ediv_le_ediv d (by omega)
 have j:(n:Int) / m≤n:=Int.ediv_le_self _ (by omega)
 refine⟨((n:Int) / m).toNat,by omega,?_⟩
 rw [zK (by omega),Int.tdiv_eq_ediv_of_nonneg (by omega),acm b (by omega),awL b]
theorem abR{a b:Int}(g:0≤a)(d:0<b):∃ r,0≤r∧r<b∧bJ .rem (vi a) (vi b)=some (vi r):=⟨a % b,awd _ (by omega),awe _ d,jR g d⟩
theorem lI(n:Nat)(h:n≤1000000):IntKind.i64.wrap (n:Int)=n:=wrap64 (by omega) (by omega)
set_option maxHeartbeats 2000000 in
theorem abE(x:jW)(hx:x.OK){cals:Nat}(hc:cals=0∨cals=2):∃ y:aK,Ck y.d∧Km.Pure tab.get sD [.a (x.row.map .f),vi cals]=Eq (.a (y.row.map .f)):=by
 obtain⟨rr,⟨y,hy,rfl⟩,hp⟩:∃ rr,(∃ y:aK,Ck y.d∧rr=.a (y.row.map .f))∧Km.Pure tab.get sD [.a (x.row.map .f),vi cals] rr:=by
  refine ca anP rfl fun Q hQ=>?_
  obtain⟨I,J,X,L,li⟩:=x;obtain⟨hk,hn,hm,H,F⟩:=hx;simp only at hk hn hm H F;refine ae ?_;simp [jW.row];obtain⟨q,hq⟩:∃ q:Int,q=(I:Int) % 7:=⟨_,rfl⟩;obtain⟨B,b_⟩:∃ B:Nat,B=1+I % 7:=⟨_,rfl⟩;have w1:IntKind.i64.wrap (I:Int)=I:=wrap64 (by omega) (by omega)
  have r1:bJ .rem (vi I) (vi 7)=some (vi q):=by rw [jR (by omega) (by omega),hq]
  have w2:IntKind.i64.wrap (1+q)=B:=by rw [wrap64 (by omega) (by omega)];omega
  refine ae ?_;simp [w1,r1,w2]
  have v:∀(t:T) (y:aK),Ck y.d→t.g 4=.c (.ptr 1 0 0)→t.g 6=.c (.ptr 2 0 0) →
    WP tab.get sD none [.code tO] ⟨t,[],[.box [.f (u8 I),.f (.int .i8 J),.f (u8 X),.f (sl L (bM li))] 0,.box mS 0,.box (y.row.map .f) 0]⟩ Q:=by
   intro t y hy u j;refine ae ?_;simp [u,j,aK.row,mS];refine aA (hQ _ _ _ ⟨y,hy,rfl⟩ ⟨rfl,.a (y.row.map .f),?_,?_⟩)
   ·simp [Km.results,bG,aU,u,aK.row,aF]
   ·simp [iN,bX]
  have M:∀(t:T) (g:Nat) (l:Int),1≤g→g≤7→0≤l→l≤1→(g=1∨g=5→l=0)→t.g 2=.c (.ptr 0 0 0)→t.g 4=.c (.ptr 1 0 0)→t.g 5=vi g→t.g 6=.c (.ptr 2 0 0) →
    WP tab.get sD none [.code Bt] ⟨t,[],[.box [.f (u8 I),.f (.int .i8 J),.f (u8 X),.f (sl L (bM li))] 0,.box mS 0,.box [cI g,cI l,cI 0,cI 0,cI 0,cI 0,.f .ay,.f (.str ⟨#[]⟩)] 0]⟩ Q:=by
   intro t g l h1 h7 c0 c1 K s u Y j;refine ag (ae ?_);simp [Y];refine av (ae ?_);simp;rcases(show g=1∨g=2∨g=3∨g=4∨g=5∨g=6∨g=7 by omega)with rfl | rfl | rfl | rfl | rfl | rfl | rfl
   ·obtain⟨Z,m0,m1,U⟩:=kY hn (k:=9) (by decide)
    obtain⟨a,a1,W⟩:=fv X (m:=12) (by decide)
    have S:=K (.inl rfl);subst S;refine aj (by simp) (ae ?_)
    simp [s,j,U,wrap64 (n:=1+Z) (by omega) (by omega)]
    refine ab (.inl rfl) ?_;simp [s,j,W,lI a (by omega)]
    refine al ?_;exact v _ ⟨⟨1,0,0,0,1+Z,a,[]⟩,.nil⟩ ⟨⟨by simp,.inl ⟨rfl,rfl,rfl,(by dsimp only;omega),(by dsimp only;omega),(by dsimp only;omega),(by dsimp only;omega)⟩⟩,rfl,fun _=>rfl,rfl⟩ (by simp [u]) (by simp [j])
   ·obtain⟨Z,m0,m1,U⟩:=kY hn (k:=4) (by decide)
    obtain⟨a,a1,W⟩:=fv X (m:=8) (by decide)
    obtain⟨b,b0,b1,rb⟩:=abR (a:=(a:Int)) (b:=1+Z) (by omega) (by omega)
    refine ah (by simp) (ae ?_)
    simp;refine aj (by simp) (ae ?_)
    simp [s,j,U,wrap64 (n:=1+Z) (by omega) (by omega)]
    refine ab (.inl rfl) ?_;simp [s,j,W,lI a (by omega),rb]
    refine al ?_;exact v _ ⟨⟨2,l,0,0,1+Z,b,[]⟩,.nil⟩ ⟨⟨by simp,.inr (.inl ⟨rfl,c0,c1,rfl,(by dsimp only;omega),(by dsimp only;omega),b0,by dsimp only;omega⟩)⟩,rfl,fun _=>rfl,rfl⟩ (by simp [u]) (by simp [j])
   ·obtain⟨O,lp,hr,z,A⟩:=lq L li H F (lo:=1) (hi:=4) (by decide) (by decide) (by decide) true (by decide)
    refine ah (by simp) (ae ?_)
    simp;refine ah (by simp) (ae ?_)
    simp;refine aj (by simp) (ab (.inl rfl) ?_)
    simp [s,j,A];refine al ?_;exact v _ ⟨⟨3,l,0,0,0,0,lp⟩,O⟩ ⟨⟨by simp at z ⊢;omega,.inr (.inr (.inl ⟨rfl,c0,c1,hr,rfl,rfl⟩))⟩,rfl,fun _=>rfl,rfl⟩ (by simp [u]) (by simp [j])
   ·obtain⟨O,lp,hr,z,A⟩:=lq L li H F (lo:=(-3)) (hi:=6) (by decide) (by decide) (by decide) false (by decide)
    refine ah (by simp) (ae ?_)
    simp;refine ah (by simp) (ae ?_)
    simp;refine ah (by simp) (ae ?_)
    simp;refine aj (by simp) (ab (.inl rfl) ?_)
    simp [s,j,A];refine al ?_;exact v _ ⟨⟨4,l,0,0,0,0,lp⟩,O⟩ ⟨⟨by simp at z ⊢;omega,.inr (.inr (.inr (.inl ⟨rfl,c0,c1,hr,rfl,rfl⟩)))⟩,rfl,fun _=>rfl,rfl⟩ (by simp [u]) (by simp [j])
   ·obtain⟨O,lp,hr,z,A⟩:=lq L li H F (lo:=0) (hi:=6) (by decide) (by decide) (by decide) true (by decide)
    have S:=K (.inr rfl);subst S;refine ah (by simp) (ae ?_)
    simp;refine ah (by simp) (ae ?_)
    simp;refine ah (by simp) (ae ?_)
    simp;refine ah (by simp) (ae ?_)
    simp;refine aj (by simp) (ab (.inl rfl) ?_)
    simp [s,j,A];refine al ?_;exact v _ ⟨⟨5,0,0,0,0,0,lp⟩,O⟩ ⟨⟨by simp at z ⊢;omega,.inr (.inr (.inr (.inr (.inl ⟨rfl,rfl,hr,rfl,rfl⟩))))⟩,rfl,fun _=>rfl,rfl⟩ (by simp [u]) (by simp [j])
   ·obtain⟨O,lp,hr,z,A⟩:=lq L li H F (lo:=1) (hi:=5) (by decide) (by decide) (by decide) true (by decide)
    refine ah (by simp) (ae ?_)
    simp;refine ah (by simp) (ae ?_)
    simp;refine ah (by simp) (ae ?_)
    simp;refine ah (by simp) (ae ?_)
    simp;refine ah (by simp) (ae ?_)
    simp;refine aj (by simp) (ab (.inl rfl) ?_)
    simp [s,j,A];refine al ?_;exact v _ ⟨⟨6,l,0,0,0,0,lp⟩,O⟩ ⟨⟨by simp at z ⊢;omega,.inr (.inr (.inr (.inr (.inr (.inl ⟨rfl,c0,c1,hr,rfl,rfl⟩)))))⟩,rfl,fun _=>rfl,rfl⟩ (by simp [u]) (by simp [j])
   ·obtain⟨a,a1,W⟩:=fv X (m:=8) (by decide)
    obtain⟨b,b0,b1,rb⟩:=abR (a:=(a:Int)) (b:=7) (by omega) (by omega)
    obtain⟨d,d1,rd⟩:=AW hk (m:=128) (by decide)
    obtain⟨e,e0,e1,re⟩:=abR (a:=(d:Int)) (b:=2) (by omega) (by omega)
    have hw:IntKind.i64.wrap J=J:=wrap64 (by omega) (by omega)
    have a_:=IY (n:=J) (k:=4) (by decide)
    obtain⟨r,hr⟩:∃ r,r=J.tmod 4:=⟨_,rfl⟩;have b9:bJ .rem (vi J) (vi 4)=some (vi r):=by rw [hr];exact ns (by decide)
    rw [←hr]at a_;refine ah (by simp) (ae ?_)
    simp;refine ah (by simp) (ae ?_)
    simp;refine ah (by simp) (ae ?_)
    simp;refine ah (by simp) (ae ?_)
    simp;refine ah (by simp) (ae ?_)
    simp;refine ah (by simp) (ae ?_)
    simp;refine aj (by simp) (ae ?_)
    simp [s,j,hw,b9]
    have N:∀(t:T) (n:Int),(n=1∨n=2∨n=3∨-3≤n∧n≤-1)→t.g 2=.c (.ptr 0 0 0)→t.g 4=.c (.ptr 1 0 0)→t.g 6=.c (.ptr 2 0 0) →
      WP tab.get sD none [.code Bu,.inBlock 0,.code tO] ⟨t,[],[.box [.f (u8 I),.f (.int .i8 J),.f (u8 X),.f (sl L (bM li))] 0,.box mS 0,.box [cI 7,cI l,cI 0,cI 0,cI n,cI 0,.f .ay,.f (.str ⟨#[]⟩)] 0]⟩ Q:=by
     intro t n hn s u j;refine ae ?_;simp [s,j,W,lI a (by omega),rb]
     refine ab (.inl rfl) ?_;simp [s,j,rd,lI d (by omega),re]
     refine al ?_;exact v _ ⟨⟨7,l,e,0,n,b,[]⟩,.nil⟩ ⟨⟨by simp,.inr (.inr (.inr (.inr (.inr (.inr (.inl ⟨rfl,c0,c1,rfl,hn,b0,(by dsimp only;omega),e0,(by dsimp only;omega)⟩))))))⟩,rfl,fun h=>absurd rfl h,rfl⟩ (by simp [u]) (by simp [j])
    refine ag (ae ?_);simp [j];by_cases a8:r=0
    ·refine aj (by simp [a8]) (ab (.inl rfl) ?_)
     simp [j];exact N _ 1 (.inl rfl) (by simp [s]) (by simp [u]) (by simp [j])
    ·refine aY (by simp [a8]) ?_
     exact N _ r (by omega) (by simp [s]) (by simp [u]) (by simp [j])
  have E:∀(t:T) (g:Nat),1≤g→g≤7→(cals=0→g=1∨g=5)→t.g 1=vi cals→t.g 2=.c (.ptr 0 0 0)→t.g 4=.c (.ptr 1 0 0)→t.g 5=vi g →
    WP tab.get sD none [.code Hc] ⟨t,[],[.box [.f (u8 I),.f (.int .i8 J),.f (u8 X),.f (sl L (bM li))] 0,.box mS 0]⟩ Q:=by
   intro t g h1 h7 h0 g1 s u Y;have hu:=nm g (by omega)
   refine ae ?_;simp [Y,mS];refine ag (ae ?_);simp [Y,hu];cases hs:lV g
   ·refine aY (by simp) ?_
    exact M _ g 0 h1 h7 (by omega) (by omega) (fun _=>rfl) (by simp [s]) (by simp [u]) (by simp [Y]) (by simp)
   ·have c9:g≠1∧g≠5:=by
     constructor<;>(rintro rfl;simp [lV]at hs)
    have b7:cals=2:=by
     rcases hc with e | e
     ·have:=h0 e;omega
     ·exact e
    subst b7;obtain⟨a,a1,W⟩:=AW hm (m:=8) (by decide)
    obtain⟨b,b0,b1,rb⟩:=abR (a:=(a:Int)) (b:=2) (by omega) (by omega)
    refine aj (by simp) (ab (.inl rfl) ?_)
    simp [g1,s,W,lI a (by omega),rb]
    exact M _ g b h1 h7 b0 (by omega) (fun e=>by omega) (by simp [s]) (by simp [u]) (by simp [Y]) (by simp)
  refine ag (ae ?_);have hu:=nm B (by omega)
  rcases hc with rfl | rfl
  ·simp [hu];cases hs:lV B
   ·refine aY (by simp) ?_
    refine E _ B (by omega) (by omega) (fun _=>?_) (by simp) (by simp) (by simp) (by simp)
    simp [lV]at hs;omega
   ·refine aj (by simp) (ab (.inl rfl) ?_)
    simp;exact E _ 1 (by omega) (by omega) (fun _=>.inl rfl) (by simp) (by simp) (by simp) (by simp)
  ·simp;refine aY (by simp) ?_
   exact E _ B (by omega) (by omega) (fun h=>by omega) (by simp) (by simp) (by simp) (by simp)
 exact⟨y,hy,hp.eq⟩
end
section
structure sY where
 tg:Tg
 l:List aK
def sY.row(x:sY):List FC:=[sl x.tg (aE x.l)]
def cu(l:List sY):List (List FC):=l.map sY.row
@[simp] theorem amw (l:List sY):(cu l).length=l.length:=by simp [cu]
theorem jD(l:List sY):bC 1 (cu l):=bC.map fun _=>rfl
theorem sU(l:List sY)(x:sY):cu (l++[x])=cu l++[x.row]:=by simp [cu]
theorem O4{l:List sY}{j:Nat}(b:j<l.length):(cu l)[j]?=some l[j].row:=by simp [cu,b]
theorem rL{H:ai}{g:Tg}{st:List sY}{j:Nat}(b:j<st.length)(_:st.length≤1000):aG H 1 none (.c (.f (sl g (cu st)))) (vi j)=some (.c (.f (.fp (cu st).flatten j))):=by
 have:=cT (H:=H) (g:=g) (rows:=cu st) (sz:=1) (k:=.i64) (i:=(j:Int)) (by omega) (by simp;omega)
 simpa using this
theorem yo{H:ai}{st:List sY}{j:Nat}(b:j<st.length):aQ H none (.c (.f (.fp (cu st).flatten j)))=some (.c (.f (sl st[j].tg (aE st[j].l)))):=by
 have:=gN (H:=H) (rows:=cu st) (j:=j) (sz:=1) (row:=st[j].row) (x:=sl st[j].tg (aE st[j].l)) (jD st) (O4 b) rfl;simpa using this
theorem ahQ(g:Tg)(st:List sY)(U:st.length≤1000)(n:Nat)(Y:n≤st.length)(r:sY) :
  ∃ g',Km.Pure tab.get xz [.c (.f (sl g (cu st))),vi n,.c (.f (sl r.tg (aE r.l)))]=Eq (.c (.f (sl g' (cu (st.take n++[r]))))):=by
 obtain⟨N,⟨g',rfl⟩,W⟩:∃ N,(∃ g',N=.c (.f (sl g' (cu (st.take n++[r])))))∧Km.Pure tab.get xz [.c (.f (sl g (cu st))),vi n,.c (.f (sl r.tg (aE r.l)))] N:=by
  refine ca anQ rfl fun Q O=>?_
  refine ae ?_;simp;refine ae ?_;simp;refine ag (ae ?_);simp
  refine bZ n (fun j t K=>∃ c,t.g 0=.c (.f (sl g (cu st)))∧t.g 1=vi n∧t.g 2=.c (.f (sl r.tg (aE r.l)))∧t.g 7=.c c∧LR K c 1 (cu (st.take j))) (by omega) (by decide) (by simp)
   ⟨.f .es,by simp,by simp,by simp,by simp,.inl ⟨rfl,.inr rfl⟩⟩ ?_ ?_ ?_
  ·rintro j t K L S ⟨c,z,A,B,E,d⟩ y M;simp [y,A];exact M _ ⟨c,by simp [z],by simp [A],by simp [B],by simp [E],d⟩ (by simp [y]) (by simp)
  ·rintro j t K S ⟨c,z,A,B,E,d⟩ y X;have v:j<st.length:=by omega
   obtain⟨x,F⟩:∃ x,x=st[j]:=⟨_,rfl⟩;obtain⟨m,b⟩:∃ m:ai,m=K++[.box (x.row.map .f) 0]:=⟨_,rfl⟩;have s:LR m c 1 (cu (st.take j)):=by rw [b];exact d.push _
   have u:m[K.length]?=some (.box (x.row.map .f) 0):=by rw [b];simp
   obtain⟨H,H',l,q,I,J⟩:=s.app (jD _) (by decide) (row:=x.row) rfl (bytes:=24) (cd (by simp;omega) (by decide)) u
   simp only [sY.row,anc,avO]at b;refine av (ab (.inl rfl) ?_);simp [z,E,y,rL v U,yo v,←F];rw [←b];simp [l];refine al ?_;refine X _ _ ⟨H,by simp [z],by simp [A],by simp [B],by simp,?_⟩ (by simp [y])
   rw [avN v,←F,sU];exact q
  ·rintro t K ⟨c,z,A,B,E,d⟩ y;obtain⟨m,b⟩:∃ m:ai,m=K++[.box (r.row.map .f) 0]:=⟨_,rfl⟩;have s:LR m c 1 (cu (st.take n)):=by rw [b];exact d.push _
   have u:m[K.length]?=some (.box (r.row.map .f) 0):=by rw [b];simp
   obtain⟨H,H',l,q,I,J⟩:=s.app (jD _) (by decide) (row:=r.row) rfl (bytes:=24) (cd (by simp;omega) (by decide)) u
   rw [←sU]at q;obtain⟨g',F⟩:=tx q (jD _);simp only [sY.row,anc,avO]at b;refine ae ?_;simp [B,E];rw [←b];simp [l];refine aA (O _ _ _ ⟨g',rfl⟩ ⟨rfl,.c H,?_,?_⟩)
   ·simp [Km.results,bG,aU]
   ·simp [iN,bX,F]
 exact⟨g',W.eq⟩
end
section
abbrev DH(st:List sY):List (List bp):=st.map fun x=>dS x.l
theorem aaz{H:ai}{b d:Nat}{x:aK}(g:H[b]?=some (.box (x.row.map .f) d)){l:List aK}(j:l=[x]):cW deep H (.sl b 0 1 1 0 8)=some (sl .fs (aE l)):=by
 subst j
 show cW (63+1) H _=_
 rw [iV,g];simp [sl,aE];exact⟨aft 8,An (n:=63) (H:=H) x.row⟩
theorem Good.lib{r:List aK}(h:Good (dS r)):LiB r:=by
 intro x b;obtain⟨i,hi,rfl⟩:=avT b;have:=(h.at_ i (by simpa using hi)).ok.1
 simpa using this
theorem AP{st:List sY}{k:Nat}(h:cG (DH st) k){j:Nat}(d:j<st.length):st[j].l.length≤k:=by
 have g:=h.tot;have b:=oL (st:=DH st) (i:=j) (by simpa using d)
 have l:=nZ (DH st) (j+1);simp at b;omega
theorem qH{st:List sY}{k:Nat}(h:cG (DH st) k){j:Nat}(b:j<st.length):Good (dS st[j].l):=
 h.N3 _ (av9.2 ⟨st[j],IT b,rfl⟩)
theorem Z'(X:cU){q:Int}(h:14≤q∧q<18):∃(j b:Nat),(b=8∨b=9∨b=10∨b=17)∧aG [X,.box [cI 8,cI 9,cI 10,cI 17] 0] 1 none (.c (.sl 1 0 4 4 0 1)) (vi (q-14))=some (.c (.ptr 1 j 0))∧aQ [X,.box [cI 8,cI 9,cI 10,cI 17] 0] none (.c (.ptr 1 j 0))=some (vi b):=by
 rcases(show q=14∨q=15∨q=16∨q=17 by omega)with rfl | rfl | rfl | rfl
 ·exact⟨0,8,by simp,rfl,rfl⟩
 ·exact⟨1,9,by simp,rfl,rfl⟩
 ·exact⟨2,10,by simp,rfl,rfl⟩
 ·exact⟨3,17,by simp,rfl,rfl⟩
theorem aun(X:cU){e:Int}(h:0≤e∧e<7):∃(j b:Nat),(11≤b∧b≤16)∧aG [X,.box [cI 11,cI 12,cI 13,cI 14,cI 15,cI 16,cI 11] 0] 1 none (.c (.sl 1 0 7 7 0 1)) (vi e)=some (.c (.ptr 1 j 0))∧aQ [X,.box [cI 11,cI 12,cI 13,cI 14,cI 15,cI 16,cI 11] 0] none (.c (.ptr 1 j 0))=some (vi b):=by
 rcases(show e=0∨e=1∨e=2∨e=3∨e=4∨e=5∨e=6 by omega)with rfl | rfl | rfl | rfl | rfl | rfl | rfl
 ·exact⟨0,11,by simp,rfl,rfl⟩
 ·exact⟨1,12,by simp,rfl,rfl⟩
 ·exact⟨2,13,by simp,rfl,rfl⟩
 ·exact⟨3,14,by simp,rfl,rfl⟩
 ·exact⟨4,15,by simp,rfl,rfl⟩
 ·exact⟨5,16,by simp,rfl,rfl⟩
 ·exact⟨6,11,by simp,rfl,rfl⟩
set_option maxHeartbeats 2000000 in
theorem ah6{cals:Nat}(hc:cals=0∨cals=2)(g:Tg)(st:List sY){k:Nat}(s:cG (DH st) k)(hk:k≤8)(x:jW)(hx:x.OK) :
  ∃ g' u,u≠[]∧cG (DH u) (k+1)∧Km.Pure tab.get oX [.c (.f (sl g (cu st))),.a (x.row.map .f),vi cals]=Eq (.c (.f (sl g' (cu u)))):=by
 obtain⟨rr,⟨g',u,h0,h1,rfl⟩,hp⟩:∃ rr,(∃ g' u,u≠[]∧cG (DH u) (k+1)∧rr=.c (.f (sl g' (cu u))))∧Km.Pure tab.get oX [.c (.f (sl g (cu st))),.a (x.row.map .f),vi cals] rr:=by
  have d_:=s.count;simp only [av7]at d_;obtain⟨yp,l9,d8⟩:=abE x hx hc;obtain⟨n,hn⟩:∃ n,n=st.length:=⟨_,rfl⟩;refine ca anS rfl fun Q hQ=>?_
  obtain⟨S,L,K,U,li⟩:=x;obtain⟨l7,h_,g_,a8,Z⟩:=hx;simp only at l7 h_ g_ a8 Z;simp only [jW.row]at d8;refine ae ?_;simp [jW.row];refine ae ?_;simp;obtain⟨q,hq⟩:∃ q:Int,q=(S:Int) % 25:=⟨_,rfl⟩;have w1:IntKind.i64.wrap (S:Int)=S:=wrap64 (by omega) (by omega)
  have r1:bJ .rem (vi S) (vi 25)=some (vi q):=by rw [jR (by omega) (by omega),hq]
  refine ae ?_;simp [w1,r1];refine ag (ae ?_);simp;have B:=fun(m:Nat) (hm:m≤st.length) (r:sY)=>ahQ g st (by omega) m hm r
  have m7:∀(b:Int),True:=fun _=>trivial
  have b_:∀(t:T),t.g 0=.c (.f (sl g (cu st)))→t.g 2=vi cals→t.g 4=.c (.ptr 0 0 0)→t.g 7=vi st.length →
    WP tab.get oX none [.code Bz,.code BA] ⟨t,[],[.box [.f (u8 S),.f (.int .i8 L),.f (u8 K),.f (sl U (bM li))] 0]⟩ Q:=by
   intro t v g2 E z;obtain⟨g',A⟩:=B st.length (aft _) ⟨.fs,[yp]⟩;refine ae ?_;simp only [anc,avO]at d8;have j9:yp.row.length=8:=rfl;have hx:cW deep [.box [.f (u8 S),.f (.int .i8 L),.f (u8 K),.f (sl U (bM li))] 0,.box (yp.row.map .f) 0] (.sl 1 0 1 1 0 8)=some (sl .fs (aE [yp])):=aaz rfl rfl;simp [v,g2,E,z,d8,j9,hx,A];refine aA (hQ _ _ _ ⟨g',st++[⟨.fs,[yp]⟩],by simp,?_,rfl⟩ ?_)
   ·have:=s.leaf l9.N3 (r:=[yp.d]) rfl;rw [awc]at this;simpa [DH]using this
   ·simp
  obtain⟨X,hX⟩:∃ X:cU,X=.box [.f (u8 S),.f (.int .i8 L),.f (u8 K),.f (sl U (bM li))] 0:=⟨_,rfl⟩
  have bin:∀(t:T) (y:aK) (H:ai),2≤st.length→(∀ l r,bp.OK ⟨y.d.k,y.d.dM,l,r,y.d.n,y.d.m,y.d.li⟩)→dw y.d.k=2→H[2]?=some (.box (y.row.map .f) 0)→t.g 0=.c (.f (sl g (cu st)))→t.g 7=vi st.length→t.g 9=.c (.ptr 2 0 0) →
    WP tab.get oX none [.code BB,.code tP] ⟨t,[],H⟩ Q:=by
   intro t y H h2 hy d7 b2 v z g9;obtain⟨-,-,-,-,-,-,-,e8⟩:=yq b2;have hA:=AP s (j:=st.length-2) (by omega)
   have Y:=AP s (j:=st.length-1) (by omega)
   have gA:=qH s (j:=st.length-2) (by omega)
   have W:=qH s (j:=st.length-1) (by omega)
   obtain⟨a,ha⟩:∃ a,a=st[st.length-2]'(by omega):=⟨_,rfl⟩
   obtain⟨b,hb⟩:∃ b,b=st[st.length-1]'(by omega):=⟨_,rfl⟩
   have lA:=yo (H:=H) (st:=st) (j:=st.length-2) (by omega)
   have lB:=yo (H:=H) (st:=st) (j:=st.length-1) (by omega)
   have iA:=rL (H:=H) (g:=g) (st:=st) (j:=st.length-2) (by omega) (by omega)
   have iB:=rL (H:=H) (g:=g) (st:=st) (j:=st.length-1) (by omega) (by omega)
   rw [←ha]at hA gA lA;rw [←hb]at Y W lB;have pA:=gA.pos;have pB:=W.pos;simp only [pz]at pA pB
   obtain⟨g1,l1,hd,c_⟩:=xI y (hy 0 0).1 a.tg b.tg (a:=a.l) (b:=b.l) (by omega) (by omega) gA.lib (fun i hi=>by
    have:=W.at_ i (by simpa using hi)
    simpa using this) (by omega)
   obtain⟨g',A⟩:=B (st.length-2) (by omega) ⟨g1,l1⟩
   have c2:((st.length-2:Nat):Int)=(st.length:Int)-2:=by omega
   have c1:((st.length-1:Nat):Int)=(st.length:Int)-1:=by omega
   rw [c2]at iA A;rw [c1]at iB;have w2:IntKind.i64.wrap ((st.length:Int)-2)=(st.length:Int)-2:=wrap64 (by omega) (by omega)
   have d9:IntKind.i64.wrap ((st.length:Int)-1)=(st.length:Int)-1:=wrap64 (by omega) (by omega)
   refine ae ?_;simp [v,z,g9,w2,d9,e8,-an,iA,iB,lA,lB,c_,A];refine aA (hQ _ _ _ ⟨g',st.take (st.length-2)++[⟨g1,l1⟩],by simp,?_,rfl⟩ (by simp))
   have hG:Good (dS l1):=by
    rw [hd,←pz a.l];exact .bin (x:=⟨y.d.k,y.d.dM,((dS a.l).length:Int)-1,((dS a.l).length:Int)+b.l.length-1,y.d.n,y.d.m,y.d.li⟩) gA W (hy _ _) d7 (by simp) (by simp)
   have:=s.bin (r:=dS l1) (by simpa using h2) hG (by
    have:=congrArg List.length hd;simp at this;simp [←ha,←hb]
    omega)
   simpa [DH]using this
  have J:∀(t:T) (y:aK) (H:ai),1≤st.length→(∀ l,bp.OK ⟨y.d.k,y.d.dM,l,y.d.r,y.d.n,y.d.m,y.d.li⟩)→dw y.d.k=1→y.d.r=0→H[2]?=some (.box (y.row.map .f) 0)→t.g 0=.c (.f (sl g (cu st)))→t.g 7=vi st.length→t.g 10=.c (.ptr 2 0 0) →
    WP tab.get oX none [.code BD] ⟨t,[],H⟩ Q:=by
   intro t y H h2 hy d7 l_ b2 v z g10;obtain⟨-,-,-,-,-,-,-,e8⟩:=yq b2;have Y:=AP s (j:=st.length-1) (by omega)
   have W:=qH s (j:=st.length-1) (by omega)
   obtain⟨b,hb⟩:∃ b,b=st[st.length-1]'(by omega):=⟨_,rfl⟩
   have lB:=yo (H:=H) (st:=st) (j:=st.length-1) (by omega)
   have iB:=rL (H:=H) (g:=g) (st:=st) (j:=st.length-1) (by omega) (by omega)
   rw [←hb]at Y W lB;have pB:=W.pos;simp only [pz]at pB;obtain⟨g1,l1,hd,c_⟩:=acg y (hy 0).1 b.tg (r:=b.l) (by omega) W.lib
   obtain⟨g',A⟩:=B (st.length-1) (by omega) ⟨g1,l1⟩
   have c1:((st.length-1:Nat):Int)=(st.length:Int)-1:=by omega
   rw [c1]at iB A;have d9:IntKind.i64.wrap ((st.length:Int)-1)=(st.length:Int)-1:=wrap64 (by omega) (by omega)
   refine ae ?_;simp [v,z,g10,d9,e8,-an,iB,lB,c_,A];refine aA (hQ _ _ _ ⟨g',st.take (st.length-1)++[⟨g1,l1⟩],by simp,?_,rfl⟩ (by simp))
   have hG:Good (dS l1):=by
    rw [hd];exact .un (x:=⟨y.d.k,y.d.dM,(b.l.length:Int)-1,y.d.r,y.d.n,y.d.m,y.d.li⟩) W (hy _) d7 (by simp) l_
   have:=s.un (r:=dS l1) (by simp;omega) hG (by
    have:=congrArg List.length hd;simp at this;simp [←hb]
    omega)
   simpa [DH]using this
  by_cases hA:q<14∨st.length=0
  ·have hR:(if decide (q<14)=true then some true else some (decide (st.length=0)))=some true:=by
    rcases hA with h | h<;>simp [h]
   by_cases F:q<14
   ·simp [F];refine aj (by simp) (b_ _ (by simp) (by simp) (by simp) (by simp))
   ·have h0:st.length=0:=by omega
    have i_:(st.length:Int)=0:=by omega
    have e_:=api h0;simp [F,i_];refine aj (by simp [e_]) (b_ _ (by simp) (by simp) (by simp) (by simp [h0]))
  ·have F:¬ q<14:=fun h=>hA (.inl h)
   have j7:st.length≠0:=fun h=>hA (.inr h)
   have m5:14≤q∧q<25:=by omega
   have j8:st≠[]:=fun h=>j7 (by rw [h];rfl)
   simp [F];refine aY (by simp [j8]) ?_
   refine ag (ae ?_);by_cases Y:q<18∧2≤st.length
   ·simp [Y.1,show(2:Int)≤st.length by omega]
    refine aj (by simp) (ae ?_)
    have m4:IntKind.i64.wrap (q-14)=q-14:=wrap64 (by omega) (by omega)
    obtain⟨j,M,a_,d5,d6⟩:=Z' (.box [.f (u8 S),.f (.int .i8 L),.f (u8 K),.f (sl U (bM li))] 0) (q:=q) (by omega)
    simp [m4,d5,d6,-an];refine ag (ae ?_);simp;rcases a_ with rfl | rfl | rfl | rfl
    ·refine aY (by simp) ?_
     exact bin _ ⟨⟨8,0,0,0,0,0,[]⟩,.nil⟩ _ Y.2 (fun l r=>⟨by simp,by simp [cY]⟩) (by rfl) (by rfl) (by simp) (by simp) (by simp)
    ·refine aY (by simp) ?_
     exact bin _ ⟨⟨9,0,0,0,0,0,[]⟩,.nil⟩ _ Y.2 (fun l r=>⟨by simp,by simp [cY]⟩) (by rfl) (by rfl) (by simp) (by simp) (by simp)
    ·refine aY (by simp) ?_
     exact bin _ ⟨⟨10,0,0,0,0,0,[]⟩,.nil⟩ _ Y.2 (fun l r=>⟨by simp,by simp [cY]⟩) (by rfl) (by rfl) (by simp) (by simp) (by simp)
    ·obtain⟨mg,m0,m1,j4⟩:=kY h_ (k:=3) (by decide)
     refine aj (by simp) (ab (.inl rfl) ?_)
     simp [j4,wrap64 (n:=1+mg) (by omega) (by omega)]
     exact bin _ ⟨⟨17,0,0,0,1+mg,0,[]⟩,.nil⟩ _ Y.2 (fun l r=>⟨by simp,by simp [cY];omega⟩) (by rfl) (by rfl) (by simp) (by simp) (by simp)
   ·have f_:∀(t:T),t.g 0=.c (.f (sl g (cu st)))→t.g 2=vi cals→t.g 4=.c (.ptr 0 0 0)→t.g 7=vi st.length→t.g 8=vi q →
      WP tab.get oX none [.code tP] ⟨t,[],[.box [.f (u8 S),.f (.int .i8 L),.f (u8 K),.f (sl U (bM li))] 0]⟩ Q:=by
     intro t v g2 E z g8;obtain⟨e,he⟩:∃ e:Int,e=max q 18-18:=⟨_,rfl⟩;obtain⟨j,M,a_,d5,d6⟩:=aun (.box [.f (u8 S),.f (.int .i8 L),.f (u8 K),.f (sl U (bM li))] 0) (e:=e) (by omega)
     have wE:IntKind.i64.wrap (max q 18-18)=e:=by rw [he];exact wrap64 (by omega) (by omega)
     refine ae ?_;simp [g8,wE,d5,d6,-an];have I:1≤st.length:=by omega
     have k_:IntKind.i64.wrap L=L:=wrap64 (by omega) (by omega)
     have b9:IntKind.i64.wrap (K:Int)=K:=wrap64 (by omega) (by omega)
     have c9:∀(t:T),t.g 0=.c (.f (sl g (cu st)))→t.g 4=.c (.ptr 0 0 0)→t.g 7=vi st.length→t.g 10=.c (.ptr 2 0 0)→∀ M:Nat,(M=12∨M=13) →
       WP tab.get oX none [.code BC] ⟨t,[],[.box [.f (u8 S),.f (.int .i8 L),.f (u8 K),.f (sl U (bM li))] 0,.box [cI 11,cI 12,cI 13,cI 14,cI 15,cI 16,cI 11] 0,.box [cI M,cI 0,cI 0,cI 0,cI 0,cI 0,.f .ay,.f (.str ⟨#[]⟩)] 0]⟩ Q:=by
      intro t v E z g10 M a_;refine ag (ae ?_);simp [g10];refine av (ae ?_);rcases a_ with rfl | rfl
      ·simp;refine ah (by simp) (ag (ae ?_))
       simp;refine aj (by simp) (aB ?_)
       refine aj (by simp) (ab (.inl rfl) ?_)
       simp [E,g10,b9];refine al ?_;exact J _ ⟨⟨12,0,0,0,K,0,[]⟩,.nil⟩ _ I (fun l=>⟨by simp,by simp [cY];omega⟩) (by rfl) rfl (by rfl) (by simp [v]) (by simp [z]) (by simp [g10])
      ·simp;refine ah (by simp) (ag (ae ?_))
       simp;refine ah (by simp) (ab (.inl rfl) ?_)
       simp;refine aj (by simp) (ab (.inl rfl) ?_)
       simp [E,g10,b9];refine al ?_;exact J _ ⟨⟨13,0,0,0,K,0,[]⟩,.nil⟩ _ I (fun l=>⟨by simp,by simp [cY];omega⟩) (by rfl) rfl (by rfl) (by simp [v]) (by simp [z]) (by simp [g10])
     refine ag (ae ?_);rcases(show M=11∨M=12∨M=13∨M=14∨M=15∨M=16 by omega)with rfl | rfl | rfl | rfl | rfl | rfl
     ·obtain⟨r,hr⟩:∃ r,r=L.tmod 12:=⟨_,rfl⟩;have j_:bJ .rem (vi L) (vi 12)=some (vi r):=by rw [hr];exact ns (by decide)
      have j3:=IY (n:=L) (k:=12) (by decide)
      rw [←hr]at j3;simp;refine ah (by simp) (aB (ag (ae ?_)))
      simp;refine av (ae ?_);simp;refine aj (by simp) (ab (.inl rfl) ?_)
      simp [E,k_,j_];refine al ?_;exact J _ ⟨⟨11,0,0,0,r,0,[]⟩,.nil⟩ _ I (fun l=>⟨by simp,by simp [cY];omega⟩) (by rfl) rfl (by rfl) (by simp [v]) (by simp [z]) (by simp)
     ·simp;refine aY (by simp) ?_
      exact c9 _ (by simp [v]) (by simp [E]) (by simp [z]) (by simp) 12 (.inl rfl)
     ·simp;refine aY (by simp) ?_
      exact c9 _ (by simp [v]) (by simp [E]) (by simp [z]) (by simp) 13 (.inr rfl)
     ·obtain⟨gp,lp,hr,N,O⟩:=lq U li a8 Z (lo:=0) (hi:=60) (by decide) (by decide) (by decide) true (by decide)
      simp;refine ah (by simp) (aB (ag (ae ?_)))
      simp;refine av (ae ?_);simp;refine ah (by simp) (ag (ae ?_))
      simp;refine ah (by simp) (ab (.inl rfl) ?_)
      simp;refine ah (by simp) (ag (ae ?_))
      simp;refine aj (by simp) (aB ?_)
      refine aj (by simp) (ab (.inl rfl) ?_)
      simp [E,O];refine al ?_;exact J _ ⟨⟨14,0,0,0,0,0,lp⟩,gp⟩ _ I (fun l=>⟨by simp at N ⊢;omega,by simp [cY];exact hr⟩) (by rfl) rfl (by rfl) (by simp [v]) (by simp [z]) (by simp)
     ·obtain⟨gp,lp,hr,N,O⟩:=lq U li a8 Z (lo:=0) (hi:=60) (by decide) (by decide) (by decide) true (by decide)
      simp;refine ah (by simp) (aB (ag (ae ?_)))
      simp;refine av (ae ?_);simp;refine ah (by simp) (ag (ae ?_))
      simp;refine ah (by simp) (ab (.inl rfl) ?_)
      simp;refine ah (by simp) (ag (ae ?_))
      simp;refine ah (by simp) (ab (.inl rfl) ?_)
      simp;refine aj (by simp) (ab (.inl rfl) ?_)
      simp [E,O];refine al ?_;exact J _ ⟨⟨15,0,0,0,0,0,lp⟩,gp⟩ _ I (fun l=>⟨by simp at N ⊢;omega,by simp [cY];exact hr⟩) (by rfl) rfl (by rfl) (by simp [v]) (by simp [z]) (by simp)
     ·rcases hc with rfl | rfl
      ·simp [g2];refine aj (by simp) (ab (.inl rfl) ?_)
       simp;exact c9 _ (by simp [v]) (by simp [E]) (by simp [z]) (by simp) 12 (.inl rfl)
      ·obtain⟨gp,lp,hr,N,O⟩:=lq U li a8 Z (lo:=(-3)) (hi:=4) (by decide) (by decide) (by decide) false (by decide)
       obtain⟨a,a1,ra⟩:=AW g_ (m:=8) (by decide)
       obtain⟨b,b0,b1,rb⟩:=abR (a:=(a:Int)) (b:=2) (by omega) (by omega)
       obtain⟨d,d1,rd⟩:=fv K (m:=2) (by decide)
       simp [g2];refine ah (by simp) (aB (ag (ae ?_)))
       simp;refine av (ae ?_);simp;refine ah (by simp) (ag (ae ?_))
       simp;refine ah (by simp) (ab (.inl rfl) ?_)
       simp;refine ah (by simp) (ag (ae ?_))
       simp;refine ah (by simp) (ab (.inl rfl) ?_)
       simp;refine ah (by simp) (ae ?_)
       simp;refine aj (by simp) (ae ?_)
       simp [g2,E,ra,lI a (by omega),rb]
       refine ae ?_;simp [E,rd,lI d (by omega)]
       refine ab (.inl rfl) ?_;simp [E,O];refine al ?_;exact J _ ⟨⟨16,b,0,0,0,d,lp⟩,gp⟩ _ I (fun l=>⟨by simp at N ⊢;omega,by simp [cY];exact⟨b0,by omega,hr,by omega⟩⟩) (by rfl) rfl (by rfl) (by simp [v]) (by simp [z]) (by simp)
    by_cases b7:q<18
    ·simp [b7,show¬ (2:Int)≤st.length by omega]
     refine ah (by simp) (aB (f_ _ (by simp) (by simp) (by simp) (by simp) (by simp)))
    ·simp [b7];refine ah (by simp) (aB (f_ _ (by simp) (by simp) (by simp) (by simp) (by simp)))
 exact⟨g',u,h0,h1,hp.eq⟩
end
section
def dX(l:List jW):List (List FC):=l.map jW.row
@[simp] theorem ait (l:List jW):(dX l).length=l.length:=by simp [dX]
theorem AG(l:List jW):bC 4 (dX l):=bC.map fun _=>rfl
theorem GK{l:List jW}{j:Nat}(b:j<l.length):(dX l)[j]?=some l[j].row:=by simp [dX,b]
theorem agw{H:ai}{g:Tg}{l:List jW}{j:Nat}(b:j<l.length)(d:l.length≤9223372036854775807):aG H 4 none (.c (.f (sl g (dX l)))) (vi j)=some (.c (.f (.fp (dX l).flatten (j*4)))):=by
 have:=cT (H:=H) (g:=g) (rows:=dX l) (sz:=4) (k:=.i64) (i:=(j:Int)) (by omega) (by simp;omega)
 simpa using this
theorem akI{H:ai}{l:List jW}{j:Nat}(b:j<l.length):aQ H (some 4) (.c (.f (.fp (dX l).flatten (j*4))))=some (.a (l[j].row.map .f)):=by
 have:=fk (H:=H) (rows:=dX l) (j:=j) (sz:=4) (row:=l[j].row) (AG l) (GK b);simpa using this
set_option maxHeartbeats 1000000 in
theorem aa1{cals:Nat}(hc:cals=0∨cals=2)(g:Tg)(l:List jW)(hl:l.length≤9223372036854775807)(hx:∀ x ∈ l,x.OK) :
  ∃ r:sY,Good (dS r.l)∧r.l.length≤15∧Km.Pure tab.get Cc [.c (.f (sl g (dX l))),vi cals]=Eq (.c (.f (sl r.tg (aE r.l)))):=by
 obtain⟨rr,⟨r,h1,h2,rfl⟩,hp⟩:∃ rr,(∃ r:sY,Good (dS r.l)∧r.l.length≤15∧rr=.c (.f (sl r.tg (aE r.l))))∧Km.Pure tab.get Cc [.c (.f (sl g (dX l))),vi cals] rr:=by
  refine ca anE rfl fun Q hQ=>?_
  have U:∀(t:T) (H:ai) (c:C) (r:sY),cW deep H c=some (sl r.tg (aE r.l))→Good (dS r.l)→r.l.length≤15→t.g 7=.c c →
    WP tab.get Cc none [.code Bh] ⟨t,[],H⟩ Q:=by
   intro t H c r hx hg hl O;refine ae ?_;simp [O];refine aA (hQ _ _ _ ⟨r,hg,hl,rfl⟩ ⟨rfl,.c c,?_,?_⟩)
   ·simp [Km.results,bG,aU]
   ·simp [iN,bX,hx]
  refine ae ?_;simp;refine ae ?_;simp;refine ag (ae ?_);simp;obtain⟨N,hN⟩:∃ N,N=min l.length 8:=⟨_,rfl⟩
  refine bZ N (fun i t K=>∃ g' st,(st=[]→g'=.es)∧cG (DH st) i∧t.g 0=.c (.f (sl g (dX l)))∧t.g 1=vi cals∧t.g 5=.c (.f (sl g' (cu st)))) (by omega) (by decide) (by simp)
   ⟨.es,[],fun _=>rfl,.nil,by simp,by simp,by simp [sl,cu,Tg.fc]⟩ ?_ ?_ ?_
  ·rintro i t K L d8 ⟨g',st,v,d,A,y,u⟩ B hn;by_cases M:(i:Int)<l.length
   ·simp [B,A,M];exact hn _ ⟨g',st,v,d,by simp [A],by simp [y],by simp [u]⟩ (by simp [B]) (by simp;omega)
   ·simp [B,A,M];exact hn _ ⟨g',st,v,d,by simp [A],by simp [y],by simp [u]⟩ (by simp [B]) (by simp;omega)
  ·rintro i t K d8 ⟨g',st,v,d,A,y,u⟩ B nx;have I:i<l.length:=by omega
   obtain⟨x,d5⟩:∃ x,x=l[i]:=⟨_,rfl⟩;obtain⟨g2,f_,a_,b9,hp⟩:=ah6 hc g' st d (by omega) x (by rw [d5];exact hx _ (IT I))
   refine av (ab (.inl rfl) ?_);simp [u,y,A,B,agw I hl,akI I,←d5,hp];refine al ?_;exact nx _ _ ⟨g2,f_,fun e=>absurd e a_,b9,by simp [A],by simp [y],by simp⟩ (by simp [B])
  ·rintro t K ⟨g',st,v,d,A,y,u⟩ B;have a8:=d.count;simp only [av7]at a8;refine ag (ae ?_);simp [u];by_cases h0:st=[]
   ·subst h0;have d7:=v rfl;subst d7;refine aj (by simp) (ab (.inl rfl) ?_)
    have g_:sY:=⟨.fs,[⟨⟨1,0,0,0,2,0,[]⟩,.nil⟩]⟩;obtain⟨q,E⟩:∃ q:ai,q=K++[.box [cI 1,cI 0,cI 0,cI 0,cI 2,cI 0,.f .ay,.f (.str ⟨#[]⟩)] 0,.box [.sl K.length 0 1 1 0 8] 0]:=⟨_,rfl⟩;have b0:q[K.length]?=some (.box ((aK.row ⟨⟨1,0,0,0,2,0,[]⟩,.nil⟩).map .f) 0):=by rw [E,avM (by omega),Nat.sub_self];rfl
    have b1:q[K.length+1]?=some (.box [.sl K.length 0 1 1 0 8] 0):=by rw [E,avM (by omega),Nat.add_sub_cancel_left];rfl
    have X:cM q 1 (.c (.sl (K.length+1) 0 1 1 0 1))=some (1,[.sl K.length 0 1 1 0 8]):=by simp [cM,bA,cH,b1]
    have J:bI 1 24=true:=by decide
    have Y:bz q 1 24 (.c (.f (sl .es (cu [])))) (.c (.sl (K.length+1) 0 1 1 0 1))=some (.c (.sl q.length 0 1 0 0 1),q++[.bE 1 [.sl K.length 0 1 1 0 8] 0 0 .loc]):=by
     simp [bz,X,J,sl,cu,Tg.fc]
    simp [u];rw [←E];simp [Y];obtain⟨z,F⟩:∃ z:ai,z=q++[.bE 1 [.sl K.length 0 1 1 0 8] 0 0 .loc]:=⟨_,rfl⟩;have c0:z[K.length]?=some (.box ((aK.row ⟨⟨1,0,0,0,2,0,[]⟩,.nil⟩).map .f) 0):=by rw [F,AT (ak b0)];exact b0
    have M:z[q.length]?=some (.bE 1 [.sl K.length 0 1 1 0 8] 0 0 .loc):=by rw [F,avM (by omega),Nat.sub_self];rfl
    rw [←F];have i0:aG z 1 none (.c (.sl q.length 0 1 0 0 1)) (vi 0)=some (.c (.ptr q.length 0 0)):=by simp [aG,dk,M]
    have l0:aQ z none (.c (.ptr q.length 0 0))=some (.c (.sl K.length 0 1 1 0 8)):=by simp [aQ,az,M,aF]
    have n0:bA z (.sl q.length 0 1 0 0 1)=some 1:=by simp [bA,M]
    refine ae ?_;simp [i0,l0,-an];refine ag (ae ?_);simp;refine av (bw (fun m s=>∃(t:T),s=⟨t,[],z⟩∧t.g 5=.c (.sl q.length 0 1 0 0 1)∧t.g 7=.c (.sl K.length 0 1 1 0 8)∧t.g 8=vi 1) 0 ⟨_,rfl,by simp,by simp,by simp⟩ ?_)
    rintro m s ⟨t,rfl,u,O,W⟩ ih;refine ag (ae ?_);simp [u,W,n0];refine ah (by simp) (aT rfl ?_)
    refine U _ _ _ ⟨.fs,[⟨⟨1,0,0,0,2,0,[]⟩,.nil⟩]⟩ (aaz c0 rfl) ?_ (by simp) (by simp [O])
    exact .leaf ⟨by simp,by simp [cY]⟩ rfl (fun _=>rfl) rfl
   ·refine aY (by simp [h0]) ?_
    have b7:=aww.2 h0;have l0:=yo (H:=K) (st:=st) (j:=0) (by omega)
    have i0:=rL (H:=K) (g:=g') (st:=st) (j:=0) (by omega) (by omega)
    refine ae ?_;simp only [aw8]at i0;simp [u,i0,l0];refine ag (ae ?_);simp
    refine av (bw (fun m s=>∃(j:Nat) (r:sY) (t:T) (K:ai),s=⟨t,[],K⟩∧1≤j∧j≤st.length∧m=st.length-j∧Good (dS r.l)∧r.l.length+1=total ((DH st).take j)+j∧t.g 5=.c (.f (sl g' (cu st)))∧t.g 7=.c (.f (sl r.tg (aE r.l)))∧t.g 8=vi j) (st.length-1)
     ⟨1,st[0],_,_,rfl,by omega,by omega,rfl,qH d (by omega),?_,by simp [u],by simp,by simp⟩ ?_)
    ·have:=oL (st:=DH st) (i:=0) (by simpa using b7)
     rw [this];simp [total]
    ·rintro m s ⟨j,r,t,K,rfl,j1,j2,rfl,hr,e_,u,O,W⟩ ih;refine ag (ae ?_);simp [u,W];by_cases S:j<st.length
     ·refine aj (by simp [S]) (aB ?_)
      have hB:=AP d (j:=j) S;have gB:=qH d (j:=j) S;have c_:=oL (st:=DH st) (i:=j) (by simpa using S)
      have b_:=nZ (DH st) (j+1);have c9:=d.tot;obtain⟨b,hb⟩:∃ b,b=st[j]:=⟨_,rfl⟩;have lB:=yo (H:=K) (st:=st) (j:=j) S;have iB:=rL (H:=K) (g:=g') (st:=st) (j:=j) S (by omega)
      simp at c_;rw [←hb]at hB gB lB c_;have pA:=hr.pos;have pB:=gB.pos;simp only [pz]at pA pB
      obtain⟨y,l1,hd,d6⟩:=xI ⟨⟨9,0,0,0,0,0,[]⟩,.nil⟩ (by simp) r.tg b.tg (a:=r.l) (b:=b.l) (by omega) (by omega) hr.lib (fun i hi=>by
       have:=gB.at_ i (by simpa using hi)
       simpa using this) (by omega)
      have hw:IntKind.i64.wrap ((j:Int)+1)=((j+1:Nat):Int):=by rw [wrap64 (by omega) (by omega)];omega
      have Z:Km.Pure tab.get xv [.a [cI 9,cI 0,cI 0,cI 0,cI 0,cI 0,.f .ay,.f (.str ⟨#[]⟩)],.c (.f (sl r.tg (aE r.l))),.c (.f (sl b.tg (aE b.l)))]=Eq (.c (.f (sl y (aE l1)))):=d6;refine ag (av (ab (.inl rfl) ?_));simp [u,O,W,iB,lB,Z];refine al (ab (.inl rfl) ?_);simp [W,hw]
      have d_:l1.length=r.l.length+b.l.length+1:=by
       have:=congrArg List.length hd;simp at this;omega
      refine ih (st.length-(j+1)) _ (by omega) ⟨j+1,⟨y,l1⟩,_,_,rfl,by omega,by omega,rfl,?_,?_,by simp [u],by simp,by simp⟩
      ·rw [hd,←pz r.l];exact .bin (x:=⟨9,0,((dS r.l).length:Int)-1,((dS r.l).length:Int)+b.l.length-1,0,0,[]⟩) hr gB ⟨by simp,by simp [cY]⟩ rfl (by simp) (by simp)
      ·simp only [d_];omega
     ·have d9:j=st.length:=by omega
      subst d9;have b_:(DH st).take st.length=DH st:=by rw [avS (by simp)]
      rw [b_]at e_;have c9:=d.tot;refine ah (by simp) (aT rfl ?_)
      exact U _ _ (.f (sl r.tg (aE r.l))) r (by simp [deep]) hr (by omega) (by simp [O])
 exact⟨r,h1,h2,hp.eq⟩
end
end Go.Proofs.YtmbjejcfadllnaaGreat
