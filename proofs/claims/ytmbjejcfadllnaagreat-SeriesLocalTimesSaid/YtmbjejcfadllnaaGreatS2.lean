/-
  What the program's functions and the reference's answer, for all arguments of their kind, in the small machine: part 2.
-/
import Derived.Test.YtmbjejcfadllnaaGreatS1
import Derived.Test.YtmbjejcfadllnaaGreatK4
open List renaming getElem?_append_left → ag, getElem?_set_ne → am, getElem?_set_self → az, take_of_length_le → bu, set_cons_succ → eg, getElem?_eq_getElem → ae, getElem_mem → aw, all_eq_true → bi, getElem?_eq_none_iff → cW, getElem?_eq_some_iff → ai, find?_eq_some_iff_getElem → el, find?_eq_none → d4, getElem_of_mem → bq, pairwise_iff_getElem → bL, mem_cons_self → bh, mem_map → cK, eq_nil_of_length_eq_zero → aD, mem_append → cA, map_cons → aM, map_nil → ba, length_pos_iff → cN, length_eq_zero_iff → cQ, getElem?_append_right → bj, pairwise_singleton → dc, take_succ_eq_append_getElem → aR, take_length → cm, map_append → cY, length_map → cF, mem_of_mem_drop → d8, mem_of_mem_take → dC, foldl_cons → cX
open Nat renaming le_refl → ax, lt_or_eq_of_le → cD, eq_zero_or_pos → cB, lt_trichotomy → co, zero_add → cR
open Int renaming mul_ediv_add_emod → cU, emod_nonneg → cq, emod_lt_of_pos → cr, ediv_nonneg → dx, add_mul → dT, one_mul → dt, mul_comm → dk, mul_nonneg → ew, natCast_zero → ec, add_zero → d7, le_refl → dl, toNat_of_nonneg → dg, tmod_eq_emod_of_nonneg → cS
open Option renaming map_eq_some_iff → aq, map_some → cw
set_option linter.unusedVariables false
set_option linter.unusedSimpArgs false
set_option linter.unusedSectionVars false
set_option linter.unnecessarySimpa false
set_option maxRecDepth 100000
namespace Go.Proofs.YtmbjejcfadllnaaGreat
open Go Km
section
theorem afK{z:ZD}(hc:z.c<3){fl:List FC}{k m y:Nat}{r q:YrD}{n:Int}(hR:JK fl (sl z.yg (bV z.yr)) k m r q)(hkm:(1:Int)-k=m)(hr:r.OK)(hq:q.OK)(hy:y<nY z.c)
  {t:T} {J:Heap} {cl:C} {raw:List TrD} (hJ:J[0]?=some (.box (z.row.map .f) 0)) (hK:J[1]?=some (.box (jy z cl n) 0)) (hL:LR J cl 2 (aS raw)) (hol:raw.length≤100)
  (g1:t.g 1=.c (.ptr 0 0 0)) (g4:t.g 4=.c (.ptr 1 0 0)) (g8:t.g 8=vi (bgn z.c y)) (g9:t.g 9=vi ((y:Int)+1)) (g62:t.g 62=.c (.f (sl z.yg (bV z.yr)))) (g63:t.g 63=vi 2) (g64:t.g 64=vi (k:Nat)) {K:List AItem} {Q:Option ACode→St→Prop}
  (next:∀(t:T) (J:Heap) (cl:C),J[0]?=some (.box (z.row.map .f) 0)→J[1]?=some (.box (jy z cl n) 0)→LR J cl 2 (aS (raw++iD z.c (y+1) r q))→t.g 1=.c (.ptr 0 0 0)→t.g 4=.c (.ptr 1 0 0)→t.g 8=vi (bgn z.c y)→t.g 9=vi ((y:Int)+1)→t.g 62=.c (.f (sl z.yg (bV z.yr)))→t.g 63=vi 2→t.g 64=vi (k:Nat) →
   WP tab.get oq none K ⟨t,[],J⟩ Q) :
  WP tab.get oq none (.code Hz::K) ⟨t,[],J⟩ Q:=by
 have hyl:=F8 z.c;obtain⟨b0,b1⟩:=Ej hc (Nat.le_of_lt hy);have hf:=Px hc (y:=y+1) (by omega) (by omega) (b:=bgn z.c y) (by omega) (by omega) r hr
 rw [show((y+1:Nat):Int)=(y:Int)+1 by omega]at hf
 obtain⟨d0,d1⟩:=Jv (c:=z.c) (y:=y+1) (b:=bgn z.c y) (x:=r) (by omega) (by omega) hr
 obtain⟨-,-,-,-,m0,m1,o0,o1⟩:=hr;obtain⟨-,-,-,-,-,-,p0,p1⟩:=hq;have hraw:iD z.c (y+1) r q=if kM (fmD z.c (y+1) (bgn z.c y) r) (mlD z.c (y+1) r) r.wk r.wd then [⟨oV (fmD z.c (y+1) (bgn z.c y) r) (mlD z.c (y+1) r) r.wk r.wd*1440+r.mi-q.off,r.off⟩]else []:=rfl
 generalize hD:oV (fmD z.c (y+1) (bgn z.c y) r) (mlD z.c (y+1) r) r.wk r.wd=D at *;generalize hO:kM (fmD z.c (y+1) (bgn z.c y) r) (mlD z.c (y+1) r) r.wk r.wd=O at *;refine aB ?_;refine kw_sr ?_;have hrow:=hR.row;have hi:=hR.i J;have jl:2≤J.length:=by have:=aA hK;omega
 obtain⟨J1,hJ1⟩:∃ J1:Heap,J1=J++[.box (r.row.map .f) 0]:=⟨_,rfl⟩;have z0:J1[0]?=some (.box (z.row.map .f) 0):=by rw [hJ1,ag (by omega)];exact hJ
 have z1:J1[1]?=some (.box (jy z cl n) 0):=by rw [hJ1,ag (by omega)];exact hK
 have zr:J1[J.length]?=some (.box (r.row.map .f) 0):=by rw [hJ1];simp
 have hL1:LR J1 cl 2 (aS raw):=by rw [hJ1];exact hL.push _
 have l1:J1.length=J.length+1:=by rw [hJ1];simp
 have hr5:(r.row.map C.f)=[.f (fi r.mo),.f (fi r.wk),.f (fi r.wd),.f (fi r.mi),.f (fi r.off)]:=rfl;simp [g62,g64,hi,hrow,YrD.row];rw [←hr5,←hJ1];refine kw_sr ?_;have lz1:=oI z0 hc;have lz2:=kU z0 hc;have lr5:ldV J1 (some 5) (.c (.ptr J.length 0 0))=some (.a (r.row.map .f)):=by simp [ldV,zr,aF,YrD.row,aO]
 have lr3:ldV J1 none (.c (.ptr J.length 3 0))=some (vi r.mi):=by simp [ldV,zr,aF,YrD.row,aO]
 have lr4:ldV J1 none (.c (.ptr J.length 4 0))=some (vi r.off):=by simp [ldV,zr,aF,YrD.row,aO]
 simp [g1,g8,g9,lz1,lr5,hf,-ak];refine kw_seq ?_;refine kw_region (.inl rfl) ?_;simp
 cases O with
 | false=>
  simp only [Bool.false_eq_true,if_false]at hraw;rw [hraw,List.append_nil]at next;refine ah (by simp) (aG (au ?_))
  exact next _ J1 cl z0 z1 hL1 (by simp [g1]) (by simp [g4]) (by simp [g8]) (by simp [g9]) (by simp [g62]) (by simp [g63]) (by simp [g64])
 | true=>
  simp only [if_true]at hraw;rw [hraw]at next;refine aj (by simp) ?_
  refine kw_region (.inl rfl) ?_;have w1:IntKind.i64.wrap (D*1440)=D*1440:=wrap64 (by omega) (by omega)
  have w2:IntKind.i64.wrap (D*1440+r.mi)=D*1440+r.mi:=wrap64 (by omega) (by omega)
  have w3:IntKind.i64.wrap (D*1440+r.mi-q.off)=D*1440+r.mi-q.off:=wrap64 (by omega) (by omega)
  have w4:IntKind.i64.wrap (1-(k:Int))=m:=by rw [wrap64 (by omega) (by omega),hkm]
  have hi':=hR.i' J1;have aTf:=hR.of' J1;have lkl:=AQ z1 hc;obtain⟨J2,hJ2⟩:∃ J2:Heap,J2=J1++[.box [.f (fi (D*1440+r.mi-q.off)),.f (fi r.off)] 0]:=⟨_,rfl⟩;have y0:J2[0]?=some (.box (z.row.map .f) 0):=by rw [hJ2,ag (by omega)];exact z0
  have y1:J2[1]?=some (.box (jy z cl n) 0):=by rw [hJ2,ag (by omega)];exact z1
  have hL2:LR J2 cl 2 (aS raw):=by rw [hJ2];exact hL1.push _
  obtain⟨c3,J3,happ,hL3,hK3,hc3⟩:=hL2.app (dD _) (by decide) (row:=[fi (D*1440+r.mi-q.off),fi r.off]) rfl (bytes:=16) (fB (by simp;omega) (by decide)) (b1:=J1.length) (fl1:=0) (by rw [hJ2];simp)
  have x0:=hK3.2 _ _ y0 (hL2.eG y0);have x1:=hK3.2 _ _ y1 (hL2.eG y1);have hst:=aVR (cl':=c3) x1 hc;have l2:J2.length=J1.length+1:=by rw [hJ2];simp
  have l3:=hK3.1;have hn0:bf c3≠some 1:=hL3.eG x1;simp [g1,g4,g64,lkl,lr3,lr4,lz2,hi',aTf,w1,w2,w3,w4,-ak,-bJ];rw [←hJ2];simp [happ,hst,-ak,-bJ];refine au ?_;refine next _ (J3.set 1 (.box (jy z c3 n) 0)) c3 (by rw [am (by decide)];exact x0) (az (by omega)) ?_ (by simp [g1]) (by simp [g4]) (by simp [g8]) (by simp [g9]) (by simp [g62]) (by simp [g63]) (by simp [g64])
  have e:aS raw++[[fi (D*1440+r.mi-q.off),fi r.off]]=aS (raw++[⟨D*1440+r.mi-q.off,r.off⟩]):=by simp [aS,TrD.row]
  rw [←e];exact hL3.set hn0 _
end
section
theorem aVG{z:ZD}(hc:z.c<3){r q:YrD}(hz:z.yr=[r,q])(hr:r.OK)(hq:q.OK){y:Nat}{n:Int}(hy:y<nY z.c)
  {t:T} {J:Heap} {cl:C} {raw:List TrD} (hJ:J[0]?=some (.box (z.row.map .f) 0)) (hK:J[1]?=some (.box (jy z cl n) 0)) (hL:LR J cl 2 (aS raw)) (hol:raw.length≤90)
  (g1:t.g 1=.c (.ptr 0 0 0)) (g4:t.g 4=.c (.ptr 1 0 0)) (g8:t.g 8=vi (bgn z.c y)) (g9:t.g 9=vi ((y:Int)+1)) {K:List AItem} {Q:Option ACode→St→Prop}
  (next:∀(t:T) (J:Heap) (cl:C),J[0]?=some (.box (z.row.map .f) 0)→J[1]?=some (.box (jy z cl n) 0)→LR J cl 2 (aS (raw++(iD z.c (y+1) r q++iD z.c (y+1) q r)))→t.g 1=.c (.ptr 0 0 0)→t.g 4=.c (.ptr 1 0 0)→t.g 8=vi (bgn z.c y)→t.g 9=vi ((y:Int)+1) →
   WP tab.get oq none K ⟨t,[],J⟩ Q) :
  WP tab.get oq none (.code HY::K) ⟨t,[],J⟩ Q:=by
 refine kw_sr ?_;have hys:(bV z.yr).length=2:=by simp [hz]
 have hsl:∀ H:Heap,bQ H (.f (sl z.yg (bV z.yr)))=some 2:=by intro H;rw [hz];rfl
 simp [g1,kU hJ hc,-ak,hsl]
 refine kV 2 (fun j t H=>H[0]?=some (.box (z.row.map .f) 0)∧t.g 1=.c (.ptr 0 0 0)∧t.g 4=.c (.ptr 1 0 0)∧t.g 8=vi (bgn z.c y)∧t.g 9=vi ((y:Int)+1)∧t.g 62=.c (.f (sl z.yg (bV z.yr))) ∧
   ∃ cl,H[1]?=some (.box (jy z cl n) 0)∧LR H cl 2 (aS (raw++((if 1≤j then iD z.c (y+1) r q else [])++(if 2≤j then iD z.c (y+1) q r else []))))) (by omega) (by decide) (by decide) (by simp) (by simp [hz])
  ⟨hJ,by simp [g1],by simp [g4],by simp [g8],by simp [g9],by simp,cl,hK,by simpa using hL⟩ ?_ ?_
 ·clear hJ hK hL g1 g4 g8 g9;rintro j t J hj ⟨hJ,g1,g4,g8,g9,g62,cl,hK,hL⟩ ha hb nx;have l1:=nO z.c (y+1) r q;have hcase:j=0∨j=1:=by omega
  rcases hcase with rfl | rfl
  ·simp at hL;refine afK hc (m:=1) (by rw [hz];exact aO6 z.yg r q) (by decide) hr hq hy hJ hK hL (by omega) (by simp [g1]) (by simp [g4]) (by simp [g8]) (by simp [g9]) (by simp [g62]) (by simp [hb]) (by simp [ha]) ?_
   intro t J cl hJ hK hL g1 g4 g8 g9 g62 g63 g64;refine nx _ _ ⟨hJ,by simp [g1],by simp [g4],by simp [g8],by simp [g9],by simp [g62],cl,hK,by simpa using hL⟩ (by simp [g64]) (by simp [g63])
  ·simp at hL;refine afK hc (m:=0) (by rw [hz];exact aO5 z.yg r q) (by decide) hq hr hy hJ hK hL (by simp;omega) (by simp [g1]) (by simp [g4]) (by simp [g8]) (by simp [g9]) (by simp [g62]) (by simp [hb]) (by simp [ha]) ?_
   intro t J cl hJ hK hL g1 g4 g8 g9 g62 g63 g64;refine nx _ _ ⟨hJ,by simp [g1],by simp [g4],by simp [g8],by simp [g9],by simp [g62],cl,hK,by simpa using hL⟩ (by simp [g64]) (by simp [g63])
 ·clear hJ hK hL g1 g4 g8 g9;rintro t J ⟨hJ,g1,g4,g8,g9,g62,cl,hK,hL⟩ ha hb;exact next _ J cl hJ hK (by simpa using hL) (by simp [g1]) (by simp [g4]) (by simp [g8]) (by simp [g9])
end
section
theorem aEC(z:ZD)(hc:z.c<3){r q:YrD}(hz:z.yr=[r,q])(hr:r.OK)(hq:q.OK){o:List TrD}(ho:iP (vX z.c r q (nY z.c)) o)(hs:fF o (cyc z.c*1440)=true):∃ g,
  Km.Pure tab.get oq [z.v]=Eq (.t [.c (.f (.fp (z.row++[sl g (aS o),fi (cyc z.c)]) 0)),vb true]):=by
 obtain⟨rr,⟨g,rfl⟩,hp⟩:∃ rr,(∃ g,rr=.t [.c (.f (.fp (z.row++[sl g (aS o),fi (cyc z.c)]) 0)),vb true])∧Km.Pure tab.get oq [z.v] rr:=by
  refine dN ah4 rfl fun Q hQ=>?_
  refine kw_sr ?_;simp;have hz0:([.box (z.row.map .f) 0]:Heap)[0]?=some (.box (z.row.map .f) 0):=rfl;have hcb:cyc z.c=91∨cyc z.c=217:=by unfold cyc lW;split<;>simp
  have hep:epC z.c=2∨epC z.c=5:=by unfold epC;split<;>simp
  have hend:=JF hc;have hny:=F8 z.c;have hl8:=ZD.BD hc;have hm8:(z.row.map C.f).length=8:=by simp [hl8]
  have hd:List.drop 10 (z.row.map C.f++[C.f .aC,C.f (fi 0)])=[]:=List.drop_eq_nil_of_le (by simp [hl8])
  refine kw_sr ?_;simp [iL hz0 hc,-ak,hl8,List.take_append,bu,hd];have aTu:z.row.map C.f++[C.f .aC,C.f (.int .i64 1)]=jy z (.f .aC) 1:=rfl;rw [aTu];have k0:([.box (z.row.map .f) 0,.box (jy z (.f .aC) 1) 0]:Heap)[0]?=some (.box (z.row.map .f) 0):=rfl;have k1:([.box (z.row.map .f) 0,.box (jy z (.f .aC) 1) 0]:Heap)[1]?=some (.box (jy z (.f .aC) 1) 0):=rfl;refine kw_seq ?_;refine kw_sr ?_;simp [kU k0 hc,-ak,hz];refine bD (by simp) ?_
  refine kw_sr ?_;simp [oI k0 hc,-ak,Fz hc];have s1:=aO2 (n':=(lW z.c:Nat)) k1 hc;simp only [eg,List.set_cons_zero]at s1;refine kw_sr ?_;simp [s1,-bJ];have m0:([.box (z.row.map .f) 0,.box (jy z (.f .aC) (lW z.c:Nat)) 0]:Heap)[0]?=some (.box (z.row.map .f) 0):=rfl;have m1:([.box (z.row.map .f) 0,.box (jy z (.f .aC) (lW z.c:Nat)) 0]:Heap)[1]?=some (.box (jy z (.f .aC) (lW z.c:Nat)) 0):=rfl;have hcd:lW z.c=13∨lW z.c=31:=by unfold lW;split<;>simp
  have hrm:bW .rem (vi (lW z.c:Nat)) (vi 7)=some (vi (((lW z.c:Nat):Int) % 7)):=wS (by omega) (by omega)
  refine kw_seq ?_;refine kw_sr ?_;simp [hrm];refine aj (by simp;omega) ?_
  have s2:=aO2 (n':=cyc z.c) m1 hc;simp only [eg,List.set_cons_zero]at s2;have hw:IntKind.i64.wrap (((lW z.c:Nat):Int)*7)=cyc z.c:=by rw [wrap64 (by omega) (by omega)];unfold cyc;omega
  refine kw_region (.inl rfl) ?_;simp [agU m1 hc,hw,s2,-ak,-bJ];obtain⟨H0,hH0⟩:∃ H0:Heap,H0=[.box (z.row.map .f) 0,.box (jy z (.f .aC) (cyc z.c)) 0]:=⟨_,rfl⟩;have n0:H0[0]?=some (.box (z.row.map .f) 0):=by rw [hH0];rfl
  have n1:H0[1]?=some (.box (jy z (.f .aC) (cyc z.c)) 0):=by rw [hH0];rfl
  rw [←hH0];clear m0 m1 k0 k1 s1 s2 hrm;refine kw_sr ?_;simp [Ji n0 hc,-ak];refine kw_seq ?_;refine kw_sr ?_;simp;refine aB ?_
  refine bM (fun n s=>∃(y:Nat) (t:T) (J:Heap) (cl:C),s=⟨t,[],J⟩∧n=nY z.c-y∧y≤nY z.c∧J[0]?=some (.box (z.row.map .f) 0)∧J[1]?=some (.box (jy z cl (cyc z.c)) 0)∧LR J cl 2 (aS (vX z.c r q y)) ∧
    t.g 1=.c (.ptr 0 0 0)∧t.g 4=.c (.ptr 1 0 0)∧t.g 8=vi (bgn z.c y)∧t.g 9=vi ((y:Int)+1)) (nY z.c)
   ⟨0,_,_,.f .aC,rfl,rfl,by omega,n0,n1,LR.nil _ _,by simp,by simp,by simp [bgn],by simp⟩ ?_
  rintro n s ⟨y,t,J,cl,rfl,rfl,hy,hJ,hK,hL,g1,g4,g8,g9⟩ ih;obtain⟨b0,b1⟩:=Ej hc hy;refine kw_seq ?_;refine kw_sr ?_;simp [g1,g4,g8,Ji hJ hc,agU hK hc,-ak,wrap64 (n:=epC z.c+cyc z.c) (by omega) (by omega)]
  by_cases hlt:y<nY z.c
  ·have h1:=JE z.c hlt;refine aj (by simp;omega) (aG ?_)
   refine kw_seq ?_;refine aB ?_;refine kw_seq ?_;have hrl:=nK z.c r q y;refine aVG hc hz hr hq hlt hJ hK hL (by omega) (by simp [g1]) (by simp [g4]) (by simp [g8]) (by simp [g9]) ?_
   clear g1 g4 g8 g9 hJ hK hL;intro t J cl hJ hK hL g1 g4 g8 g9;have hyl:=Pv hc (y:=y+1) (by omega) (by omega)
   rw [show((y+1:Nat):Int)=(y:Int)+1 by omega]at hyl
   have hyb:zf z.c (y+1)≤18:=by
    have h1:=jM z.c (y+1) 1;have h2:=jM z.c (y+1) 2;unfold zf;omega
   refine kw_region (.inl rfl) ?_;simp [g1,g8,g9,oI hJ hc,-ak,hyl,wrap64 (n:=bgn z.c y+(zf z.c (y+1):Nat)) (by omega) (by omega)]
   refine au ?_;refine kw_region (.inl rfl) ?_;simp [g9,wrap64 (n:=(y:Int)+1+1) (by omega) (by omega)]
   exact ih (nY z.c-(y+1)) _ (by omega) ⟨y+1,_,J,cl,rfl,rfl,by omega,hJ,hK,hL,by simp [g1],by simp [g4],by simp [bgn],by simp⟩
  have hyn:y=nY z.c:=by omega
  subst hyn;rw [hend];refine ah (by simp) ?_
  refine bC (k':=[.code Hy]) rfl ?_;have hrl:=nK z.c r q (nY z.c);obtain⟨J2,hE,hKb,l2,hL2,hpm,hsr⟩:=afy hL (by omega)
  rw [VI ho hs hpm hsr]at hL2;have x0:=hKb.2 _ _ hJ (hL.eG hJ);have x1:=hKb.2 _ _ hK (hL.eG hK);have hEq:=hE.eq;refine kw_sr ?_;simp [g4,AQ hK hc,-ak,hEq];clear ih hL hJ hK hE hEq hKb g8 g9;have hol:o.length≤28:=by have:=ho.len;omega
  have hbd:∀ x ∈ o,AtB x:=fun x hx=>xR hc hr hq _ (ax _) x (ho.perm.subset hx)
  refine kw_seq ?_;refine kw_sr ?_;simp [g4,AQ x1 hc,-ak,hL2.len]
  refine kV o.length (fun j t H=>H[0]?=some (.box (z.row.map .f) 0)∧H[1]?=some (.box (jy z cl (cyc z.c)) 0)∧LR H cl 2 (aS o)∧t.g 4=.c (.ptr 1 0 0)∧t.g 119=.c cl) (by omega) (by decide) (by decide) (by simp) (by simp)
   ⟨x0,x1,hL2,by simp [g4],by simp⟩ ?_ ?_
  ·clear g4 x0 x1 hL2;rintro i t J hil ⟨x0,x1,hL,g4,QM⟩ ha hb nx;rcases hL with⟨h,_⟩ | ⟨hne,b,ep,rfl,hb2⟩
   ·have:o=[]:=by simpa [aS]using h
    subst this;simp at hil
   rw [qp]at QM x1 nx;have hgr:=dD o;have o0:0<o.length:=by omega
   obtain⟨J1,hJ1⟩:∃ J1:Heap,J1=J++[.box (o[i].row.map .f) 0]:=⟨_,rfl⟩;have hb3:RB J1 b 2 ep (aS o):=by rw [hJ1];exact hb2.push _
   have jl:2≤J.length:=by have:=aA x1;omega
   have y0:J1[0]?=some (.box (z.row.map .f) 0):=by rw [hJ1,ag (by omega)];exact x0
   have y1:J1[1]?=some (.box (jy z (.sl b 0 o.length 0 ep 2) (cyc z.c)) 0):=by rw [hJ1,ag (by omega)];exact x1
   have yr:J1[J.length]?=some (.box (o[i].row.map .f) 0):=by rw [hJ1];simp
   have idx:∀ {K:Heap} (_:RB K b 2 ep (aS o)) (k:Nat),k<o.length→aP K 2 none (.c (.sl b 0 o.length 0 ep 2)) (vi k)=some (.c (.ptr b (k*2) ep)):=fun hK k hk=>by
    have:=hK.idx (n:=o.length) (c:=0) (k:=.i64) (o:=0) (i:=(k:Int)) (by omega) (by omega)
    simpa using this
   have Wy:∀ k:Nat,(hk:k<o.length)→ldV J1 none (.c (.ptr b (k*2) ep))=some (vi o[k].at_):=fun k hk=>by
    have:=hb3.ldc hgr (fO (ae hk)) (k:=0) (x:=fi o[k].at_) rfl;simpa using this
   have rw1:=hb2.ldr hgr (fO (ae hil));have l15:ldV J1 none (.c (.ptr J.length 0 0))=some (vi o[i].at_):=by simp [ldV,yr,aF,TrD.row,aO]
   have hb0:=hbd _ (aw o0);have hbi:=hbd _ (aw hil);unfold AtB at hb0 hbi;have i0:=idx hb3 0 o0;have l0:=Wy 0 o0;simp [-ak]at i0 l0;have ii:=idx hb2 i hil;have hmin:=(Qu (agU y1 hc) ⟨_,_,y1⟩ (by omega) (by omega)).eq
   have w2:IntKind.i64.wrap (o[0].at_+cyc z.c*1440)=o[0].at_+cyc z.c*1440:=wrap64 (by omega) (by omega)
   have w3:IntKind.i64.wrap ((i:Int)+1)=(i:Int)+1:=wrap64 (by omega) (by omega)
   have hrr:o[i].row.map C.f=[.f (fi o[i].at_),.f (fi o[i].off)]:=rfl;refine aB ?_;refine kw_sr ?_;rw [hrr]at rw1 hJ1;simp [QM,ha,ii,rw1,-ak];rw [←hJ1];refine kw_seq (wY (.inl rfl) ?_ ?_)
   case refine_2=>
    intro c hcm;have hcc:c=(3,11)∨c=(4,11)∨c=(6,11):=by simpa using hcm
    rcases hcc with rfl | rfl | rfl
    all_goals
     refine⟨by decide,_,rfl,.inl ⟨by decide,?_⟩⟩
     simp [g4,AQ y1 hc,i0,l0,hmin,w2,yP,-ak]
     first | rfl | simp [V.beq,C.beq,FC.beq]
   simp [g4,AQ y1 hc,i0,l0,hmin,w2,-ak]
   have hsp:2160≤gQ o (cyc z.c*1440) i-o[i].at_:=by
    have h1:=bi.1 hs i (by simpa using hil)
    simp only [ae hil]at h1;exact of_decide_eq_true h1
   have tail:∀ t:T,t.g 4=.c (.ptr 1 0 0)→t.g 119=.c (.sl b 0 o.length 0 ep 2)→t.g 121=vi (i:Nat)→t.g 120=vi o.length→t.g 15=.c (.ptr J.length 0 0)→t.g 16=vi (gQ o (cyc z.c*1440) i)→gQ o (cyc z.c*1440) i≤900000 →
     WP tab.get oq none [.code Ht,.inBlock 5,.code (WJ 121 158),.inLoop (zx 4 121 120 122 158 Hu),.inBlock 4,.code Hr] ⟨t,[],J1⟩ Q:=by
    intro t g4 QM a5Q a5R g15 g16 n1;refine kw_sr ?_;simp [g15,g16,l15,-ak,wrap64 (n:=gQ o (cyc z.c*1440) i-o[i].at_) (by omega) (by omega)]
    refine ah (by simp;omega) (aG (au ?_))
    exact nx _ _ ⟨y0,y1,.inr ⟨hne,b,ep,by rw [qp],hb3⟩,by simp [g4],by simp [QM]⟩ (by simp [a5Q]) (by simp [a5R])
   refine kw_seq ?_;by_cases hnx:i+1<o.length
   ·have i1:=idx hb3 (i+1) hnx;have l1:=Wy (i+1) hnx;have hb1:=hbd _ (aw hnx);unfold AtB at hb1;rw [show((i+1:Nat):Int)=(i:Int)+1 by omega]at i1
    have hn:gQ o (cyc z.c*1440) i=o[i+1].at_:=by simp [gQ,ae hnx]
    rw [hn]at tail hsp;refine kw_sr ?_;simp [g4,AQ y1 hc,w3,hb3.len,-ak];refine aj (by simp;omega) ?_
    refine kw_region (.inl rfl) ?_;simp [g4,AQ y1 hc,w3,i1,l1,-ak];exact tail _ (by simp [g4]) (by simp [QM]) (by simp [ha]) (by simp [hb]) (by simp) (by simp) (by omega)
   ·have hn:gQ o (cyc z.c*1440) i=o[0].at_+cyc z.c*1440:=by
     simp [gQ,cW.2 (show o.length≤i+1 by omega),ae o0]
    rw [hn]at tail hsp;refine kw_sr ?_;simp [g4,AQ y1 hc,w3,hb3.len,-ak];refine ah (by simp;omega) (aG ?_)
    exact tail _ (by simp [g4]) (by simp [QM]) (by simp [ha]) (by simp [hb]) (by simp) (by simp) (by omega)
  ·clear g4 x0 x1 hL2;rintro t J ⟨x0,x1,hL,g4,QM⟩ ha hb;obtain⟨g',hg'⟩:=hL.ex (dD _) 62;refine kw_sr ?_;simp [g4];refine aH (hQ _ _ (.t [.c (.f (.fp (z.row++[sl g' (aS o),fi (cyc z.c)]) 0)),vb true]) ⟨g',rfl⟩ ?_)
   have hx:aZ (exC 63 J) (jy z cl (cyc z.c))=some (z.row++[sl g' (aS o),fi (cyc z.c)]):=by
    refine lG (zF _) ?_;have:exC 63 J cl=some (sl g' (aS o)):=hg';simp [aZ,this,exC]
   simp [exV,dG,deep,aZ,g4,exC,x1,hx]
 exact⟨g,Km.Pure.eq hp⟩
end
section
theorem afp(z:ZD)(hc:z.c<3)(hz:z.yr=[]):Km.Pure tab.get oq [z.v]=Eq (.t [.c (.f (.fp (z.row++[.aC,fi 1]) 0)),vb true]):=Km.Pure.eq (by
 refine bU ah4 rfl fun Q hQ=>?_
 refine kw_sr ?_;simp;have hz0:([.box (z.row.map .f) 0]:Heap)[0]?=some (.box (z.row.map .f) 0):=rfl;have hl8:=ZD.BD hc;have hd:List.drop 10 (z.row.map C.f++[C.f .aC,C.f (fi 0)])=[]:=List.drop_eq_nil_of_le (by simp [hl8])
 refine kw_sr ?_;simp [iL hz0 hc,-ak,hl8,List.take_append,bu,hd];have aTu:z.row.map C.f++[C.f .aC,C.f (.int .i64 1)]=jy z (.f .aC) 1:=rfl;rw [aTu];have k0:([.box (z.row.map .f) 0,.box (jy z (.f .aC) 1) 0]:Heap)[0]?=some (.box (z.row.map .f) 0):=rfl;refine kw_seq ?_;refine kw_sr ?_;have hsl:∀ H:Heap,bQ H (.f (sl z.yg (bV z.yr)))=some 0:=by intro H;rw [hz];cases z.yg<;>rfl
 simp [kU k0 hc,-ak,hsl];refine aj (by simp [hz]) ?_
 refine kw_sr ?_;simp;refine aH (hQ _ _ ?_)
 have hx:∀ J:Heap,aZ (exC 63 J) (jy z (.f .aC) 1)=some (z.row++[.aC,fi 1]):=fun J=>by
  refine lG (zF _) ?_;simp [aZ,exC]
 simp [dG,deep,aZ,exC,hx])
end
section
end
section
def turns(o:List TrD)(size t:Int):Int:=match o[0]? with
 | some x=>if x.at_<t then(t-x.at_) / size else 0
 | none=>0
def lY(o:List TrD)(size t k:Int):Option TrD:=(o.find? fun x=>decide (t≤x.at_+k*size)).map fun x=>⟨x.at_+k*size,x.off⟩
def aft(o:List TrD)(size t:Int):Option TrD:=(lY o size t (turns o size t)).or (lY o size t (turns o size t+1))
theorem UW{p:TrD→Bool}{l:List TrD}{i:Nat}{x:TrD}(h:l[i]?=some x)(h0:∀ j y,j<i→l[j]?=some y→p y=false)(hp:p x=true):l.find? p=some x:=by
 obtain⟨hi,rfl⟩:=ai.1 h;rw [el];exact⟨hp,i,hi,rfl,fun j hj=>by have:=h0 j l[j] hj (ae (by omega));simpa using this⟩
theorem Ri(g:Tg)(o:List TrD)(h0:0<o.length)(hl:o.length≤1000)(hbd:∀ x ∈ o,AtB x)(n t:Int)(n0:1≤n)(n1:n≤1000)(t0:-1000000≤t)(t1:t≤1000000) :
  ∃ x,aft o (n*1440) t=some x∧Km.Pure tab.get G6 [.c (.f (sl g (aS o))),vi n,vi t]=Eq (.t [.a (x.row.map .f),vb true]):=by
 obtain⟨rr,⟨x,hx,rfl⟩,hp⟩:∃ rr,(∃ x,aft o (n*1440) t=some x∧rr=.t [.a (x.row.map .f),vb true])∧Km.Pure tab.get G6 [.c (.f (sl g (aS o))),vi n,vi t] rr:=by
  refine dN aPm rfl fun Q hQ=>?_
  have hb0:=hbd _ (aw h0);unfold AtB at hb0;obtain⟨K,hK⟩:∃ K,K=turns o (n*1440) t:=⟨_,rfl⟩;have hKd:K=if o[0].at_<t then(t-o[0].at_) / (n*1440)else 0:=by rw [hK];simp [turns,ae h0]
  have hs0:0<n*1440:=by omega
  have q0:=cU (t-o[0].at_) (n*1440);have q1:=cq (t-o[0].at_) (show n*1440≠0 by omega)
  have q2:=cr (t-o[0].at_) hs0;have hK0:0≤K:=by rw [hKd];split;exact dx (by omega) (by omega);omega
  have hKs:K*(n*1440)≤2000000∧t≤o[0].at_+(K+1)*(n*1440):=by
   rw [hKd];split
   ·rw [dT,dt,dk ((t-o[0].at_) / (n*1440))];omega
   ·omega
  have a5N:0≤K*(n*1440):=ew hK0 (by omega)
  have hK1:K≤2000000:=by
   have:K*1≤K*(n*1440):=Int.mul_le_mul_of_nonneg_left (by omega) hK0
   omega
  have hgr:=dD o
  have hlen:∀ H:Heap,bQ H (.f (sl g (aS o)))=some o.length:=fun H=>by
   have hne:¬ (aS o).isEmpty=true:=by
    intro h;have:o=[]:=by simpa [aS]using h
    subst this;simp at h0
   simp [sl,hne,bQ]
  have idx:∀(H:Heap) (i:Nat),i<o.length→aP H 2 none (.c (.f (sl g (aS o)))) (vi i)=some (.c (.f (.fp (aS o).flatten (i*2)))):=fun H i hi=>by
   have:=iq (H:=H) (g:=g) (rows:=aS o) (sz:=2) (k:=.i64) (i:=(i:Int)) (by omega) (by simp;omega)
   simpa using this
  have lat:∀(H:Heap) (i:Nat) (hi:i<o.length),ldV H none (.c (.f (.fp (aS o).flatten (i*2))))=some (vi o[i].at_):=fun H i hi=>mP hgr (fO (ae hi)) rfl
  have lof:∀(H:Heap) (i:Nat) (hi:i<o.length),ldV H none (.c (.f (.fp (aS o).flatten (i*2+1))))=some (vi o[i].off):=fun H i hi=>rG (k:=1) hgr (fO (ae hi)) rfl
  have i0:=fun H=>idx H 0 h0
  have l0:=fun H=>lat H 0 h0
  simp only [Nat.zero_mul,ec]at i0 l0;refine kw_sr ?_;simp;refine kw_seq ?_;refine kw_sr ?_;simp [hlen];refine ah (by simp;rintro rfl;simp at h0) (aG ?_)
  refine kw_sr ?_;simp [wrap64 (n:=n*1440) (by omega) (by omega)]
  refine kw_sr ?_;simp;refine kw_seq ?_
  have main:∀ t':T,t'.g 0=.c (.f (sl g (aS o)))→t'.g 2=vi t→t'.g 6=.c (.ptr 0 0 0)→t'.g 8=vi (n*1440)→t'.g 9=vi K→WP tab.get G6 none [.code Om] ⟨t',[],[.box [.f (fi 0),.f (fi 0)] 0]⟩ Q:=by
   intro t' g0 g2 g6 g8 g9;refine kw_sr ?_;simp [g9];refine aB ?_
   refine bM (fun m s=>∃(e:Int) (t':T),s=⟨t',[],[.box [.f (fi 0),.f (fi 0)] 0]⟩∧(e=0∧m=1∨e=1∧m=0∧lY o (n*1440) t K=none)∧t'.g 0=.c (.f (sl g (aS o)))∧t'.g 2=vi t∧t'.g 6=.c (.ptr 0 0 0)∧t'.g 8=vi (n*1440)∧t'.g 10=vi (K+e)) 1
    ⟨0,_,rfl,.inl ⟨rfl,rfl⟩,by simp [g0],by simp [g2],by simp [g6],by simp [g8],by simp⟩ ?_
   clear g0 g2 g6 g8 g9;rintro m s ⟨e,t',rfl,he,g0,g2,g6,g8,g10⟩ ih
   have hKe:0≤(K+e)*(n*1440)∧(K+e)*(n*1440)≤4000000:=by
    rcases he with⟨rfl,-⟩ | ⟨rfl,-⟩
    ·rw [d7];omega
    ·rw [dT,dt];omega
   refine kw_seq ?_;refine aB ?_;refine kw_sr ?_;simp;refine aB ?_
   refine bM (fun m' s=>∃(i:Nat) (t':T),s=⟨t',[],[.box [.f (fi 0),.f (fi 0)] 0]⟩∧m'=o.length-i∧i≤o.length∧(∀ j y,j<i→o[j]?=some y→decide (t≤y.at_+(K+e)*(n*1440))=false) ∧
     t'.g 0=.c (.f (sl g (aS o)))∧t'.g 2=vi t∧t'.g 6=.c (.ptr 0 0 0)∧t'.g 8=vi (n*1440)∧t'.g 10=vi (K+e)∧t'.g 11=vi (i:Nat)) o.length
    ⟨0,_,rfl,rfl,by omega,fun j y h=>absurd h (by omega),by simp [g0],by simp [g2],by simp [g6],by simp [g8],by simp [g10],by simp⟩ ?_
   clear g0 g2 g6 g8 g10;rintro m' s ⟨i,t',rfl,rfl,hi,hno,g0,g2,g6,g8,g10,g11⟩ ih2;refine kw_seq ?_;refine kw_sr ?_;simp [g0,g11,hlen];by_cases hil:i<o.length
   case neg=>
    have hnone:lY o (n*1440) t (K+e)=none:=by
     have:o.find? (fun x=>decide (t≤x.at_+(K+e)*(n*1440)))=none:=by
      rw [d4];intro x hx;obtain⟨j,hj,rfl⟩:=bq hx;have:=hno j o[j] (by omega) (ae hj)
      simp [this]
     simp [lY,this]
    rcases he with⟨rfl,rfl⟩ | ⟨rfl,rfl,-⟩
    ·rw [d7]at hnone;refine ah (by simp;omega) ?_
     refine bC (k':=[.inBlock 1,.code Oj,.inLoop Ol,.inBlock 0]) rfl ?_;refine au ?_;refine kw_region (.inl rfl) ?_;simp [g10,wrap64 (n:=K+1) (by omega) (by omega)]
     exact ih 0 _ (by omega) ⟨1,_,rfl,.inr ⟨rfl,rfl,hnone⟩,by simp [g0],by simp [g2],by simp [g6],by simp [g8],by simp⟩
    ·exfalso;have:=hno 0 o[0] (by omega) (ae h0)
     have h2:=of_decide_eq_false this;exact h2 hKs.2
   refine aj (by simp [hil]) (aG ?_)
   refine kw_seq ?_;refine aB ?_;have hbi:=hbd _ (aw hil);unfold AtB at hbi;have ii:=fun H=>idx H i hil
   have li:=fun H=>lat H i hil
   have oi:=fun H=>lof H i hil
   have w1:IntKind.i64.wrap ((K+e)*(n*1440))=(K+e)*(n*1440):=wrap64 (by omega) (by omega)
   have w2:IntKind.i64.wrap (o[i].at_+(K+e)*(n*1440))=o[i].at_+(K+e)*(n*1440):=wrap64 (by omega) (by omega)
   refine kw_sr ?_;simp [g0,g2,g8,g10,g11,ii,li,w1,w2];by_cases hge:t≤o[i].at_+(K+e)*(n*1440)
   ·refine aj (by simp [hge]) ?_
    refine kw_sr ?_;simp [g0,g6,g8,g10,g11,ii,li,oi,w1,w2]
    have hfk:lY o (n*1440) t (K+e)=some ⟨o[i].at_+(K+e)*(n*1440),o[i].off⟩:=by
     have:=UW (p:=fun x=>decide (t≤x.at_+(K+e)*(n*1440))) (ae hil) (fun j y hj hy=>hno j y hj hy) (by simp [hge])
     simp [lY,this]
    have hfin:aft o (n*1440) t=some ⟨o[i].at_+(K+e)*(n*1440),o[i].off⟩:=by
     unfold aft;rw [←hK];rcases he with⟨rfl,-⟩ | ⟨rfl,-,hn⟩
     ·rw [d7]at hfk ⊢;rw [hfk];rfl
     ·rw [hn,hfk];rfl
    refine aH (hQ _ _ _ ⟨_,hfin,rfl⟩ ?_);simp [TrD.row,g6]
   ·refine ah (by simp;omega) (aG (au ?_))
    refine kw_region (.inl rfl) ?_;simp [g11,wrap64 (n:=(i:Int)+1) (by omega) (by omega)]
    refine ih2 (o.length-(i+1)) _ (by omega) ⟨i+1,_,rfl,rfl,by omega,fun j y hj hy=>?_,by simp [g0],by simp [g2],by simp [g6],by simp [g8],by simp [g10],by simp⟩
    by_cases hji:j=i
    ·subst hji;rw [ae hil]at hy;cases hy;exact decide_eq_false hge
    ·exact hno j y (by omega) hy
  by_cases hlt:o[0].at_<t
  ·rw [if_pos hlt]at hKd;have hqv:bW .quo (vi (t-o[0].at_)) (vi (n*1440))=some (vi K):=by rw [hKd];exact afR (by omega) hs0 (by omega)
   refine kw_sr ?_;simp [i0,l0];refine aj (by simp [hlt]) ?_
   refine kw_region (.inl rfl) ?_;simp [i0,l0,wrap64 (n:=t-o[0].at_) (by omega) (by omega),hqv]
   exact main _ (by simp) (by simp) (by simp) (by simp) (by simp)
  ·rw [if_neg hlt]at hKd;refine kw_sr ?_;simp [i0,l0];refine bD (by simp [hlt]) ?_
   exact main _ (by simp) (by simp) (by simp) (by simp) (by simp [hKd])
 exact⟨x,hx,Km.Pure.eq hp⟩
end
section
def Mem(o:List TrD)(size:Int)(x:TrD):Prop:=∃(k:Nat) (y:TrD),y ∈ o∧x=⟨y.at_+k*size,y.off⟩
def aIA(tr o:List TrD)(size hor:Int)(x:TrD):Prop:=x ∈ tr∨Mem o size x∧hor≤x.at_
def Last(P:TrD→Prop)(t:Int):Option TrD→Prop
 | some x=>P x∧x.at_≤t∧∀ y,P y→y.at_≤t→y.at_≤x.at_
 | none=>∀ y,P y→t<y.at_
def Apart(P:TrD→Prop):Prop:=∀ x y,P x→P y→x.at_+2160≤y.at_∨y.at_+2160≤x.at_∨x=y
theorem Last.uniq{P:TrD→Prop}{t:Int}(hA:Apart P):∀ {r q:Option TrD},Last P t r→Last P t q→r=q
 | none,none,_,_=>rfl
 | none,some y,h1,h2=>by have h3:=h1 y h2.1;have h4:=h2.2.1;omega
 | some x,none,h1,h2=>by have h3:=h2 x h1.1;have h4:=h1.2.1;omega
 | some x,some y,h1,h2=>by
  have a:=h1.2.2 y h2.1 h2.2.1;have b:=h2.2.2 x h1.1 h1.2.1;rcases hA x y h1.1 h2.1 with h | h | h
  ·omega
  ·omega
  ·rw [h]
theorem Last.back{P:TrD→Prop}{t s:Int}{x:TrD}(h:Last P t (some x))(h1:x.at_≤s)(h2:s≤t):Last P s (some x):=⟨h.1,h1,fun y hy hs=>h.2.2 y hy (by omega)⟩
theorem Last.F6{P:TrD→Prop}{t s:Int}(h:Last P t none)(h2:s≤t):Last P s none:=fun y hy=>by have:=h y hy;omega
section
variable{o:List TrD}{size:Int}
theorem jd(h:fF o size=true){i j:Nat}(hij:i<j)(hj:j<o.length):o[i].at_+2160≤o[j].at_:=by
 have h1:=FQ h i o[i] o[i+1] (ae (by omega)) (ae (by omega))
 rcases cD (show i+1≤j by omega)with h2 | h2
 ·have h3:=bL.1 (oL h) (i+1) j (by omega) hj h2
  unfold TLt at h3;omega
 ·subst h2;exact h1
theorem KI(h:fF o size=true){i:Nat}(hi:i<o.length):o[i].at_+2160≤(o[0]'(by omega)).at_+size:=by
 have hn:o.length-1<o.length:=by omega
 have h1:=bi.1 h (o.length-1) (by simpa using hn)
 simp only [ae hn,gQ,cW.2 (show o.length≤o.length-1+1 by omega),ae (show 0<o.length by omega)]at h1
 have h2:=of_decide_eq_true h1;rcases cD (show i≤o.length-1 by omega)with h3 | h3
 ·have:=jd h h3 hn;omega
 ·subst h3;omega
theorem nR{k m:Nat}(hs:0≤size)(h:k<m):(k:Int)*size+size≤(m:Int)*size:=by
 have:=Int.mul_le_mul_of_nonneg_right (show((k:Int)+1)≤(m:Int) by omega) hs
 rw [dT,dt]at this;exact this
theorem kF(h:fF o size=true){x:TrD}(hx:x ∈ o):∃ h0:0<o.length,o[0].at_≤x.at_∧x.at_+2160≤o[0].at_+size:=by
 obtain⟨i,hi,rfl⟩:=bq hx;refine⟨by omega,?_,KI h hi⟩
 rcases cB i with rfl | h1
 ·omega
 ·have:=jd h h1 hi;omega
theorem V7(h:fF o size=true)(hs:0≤size):Apart (Mem o size):=by
 rintro x y ⟨k,a,ha,rfl⟩ ⟨m,b,hb,rfl⟩;obtain⟨h0,a1,a2⟩:=kF h ha;obtain⟨_,b1,b2⟩:=kF h hb;simp only;rcases co k m with e | e | e
 ·have:=nR hs e;left;omega
 ·subst e;obtain⟨i,hi,rfl⟩:=bq ha;obtain⟨j,hj,rfl⟩:=bq hb;rcases co i j with e | e | e
  ·have:=jd h e hj;left;omega
  ·subst e;right;right;rfl
  ·have:=jd h e hi;right;left;omega
 ·have:=nR hs e;right;left;omega
theorem BU(h:fF o size=true){t k:Int}{x:TrD}(hx:lY o size t k=some x):(∃ y ∈ o,x=⟨y.at_+k*size,y.off⟩)∧t≤x.at_∧∀ b ∈ o,t≤b.at_+k*size→x.at_≤b.at_+k*size:=by
 unfold lY at hx;rw [aq]at hx;obtain⟨y,hy,rfl⟩:=hx;rw [el]at hy;obtain⟨hp,i,hi,rfl,hn⟩:=hy;have hp:=of_decide_eq_true hp;refine⟨⟨_,aw hi,rfl⟩,hp,fun b hb hbt=>?_⟩
 obtain⟨j,hj,rfl⟩:=bq hb;rcases co i j with e | e | e
 ·have:=jd h e hj;simp only;omega
 ·subst e;exact dl _
 ·have h1:=hn j e;simp at h1;omega
theorem U9{t k:Int}(hx:lY o size t k=none):∀ b ∈ o,b.at_+k*size<t:=by
 intro b hb;unfold lY at hx;rw [Option.map_eq_none_iff,d4]at hx;have:=hx b hb;simp at this;exact this
theorem aUe(h:fF o size=true)(hs:0<size){t:Int}{x:TrD}(hx:aft o size t=some x):∀ y,Mem o size y→t≤y.at_→x.at_≤y.at_:=by
 rintro y ⟨m,b,hb,rfl⟩ hy;simp only at hy ⊢;obtain⟨h0,b1,b2⟩:=kF h hb;have hK:turns o size t=if o[0].at_<t then(t-o[0].at_) / size else 0:=by unfold turns;rw [ae h0]
 have hK0:0≤turns o size t:=by rw [hK];split;exact dx (by omega) (by omega);omega
 have q0:=cU (t-o[0].at_) size;have q1:=cq (t-o[0].at_) (show size≠0 by omega)
 have hKt:turns o size t=0∨o[0].at_+turns o size t*size≤t:=by
  rw [hK];split
  ·right;rw [dk];omega
  ·left;rfl
 obtain⟨K,eK⟩:∃ K:Nat,turns o size t=(K:Int):=⟨(turns o size t).toNat,by omega⟩
 unfold aft at hx;rw [eK]at hx hKt
 have hmK:K≤m:=by
  rcases Nat.lt_or_ge m K with e | e
  ·exfalso;have h1:=nR (size:=size) (by omega) e
   rcases hKt with h2 | h2
   ·omega
   ·omega
  ·exact e
 cases h1:lY o size t (K:Int)with
 | some z=>
  rw [h1]at hx;simp at hx;subst hx;obtain⟨⟨w,hw,rfl⟩,_,h3⟩:=BU h h1;obtain⟨_,w1,w2⟩:=kF h hw;rcases cD hmK with e | e
  ·have:=nR (size:=size) (by omega) e;simp only;omega
  ·subst e;exact h3 b hb hy
 | none=>
  rw [h1]at hx;simp at hx;have h3:=U9 h1;rcases cD hmK with e | e
  ·obtain⟨⟨w,hw,rfl⟩,_,h4⟩:=BU h hx;obtain⟨_,w1,w2⟩:=kF h hw;rcases cD (show K+1≤m by omega)with e2 | e2
   ·have:=nR (size:=size) (by omega) e2
    rw [show((K+1:Nat):Int)=(K:Int)+1 by omega]at this
    simp only;omega
   ·subst e2;rw [show((K+1:Nat):Int)=(K:Int)+1 by omega]at hy ⊢
    exact h4 b hb hy
  ·subst e;have:=h3 b hb;omega
end
structure OKZ(z:ZD)(o:List TrD):Prop where
 c:z.c<3
 st:-1080≤z.start∧z.start≤1080
 tl:z.tr.length≤3
 tb:∀ x ∈ z.tr,0≤x.at_∧x.at_<z.hor∧-1080≤x.off∧x.off≤1080
 ts:∀(i:Nat) x y,z.tr[i]?=some x→z.tr[i+1]?=some y→x.at_+2160≤y.at_
 ho:0≤z.hor∧z.hor≤40000
 y:(z.yr=[]∧o=[])∨∃ r q,z.yr=[r,q]∧r.OK∧q.OK∧iP (vX z.c r q (nY z.c)) o∧fF o (Go.Proofs.YtmbjejcfadllnaaGreat.cyc z.c*1440)=true ∧
  ∀ x a,aft o (Go.Proofs.YtmbjejcfadllnaaGreat.cyc z.c*1440) z.hor=some x→a ∈ z.tr→a.at_+2160≤x.at_
theorem zh:∀ {l:List TrD},(∀(i:Nat) x y,l[i]?=some x→l[i+1]?=some y→x.at_+2160≤y.at_)→∀(i j:Nat) (hij:i<j) (hj:j<l.length),l[i].at_+2160≤l[j].at_:=by
 intro l h i j hij hj;have h1:=h i l[i] l[i+1] (ae (by omega)) (ae (by omega))
 rcases cD (show i+1≤j by omega)with h2 | h2
 ·have h3:=bL.1 (vC h) (i+1) j (by omega) hj h2
  unfold TLt at h3;omega
 ·subst h2;exact h1
theorem OKZ.aIo{z:ZD}{o:List TrD}(h:OKZ z o):1≤z.cyc∧z.cyc≤217:=by
 unfold ZD.cyc;split
 ·omega
 ·have:cyc z.c=91∨cyc z.c=217:=by unfold cyc lW;split<;>simp
  omega
theorem OKZ.sp{z:ZD}{o:List TrD}(h:OKZ z o):fF o (z.cyc*1440)=true:=by
 rcases h.y with⟨e,rfl⟩ | ⟨r,q,e,-,-,-,hs,-⟩
 ·rfl
 ·have:z.cyc=cyc z.c:=by simp [ZD.cyc,e]
  rw [this];exact hs
theorem OKZ.apart{z:ZD}{o:List TrD}(h:OKZ z o):Apart (aIA z.tr o (z.cyc*1440) z.hor):=by
 have hc:=h.aIo;have hm:=V7 h.sp (by omega)
 have cross:∀ x y,x ∈ z.tr→Mem o (z.cyc*1440) y→z.hor≤y.at_→x.at_+2160≤y.at_:=by
  intro x y hx hy hh;rcases h.y with⟨e,rfl⟩ | ⟨r,q,e,-,-,-,hs,ha⟩
  ·obtain⟨k,b,hb,_⟩:=hy;cases hb
  ·have hcy:z.cyc=cyc z.c:=by simp [ZD.cyc,e]
   rw [←hcy]at ha;have hsp:=h.sp
   cases hf:aft o (z.cyc*1440) z.hor with
   | some w=>
    have h1:=aUe hsp (by omega) hf y hy hh
    have h2:=ha w x hf hx
    omega
   | none=>
    exfalso;obtain⟨k,b,hb,rfl⟩:=hy;obtain⟨h0,b1,b2⟩:=kF hsp hb;unfold aft at hf;simp only [Option.or_eq_none_iff]at hf;have h3:=U9 hf.2 _ (aw h0);have hK:turns o (z.cyc*1440) z.hor=if o[0].at_<z.hor then(z.hor-o[0].at_) / (z.cyc*1440)else 0:=by unfold turns;rw [ae h0]
    have q0:=cU (z.hor-o[0].at_) (z.cyc*1440);have q2:=cr (z.hor-o[0].at_) (show 0<z.cyc*1440 by omega)
    rw [dT,dt,hK]at h3;split at h3
    ·rw [dk ((z.hor-o[0].at_) / (z.cyc*1440))]at h3;omega
    ·omega
 rintro x y (hx | ⟨hx,hx'⟩) (hy | ⟨hy,hy'⟩)
 ·obtain⟨i,hi,rfl⟩:=bq hx;obtain⟨j,hj,rfl⟩:=bq hy;rcases co i j with e | e | e
  ·left;exact zh h.ts i j e hj
  ·subst e;right;right;rfl
  ·right;left;exact zh h.ts j i e hi
 ·left;exact cross x y hx hy hy'
 ·right;left;exact cross y x hy hx hx'
 ·exact hm x y hx hy
end
section
def ckR(z:ZD)(g:Tg)(o:List TrD):List FC:=z.row++[sl g (aS o),fi z.cyc]
abbrev ckV(z:ZD)(g:Tg)(o:List TrD):V:=.c (.f (.fp (ckR z g o) 0))
section
variable{H:Heap}{z:ZD}{g:Tg}{o:List TrD}
theorem aSN(hc:z.c<3):ldV H none (.c (.f (.fp (ckR z g o) 4)))=some (vi z.start):=by
 obtain⟨c,s,tg,tr,h',yg,yr⟩:=z;have:c=0∨c=1∨c=2:=by simp at hc;omega
 rcases this with rfl | rfl | rfl<;>simp [ldV,aF,ckR,ZD.row,jV,aO]
theorem QF(hc:z.c<3):ldV H none (.c (.f (.fp (ckR z g o) 5)))=some (.c (.f (sl z.tg (aS z.tr)))):=by
 obtain⟨c,s,tg,tr,h',yg,yr⟩:=z;have:c=0∨c=1∨c=2:=by simp at hc;omega
 rcases this with rfl | rfl | rfl<;>simp [ldV,aF,ckR,ZD.row,jV,aO]
theorem agV(hc:z.c<3):ldV H none (.c (.f (.fp (ckR z g o) 6)))=some (vi z.hor):=by
 obtain⟨c,s,tg,tr,h',yg,yr⟩:=z;have:c=0∨c=1∨c=2:=by simp at hc;omega
 rcases this with rfl | rfl | rfl<;>simp [ldV,aF,ckR,ZD.row,jV,aO]
theorem yj(hc:z.c<3):ldV H none (.c (.f (.fp (ckR z g o) 8)))=some (.c (.f (sl g (aS o)))):=by
 obtain⟨c,s,tg,tr,h',yg,yr⟩:=z;have:c=0∨c=1∨c=2:=by simp at hc;omega
 rcases this with rfl | rfl | rfl<;>simp [ldV,aF,ckR,ZD.row,jV,aO]
theorem aYw(hc:z.c<3):ldV H none (.c (.f (.fp (ckR z g o) 9)))=some (vi z.cyc):=by
 obtain⟨c,s,tg,tr,h',yg,yr⟩:=z;have:c=0∨c=1∨c=2:=by simp at hc;omega
 rcases this with rfl | rfl | rfl<;>simp [ldV,aF,ckR,ZD.row,jV,aO]
end
theorem minutes_fev{z:ZD}{g:Tg}{o:List TrD}(hc:z.c<3)(h0:0≤z.cyc)(h1:z.cyc≤1000000)(H:Heap) :
  Ev tab.get (.fn oZ) [ckV z g o] H (vi (z.cyc*1440)) H:=by
 obtain⟨r,H',he,rfl,rfl⟩:∃ r H',Ev tab.get (.fn oZ) [ckV z g o] H r H'∧r=vi (z.cyc*1440)∧H'=H:=by
  refine fV ah5 rfl fun Q hQ=>?_
  refine kw_sr ?_;simp;refine kw_sr ?_;simp [aYw hc,wrap64 (n:=z.cyc*1440) (by omega) (by omega)]
  exact aH (hQ _ _ _ rfl (res_one (by simp)) ⟨rfl,rfl⟩)
 exact he
section
variable{g:Tg}{o:List TrD}
theorem PX(H:Heap)(h0:0<o.length):bQ H (.f (sl g (aS o)))=some o.length:=by
 have hne:¬ (aS o).isEmpty=true:=by
  intro h;have:o=[]:=by simpa [aS]using h
  subst this;simp at h0
 simp [sl,hne,bQ]
theorem kQ(H:Heap){i:Nat}(hi:i<o.length):aP H 2 none (.c (.f (sl g (aS o)))) (vi i)=some (.c (.f (.fp (aS o).flatten (i*2)))):=by
 have:=iq (H:=H) (g:=g) (rows:=aS o) (sz:=2) (k:=.i64) (i:=(i:Int)) (by omega) (by simp;omega)
 simpa using this
theorem CV(H:Heap){i:Nat}(hi:i<o.length):ldV H none (.c (.f (.fp (aS o).flatten (i*2))))=some (vi o[i].at_):=mP (dD o) (fO (ae hi)) rfl
theorem zl(H:Heap){i:Nat}(hi:i<o.length):ldV H (some 2) (.c (.f (.fp (aS o).flatten (i*2))))=some (.a (o[i].row.map .f)):=mM (dD o) (fO (ae hi))
end
theorem all2b_self{α:Type}{f:α→α→Bool}:∀ {xs:List α},(∀ x ∈ xs,f x x=true)→all2b f xs xs=true
 | [],_=>rfl
 | x::xs,h=>by simp only [all2b,h x bh,all2b_self fun y hy=>h y (List.mem_cons_of_mem _ hy),Bool.and_self]
theorem uT{n:Nat}{xs:List FC}(h:∀ x ∈ xs,∃ k m,x=FC.int k m):all2b (FC.beq n) xs xs=true:=all2b_self fun x hx=>by
 obtain⟨k,m,rfl⟩:=h x hx;cases n<;>simp [FC.beq]
theorem xI(o:List TrD):∀ x ∈ (aS o).flatten,∃ k m,x=FC.int k m:=by
 intro x hx;obtain⟨r,hr,hx⟩:=List.mem_flatten.1 hx;obtain⟨y,-,rfl⟩:=cK.1 hr;simp [TrD.row]at hx;rcases hx with rfl | rfl<;>exact⟨_,_,rfl⟩
theorem ahT(g:Tg)(o:List TrD):FC.beq 64 (sl g (aS o)) (sl g (aS o))=true:=by
 unfold sl;split
 ·cases g<;>rfl
 ·simp [FC.beq,uT (xI o)]
def rnd(o:List TrD)(size t:Int):Int:=match o[0]? with
 | some x=>max (t-x.at_) 0 / size
 | none=>0
theorem KY{z:ZD}{g:Tg}{o:List TrD}(hc:z.c<3)(hy0:1≤z.cyc)(hy1:z.cyc≤217)(h0:0<o.length)(hb:AtB o[0]){t:Int}(t0:-10000000≤t)(t1:t≤10000000) :
  Km.Pure tab.get JU [ckV z g o,vi t]=Eq (vi (rnd o (z.cyc*1440) t)):=Km.Pure.eq (by
 refine bU aUt rfl fun Q hQ=>?_
 unfold AtB at hb;have i0:=fun H=>kQ (g:=g) H h0
 have l0:=fun H=>CV H h0
 simp only [Nat.zero_mul,ec]at i0 l0;have hm:=fun H=>(minutes_fev (g:=g) (o:=o) hc (by omega) (by omega) H).eq
 have hr:rnd o (z.cyc*1440) t=max (t-o[0].at_) 0 / (z.cyc*1440):=by unfold rnd;rw [ae h0]
 have hq:bW .quo (vi (max (t-o[0].at_) 0)) (vi (z.cyc*1440))=some (vi (max (t-o[0].at_) 0 / (z.cyc*1440))):=afR (by omega) (by omega) (by omega)
 refine kw_sr ?_;simp;refine kw_seq (wY (.inl rfl) ?_ ?_)
 case refine_2=>
  intro c hcm;have hcc:c=(4,14)∨c=(5,14)∨c=(7,14):=by simpa using hcm
  rcases hcc with rfl | rfl | rfl
  all_goals
   refine⟨by decide,_,rfl,.inl ⟨by decide,?_⟩⟩
   simp [yj hc,i0,l0,hm,yP,wrap64 (n:=t-o[0].at_) (by omega) (by omega),hq]
   first | rfl | exact ahT g o | exact uT (xI o) | simp [V.beq,C.beq,FC.beq,uT (xI o)]
 simp [yj hc,i0,l0,hm,wrap64 (n:=t-o[0].at_) (by omega) (by omega),hq]
 refine aH (hQ _ _ ?_)
 simp [hr])
end
section
theorem WA(x:TrD)(t:Int):Kf tab.get uY [.a (x.row.map .f),vi t] (vi (rU x.at_ t)):=by
 refine yw aUv rfl fun H Q hQ=>?_
 refine kw_sr ?_;simp [TrD.row];refine kw_sr ?_;simp [xu];refine aH (hQ _ _ ?_);simp
theorem BQ{a b:Int}:0≤rU a b↔b≤a:=by unfold rU;split<;>(try split)<;>omega
theorem MZ{a b:Int}:0<rU a b↔b<a:=by unfold rU;split<;>(try split)<;>omega
theorem bsT(g:Tg)(l:List TrD)(hs:l.Pairwise TLt)(hl:l.length≤1000)(t:Int):∃(i:Nat) (w:Bool),i≤l.length∧(∀ j (hj:j<l.length),j<i→l[j].at_<t)∧(∀ j (hj:j<l.length),i≤j→t≤l[j].at_)∧(w=true↔∃ h:i<l.length,l[i].at_=t) ∧
  Km.Pure tab.get Ey [.c (.f (sl g (aS l))),vi t,.c (.f (.fn uY []))]=Eq (.t [vi i,vb w]):=by
 have hF:tab.get Ey=some (ahK 2):=aU1;have hrow:∀(j:Nat) (hj:j<(aS l).length),(aS l)[j]=(l[j]'(by simpa using hj)).row:=fun j hj=>by simp [aS]
 obtain⟨i,h1,h2,h3,w,h4,h5⟩:=ahJ hF g (aS l) (dD l) (.c (.f (.fn uY []))) (fi t) (fun r=>rU (Bl r).at_ t) (by simp;omega)
  (fun r hr=>by
   obtain⟨x,-,rfl⟩:=cK.1 hr
   exact⟨uY,_,by simp [dh],WA x t⟩)
  (fun i j hi hj h=>by
   have hjl:j<l.length:=by simpa using hj
   have hil:i<l.length:=by omega
   simp only [hrow]at h ⊢;have:=bL.1 hs i j hil hjl hi;unfold TLt at this;rw [BQ]at h;rw [MZ]
   show t<l[j].at_
   have h:t≤l[i].at_:=h
   omega)
 refine⟨i,w,by simpa using h1,fun j hj hji=>?_,fun j hj hji=>?_,?_,h5⟩
 ·have:=h2 j (by simpa using hj) hji
  rw [hrow,uQ]at this;exact this
 ·have:=h3 j (by simpa using hj) hji
  rw [hrow,BQ]at this;exact this
 ·rw [h4];constructor
  ·rintro⟨h,e⟩;rw [hrow,vP]at e;exact⟨by simpa using h,e⟩
  ·rintro⟨h,e⟩;refine⟨by simpa using h,?_⟩
   rw [hrow,vP];exact e
theorem Vt{o:List TrD}{size t:Int}(h:fF o size=true)(hs:0<size)(h0:0<o.length)(ht:o[0].at_≤t){i:Nat}(hi:i<o.length)(hn:∀ j (hj:j<o.length),i<j→t-(t-o[0].at_) / size*size<o[j].at_) :
  ∀ y,Mem o size y→y.at_≤t→y.at_≤o[i].at_+(t-o[0].at_) / size*size:=by
 rintro y ⟨m,b,hb,rfl⟩ hy;simp only at hy ⊢;have q0:=cU (t-o[0].at_) size;have q1:=cq (t-o[0].at_) (show size≠0 by omega)
 have q2:=cr (t-o[0].at_) hs;have hK:0≤(t-o[0].at_) / size:=dx (by omega) (by omega)
 rw [dk]at q0;obtain⟨K,eK⟩:∃ K:Nat,(t-o[0].at_) / size=(K:Int):=⟨((t-o[0].at_) / size).toNat,by omega⟩
 rw [eK]at q0 hn ⊢;obtain⟨_,b1,b2⟩:=kF h hb;obtain⟨_,a1,a2⟩:=kF h (aw hi);rcases co m K with e | e | e
 ·have:=nR (size:=size) (by omega) e;omega
 ·subst e;obtain⟨j,hj,rfl⟩:=bq hb;rcases co i j with e | e | e
  ·have:=hn j hj e;omega
  ·subst e;exact dl _
  ·have:=jd h e hi;omega
 ·have:=nR (size:=size) (by omega) e;omega
theorem aHt{z:ZD}{o:List TrD}(h:OKZ z o)(hb:∀ x ∈ o,AtB x)(hl:o.length≤100)(g:Tg)(t:Int)(t0:-10000000≤t)(t1:t≤10000000) :
  ∃ r:Option TrD,Last (aIA z.tr o (z.cyc*1440) z.hor) t r∧Km.Pure tab.get rY [ckV z g o,vi t]=Eq (.t [.a ((r.getD ⟨0,0⟩).row.map .f),vb r.isSome]):=by
 obtain⟨rr,⟨r,hr,rfl⟩,hp⟩:∃ rr,(∃ r:Option TrD,Last (aIA z.tr o (z.cyc*1440) z.hor) t r∧rr=.t [.a ((r.getD ⟨0,0⟩).row.map .f),vb r.isSome])∧Km.Pure tab.get rY [ckV z g o,vi t] rr:=by
  have hc:=h.c;have hcy:=h.aIo;have hsp:=h.sp;have hst:=vC h.ts;have htl:=h.tl;refine dN aUw rfl fun Q hQ=>?_
  refine kw_sr ?_;simp;refine kw_sr ?_;simp;refine kw_seq ?_
  have fin:(∀ y,Mem o (z.cyc*1440) y→z.hor≤y.at_→t<y.at_)→∀(t':T) (H:Heap),H[0]?=some (.box [.f (fi 0),.f (fi 0)] 0)→t'.g 0=ckV z g o→t'.g 1=vi t→t'.g 4=.c (.ptr 0 0 0)→t'.g 6=.c (.f (.fn uY [])) →
    WP tab.get rY none [.code Ag] ⟨t',[],H⟩ Q:=by
   intro hno t' H hH g0 g1 g4 g6;obtain⟨i,w,hi,i1,i2,hw,hbs⟩:=bsT z.tg z.tr hst (by omega) t
   have hlt:=aA hH;refine kw_sr ?_;simp [g0,g1,g6,QF hc,hbs]
   have tail:∀(k:Nat) (hk:k<z.tr.length),z.tr[k].at_≤t→(∀ j (hj:j<z.tr.length),k<j→t<z.tr[j].at_)→∀ t':T,t'.g 0=ckV z g o→t'.g 4=.c (.ptr 0 0 0)→t'.g 11=vi (k:Nat)→WP tab.get rY none [.code H9] ⟨t',[],H⟩ Q:=by
    intro k hk k1 k2 t' g0 g4 g11;have ii:=kQ (g:=z.tg) H hk;have ll:=zl H hk;refine kw_seq ?_;refine kw_sr ?_;simp [g11];refine bD (by simp) ?_
    refine kw_sr ?_;simp [g0,g4,g11,QF hc,ii,ll,hH,TrD.row];refine aH (hQ _ _ _ ⟨some z.tr[k],⟨.inl (aw hk),k1,?_⟩,rfl⟩ ?_)
    ·rintro y (hy | ⟨hy,hy'⟩) hyt
     ·obtain⟨j,hj,rfl⟩:=bq hy;rcases co k j with e | e | e
      ·have:=k2 j hj e;omega
      ·subst e;exact dl _
      ·have:=zh h.ts j k e hk;omega
     ·have:=hno y hy hy';omega
    ·simp [TrD.row,g4,hlt]
   refine kw_seq ?_;refine kw_sr ?_;simp
   cases w with
   | true=>
    obtain⟨hil,e⟩:=hw.1 rfl;refine bD (by simp) ?_
    exact tail i hil (by omega) (fun j hj hij=>by have:=zh h.ts i j hij hj;omega) _ (by simp [g0]) (by simp [g4]) (by simp)
   | false=>
    refine aj (by simp) ?_
    refine kw_region (.inl rfl) ?_;simp [wrap64 (n:=(i:Int)-1) (by omega) (by omega)]
    have hi2:∀ j (hj:j<z.tr.length),i≤j→t<z.tr[j].at_:=by
     intro j hj hij;have a:=i2 j hj hij;rcases cD hij with e | e
     ·have b:=i2 i (by omega) (ax _)
      have:=zh h.ts i j e hj;omega
     ·subst e;rcases Int.lt_or_eq_of_le a with e | e
      ·exact e
      ·exact absurd (hw.2 ⟨hj,e.symm⟩) (by simp)
    by_cases h0:i=0
    ·subst h0;refine kw_seq ?_;refine kw_sr ?_;simp;refine aj (by simp) ?_
     refine kw_sr ?_;simp [g4,hH];refine aH (hQ _ _ _ ⟨none,?_,rfl⟩ ?_)
     ·rintro y (hy | ⟨hy,hy'⟩)
      ·obtain⟨j,hj,rfl⟩:=bq hy;exact hi2 j hj (by omega)
      ·exact hno y hy hy'
     ·simp [TrD.row,g4,hlt]
    ·obtain⟨k,rfl⟩:∃ k,i=k+1:=⟨i-1,by omega⟩
     rw [show(((k+1:Nat):Int)-1)=(k:Int) by omega]
     exact tail k (by omega) (by have:=i1 k (by omega) (by omega);omega) (fun j hj hkj=>hi2 j hj (by omega)) _ (by simp [g0]) (by simp [g4]) (by simp)
  refine kw_seq ?_;by_cases h0:0<o.length
  case neg=>
   have:o=[]:=aD (by omega)
   subst this;have hsl:∀ H:Heap,bQ H (.f (sl g (aS [])))=some 0:=by intro H;cases g<;>rfl
   refine kw_region (.inl rfl) ?_;simp [yj hc,hsl];refine bD (by simp) ?_
   exact fin (fun y hy _=>by obtain⟨k,b,hb,_⟩:=hy;cases hb) _ _ rfl (by simp) (by simp) (by simp) (by simp)
  have hb0:=hb _ (aw h0);have i0:=fun H=>kQ (g:=g) H h0
  have l0:=fun H=>CV H h0
  simp only [Nat.zero_mul,ec]at i0 l0;refine kw_region (.inl rfl) ?_;simp [yj hc,PX _ h0,i0,l0,h0];by_cases hge:o[0].at_≤t
  case neg=>
   refine bD (by simp [hge]) ?_
   refine fin (fun y hy _=>?_) _ _ rfl (by simp) (by simp) (by simp) (by simp)
   obtain⟨k,b,hb',rfl⟩:=hy;obtain⟨_,b1,b2⟩:=kF hsp hb';have:0≤(k:Int)*(z.cyc*1440):=ew (by omega) (by omega)
   simp only;omega
  refine aj (by simp [hge]) ?_
  have hrd:=KY (g:=g) hc hcy.1 hcy.2 h0 hb0 t0 t1;have hmi:=(minutes_fev (g:=g) (o:=o) hc (by omega) (by omega) [.box [.f (fi 0),.f (fi 0)] 0]).eq
  unfold AtB at hb0
  have hrv:rnd o (z.cyc*1440) t=(t-o[0].at_) / (z.cyc*1440):=by
   unfold rnd;rw [ae h0];simp only;rw [Int.max_eq_left (by omega)]
  rw [hrv]at hrd;have q0:=cU (t-o[0].at_) (z.cyc*1440);have q1:=cq (t-o[0].at_) (show z.cyc*1440≠0 by omega)
  have q2:=cr (t-o[0].at_) (show 0<z.cyc*1440 by omega)
  rw [dk]at q0;have hK0:0≤(t-o[0].at_) / (z.cyc*1440):=dx (by omega) (by omega)
  have hBm:0≤(t-o[0].at_) / (z.cyc*1440)*(z.cyc*1440):=ew hK0 (by omega)
  have hyl:=fun i hi hn=>Vt (t:=t) hsp (by omega) h0 hge (i:=i) hi hn
  obtain⟨B,hB⟩:∃ B,B=(t-o[0].at_) / (z.cyc*1440)*(z.cyc*1440):=⟨_,rfl⟩;have hmem:∀ i (hi:i<o.length),Mem o (z.cyc*1440) ⟨o[i].at_+B,o[i].off⟩:=fun i hi=>⟨((t-o[0].at_) / (z.cyc*1440)).toNat,o[i],aw hi,by rw [dg hK0,hB]⟩
  rw [←hB]at q0 hBm hyl;refine kw_sr ?_;simp [hrd,hmi,←hB,wrap64 (n:=B) (by omega) (by omega)]
  obtain⟨i,w,hi,i1,i2,hw,hbs⟩:=bsT g o (oL hsp) (by omega) (t-B)
  refine kw_sr ?_;simp [yj hc,wrap64 (n:=t-B) (by omega) (by omega),hbs]
  have tail:∀(k:Nat) (hk:k<o.length),o[k].at_≤t-B→(∀ j (hj:j<o.length),k<j→t-B<o[j].at_)→∀ t':T,t'.g 0=ckV z g o→t'.g 1=vi t→t'.g 4=.c (.ptr 0 0 0)→t'.g 6=.c (.f (.fn uY []))→t'.g 7=vi B→t'.g 8=vi (k:Nat)→WP tab.get rY none [.code Ia,.code Ag] ⟨t',[],[.box [.f (fi 0),.f (fi 0)] 0]⟩ Q:=by
   intro k hk k1 k2 t' g0 g1 g4 g6 g7 g8;have ii:=fun H=>kQ (g:=g) H hk
   have ll:=fun H=>zl H hk
   have hbk:=hb _ (aw hk);unfold AtB at hbk;have hmax:=hyl k hk k2;refine kw_sr ?_;simp [g0,g8,yj hc,ii,ll,TrD.row];refine kw_seq ?_;refine kw_region (.inl rfl) ?_;simp [g0,g7,agV hc,wrap64 (n:=o[k].at_+B) (by omega) (by omega)]
   by_cases hh:z.hor≤o[k].at_+B
   ·refine aj (by simp [hh]) ?_
    refine kw_sr ?_;simp [g7,wrap64 (n:=o[k].at_+B) (by omega) (by omega)]
    refine kw_sr ?_;simp [g4,aO];refine aH (hQ _ _ _ ⟨some ⟨o[k].at_+B,o[k].off⟩,⟨.inr ⟨hmem k hk,hh⟩,by show o[k].at_+B≤t;omega,?_⟩,rfl⟩ ?_)
    ·rintro y (hy | ⟨hy,hy'⟩) hyt
     ·have:=(h.tb y hy).2.1
      show y.at_≤o[k].at_+B
      omega
     ·exact hmax y hy hyt
    ·simp [TrD.row,g4]
   ·refine ah (by simp;omega) (aG ?_)
    refine fin (fun y hy hyh=>?_) _ _ rfl (by simp [g0]) (by simp [g1]) (by simp [g4]) (by simp [g6])
    rcases Int.lt_or_le t y.at_ with e | e
    ·exact e
    ·have:=hmax y hy e;omega
  refine kw_seq ?_;refine kw_sr ?_;simp
  cases w with
  | true=>
   obtain⟨hil,e⟩:=hw.1 rfl;refine bD (by simp) ?_
   exact tail i hil (by omega) (fun j hj hij=>by have:=jd hsp hij hj;omega) _ (by simp) (by simp) (by simp) (by simp) (by simp) (by simp)
  | false=>
   refine aj (by simp) ?_
   refine kw_region (.inl rfl) ?_;simp [wrap64 (n:=(i:Int)-1) (by omega) (by omega)]
   have hi2:∀ j (hj:j<o.length),i≤j→t-B<o[j].at_:=by
    intro j hj hij;have a:=i2 j hj hij;rcases cD hij with e | e
    ·have b:=i2 i (by omega) (ax _)
     have:=jd hsp e hj;omega
    ·subst e;rcases Int.lt_or_eq_of_le a with e | e
     ·exact e
     ·exact absurd (hw.2 ⟨hj,e.symm⟩) (by simp)
   have h0i:i≠0:=by
    rintro rfl;have:=hi2 0 h0 (ax _);omega
   obtain⟨k,rfl⟩:∃ k,i=k+1:=⟨i-1,by omega⟩
   rw [show(((k+1:Nat):Int)-1)=(k:Int) by omega]
   exact tail k (by omega) (by have:=i1 k (by omega) (by omega);omega) (fun j hj hkj=>hi2 j hj (by omega)) _ (by simp) (by simp) (by simp) (by simp) (by simp) (by simp)
 exact⟨r,hr,Km.Pure.eq hp⟩
end
section
theorem Dq{c y:Nat}{r q:YrD}(hr:r.OK):∀ x ∈ iD c (y+1) r q,-1080≤x.off∧x.off≤1080:=by
 intro x hx;obtain⟨-,-,-,-,-,-,p0,p1⟩:=hr;simp only [iD]at hx;split at hx
 ·simp only [List.mem_singleton]at hx;subst hx;exact⟨p0,p1⟩
 ·cases hx
theorem Lh{c:Nat}{r q:YrD}(hr:r.OK)(hq:q.OK):∀ n,∀ x ∈ vX c r q n,-1080≤x.off∧x.off≤1080
 | 0,x,hx=>by cases hx
 | n+1,x,hx=>by
  simp only [vX,cA]at hx;rcases hx with hx | hx | hx
  ·exact Lh hr hq n x hx
  ·exact Dq hr x hx
  ·exact Dq hq x hx
section
variable{z:ZD}{o:List TrD}
theorem OKZ.bd(h:OKZ z o):∀ x ∈ o,AtB x∧-1080≤x.off∧x.off≤1080:=by
 rcases h.y with⟨-,rfl⟩ | ⟨r,q,e,hr,hq,hi,-,-⟩
 ·intro x hx;cases hx
 ·exact fun x hx=>⟨xR h.c hr hq _ (ax _) x (hi.perm.subset hx),Lh hr hq _ x (hi.perm.subset hx)⟩
theorem OKZ.len(h:OKZ z o):o.length≤28:=by
 rcases h.y with⟨-,rfl⟩ | ⟨r,q,e,hr,hq,hi,-,-⟩
 ·simp
 ·have h1:=nK z.c r q (nY z.c);have h2:=F8 z.c;have:=hi.len;omega
abbrev OKZ.S{z:ZD}{o:List TrD}(_:OKZ z o):TrD→Prop:=aIA z.tr o (z.cyc*1440) z.hor
theorem OKZ.off(h:OKZ z o){x:TrD}(hx:h.S x):-1080≤x.off∧x.off≤1080:=by
 rcases hx with hx | ⟨⟨k,b,hb,rfl⟩,_⟩
 ·exact(h.tb x hx).2.2
 ·exact(h.bd b hb).2
theorem OKZ.last(h:OKZ z o)(g:Tg){t:Int}(t0:-10000000≤t)(t1:t≤10000000) :
  ∃ r:Option TrD,Last h.S t r∧Km.Pure tab.get rY [ckV z g o,vi t]=Eq (.t [.a ((r.getD ⟨0,0⟩).row.map .f),vb r.isSome]):=
 aHt h (fun x hx=>(h.bd x hx).1) (by have:=h.len;omega) g t t0 t1
end
def offO(z:ZD):Option TrD→Int
 | some x=>x.off
 | none=>z.start
theorem OKZ.offO{z:ZD}{o:List TrD}(h:OKZ z o){t:Int}{r:Option TrD}(hr:Last h.S t r):-1080≤offO z r∧offO z r≤1080:=by
 cases r with
 | none=>exact h.st
 | some x=>exact h.off hr.1
theorem zC{z:ZD}{o:List TrD}(h:OKZ z o)(g:Tg){t:Int}(t0:-10000000≤t)(t1:t≤10000000) :
  ∃ r:Option TrD,Last h.S t r∧Km.Pure tab.get Et [ckV z g o,vi t]=Eq (vi (offO z r)):=by
 obtain⟨r,hr,hl⟩:=h.last g t0 t1;refine⟨r,hr,Km.Pure.eq ?_⟩;have hc:=h.c;refine bU aUu rfl fun Q hQ=>?_
 refine kw_sr ?_;simp;refine kw_seq ?_;refine kw_sr ?_;simp [hl,TrD.row];refine kw_seq ?_;refine kw_region (.inl rfl) ?_;simp
 cases r with
 | some x=>
  refine aj (by simp) ?_
  refine kw_sr ?_;simp;refine aH (hQ _ _ ?_)
  simp [Go.Proofs.YtmbjejcfadllnaaGreat.offO]
 | none=>
  refine bD (by simp) ?_
  refine kw_sr ?_;simp [aSN hc];refine aH (hQ _ _ ?_);simp [Go.Proofs.YtmbjejcfadllnaaGreat.offO]
end
section
def Keeps(H J:Heap):Prop:=∀(i:Nat) y,H[i]?=some y→J[i]?=some y
theorem Keeps.refl(H:Heap):Keeps H H:=fun _ _ h=>h
theorem Keeps.push{H J:Heap}(h:Keeps H J)(L:Heap):Keeps H (J++L):=fun i y hy=>by have:=h i y hy;rw [ag (aA this)];exact this
theorem Keeps.set{H J:Heap}(h:Keeps H J){i:Nat}{x:Blk}(hx:H[i]?=some x):Keeps H (J.set i x):=fun k y hy=>by
 by_cases e:i=k
 ·subst e;rw [hx]at hy;cases hy;exact az (aA (h i _ hx))
 ·rw [am e];exact h k y hy
theorem Vy{o:List TrD}{size t:Int}(h0:0<o.length):rnd o size t=turns o size t:=by
 unfold rnd turns;rw [ae h0];simp only;split
 ·rw [Int.max_eq_left (by omega)]
 ·rw [Int.max_eq_right (by omega)];simp
theorem UQ{z:ZD}{o:List TrD}(h:OKZ z o)(g:Tg){b bc bt:Nat}{H:Heap}{PP:Heap→Prop}
  (hbc:H[bc]?=some (.box [.f (.fp (ckR z g o) 0)] 0)) (hbt:H[bt]?=some (.box [.f (fi z.hor)] 0))
  (h0:o=[]→∀ J,Keeps H J→PP J)
  (hy:∀ x,aft o (z.cyc*1440) z.hor=some x→∀ J,Keeps H J→∃ J',Ev tab.get (.yield b) [.a (x.row.map .f)] J (vb false) J'∧PP J') :
  ∃ r H',Ev tab.get (.fn uZ) [.c (.yl b),.c (.ptr bc 0 0),.c (.ptr bt 0 0)] H r H'∧(r=.t []∧PP H'):=by
 have hc:=h.c;have hcy:=h.aIo;have hsp:=h.sp;have hho:=h.ho;refine fV aUy rfl fun Q hQ=>?_
 have kc:∀ J,Keeps H J→J[bc]?=some (.box [.f (.fp (ckR z g o) 0)] 0):=fun J hJ=>hJ _ _ hbc
 have kt:∀ J,Keeps H J→J[bt]?=some (.box [.f (fi z.hor)] 0):=fun J hJ=>hJ _ _ hbt
 refine kw_seq ?_;refine kw_sr ?_;simp [hbc,aO,QF hc]
 refine kV z.tr.length (fun j t J=>Keeps H J∧t.g 0=.c (.yl b)∧t.g 1=.c (.ptr bc 0 0)∧t.g 2=.c (.ptr bt 0 0)∧t.g 13=.c (.f (sl z.tg (aS z.tr)))) (by have:=h.tl;omega) (by decide) (by decide) (by simp) (by simp)
  ⟨Keeps.refl H,by simp,by simp,by simp,by simp⟩ ?_ ?_
 ·rintro j t J hj ⟨hJ,g0,g1,g2,g13⟩ ha hb nx;have hii:=kQ (g:=z.tg) J hj;have hll:=zl J hj;have hlt:=(h.tb _ (aw hj)).2.1;have e1:Keeps H (J++[.box (z.tr[j].row.map .f) 0]):=hJ.push _;have e2:=kt _ e1;simp only [TrD.row,aM,ba]at hll e1 e2;refine aB ?_;refine kw_sr ?_;simp [g13,ha,hii,hll];refine kw_sr ?_;simp [g2,e2,aO,show¬ z.hor≤z.tr[j].at_ by omega]
  refine ah (by simp) (aG (au ?_))
  exact nx _ _ ⟨e1,by simp [g0],by simp [g1],by simp [g2],by simp [g13]⟩ (by simp [ha]) (by simp [hb])
 rintro t J ⟨hJ,g0,g1,g2,g13⟩ ha hb;refine kw_seq ?_;have hJc:=kc J hJ;have hJt:=kt J hJ;by_cases ho:o=[]
 ·subst ho;have hsl:∀ H:Heap,bQ H (.f (sl g (aS [])))=some 0:=by intro H;cases g<;>rfl
  refine kw_sr ?_;simp [g1,hJc,aO,yj hc,hsl];refine aj (by simp) ?_
  exact aH (hQ _ _ _ rfl rfl ⟨rfl,h0 rfl J hJ⟩)
 have o0:0<o.length:=cN.2 ho;have hb0:=(h.bd _ (aw o0)).1;refine kw_sr ?_;simp [g1,hJc,aO,yj hc,PX _ o0];refine bD (by simp [ho]) ?_
 refine kw_sr ?_;simp [g1,g2,hJc,hJt,aO,agV hc];obtain⟨J1,hJ1⟩:∃ J1:Heap,J1=J.set bt (.box [.f (fi z.hor)] 0):=⟨_,rfl⟩;have hK1:Keeps H J1:=by rw [hJ1];exact hJ.set hbt
 rw [←hJ1];clear hJc hJt hJ hJ1;have hJc:=kc J1 hK1;have hJt:=kt J1 hK1;have hmi:=(minutes_fev (g:=g) (o:=o) hc (by omega) (by omega) J1).eq
 have hrd:=KY (g:=g) (t:=z.hor) hc hcy.1 hcy.2 o0 hb0 (by omega) (by omega)
 rw [Vy o0]at hrd;unfold AtB at hb0;obtain⟨K,hK⟩:∃ K,K=turns o (z.cyc*1440) z.hor:=⟨_,rfl⟩;have hKd:K=if o[0].at_<z.hor then(z.hor-o[0].at_) / (z.cyc*1440)else 0:=by rw [hK];simp [turns,ae o0]
 have hs0:0<z.cyc*1440:=by omega
 have q0:=cU (z.hor-o[0].at_) (z.cyc*1440);have q1:=cq (z.hor-o[0].at_) (show z.cyc*1440≠0 by omega)
 have q2:=cr (z.hor-o[0].at_) hs0;have hK0:0≤K:=by rw [hKd];split;exact dx (by omega) (by omega);omega
 have hKs:K*(z.cyc*1440)≤2000000∧z.hor≤o[0].at_+(K+1)*(z.cyc*1440):=by
  rw [hKd];split
  ·rw [dT,dt,dk ((z.hor-o[0].at_) / (z.cyc*1440))];omega
  ·omega
 have a5N:0≤K*(z.cyc*1440):=ew hK0 (by omega)
 rw [←hK]at hrd;refine kw_sr ?_;simp [g1,g2,hJc,hJt,aO,hrd,hmi,wrap64 (n:=K*(z.cyc*1440)) (by omega) (by omega)]
 refine aB ?_
 refine bM (fun m s=>∃(e:Int) (t':T) (J:Heap),s=⟨t',[],J⟩∧Keeps H J∧(e=0∧m=1∨e=1∧m=0∧lY o (z.cyc*1440) z.hor K=none)∧t'.g 0=.c (.yl b)∧t'.g 1=.c (.ptr bc 0 0)∧t'.g 2=.c (.ptr bt 0 0)∧t'.g 6=vi ((K+e)*(z.cyc*1440))) 1
  ⟨0,_,J1,rfl,hK1,.inl ⟨rfl,rfl⟩,by simp [g0],by simp [g1],by simp [g2],by simp⟩ ?_
 clear g0 g1 g2 hK1 hJc hJt hmi;rintro m s ⟨e,t',J,rfl,hJ,he,g0,g1,g2,g6⟩ ih
 have hKe:0≤(K+e)*(z.cyc*1440)∧(K+e)*(z.cyc*1440)≤4000000:=by
  rcases he with⟨rfl,-⟩ | ⟨rfl,-⟩
  ·rw [d7];omega
  ·rw [dT,dt];omega
 have hJc:=kc J hJ;refine kw_seq ?_;refine aB ?_;refine kw_sr ?_;simp [g1,hJc,aO,yj hc,PX _ o0]
 refine kV o.length (fun j t J=>Keeps H J∧(∀ i y,i<j→o[i]?=some y→decide (z.hor≤y.at_+(K+e)*(z.cyc*1440))=false)∧t.g 0=.c (.yl b)∧t.g 1=.c (.ptr bc 0 0)∧t.g 2=.c (.ptr bt 0 0)∧t.g 6=vi ((K+e)*(z.cyc*1440))∧t.g 56=.c (.f (sl g (aS o)))) (by have:=h.len;omega) (by decide) (by decide) (by simp) (by simp)
  ⟨hJ,fun i y hi=>absurd hi (by omega),by simp [g0],by simp [g1],by simp [g2],by simp [g6],by simp⟩ ?_ ?_
 ·clear hJ hJc g0 g1 g2 g6;rintro j t J hj ⟨hJ,hno,g0,g1,g2,g6,g56⟩ ha hb' nx;have hii:=kQ (g:=g) J hj;have hll:=zl J hj;have hbj:=(h.bd _ (aw hj)).1;unfold AtB at hbj;have w1:IntKind.i64.wrap (o[j].at_+(K+e)*(z.cyc*1440))=o[j].at_+(K+e)*(z.cyc*1440):=wrap64 (by omega) (by omega)
  simp only [TrD.row,aM,ba]at hll;have e1:Keeps H (J++[.box [.f (fi (o[j].at_+(K+e)*(z.cyc*1440))),.f (fi o[j].off)] 0]):=hJ.push _;have e2:=kt _ e1;refine aB ?_;refine kw_sr ?_;simp [g56,ha,hii,hll];refine kw_sr ?_;simp [g6,w1];by_cases hge:z.hor≤o[j].at_+(K+e)*(z.cyc*1440)
  ·have hfk:lY o (z.cyc*1440) z.hor (K+e)=some ⟨o[j].at_+(K+e)*(z.cyc*1440),o[j].off⟩:=by
    have:=UW (p:=fun x=>decide (z.hor≤x.at_+(K+e)*(z.cyc*1440))) (ae hj) (fun i y hi hy=>hno i y hi hy) (by simp [hge])
    simp [lY,this]
   have hfin:aft o (z.cyc*1440) z.hor=some ⟨o[j].at_+(K+e)*(z.cyc*1440),o[j].off⟩:=by
    unfold aft;rw [←hK];rcases he with⟨rfl,-⟩ | ⟨rfl,-,hn⟩
    ·rw [d7]at hfk ⊢;rw [hfk];rfl
    ·rw [hn,hfk];rfl
   obtain⟨J',hev,hPP⟩:=hy _ hfin _ e1;simp only [TrD.row,aM,ba]at hev;refine kw_sr ?_;simp [g0,g2,e2,aO,hge,hev.eq];refine aj (by simp) ?_
   exact aH (hQ _ _ _ rfl rfl ⟨rfl,hPP⟩)
  ·refine kw_sr ?_;simp [g2,e2,aO,hge];refine ah (by simp) (aG (au ?_))
   refine nx _ _ ⟨e1,fun i y hi hy=>?_,by simp [g0],by simp [g1],by simp [g2],by simp [g6],by simp [g56]⟩ (by simp [ha]) (by simp [hb'])
   by_cases hji:i=j
   ·subst hji;rw [ae hj]at hy;cases hy;exact decide_eq_false hge
   ·exact hno i y (by omega) hy
 ·clear hJ hJc g0 g1 g2 g6;rintro t J ⟨hJ,hno,g0,g1,g2,g6,g56⟩ ha hb'
  have hnone:lY o (z.cyc*1440) z.hor (K+e)=none:=by
   have:o.find? (fun x=>decide (z.hor≤x.at_+(K+e)*(z.cyc*1440)))=none:=by
    rw [d4];intro x hx;obtain⟨j,hj,rfl⟩:=bq hx;have:=hno j o[j] hj (ae hj);simp [this]
   simp [lY,this]
  rcases he with⟨rfl,rfl⟩ | ⟨rfl,rfl,-⟩
  ·rw [d7]at hnone g6;have hJc:=kc J hJ;have hmi:=(minutes_fev (g:=g) (o:=o) hc (by omega) (by omega) J).eq
   refine au ?_;refine kw_region (.inl rfl) ?_
   have hw:IntKind.i64.wrap (K*(z.cyc*1440)+z.cyc*1440)=(K+1)*(z.cyc*1440):=by
    rw [wrap64 (by omega) (by omega),dT,dt]
   simp [g1,g6,hJc,aO,hmi,hw];exact ih 0 _ (by omega) ⟨1,_,J,rfl,hJ,.inr ⟨rfl,rfl,hnone⟩,by simp [g0],by simp [g1],by simp [g2],by simp⟩
  ·exfalso;have:=hno 0 o[0] o0 (ae o0);have h2:=of_decide_eq_false this;exact h2 hKs.2
end
section
theorem agT{H:Heap}{b fl:Nat}{z:ZD}(h:H[b]?=some (.box (z.row.map .f) fl))(hc:z.c<3):∃ cs,ldV H none (.c (.ptr b 1 0))=some (.c (.f (.fs cs 2))):=by
 obtain⟨c,s,tg,tr,h',yg,yr⟩:=z;have:c=0∨c=1∨c=2:=by simp at hc;omega
 rcases this with rfl | rfl | rfl<;>exact⟨_,by simp [ldV,aF,h,ZD.row,jV,aO];rfl⟩
theorem aH8(x:FC)(t:Int)(H:Heap):Ev tab.get (.fn JV) [.c (.f x),vi t] H (.c (.cl uZ [.ptr H.length 0 0,.ptr (H.length+1) 0 0])) (H++[.box [.f x] 0,.box [.f (fi t)] 0]):=by
 obtain⟨r,H',he,rfl,rfl⟩:∃ r H',Ev tab.get (.fn JV) [.c (.f x),vi t] H r H'∧r=.c (.cl uZ [.ptr H.length 0 0,.ptr (H.length+1) 0 0])∧H'=H++[.box [.f x] 0,.box [.f (fi t)] 0]:=by
  refine fV aUz rfl fun Q hQ=>?_
  refine kw_sr ?_;simp;refine kw_sr ?_;simp;exact aH (hQ _ _ _ rfl (res_one (by simp)) ⟨rfl,rfl⟩)
 exact he
theorem OKZ.tick{z:ZD}{o:List TrD}(h:OKZ z o):∃ g,Km.Pure tab.get oq [z.v]=Eq (.t [ckV z g o,vb true]):=by
 rcases h.y with⟨e,rfl⟩ | ⟨r,q,e,hr,hq,hi,hs,ha⟩
 ·refine⟨.nil,?_⟩;have hcy:z.cyc=1:=by simp [ZD.cyc,e]
  rw [afp z h.c e,ckV,ckR,hcy];rfl
 ·obtain⟨g,hg⟩:=aEC z h.c e hr hq hi hs;refine⟨g,?_⟩;have hcy:z.cyc=cyc z.c:=by simp [ZD.cyc,e]
  rw [hg,ckV,ckR,hcy]
end
section
theorem OKZ.aUf{z:ZD}{o:List TrD}(h:OKZ z o){x:TrD}(hx:aft o (z.cyc*1440) z.hor=some x):0≤x.at_∧x.at_≤10000000:=by
 have hcy:=h.aIo;have hho:=h.ho
 have o0:0<o.length:=by
  rcases cB o.length with e | e
  ·have:o=[]:=cQ.1 e;subst this;simp [aft,lY]at hx
  ·exact e
 have hb0:=(h.bd _ (aw o0)).1;unfold AtB at hb0;have hK:turns o (z.cyc*1440) z.hor=if o[0].at_<z.hor then(z.hor-o[0].at_) / (z.cyc*1440)else 0:=by unfold turns;rw [ae o0]
 have q0:=cU (z.hor-o[0].at_) (z.cyc*1440);have q1:=cq (z.hor-o[0].at_) (show z.cyc*1440≠0 by omega)
 have hKs:turns o (z.cyc*1440) z.hor*(z.cyc*1440)≤2000000:=by
  rw [hK];split
  ·rw [dk];omega
  ·omega
 have key:∀ k,k*(z.cyc*1440)≤4000000→lY o (z.cyc*1440) z.hor k=some x→0≤x.at_∧x.at_≤10000000:=by
  intro k hk hx;obtain⟨⟨y,hy,rfl⟩,h2,-⟩:=BU h.sp hx;have:=(h.bd _ hy).1;unfold AtB at this;simp only at h2 ⊢;omega
 unfold aft at hx
 cases h1:lY o (z.cyc*1440) z.hor (turns o (z.cyc*1440) z.hor)with
 | some w=>
  rw [h1]at hx;simp at hx;subst hx
  exact key _ (by omega) h1
 | none=>
  rw [h1]at hx;simp at hx;exact key _ (by rw [dT,dt];omega) hx
theorem VU{z:ZD}{o:List TrD}(h:OKZ z o)(g:Tg){Q:Option ACode→St→Prop}
  (hQ:∀ j s r,r=.t [ckV z g o,vb true]→yT [.cell (P.nat 2) none,.cell (P.nat 3) none] r s∨aVb [.cell (P.nat 2) none,.cell (P.nat 3) none] r s→Q j s)
  (t:T) (J:Heap) (n8:Nat) (g1:t.g 1=.c (.ptr 0 0 0)) (g2:t.g 2=.c (.ptr 1 0 0)) (g3:t.g 3=.c (.ptr 2 0 0)) (g8:t.g 8=.c (.ptr n8 0 0))
  (x0:J[0]?=some (.box (z.row.map .f) 0)) (x1:J[1]?=some (.box [.f .jY] 0)) (x2:J[2]?=some (.box [.f (.bool false)] 0)) (x8:J[n8]?=some (.box [.f (.fp (ckR z g o) 0)] 0)) (h8:2<n8) :
  WP tab.get iY none [.code H7] ⟨t,[],J⟩ Q:=by
 have hc:=h.c
 have fin:∀(t:T) (J:Heap) (ds:List gI),t.g 8=.c (.ptr n8 0 0)→t.g 2=.c (.ptr 1 0 0)→t.g 3=.c (.ptr 2 0 0) →
   J[1]?=some (.box [.f .jY] 0)→J[2]?=some (.box [.f (.bool false)] 0)→J[n8]?=some (.box [.f (.fp (ckR z g o) 0)] 0) →
   (ds=[]∨∃ b,ds=[.coll b]∧2<b∧J[b]?=some (.dfr true))→WP tab.get iY none [.code Af] ⟨t,ds,J⟩ Q:=by
  intro t J ds g8 g2 g3 x1 x2 x8 hds;have q1:(J.set 1 (.box [.f (.fp (ckR z g o) 0)] 0))[2]?=some (.box [.f (.bool false)] 0):=by rw [am (by decide)];exact x2
  refine kw_sr ?_;simp [g8,g2,g3,x8,x1,aO,q1,List.length_set];obtain⟨K,hK⟩:∃ K:Heap,K=(J.set 1 (.box [.f (.fp (ckR z g o) 0)] 0)).set 2 (.box [.f (.bool true)] 0):=⟨_,rfl⟩;have l1:=aA x1;have l2:=aA x2;have k1:K[1]?=some (.box [.f (.fp (ckR z g o) 0)] 0):=by rw [hK,am (by decide),az l1]
  have k2:K[2]?=some (.box [.f (.bool true)] 0):=by rw [hK,az (by simpa using l2)]
  rw [←hK];rcases hds with rfl | ⟨b,rfl,hb,hxb⟩
  ·refine aH (hQ _ _ _ rfl (.inl ⟨rfl,.t [.c (.f (.fp (ckR z g o) 0)),vb true],?_,?_⟩))
   ·simp [Km.results,bT,aZ,g2,g3,k1,k2,aO]
   ·simp [exV,dG,aZ]
  ·have kb:K[b]?=some (.dfr true):=by rw [hK,am (by omega),am (by omega)];exact hxb
   have r1:(K.set b (.dfr false))[1]?=some (.box [.f (.fp (ckR z g o) 0)] 0):=by rw [am (by omega)];exact k1
   have r2:(K.set b (.dfr false))[2]?=some (.box [.f (.bool true)] 0):=by rw [am (by omega)];exact k2
   refine aH (hQ _ _ _ rfl (.inr ⟨b,rfl,kb,.t [.c (.f (.fp (ckR z g o) 0)),vb true],?_,?_⟩))
   ·simp [Km.results,bT,aZ,g2,g3,r1,r2,aO]
   ·simp [exV,dG,aZ]
 refine kw_seq ?_;refine kw_seq ?_;refine kw_region (.inl rfl) ?_;simp [g1,x0,jP x0 hc,-ak];obtain⟨J3,hJ3⟩:∃ J3:Heap,J3=J++[.box [.f (fi z.tr.length)] 0]:=⟨_,rfl⟩;have up:∀ i y,J[i]?=some y→J3[i]?=some y:=fun i y hy=>by rw [hJ3,ag (aA hy)];exact hy
 have x10:J3[J.length]?=some (.box [.f (fi z.tr.length)] 0):=by rw [hJ3];simp
 have y0:=up _ _ x0;have y1:=up _ _ x1;have y2:=up _ _ x2;have y8:=up _ _ x8;have hn8:n8<J.length:=aA x8;have hL3:J.length<J3.length:=by rw [hJ3];simp
 rw [←hJ3];refine kw_sr ?_;by_cases hn:z.tr=[]
 ·simp [x10,aO,hn];refine bD (by simp) ?_
  exact fin _ _ _ (by simp [g8]) (by simp [g2]) (by simp [g3]) y1 y2 y8 (.inl rfl)
 have hn0:0<z.tr.length:=cN.2 hn;simp [x10,aO,hn,hn0];refine aj (by simp) ?_
 have hfr:=(aH8 (.fp (ckR z g o) 0) z.hor J3).eq;have l8:ldV J3 none (.c (.ptr n8 0 0))=some (ckV z g o):=by simp [ldV,aF,y8,aO]
 refine kw_sr ?_;simp [g1,g8,l8,rF y0 hc,-ak,hfr];obtain⟨J4,hJ4⟩:∃ J4:Heap,J4=J3++[.box [.f (.fp (ckR z g o) 0)] 0,.box [.f (fi z.hor)] 0]:=⟨_,rfl⟩;rw [←hJ4];refine aB ?_;have hL4:J4.length=J3.length+2:=by rw [hJ4];simp
 have stage:∀ t:T,t.g 1=.c (.ptr 0 0 0)→t.g 2=.c (.ptr 1 0 0)→t.g 3=.c (.ptr 2 0 0)→t.g 8=.c (.ptr n8 0 0)→t.g 10=.c (.ptr J.length 0 0) →
   t.g 158=.c (.cl uZ [.ptr J3.length 0 0,.ptr (J3.length+1) 0 0]) →
   WP tab.get iY none [.code (.oO (R 158) [P.nat 159] jB jA),.inBlock 4,.code Af] ⟨t,[],J4⟩ Q:=by
  intro t g1 g2 g3 g8 g10 aZg;have up4:∀ i y,J3[i]?=some y→J4[i]?=some y:=fun i y hy=>by rw [hJ4,ag (aA hy)];exact hy
  obtain⟨L,hL⟩:∃ L,L=J4.length:=⟨_,rfl⟩;obtain⟨H1,hH1⟩:∃ H1:Heap,H1=J4++[.dfr true,.lp iY t [P.nat 159] jB jA .ready none J4.length]:=⟨_,rfl⟩;have up1:∀ i y,J3[i]?=some y→H1[i]?=some y:=fun i y hy=>by rw [hH1,ag (aA (up4 i y hy))];exact up4 i y hy
  have hbc:H1[J3.length]?=some (.box [.f (.fp (ckR z g o) 0)] 0):=by rw [hH1,ag (by omega),hJ4];simp
  have hbt:H1[J3.length+1]?=some (.box [.f (fi z.hor)] 0):=by rw [hH1,ag (by omega),hJ4];simp
  have hd:H1[L]?=some (.dfr true):=by rw [hH1,hL];simp
  have hlp:H1[L+1]?=some (.lp iY t [P.nat 159] jB jA .ready none L):=by rw [hH1,hL,bj (by omega),show J4.length+1-J4.length=1 by omega];rfl
  have w1:=up1 _ _ y1;have w2:=up1 _ _ y2;have w8:=up1 _ _ y8;have w0:=up1 _ _ y0;have w10:=up1 _ _ x10;by_cases ho:o=[]
  ·obtain⟨r,H',he,rfl,hPP⟩:=UQ h g (b:=L+1) (bc:=J3.length) (bt:=J3.length+1) (H:=H1) (PP:=fun H'=>Keeps H1 H') hbc hbt (fun _ J hJ=>hJ) (fun x hx=>by subst ho;simp [aft,lY]at hx)
   rw [hH1,hL]at he;refine Gp (g:=uZ) (by rw [a0Z,aZg];simp [dh]) he ?_
   refine agZ (hPP _ _ (by rw [←hL];exact hlp)) (by decide) ?_
   refine au ?_
   have hk:∀ i y,H1[i]?=some y→i≤L→(H'.set (J4.length+1) (.lp iY t [P.nat 159] jB jA .exhausted none L))[i]?=some y:=fun i y hy hi=>by
    rw [am (by omega)];exact hPP _ _ hy
   exact fin _ _ _ g8 g2 g3 (hk _ _ w1 (by omega)) (hk _ _ w2 (by omega)) (hk _ _ w8 (by omega)) (.inr ⟨J4.length,rfl,by omega,hk _ _ (by rw [←hL];exact hd) (by omega)⟩)
  ·obtain⟨r,H',he,rfl,p1,p2,pL,f2,tm,ps,aa,bd,pl⟩:=UQ h g (b:=L+1) (bc:=J3.length) (bt:=J3.length+1) (H:=H1)
    (PP:=fun H'=>H'[1]?=some (.box [.f (.fp (ckR z g o) 0)] 0)∧H'[2]?=some (.box [.f (.bool true)] 0)∧H'[L]?=some (.dfr true)∧∃ f2 tm ps aa bd,H'[L+1]?=some (.lp f2 tm ps aa bd .done (some .ret) L)) hbc hbt (fun e=>absurd e ho) (fun x hx J' hJ'=>by
     have hxb:=h.aUf hx
     obtain⟨r,H',e,rfl,hPP⟩:=MS (tab:=tab.get) (b:=L+1) (args:=[.a (x.row.map .f)]) (H:=J')
      (C:=fun r H'=>r=vb false∧H'[1]?=some (.box [.f (.fp (ckR z g o) 0)] 0)∧H'[2]?=some (.box [.f (.bool true)] 0)∧H'[L]?=some (.dfr true)∧∃ f2 tm ps aa bd,H'[L+1]?=some (.lp f2 tm ps aa bd .done (some .ret) L)) (hJ' _ _ hlp) rfl fun Q' hQ'=>by
       simp only [TrD.row];refine kw_region (.inr rfl) ?_;simp;refine aHu (by rw [ag (aA (hJ' _ _ hlp))];exact hJ' _ _ hlp) ?_
       obtain⟨M,hM⟩:∃ M:Heap,M=(J'++[Blk.box [.f (fi x.at_),.f (fi x.off)] 0]).set (L+1) (.lp iY t [P.nat 159] jB jA .busy none L):=⟨_,rfl⟩;rw [←hM];have hlJ:=aA (hJ' _ _ hlp)
       have upM:∀ i y,H1[i]?=some y→i≠L+1→M[i]?=some y:=fun i y hy hi=>by
        rw [hM,am (by omega),ag (aA (hJ' _ _ hy))];exact hJ' _ _ hy
       have m0:=upM _ _ w0 (by omega)
       have m1:=upM _ _ w1 (by omega)
       have m2:=upM _ _ w2 (by omega)
       have m8:=upM _ _ w8 (by omega)
       have m10:=upM _ _ w10 (by omega)
       have mL:=upM _ _ hd (by omega)
       have mb:M[L+1]?=some (.lp iY t [P.nat 159] jB jA .busy none L):=by rw [hM,az (by simp;omega)]
       have mx:M[J'.length]?=some (.box [.f (fi x.at_),.f (fi x.off)] 0):=by rw [hM,am (by omega)];simp
       have lM:ldV M none (.c (.ptr n8 0 0))=some (ckV z g o):=by simp [ldV,aF,m8,aO]
       have lx:ldV M none (.c (.ptr J'.length 0 0))=some (vi x.at_):=by simp [ldV,aF,mx,aO]
       have l10:ldV M none (.c (.ptr J.length 0 0))=some (vi z.tr.length):=by simp [ldV,aF,m10,aO]
       have hk:=z.tr.length-1;have ii:=kQ (g:=z.tg) M (show z.tr.length-1<z.tr.length by omega)
       have il:=CV M (show z.tr.length-1<z.tr.length by omega)
       have hla:=h.tb _ (aw (show z.tr.length-1<z.tr.length by omega))
       have hho:=h.ho;have e1:IntKind.i64.wrap ((z.tr.length:Int)-1)=((z.tr.length-1:Nat):Int):=by rw [wrap64 (by omega) (by have:=h.tl;omega)];omega
       have e2:IntKind.i64.wrap (x.at_-z.tr[z.tr.length-1].at_)=x.at_-z.tr[z.tr.length-1].at_:=wrap64 (by omega) (by omega)
       have e3:(2160:Int)≤x.at_-z.tr[z.tr.length-1].at_:=by
        rcases h.y with⟨-,e⟩ | ⟨r,q,e,-,-,-,-,ha⟩
        ·exact absurd e ho
        ·have hcy:z.cyc=cyc z.c:=by simp [ZD.cyc,e]
         have:=ha x _ (by rw [←hcy];exact hx) (aw (show z.tr.length-1<z.tr.length by omega))
         omega
       have s1:stC M (.ptr 1 0 0) [.f (.fp (ckR z g o) 0)]=some (M.set 1 (.box [.f (.fp (ckR z g o) 0)] 0)):=by simp [stC,m1,over]
       have q1:(M.set 1 (.box [.f (.fp (ckR z g o) 0)] 0))[2]?=some (.box [.f (.bool false)] 0):=by rw [am (by decide)];exact m2
       have s2:stC (M.set 1 (.box [.f (.fp (ckR z g o) 0)] 0)) (.ptr 2 0 0) [.f (.bool true)]=some ((M.set 1 (.box [.f (.fp (ckR z g o) 0)] 0)).set 2 (.box [.f (.bool true)] 0)):=by simp [stC,q1,over]
       have n0:(M.set 1 (.box [.f (.fp (ckR z g o) 0)] 0))[0]?=some (.box (z.row.map .f) 0):=by rw [am (by decide)];exact m0
       have nx:ldV (M.set 1 (.box [.f (.fp (ckR z g o) 0)] 0)) none (.c (.ptr J'.length 0 0))=some (vi x.at_):=by
        simp [ldV,aF,am (show 1≠J'.length by omega),mx,aO]
       have n10:ldV (M.set 1 (.box [.f (.fp (ckR z g o) 0)] 0)) none (.c (.ptr J.length 0 0))=some (vi z.tr.length):=by
        simp [ldV,aF,am (show 1≠J.length by omega),m10,aO]
       have ii':=kQ (g:=z.tg) (M.set 1 (.box [.f (.fp (ckR z g o) 0)] 0)) (show z.tr.length-1<z.tr.length by omega)
       have il':=CV (M.set 1 (.box [.f (.fp (ckR z g o) 0)] 0)) (show z.tr.length-1<z.tr.length by omega)
       refine aB ?_;refine kw_seq (wY (.inr rfl) ?_ ?_)
       case refine_2=>
        intro c hcm;have hcc:c=(2,13)∨c=(4,13)∨c=(5,13)∨c=(7,13)∨c=(9,13):=by simpa using hcm
        rcases hcc with rfl | rfl | rfl | rfl | rfl
        all_goals
         refine⟨by decide,_,rfl,.inl ⟨by decide,?_⟩⟩
         simp [g1,g2,g3,g8,g10,lM,lx,l10,jP m0 hc,ii,il,e1,e2,e3,s1,s2,yP,nx,n10,jP n0 hc,ii',il',-ak,-bJ]
         first | rfl | exact ahT z.tg z.tr | exact uT (xI z.tr) | simp [V.beq,C.beq,FC.beq,uT (xI z.tr)]
       simp [g1,g2,g3,g8,g10,lM,lx,l10,jP m0 hc,ii,il,e1,e2,e3,s1,s2,-ak,-bJ];have kb:((M.set 1 (.box [.f (.fp (ckR z g o) 0)] 0)).set 2 (.box [.f (.bool true)] 0))[L+1]?=some (.lp iY t [P.nat 159] jB jA .busy none L):=by rw [am (by omega),am (by omega)];exact mb
       refine aH (hQ' _ _ _ _ _ _ _ _ _ _ rfl kb ⟨rfl,?_,?_,?_,iY,t,[P.nat 159],jB,jA,?_⟩)
       ·simp only;rw [am (by omega),am (by decide),az (aA m1)]
       ·simp only;rw [am (by omega),az (aA q1)]
       ·simp only;rw [am (by omega),am (by omega),am (by omega)];exact mL
       ·exact az (aA kb)
     exact⟨H',e,hPP⟩)
   rw [hH1,hL]at he;refine Gp (g:=uZ) (by rw [a0Z,aZg];simp [dh]) he ?_
   rw [←hL];refine Jj pl (by decide) ?_
   have hk:∀ i,i<L+1→(H'.set (L+1) (.lp f2 tm ps aa bd .exhausted (some .ret) L))[i]?=H'[i]?:=fun i hi=>am (by omega)
   refine aH (hQ _ _ _ rfl (.inr ⟨L,rfl,by rw [hk _ (by omega)];exact pL,.t [.c (.f (.fp (ckR z g o) 0)),vb true],?_,by simp [exV,dG,aZ]⟩))
   have q1:((H'.set (L+1) (.lp f2 tm ps aa bd .exhausted (some .ret) L)).set L (.dfr false))[1]?=some (.box [.f (.fp (ckR z g o) 0)] 0):=by rw [am (by omega),hk _ (by omega)];exact p1
   have q2:((H'.set (L+1) (.lp f2 tm ps aa bd .exhausted (some .ret) L)).set L (.dfr false))[2]?=some (.box [.f (.bool true)] 0):=by rw [am (by omega),hk _ (by omega)];exact p2
   simp [Km.results,bT,aZ,g2,g3,q1,q2,aO]
 exact stage _ (by simp [g1]) (by simp [g2]) (by simp [g3]) (by simp [g8]) (by simp) (by simp)
end
section
theorem BJ{z:ZD}{o:List TrD}(h:OKZ z o):∃ g,Km.Pure tab.get iY [z.v]=Eq (.t [ckV z g o,vb true]):=by
 obtain⟨g,aYQ⟩:=h.tick;refine⟨g,?_⟩
 obtain⟨rr,rfl,hp⟩:∃ rr,rr=.t [ckV z g o,vb true]∧Km.Pure tab.get iY [z.v] rr:=by
  have hc:=h.c;have hst:=h.st;have hho:=h.ho;have htl:=h.tl;refine afU aUs rfl fun Q hQ=>?_
  refine kw_sr ?_;simp;obtain⟨H0,hH0⟩:∃ H0:Heap,H0=[.box (z.row.map .f) 0,.box [.f .jY] 0,.box [.f (.bool false)] 0]:=⟨_,rfl⟩;rw [←hH0];have z0:H0[0]?=some (.box (z.row.map .f) 0):=by rw [hH0];rfl
  have z1:H0[1]?=some (.box [.f .jY] 0):=by rw [hH0];rfl
  have z2:H0[2]?=some (.box [.f (.bool false)] 0):=by rw [hH0];rfl
  have hl0:H0.length=3:=by rw [hH0];rfl
  refine kw_seq ?_;refine kw_sr ?_;simp [jP z0 hc,oI z0 hc,agS z0 hc,rF z0 hc,-ak,Fv hc,Aq (n:=z.start) (m:=1080) (by decide) (by decide) hst.1 hst.2,Aq (n:=z.hor) (m:=2251799813685248) (by decide) (by decide) (by omega) (by omega),show¬ 512<(z.tr.length:Int) by omega]
  refine bD (by simp) ?_
  refine kw_seq ?_;refine kw_sr ?_;simp [jP z0 hc,-ak]
  refine kV z.tr.length (fun j t J=>Keeps H0 J∧t.g 1=.c (.ptr 0 0 0)∧t.g 2=.c (.ptr 1 0 0)∧t.g 3=.c (.ptr 2 0 0)∧t.g 35=.c (.f (sl z.tg (aS z.tr)))) (by omega) (by decide) (by decide) (by simp) (by simp)
   ⟨Keeps.refl _,by simp,by simp,by simp,by simp⟩ ?_ ?_
  ·rintro j t J hj ⟨hJ,g1,g2,g3,g35⟩ ha hb nx;have hii:=kQ (g:=z.tg) J hj;have hll:=zl J hj;simp only [TrD.row,aM,ba]at hll;have hx:=h.tb _ (aw hj);obtain⟨J1,hJ1⟩:∃ J1:Heap,J1=J++[.box (z.tr[j].row.map .f) 0]:=⟨_,rfl⟩;have e1:Keeps H0 J1:=by rw [hJ1];exact hJ.push _
   have eb:J1[J.length]?=some (.box [.f (fi z.tr[j].at_),.f (fi z.tr[j].off)] 0):=by rw [hJ1];simp [TrD.row]
   have y0:=e1 _ _ z0;simp only [TrD.row,aM,ba]at hJ1;refine aB ?_;refine kw_sr ?_;simp [g35,ha,hii,hll];rw [←hJ1];have la:ldV J1 none (.c (.ptr J.length 0 0))=some (vi z.tr[j].at_):=by simp [ldV,aF,eb,aO]
   have lo:ldV J1 none (.c (.ptr J.length 1 0))=some (vi z.tr[j].off):=by simp [ldV,aF,eb,aO]
   have wo:=Aq (n:=z.tr[j].off) (m:=1080) (by decide) (by decide) hx.2.2.1 hx.2.2.2
   have wa:=Aq (n:=z.tr[j].at_) (m:=2251799813685248) (by decide) (by decide) (by omega) (by omega)
   refine kw_sr ?_;by_cases hj0:j=0
   ·subst hj0;simp [g1,la,lo,wo,wa,rF y0 hc,-ak,show¬ z.hor≤z.tr[0].at_ by omega]
    refine ah (by simp) (aG (au ?_))
    exact nx _ _ ⟨e1,by simp [g1],by simp [g2],by simp [g3],by simp [g35]⟩ (by simp [ha]) (by simp [hb])
   ·obtain⟨k,rfl⟩:∃ k,j=k+1:=⟨j-1,by omega⟩
    have hik:=kQ (g:=z.tg) J1 (show k<z.tr.length by omega)
    have hlk:=CV J1 (show k<z.tr.length by omega)
    have hs:=h.ts k _ _ (ae (by omega)) (ae hj)
    have hx':=h.tb _ (aw (show k<z.tr.length by omega))
    have wk:IntKind.i64.wrap (k:Nat)=(k:Nat):=wrap64 (by omega) (by omega)
    have wd:IntKind.i64.wrap (z.tr[k+1].at_-z.tr[k].at_)=z.tr[k+1].at_-z.tr[k].at_:=wrap64 (by omega) (by omega)
    simp [g1,la,lo,wo,wa,rF y0 hc,jP y0 hc,-ak,show¬ z.hor≤z.tr[k+1].at_ by omega,wk,hik,hlk,wd,show¬ z.tr[k+1].at_-z.tr[k].at_<2160 by omega,show(0:Int)<(k:Int)+1 by omega]
    refine ah (by simp) (aG (au ?_))
    exact nx _ _ ⟨e1,by simp [g1],by simp [g2],by simp [g3],by simp [g35]⟩ (by simp [ha]) (by simp [hb])
  clear hH0;rintro t J ⟨hJ,g1,g2,g3,g35⟩ ha hb;have y0:=hJ _ _ z0
  have hyl:z.yr.length=0∨z.yr.length=2:=by
   rcases h.y with⟨e,-⟩ | ⟨r,q,e,-⟩
   ·left;rw [e];rfl
   ·right;rw [e];rfl
  have hyo:∀ x ∈ z.yr,x.OK:=by
   rcases h.y with⟨e,-⟩ | ⟨r,q,e,hr,hq,-⟩
   ·rw [e];intro x hx;cases hx
   ·rw [e];intro x hx;simp at hx;rcases hx with rfl | rfl
    ·exact hr
    ·exact hq
  have mid:∀(t:T) (J:Heap),Keeps H0 J→t.g 1=.c (.ptr 0 0 0)→t.g 2=.c (.ptr 1 0 0)→t.g 3=.c (.ptr 2 0 0)→WP tab.get iY none [.code H8] ⟨t,[],J⟩ Q:=by
   clear g1 g2 g3 g35 ha hb y0 hJ;intro t J hJ g1 g2 g3;have y0:=hJ _ _ z0;refine kw_seq ?_;refine kw_sr ?_;simp [g1,kU y0 hc,-ak]
   refine kV z.yr.length (fun j t J=>Keeps H0 J∧t.g 1=.c (.ptr 0 0 0)∧t.g 2=.c (.ptr 1 0 0)∧t.g 3=.c (.ptr 2 0 0)∧t.g 88=.c (.f (sl z.yg (bV z.yr)))) (by omega) (by decide) (by decide) (by simp) (by simp)
    ⟨hJ,by simp [g1],by simp [g2],by simp [g3],by simp⟩ ?_ ?_
   ·clear hJ g1 g2 g3 y0;rintro j t J hj ⟨hJ,g1,g2,g3,g88⟩ ha hb nx
    have hii:aP J 5 none (.c (.f (sl z.yg (bV z.yr)))) (vi j)=some (.c (.f (.fp (bV z.yr).flatten (j*5)))):=by
     have:=iq (H:=J) (g:=z.yg) (rows:=bV z.yr) (sz:=5) (k:=.i64) (i:=(j:Int)) (by omega) (by simp;omega)
     simpa using this
    have hll:ldV J (some 5) (.c (.f (.fp (bV z.yr).flatten (j*5))))=some (.a (z.yr[j].row.map .f)):=mM (oz z.yr) (FD hj);have hx:=hyo _ (aw hj);obtain⟨J1,hJ1⟩:∃ J1:Heap,J1=J++[.box (z.yr[j].row.map .f) 0]:=⟨_,rfl⟩;have e1:Keeps H0 J1:=by rw [hJ1];exact hJ.push _
    have eb:J1[J.length]?=some (.box (z.yr[j].row.map .f) 0):=by rw [hJ1];simp
    have y0:=e1 _ _ z0;have l0:ldV J1 none (.c (.ptr J.length 0 0))=some (vi z.yr[j].mo):=by simp [ldV,aF,eb,aO,YrD.row]
    have l1:ldV J1 none (.c (.ptr J.length 1 0))=some (vi z.yr[j].wk):=by simp [ldV,aF,eb,aO,YrD.row]
    have l2:ldV J1 none (.c (.ptr J.length 2 0))=some (vi z.yr[j].wd):=by simp [ldV,aF,eb,aO,YrD.row]
    have l3:ldV J1 none (.c (.ptr J.length 3 0))=some (vi z.yr[j].mi):=by simp [ldV,aF,eb,aO,YrD.row]
    have l4:ldV J1 none (.c (.ptr J.length 4 0))=some (vi z.yr[j].off):=by simp [ldV,aF,eb,aO,YrD.row]
    obtain⟨cs,lm⟩:=agT y0 hc;simp only [YrD.row,aM,ba]at hJ1 hll;refine aB ?_;refine kw_sr ?_;simp [g88,ha,hii,hll];rw [←hJ1];have wo:=Aq (n:=z.yr[j].off) (m:=1080) (by decide) (by decide) hx.of0 hx.of
    refine kw_sr ?_;have hsl:bQ J1 (.f (.fs cs 2))=some 2:=rfl;have f1:¬ z.yr[j].mo<1:=by have:=hx.mo;omega
    have f2:¬ 2<z.yr[j].mo:=by have:=hx.mo;omega
    have f3:¬ z.yr[j].wk<1:=by have:=hx.wk;omega
    have f4:¬ 5<z.yr[j].wk:=by have:=hx.wk;omega
    have f5:¬ z.yr[j].wd<0:=by have:=hx.wd0;omega
    have f6:¬ 6<z.yr[j].wd:=by have:=hx.wd;omega
    have f7:¬ z.yr[j].mi<0:=by have:=hx.mi0;omega
    have f8:¬ 1440≤z.yr[j].mi:=by have:=hx.mi;omega
    simp [g1,l0,l1,l2,l3,l4,lm,wo,-ak,f1,f2,f3,f4,f5,f6,f7,f8,hsl];refine ah (by simp) (aG (au ?_))
    exact nx _ _ ⟨e1,by simp [g1],by simp [g2],by simp [g3],by simp [g88]⟩ (by simp [ha]) (by simp [hb])
   ·clear hJ g1 g2 g3 y0;rintro t J ⟨hJ,g1,g2,g3,g88⟩ ha hb;have y0:=hJ _ _ z0;refine kw_sr ?_;simp [g1,iL y0 hc,-ak,aYQ];obtain⟨J2,hJ2⟩:∃ J2:Heap,J2=J++[.box [.f (.fp (ckR z g o) 0)] 0]:=⟨_,rfl⟩;rw [←hJ2];have e2:Keeps H0 J2:=by rw [hJ2];exact hJ.push _
    have hl:=aA (hJ _ _ z2);refine kw_seq ?_;refine kw_seq ?_;refine kw_region (.inl rfl) ?_;simp;refine bD (by simp) ?_
    refine VU h g (fun j s r hr hf=>hQ j s r hr hf) _ J2 J.length (by simp [g1]) (by simp [g2]) (by simp [g3]) (by simp) (e2 _ _ z0) (e2 _ _ z1) (e2 _ _ z2) (by rw [hJ2];simp) hl
  refine kw_seq ?_;refine kw_sr ?_;rcases hyl with hyl | hyl
  ·simp [g1,kU y0 hc,-ak,hyl];refine bD (by simp) ?_
   exact mid _ _ hJ (by simp [g1]) (by simp [g2]) (by simp [g3])
  ·simp [g1,kU y0 hc,-ak,hyl];refine bD (by simp) ?_
   exact mid _ _ hJ (by simp [g1]) (by simp [g2]) (by simp [g3])
 exact hp.eq
end
section
theorem Vw{z:ZD}{o:List TrD}(h:OKZ z o):Km.Pure tab.get Ry [z.v]=Eq (vi 0):=Km.Pure.eq (by
 obtain⟨g,hop⟩:=BJ h;have hc:=h.c;have htl:=h.tl;refine bU aUA rfl fun Q hQ=>?_
 refine kw_sr ?_;simp;obtain⟨H0,hH0⟩:∃ H0:Heap,H0=[.box (z.row.map .f) 0]:=⟨_,rfl⟩;rw [←hH0];have z0:H0[0]?=some (.box (z.row.map .f) 0):=by rw [hH0];rfl
 refine kw_seq (kw_sr ?_);simp [jP z0 hc,-ak,show¬ 512<(z.tr.length:Int) by omega]
 refine ah (by simp) (aG (kw_seq ?_))
 refine kw_sr ?_;simp [iL z0 hc,-ak,hop];refine kw_sr ?_;simp;refine bD (by simp) ?_
 refine kw_sr ?_;simp;refine aH (hQ _ _ ?_)
 simp)
theorem Qm{z:ZD}{o:List TrD}(h:OKZ z o){t:Int}(t0:-10000000≤t)(t1:t≤10000000) :
  ∃ r:Option TrD,Last h.S t r∧Km.Pure tab.get Rz [z.v,vi t]=Eq (.t [vi (offO z r),vi 0]):=by
 obtain⟨g,hop⟩:=BJ h;obtain⟨r,hr,hoff⟩:=zC h g t0 t1;refine⟨r,hr,Km.Pure.eq ?_⟩;have hc:=h.c;refine bU aUB rfl fun Q hQ=>?_
 refine kw_sr ?_;simp;obtain⟨H0,hH0⟩:∃ H0:Heap,H0=[.box (z.row.map .f) 0]:=⟨_,rfl⟩;rw [←hH0];have z0:H0[0]?=some (.box (z.row.map .f) 0):=by rw [hH0];rfl
 refine kw_sr ?_;simp [iL z0 hc,-ak,hop];refine kw_seq (kw_sr ?_);simp [Aq (n:=t) (m:=2251799813685248) (by decide) (by decide) (by omega) (by omega)]
 refine bD (by simp) ?_
 refine kw_sr ?_;simp [hoff];refine aH (hQ _ _ ?_);simp
theorem Ws{z:ZD}{o:List TrD}(h:OKZ z o){t:Int}(t0:-10000000≤t)(t1:t≤10000000) :
  ∃ r:Option TrD,Last h.S t r∧Km.Pure tab.get RD [z.v,vi t]=Eq (.t [vi (t+offO z r),vi 0]):=by
 obtain⟨r,hr,hoff⟩:=Qm h t0 t1;refine⟨r,hr,Km.Pure.eq ?_⟩;have hc:=h.c;have hb:=h.offO hr;refine bU aUC rfl fun Q hQ=>?_
 refine kw_sr ?_;simp;obtain⟨H0,hH0⟩:∃ H0:Heap,H0=[.box (z.row.map .f) 0]:=⟨_,rfl⟩;rw [←hH0];have z0:H0[0]?=some (.box (z.row.map .f) 0):=by rw [hH0];rfl
 refine kw_sr ?_;simp [iL z0 hc,-ak,hoff];refine kw_seq (kw_sr ?_);simp;refine bD (by simp) ?_
 refine kw_sr ?_;simp [wrap64 (n:=t+Go.Proofs.YtmbjejcfadllnaaGreat.offO z r) (by omega) (by omega)]
 refine aH (hQ _ _ ?_);simp
end
section
structure aIB(z:ZD):Prop where
 c:z.c<3
 st:-1080≤z.start∧z.start≤1080
 tl:z.tr.length≤3
 tb:∀ x ∈ z.tr,0≤x.at_∧x.at_<z.hor∧-1080≤x.off∧x.off≤1080
 ts:∀(i:Nat) x y,z.tr[i]?=some x→z.tr[i+1]?=some y→x.at_+2160≤y.at_
 ho:0≤z.hor∧z.hor≤40000
theorem aIB.none{z:ZD}(h:aIB z)(e:z.yr=[]):OKZ z []:=⟨h.c,h.st,h.tl,h.tb,h.ts,h.ho,.inl ⟨e,rfl⟩⟩
theorem aIz{o:List TrD}{size t:Int}(hb:∀ x ∈ o,AtB x)(hs:fF o size=true)(s0:1≤size)(s1:size≤400000)(t0:0≤t)(t1:t≤40000){x:TrD}(hx:aft o size t=some x):0≤x.at_∧x.at_≤10000000:=by
 have o0:0<o.length:=by
  rcases cB o.length with e | e
  ·have:o=[]:=cQ.1 e;subst this;simp [aft,lY]at hx
  ·exact e
 have hb0:=hb _ (aw o0);unfold AtB at hb0;have hK:turns o size t=if o[0].at_<t then(t-o[0].at_) / size else 0:=by unfold turns;rw [ae o0]
 have q0:=cU (t-o[0].at_) size;have q1:=cq (t-o[0].at_) (show size≠0 by omega)
 have hKs:turns o size t*size≤2000000:=by
  rw [hK];split
  ·rw [dk];omega
  ·omega
 have key:∀ k,k*size≤4000000→lY o size t k=some x→0≤x.at_∧x.at_≤10000000:=by
  intro k hk hx;obtain⟨⟨y,hy,rfl⟩,h2,-⟩:=BU hs hx;have:=hb _ hy;unfold AtB at this;simp only at h2 ⊢;omega
 unfold aft at hx
 cases h1:lY o size t (turns o size t)with
 | some w=>
  rw [h1]at hx;simp at hx;subst hx
  exact key _ (by omega) h1
 | none=>
  rw [h1]at hx;simp at hx;exact key _ (by rw [dT,dt];omega) hx
theorem Rj(g:Tg)(n t:Int):Km.Pure tab.get G6 [.c (.f (sl g (aS []))),vi n,vi t]=Eq (.t [.a [.f (fi 0),.f (fi 0)],vb false]):=Km.Pure.eq (by
 refine bU aPm rfl fun Q hQ=>?_
 refine kw_sr ?_;simp;refine kw_seq ?_;refine kw_sr ?_;have hsl:∀ H:Heap,bQ H (.f (sl g (aS [])))=some 0:=fun H=>by simpa using zG (H:=H) g (aS [])
 simp [hsl];refine aj (by simp) ?_
 refine kw_sr ?_;simp;refine aH (hQ _ _ ?_)
 simp)
theorem PD{z:ZD}(h:aIB z){r q:YrD}(hz:z.yr=[r,q])(hr:r.OK)(hq:q.OK) :
  ∃ e:Int,Km.Pure tab.get NG [z.v]=Eq (vi e)∧(e=0→∃ o,OKZ z o):=by
 obtain⟨rr,⟨e,he,rfl⟩,hp⟩:∃ rr,(∃ e:Int,(e=0→∃ o,OKZ z o)∧rr=vi e)∧Km.Pure tab.get NG [z.v] rr:=by
  have hc:=h.c;have hst:=h.st;have hho:=h.ho;have htl:=h.tl;have hcy:z.cyc=cyc z.c:=by simp [ZD.cyc,hz]
  have hyl:z.yr.length=2:=by rw [hz];rfl
  have hyo:∀ x ∈ z.yr,x.OK:=by
   rw [hz];intro x hx;simp at hx;rcases hx with rfl | rfl
   ·exact hr
   ·exact hq
  obtain⟨g,o,ho,hyp⟩:=J7 z hc hz hr hq;have hcp:=AY z hc;refine dN a0A rfl fun Q hQ=>?_
  refine kw_sr ?_;simp;obtain⟨H0,hH0⟩:∃ H0:Heap,H0=[.box (z.row.map .f) 0]:=⟨_,rfl⟩;rw [←hH0];have z0:H0[0]?=some (.box (z.row.map .f) 0):=by rw [hH0];rfl
  clear hH0;refine kw_seq (kw_sr ?_);simp [jP z0 hc,-ak,show¬ 512<(z.tr.length:Int) by omega]
  refine bD (by simp) ?_
  refine kw_seq (kw_sr ?_);simp [oI z0 hc,agS z0 hc,rF z0 hc,kU z0 hc,-ak,Vx hc,Ci (n:=z.start) (m:=1080) (by decide) (by decide) hst.1 hst.2,Ci (n:=z.hor) (m:=2251799813685248) (by decide) (by decide) (by omega) (by omega),hyl]
  refine bD (by simp) ?_
  refine kw_seq (kw_sr ?_);simp;refine dU (H:=H0) z.tr.length (fun j t J=>J[0]?=some (.box (z.row.map .f) 0)∧t.g 1=.c (.ptr 0 0 0)) (by omega) (by decide) (by simp) ⟨z0,by simp⟩ ?_ ?_ ?_
  ·rintro j t J L hj ⟨y0,g1⟩ ha hn;simp [g1,ha,jP y0 hc,-ak];exact hn _ ⟨y0,by simp [g1]⟩ (by simp [ha]) (by simp)
  ·rintro j t J hj ⟨y0,g1⟩ ha nx;have hii:=kQ (g:=z.tg) J hj;have hll:=zl J hj;simp only [TrD.row,aM,ba]at hll;have hx:=h.tb _ (aw hj);obtain⟨J1,hJ1⟩:∃ J1:Heap,J1=J++[.box [.f (fi z.tr[j].at_),.f (fi z.tr[j].off)] 0]:=⟨_,rfl⟩;have eb:J1[J.length]?=some (.box [.f (fi z.tr[j].at_),.f (fi z.tr[j].off)] 0):=by rw [hJ1];simp
   have y1:J1[0]?=some (.box (z.row.map .f) 0):=by rw [hJ1,ag (aA y0)];exact y0
   refine aB ?_;refine kw_sr ?_;simp [g1,ha,hii,hll,jP y0 hc,-ak];rw [←hJ1];have la:ldV J1 none (.c (.ptr J.length 0 0))=some (vi z.tr[j].at_):=by simp [ldV,aF,eb,aO]
   have lo:ldV J1 none (.c (.ptr J.length 1 0))=some (vi z.tr[j].off):=by simp [ldV,aF,eb,aO]
   have wo:=Ci (n:=z.tr[j].off) (m:=1080) (by decide) (by decide) hx.2.2.1 hx.2.2.2
   have wa:=Ci (n:=z.tr[j].at_) (m:=2251799813685248) (by decide) (by decide) (by omega) (by omega)
   refine kw_sr ?_;by_cases hj0:j=0
   ·subst hj0;simp [g1,ha,la,lo,wo,wa,rF y1 hc,-ak,show¬ z.hor≤z.tr[0].at_ by omega]
    refine ah (by simp) (aG (au ?_))
    exact nx _ _ ⟨y1,by simp [g1]⟩ (by simp [ha])
   ·obtain⟨k,rfl⟩:∃ k,j=k+1:=⟨j-1,by omega⟩
    have hik:=kQ (g:=z.tg) J1 (show k<z.tr.length by omega)
    have hlk:=CV J1 (show k<z.tr.length by omega)
    have hs:=h.ts k _ _ (ae (by omega)) (ae hj)
    have hx':=h.tb _ (aw (show k<z.tr.length by omega))
    have wk:IntKind.i64.wrap (k:Nat)=(k:Nat):=wrap64 (by omega) (by omega)
    have wd:IntKind.i64.wrap (z.tr[k+1].at_-z.tr[k].at_)=z.tr[k+1].at_-z.tr[k].at_:=wrap64 (by omega) (by omega)
    simp [g1,ha,la,lo,wo,wa,rF y1 hc,jP y1 hc,-ak,show¬ z.hor≤z.tr[k+1].at_ by omega,wk,hik,hlk,wd,show¬ z.tr[k+1].at_-z.tr[k].at_<2160 by omega,show(0:Int)<(k:Int)+1 by omega]
    refine ah (by simp) (aG (au ?_))
    exact nx _ _ ⟨y1,by simp [g1]⟩ (by simp [ha])
  clear z0;rintro t J ⟨z0,g1⟩ ha;refine kw_seq (kw_sr ?_);simp;refine dU (H:=J) z.yr.length (fun j t J=>J[0]?=some (.box (z.row.map .f) 0)∧t.g 1=.c (.ptr 0 0 0)) (by omega) (by decide) (by simp) ⟨z0,by simp [g1]⟩ ?_ ?_ ?_
  ·clear g1 ha z0;rintro j t J L hj ⟨y0,g1⟩ ha hn;simp [g1,ha,kU y0 hc,-ak];exact hn _ ⟨y0,by simp [g1]⟩ (by simp [ha]) (by simp)
  ·clear g1 ha z0;rintro j t J hj ⟨y0,g1⟩ ha nx
   have hii:aP J 5 none (.c (.f (sl z.yg (bV z.yr)))) (vi j)=some (.c (.f (.fp (bV z.yr).flatten (j*5)))):=by
    have:=iq (H:=J) (g:=z.yg) (rows:=bV z.yr) (sz:=5) (k:=.i64) (i:=(j:Int)) (by omega) (by simp;omega)
    simpa using this
   have hll:ldV J (some 5) (.c (.f (.fp (bV z.yr).flatten (j*5))))=some (.a (z.yr[j].row.map .f)):=mM (oz z.yr) (FD hj);have hx:=hyo _ (aw hj);obtain⟨J1,hJ1⟩:∃ J1:Heap,J1=J++[.box (z.yr[j].row.map .f) 0]:=⟨_,rfl⟩;have y1:J1[0]?=some (.box (z.row.map .f) 0):=by rw [hJ1,ag (aA y0)];exact y0
   have eb:J1[J.length]?=some (.box (z.yr[j].row.map .f) 0):=by rw [hJ1];simp
   have l0:ldV J1 none (.c (.ptr J.length 0 0))=some (vi z.yr[j].mo):=by simp [ldV,aF,eb,aO,YrD.row]
   have l1:ldV J1 none (.c (.ptr J.length 1 0))=some (vi z.yr[j].wk):=by simp [ldV,aF,eb,aO,YrD.row]
   have l2:ldV J1 none (.c (.ptr J.length 2 0))=some (vi z.yr[j].wd):=by simp [ldV,aF,eb,aO,YrD.row]
   have l3:ldV J1 none (.c (.ptr J.length 3 0))=some (vi z.yr[j].mi):=by simp [ldV,aF,eb,aO,YrD.row]
   have l4:ldV J1 none (.c (.ptr J.length 4 0))=some (vi z.yr[j].off):=by simp [ldV,aF,eb,aO,YrD.row]
   obtain⟨cs,lm⟩:=agT y1 hc;simp only [YrD.row,aM,ba]at hJ1 hll;refine aB ?_;refine kw_sr ?_;simp [g1,ha,hii,hll,kU y0 hc,-ak];rw [←hJ1];have wo:=Ci (n:=z.yr[j].off) (m:=1080) (by decide) (by decide) hx.of0 hx.of
   refine kw_sr ?_;have hsl:bQ J1 (.f (.fs cs 2))=some 2:=rfl;have f1:¬ z.yr[j].mo<1:=by have:=hx.mo;omega
   have f2:¬ 2<z.yr[j].mo:=by have:=hx.mo;omega
   have f3:¬ z.yr[j].wk<1:=by have:=hx.wk;omega
   have f4:¬ 5<z.yr[j].wk:=by have:=hx.wk;omega
   have f5:¬ z.yr[j].wd<0:=by have:=hx.wd0;omega
   have f6:¬ 6<z.yr[j].wd:=by have:=hx.wd;omega
   have f7:¬ z.yr[j].mi<0:=by have:=hx.mi0;omega
   have f8:¬ 1439<z.yr[j].mi:=by have:=hx.mi;omega
   simp [g1,l0,l1,l2,l3,l4,lm,wo,-ak,f1,f2,f3,f4,f5,f6,f7,f8,hsl];refine ah (by simp) (aG (au ?_))
   exact nx _ _ ⟨y1,by simp [g1]⟩ (by simp [ha])
  clear g1 ha z0;rintro t J ⟨z0,g1⟩ ha;refine kw_sr ?_;simp [g1,iL z0 hc,-ak,hyp];refine kw_seq (kw_sr ?_)
  cases hs:fF o (cyc z.c*1440)with
  | false=>
   simp;refine aj (by simp) (kw_sr ?_)
   simp;refine aH (hQ _ _ _ ⟨1,by simp,rfl⟩ ⟨rfl,vi 1,?_,?_⟩)
   ·simp [Km.results,bT,aZ]
   ·simp [exV,dG]
  | true=>
   simp;refine bD (by simp) ?_
   have mk:(∀ x a,aft o (cyc z.c*1440) z.hor=some x→a ∈ z.tr→a.at_+2160≤x.at_)→∃ o,OKZ z o:=fun hx=>⟨o,h.c,h.st,h.tl,h.tb,h.ts,h.ho,.inr ⟨r,q,hz,hr,hq,ho,hs,hx⟩⟩
   have good:(∀ x a,aft o (cyc z.c*1440) z.hor=some x→a ∈ z.tr→a.at_+2160≤x.at_)→∀(t:T) (J:Heap),WP tab.get NG none [.code Oy] ⟨t,[],J⟩ Q:=by
    intro hx t J;refine kw_sr ?_;simp;refine aH (hQ _ _ _ ⟨0,fun _=>mk hx,rfl⟩ ⟨rfl,vi 0,?_,?_⟩)
    ·simp [Km.results,bT,aZ]
    ·simp [exV,dG]
   have hcB:1≤cyc z.c∧cyc z.c≤217:=by
    have:cyc z.c=91∨cyc z.c=217:=by unfold cyc lW;split<;>simp
    omega
   rcases cB o.length with e0 | o0
   ·have e0:o=[]:=cQ.1 e0;subst e0;have haf:=Rj g z.cyc z.hor;refine kw_sr ?_;simp [g1,iL z0 hc,rF z0 hc,-ak,hcp,haf];refine kw_seq (kw_sr ?_);simp;refine bD (by simp) ?_
    exact good (by simp [aft,lY]) _ _
   ·have hbd:∀ x ∈ o,AtB x:=fun x hx=>xR hc hr hq _ (ax _) x (ho.perm.subset hx)
    have hol:o.length≤1000:=by
     have h1:=nK z.c r q (nY z.c);have h2:=F8 z.c;have:=ho.len;omega
    obtain⟨x,hx,haf⟩:=Ri g o o0 hol hbd z.cyc z.hor (by rw [hcy];exact hcB.1) (by rw [hcy];omega) (by omega) (by omega)
    rw [hcy]at hx;have hxb:=aIz hbd hs (by omega) (by omega) (by omega) (by omega) hx
    simp only [TrD.row,aM,ba]at haf;refine kw_sr ?_;simp [g1,iL z0 hc,rF z0 hc,-ak,hcp,haf];obtain⟨J1,hJ1⟩:∃ J1:Heap,J1=J++[.box [.f (fi x.at_),.f (fi x.off)] 0]:=⟨_,rfl⟩;rw [←hJ1];have y1:J1[0]?=some (.box (z.row.map .f) 0):=by rw [hJ1,ag (aA z0)];exact z0
    have eb:J1[J.length]?=some (.box [.f (fi x.at_),.f (fi x.off)] 0):=by rw [hJ1];simp
    have la:ldV J1 none (.c (.ptr J.length 0 0))=some (vi x.at_):=by simp [ldV,aF,eb,aO]
    refine kw_seq (kw_sr ?_);by_cases htr:z.tr=[]
    ·simp [g1,jP y1 hc,-ak,htr];refine bD (by simp) ?_
     exact good (by rw [htr];intro x a _ ha;cases ha) _ _
    ·have hn0:0<z.tr.length:=cN.2 htr;have ii:=kQ (g:=z.tg) J1 (show z.tr.length-1<z.tr.length by omega)
     have il:=CV J1 (show z.tr.length-1<z.tr.length by omega)
     have hla:=h.tb _ (aw (show z.tr.length-1<z.tr.length by omega))
     have e1:IntKind.i64.wrap ((z.tr.length:Int)-1)=((z.tr.length-1:Nat):Int):=by rw [wrap64 (by omega) (by omega)];omega
     have e2:IntKind.i64.wrap (x.at_-z.tr[z.tr.length-1].at_)=x.at_-z.tr[z.tr.length-1].at_:=wrap64 (by omega) (by omega)
     by_cases hd:x.at_-z.tr[z.tr.length-1].at_<2160
     ·simp [g1,jP y1 hc,-ak,hn0,e1,e2,ii,il,la,hd];refine aj (by simp) (kw_sr ?_)
      simp;refine aH (hQ _ _ _ ⟨1,by simp,rfl⟩ ⟨rfl,vi 1,?_,?_⟩)
      ·simp [Km.results,bT,aZ]
      ·simp [exV,dG]
     ·simp [g1,jP y1 hc,-ak,hn0,e1,e2,ii,il,la,hd];refine bD (by simp) ?_
      refine good ?_ _ _;intro x' a hx' ha;rw [hx]at hx';cases hx';obtain⟨i,hi,rfl⟩:=bq ha;rcases cD (show i≤z.tr.length-1 by omega)with h1 | h1
      ·have:=zh h.ts i _ h1 (by omega);omega
      ·subst h1;omega
 exact⟨e,hp.eq,he⟩
end
section
abbrev u8(n:Nat):FC:=.int .u8 (n:Nat)
structure kY where
 st:Nat
 gg:Tg
 gaps:List Nat
 og:Tg
 Dn:List Nat
 be:Nat
 y:Nat→Nat→Nat
 cal:Nat
 rules:Bool
def fJ(l:List Nat):List (List FC):=l.map fun n=>[u8 n]
@[simp] theorem aVz (l:List Nat):(fJ l).length=l.length:=by simp [fJ]
theorem Q9(l:List Nat):Grid 1 (fJ l):=Grid.map fun _=>rfl
theorem DI{j:Nat}{l:List Nat}(hj:j<l.length){H:Heap}:ldV H none (.c (.f (.fp (fJ l).flatten j)))=some (.c (.f (u8 l[j]))):=by
 have:=mP (H:=H) (rows:=fJ l) (j:=j) (sz:=1) (row:=[u8 l[j]]) (x:=u8 l[j]) (Q9 l) (by simp [fJ,hj]) rfl
 simpa using this
theorem zM{j:Nat}{l:List Nat}{g:Tg}(hj:j<l.length){H:Heap}:aP H 1 none (.c (.f (sl g (fJ l)))) (vi j)=some (.c (.f (.fp (fJ l).flatten j))):=by
 have:=iq (H:=H) (g:=g) (rows:=fJ l) (sz:=1) (k:=.i64) (i:=(j:Int)) (by omega) (by simp;omega)
 simpa using this
def kY.row(x:kY):List FC:=[u8 x.st,sl x.gg (fJ x.gaps),sl x.og (fJ x.Dn),u8 x.be,u8 (x.y 0 0),u8 (x.y 0 1),u8 (x.y 0 2),u8 (x.y 0 3),u8 (x.y 1 0),u8 (x.y 1 1),u8 (x.y 1 2),u8 (x.y 1 3),u8 x.cal,.bool x.rules]
structure kY.OK(x:kY):Prop where
 st:x.st<256
 gl:x.gaps.length≤9223372036854775807
 ol:x.Dn.length≤9223372036854775807
 ga:∀ n ∈ x.gaps,n<256
 of:∀ n ∈ x.Dn,n<256
 be:x.be<256
 y:∀ k i,k<2→i<4→x.y k i<256
 cal:x.cal<256
theorem Cj(n:Nat){m:Nat}(hm:0<m):bW .rem (.c (.f (u8 n))) (.c (.f (u8 m)))=some (.c (.f (u8 (n % m)))):=by
 have:¬ ((m:Int)=0):=by omega
 simp only [bW,qj,if_true,this,if_false];rfl
theorem u8_quo{n:Nat}(hn:n<256){m:Nat}(hm:0<m):bW .quo (.c (.f (u8 n))) (.c (.f (u8 m)))=some (.c (.f (u8 (n / m)))):=by
 have:¬ ((m:Int)=0):=by omega
 have h1:n / m≤n:=Nat.div_le_self n m;simp only [bW,qj,if_true,this,if_false];rw [show(n:Int).tdiv (m:Int)=((n / m:Nat):Int) from rfl]
 have:IntKind.u8.wrap ((n / m:Nat):Int)=((n / m:Nat):Int):=by
  revert h1;generalize n / m=q;intro h1;exact wrapu8 (by omega) (by omega)
 rw [this];rfl
def lS(J:Heap)(cs:List C)(c:Nat):Prop:=
 (c=0∧cs=[.f (fi 2),.sl 2 0 2 2 0 1,.f (fi (-1)),.f .aC]∧∃ fl,J[2]?=some (.box [.f (fi 7),.f (fi 6)] fl)) ∨
 ∃ k:Nat,k<2∧c=k+1∧cs=[.f (fi 5),.sl 4 0 2 2 0 1,.f (fi 1),.sl 5 0 1 1 0 3]∧(∃ fl,J[4]?=some (.box [.f (fi 7),.f (fi 8)] fl))∧∃ fl,J[5]?=some (.box [.f (fi 2),.f (fi k),.f (.bool true)] fl)
section
variable{J J':Heap}{cs:List C}{c:Nat}{s h:Int}{ct cy ct' cy':C}
theorem lS.keep'(hc:lS J cs c)(hk:∀(i:Nat) (l:List C) (fl:Nat),J[i]?=some (.box l fl)→(i=2∨i=4∨i=5)→∃ fl',J'[i]?=some (.box l fl')):lS J' cs c:=by
 rcases hc with⟨h1,h2,fl,h3⟩ | ⟨k,h0,h1,h2,⟨f3,h3⟩,f4,h4⟩
 ·exact .inl ⟨h1,h2,hk _ _ _ h3 (by omega)⟩
 ·exact .inr ⟨k,h0,h1,h2,hk _ _ _ h3 (by omega),hk _ _ _ h4 (by omega)⟩
theorem lS.keep(hc:lS J cs c)(hk:∀ i y,J[i]?=some y→(i=2∨i=4∨i=5)→J'[i]?=some y):lS J' cs c:=hc.keep' fun i l fl h hi=>⟨fl,hk i _ h hi⟩
theorem lS.four(hc:lS J cs c):∃ a b d e,cs=[a,b,d,e]:=by
 rcases hc with⟨-,rfl,-⟩ | ⟨k,-,-,rfl,-,-⟩<;>exact⟨_,_,_,_,rfl⟩
theorem lS.lt(hc:lS J cs c):c<3:=by
 rcases hc with⟨rfl,-⟩ | ⟨k,h0,rfl,-⟩<;>omega
theorem lS.ex(hc:lS J cs c):aZ (exC 64 J) cs=some (jV c):=by
 rcases hc with⟨rfl,rfl,fl,h1⟩ | ⟨k,h0,rfl,rfl,⟨f1,h1⟩,f2,h2⟩
 ·simp [aZ,uM,h1,jV]
 ·simp [aZ,uM,h1,h2,jV]
abbrev tK(cs:List C)(s:Int)(ct:C)(h:Int)(cy:C):Blk:=.box (cs++[.f (fi s),ct,.f (fi h),cy]) 0
theorem aVF(hc:lS J cs c)(hb:J[3]?=some (tK cs s ct h cy)):ldV J none (.c (.ptr 3 5 0))=some (.c ct):=by
 obtain⟨a,b,d,e,rfl⟩:=hc.four;simp [ldV,aF,hb,aO]
theorem aOY(hc:lS J cs c)(hb:J[3]?=some (tK cs s ct h cy)):ldV J none (.c (.ptr 3 7 0))=some (.c cy):=by
 obtain⟨a,b,d,e,rfl⟩:=hc.four;simp [ldV,aF,hb,aO]
theorem Pn(hc:lS J cs c)(hb:J[3]?=some (tK cs s ct h cy)):ldV J (some 8) (.c (.ptr 3 0 0))=some (.a (cs++[.f (fi s),ct,.f (fi h),cy])):=by
 obtain⟨a,b,d,e,rfl⟩:=hc.four;simp [ldV,aF,hb,aO]
theorem aVD(hc:lS J cs c)(hb:J[3]?=some (tK cs s ct h cy)):stC J (.ptr 3 5 0) [ct']=some (J.set 3 (tK cs s ct' h cy)):=by
 obtain⟨a,b,d,e,rfl⟩:=hc.four;simp [stC,hb,over];rfl
theorem aVE{h':Int}(hc:lS J cs c)(hb:J[3]?=some (tK cs s ct h cy)):stC J (.ptr 3 6 0) [.f (fi h')]=some (J.set 3 (tK cs s ct h' cy)):=by
 obtain⟨a,b,d,e,rfl⟩:=hc.four;simp [stC,hb,over];rfl
theorem aOX(hc:lS J cs c)(hb:J[3]?=some (tK cs s ct h cy)):stC J (.ptr 3 7 0) [cy']=some (J.set 3 (tK cs s ct h cy')):=by
 obtain⟨a,b,d,e,rfl⟩:=hc.four;simp [stC,hb,over];rfl
end
structure TrP(tr:List TrD)(at_:Int):Prop where
 tl:tr.length≤3
 lo:0≤at_∧at_≤7260*tr.length
 tb:∀ x ∈ tr,0≤x.at_∧x.at_≤at_∧-1080≤x.off∧x.off≤1080
 ts:∀(i:Nat) x y,tr[i]?=some x→tr[i+1]?=some y→x.at_+2160≤y.at_
theorem TrP.nil:TrP [] 0:=⟨by simp,by simp,by simp,by simp⟩
theorem TrP.app{tr:List TrD}{at_:Int}(h:TrP tr at_)(hl:tr.length≤2){n m:Nat}(hn:n<256):TrP (tr++[⟨at_+2160+20*n,su m⟩]) (at_+2160+20*n):=by
 have hb:=pF m;have h0:=h.lo;refine⟨by simp;omega,by simp;omega,fun x hx=>?_,fun i x y hx hy=>?_⟩
 ·rcases cA.1 hx with hx | hx
  ·have:=h.tb x hx;omega
  ·simp at hx;subst hx;simp only;omega
 ·rw [List.getElem?_append]at hx hy;split at hy
  ·rename_i h1;rw [if_pos (by omega)]at hx
   exact h.ts i x y hx hy
  ·rename_i h1
   have hi:i+1=tr.length:=by
    have:=QC hy;simp at this;omega
   rw [if_pos (by omega)]at hx
   have h2:=h.tb x (List.mem_of_getElem? hx);rw [←hi]at hy;simp at hy;subst hy;simp only;omega
 where QC {α:Type} {l:List α} {i:Nat} {x:α} (h:l[i]?=some x):i<l.length:=(ai.1 h).1
end
section
abbrev i8v(n:Int):V:=.c (.f (.int .i8 n))
theorem rD{n k:Int}(hn:-128≤n∧n≤127)(hk:1≤k∧k≤1000):∃ m,0≤m∧m<k∧Km.Pure tab.get Hf [i8v n,vi k]=Eq (vi m):=by
 obtain⟨rr,⟨m,h1,h2,rfl⟩,hp⟩:∃ rr,(∃ m,0≤m∧m<k∧rr=vi m)∧Km.Pure tab.get Hf [i8v n,vi k] rr:=by
  refine dN a0L rfl fun Q hQ=>?_
  refine kw_sr ?_;simp;have hw:IntKind.i64.wrap n=n:=wrap64 (by omega) (by omega)
  have hr:bW .rem (vi n) (vi k)=some (vi (n.tmod k)):=vS (by omega)
  have hb:-k<n.tmod k∧n.tmod k<k:=by
   rcases Int.le_total 0 n with h | h
   ·rw [cS h];have:=cq n (show k≠0 by omega)
    have:=cr n (show 0<k by omega)
    omega
   ·have:n = -(-n):=by omega
    rw [this,Int.neg_tmod,cS (by omega)]
    have:=cq (-n) (show k≠0 by omega)
    have:=cr (-n) (show 0<k by omega)
    omega
  refine kw_sr ?_;simp [hw,hr];obtain⟨r,hrr⟩:∃ r,r=n.tmod k:=⟨_,rfl⟩;rw [←hrr]at hb ⊢;refine kw_seq (kw_sr ?_);simp;by_cases h0:r<0
  ·have hng:unV .neg (vi r)=some (vi (-r)):=by
    show some (V.c (.f (.int .i64 (IntKind.i64.wrap (0-r)))))=_
    rw [wrap64 (by omega) (by omega),Int.zero_sub]
   refine aj (by simp [h0]) (kw_sr ?_)
   simp [hng];exact aH (hQ _ _ _ ⟨-r,by omega,by omega,rfl⟩ (by simp))
  ·refine bD (by simp [h0]) ?_
   refine kw_sr ?_;simp;exact aH (hQ _ _ _ ⟨r,by omega,by omega,rfl⟩ (by simp))
 exact⟨m,h1,h2,hp.eq⟩
theorem Gq(l:List Int)(v:Int):ints (l++[v])=ints l++[[fi v]]:=by simp [ints]
structure Es(lo x:Int)(zero:Bool)(li:List Int):Prop where
 pw:li.Pairwise (· < ·)
 bd:∀ v ∈ li,lo≤v∧v<x∧(zero=false→v≠0)
theorem Es.snoc{lo x:Int}{zero:Bool}{li:List Int}(h:Es lo x zero li)(hx:lo≤x)(hz:zero=false→x≠0):Es lo (x+1) zero (li++[x]):=by
 refine⟨List.pairwise_append.2 ⟨h.pw,dc _ _,fun a ha b hb=>?_⟩,fun v hv=>?_⟩
 ·simp at hb;subst hb;exact(h.bd a ha).2.1
 ·rcases cA.1 hv with hv | hv
  ·have:=h.bd v hv;exact⟨this.1,by omega,this.2.2⟩
  ·simp at hv;subst hv;exact⟨hx,by omega,hz⟩
theorem Es.skip{lo x:Int}{zero:Bool}{li:List Int}(h:Es lo x zero li):Es lo (x+1) zero li:=⟨h.pw,fun v hv=>by have:=h.bd v hv;exact⟨this.1,by omega,this.2.2⟩⟩
theorem afS{lo:Int}:∀ {n:Nat} {li:List Int},li.Pairwise (· < ·)→(∀ v ∈ li,lo≤v∧v<lo+n)→li.length≤n
 | 0,li,_,hb=>by
  cases li with
  | nil=>exact ax _
  | cons v li=>have:=hb v bh;omega
 | n+1,li,hp,hb=>by
  rcases List.eq_nil_or_concat li with rfl | ⟨l',v,rfl⟩
  ·simp
  ·rw [List.concat_eq_append]at hp hb ⊢;have hp':=List.pairwise_append.1 hp;have hv:=hb v (by simp)
   have:=afS (lo:=lo) (n:=n) (li:=l') hp'.1 fun w hw=>by
    have h1:=hb w (List.mem_append_left _ hw);have h2:=hp'.2.2 w hw v (by simp)
    omega
   simp;omega
set_option maxHeartbeats 1000000 in
theorem qZ(g:Tg)(l:List Nat)(hll:l.length≤9223372036854775807)(hlb:∀ n ∈ l,n<256){lo hi:Int}(h1:-1000≤lo)(h2:lo≤hi)(h3:hi≤1000)(zero:Bool)(hz:zero=false→hi≠0) :
  ∃ g' li,Ris li lo hi zero∧li.length≤(hi-lo+1).toNat∧Km.Pure tab.get sN [.c (.f (sl g (fJ l))),vi lo,vi hi,vb zero]=Eq (.c (.f (sl g' (ints li)))):=by
 obtain⟨rr,⟨g',li,hr,hl,rfl⟩,hp⟩:∃ rr,(∃ g' li,Ris li lo hi zero∧li.length≤(hi-lo+1).toNat∧rr=.c (.f (sl g' (ints li))))∧Km.Pure tab.get sN [.c (.f (sl g (fJ l))),vi lo,vi hi,vb zero] rr:=by
  refine dN a0H rfl fun Q hQ=>?_
  refine kw_sr ?_;simp;refine kw_sr ?_;simp;refine kw_seq (kw_sr ?_);simp;refine aB ?_
  refine bM (fun n s=>∃(x:Int) (li:List Int) (c:C) (t:T) (J:Heap),s=⟨t,[],J⟩∧lo≤x∧x≤hi+1∧n=(hi+1-x).toNat∧Es lo x zero li∧LR J c 1 (ints li)∧t.g 0=.c (.f (sl g (fJ l)))∧t.g 1=vi lo∧t.g 2=vi hi∧t.g 3=vb zero∧t.g 9=.c c∧t.g 10=vi x) (hi+1-lo).toNat
   ⟨lo,[],.f .es,_,[],rfl,dl _,by omega,rfl,⟨List.Pairwise.nil,by simp⟩,.inl ⟨rfl,.inr rfl⟩,by simp,by simp,by simp,by simp,by simp,by simp⟩ ?_
  rintro n s ⟨x,li,c,t,J,rfl,hx0,hx1,rfl,hI,hL,g0,g1,g2,g3,g9,g10⟩ ih;have hlen:li.length≤(x-lo).toNat:=afS (lo:=lo) hI.pw fun v hv=>by have:=hI.bd v hv;omega
  refine kw_seq (kw_sr ?_);simp [g10,g2];by_cases hx:x≤hi
  case neg=>
   refine ah (by simp [hx]) ?_
   refine bC (k':=[.code y7]) rfl ?_;have hln:=hL.len
   have fin:∀(t:T) (J:Heap) (c:C) (li:List Int),Ris li lo hi zero→li.length≤(hi-lo+1).toNat→LR J c 1 (ints li)→t.g 9=.c c→WP tab.get sN none [.code OO] ⟨t,[],J⟩ Q:=by
    intro t J c li hr hl hL g9;obtain⟨g',hx⟩:=hL.ex (jr _) 63;have hx':exC deep J c=some (sl g' (ints li)):=hx;refine kw_sr ?_;simp [g9];refine aH (hQ _ _ _ ⟨g',li,hr,hl,rfl⟩ ⟨rfl,.c c,?_,?_⟩)
    ·simp [Km.results,bT,aZ]
    ·simp [exV,dG,hx']
   refine kw_seq (kw_sr ?_);simp [g9,hln];by_cases h0:li=[]
   ·subst h0;obtain⟨J1,hJ1⟩:∃ J1:Heap,J1=J++[.box ([fi hi].map .f) 0]:=⟨_,rfl⟩;have hL1:LR J1 c 1 (ints []):=by rw [hJ1];exact hL.push _
    have hb1:J1[J.length]?=some (.box ([fi hi].map .f) 0):=by rw [hJ1];simp
    obtain⟨c',H',happ,hL',hK',hc'⟩:=hL1.app (jr _) (by decide) (row:=[fi hi]) rfl (bytes:=8) (by decide) hb1
    simp only [aM,ba]at hJ1;refine aj (by simp) (kw_region (.inl rfl) ?_)
    simp [g9,g2];rw [←hJ1];simp [happ];have hr:Ris [hi] lo hi zero:=⟨by simp,dc _ _,fun v hv=>by simp at hv;subst hv;exact⟨h2,dl _,hz⟩⟩
    exact fin _ _ c' [hi] hr (by simp;omega) (by simpa [ints]using hL') (by simp)
   ·refine bD (by simp [h0]) ?_
    have hr:Ris li lo hi zero:=⟨h0,hI.pw,fun v hv=>by have:=hI.bd v hv;exact⟨this.1,by omega,this.2.2⟩⟩
    exact fin _ _ c li hr (by omega) hL (by simp [g9])
  refine aj (by simp [hx]) (aG ?_)
  refine kw_seq (aB (kw_sr ?_));simp;have hx2:IntKind.i64.wrap (x+1)=x+1:=wrap64 (by omega) (by omega)
  refine kw_seq (kw_sr ?_);simp;obtain⟨N,hN⟩:∃ N,N=min l.length 4:=⟨_,rfl⟩
  refine dU N (fun i t K=>K=J∧t.g 0=.c (.f (sl g (fJ l)))∧t.g 1=vi lo∧t.g 2=vi hi∧t.g 3=vb zero∧t.g 9=.c c∧t.g 10=vi x∧∃ b,t.g 11=vb b) (by omega) (by decide) (by simp)
   ⟨rfl,by simp [g0],by simp [g1],by simp [g2],by simp [g3],by simp [g9],by simp [g10],false,by simp⟩ ?_ ?_ ?_
  ·rintro i t K L hi' ⟨rfl,g0,g1,g2,g3,g9,g10,b,g11⟩ ha hn;by_cases c1:(i:Int)<l.length
   ·simp [ha,g0,c1];exact hn _ ⟨rfl,by simp [g0],by simp [g1],by simp [g2],by simp [g3],by simp [g9],by simp [g10],b,by simp [g11]⟩ (by simp [ha]) (by simp;omega)
   ·simp [ha,g0,c1];exact hn _ ⟨rfl,by simp [g0],by simp [g1],by simp [g2],by simp [g3],by simp [g9],by simp [g10],b,by simp [g11]⟩ (by simp [ha]) (by simp;omega)
  ·rintro i t K hi' ⟨rfl,g0,g1,g2,g3,g9,g10,b,g11⟩ ha nx;have hil:i<l.length:=by omega
   have hv:=hlb _ (aw hil);refine aB (kw_region (.inl rfl) ?_);cases b
   ·have w1:IntKind.i64.wrap (l[i]:Int)=l[i]:=wrap64 (by omega) (by omega)
    have w2:IntKind.i64.wrap (hi-lo)=hi-lo:=wrap64 (by omega) (by omega)
    have w3:IntKind.i64.wrap (hi-lo+1)=hi-lo+1:=wrap64 (by omega) (by omega)
    have w4:=wS (a:=(l[i]:Int)) (b:=hi-lo+1) (by omega) (by omega)
    simp [g11,g1,g0,ha,zM hil,DI hil,w1,g2,w2,w3,w4,g10];refine au (nx _ _ ⟨rfl,by simp [g0],by simp [g1],by simp [g2],by simp [g3],by simp [g9],by simp [g10],_,by simp;rfl⟩ (by simp [ha]))
   ·simp [g11];refine au (nx _ _ ⟨rfl,by simp [g0],by simp [g1],by simp [g2],by simp [g3],by simp [g9],by simp [g10],true,by simp⟩ (by simp [ha]))
  ·rintro t K ⟨rfl,g0,g1,g2,g3,g9,g10,b,g11⟩ ha
   have no:∀ t:T,t.g 0=.c (.f (sl g (fJ l)))→t.g 1=vi lo→t.g 2=vi hi→t.g 3=vb zero→t.g 9=.c c→t.g 10=vi x→t.g 54=vb false →
     WP tab.get sN none [.code EN,.inBlock 1,.code EM,.inLoop J6,.inBlock 0,.code y7] ⟨t,[],K⟩ Q:=by
    intro t g0 g1 g2 g3 g9 g10 g54;refine ah g54 (aG (au (kw_region (.inl rfl) ?_)));simp [g10,hx2];exact ih (hi+1-(x+1)).toNat _ (by omega) ⟨x+1,li,c,_,_,rfl,by omega,by omega,rfl,hI.skip,hL,by simp [g0],by simp [g1],by simp [g2],by simp [g3],by simp [g9],by simp⟩
   have yes:(zero=false→x≠0)→∀ t:T,t.g 0=.c (.f (sl g (fJ l)))→t.g 1=vi lo→t.g 2=vi hi→t.g 3=vb zero→t.g 9=.c c→t.g 10=vi x→t.g 54=vb true →
     WP tab.get sN none [.code EN,.inBlock 1,.code EM,.inLoop J6,.inBlock 0,.code y7] ⟨t,[],K⟩ Q:=by
    intro hzx t g0 g1 g2 g3 g9 g10 g54;obtain⟨J1,hJ1⟩:∃ J1:Heap,J1=K++[.box ([fi x].map .f) 0]:=⟨_,rfl⟩;have hL1:LR J1 c 1 (ints li):=by rw [hJ1];exact hL.push _
    have hb1:J1[K.length]?=some (.box ([fi x].map .f) 0):=by rw [hJ1];simp
    obtain⟨c',H',happ,hL',hK',hc'⟩:=hL1.app (jr _) (by decide) (row:=[fi x]) rfl (bytes:=8) (fB (by simp;omega) (by decide)) hb1
    simp only [aM,ba]at hJ1;refine aj g54 (kw_region (.inl rfl) ?_);simp [g9,g10];rw [←hJ1];simp [happ];refine au (kw_region (.inl rfl) ?_);simp [g10,hx2];exact ih (hi+1-(x+1)).toNat _ (by omega) ⟨x+1,li++[x],c',_,_,rfl,by omega,by omega,rfl,hI.snoc hx0 hzx,by rw [Gq];exact hL',by simp [g0],by simp [g1],by simp [g2],by simp [g3],by simp,by simp⟩
   refine kw_sr ?_;cases b
   ·simp [g11];exact no _ (by simp [g0]) (by simp [g1]) (by simp [g2]) (by simp [g3]) (by simp [g9]) (by simp [g10]) (by simp)
   ·by_cases WL:x=0
    ·cases zero
     ·simp [g11,g10,WL,g3];exact no _ (by simp [g0]) (by simp [g1]) (by simp [g2]) (by simp [g3]) (by simp [g9]) (by simp [g10,WL]) (by simp)
     ·simp [g11,g10,WL,g3];exact yes (fun e=>by cases e) _ (by simp [g0]) (by simp [g1]) (by simp [g2]) (by simp [g3]) (by simp [g9]) (by simp [g10,WL]) (by simp)
    ·simp [g11,g10,WL];exact yes (fun _=>WL) _ (by simp [g0]) (by simp [g1]) (by simp [g2]) (by simp [g3]) (by simp [g9]) (by simp [g10]) (by simp)
 exact⟨g',li,hr,hl,hp.eq⟩
end
section
def uq:List C:=[.f (fi 0),.f (fi 0),.f (fi 0),.f (fi 0),.f (fi 0),.f (fi 0),.f .aC,.f (.str ⟨#[]⟩)]
theorem E8(l:List aT)(x:aT):aI (l++[x])=aI l++[x.row]:=by simp [aI]
theorem Gm{H:Heap}{b fl:Nat}{x:aT}(hb:H[b]?=some (.box (x.row.map .f) fl)) :
  ldV H none (.c (.ptr b 0 0))=some (vi x.d.k)∧ldV H none (.c (.ptr b 1 0))=some (vi x.d.cal)∧ldV H none (.c (.ptr b 2 0))=some (vi x.d.l)∧ldV H none (.c (.ptr b 3 0))=some (vi x.d.r) ∧
  ldV H none (.c (.ptr b 4 0))=some (vi x.d.n)∧ldV H none (.c (.ptr b 5 0))=some (vi x.d.m)∧ldV H none (.c (.ptr b 6 0))=some (.c (.f (sl x.tg (ints x.d.li))))∧ldV H (some 8) (.c (.ptr b 0 0))=some (.a (x.row.map .f)):=by
 refine⟨?_,?_,?_,?_,?_,?_,?_,?_⟩<;>simp [ldV,hb,aF,aO,aT.row]
theorem nX(x:aT)(hxl:x.d.li.length≤61):∃ tg,Km.Pure tab.get Bf [.a (x.row.map .f)]=Eq (.a ((aT.row ⟨x.d,tg⟩).map .f)):=by
 obtain⟨rr,⟨tg,rfl⟩,hp⟩:∃ rr,(∃ tg,rr=.a ((aT.row ⟨x.d,tg⟩).map .f))∧Km.Pure tab.get Bf [.a (x.row.map .f)] rr:=by
  refine dN a0O rfl fun Q hQ=>?_
  refine kw_sr ?_;simp;obtain⟨H,hH⟩:∃ H:Heap,H=[.box (x.row.map .f) 0,.box uq 0]:=⟨_,rfl⟩;have b0:H[0]?=some (.box (x.row.map .f) 0):=by rw [hH];rfl
  have b1:H[1]?=some (.box uq 0):=by rw [hH];rfl
  have hl:H.length=2:=by rw [hH];rfl
  simp only [uq]at hH;rw [←hH];clear hH;refine kw_sr ?_;simp;refine kw_seq (kw_sr ?_);simp
  refine dU x.d.li.length (fun j t K=>∃ c,t.g 1=.c (.ptr 0 0 0)∧t.g 2=.c (.ptr 1 0 0)∧t.g 3=.c c∧LR K c 1 (ints (x.d.li.take j))∧Kb H K (.f .es)∧(∀ b,bf c=some b→2≤b)) (by omega) (by decide) (by simp)
   ⟨.f .es,by simp,by simp,by simp,.inl ⟨rfl,.inr rfl⟩,Kb.refl _ _,by simp [bf]⟩ ?_ ?_ ?_
  ·rintro j t K L hj ⟨c,g1,g2,g3,hLR,hKb,hcb⟩ ha hn;obtain⟨-,-,-,-,-,-,e6,-⟩:=Gm (hKb.2 0 _ b0 (by simp [bf]))
   simp [ha,g1,e6,-ak];exact hn _ ⟨c,by simp [g1],by simp [g2],by simp [g3],hLR,hKb,hcb⟩ (by simp [ha]) (by simp)
  ·rintro j t K hj ⟨c,g1,g2,g3,hLR,hKb,hcb⟩ ha nx;obtain⟨-,-,-,-,-,-,e6,-⟩:=Gm (hKb.2 0 _ b0 (by simp [bf]))
   have hix:∀ H,aP H 1 none (.c (.f (sl x.tg (ints x.d.li)))) (vi j)=some (.c (.f (.fp (ints x.d.li).flatten j))):=fun H=>by
    have:=iq (H:=H) (g:=x.tg) (rows:=ints x.d.li) (sz:=1) (k:=.i64) (i:=(j:Int)) (by omega) (by simp;omega)
    simpa using this
   obtain⟨v,hv⟩:∃ v,v=x.d.li[j]:=⟨_,rfl⟩;have hlj:ldV K none (.c (.f (.fp (ints x.d.li).flatten j)))=some (vi v):=by rw [hv];exact rJ hj
   obtain⟨K1,hK1⟩:∃ K1:Heap,K1=K++[.box ([fi v].map .f) 0]:=⟨_,rfl⟩;have hL1:LR K1 c 1 (ints (x.d.li.take j)):=by rw [hK1];exact hLR.push _
   have hb1:K1[K.length]?=some (.box ([fi v].map .f) 0):=by rw [hK1];simp
   obtain⟨c',H',happ,hL',hK',hc'⟩:=hL1.app (jr _) (by decide) (row:=[fi v]) rfl (bytes:=8) (fB (by simp;omega) (by decide)) hb1
   simp only [aM,ba]at hK1;refine aB (kw_region (.inl rfl) ?_);simp [g1,g3,e6,-ak,ha,hix,hlj];rw [←hK1];simp [happ]
   have h1:Kb H K1 (.f .es):=by
    refine⟨by have:=hKb.1;rw [hK1];simp;omega,fun i y hy hn=>?_⟩
    rw [hK1,ag (aA (hKb.2 i y hy hn))];exact hKb.2 i y hy hn
   refine au ?_;refine nx _ _ ⟨c',by simp [g1],by simp [g2],by simp,?_,?_,?_⟩ (by simp [ha])
   ·rw [aR hj,←hv,Gq];exact hL'
   ·refine⟨Nat.le_trans h1.1 hK'.1,fun i y hy hn=>hK'.2 i y (h1.2 i y hy hn) fun e=>?_⟩
    have:=hcb i e;have:=aA hy;omega
   ·intro b hb;rcases hc' with e | e
    ·exact hcb b (by rw [←e];exact hb)
    ·rw [hb]at e;cases e;have:=h1.1;omega
  ·rintro t K ⟨c,g1,g2,g3,hLR,hKb,hcb⟩ ha;rw [cm]at hLR;have k0:=hKb.2 0 _ b0 (by simp [bf])
   have k1:=hKb.2 1 _ b1 (by simp [bf])
   have st1:stC K (.ptr 0 6 0) [c]=some (K.set 0 (.box (x.cel c) 0)):=by simp [stC,k0,aT.row,aT.cel,over]
   obtain⟨K2,hK2⟩:∃ K2:Heap,K2=K.set 0 (.box (x.cel c) 0):=⟨_,rfl⟩;have k20:K2[0]?=some (.box (x.cel c) 0):=by rw [hK2];exact az (aA k0)
   have k21:K2[1]?=some (.box uq 0):=by rw [hK2,am (by decide)];exact k1
   have e8:ldV K2 (some 8) (.c (.ptr 0 0 0))=some (.a (x.cel c)):=by simp [ldV,k20,aF,aO,aT.cel]
   have st2:stC K2 (.ptr 1 0 0) (x.cel c)=some (K2.set 1 (.box (x.cel c) 0)):=by simp [stC,k21,over,uq,aT.cel]
   obtain⟨K3,hK3⟩:∃ K3:Heap,K3=K2.set 1 (.box (x.cel c) 0):=⟨_,rfl⟩;have k31:K3[1]?=some (.box (x.cel c) 0):=by rw [hK3];exact az (aA k21)
   have hL3:LR K3 c 1 (ints x.d.li):=by
    rw [hK3,hK2];exact(hLR.set (fun e=>by have:=hcb 0 e;omega) _).set (fun e=>by have:=hcb 1 e;omega) _
   have hc8:(x.cel c).length=8:=rfl;obtain⟨g',hx⟩:=hL3.ex (jr _) 63;have hx':exC deep K3 c=some (sl g' (ints x.d.li)):=hx;have e31:ldV K3 (some 8) (.c (.ptr 1 0 0))=some (.a (x.cel c)):=by simp [ldV,k31,aF,aO,aT.cel]
   refine kw_sr ?_;simp [g1,g3,st1,-bJ];rw [←hK2];refine kw_sr ?_;simp [g1,g2,e8,st2,-bJ,-ak,hc8];rw [←hK3];refine aH (hQ _ _ _ ⟨g',rfl⟩ ⟨rfl,.a (x.cel c),?_,?_⟩)
   ·simp [Km.results,bT,aZ,g2,e31,-ak]
   ·simp [exV,dG,aZ,aT.cel,hx',aT.row]
 exact⟨tg,hp.eq⟩
def plc(d n:Nat):List Int:=(List.range n).map fun k:Nat=>((d+k:Nat):Int)
@[simp] theorem a1p (d n:Nat):(plc d n).length=n:=by simp [plc]
theorem aE2{d n k:Nat}(h:k<n):(plc d n)[k]'(by simpa using h)=((d+k:Nat):Int):=by simp [plc]
theorem afX(d n:Nat):plc d (n+1)=plc d n++[((d+n:Nat):Int)]:=by simp [plc,List.range_succ]
theorem UL{H:Heap}{g:Tg}{d n:Nat}{k:Int}(h0:0≤k)(h1:k<n)(hn:n≤1000):aP H 1 none (.c (.f (sl g (ints (plc d n))))) (vi k)=some (.c (.f (.fp (ints (plc d n)).flatten k.toNat))) ∧
  ldV H none (.c (.f (.fp (ints (plc d n)).flatten k.toNat)))=some (vi (k+d)):=by
 constructor
 ·have:=iq (H:=H) (g:=g) (rows:=ints (plc d n)) (sz:=1) (k:=.i64) (i:=k) (by omega) (by simp;omega)
  simpa using this
 ·have:=rJ (j:=k.toNat) (l:=plc d n) (by simp;omega) (H:=H)
  rw [aE2 (by omega)]at this
  rw [this]
  congr 4
  omega
theorem V4(x:aT){i:Nat}(hA:rW i x.d)(hi:i≤100)(g:Tg)(d:Nat) :
  ∃ tg,Km.Pure tab.get He [.a (x.row.map .f),.c (.f (sl g (ints (plc d (i+1)))))]=Eq (.a ((aT.row ⟨x.d.shift d,tg⟩).map .f)):=by
 obtain⟨rr,⟨tg,rfl⟩,hp⟩:∃ rr,(∃ tg,rr=.a ((aT.row ⟨x.d.shift d,tg⟩).map .f))∧Km.Pure tab.get He [.a (x.row.map .f),.c (.f (sl g (ints (plc d (i+1)))))] rr:=by
  obtain⟨tg,vZ⟩:=nX x hA.ok.1;have hops:=ug hA.ok;have ho2:=vI x.d.k;obtain⟨⟨k,cal,l,r,n,m,li⟩,tg0⟩:=x;simp only at vZ hops ho2;have hl1:=hA.l1;have hr2:=hA.r2;simp only at hl1 hr2;refine dN a0K rfl fun Q hQ=>?_
  have sh1:∀ tg,aT.row ⟨bH.shift d ⟨k,cal,l,r,n,m,li⟩,tg⟩=aT.row ⟨⟨k,cal,if 1≤gK k then l+d else l,if gK k=2 then r+d else r,n,m,li⟩,tg⟩:=fun tg=>rfl
  simp only [sh1]at hQ;refine kw_sr ?_;simp [aT.row];refine kw_sr ?_;simp only [aT.row,aM,ba]at vZ;simp [vZ];obtain⟨y,hy⟩:∃ y:aT,y=⟨⟨k,cal,l,r,n,m,li⟩,tg⟩:=⟨_,rfl⟩;refine kw_sr ?_;simp [hops];obtain⟨o,ho⟩:∃ o,o=gK k:=⟨_,rfl⟩;rw [←ho]at hQ hl1 hr2 ho2 ⊢
  have fin:∀(t:T) (l' r':Int) ,t.g 2=.c (.ptr 0 0 0)→t.g 4=.c (.ptr 1 0 0)→l'=(if 1≤o then l+d else l)→r'=(if o=2 then r+d else r) →
    WP tab.get He none [.code OZ] ⟨t,[],[.box ((aT.row ⟨⟨k,cal,l',r',n,m,li⟩,tg⟩).map .f) 0,.box uq 0]⟩ Q:=by
   intro t l' r' g2 g4 hl hr;refine kw_sr ?_;simp [g2,g4,aT.row,uq];refine aH (hQ _ _ _ ⟨tg,rfl⟩ ⟨rfl,.a ((aT.row ⟨⟨k,cal,l',r',n,m,li⟩,tg⟩).map .f),?_,?_⟩)
   ·simp [Km.results,bT,aZ,g4,aT.row,aO]
   ·simp [exV,dG,aT.row,aZ,hl,hr]
  have fin2:∀(t:T) (l':Int) ,t.g 1=.c (.f (sl g (ints (plc d (i+1)))))→t.g 2=.c (.ptr 0 0 0)→t.g 4=.c (.ptr 1 0 0)→t.g 5=vi o→l'=(if 1≤o then l+d else l) →
    WP tab.get He none [.code O1] ⟨t,[],[.box ((aT.row ⟨⟨k,cal,l',r,n,m,li⟩,tg⟩).map .f) 0,.box uq 0]⟩ Q:=by
   intro t l' g1 g2 g4 g5 hl;refine kw_seq (kw_sr ?_);simp [g5];by_cases h2:o=2
   ·have hrr:=hr2 h2;obtain⟨f1,f2⟩:=UL (H:=[.box ((aT.row ⟨⟨k,cal,l',r,n,m,li⟩,tg⟩).map .f) 0,.box uq 0]) (g:=g) (d:=d) (n:=i+1) (k:=r) hrr.1 (by omega) (by omega)
    simp only [aT.row,aM,ba]at f1 f2;refine aj (by simp [h2]) (kw_region (.inl rfl) ?_)
    simp [g1,g2,aT.row,f1,f2];exact fin _ l' (r+d) (by simp [g2]) (by simp [g4]) hl (by rw [if_pos h2])
   ·refine ah (by simp;omega) (aG ?_)
    exact fin _ l' r (by simp [g2]) (by simp [g4]) hl (by rw [if_neg h2])
  refine kw_seq (kw_sr ?_);simp;by_cases h1:1≤o
  ·have hll:=hl1 h1;obtain⟨f1,f2⟩:=UL (H:=[.box ((aT.row ⟨⟨k,cal,l,r,n,m,li⟩,tg⟩).map .f) 0,.box uq 0]) (g:=g) (d:=d) (n:=i+1) (k:=l) hll.1 (by omega) (by omega)
   simp only [aT.row,uq,aM,ba]at f1 f2;refine aj (by simp;omega) (kw_region (.inl rfl) ?_)
   simp [aT.row,f1,f2];exact fin2 _ (l+d) (by simp) (by simp) (by simp) (by simp) (by rw [if_pos h1])
  ·refine ah (by simp;omega) (aG ?_)
   exact fin2 _ l (by simp) (by simp) (by simp) (by simp) (by rw [if_neg h1])
 exact⟨tg,hp.eq⟩
end
section
def LiB(r:List aT):Prop:=∀ x ∈ r,x.d.li.length≤61
theorem uj{J:Heap}{c:C}{l:List aT}(hL:LR J c 8 (aI l))(hl:l.length≤1000)(x:aT) :
  ∃ c' H',dI (J++[.box (x.row.map .f) 0]) 8 88 (.c c) (.c (.sl J.length 0 1 1 0 8))=some (.c c',H')∧LR H' c' 8 (aI (l++[x]))∧Kb (J++[.box (x.row.map .f) 0]) H' c∧(bf c'=bf c∨bf c'=some (J.length+1)):=by
 have hL1:=hL.push [.box (x.row.map .f) 0];have hb1:(J++[.box (x.row.map .f) 0])[J.length]?=some (.box (x.row.map .f) 0):=by simp
 obtain⟨c',H',happ,hL',hK',hc'⟩:=hL1.app (iV _) (by decide) (row:=x.row) rfl (bytes:=88) (fB (by simp;omega) (by decide)) hb1
 rw [List.length_append,List.length_singleton]at hc';exact⟨c',H',happ,by rw [E8];exact hL',hK',hc'⟩
theorem afm(y:aT)(hy:y.d.li.length≤61)(g:Tg){r:List aT}(hr:r.length≤60)(hb:LiB r) :
  ∃ g' l',dat l'=dat r++[⟨y.d.k,y.d.cal,(r.length:Int)-1,y.d.r,y.d.n,y.d.m,y.d.li⟩]∧Km.Pure tab.get Vo [.a (y.row.map .f),.c (.f (sl g (aI r)))]=Eq (.c (.f (sl g' (aI l')))):=by
 obtain⟨rr,⟨g',l',hd,rfl⟩,hp⟩:∃ rr,(∃ g' l',dat l'=dat r++[⟨y.d.k,y.d.cal,(r.length:Int)-1,y.d.r,y.d.n,y.d.m,y.d.li⟩]∧rr=.c (.f (sl g' (aI l'))))∧Km.Pure tab.get Vo [.a (y.row.map .f),.c (.f (sl g (aI r)))] rr:=by
  refine dN a0Q rfl fun Q hQ=>?_
  refine kw_sr ?_;simp;obtain⟨H,hH⟩:∃ H:Heap,H=[.box (y.row.map .f) 0]:=⟨_,rfl⟩;have b0:H[0]?=some (.box (y.row.map .f) 0):=by rw [hH];rfl
  have hl:H.length=1:=by rw [hH];rfl
  rw [←hH];clear hH;refine kw_sr ?_;simp;refine kw_seq (kw_sr ?_);simp
  refine dU r.length (fun j t K=>∃ c l,t.g 1=.c (.f (sl g (aI r)))∧t.g 2=.c (.ptr 0 0 0)∧t.g 5=.c c∧LR K c 8 (aI l)∧dat l=dat (r.take j)∧K[0]?=some (.box (y.row.map .f) 0)) (by omega) (by decide) (by simp)
   ⟨.f .es,[],by simp,by simp,by simp,.inl ⟨rfl,.inr rfl⟩,by simp,b0⟩ ?_ ?_ ?_
  ·rintro j t K L hj ⟨c,l,g1,g2,g5,hLR,hd,b0⟩ ha hn;simp [ha,g1];exact hn _ ⟨c,l,by simp [g1],by simp [g2],by simp [g5],hLR,hd,b0⟩ (by simp [ha]) (by simp)
  ·rintro j t K hj ⟨c,l,g1,g2,g5,hLR,hd,b0⟩ ha nx;obtain⟨x,hx⟩:∃ x,x=r[j]:=⟨_,rfl⟩;obtain⟨tg,vZ⟩:=nX x (by rw [hx];exact hb _ (aw hj))
   have hll:l.length=j:=by have:=congrArg List.length hd;simp at this;omega
   obtain⟨c',H',happ,hL',hK',hc'⟩:=uj hLR (by omega) ⟨x.d,tg⟩
   have hr8:((aT.row ⟨x.d,tg⟩).map C.f).length=8:=rfl;refine aB (kw_region (.inl rfl) ?_);simp [g1,g5,ha,jh hj (by omega),rH hj,←hx,vZ,hr8,happ]
   refine au ?_;refine nx _ _ ⟨c',l++[⟨x.d,tg⟩],by simp [g1],by simp [g2],by simp,hL',?_,?_⟩ (by simp [ha])
   ·rw [aR hj,←hx];simp only [dat,cY,aM,ba]at hd ⊢;rw [hd]
   ·exact hK'.2 0 _ (by rw [ag (aA b0)];exact b0) (hLR.eG b0)
  ·rintro t K ⟨c,l,g1,g2,g5,hLR,hd,b0⟩ ha;rw [cm]at hd;have hll:l.length=r.length:=by have:=congrArg List.length hd;simpa using this
   obtain⟨y',hy'⟩:∃ y':aT,y'=⟨⟨y.d.k,y.d.cal,(r.length:Int)-1,y.d.r,y.d.n,y.d.m,y.d.li⟩,y.tg⟩:=⟨_,rfl⟩;have st1:stC K (.ptr 0 2 0) [.f (fi ((r.length:Int)-1))]=some (K.set 0 (.box (y'.row.map .f) 0)):=by simp [stC,b0,over,aT.row,hy']
   obtain⟨K2,hK2⟩:∃ K2:Heap,K2=K.set 0 (.box (y'.row.map .f) 0):=⟨_,rfl⟩;have k20:K2[0]?=some (.box (y'.row.map .f) 0):=by rw [hK2];exact az (aA b0)
   have hL2:LR K2 c 8 (aI l):=by rw [hK2];exact hLR.set (hLR.eG b0) _
   obtain⟨-,-,-,-,-,-,-,e8⟩:=Gm k20;obtain⟨tg,vZ⟩:=nX y' (by rw [hy'];exact hy)
   obtain⟨c',H',happ,hL',hK',hc'⟩:=uj hL2 (by omega) ⟨y'.d,tg⟩
   have hr8:((aT.row ⟨y'.d,tg⟩).map C.f).length=8:=rfl;obtain⟨g',hx⟩:=hL'.ex (iV _) 63;have hx':exC deep H' c'=some (sl g' (aI (l++[⟨y'.d,tg⟩]))):=hx;refine kw_sr ?_;simp [g1,g2,wrap64 (n:=(r.length:Int)-1) (by omega) (by omega),st1,-bJ]
   rw [←hK2];refine kw_sr ?_;simp [g5,g2,e8,-ak,vZ,hr8,happ];refine aH (hQ _ _ _ ⟨g',l++[⟨y'.d,tg⟩],?_,rfl⟩ ⟨rfl,.c c',?_,?_⟩)
   ·simp only [dat,cY,aM,ba]at hd ⊢;rw [hd,hy']
   ·simp [Km.results,bT,aZ]
   ·simp [exV,dG,hx']
 exact⟨g',l',hd,hp.eq⟩
end
section
section
variable{J:Heap}{x:kY}
theorem Ua(h:J[0]?=some (.box (x.row.map .f) 0)):ldV J none (.c (.ptr 0 1 0))=some (.c (.f (sl x.gg (fJ x.gaps)))):=by simp [ldV,aF,h,aO,kY.row]
theorem TY(h:J[0]?=some (.box (x.row.map .f) 0)):ldV J none (.c (.ptr 0 2 0))=some (.c (.f (sl x.og (fJ x.Dn)))):=by simp [ldV,aF,h,aO,kY.row]
theorem aVV(h:J[0]?=some (.box (x.row.map .f) 0)):ldV J none (.c (.ptr 0 3 0))=some (.c (.f (u8 x.be))):=by simp [ldV,aF,h,aO,kY.row]
theorem KX(h:J[0]?=some (.box (x.row.map .f) 0)):ldV J none (.c (.ptr 0 13 0))=some (vb x.rules):=by simp [ldV,aF,h,aO,kY.row]
theorem a3m(h:J[0]?=some (.box (x.row.map .f) 0)){k:Nat}(hk:k<2):ldV J (some 4) (.c (.ptr 0 (4+k*4) 0))=some (.a [.f (u8 (x.y k 0)),.f (u8 (x.y k 1)),.f (u8 (x.y k 2)),.f (u8 (x.y k 3))]):=by
 have:k=0∨k=1:=by omega
 rcases this with rfl | rfl<;>simp [ldV,aF,h,aO,kY.row]
end
theorem OKZ.retag{c:Nat}{s h:Int}{tr:List TrD}{yr:List YrD}{tg tg' yg yg':Tg}{o:List TrD}(k:OKZ ⟨c,s,tg,tr,h,yg,yr⟩ o):OKZ ⟨c,s,tg',tr,h,yg',yr⟩ o:=⟨k.c,k.st,k.tl,k.tb,k.ts,k.ho,k.y⟩
structure ZI(x:kY)(cs:List C)(c:Nat)(s h:Int)(tr:List TrD)(ct:C)(yr:List YrD)(cy:C)(t:T)(J:Heap):Prop where
 raw:J[0]?=some (.box (x.row.map .f) 0)
 res:J[1]?=some (.box [.f (fi 0),.f .aC,.f (fi 0),.f .aC,.f (fi 0),.f .aC,.f (fi 0),.f .aC] 0)
 cal:lS J cs c
 zb:J[3]?=some (tK cs s ct h cy)
 lt:LR J ct 2 (aS tr)
 ly:LR J cy 5 (bV yr)
 ne:∀ i,bf ct=some i→bf cy≠some i
 g1:t.g 1=.c (.ptr 0 0 0)
 g2:t.g 2=.c (.ptr 1 0 0)
 g3:t.g 3=.c (.ptr 3 0 0)
def LRw(H:Heap)(c:C)(sz:Nat)(rows:List (List FC)):Prop:=(rows=[]∧(c=.f .aC∨c=.f .es))∨(rows≠[]∧∃ b ep fl,c=.sl b 0 rows.length 0 ep sz∧H[b]?=some (.opn sz (rows.flatten.map .f) fl ep .loc))
section
variable{H H':Heap}{c:C}{sz:Nat}{rows:List (List FC)}
theorem LRw.of(h:LR H c sz rows):LRw H c sz rows:=by
 rcases h with h | ⟨h,b,ep,h1,h2⟩
 ·exact .inl h
 ·exact .inr ⟨h,b,ep,0,h1,h2⟩
theorem LRw.exU(h:LRw H c sz rows)(hg:Grid sz rows):∃ g,∀(H':Heap) (n:Nat),LRw H' c sz rows→exC (n+1) H' c=some (sl g rows):=by
 by_cases hr:rows=[]
 ·rcases h with⟨rfl,rfl | rfl⟩ | ⟨h,_⟩
  ·exact⟨.nil,fun _ _ _=>rfl⟩
  ·exact⟨.es,fun _ _ _=>rfl⟩
  ·exact absurd hr h
 ·refine⟨.fs,fun H' n hk=>?_⟩
  rcases hk with⟨h,_⟩ | ⟨_,b,ep,fl,rfl,h2⟩
  ·exact absurd h hr
  have hl:rows.length*sz=rows.flatten.length:=(jT hg).symm;simp only [uM,h2];rw [if_pos ⟨trivial,trivial,by rw [cF,cR,hl];exact ax _⟩,List.drop_zero,bu (by rw [cF];omega),zF]
  cases rows with
  | nil=>exact absurd rfl hr
  | cons x l=>simp [sl]
theorem LRw.keep(h:LRw H c sz rows)(hk:∀(i s:Nat) (l:List C) (fl ep:Nat) (st:Km.Os),H[i]?=some (.opn s l fl ep st)→∃ fl',H'[i]?=some (.opn s l fl' ep st)):LRw H' c sz rows:=by
 rcases h with h | ⟨h,b,ep,fl,h1,h2⟩
 ·exact .inl h
 ·obtain⟨fl',h3⟩:=hk _ _ _ _ _ _ h2;exact .inr ⟨h,b,ep,fl',h1,h3⟩
theorem LRw.mk(h:LRw H c sz rows):(∀(i:Nat) (l:List C) (fl:Nat),H[i]?=some (.box l fl)→(mkC deep c H)[i]?=some (.box l fl))∧∀(i s:Nat) (l:List C) (fl ep:Nat) (st:Km.Os),H[i]?=some (.opn s l fl ep st)→∃ fl',(mkC deep c H)[i]?=some (.opn s l fl' ep st):=by
 rcases h with⟨_,rfl | rfl⟩ | ⟨h,b,ep,fl,rfl,h2⟩
 ·exact⟨fun i l fl h=>by simpa using h,fun i s l fl ep st h=>⟨fl,by simpa using h⟩⟩
 ·exact⟨fun i l fl h=>by simpa using h,fun i s l fl ep st h=>⟨fl,by simpa using h⟩⟩
 ·have e:mkC deep (.sl b 0 rows.length 0 ep sz) H=H.set b (.opn sz (rows.flatten.map .f) (Nat.max fl (0+rows.length*sz)) ep .loc):=by
   simp only [deep,agI,h2];rw [BN];intro x hx;have hx:=d8 (dC hx);obtain⟨m,_,rfl⟩:=cK.1 hx;exact⟨_,rfl⟩
  rw [e];refine⟨fun i l fl h=>?_,fun i s l fl ep st h=>?_⟩
  ·rw [am (by rintro rfl;rw [h2]at h;cases h)];exact h
  ·by_cases e:b=i
   ·subst e;rw [h2]at h;cases h;exact⟨_,az (aA h2)⟩
   ·rw [am e];exact⟨fl,h⟩
end
theorem mk_box{H:Heap}{b l cp e sz fl:Nat}{xs:List FC}(h:H[b]?=some (.box (xs.map .f) fl)):mkC deep (.sl b 0 l cp e sz) H=H.set b (.box (xs.map .f) (Nat.max fl (0+l*sz))):=by
 simp only [deep,agI,h];rw [BN];intro x hx;have hx:=d8 (dC hx);obtain⟨m,_,rfl⟩:=cK.1 hx;exact⟨_,rfl⟩
theorem lS.mk{H:Heap}{cs:List C}{c:Nat}(hc:lS H cs c):lS (cs.foldl (fun H x=>mkC deep x H) H) cs c∧(∀ i y,H[i]?=some y→i≠2→i≠4→i≠5→(cs.foldl (fun H x=>mkC deep x H) H)[i]?=some y)∧(∀(i s:Nat) (l:List C) (fl ep:Nat) (st:Km.Os),H[i]?=some (.opn s l fl ep st)→∃ fl',(cs.foldl (fun H x=>mkC deep x H) H)[i]?=some (.opn s l fl' ep st)):=by
 rcases hc with⟨rfl,rfl,fl,h1⟩ | ⟨k,h0,rfl,rfl,⟨f1,h1⟩,f2,h2⟩
 ·have e:=mk_box (H:=H) (b:=2) (l:=2) (cp:=2) (e:=0) (sz:=1) (xs:=[fi 7,fi 6]) h1;simp only [cX,List.foldl_nil,Uz,e];refine⟨.inl ⟨rfl,rfl,_,az (aA h1)⟩,fun i y hy h2 _ _=>by rw [am (Ne.symm h2)];exact hy,fun i s l fl ep st h=>⟨fl,?_⟩⟩
  rw [am (by rintro rfl;rw [h1]at h;cases h)];exact h
 ·have e:=mk_box (H:=H) (b:=4) (l:=2) (cp:=2) (e:=0) (sz:=1) (xs:=[fi 7,fi 8]) h1;simp only [cX,List.foldl_nil,Uz,e];have h2':(H.set 4 (.box ([fi 7,fi 8].map .f) (Nat.max f1 (0+2*1))))[5]?=some (.box ([fi 2,fi k,.bool true].map .f) f2):=by rw [am (by decide)];exact h2
  have e2:=mk_box (l:=1) (cp:=1) (e:=0) (sz:=3) h2';rw [e2];refine⟨.inr ⟨k,h0,rfl,rfl,⟨Nat.max f1 (0+2*1),?_⟩,_,az (aA h2')⟩,fun i y hy h2 h4 h5=>?_,fun i s l fl ep st h=>⟨fl,?_⟩⟩
  ·rw [am (by decide),az (aA h1)];rfl
  ·rw [am (Ne.symm h5),am (Ne.symm h4)];exact hy
  ·rw [am (by rintro rfl;rw [h2]at h;cases h),am (by rintro rfl;rw [h1]at h;cases h)];exact h
structure ZE(cs:List C)(c:Nat)(s h:Int)(tr:List TrD)(ct:C)(yr:List YrD)(cy:C)(J:Heap):Prop where
 res:J[1]?=some (.box [.f (fi 0),.f .aC,.f (fi 0),.f .aC,.f (fi 0),.f .aC,.f (fi 0),.f .aC] 0)
 cal:lS J cs c
 zb:J[3]?=some (tK cs s ct h cy)
 lt:LRw J ct 2 (aS tr)
 ly:LRw J cy 5 (bV yr)
section
variable{x:kY}{cs:List C}{c:Nat}{s h:Int}{tr:List TrD}{ct:C}{yr:List YrD}{cy:C}{t:T}{J:Heap}
theorem ZI.e(k:ZI x cs c s h tr ct yr cy t J):ZE cs c s h tr ct yr cy J:=⟨k.res,k.cal,k.zb,LRw.of k.lt,LRw.of k.ly⟩
theorem ZE.ex(k:ZE cs c s h tr ct yr cy J) :
  ∃ tg yg,∀ J':Heap,(∀ i y,J[i]?=some y→i≠1→J'[i]?=some y)→aZ (exC 64 J') (cs++[.f (fi s),ct,.f (fi h),cy])=some (ZD.row ⟨c,s,tg,tr,h,yg,yr⟩):=by
 obtain⟨tg,ht⟩:=k.lt.exU (dD _);obtain⟨yg,hy⟩:=k.ly.exU (oz _);refine⟨tg,yg,fun J' hk=>?_⟩
 have hc:lS J' cs c:=k.cal.keep fun i y hy hi=>hk i y hy (by omega)
 have ho:∀(i s:Nat) (l:List C) (fl ep:Nat) (st:Km.Os),J[i]?=some (.opn s l fl ep st)→∃ fl',J'[i]?=some (.opn s l fl' ep st):=fun i s l fl ep st h=>⟨fl,hk i _ h (by
  rintro rfl
  rw [k.res]at h;cases h)⟩
 have e1:=ht J' 63 (k.lt.keep ho);have e2:=hy J' 63 (k.ly.keep ho);exact lG hc.ex (by simp [aZ,e1,e2])
theorem ZE.fin(k:ZE cs c s h tr ct yr cy J)(ho:∃ tg yg o,OKZ ⟨c,s,tg,tr,h,yg,yr⟩ o)
  (t':T) (ht':t'.g 2=.c (.ptr 1 0 0)):∃ z o J',OKZ z o∧stC J (.ptr 1 0 0) (cs++[.f (fi s),ct,.f (fi h),cy])=some J'∧yT [.cell (P.nat 2) (some 8)] (.a (z.row.map .f)) ⟨t',[],J'⟩:=by
 obtain⟨tg,yg,hex⟩:=k.ex;obtain⟨tg',yg',o,ho⟩:=ho;obtain⟨a,b,d,e,rfl⟩:=k.cal.four;have hs:stC J (.ptr 1 0 0) ([a,b,d,e]++[.f (fi s),ct,.f (fi h),cy])=some (J.set 1 (.box ([a,b,d,e]++[.f (fi s),ct,.f (fi h),cy]) 0)):=by simp [stC,k.res,over]
 have h1:=aA k.res;refine⟨⟨c,s,tg,tr,h,yg,yr⟩,o,_,ho.retag,hs,rfl,.a ([a,b,d,e]++[.f (fi s),ct,.f (fi h),cy]),?_,?_⟩
 ·simp [Km.results,bT,aZ,ht',h1,aO]
 ·have:=hex (J.set 1 (.box ([a,b,d,e]++[.f (fi s),ct,.f (fi h),cy]) 0)) fun i y hy hi=>by rw [am (by omega)];exact hy
  simp only [exV,dG,deep,this];rfl
theorem ZE.marked(k:ZE cs c s h tr ct yr cy J):ZE cs c s h tr ct yr cy (mkC deep cy (mkC deep ct (cs.foldl (fun H x=>mkC deep x H) J))):=by
 obtain⟨m1,m2,m3⟩:=k.cal.mk;obtain⟨J1,hJ1⟩:∃ J1,J1=cs.foldl (fun H x=>mkC deep x H) J:=⟨_,rfl⟩
 rw [←hJ1]at m1 m2 m3 ⊢;have lt1:=k.lt.keep m3;have ly1:=k.ly.keep m3;have z1:=m2 _ _ k.zb (by decide) (by decide) (by decide)
 have r1:=m2 _ _ k.res (by decide) (by decide) (by decide)
 obtain⟨a1,a2⟩:=lt1.mk;have lt2:=lt1.keep a2;have ly2:=ly1.keep a2;obtain⟨b1,b2⟩:=ly2.mk;exact⟨b1 _ _ _ (a1 _ _ _ r1),(m1.keep' fun i l fl h _=>⟨fl,a1 i l fl h⟩).keep' fun i l fl h _=>⟨fl,b1 i l fl h⟩,b1 _ _ _ (a1 _ _ _ z1),lt2.keep b2,ly2.keep b2⟩
end
end
section
theorem Je{H:Heap}{c:C}{sz:Nat}{rows:List (List FC)}(h:LR H c sz rows)(hg:Grid sz rows):∃ g,exC deep H c=some (sl g rows):=h.ex hg 63
def LM(H:Heap)(c:C)(l:List Int):Prop:=(l=[]∧(c=.f .aC∨c=.f .es))∨(l≠[]∧∃ b ep fl,c=.sl b 0 l.length 0 ep 1∧H[b]?=some (.opn 1 (l.map cI) fl ep .loc)∧fl≤l.length)
section
variable{H H':Heap}{c:C}{l:List Int}
theorem LM.keep(h:LM H c l)(hk:∀(i:Nat) (y:Blk),H[i]?=some y→bf c=some i→H'[i]?=some y):LM H' c l:=by
 rcases h with h | ⟨h,b,ep,fl,rfl,h2,h3⟩
 ·exact .inl h
 ·exact .inr ⟨h,b,ep,fl,rfl,hk _ _ h2 rfl,h3⟩
theorem LM.push(h:LM H c l)(J:Heap):LM (H++J) c l:=h.keep fun i y hy _=>by rw [ag (aA hy)];exact hy
theorem LM.eG(h:LM H c l){i:Nat}{cs:List C}{fl:Nat}(hx:H[i]?=some (.box cs fl)):bf c≠some i:=by
 rcases h with⟨_,rfl | rfl⟩ | ⟨_,b,ep,fl,rfl,h2,h3⟩
 ·simp [bf]
 ·simp [bf]
 ·intro e;simp [bf]at e;subst e;rw [hx]at h2;cases h2
theorem LM.aSB(h:LM H c l){c8:C}{rows:List (List FC)}(hc:LR H c8 8 rows):∀ i,bf c8=some i→bf c≠some i:=by
 intro i hi hpi;rcases hc with⟨_,rfl | rfl⟩ | ⟨_,bb,ep,rfl,h8⟩
 ·simp [bf]at hi
 ·simp [bf]at hi
 ·simp [bf]at hi;subst hi;unfold RB at h8;rcases h with⟨_,rfl | rfl⟩ | ⟨_,b,ep,fl,rfl,h2,h3⟩
  ·simp [bf]at hpi
  ·simp [bf]at hpi
  ·simp [bf]at hpi;subst hpi;rw [h8]at h2;cases h2
theorem LM.app(h:LM H c l)(hl:l.length≤1000){v:Int}{b1 fl1:Nat}(hb1:H[b1]?=some (.box [.f (fi v)] fl1)) :
  ∃ c' H',dI H 1 8 (.c c) (.c (.sl b1 0 1 1 0 1))=some (.c c',H')∧LM H' c' (l++[v])∧Kb H H' c∧(bf c'=bf c∨bf c'=some H.length):=by
 have hadd:fZ H 1 (.c (.sl b1 0 1 1 0 1))=some (1,[.f (fi v)]):=vU hb1 rfl;rcases h with⟨rfl,he⟩ | ⟨hne,b,ep,fl,rfl,h2,h3⟩
 ·have hroom:bZ 1 8=true:=by decide
  refine⟨.sl H.length 0 1 0 0 1,H++[.opn 1 [.f (fi v)] 0 0 .loc],?_,.inr ⟨by simp,H.length,0,0,rfl,by simp,Nat.zero_le _⟩,⟨by simp,fun i y hy _=>by rw [ag (aA hy)];exact hy⟩,.inr rfl⟩
  rcases he with rfl | rfl<;>simp [dI,hadd,hroom]
 ·have hroom:bZ (l.length+1) 8=true:=fB (by omega) (by decide)
  refine⟨.sl b 0 (l.length+1) 0 (ep+1) 1,H.set b (.opn 1 (l.map cI++[.f (fi v)]) fl (ep+1) .loc),?_,.inr ⟨by simp,b,ep+1,fl,by simp,?_,by simp;omega⟩,⟨by simp,fun i y hy hn=>?_⟩,.inl rfl⟩
  ·simp only [dI,hadd,h2,and_self,if_true];rw [if_neg (by decide),if_neg (by decide),if_pos ⟨trivial,by simp,by simpa using h3⟩,hroom]
   simp
  ·rw [az (aA h2)];simp
  ·have:b≠i:=by rintro rfl;exact hn rfl
   rw [am this];exact hy
theorem LM.ex(h:LM H c l):∃ g,exC deep H c=some (sl g (ints l)):=by
 rcases h with⟨rfl,rfl | rfl⟩ | ⟨hne,b,ep,fl,rfl,h2,h3⟩
 ·exact⟨.nil,rfl⟩
 ·exact⟨.es,rfl⟩
 ·refine⟨.fs,?_⟩
  show exC (63+1) H _=_
  rw [uM,h2];have e:(((l.map cI).drop 0).take (l.length*1))=(l.map fi).map .f:=by rw [List.drop_zero,bu (by simp)];simp
  have hne':¬ (ints l).isEmpty=true:=by simpa [ints]using hne
  simp only [e,I8,cw];rw [if_pos ⟨trivial,trivial,by simp⟩,sl,if_neg hne',Gs,MH]
theorem LM.mk(h:LM H c l):LM (mkC deep c H) c l∧(∀(i:Nat) (y:Blk),H[i]?=some y→bf c≠some i→(mkC deep c H)[i]?=some y):=by
 rcases h with⟨rfl,rfl | rfl⟩ | ⟨hne,b,ep,fl,rfl,h2,h3⟩
 ·exact⟨.inl ⟨rfl,.inl rfl⟩,fun i y hy _=>by simpa using hy⟩
 ·exact⟨.inl ⟨rfl,.inr rfl⟩,fun i y hy _=>by simpa using hy⟩
 ·have e:mkC deep (.sl b 0 l.length 0 ep 1) H=H.set b (.opn 1 (l.map cI) (Nat.max fl (0+l.length*1)) ep .loc):=by
   simp only [deep,agI,h2];rw [BN];intro x hx;have hx:=d8 (dC hx);obtain⟨m,_,rfl⟩:=cK.1 hx;exact⟨_,rfl⟩
  rw [e];refine⟨.inr ⟨hne,b,ep,_,rfl,az (aA h2),?_⟩,fun i y hy hn=>?_⟩
  ·rw [cR,Nat.mul_one];exact Nat.max_le.2 ⟨h3,ax _⟩
  ·have:b≠i:=by rintro rfl;exact hn rfl
   rw [am this];exact hy
end
set_option maxHeartbeats 1000000 in
theorem GV(y:aT)(hy:y.d.li.length≤61)(ga gb:Tg){a b:List aT}(hal:a.length≤50)(hbl:b.length≤50)(hab:LiB a)(hat:∀(i:Nat) (hi:i<b.length),rW i b[i].d)(hb0:0<a.length+b.length) :
  ∃ g' l',dat l'=dat a++(dat b).map (bH.shift a.length)++[⟨y.d.k,y.d.cal,(a.length:Int)-1,(a.length:Int)+b.length-1,y.d.n,y.d.m,y.d.li⟩] ∧
   Km.Pure tab.get Hg [.a (y.row.map .f),.c (.f (sl ga (aI a))),.c (.f (sl gb (aI b)))]=Eq (.c (.f (sl g' (aI l')))):=by
 obtain⟨rr,⟨g',l',hd,rfl⟩,hp⟩:∃ rr,(∃ g' l',dat l'=dat a++(dat b).map (bH.shift a.length)++[⟨y.d.k,y.d.cal,(a.length:Int)-1,(a.length:Int)+b.length-1,y.d.n,y.d.m,y.d.li⟩]∧rr=.c (.f (sl g' (aI l')))) ∧
   Km.Pure tab.get Hg [.a (y.row.map .f),.c (.f (sl ga (aI a))),.c (.f (sl gb (aI b)))] rr:=by
  refine dN a0T rfl fun Q hQ=>?_
  refine kw_sr ?_;simp;obtain⟨H,hH⟩:∃ H:Heap,H=[.box (y.row.map .f) 0]:=⟨_,rfl⟩;have b0:H[0]?=some (.box (y.row.map .f) 0):=by rw [hH];rfl
  rw [←hH];clear hH;refine kw_sr ?_;simp;refine kw_seq (kw_sr ?_);simp
  refine dU a.length (fun j t K=>∃ c l,t.g 1=.c (.f (sl ga (aI a)))∧t.g 2=.c (.f (sl gb (aI b)))∧t.g 3=.c (.ptr 0 0 0)∧t.g 7=.c c∧LR K c 8 (aI l)∧dat l=dat (a.take j)∧K[0]?=some (.box (y.row.map .f) 0)) (by omega) (by decide) (by simp)
   ⟨.f .es,[],by simp,by simp,by simp,by simp,.inl ⟨rfl,.inr rfl⟩,by simp,b0⟩ ?_ ?_ ?_
  ·rintro j t K L hj ⟨c,l,g1,g2,g3,g7,hLR,hd,b0⟩ ha hn;simp [ha,g1];exact hn _ ⟨c,l,by simp [g1],by simp [g2],by simp [g3],by simp [g7],hLR,hd,b0⟩ (by simp [ha]) (by simp)
  ·rintro j t K hj ⟨c,l,g1,g2,g3,g7,hLR,hd,b0⟩ ha nx;obtain⟨x,hx⟩:∃ x,x=a[j]:=⟨_,rfl⟩;obtain⟨tg,vZ⟩:=nX x (by rw [hx];exact hab _ (aw hj))
   have hll:l.length=j:=by have:=congrArg List.length hd;simp at this;omega
   obtain⟨c',H',happ,hL',hK',hc'⟩:=uj hLR (by omega) ⟨x.d,tg⟩
   have hr8:((aT.row ⟨x.d,tg⟩).map C.f).length=8:=rfl;refine aB (kw_region (.inl rfl) ?_);simp [g1,g7,ha,jh hj (by omega),rH hj,←hx,vZ,hr8,happ]
   refine au ?_;refine nx _ _ ⟨c',l++[⟨x.d,tg⟩],by simp [g1],by simp [g2],by simp [g3],by simp,hL',?_,?_⟩ (by simp [ha])
   ·rw [aR hj,←hx];simp only [dat,cY,aM,ba]at hd ⊢;rw [hd]
   ·exact hK'.2 0 _ (by rw [ag (aA b0)];exact b0) (hLR.eG b0)
  ·rintro t K ⟨c,l,g1,g2,g3,g7,hLR,hd,b0⟩ ha;rw [cm]at hd;refine kw_sr ?_;simp;refine kw_seq (kw_sr ?_);simp
   refine dU b.length (fun j t K=>∃ c l p,t.g 1=.c (.f (sl ga (aI a)))∧t.g 2=.c (.f (sl gb (aI b)))∧t.g 3=.c (.ptr 0 0 0)∧t.g 7=.c c∧t.g 9=.c p∧LR K c 8 (aI l)∧LM K p (plc a.length j)∧dat l=dat a++(dat (b.take j)).map (bH.shift a.length)∧K[0]?=some (.box (y.row.map .f) 0)) (by omega) (by decide) (by simp)
    ⟨c,l,.f .es,by simp [g1],by simp [g2],by simp [g3],by simp [g7],by simp,hLR,.inl ⟨rfl,.inr rfl⟩,by simpa using hd,b0⟩ ?_ ?_ ?_
   ·rintro j t K L hj ⟨c,l,p,g1,g2,g3,g7,g9,hLR,hLp,hd,b0⟩ ha hn;simp [ha,g2];exact hn _ ⟨c,l,p,by simp [g1],by simp [g2],by simp [g3],by simp [g7],by simp [g9],hLR,hLp,hd,b0⟩ (by simp [ha]) (by simp)
   ·rintro j t K hj ⟨c,l,p,g1,g2,g3,g7,g9,hLR,hLp,hd,b0⟩ ha nx;obtain⟨x,hx⟩:∃ x,x=b[j]:=⟨_,rfl⟩;have hA:rW j x.d:=by rw [hx];exact hat j hj
    have hll:l.length=a.length+j:=by have:=congrArg List.length hd;simp at this;omega
    obtain⟨v,hv⟩:∃ v:Int,v=(a.length:Int)+j:=⟨_,rfl⟩;have hwv:IntKind.i64.wrap ((a.length:Int)+j)=v:=by rw [hv];exact wrap64 (by omega) (by omega)
    obtain⟨K1,hK1⟩:∃ K1:Heap,K1=K++[.box [.f (fi v)] 0]:=⟨_,rfl⟩;have hL1:LM K1 p (plc a.length j):=by rw [hK1];exact hLp.push _
    have hb1:K1[K.length]?=some (.box [.f (fi v)] 0):=by rw [hK1];simp
    have up1:∀ {i:Nat} {z:Blk},K[i]?=some z→K1[i]?=some z:=fun {i z} hz=>by rw [hK1,ag (aA hz)];exact hz
    have hc1:LR K1 c 8 (aI l):=by rw [hK1];exact hLR.push _
    obtain⟨p',K2,happ,ahm,hK',hp'⟩:=hL1.app (by simp;omega) hb1
    rw [hv,show(a.length:Int)+(j:Int)=((a.length+j:Nat):Int) by omega,←afX]at ahm
    have b2:K2[0]?=some (.box (y.row.map .f) 0):=hK'.2 0 _ (up1 b0) (hL1.eG (up1 b0));have hc2:LR K2 c 8 (aI l):=hc1.keep fun i z hz hi=>hK'.2 i z hz (hL1.aSB hc1 i hi)
    obtain⟨gp,hxp⟩:=ahm.ex;obtain⟨hLm,hmk⟩:=ahm.mk;obtain⟨tg,hmov⟩:=V4 x hA (by omega) gp a.length
    obtain⟨K3,hK3⟩:∃ K3:Heap,K3=mkC deep p' K2:=⟨_,rfl⟩;rw [←hK3]at hLm hmk;have b3:K3[0]?=some (.box (y.row.map .f) 0):=hmk 0 _ b2 (ahm.eG b2);have hc3:LR K3 c 8 (aI l):=hc2.keep fun i z hz hi=>hmk i z hz (ahm.aSB hc2 i hi)
    obtain⟨c',H',aY9,hL',hKc,hc'⟩:=uj hc3 (by omega) ⟨x.d.shift a.length,tg⟩
    have hr8:((aT.row ⟨x.d.shift a.length,tg⟩).map C.f).length=8:=rfl;refine aB (kw_sr ?_);simp [g9,g1,ha,hwv];rw [←hK1];simp [happ];refine kw_region (.inl rfl) ?_;simp [g7,g2,ha,jh hj (by omega),rH hj,←hx,hxp,hmov,←hK3,hr8,aY9]
    refine au ?_;refine nx _ _ ⟨c',l++[⟨x.d.shift a.length,tg⟩],p',by simp [g1],by simp [g2],by simp [g3],by simp,by simp,hL',?_,?_,?_⟩ (by simp [ha])
    ·refine(hLm.push _).keep fun i z hz hi=>hKc.2 i z hz fun e=>?_
     exact(hLm.push [.box ((aT.row ⟨x.d.shift a.length,tg⟩).map .f) 0]).aSB (hc3.push _) i e hi
    ·rw [aR hj,←hx];simp only [dat,cY,aM,ba]at hd ⊢;rw [hd,List.append_assoc]
    ·exact hKc.2 0 _ (by rw [ag (aA b3)];exact b3) (hc3.eG b3)
   ·rintro t K ⟨c,l,p,g1,g2,g3,g7,g9,hLR,hLp,hd,b0⟩ ha;rw [cm]at hd;have hll:l.length=a.length+b.length:=by have:=congrArg List.length hd;simpa using this
    obtain⟨y1,hy1⟩:∃ y1:aT,y1=⟨⟨y.d.k,y.d.cal,(a.length:Int)-1,y.d.r,y.d.n,y.d.m,y.d.li⟩,y.tg⟩:=⟨_,rfl⟩;obtain⟨y2,hy2⟩:∃ y2:aT,y2=⟨⟨y.d.k,y.d.cal,(a.length:Int)-1,(a.length:Int)+b.length-1,y.d.n,y.d.m,y.d.li⟩,y.tg⟩:=⟨_,rfl⟩;have st1:stC K (.ptr 0 2 0) [.f (fi ((a.length:Int)-1))]=some (K.set 0 (.box (y1.row.map .f) 0)):=by simp [stC,b0,over,aT.row,hy1]
    obtain⟨K2,hK2⟩:∃ K2:Heap,K2=K.set 0 (.box (y1.row.map .f) 0):=⟨_,rfl⟩;have k20:K2[0]?=some (.box (y1.row.map .f) 0):=by rw [hK2];exact az (aA b0)
    have hL2:LR K2 c 8 (aI l):=by rw [hK2];exact hLR.set (hLR.eG b0) _
    have st2:stC K2 (.ptr 0 3 0) [.f (fi ((a.length:Int)+b.length-1))]=some (K2.set 0 (.box (y2.row.map .f) 0)):=by simp [stC,k20,over,aT.row,hy1,hy2]
    obtain⟨K3,hK3⟩:∃ K3:Heap,K3=K2.set 0 (.box (y2.row.map .f) 0):=⟨_,rfl⟩;have k30:K3[0]?=some (.box (y2.row.map .f) 0):=by rw [hK3];exact az (aA k20)
    have hL3:LR K3 c 8 (aI l):=by rw [hK3];exact hL2.set (hL2.eG k20) _
    obtain⟨-,-,-,-,-,-,-,e8⟩:=Gm k30;obtain⟨tg,vZ⟩:=nX y2 (by rw [hy2];exact hy)
    obtain⟨c',H',happ,hL',hK',hc'⟩:=uj hL3 (by omega) ⟨y2.d,tg⟩
    have hr8:((aT.row ⟨y2.d,tg⟩).map C.f).length=8:=rfl;obtain⟨g',hx⟩:=Je hL' (iV _);have hln:=hL2.len;rw [xX,hll]at hln;have hw2:IntKind.i64.wrap (((a.length+b.length:Nat):Int)-1)=(a.length:Int)+b.length-1:=by rw [wrap64 (by omega) (by omega)];omega
    refine kw_sr ?_;simp [g1,g3,wrap64 (n:=(a.length:Int)-1) (by omega) (by omega),st1,-bJ]
    rw [←hK2];refine kw_sr ?_;simp only [Int.natCast_add]at hw2;simp [g7,g3,hln,hw2,st2,-bJ];rw [←hK3];refine kw_sr ?_;simp [g7,g3,e8,-ak,vZ,hr8,happ];refine aH (hQ _ _ _ ⟨g',l++[⟨y2.d,tg⟩],?_,rfl⟩ ⟨rfl,.c c',?_,?_⟩)
    ·simp only [dat,cY,aM,ba]at hd ⊢;rw [hd,hy2]
    ·simp [Km.results,bT,aZ]
    ·simp [exV,dG,hx]
 exact⟨g',l',hd,hp.eq⟩
end
section
structure qm where
 k:Nat
 n:Int
 m:Nat
 lg:Tg
 li:List Nat
def qm.row(x:qm):List FC:=[u8 x.k,.int .i8 x.n,u8 x.m,sl x.lg (fJ x.li)]
structure qm.OK(x:qm):Prop where
 k:x.k<256
 n:-128≤x.n∧x.n≤127
 m:x.m<256
 ll:x.li.length≤9223372036854775807
 lb:∀ v ∈ x.li,v<256
theorem TT{n k:Int}(hk:0<k):-k<n.tmod k∧n.tmod k<k:=by
 rcases Int.le_total 0 n with h | h
 ·rw [cS h];have:=cq n (show k≠0 by omega)
  have:=cr n hk;omega
 ·have:n = -(-n):=by omega
  rw [this,Int.neg_tmod,cS (by omega)]
  have:=cq (-n) (show k≠0 by omega)
  have:=cr (-n) hk;omega
def Nv(x:bH):Prop:=x.OK∧gK x.k=0∧(x.k≠7→x.l=0)∧x.r=0
theorem Nv.good{x:bH}(h:Nv x):Good [x]:=.leaf h.1 h.2.1 h.2.2.1 h.2.2.2
theorem l9(n:Nat){m:Int}(hm:0<m):∃ a:Nat,(a:Int)<m∧bW .rem (.c (.f (.int .u8 n))) (.c (.f (.int .u8 m)))=some (.c (.f (.int .u8 a))):=by
 have h0:=cq (n:Int) (show m≠0 by omega)
 have h1:=cr (n:Int) hm;refine⟨((n:Int) % m).toNat,by omega,?_⟩
 rw [vS (by omega),cS (by omega),dg h0]
theorem Iu{n:Nat}(hn:n<256){m:Int}(hm:0<m):∃ a:Nat,(a:Int)≤255 / m∧bW .quo (.c (.f (.int .u8 n))) (.c (.f (.int .u8 m)))=some (.c (.f (.int .u8 a))):=by
 have h0:0≤(n:Int) / m:=dx (by omega) (by omega)
 have h1:(n:Int) / m≤255 / m:=Int.ediv_le_ediv hm (by omega)
 have h2:(n:Int) / m≤n:=Int.ediv_le_self _ (by omega)
 refine⟨((n:Int) / m).toNat,by omega,?_⟩
 rw [JD (by omega),Int.tdiv_eq_ediv_of_nonneg (by omega),wrapu8 h0 (by omega),dg h0]
theorem afM{a b:Int}(ha:0≤a)(hb:0<b):∃ r,0≤r∧r<b∧bW .rem (vi a) (vi b)=some (vi r):=⟨a % b,cq _ (by omega),cr _ hb,wS ha hb⟩
theorem tN(n:Nat)(h:n≤1000000):IntKind.i64.wrap (n:Int)=n:=wrap64 (by omega) (by omega)
set_option maxHeartbeats 2000000 in
theorem afY(x:qm)(hx:x.OK){lJ:Nat}(hc:lJ=0∨lJ=2):∃ y:aT,Nv y.d∧Km.Pure tab.get Bd [.a (x.row.map .f),vi lJ]=Eq (.a (y.row.map .f)):=by
 obtain⟨rr,⟨y,hy,rfl⟩,hp⟩:∃ rr,(∃ y:aT,Nv y.d∧rr=.a (y.row.map .f))∧Km.Pure tab.get Bd [.a (x.row.map .f),vi lJ] rr:=by
  refine dN a0G rfl fun Q hQ=>?_
  obtain⟨xk,xn,xm,lg,li⟩:=x;obtain⟨hk,hn,hm,hll,hlb⟩:=hx;simp only at hk hn hm hll hlb;refine kw_sr ?_;simp [qm.row];obtain⟨q,hq⟩:∃ q:Int,q=(xk:Int) % 7:=⟨_,rfl⟩;obtain⟨κ0,hκ0⟩:∃ κ0:Nat,κ0=1+xk % 7:=⟨_,rfl⟩;have w1:IntKind.i64.wrap (xk:Int)=xk:=wrap64 (by omega) (by omega)
  have r1:bW .rem (vi xk) (vi 7)=some (vi q):=by rw [wS (by omega) (by omega),hq]
  have w2:IntKind.i64.wrap (1+q)=κ0:=by rw [wrap64 (by omega) (by omega)];omega
  refine kw_sr ?_;simp [w1,r1,w2]
  have fin:∀(t:T) (y:aT),Nv y.d→t.g 4=.c (.ptr 1 0 0)→t.g 6=.c (.ptr 2 0 0) →
    WP tab.get Bd none [.code EL] ⟨t,[],[.box [.f (u8 xk),.f (.int .i8 xn),.f (u8 xm),.f (sl lg (fJ li))] 0,.box uq 0,.box (y.row.map .f) 0]⟩ Q:=by
   intro t y hy g4 g6;refine kw_sr ?_;simp [g4,g6,aT.row,uq];refine aH (hQ _ _ _ ⟨y,hy,rfl⟩ ⟨rfl,.a (y.row.map .f),?_,?_⟩)
   ·simp [Km.results,bT,aZ,g4,aT.row,aO]
   ·simp [exV,dG]
  have main:∀(t:T) (κ:Nat) (cal:Int),1≤κ→κ≤7→0≤cal→cal≤1→(κ=1∨κ=5→cal=0)→t.g 2=.c (.ptr 0 0 0)→t.g 4=.c (.ptr 1 0 0)→t.g 5=vi κ→t.g 6=.c (.ptr 2 0 0) →
    WP tab.get Bd none [.code OM] ⟨t,[],[.box [.f (u8 xk),.f (.int .i8 xn),.f (u8 xm),.f (sl lg (fJ li))] 0,.box uq 0,.box [cI κ,cI cal,cI 0,cI 0,cI 0,cI 0,.f .aC,.f (.str ⟨#[]⟩)] 0]⟩ Q:=by
   intro t κ cal h1 h7 c0 c1 fD g2 g4 g5 g6;refine kw_seq (kw_sr ?_);simp [g5];refine aB (kw_sr ?_);simp;rcases(show κ=1∨κ=2∨κ=3∨κ=4∨κ=5∨κ=6∨κ=7 by omega)with rfl | rfl | rfl | rfl | rfl | rfl | rfl
   ·obtain⟨mg,m0,m1,hmg⟩:=rD hn (k:=9) (by decide)
    obtain⟨a,a1,ra⟩:=l9 xm (m:=12) (by decide)
    have hc0:=fD (.inl rfl);subst hc0;refine aj (by simp) (kw_sr ?_)
    simp [g2,g6,hmg,wrap64 (n:=1+mg) (by omega) (by omega)]
    refine kw_region (.inl rfl) ?_;simp [g2,g6,ra,tN a (by omega)]
    refine au ?_;exact fin _ ⟨⟨1,0,0,0,1+mg,a,[]⟩,.nil⟩ ⟨⟨by simp,.inl ⟨rfl,rfl,rfl,(by dsimp only;omega),(by dsimp only;omega),(by dsimp only;omega),(by dsimp only;omega)⟩⟩,rfl,fun _=>rfl,rfl⟩ (by simp [g4]) (by simp [g6])
   ·obtain⟨mg,m0,m1,hmg⟩:=rD hn (k:=4) (by decide)
    obtain⟨a,a1,ra⟩:=l9 xm (m:=8) (by decide)
    obtain⟨b,b0,b1,rb⟩:=afM (a:=(a:Int)) (b:=1+mg) (by omega) (by omega)
    refine ah (by simp) (kw_sr ?_)
    simp;refine aj (by simp) (kw_sr ?_)
    simp [g2,g6,hmg,wrap64 (n:=1+mg) (by omega) (by omega)]
    refine kw_region (.inl rfl) ?_;simp [g2,g6,ra,tN a (by omega),rb]
    refine au ?_;exact fin _ ⟨⟨2,cal,0,0,1+mg,b,[]⟩,.nil⟩ ⟨⟨by simp,.inr (.inl ⟨rfl,c0,c1,rfl,(by dsimp only;omega),(by dsimp only;omega),b0,by dsimp only;omega⟩)⟩,rfl,fun _=>rfl,rfl⟩ (by simp [g4]) (by simp [g6])
   ·obtain⟨gp,lp,hr,hlp,hpk⟩:=qZ lg li hll hlb (lo:=1) (hi:=4) (by decide) (by decide) (by decide) true (by decide)
    refine ah (by simp) (kw_sr ?_)
    simp;refine ah (by simp) (kw_sr ?_)
    simp;refine aj (by simp) (kw_region (.inl rfl) ?_)
    simp [g2,g6,hpk];refine au ?_;exact fin _ ⟨⟨3,cal,0,0,0,0,lp⟩,gp⟩ ⟨⟨by simp at hlp ⊢;omega,.inr (.inr (.inl ⟨rfl,c0,c1,hr,rfl,rfl⟩))⟩,rfl,fun _=>rfl,rfl⟩ (by simp [g4]) (by simp [g6])
   ·obtain⟨gp,lp,hr,hlp,hpk⟩:=qZ lg li hll hlb (lo:=(-3)) (hi:=6) (by decide) (by decide) (by decide) false (by decide)
    refine ah (by simp) (kw_sr ?_)
    simp;refine ah (by simp) (kw_sr ?_)
    simp;refine ah (by simp) (kw_sr ?_)
    simp;refine aj (by simp) (kw_region (.inl rfl) ?_)
    simp [g2,g6,hpk];refine au ?_;exact fin _ ⟨⟨4,cal,0,0,0,0,lp⟩,gp⟩ ⟨⟨by simp at hlp ⊢;omega,.inr (.inr (.inr (.inl ⟨rfl,c0,c1,hr,rfl,rfl⟩)))⟩,rfl,fun _=>rfl,rfl⟩ (by simp [g4]) (by simp [g6])
   ·obtain⟨gp,lp,hr,hlp,hpk⟩:=qZ lg li hll hlb (lo:=0) (hi:=6) (by decide) (by decide) (by decide) true (by decide)
    have hc0:=fD (.inr rfl);subst hc0;refine ah (by simp) (kw_sr ?_)
    simp;refine ah (by simp) (kw_sr ?_)
    simp;refine ah (by simp) (kw_sr ?_)
    simp;refine ah (by simp) (kw_sr ?_)
    simp;refine aj (by simp) (kw_region (.inl rfl) ?_)
    simp [g2,g6,hpk];refine au ?_;exact fin _ ⟨⟨5,0,0,0,0,0,lp⟩,gp⟩ ⟨⟨by simp at hlp ⊢;omega,.inr (.inr (.inr (.inr (.inl ⟨rfl,rfl,hr,rfl,rfl⟩))))⟩,rfl,fun _=>rfl,rfl⟩ (by simp [g4]) (by simp [g6])
   ·obtain⟨gp,lp,hr,hlp,hpk⟩:=qZ lg li hll hlb (lo:=1) (hi:=5) (by decide) (by decide) (by decide) true (by decide)
    refine ah (by simp) (kw_sr ?_)
    simp;refine ah (by simp) (kw_sr ?_)
    simp;refine ah (by simp) (kw_sr ?_)
    simp;refine ah (by simp) (kw_sr ?_)
    simp;refine ah (by simp) (kw_sr ?_)
    simp;refine aj (by simp) (kw_region (.inl rfl) ?_)
    simp [g2,g6,hpk];refine au ?_;exact fin _ ⟨⟨6,cal,0,0,0,0,lp⟩,gp⟩ ⟨⟨by simp at hlp ⊢;omega,.inr (.inr (.inr (.inr (.inr (.inl ⟨rfl,c0,c1,hr,rfl,rfl⟩)))))⟩,rfl,fun _=>rfl,rfl⟩ (by simp [g4]) (by simp [g6])
   ·obtain⟨a,a1,ra⟩:=l9 xm (m:=8) (by decide)
    obtain⟨b,b0,b1,rb⟩:=afM (a:=(a:Int)) (b:=7) (by omega) (by omega)
    obtain⟨d,d1,rd⟩:=Iu hk (m:=128) (by decide)
    obtain⟨e,e0,e1,re⟩:=afM (a:=(d:Int)) (b:=2) (by omega) (by omega)
    have hw:IntKind.i64.wrap xn=xn:=wrap64 (by omega) (by omega)
    have hbd:=TT (n:=xn) (k:=4) (by decide)
    obtain⟨r,hr⟩:∃ r,r=xn.tmod 4:=⟨_,rfl⟩;have hrr:bW .rem (vi xn) (vi 4)=some (vi r):=by rw [hr];exact vS (by decide)
    rw [←hr]at hbd;refine ah (by simp) (kw_sr ?_)
    simp;refine ah (by simp) (kw_sr ?_)
    simp;refine ah (by simp) (kw_sr ?_)
    simp;refine ah (by simp) (kw_sr ?_)
    simp;refine ah (by simp) (kw_sr ?_)
    simp;refine ah (by simp) (kw_sr ?_)
    simp;refine aj (by simp) (kw_sr ?_)
    simp [g2,g6,hw,hrr]
    have tail:∀(t:T) (n:Int),(n=1∨n=2∨n=3∨-3≤n∧n≤-1)→t.g 2=.c (.ptr 0 0 0)→t.g 4=.c (.ptr 1 0 0)→t.g 6=.c (.ptr 2 0 0) →
      WP tab.get Bd none [.code OL,.inBlock 0,.code EL] ⟨t,[],[.box [.f (u8 xk),.f (.int .i8 xn),.f (u8 xm),.f (sl lg (fJ li))] 0,.box uq 0,.box [cI 7,cI cal,cI 0,cI 0,cI n,cI 0,.f .aC,.f (.str ⟨#[]⟩)] 0]⟩ Q:=by
     intro t n hn g2 g4 g6;refine kw_sr ?_;simp [g2,g6,ra,tN a (by omega),rb]
     refine kw_region (.inl rfl) ?_;simp [g2,g6,rd,tN d (by omega),re]
     refine au ?_;exact fin _ ⟨⟨7,cal,e,0,n,b,[]⟩,.nil⟩ ⟨⟨by simp,.inr (.inr (.inr (.inr (.inr (.inr (.inl ⟨rfl,c0,c1,rfl,hn,b0,(by dsimp only;omega),e0,(by dsimp only;omega)⟩))))))⟩,rfl,fun h=>absurd rfl h,rfl⟩ (by simp [g4]) (by simp [g6])
    refine kw_seq (kw_sr ?_);simp [g6];by_cases hr0:r=0
    ·refine aj (by simp [hr0]) (kw_region (.inl rfl) ?_)
     simp [g6];exact tail _ 1 (.inl rfl) (by simp [g2]) (by simp [g4]) (by simp [g6])
    ·refine bD (by simp [hr0]) ?_
     exact tail _ r (by omega) (by simp [g2]) (by simp [g4]) (by simp [g6])
  have aTF:∀(t:T) (κ:Nat),1≤κ→κ≤7→(lJ=0→κ=1∨κ=5)→t.g 1=vi lJ→t.g 2=.c (.ptr 0 0 0)→t.g 4=.c (.ptr 1 0 0)→t.g 5=vi κ →
    WP tab.get Bd none [.code Vs] ⟨t,[],[.box [.f (u8 xk),.f (.int .i8 xn),.f (u8 xm),.f (sl lg (fJ li))] 0,.box uq 0]⟩ Q:=by
   intro t κ h1 h7 h0 g1 g2 g4 g5;have hu:=tV κ (by omega)
   refine kw_sr ?_;simp [g5,uq];refine kw_seq (kw_sr ?_);simp [g5,hu];cases hs:sF κ
   ·refine bD (by simp) ?_
    exact main _ κ 0 h1 h7 (by omega) (by omega) (fun _=>rfl) (by simp [g2]) (by simp [g4]) (by simp [g5]) (by simp)
   ·have hκ:κ≠1∧κ≠5:=by
     constructor<;>(rintro rfl;simp [sF]at hs)
    have hc2:lJ=2:=by
     rcases hc with e | e
     ·have:=h0 e;omega
     ·exact e
    subst hc2;obtain⟨a,a1,ra⟩:=Iu hm (m:=8) (by decide)
    obtain⟨b,b0,b1,rb⟩:=afM (a:=(a:Int)) (b:=2) (by omega) (by omega)
    refine aj (by simp) (kw_region (.inl rfl) ?_)
    simp [g1,g2,ra,tN a (by omega),rb]
    exact main _ κ b h1 h7 b0 (by omega) (fun e=>by omega) (by simp [g2]) (by simp [g4]) (by simp [g5]) (by simp)
  refine kw_seq (kw_sr ?_);have hu:=tV κ0 (by omega)
  rcases hc with rfl | rfl
  ·simp [hu];cases hs:sF κ0
   ·refine bD (by simp) ?_
    refine aTF _ κ0 (by omega) (by omega) (fun _=>?_) (by simp) (by simp) (by simp) (by simp)
    simp [sF]at hs;omega
   ·refine aj (by simp) (kw_region (.inl rfl) ?_)
    simp;exact aTF _ 1 (by omega) (by omega) (fun _=>.inl rfl) (by simp) (by simp) (by simp) (by simp)
  ·simp;refine bD (by simp) ?_
   exact aTF _ κ0 (by omega) (by omega) (fun h=>by omega) (by simp) (by simp) (by simp) (by simp)
 exact⟨y,hy,hp.eq⟩
end
section
structure RuV where
 tg:Tg
 l:List aT
def RuV.row(x:RuV):List FC:=[sl x.tg (aI x.l)]
def dF(l:List RuV):List (List FC):=l.map RuV.row
@[simp] theorem aPB (l:List RuV):(dF l).length=l.length:=by simp [dF]
theorem oC(l:List RuV):Grid 1 (dF l):=Grid.map fun _=>rfl
theorem Au(l:List RuV)(x:RuV):dF (l++[x])=dF l++[x.row]:=by simp [dF]
theorem Vz{l:List RuV}{j:Nat}(hj:j<l.length):(dF l)[j]?=some l[j].row:=by simp [dF,hj]
theorem zL{H:Heap}{g:Tg}{st:List RuV}{j:Nat}(hj:j<st.length)(_:st.length≤1000):aP H 1 none (.c (.f (sl g (dF st)))) (vi j)=some (.c (.f (.fp (dF st).flatten j))):=by
 have:=iq (H:=H) (g:=g) (rows:=dF st) (sz:=1) (k:=.i64) (i:=(j:Int)) (by omega) (by simp;omega)
 simpa using this
theorem Gn{H:Heap}{st:List RuV}{j:Nat}(hj:j<st.length):ldV H none (.c (.f (.fp (dF st).flatten j)))=some (.c (.f (sl st[j].tg (aI st[j].l)))):=by
 have:=mP (H:=H) (rows:=dF st) (j:=j) (sz:=1) (row:=st[j].row) (x:=sl st[j].tg (aI st[j].l)) (oC st) (Vz hj) rfl;simpa using this
theorem aE0(g:Tg)(st:List RuV)(hl:st.length≤1000)(n:Nat)(hn:n≤st.length)(r:RuV) :
  ∃ g',Km.Pure tab.get G8 [.c (.f (sl g (dF st))),vi n,.c (.f (sl r.tg (aI r.l)))]=Eq (.c (.f (sl g' (dF (st.take n++[r]))))):=by
 obtain⟨rr,⟨g',rfl⟩,hp⟩:∃ rr,(∃ g',rr=.c (.f (sl g' (dF (st.take n++[r])))))∧Km.Pure tab.get G8 [.c (.f (sl g (dF st))),vi n,.c (.f (sl r.tg (aI r.l)))] rr:=by
  refine dN a0F rfl fun Q hQ=>?_
  refine kw_sr ?_;simp;refine kw_sr ?_;simp;refine kw_seq (kw_sr ?_);simp
  refine dU n (fun j t K=>∃ c,t.g 0=.c (.f (sl g (dF st)))∧t.g 1=vi n∧t.g 2=.c (.f (sl r.tg (aI r.l)))∧t.g 7=.c c∧LR K c 1 (dF (st.take j))) (by omega) (by decide) (by simp)
   ⟨.f .es,by simp,by simp,by simp,by simp,.inl ⟨rfl,.inr rfl⟩⟩ ?_ ?_ ?_
  ·rintro j t K L hj ⟨c,g0,g1,g2,g7,hLR⟩ ha hn';simp [ha,g1];exact hn' _ ⟨c,by simp [g0],by simp [g1],by simp [g2],by simp [g7],hLR⟩ (by simp [ha]) (by simp)
  ·rintro j t K hj ⟨c,g0,g1,g2,g7,hLR⟩ ha nx;have hj':j<st.length:=by omega
   obtain⟨x,hx⟩:∃ x,x=st[j]:=⟨_,rfl⟩;obtain⟨K1,hK1⟩:∃ K1:Heap,K1=K++[.box (x.row.map .f) 0]:=⟨_,rfl⟩;have hL1:LR K1 c 1 (dF (st.take j)):=by rw [hK1];exact hLR.push _
   have hb1:K1[K.length]?=some (.box (x.row.map .f) 0):=by rw [hK1];simp
   obtain⟨c',H',happ,hL',hK',hc'⟩:=hL1.app (oC _) (by decide) (row:=x.row) rfl (bytes:=24) (fB (by simp;omega) (by decide)) hb1
   simp only [RuV.row,aM,ba]at hK1;refine aB (kw_region (.inl rfl) ?_);simp [g0,g7,ha,zL hj' hl,Gn hj',←hx];rw [←hK1];simp [happ];refine au ?_;refine nx _ _ ⟨c',by simp [g0],by simp [g1],by simp [g2],by simp,?_⟩ (by simp [ha])
   rw [aR hj',←hx,Au];exact hL'
  ·rintro t K ⟨c,g0,g1,g2,g7,hLR⟩ ha;obtain⟨K1,hK1⟩:∃ K1:Heap,K1=K++[.box (r.row.map .f) 0]:=⟨_,rfl⟩;have hL1:LR K1 c 1 (dF (st.take n)):=by rw [hK1];exact hLR.push _
   have hb1:K1[K.length]?=some (.box (r.row.map .f) 0):=by rw [hK1];simp
   obtain⟨c',H',happ,hL',hK',hc'⟩:=hL1.app (oC _) (by decide) (row:=r.row) rfl (bytes:=24) (fB (by simp;omega) (by decide)) hb1
   rw [←Au]at hL';obtain⟨g',hx⟩:=Je hL' (oC _);simp only [RuV.row,aM,ba]at hK1;refine kw_sr ?_;simp [g2,g7];rw [←hK1];simp [happ];refine aH (hQ _ _ _ ⟨g',rfl⟩ ⟨rfl,.c c',?_,?_⟩)
   ·simp [Km.results,bT,aZ]
   ·simp [exV,dG,hx]
 exact⟨g',hp.eq⟩
end
section
abbrev stD(st:List RuV):List (List bH):=st.map fun x=>dat x.l
theorem aho{H:Heap}{b fl:Nat}{x:aT}(hb:H[b]?=some (.box (x.row.map .f) fl)){l:List aT}(hl:l=[x]):exC deep H (.sl b 0 1 1 0 8)=some (sl .fs (aI l)):=by
 subst hl
 show exC (63+1) H _=_
 rw [uM,hb];simp [sl,aI];exact⟨ax 8,I8 (n:=63) (H:=H) x.row⟩
theorem Good.lib{r:List aT}(h:Good (dat r)):LiB r:=by
 intro x hx;obtain⟨i,hi,rfl⟩:=bq hx;have:=(h.at_ i (by simpa using hi)).ok.1
 simpa using this
theorem st_len{st:List RuV}{k:Nat}(h:dO (stD st) k){j:Nat}(hj:j<st.length):st[j].l.length≤k:=by
 have h1:=h.tot;have h2:=wO (st:=stD st) (i:=j) (by simpa using hj)
 have h3:=wC (stD st) (j+1);simp at h2;omega
theorem xJ{st:List RuV}{k:Nat}(h:dO (stD st) k){j:Nat}(hj:j<st.length):Good (dat st[j].l):=
 h.good _ (cK.2 ⟨st[j],aw hj,rfl⟩)
theorem ahR(X:Blk){q:Int}(h:14≤q∧q<18):∃(j κ:Nat),(κ=8∨κ=9∨κ=10∨κ=17)∧aP [X,.box [cI 8,cI 9,cI 10,cI 17] 0] 1 none (.c (.sl 1 0 4 4 0 1)) (vi (q-14))=some (.c (.ptr 1 j 0))∧ldV [X,.box [cI 8,cI 9,cI 10,cI 17] 0] none (.c (.ptr 1 j 0))=some (vi κ):=by
 rcases(show q=14∨q=15∨q=16∨q=17 by omega)with rfl | rfl | rfl | rfl
 ·exact⟨0,8,by simp,rfl,rfl⟩
 ·exact⟨1,9,by simp,rfl,rfl⟩
 ·exact⟨2,10,by simp,rfl,rfl⟩
 ·exact⟨3,17,by simp,rfl,rfl⟩
theorem a2d(X:Blk){e:Int}(h:0≤e∧e<7):∃(j κ:Nat),(11≤κ∧κ≤16)∧aP [X,.box [cI 11,cI 12,cI 13,cI 14,cI 15,cI 16,cI 11] 0] 1 none (.c (.sl 1 0 7 7 0 1)) (vi e)=some (.c (.ptr 1 j 0))∧ldV [X,.box [cI 11,cI 12,cI 13,cI 14,cI 15,cI 16,cI 11] 0] none (.c (.ptr 1 j 0))=some (vi κ):=by
 rcases(show e=0∨e=1∨e=2∨e=3∨e=4∨e=5∨e=6 by omega)with rfl | rfl | rfl | rfl | rfl | rfl | rfl
 ·exact⟨0,11,by simp,rfl,rfl⟩
 ·exact⟨1,12,by simp,rfl,rfl⟩
 ·exact⟨2,13,by simp,rfl,rfl⟩
 ·exact⟨3,14,by simp,rfl,rfl⟩
 ·exact⟨4,15,by simp,rfl,rfl⟩
 ·exact⟨5,16,by simp,rfl,rfl⟩
 ·exact⟨6,11,by simp,rfl,rfl⟩
set_option maxHeartbeats 2000000 in
theorem aED{lJ:Nat}(hc:lJ=0∨lJ=2)(g:Tg)(st:List RuV){k:Nat}(hst:dO (stD st) k)(hk:k≤8)(x:qm)(hx:x.OK) :
  ∃ g' st',st'≠[]∧dO (stD st') (k+1)∧Km.Pure tab.get yV [.c (.f (sl g (dF st))),.a (x.row.map .f),vi lJ]=Eq (.c (.f (sl g' (dF st')))):=by
 obtain⟨rr,⟨g',st',h0,h1,rfl⟩,hp⟩:∃ rr,(∃ g' st',st'≠[]∧dO (stD st') (k+1)∧rr=.c (.f (sl g' (dF st'))))∧Km.Pure tab.get yV [.c (.f (sl g (dF st))),.a (x.row.map .f),vi lJ] rr:=by
  have hcnt:=hst.count;simp only [cF]at hcnt;obtain⟨yp,hyp,hpl⟩:=afY x hx hc;obtain⟨n,hn⟩:∃ n,n=st.length:=⟨_,rfl⟩;refine dN a0D rfl fun Q hQ=>?_
  obtain⟨xk,xn,xm,lg,li⟩:=x;obtain⟨hxk,hxn,hxm,hll,hlb⟩:=hx;simp only at hxk hxn hxm hll hlb;simp only [qm.row]at hpl;refine kw_sr ?_;simp [qm.row];refine kw_sr ?_;simp;obtain⟨q,hq⟩:∃ q:Int,q=(xk:Int) % 25:=⟨_,rfl⟩;have w1:IntKind.i64.wrap (xk:Int)=xk:=wrap64 (by omega) (by omega)
  have r1:bW .rem (vi xk) (vi 25)=some (vi q):=by rw [wS (by omega) (by omega),hq]
  refine kw_sr ?_;simp [w1,r1];refine kw_seq (kw_sr ?_);simp;have hpush:=fun(m:Nat) (hm:m≤st.length) (r:RuV)=>aE0 g st (by omega) m hm r
  have a8d:∀(b:Int),True:=fun _=>trivial
  have leaf:∀(t:T),t.g 0=.c (.f (sl g (dF st)))→t.g 2=vi lJ→t.g 4=.c (.ptr 0 0 0)→t.g 7=vi st.length →
    WP tab.get yV none [.code OG,.code OE] ⟨t,[],[.box [.f (u8 xk),.f (.int .i8 xn),.f (u8 xm),.f (sl lg (fJ li))] 0]⟩ Q:=by
   intro t g0 g2 g4 g7;obtain⟨g',hps⟩:=hpush st.length (ax _) ⟨.fs,[yp]⟩;refine kw_sr ?_;simp only [aM,ba]at hpl;have hr8:yp.row.length=8:=rfl;have hx:exC deep [.box [.f (u8 xk),.f (.int .i8 xn),.f (u8 xm),.f (sl lg (fJ li))] 0,.box (yp.row.map .f) 0] (.sl 1 0 1 1 0 8)=some (sl .fs (aI [yp])):=aho rfl rfl;simp [g0,g2,g4,g7,hpl,hr8,hx,hps];refine aH (hQ _ _ _ ⟨g',st++[⟨.fs,[yp]⟩],by simp,?_,rfl⟩ ?_)
   ·have:=hst.leaf hyp.good (r:=[yp.d]) rfl;rw [cm]at this;simpa [stD]using this
   ·simp
  obtain⟨X,hX⟩:∃ X:Blk,X=.box [.f (u8 xk),.f (.int .i8 xn),.f (u8 xm),.f (sl lg (fJ li))] 0:=⟨_,rfl⟩
  have bin:∀(t:T) (y:aT) (H:Heap),2≤st.length→(∀ l r,bH.OK ⟨y.d.k,y.d.cal,l,r,y.d.n,y.d.m,y.d.li⟩)→gK y.d.k=2→H[2]?=some (.box (y.row.map .f) 0)→t.g 0=.c (.f (sl g (dF st)))→t.g 7=vi st.length→t.g 9=.c (.ptr 2 0 0) →
    WP tab.get yV none [.code OD,.code EK] ⟨t,[],H⟩ Q:=by
   intro t y H h2 hy hop b2 g0 g7 g9;obtain⟨-,-,-,-,-,-,-,e8⟩:=Gm b2;have hA:=st_len hst (j:=st.length-2) (by omega)
   have hB:=st_len hst (j:=st.length-1) (by omega)
   have gA:=xJ hst (j:=st.length-2) (by omega)
   have gB:=xJ hst (j:=st.length-1) (by omega)
   obtain⟨a,ha⟩:∃ a,a=st[st.length-2]'(by omega):=⟨_,rfl⟩
   obtain⟨b,hb⟩:∃ b,b=st[st.length-1]'(by omega):=⟨_,rfl⟩
   have lA:=Gn (H:=H) (st:=st) (j:=st.length-2) (by omega)
   have lB:=Gn (H:=H) (st:=st) (j:=st.length-1) (by omega)
   have iA:=zL (H:=H) (g:=g) (st:=st) (j:=st.length-2) (by omega) (by omega)
   have iB:=zL (H:=H) (g:=g) (st:=st) (j:=st.length-1) (by omega) (by omega)
   rw [←ha]at hA gA lA;rw [←hb]at hB gB lB;have pA:=gA.pos;have pB:=gB.pos;simp only [yK]at pA pB
   obtain⟨g1,l1,hd,hbn⟩:=GV y (hy 0 0).1 a.tg b.tg (a:=a.l) (b:=b.l) (by omega) (by omega) gA.lib (fun i hi=>by
    have:=gB.at_ i (by simpa using hi)
    simpa using this) (by omega)
   obtain⟨g',hps⟩:=hpush (st.length-2) (by omega) ⟨g1,l1⟩
   have c2:((st.length-2:Nat):Int)=(st.length:Int)-2:=by omega
   have c1:((st.length-1:Nat):Int)=(st.length:Int)-1:=by omega
   rw [c2]at iA hps;rw [c1]at iB;have w2:IntKind.i64.wrap ((st.length:Int)-2)=(st.length:Int)-2:=wrap64 (by omega) (by omega)
   have w1':IntKind.i64.wrap ((st.length:Int)-1)=(st.length:Int)-1:=wrap64 (by omega) (by omega)
   refine kw_sr ?_;simp [g0,g7,g9,w2,w1',e8,-ak,iA,iB,lA,lB,hbn,hps];refine aH (hQ _ _ _ ⟨g',st.take (st.length-2)++[⟨g1,l1⟩],by simp,?_,rfl⟩ (by simp))
   have hG:Good (dat l1):=by
    rw [hd,←yK a.l];exact .bin (x:=⟨y.d.k,y.d.cal,((dat a.l).length:Int)-1,((dat a.l).length:Int)+b.l.length-1,y.d.n,y.d.m,y.d.li⟩) gA gB (hy _ _) hop (by simp) (by simp)
   have:=hst.bin (r:=dat l1) (by simpa using h2) hG (by
    have:=congrArg List.length hd;simp at this;simp [←ha,←hb]
    omega)
   simpa [stD]using this
  have una:∀(t:T) (y:aT) (H:Heap),1≤st.length→(∀ l,bH.OK ⟨y.d.k,y.d.cal,l,y.d.r,y.d.n,y.d.m,y.d.li⟩)→gK y.d.k=1→y.d.r=0→H[2]?=some (.box (y.row.map .f) 0)→t.g 0=.c (.f (sl g (dF st)))→t.g 7=vi st.length→t.g 10=.c (.ptr 2 0 0) →
    WP tab.get yV none [.code OB] ⟨t,[],H⟩ Q:=by
   intro t y H h2 hy hop hyr b2 g0 g7 g10;obtain⟨-,-,-,-,-,-,-,e8⟩:=Gm b2;have hB:=st_len hst (j:=st.length-1) (by omega)
   have gB:=xJ hst (j:=st.length-1) (by omega)
   obtain⟨b,hb⟩:∃ b,b=st[st.length-1]'(by omega):=⟨_,rfl⟩
   have lB:=Gn (H:=H) (st:=st) (j:=st.length-1) (by omega)
   have iB:=zL (H:=H) (g:=g) (st:=st) (j:=st.length-1) (by omega) (by omega)
   rw [←hb]at hB gB lB;have pB:=gB.pos;simp only [yK]at pB;obtain⟨g1,l1,hd,hbn⟩:=afm y (hy 0).1 b.tg (r:=b.l) (by omega) gB.lib
   obtain⟨g',hps⟩:=hpush (st.length-1) (by omega) ⟨g1,l1⟩
   have c1:((st.length-1:Nat):Int)=(st.length:Int)-1:=by omega
   rw [c1]at iB hps;have w1':IntKind.i64.wrap ((st.length:Int)-1)=(st.length:Int)-1:=wrap64 (by omega) (by omega)
   refine kw_sr ?_;simp [g0,g7,g10,w1',e8,-ak,iB,lB,hbn,hps];refine aH (hQ _ _ _ ⟨g',st.take (st.length-1)++[⟨g1,l1⟩],by simp,?_,rfl⟩ (by simp))
   have hG:Good (dat l1):=by
    rw [hd];exact .un (x:=⟨y.d.k,y.d.cal,(b.l.length:Int)-1,y.d.r,y.d.n,y.d.m,y.d.li⟩) gB (hy _) hop (by simp) hyr
   have:=hst.un (r:=dat l1) (by simp;omega) hG (by
    have:=congrArg List.length hd;simp at this;simp [←hb]
    omega)
   simpa [stD]using this
  by_cases hA:q<14∨st.length=0
  ·have hR:(if decide (q<14)=true then some true else some (decide (st.length=0)))=some true:=by
    rcases hA with h | h<;>simp [h]
   by_cases aHH:q<14
   ·simp [aHH];refine aj (by simp) (leaf _ (by simp) (by simp) (by simp) (by simp))
   ·have h0:st.length=0:=by omega
    have h0':(st.length:Int)=0:=by omega
    have hnil:=aD h0;simp [aHH,h0'];refine aj (by simp [hnil]) (leaf _ (by simp) (by simp) (by simp) (by simp [h0]))
  ·have aHH:¬ q<14:=fun h=>hA (.inl h)
   have hn0:st.length≠0:=fun h=>hA (.inr h)
   have a9e:14≤q∧q<25:=by omega
   have hne:st≠[]:=fun h=>hn0 (by rw [h];rfl)
   simp [aHH];refine bD (by simp [hne]) ?_
   refine kw_seq (kw_sr ?_);by_cases hB:q<18∧2≤st.length
   ·simp [hB.1,show(2:Int)≤st.length by omega]
    refine aj (by simp) (kw_sr ?_)
    have w14:IntKind.i64.wrap (q-14)=q-14:=wrap64 (by omega) (by omega)
    obtain⟨j,κ,hκ,hix,hld⟩:=ahR (.box [.f (u8 xk),.f (.int .i8 xn),.f (u8 xm),.f (sl lg (fJ li))] 0) (q:=q) (by omega)
    simp [w14,hix,hld,-ak];refine kw_seq (kw_sr ?_);simp;rcases hκ with rfl | rfl | rfl | rfl
    ·refine bD (by simp) ?_
     exact bin _ ⟨⟨8,0,0,0,0,0,[]⟩,.nil⟩ _ hB.2 (fun l r=>⟨by simp,by simp [eU]⟩) (by rfl) (by rfl) (by simp) (by simp) (by simp)
    ·refine bD (by simp) ?_
     exact bin _ ⟨⟨9,0,0,0,0,0,[]⟩,.nil⟩ _ hB.2 (fun l r=>⟨by simp,by simp [eU]⟩) (by rfl) (by rfl) (by simp) (by simp) (by simp)
    ·refine bD (by simp) ?_
     exact bin _ ⟨⟨10,0,0,0,0,0,[]⟩,.nil⟩ _ hB.2 (fun l r=>⟨by simp,by simp [eU]⟩) (by rfl) (by rfl) (by simp) (by simp) (by simp)
    ·obtain⟨mg,m0,m1,hmg⟩:=rD hxn (k:=3) (by decide)
     refine aj (by simp) (kw_region (.inl rfl) ?_)
     simp [hmg,wrap64 (n:=1+mg) (by omega) (by omega)]
     exact bin _ ⟨⟨17,0,0,0,1+mg,0,[]⟩,.nil⟩ _ hB.2 (fun l r=>⟨by simp,by simp [eU];omega⟩) (by rfl) (by rfl) (by simp) (by simp) (by simp)
   ·have hun:∀(t:T),t.g 0=.c (.f (sl g (dF st)))→t.g 2=vi lJ→t.g 4=.c (.ptr 0 0 0)→t.g 7=vi st.length→t.g 8=vi q →
      WP tab.get yV none [.code EK] ⟨t,[],[.box [.f (u8 xk),.f (.int .i8 xn),.f (u8 xm),.f (sl lg (fJ li))] 0]⟩ Q:=by
     intro t g0 g2 g4 g7 g8;obtain⟨e,he⟩:∃ e:Int,e=max q 18-18:=⟨_,rfl⟩;obtain⟨j,κ,hκ,hix,hld⟩:=a2d (.box [.f (u8 xk),.f (.int .i8 xn),.f (u8 xm),.f (sl lg (fJ li))] 0) (e:=e) (by omega)
     have wE:IntKind.i64.wrap (max q 18-18)=e:=by rw [he];exact wrap64 (by omega) (by omega)
     refine kw_sr ?_;simp [g8,wE,hix,hld,-ak];have hn1:1≤st.length:=by omega
     have hxi:IntKind.i64.wrap xn=xn:=wrap64 (by omega) (by omega)
     have aYO:IntKind.i64.wrap (xm:Int)=xm:=wrap64 (by omega) (by omega)
     have cut:∀(t:T),t.g 0=.c (.f (sl g (dF st)))→t.g 4=.c (.ptr 0 0 0)→t.g 7=vi st.length→t.g 10=.c (.ptr 2 0 0)→∀ κ:Nat,(κ=12∨κ=13) →
       WP tab.get yV none [.code OC] ⟨t,[],[.box [.f (u8 xk),.f (.int .i8 xn),.f (u8 xm),.f (sl lg (fJ li))] 0,.box [cI 11,cI 12,cI 13,cI 14,cI 15,cI 16,cI 11] 0,.box [cI κ,cI 0,cI 0,cI 0,cI 0,cI 0,.f .aC,.f (.str ⟨#[]⟩)] 0]⟩ Q:=by
      intro t g0 g4 g7 g10 κ hκ;refine kw_seq (kw_sr ?_);simp [g10];refine aB (kw_sr ?_);rcases hκ with rfl | rfl
      ·simp;refine ah (by simp) (kw_seq (kw_sr ?_))
       simp;refine aj (by simp) (aG ?_)
       refine aj (by simp) (kw_region (.inl rfl) ?_)
       simp [g4,g10,aYO];refine au ?_;exact una _ ⟨⟨12,0,0,0,xm,0,[]⟩,.nil⟩ _ hn1 (fun l=>⟨by simp,by simp [eU];omega⟩) (by rfl) rfl (by rfl) (by simp [g0]) (by simp [g7]) (by simp [g10])
      ·simp;refine ah (by simp) (kw_seq (kw_sr ?_))
       simp;refine ah (by simp) (kw_region (.inl rfl) ?_)
       simp;refine aj (by simp) (kw_region (.inl rfl) ?_)
       simp [g4,g10,aYO];refine au ?_;exact una _ ⟨⟨13,0,0,0,xm,0,[]⟩,.nil⟩ _ hn1 (fun l=>⟨by simp,by simp [eU];omega⟩) (by rfl) rfl (by rfl) (by simp [g0]) (by simp [g7]) (by simp [g10])
     refine kw_seq (kw_sr ?_);rcases(show κ=11∨κ=12∨κ=13∨κ=14∨κ=15∨κ=16 by omega)with rfl | rfl | rfl | rfl | rfl | rfl
     ·obtain⟨r,hr⟩:∃ r,r=xn.tmod 12:=⟨_,rfl⟩;have hrr:bW .rem (vi xn) (vi 12)=some (vi r):=by rw [hr];exact vS (by decide)
      have hbd:=TT (n:=xn) (k:=12) (by decide)
      rw [←hr]at hbd;simp;refine ah (by simp) (aG (kw_seq (kw_sr ?_)))
      simp;refine aB (kw_sr ?_);simp;refine aj (by simp) (kw_region (.inl rfl) ?_)
      simp [g4,hxi,hrr];refine au ?_;exact una _ ⟨⟨11,0,0,0,r,0,[]⟩,.nil⟩ _ hn1 (fun l=>⟨by simp,by simp [eU];omega⟩) (by rfl) rfl (by rfl) (by simp [g0]) (by simp [g7]) (by simp)
     ·simp;refine bD (by simp) ?_
      exact cut _ (by simp [g0]) (by simp [g4]) (by simp [g7]) (by simp) 12 (.inl rfl)
     ·simp;refine bD (by simp) ?_
      exact cut _ (by simp [g0]) (by simp [g4]) (by simp [g7]) (by simp) 13 (.inr rfl)
     ·obtain⟨gp,lp,hr,hlp,hpk⟩:=qZ lg li hll hlb (lo:=0) (hi:=60) (by decide) (by decide) (by decide) true (by decide)
      simp;refine ah (by simp) (aG (kw_seq (kw_sr ?_)))
      simp;refine aB (kw_sr ?_);simp;refine ah (by simp) (kw_seq (kw_sr ?_))
      simp;refine ah (by simp) (kw_region (.inl rfl) ?_)
      simp;refine ah (by simp) (kw_seq (kw_sr ?_))
      simp;refine aj (by simp) (aG ?_)
      refine aj (by simp) (kw_region (.inl rfl) ?_)
      simp [g4,hpk];refine au ?_;exact una _ ⟨⟨14,0,0,0,0,0,lp⟩,gp⟩ _ hn1 (fun l=>⟨by simp at hlp ⊢;omega,by simp [eU];exact hr⟩) (by rfl) rfl (by rfl) (by simp [g0]) (by simp [g7]) (by simp)
     ·obtain⟨gp,lp,hr,hlp,hpk⟩:=qZ lg li hll hlb (lo:=0) (hi:=60) (by decide) (by decide) (by decide) true (by decide)
      simp;refine ah (by simp) (aG (kw_seq (kw_sr ?_)))
      simp;refine aB (kw_sr ?_);simp;refine ah (by simp) (kw_seq (kw_sr ?_))
      simp;refine ah (by simp) (kw_region (.inl rfl) ?_)
      simp;refine ah (by simp) (kw_seq (kw_sr ?_))
      simp;refine ah (by simp) (kw_region (.inl rfl) ?_)
      simp;refine aj (by simp) (kw_region (.inl rfl) ?_)
      simp [g4,hpk];refine au ?_;exact una _ ⟨⟨15,0,0,0,0,0,lp⟩,gp⟩ _ hn1 (fun l=>⟨by simp at hlp ⊢;omega,by simp [eU];exact hr⟩) (by rfl) rfl (by rfl) (by simp [g0]) (by simp [g7]) (by simp)
     ·rcases hc with rfl | rfl
      ·simp [g2];refine aj (by simp) (kw_region (.inl rfl) ?_)
       simp;exact cut _ (by simp [g0]) (by simp [g4]) (by simp [g7]) (by simp) 12 (.inl rfl)
      ·obtain⟨gp,lp,hr,hlp,hpk⟩:=qZ lg li hll hlb (lo:=(-3)) (hi:=4) (by decide) (by decide) (by decide) false (by decide)
       obtain⟨a,a1,ra⟩:=Iu hxm (m:=8) (by decide)
       obtain⟨b,b0,b1,rb⟩:=afM (a:=(a:Int)) (b:=2) (by omega) (by omega)
       obtain⟨d,d1,rd⟩:=l9 xm (m:=2) (by decide)
       simp [g2];refine ah (by simp) (aG (kw_seq (kw_sr ?_)))
       simp;refine aB (kw_sr ?_);simp;refine ah (by simp) (kw_seq (kw_sr ?_))
       simp;refine ah (by simp) (kw_region (.inl rfl) ?_)
       simp;refine ah (by simp) (kw_seq (kw_sr ?_))
       simp;refine ah (by simp) (kw_region (.inl rfl) ?_)
       simp;refine ah (by simp) (kw_sr ?_)
       simp;refine aj (by simp) (kw_sr ?_)
       simp [g2,g4,ra,tN a (by omega),rb]
       refine kw_sr ?_;simp [g4,rd,tN d (by omega)]
       refine kw_region (.inl rfl) ?_;simp [g4,hpk];refine au ?_;exact una _ ⟨⟨16,b,0,0,0,d,lp⟩,gp⟩ _ hn1 (fun l=>⟨by simp at hlp ⊢;omega,by simp [eU];exact⟨b0,by omega,hr,by omega⟩⟩) (by rfl) rfl (by rfl) (by simp [g0]) (by simp [g7]) (by simp)
    by_cases aYS:q<18
    ·simp [aYS,show¬ (2:Int)≤st.length by omega]
     refine ah (by simp) (aG (hun _ (by simp) (by simp) (by simp) (by simp) (by simp)))
    ·simp [aYS];refine ah (by simp) (aG (hun _ (by simp) (by simp) (by simp) (by simp) (by simp)))
 exact⟨g',st',h0,h1,hp.eq⟩
end
section
def iI(l:List qm):List (List FC):=l.map qm.row
@[simp] theorem aO8 (l:List qm):(iI l).length=l.length:=by simp [iI]
theorem IU(l:List qm):Grid 4 (iI l):=Grid.map fun _=>rfl
theorem Qa{l:List qm}{j:Nat}(hj:j<l.length):(iI l)[j]?=some l[j].row:=by simp [iI,hj]
theorem aHB{H:Heap}{g:Tg}{l:List qm}{j:Nat}(hj:j<l.length)(hl:l.length≤9223372036854775807):aP H 4 none (.c (.f (sl g (iI l)))) (vi j)=some (.c (.f (.fp (iI l).flatten (j*4)))):=by
 have:=iq (H:=H) (g:=g) (rows:=iI l) (sz:=4) (k:=.i64) (i:=(j:Int)) (by omega) (by simp;omega)
 simpa using this
theorem aSO{H:Heap}{l:List qm}{j:Nat}(hj:j<l.length):ldV H (some 4) (.c (.f (.fp (iI l).flatten (j*4))))=some (.a (l[j].row.map .f)):=by
 have:=mM (H:=H) (rows:=iI l) (j:=j) (sz:=4) (row:=l[j].row) (IU l) (Qa hj);simpa using this
set_option maxHeartbeats 1000000 in
theorem agN{lJ:Nat}(hc:lJ=0∨lJ=2)(g:Tg)(l:List qm)(hl:l.length≤9223372036854775807)(hx:∀ x ∈ l,x.OK) :
  ∃ r:RuV,Good (dat r.l)∧r.l.length≤15∧Km.Pure tab.get NK [.c (.f (sl g (iI l))),vi lJ]=Eq (.c (.f (sl r.tg (aI r.l)))):=by
 obtain⟨rr,⟨r,h1,h2,rfl⟩,hp⟩:∃ rr,(∃ r:RuV,Good (dat r.l)∧r.l.length≤15∧rr=.c (.f (sl r.tg (aI r.l))))∧Km.Pure tab.get NK [.c (.f (sl g (iI l))),vi lJ] rr:=by
  refine dN a0R rfl fun Q hQ=>?_
  have fin:∀(t:T) (H:Heap) (c:C) (r:RuV),exC deep H c=some (sl r.tg (aI r.l))→Good (dat r.l)→r.l.length≤15→t.g 7=.c c →
    WP tab.get NK none [.code O5] ⟨t,[],H⟩ Q:=by
   intro t H c r hx hg hl g7;refine kw_sr ?_;simp [g7];refine aH (hQ _ _ _ ⟨r,hg,hl,rfl⟩ ⟨rfl,.c c,?_,?_⟩)
   ·simp [Km.results,bT,aZ]
   ·simp [exV,dG,hx]
  refine kw_sr ?_;simp;refine kw_sr ?_;simp;refine kw_seq (kw_sr ?_);simp;obtain⟨N,hN⟩:∃ N,N=min l.length 8:=⟨_,rfl⟩
  refine dU N (fun i t K=>∃ g' st,(st=[]→g'=.es)∧dO (stD st) i∧t.g 0=.c (.f (sl g (iI l)))∧t.g 1=vi lJ∧t.g 5=.c (.f (sl g' (dF st)))) (by omega) (by decide) (by simp)
   ⟨.es,[],fun _=>rfl,.nil,by simp,by simp,by simp [sl,dF,Tg.fc]⟩ ?_ ?_ ?_
  ·rintro i t K L hi' ⟨g',st,hem,hst,g0,g1,g5⟩ ha hn;by_cases c1:(i:Int)<l.length
   ·simp [ha,g0,c1];exact hn _ ⟨g',st,hem,hst,by simp [g0],by simp [g1],by simp [g5]⟩ (by simp [ha]) (by simp;omega)
   ·simp [ha,g0,c1];exact hn _ ⟨g',st,hem,hst,by simp [g0],by simp [g1],by simp [g5]⟩ (by simp [ha]) (by simp;omega)
  ·rintro i t K hi' ⟨g',st,hem,hst,g0,g1,g5⟩ ha nx;have hil:i<l.length:=by omega
   obtain⟨x,hxe⟩:∃ x,x=l[i]:=⟨_,rfl⟩;obtain⟨g2,st2,hne2,hst2,hp⟩:=aED hc g' st hst (by omega) x (by rw [hxe];exact hx _ (aw hil))
   refine aB (kw_region (.inl rfl) ?_);simp [g5,g1,g0,ha,aHB hil hl,aSO hil,←hxe,hp];refine au ?_;exact nx _ _ ⟨g2,st2,fun e=>absurd e hne2,hst2,by simp [g0],by simp [g1],by simp⟩ (by simp [ha])
  ·rintro t K ⟨g',st,hem,hst,g0,g1,g5⟩ ha;have hcnt:=hst.count;simp only [cF]at hcnt;refine kw_seq (kw_sr ?_);simp [g5];by_cases h0:st=[]
   ·subst h0;have hes:=hem rfl;subst hes;refine aj (by simp) (kw_region (.inl rfl) ?_)
    have hr1:RuV:=⟨.fs,[⟨⟨1,0,0,0,2,0,[]⟩,.nil⟩]⟩;obtain⟨K1,hK1⟩:∃ K1:Heap,K1=K++[.box [cI 1,cI 0,cI 0,cI 0,cI 2,cI 0,.f .aC,.f (.str ⟨#[]⟩)] 0,.box [.sl K.length 0 1 1 0 8] 0]:=⟨_,rfl⟩;have b0:K1[K.length]?=some (.box ((aT.row ⟨⟨1,0,0,0,2,0,[]⟩,.nil⟩).map .f) 0):=by rw [hK1,bj (by omega),Nat.sub_self];rfl
    have b1:K1[K.length+1]?=some (.box [.sl K.length 0 1 1 0 8] 0):=by rw [hK1,bj (by omega),Nat.add_sub_cancel_left];rfl
    have hadd:fZ K1 1 (.c (.sl (K.length+1) 0 1 1 0 1))=some (1,[.sl K.length 0 1 1 0 8]):=by simp [fZ,bQ,dQ,b1]
    have hroom:bZ 1 24=true:=by decide
    have happ:dI K1 1 24 (.c (.f (sl .es (dF [])))) (.c (.sl (K.length+1) 0 1 1 0 1))=some (.c (.sl K1.length 0 1 0 0 1),K1++[.opn 1 [.sl K.length 0 1 1 0 8] 0 0 .loc]):=by
     simp [dI,hadd,hroom,sl,dF,Tg.fc]
    simp [g5];rw [←hK1];simp [happ];obtain⟨K2,hK2⟩:∃ K2:Heap,K2=K1++[.opn 1 [.sl K.length 0 1 1 0 8] 0 0 .loc]:=⟨_,rfl⟩;have c0:K2[K.length]?=some (.box ((aT.row ⟨⟨1,0,0,0,2,0,[]⟩,.nil⟩).map .f) 0):=by rw [hK2,ag (aA b0)];exact b0
    have c1:K2[K1.length]?=some (.opn 1 [.sl K.length 0 1 1 0 8] 0 0 .loc):=by rw [hK2,bj (by omega),Nat.sub_self];rfl
    rw [←hK2];have i0:aP K2 1 none (.c (.sl K1.length 0 1 0 0 1)) (vi 0)=some (.c (.ptr K1.length 0 0)):=by simp [aP,fU,c1]
    have l0:ldV K2 none (.c (.ptr K1.length 0 0))=some (.c (.sl K.length 0 1 1 0 8)):=by simp [ldV,aF,c1,aO]
    have n0:bQ K2 (.sl K1.length 0 1 0 0 1)=some 1:=by simp [bQ,c1]
    refine kw_sr ?_;simp [i0,l0,-ak];refine kw_seq (kw_sr ?_);simp;refine aB (bM (fun m s=>∃(t:T),s=⟨t,[],K2⟩∧t.g 5=.c (.sl K1.length 0 1 0 0 1)∧t.g 7=.c (.sl K.length 0 1 1 0 8)∧t.g 8=vi 1) 0 ⟨_,rfl,by simp,by simp,by simp⟩ ?_)
    rintro m s ⟨t,rfl,g5,g7,g8⟩ ih;refine kw_seq (kw_sr ?_);simp [g5,g8,n0];refine ah (by simp) (bC rfl ?_)
    refine fin _ _ _ ⟨.fs,[⟨⟨1,0,0,0,2,0,[]⟩,.nil⟩]⟩ (aho c0 rfl) ?_ (by simp) (by simp [g7])
    exact .leaf ⟨by simp,by simp [eU]⟩ rfl (fun _=>rfl) rfl
   ·refine bD (by simp [h0]) ?_
    have hpos:=cN.2 h0;have l0:=Gn (H:=K) (st:=st) (j:=0) (by omega)
    have i0:=zL (H:=K) (g:=g') (st:=st) (j:=0) (by omega) (by omega)
    refine kw_sr ?_;simp only [ec]at i0;simp [g5,i0,l0];refine kw_seq (kw_sr ?_);simp
    refine aB (bM (fun m s=>∃(j:Nat) (r:RuV) (t:T) (K:Heap),s=⟨t,[],K⟩∧1≤j∧j≤st.length∧m=st.length-j∧Good (dat r.l)∧r.l.length+1=total ((stD st).take j)+j∧t.g 5=.c (.f (sl g' (dF st)))∧t.g 7=.c (.f (sl r.tg (aI r.l)))∧t.g 8=vi j) (st.length-1)
     ⟨1,st[0],_,_,rfl,by omega,by omega,rfl,xJ hst (by omega),?_,by simp [g5],by simp,by simp⟩ ?_)
    ·have:=wO (st:=stD st) (i:=0) (by simpa using hpos)
     rw [this];simp [total]
    ·rintro m s ⟨j,r,t,K,rfl,j1,j2,rfl,hr,hrl,g5,g7,g8⟩ ih;refine kw_seq (kw_sr ?_);simp [g5,g8];by_cases hj:j<st.length
     ·refine aj (by simp [hj]) (aG ?_)
      have hB:=st_len hst (j:=j) hj;have gB:=xJ hst (j:=j) hj;have htt:=wO (st:=stD st) (i:=j) (by simpa using hj)
      have htl:=wC (stD st) (j+1);have htot:=hst.tot;obtain⟨b,hb⟩:∃ b,b=st[j]:=⟨_,rfl⟩;have lB:=Gn (H:=K) (st:=st) (j:=j) hj;have iB:=zL (H:=K) (g:=g') (st:=st) (j:=j) hj (by omega)
      simp at htt;rw [←hb]at hB gB lB htt;have pA:=hr.pos;have pB:=gB.pos;simp only [yK]at pA pB
      obtain⟨g1,l1,hd,hbn⟩:=GV ⟨⟨9,0,0,0,0,0,[]⟩,.nil⟩ (by simp) r.tg b.tg (a:=r.l) (b:=b.l) (by omega) (by omega) hr.lib (fun i hi=>by
       have:=gB.at_ i (by simpa using hi)
       simpa using this) (by omega)
      have hw:IntKind.i64.wrap ((j:Int)+1)=((j+1:Nat):Int):=by rw [wrap64 (by omega) (by omega)];omega
      have a5I:Km.Pure tab.get Hg [.a [cI 9,cI 0,cI 0,cI 0,cI 0,cI 0,.f .aC,.f (.str ⟨#[]⟩)],.c (.f (sl r.tg (aI r.l))),.c (.f (sl b.tg (aI b.l)))]=Eq (.c (.f (sl g1 (aI l1)))):=hbn;refine kw_seq (aB (kw_region (.inl rfl) ?_));simp [g5,g7,g8,iB,lB,a5I];refine au (kw_region (.inl rfl) ?_);simp [g8,hw]
      have hll:l1.length=r.l.length+b.l.length+1:=by
       have:=congrArg List.length hd;simp at this;omega
      refine ih (st.length-(j+1)) _ (by omega) ⟨j+1,⟨g1,l1⟩,_,_,rfl,by omega,by omega,rfl,?_,?_,by simp [g5],by simp,by simp⟩
      ·rw [hd,←yK r.l];exact .bin (x:=⟨9,0,((dat r.l).length:Int)-1,((dat r.l).length:Int)+b.l.length-1,0,0,[]⟩) hr gB ⟨by simp,by simp [eU]⟩ rfl (by simp) (by simp)
      ·simp only [hll];omega
     ·have hjl:j=st.length:=by omega
      subst hjl;have htl:(stD st).take st.length=stD st:=by rw [bu (by simp)]
      rw [htl]at hrl;have htot:=hst.tot;refine ah (by simp) (bC rfl ?_)
      exact fin _ _ (.f (sl r.tg (aI r.l))) r (by simp [deep]) hr (by omega) (by simp [g7])
 exact⟨r,h1,h2,hp.eq⟩
end
section
structure a6d where
 hg:Tg
 head:List Int
 fr:Int
 per:Int
 cg:Tg
 cyc:List Int
structure a7m where
 tg:Tg
 fs:List a6d
end
section
theorem MC(a b:Int):Km.Pure tab.get Vq [vi a,vi b]=Eq (vb (decide (a<b))):=Kf.eq (by
 refine yw a0W rfl fun H Q hQ=>?_
 refine kw_sr ?_;simp;refine kw_sr ?_;simp [yB];refine aH (hQ _ _ ?_)
 simp [yB])
end
end Go.Proofs.YtmbjejcfadllnaaGreat
