/-
  ad9.Insert: afv it afg in ug model, and ad' ug small machine may take it so.
-/
import Derived.Test.YtnaofdffomdmhaaGreatProg
import Derived.WalkKit
import Derived.WalkSpells
import Derived.Shelf.Spec.SlicesInsertGrow
import Derived.Test.YtnaofdffomdmhaaGreatK4
open List renaming length_drop->afX, getElem?_drop->af0, getElem?_eq_getElem->afB, length_take->af2, getElem?_eq_some_iff->afD, length_append->afK, drop_drop->ag9, append_assoc->agk, take_append_of_le_length->age, getElem?_eq_none->agP, append_nil->agp
open Nat renaming zero_add->agj, zero_le->ag2, lt_or_ge->agq, le_refl->afJ
open Option.some renaming injEq->At
open Prod.mk renaming injEq->afG
set_option linter.unusedVariables false
set_option linter.unusedSimpArgs false
set_option linter.unusedSectionVars false
section
set_option linter.unusedVariables false
set_option linter.unusedSimpArgs false
namespace Go.Proofs.YtnaofdffomdmhaaGreat
open Go Go.Shelf Go.RowKit Go.Lib
theorem pM{P:Program}(w:World)(dT sT ty elem:TypeId)(b o aaG adJ:Nat)(a:Addr)(abw ad6 size k:Nat)(cs:List Value)
  (hu:P.underlying dT=some (.slice elem)) (hs:(P.info? elem).map (·.size)=some size) (hk:k=Nat.min abw aaG) (hn:cs.length=k*size)
  (adX:∀j v,cs[j]?=some v->w.cell? (a.add j)=some v) (hc:∀j,j<cs.length->(w.cell? ⟨b,o+j,none⟩).isSome=true) (hf:∀j,j<cs.length->w.frozen? ⟨b,o+j,none⟩=false) (h1:∀v∈cs,v.oneCell'=true) :
  (Builtin.copy_ #[dT,sT] ty #[.slice (some ⟨b,o,none⟩) aaG adJ,.slice (some a) abw ad6]).run P w=.ok (goInt k) (w.setCells b o cs):=by
 have hl:=run_loadCells_list (P:=P) w a cs adX
 have hst:=run_storeCells_cells (P:=P) b o cs 0 w (by simpa using hc) (by simpa using hf) h1
 cases hq:P.info? elem with
 |none=>simp[hq]at hs
 |some i=>
  have hi:i.size=size:=by simpa[hq]using hs
  rw[hn]at hl
  simp[Builtin.copy_,run_underlying hu,Builtin.lenOf,Builtin.firstCells,sizeOf,typeInfo,hq,hi,<-hk,hl,hst]
set_option maxHeartbeats 4000000 in
set_option maxRecDepth 100000 in
theorem Jv(b n c i vb vc:Nat)(cs vs:List Value)(w:World)(hi:i<n)(yY:n+1<=c)(adP:n<=1000000)(Xg:vb≠b)
  (YQ:cs.length=n*10) (Ti:vs.length=10)
  (YR:∀j v,cs[j]?=some v->w.cell? ⟨b,j,none⟩=some v) (hsp:∀j,j<(n+1)*10->(w.cell? ⟨b,j,none⟩).isSome=true) (hfz:∀j,j<(n+1)*10->w.frozen? ⟨b,j,none⟩=false)
  (hvs:∀j v,vs[j]?=some v->w.cell? ⟨vb,j,none⟩=some v) (YO:∀v∈cs,v.oneCell'=true) (YP:∀v∈vs,v.oneCell'=true)
  (tA tB:TypeId) (kA kB:Nat) (hsa:w.shape? vb=some (tA,kA)) (hsb:w.shape? b=some (tB,kB)) (hkB:kB≠0) (hfa:w.frozen? ⟨vb,0,none⟩=false) (hfe:w.frozen? ⟨vb,kA,none⟩=false) :
  Calls Tryz.prog 47 #[.slice (some ⟨b,0,none⟩) n c,.int .i64 i,.slice (some ⟨vb,0,none⟩) 1 vc] w λe w'=>
   e=.returned (.slice (some ⟨b,0,none⟩) (n+1) c)/\w'=(w.drew.setCells b ((i+1)*10) (cs.drop (i*10))).setCells b (i*10) vs:=by
 have mixed:Tryz.prog.follows .mixedOrders=true:=by kernel_rfl
 have hz2:¬ ((i:Int)=(n:Int)):=by omega
 have oe:(Tryz.prog.info? 50).map (·.size)=some 10:=by kernel_rfl
 have hu:Tryz.prog.underlying 32=some (.slice 50):=by kernel_rfl
 have hov:∀lb cb,(callFunc 85 #[.slice (some ⟨vb,0,none⟩) 1 vc,.slice (some ⟨b,(i+1)*10,none⟩) lb cb]).run Tryz.prog w=.ok (.value (.bool false)) w:=λlb cb=>by
  rw[run_callFunc_extern Tryz.func85 (by kernel_rfl) (by kernel_rfl) (by kernel_rfl) (e:=Extern.SlicesOverlaps.overlaps #[32,32] #[4]) (by kernel_rfl),
   Lib.run_overlaps_apart w 32 4 50 hu 10 (by intro w';cases hq:Tryz.prog.info? 50 with
    |none=>rw[hq]at oe;cases oe
    |some q=>rw[hq]at oe;simp at oe;simp[sizeOf,typeInfo,hq,oe]) ⟨vb,0,none⟩ ⟨b,(i+1)*10,none⟩ 1 vc lb cb Xg tA tB kA kB hsa hsb hkB hfa hfe]
  rfl
 have Xf:(cs.drop (i*10)).length=(n-i)*10:=by rw[afX,YQ];omega
 have hw1:IntKind.i64.wrap ((i:Int)+(1:Int))=(i:Int)+(1:Int):=by rw[IntKind.wrap_i64];omega
 have hw2:IntKind.i64.wrap ((n:Int)+(1:Int))=(n:Int)+(1:Int):=by rw[IntKind.wrap_i64];omega
 have hb1:(0:Int)<=(i:Int)+(1:Int):=by omega
 have YS:i<=n:=by omega
 have htn:((i:Int)+(1:Int)).toNat=i+1:=by omega
 have afp:((n:Int)+(1:Int)).toNat=n+1:=by omega
 have hb2:¬ (c=i+1):=by omega
 have hb3:(i:Int)<=(n:Int)+(1:Int):=by omega
 have hb4:¬ (c=i):=by omega
 have aaV:∀ty dc sc,(Builtin.copy_ #[32,32] ty #[.slice (some ⟨b,(i+1)*10,none⟩) (n-i) dc,.slice (some ⟨b,i*10,none⟩) (n+1-i) sc]).run Tryz.prog w.drew=.ok (goInt (n-i:Nat)) (w.drew.setCells b ((i+1)*10) (cs.drop (i*10))):=λty dc sc=>
  pM w.drew _ _ ty 50 b ((i+1)*10) (n-i) dc ⟨b,i*10,none⟩ (n+1-i) sc 10 (n-i) (cs.drop (i*10)) hu oe (by simp only[Nat.min_def];split<;>omega) Xf
   (λj v hj=>by rw[Addr.add_lit];exact YR (i*10+j) v (by rwa[af0]at hj))
   (λj hj=>hsp _ (by rw[Xf]at hj;omega)) (λj hj=>hfz _ (by rw[Xf]at hj;omega)) (λv hv=>YO v (List.mem_of_mem_drop hv))
 obtain⟨W1,KI⟩:∃W1,W1=w.drew.setCells b ((i+1)*10) (cs.drop (i*10)):=⟨_,rfl⟩
 have adW:∀k,k<(n+1)*10->(W1.cell? ⟨b,k,none⟩).isSome=true:=λk hk=>by
  rw[KI]
  exact isSome_setCells b (cs.drop (i*10)) ((i+1)*10) w.drew (λj hj=>hsp _ (by rw[Xf]at hj;omega)) k (hsp k hk)
 have adQ:∀(W:World),(∀x,W.cell? x=W1.cell? x)->(∀x,W.frozen? x=W1.frozen? x)->∀ty dc,(Builtin.copy_ #[32,32] ty #[.slice (some ⟨b,i*10,none⟩) (n+1-i) dc,.slice (some ⟨vb,0,none⟩) 1 vc]).run Tryz.prog W=.ok (goInt (1:Nat)) (W.setCells b (i*10) vs):=λW Td hWf ty dc=>
  pM W 32 32 ty 50 b (i*10) (n+1-i) dc ⟨vb,0,none⟩ 1 vc 10 1 vs hu oe (by simp only[Nat.min_def];split<;>omega) (by omega)
   (λj v hj=>by
    rw[Addr.add_lit,Td,KI,World.cell?_setCells_out b _ _ _ _ (λh _=>absurd h Xg),agj]
    exact hvs j v hj)
   (λj hj=>by rw[Ti]at hj;rw[Td];exact adW _ (by omega)) (λj hj=>by rw[Ti]at hj;rw[hWf,KI,World.frozen?_setCells];exact hfz _ (by omega)) YP
 rw[<-KI]at aaV
 go_enter Tryz.func47,Tryz.ntmps47
 go_wp2_with (simp only[hov])
 go_region_law_o (refine step_copy_runI rfl _ _ 32 32 rfl _ _ (by simp[Act.eval,Act.put]) (by simp[Act.eval,Act.put]) (aaV _ _ _) ?_)
 go_wp2_with (at_builtin;refine wpList_copy_runI _ rfl _ _ 32 32 rfl _ _ rfl rfl (adQ _ (λ_=>rfl) (λ_=>rfl) _ _) ?_)
 go_ret
 first|exact⟨rfl,rfl⟩|exact⟨rfl,by rw[KI]⟩
end Go.Proofs.YtnaofdffomdmhaaGreat
end
section
set_option linter.unusedVariables false
set_option linter.unusedSimpArgs false
namespace Go.Proofs.YtnaofdffomdmhaaGreat
open Go Go.Shelf Go.RowKit Go.Lib
def xu:Value:=.agg #[.int .i64 0,.int .i64 0,.int .i64 0,.int .i64 0,.int .i64 0,.int .i64 0,.int .i64 0,.slice none 0 0,.int .i64 0,.slice none 0 0]
theorem Xl:(Tryz.prog.info? 50).map (λi=>(i.zero,i.size,i.bytes))=some (some xu,10,112):=by kernel_rfl
theorem KG(k:Nat):(Builtin.zeroCells xu.cells k).size=k*10:=by simp[Builtin.zeroCells,xu,Value.cells]
set_option maxHeartbeats 4000000 in
set_option maxRecDepth 100000 in
theorem N5(b n c i vb vc:Nat)(cs vs:List Value)(w:World)(hi:i<n)(hnc:n<=c)(yY:c<n+1)(adP:n<=1000000)
  (YQ:cs.length=n*10) (Ti:vs.length=10)
  (YR:∀j v,cs[j]?=some v->w.cell? ⟨b,j,none⟩=some v)
  (hvs:∀j v,vs[j]?=some v->w.cell? ⟨vb,j,none⟩=some v) (YO:∀v∈cs,v.oneCell'=true) (YP:∀v∈vs,v.oneCell'=true) :
  ∃(ri:Array Value) (G:Nat),n+1<=G/\ri.size=G*10/\(∀(j:Nat) v,(cs.take (i*10))[j]?=some v->ri[j]?=some v)/\
  Calls Tryz.prog 47 #[.slice (some ⟨b,0,none⟩) n c,.int .i64 i,.slice (some ⟨vb,0,none⟩) 1 vc] w λe w'=>
   e=.returned (.slice (some ⟨w.heap.size,0,none⟩) (n+1) G)/\
   w'=(((w.alloc (.cells ri 50)).drew.setCells w.heap.size (i*10) vs).drew).setCells w.heap.size ((i+1)*10) (cs.drop (i*10)):=by
 have mixed:Tryz.prog.follows .mixedOrders=true:=by kernel_rfl
 have hu:Tryz.prog.underlying 32=some (.slice 50):=by kernel_rfl
 have hu3:Tryz.prog.underlying 3=some (.int .i64):=by kernel_rfl
 obtain⟨i0,hi0,hz0,hzs,hzb⟩:=info_parts Xl
 have hz2:¬ ((i:Int)=(n:Int)):=by omega
 have hz3:(c:Int)<(n:Int)+(1:Int):=by omega
 have oe:(Tryz.prog.info? 50).map (·.size)=some 10:=by rw[hi0];simp[hzs]
 have hbw:b<w.heap.size:=block_lt_of_cell (YR 0 _ (afB (by omega)))
 have hvw:vb<w.heap.size:=block_lt_of_cell (hvs 0 _ (afB (by omega)))
 have hkk:(n:Int)+(1:Int)-(i:Int)=((n+1-i:Nat):Int):=by omega
 have hik:i+(n+1-i)=n+1:=by omega
 have htl:(cs.take (i*10)).length=i*10:=by rw[af2];omega
 have hold:(Builtin.firstCells i0.size i (.slice (some ⟨b,0,none⟩) i c)).run Tryz.prog w.drew=.ok (cs.take (i*10)).toArray w.drew:=by
  rw[hzs]
  exact run_firstCells_some w.drew 10 i ⟨b,0,none⟩ i c (cs.take (i*10)) htl (λj v hj=>by
   rw[Addr.add_lit,agj]
   rw[List.getElem?_take]at hj
   split at hj
   .exact YR j v hj
   .cases hj)
 have hrz:∀ty,(Builtin.append_ #[32,3] ty #[.slice (some ⟨b,0,none⟩) i c,.int .i64 ((n:Int)+(1:Int)-(i:Int))]).run Tryz.prog w =
   .ok (.slice (some ⟨w.heap.size,0,none⟩) (n+1) (grownCap w (n+1) c 50)) (w.drew.alloc (.cells ((cs.take (i*10)).toArray++Builtin.zeroCells xu.cells (n+1-i)++Builtin.zeroCells xu.cells (grownCap w (n+1) c 50-(n+1))) 50)):=λty=>by
  have h:=Lib.run_append_grow_zeros w 32 3 ty 50 i0 _ .i64 .i64 hu hu3 hi0 hz0 (some ⟨b,0,none⟩) i c (cs.take (i*10)) hold (n+1-i) (by omega) (by omega) (by omega) (by omega) (by rw[hzb];omega) (by rw[hzb,hik];exact growslice_fits yY (by omega))
  rw[hik]at h
  rw[hkk]
  exact h
 obtain⟨G,hG⟩:∃G,G=grownCap w (n+1) c 50:=⟨_,rfl⟩
 have hGn:n+1<=G:=by rw[hG];exact grownCap_ge w _ _ _
 have afi:G<=9223372036854775807:=by
  have:=grownCap_le_maxLen w (n+1) c 50 (by unfold maxLen;omega)
  rw[<-hG]at this
  unfold maxLen at this
  omega
 obtain⟨ri,Jo⟩:∃ri:Array Value,ri=(cs.take (i*10)).toArray++Builtin.zeroCells xu.cells (n+1-i)++Builtin.zeroCells xu.cells (G-(n+1)):=⟨_,rfl⟩
 rw[<-hG]at hrz
 rw[<-Jo]at hrz
 have hRs:ri.size=G*10:=by
  rw[Jo]
  simp only[Array.size_append,KG,List.size_toArray,htl]
  omega
 have hRg:∀(j:Nat) v,(cs.take (i*10))[j]?=some v->ri[j]?=some v:=λj v hj=>by
  have hjl:j<(cs.take (i*10)).length:=(afD.1 hj).1
  rw[Jo,Array.append_assoc,Array.getElem?_append_left (by simpa using hjl)]
  simpa using hj
 refine⟨ri,G,hGn,hRs,hRg,?_⟩
 obtain⟨W1,KI⟩:∃W1,W1=w.drew.alloc (.cells ri 50):=⟨_,rfl⟩
 rw[<-KI]at hrz
 have hN:∀j,j<(n+1)*10->(W1.cell? ⟨w.heap.size,j,none⟩).isSome=true:=λj hj=>by
  rw[KI,World.cell?_alloc_at (w:=w.drew) ri _ w.heap.size j rfl,Array.getElem?_eq_getElem (by omega)];rfl
 have hNf:∀j,W1.frozen? ⟨w.heap.size,j,none⟩=false:=λj=>by rw[KI];exact World.frozen?_alloc_at (w:=w.drew) ri _ w.heap.size j rfl
 have hOb:∀j v,w.cell? ⟨b,j,none⟩=some v->W1.cell? ⟨b,j,none⟩=some v:=λj v h=>by rw[KI,World.cell?_alloc_past (w:=w.drew) _ b j hbw];exact h
 have hOv:∀j v,w.cell? ⟨vb,j,none⟩=some v->W1.cell? ⟨vb,j,none⟩=some v:=λj v h=>by rw[KI,World.cell?_alloc_past (w:=w.drew) _ vb j hvw];exact h
 have adR:∀(W:World),(∀x,W.cell? x=W1.cell? x)->(∀x,W.frozen? x=W1.frozen? x)->∀ty dc,(Builtin.copy_ #[32,32] ty #[.slice (some ⟨w.heap.size,i*10,none⟩) (n+1-i) dc,.slice (some ⟨vb,0,none⟩) 1 vc]).run Tryz.prog W=.ok (goInt (1:Nat)) (W.setCells w.heap.size (i*10) vs):=λW Td hWf ty dc=>
  pM W 32 32 ty 50 w.heap.size (i*10) (n+1-i) dc ⟨vb,0,none⟩ 1 vc 10 1 vs hu oe (by simp only[Nat.min_def];split<;>omega) (by omega)
   (λj v hj=>by rw[Addr.add_lit,Td,agj];exact hOv _ v (hvs j v hj))
   (λj hj=>by rw[Ti]at hj;rw[Td];exact hN _ (by omega)) (λj hj=>by rw[hWf];exact hNf _) YP
 have hGi:¬ (G=i):=by omega
 have afj:¬ (G=i+1):=by omega
 have hci:¬ (c=i):=by omega
 have hbN:b≠w.heap.size:=by omega
 have Xf:(cs.drop (i*10)).length=(n-i)*10:=by rw[afX,YQ];omega
 have aaW:∀(W:World),(∀x,W.cell? x=(W1.setCells w.heap.size (i*10) vs).cell? x)->(∀x,W.frozen? x=(W1.setCells w.heap.size (i*10) vs).frozen? x)->∀ty dc sc,(Builtin.copy_ #[32,32] ty #[.slice (some ⟨w.heap.size,(i+1)*10,none⟩) (n-i) dc,.slice (some ⟨b,i*10,none⟩) (n-i) sc]).run Tryz.prog W=.ok (goInt (n-i:Nat)) (W.setCells w.heap.size ((i+1)*10) (cs.drop (i*10))):=λW Td hWf ty dc sc=>
  pM W 32 32 ty 50 w.heap.size ((i+1)*10) (n-i) dc ⟨b,i*10,none⟩ (n-i) sc 10 (n-i) (cs.drop (i*10)) hu oe (by simp only[Nat.min_def];split<;>omega) Xf
   (λj v hj=>by
    rw[Addr.add_lit,Td,World.cell?_setCells_out _ _ _ _ _ (λh _=>absurd h hbN)]
    exact hOb _ v (YR (i*10+j) v (by rwa[af0]at hj)))
   (λj hj=>by rw[Xf]at hj;rw[Td];exact isSome_setCells _ vs (i*10) W1 (λt ht=>hN _ (by rw[Ti]at ht;omega)) _ (hN _ (by omega)))
   (λj hj=>by rw[hWf,World.frozen?_setCells];exact hNf _) (λv hv=>YO v (List.mem_of_mem_drop hv))
 subst KI
 have hE1:∀x,((w.alloc (.cells ri 50)).drew).cell? x=(w.drew.alloc (.cells ri 50)).cell? x:=λx=>rfl
 have hE2:∀x,((w.alloc (.cells ri 50)).drew).frozen? x=(w.drew.alloc (.cells ri 50)).frozen? x:=λx=>rfl
 have hF1:∀x,(((w.alloc (.cells ri 50)).drew.setCells w.heap.size (i*10) vs).drew).cell? x=((w.drew.alloc (.cells ri 50)).setCells w.heap.size (i*10) vs).cell? x:=λx=>rfl
 have hF2:∀x,(((w.alloc (.cells ri 50)).drew.setCells w.heap.size (i*10) vs).drew).frozen? x=((w.drew.alloc (.cells ri 50)).setCells w.heap.size (i*10) vs).frozen? x:=λx=>rfl
 have hw1:IntKind.i64.wrap ((i:Int)+(1:Int))=(i:Int)+(1:Int):=by rw[IntKind.wrap_i64];omega
 have hw2:IntKind.i64.wrap ((n:Int)+(1:Int))=(n:Int)+(1:Int):=by rw[IntKind.wrap_i64];omega
 have hw3:IntKind.i64.wrap ((n:Int)+(1:Int)-(i:Int))=(n:Int)+(1:Int)-(i:Int):=by rw[IntKind.wrap_i64];omega
 have hb1:(0:Int)<=(i:Int)+(1:Int):=by omega
 have YS:i<=n:=by omega
 have htn:((i:Int)+(1:Int)).toNat=i+1:=by omega
 have hb3:(i:Int)<=(n:Int):=by omega
 have hb4:(i:Int)<=(n:Int)+1:=by omega
 clear hkk hik hold Jo hG
 go_enter Tryz.func47,Tryz.ntmps47
 go_wp2_with (first
  |(at_builtin;refine Lib.wpList_append_run _ rfl _ _ _ _ rfl _ _ rfl rfl _ _ (hrz _) ?_)
  |(at_builtin;refine wpList_copy_runI _ rfl _ _ 32 32 rfl _ _ rfl rfl (adR _ hE1 hE2 _ _) ?_)
  |(at_builtin;refine wpList_copy_runI _ rfl _ _ 32 32 rfl _ _ rfl rfl (aaW _ (λ_=>rfl) (λ_=>rfl) _ _ _) ?_))
 go_region_law_o (refine step_copy_runI rfl _ _ 32 32 rfl (.slice (some ⟨w.heap.size,(i+1)*10,none⟩) (n-i) (G-(i+1))) (.slice (some ⟨b,i*10,none⟩) (n-i) (c-i)) (by simp[Act.eval,Act.put]) (by simp[Act.eval,Act.put]) (aaW _ hF1 hF2 3 (G-(i+1)) (c-i)) ?_)
 go_wp2
 go_ret
 exact⟨rfl,rfl⟩
set_option maxHeartbeats 4000000 in
set_option maxRecDepth 100000 in
theorem Rs(a a2:Option Addr)(n c c2:Nat)(w w':World)(u:Value)(hr:(Builtin.append_ #[32,32] 32 #[.slice a n c,.slice a2 1 c2]).run Tryz.prog w=.ok u w') :
  Calls Tryz.prog 47 #[.slice a n c,.int .i64 n,.slice a2 1 c2] w λe w''=>e=.returned u/\w''=w':=by
 have mixed:Tryz.prog.follows .mixedOrders=true:=by kernel_rfl
 go_enter Tryz.func47,Tryz.ntmps47
 go_wp2_with (at_builtin;refine Lib.wpList_append_run _ rfl _ _ _ _ rfl _ _ rfl rfl _ _ hr ?_)
 all_goals go_ret
 all_goals exact⟨rfl,rfl⟩
end Go.Proofs.YtnaofdffomdmhaaGreat
end
section
set_option linter.unusedVariables false
set_option linter.unusedSimpArgs false
namespace Go.Proofs.YtnaofdffomdmhaaGreat
open Go Km
theorem Ce{Q:Program}{σ:Nat->FuncId}{X:Wd}(hS:SR Q σ X){b:Nat}{cs cs':List C}{e e2:Nat}{L:Km.Loc}(hb:X.H[b]?=some (.ct 10 cs 0 e .loc))(hL:X.cI b=some L)(he:e<=e2)
  {w':World} (hs:w'.heap.size=X.w.heap.size) (hw:∀k,k≠L.c->w'.heap[k]?=X.w.heap[k]?) (ho:w'.os=X.w.os) (ht:w'.tape=X.w.tape) (hu:w'.output=X.w.output)
  {Hg O8:List Value} (hr:Km.rowAt w' L.c (Hg++O8)) (hA:A2 (CR σ X) cs' Hg) (hl:(Hg++O8).length=L.cap*10) {n:Nat} (hn:cs'.length=n*10) :
  ∃X',X'.w=w'/\X'.H=X.H.set b (.ct 10 cs' 0 e2 .loc)/\SR Q σ X'/\Ext X.H.length X X'/\VR σ X' (.c (.sl b 0 n 0 e2 10)) (.slice (some ⟨L.c,0,none⟩) n L.cap)/\X'.B=X.B:=by
 obtain⟨_,_,bz,NV,hbr⟩:=hS.br b L hL
 rw[hb]at NV;simp only[At]at NV;subst NV
 obtain⟨_,us,rest,hr0,h2,h6,h7,h8,h3⟩:=hbr
 have hlt:b<X.H.length:=(afD.1 hb).1
 obtain⟨h4,h5⟩:=SR.PW hS (blk':=.ct 10 cs' 0 e2 .loc) hb hL hs hw (λi hf=>absurd hf (h3 i (ag2 _))) ho ht hu
  (λbz Xe=>⟨.ct 10 cs' 0 e2 .loc,by simp[hlt],by
   rw[hb]at Xe;simp only[At]at Xe;subst Xe
   refine⟨rfl,?_⟩
   rcases agq e e2 with h|h
   .exact .inr ⟨h,rfl,L,hL⟩
   .exact .inl ⟨by omega,rfl,λL' h'=>h'⟩⟩)
  (λhx'=>⟨rfl,Hg,O8,hr,A2.ext' σ hx' hA,hl,h7,⟨n,hn⟩,h3⟩)
 refine⟨_,rfl,rfl,h4,h5,?_,rfl⟩
 have adU:(X.H.set b (.ct 10 cs' 0 e2 .loc))[b]?=some (.ct 10 cs' 0 e2 .loc):=by simp[hlt]
 have hle:n<=L.cap:=by
  have:=hA.len
  rw[afK]at hl
  omega
 simp only[VR,iS,CR,fZ,adU]
 exact⟨afJ _,λ_ _=>⟨L,hL,0,by omega,by omega,by simp⟩,_,_,_,rfl⟩
theorem JT{α:Type}(us rest vs:List α)(i:Nat)(hi:i*10<=us.length)(hv:vs.length=10)(hr:10<=rest.length) :
  bp (bp (us++rest) ((i+1)*10) (us.drop (i*10))) (i*10) vs=(us.take (i*10)++vs++us.drop (i*10))++rest.drop 10:=by
 have h1:bp (us++rest) ((i+1)*10) (us.drop (i*10))=((us++rest).take ((i+1)*10))++us.drop (i*10)++rest.drop 10:=by
  unfold bp
  congr 1
  rw[afX,show(i+1)*10+(us.length-i*10)=us.length+10 by omega,<-ag9,List.drop_left']
  rfl
 rw[h1]
 unfold bp
 have hl:((us++rest).take ((i+1)*10)).length=(i+1)*10:=by rw[af2,afK];omega
 have e1:(List.take ((i+1)*10) (us++rest)++us.drop (i*10)++rest.drop 10).take (i*10)=us.take (i*10):=by
  rw[agk,age (by omega),List.take_take,age (by omega),show min (i*10) ((i+1)*10)=i*10 by omega]
 have e2:(List.take ((i+1)*10) (us++rest)++us.drop (i*10)++rest.drop 10).drop (i*10+vs.length)=us.drop (i*10)++rest.drop 10:=by
  rw[hv,agk,List.drop_left' (by rw[hl];omega)]
 rw[e1,e2]
 simp
theorem E9{α:Type}(us rest vs:List α)(i:Nat)(hi:i*10<=us.length)(hv:vs.length=10)(hr:us.length+10<=i*10+rest.length) :
  bp (bp (us.take (i*10)++rest) (i*10) vs) ((i+1)*10) (us.drop (i*10))=(us.take (i*10)++vs++us.drop (i*10))++rest.drop (10+(us.length-i*10)):=by
 have hl:(us.take (i*10)).length=i*10:=by rw[af2];omega
 have h1:=wC (us.take (i*10)) rest vs (by omega)
 rw[hl]at h1
 rw[h1]
 have hl2:(us.take (i*10)++vs).length=(i+1)*10:=by rw[afK,hl,hv];omega
 have h2:=wC (us.take (i*10)++vs) (rest.drop vs.length) (us.drop (i*10)) (by rw[afX,afX];omega)
 rw[hl2]at h2
 rw[h2,ag9,afX,hv]
theorem Ju(vs:Array Value)(w:World):(callFunc 47 vs).run Tryz.prog w=.ok (.enter 47 vs) w:=by
 have hn:(Tryz.f47.name == "runtime.NumGoroutine")=false:=by kernel_rfl
 have hb:Tryz.f47.body.isSome=true:=by kernel_rfl
 obtain⟨c,hc⟩:=Option.isSome_iff_exists.1 hb
 exact sb Tryz.func47 (by simpa using hn) hc vs w
theorem wv{σ:Nat->FuncId}{X X':Wd}{us:Array Value}{u:Value}{r:V}{H':aj}(h:Calls Tryz.prog 47 us X.w λe w'=>e=.returned u/\w'=X'.w)(hp:Km.oz Tryz.prog σ X r H' X' u)(cs:List Frame) :
  ∃fr X' u,Steps Tryz.prog (lone (Frame.enter Tryz.prog 47 us .normal) cs X.w) (lone fr cs X'.w)/\Km.Leaves Tryz.prog 47 .normal fr u X'.w/\Km.oz Tryz.prog σ X r H' X' u:=by
 obtain⟨e,w',fr,⟨rfl,rfl⟩,h1,h2,hm,hd,hk,fn,hf,hr⟩:=h cs
 exact⟨fr,X',u,h1,⟨hm,hd,hk,h2,fn,by rw[<-h2];exact hf,hr⟩,hp⟩
theorem vE{w:World}{c:Nat}{us:List Value}(h:Km.rowAt w c us):Km.rowAt w.drew c us:=h
theorem Iw{H:aj}{y:C}{m:Nat}{ys:List C}(h:cS H 10 (.c y)=some (m,ys)):bo H y=some m:=by
 unfold cS at h
 split at h
 .simp at h
 .rename_i x hne heq
  cases heq
  split at h
  .rename_i l cs hl YR
   simp only[At,afG]at h
   rw[<-h.1];exact hl
  .cases h
 .cases h
def PU:Oper:={ dst:=none,op:=.call { callee:=.builtin .append,args:=#[.tmp 0,.tmp 1],argTypes:=#[32,32] },type:=32,pos:= "",after:=#[],guard:=none }
theorem abz(σ:Nat->FuncId):dZ Tryz.prog σ PU (.append 10 112 (.r .h) (.r (.o .h)))=true:=by kernel_rfl
set_option maxRecDepth 100000 in
theorem Ys{σ:Nat->FuncId}{X:Wd}(hS:SR Tryz.prog σ X)(hB:X.B<=X.w.heap.size){x y:C}{ux uy:Value}(hx:VR σ X (.c x) ux)(hy:VR σ X (.c y) uy){r:V}{H':aj}(hp:cw X.H 10 112 (.c x) (.c y)=some (r,H')) :
  ∃u X',(Builtin.append_ #[32,32] 32 #[ux,uy]).run Tryz.prog X.w=.ok u X'.w/\Km.oz Tryz.prog σ X r H' X' u:=by
 let a:Act:={ tmps:=#[ux,uy],defers:=[] }
 have hR:RR σ X (.n (.n .e (.c y) .e) (.c x) .e) a.tmps:=λp=>by
  match p with
  | .h=>exact hx
  | .o .h=>exact hy
  | .o (.o _)=>trivial
  | .o (.i _)=>trivial
  | .i _=>trivial
 obtain⟨u,X',h1,h2,h3,h4,h5,h6⟩:=yD hS hB hR (abz σ) (v:=r) (H':=H') hp
 refine⟨u,X',?_,h2,h3,h4,h5,h6⟩
 have he:(execOp a.eval PU).run Tryz.prog X.w=((Builtin.append_ #[32,32] 32 #[ux,uy]).run Tryz.prog X.w).andThen λv w'=>.ok (.value v) w':=by
  refine dG (b:=.append) rfl rfl λcs=>?_
  simp[builtin,PU,a,Act.eval]
 rw[he]at h1
 cases hq:(Builtin.append_ #[32,32] 32 #[ux,uy]).run Tryz.prog X.w with
 |ok v w'=>
  rw[hq]at h1
  simp only[Result.andThen_ok]at h1
  rcases h1 with h1|⟨h1,-⟩
  .injection h1 with e1 e2
   injection e1 with e1
   rw[e1,e2]
  .injection h1 with e1 e2
   cases e1
 |_=>rw[hq]at h1;rcases h1 with h1|⟨h1,-⟩<;>cases h1
theorem rowAt.shape{w:World}{c:Nat}{us:List Value}(h:Km.rowAt w c us):∃e,w.shape? c=some (e,us.length):=by
 obtain⟨e,fr,h1,_⟩:=h
 exact⟨e,by simp[World.shape?,h1]⟩
theorem rowAt.fz{w:World}{c:Nat}{us:List Value}(h:Km.rowAt w c us){i:Nat}(hi:i<=us.length):w.frozen? ⟨c,i,none⟩=false:=by
 obtain⟨e,fr,h1,h2⟩:=h
 have:=h2 i hi
 simp only[World.frozen?,h1]
 simp only[Bool.and_eq_false_iff,decide_eq_false_iff_not]
 omega
theorem Pw{σ:Nat->FuncId}{X:Wd}(hS:SR Tryz.prog σ X)(hB:X.B<=X.w.heap.size){x y:C}{i:Int}{n:Nat}{ax ay:Option Addr}{cx cy:Nat}(hx:VR σ X (.c x) (.slice ax n cx))(hy:VR σ X (.c y) (.slice ay 1 cy))(hn:bo X.H x=some n)(YS:i≠n)
  {r:V} {H':aj} (hp:Ba X.H x i y=some (r,H')) (fs:List Frame) :
  ∃fr X' u,Steps Tryz.prog (lone (Frame.enter Tryz.prog 47 #[.slice ax n cx,.int .i64 i,.slice ay 1 cy] .normal) fs X.w) (lone fr fs X'.w)/\Km.Leaves Tryz.prog 47 .normal fr u X'.w/\Km.oz Tryz.prog σ X r H' X' u:=by
 unfold Ba at hp
 split at hp
 case h_2=>cases hp
 rename_i b o l c0 ep s vb vo vc ve vs0
 split at hp
 case h_2=>cases hp
 rename_i s' cs fl e vs vfl hb Xg
 split at hp
 case isFalse=>cases hp
 rename_i aaU
 obtain⟨rfl,rfl,rfl,rfl,rfl,YQ,rfl,hi0,hil,hl6,Ti⟩:=aaU
 simp only[At,afG]at hp
 obtain⟨rfl,rfl⟩:=hp
 obtain⟨k,rfl⟩:∃k:Nat,i=k:=⟨i.toNat,by omega⟩
 have hkl:k<l:=by omega
 simp only[VR,iS,CR,fZ,hb]at hx
 obtain⟨-,hx2,-⟩:=hx
 obtain⟨L,hL,k0,hk0,hk1,hux⟩:=hx2 trivial trivial
 have adS:k0=0:=by omega
 subst adS
 simp only[Value.slice.injEq,Nat.sub_zero]at hux
 obtain⟨rfl,rfl,rfl⟩:=hux
 simp only[VR,iS,CR,fZ,Xg]at hy
 obtain⟨Lv,hLv,hvc,huy⟩:=hy
 simp only[Value.slice.injEq]at huy
 obtain⟨rfl,-,rfl⟩:=huy
 obtain⟨hLB,hLs,bz,NV,hbr⟩:=hS.br b L hL
 rw[hb]at NV;simp only[At]at NV;subst NV
 obtain⟨_,us,rest,hr,h2,h6,h7,h8,h3⟩:=hbr
 obtain⟨hvB,hvs,bz,NV,hbr⟩:=hS.br vb Lv hLv
 rw[Xg]at NV;simp only[At]at NV;subst NV
 obtain⟨uv,hrv,hv2,_⟩:=hbr
 have hne:Lv.c≠L.c:=λh=>by
  have:=hS.inj _ _ _ _ hLv hL h
  subst this
  rw[hb]at Xg
  cases Xg
 have hul:us.length=n*10:=by rw[<-h2.len];exact YQ
 have Rl:uv.length=10:=by rw[<-hv2.len];exact Ti
 have hrl:(us++rest).length=us.length+rest.length:=afK
 have Tf:∀j v,us[j]?=some v->X.w.cell? ⟨L.c,j,none⟩=some v:=λj v hj=>by
  rw[dD hr,List.getElem?_append_left (afD.1 hj).1];exact hj
 have NW:∀j v,uv[j]?=some v->X.w.cell? ⟨Lv.c,j,none⟩=some v:=λj v hj=>by rw[dD hrv];exact hj
 have YO:∀v∈us,v.oneCell'=true:=λv hv=>A2.one h2 v hv
 have YP:∀v∈uv,v.oneCell'=true:=λv hv=>A2.one hv2 v hv
 have hA:A2 (CR σ X) (cs.take (k*10)++vs++cs.drop (k*10)) (us.take (k*10)++uv++us.drop (k*10)):=((h2.take _).append hv2).append (h2.drop _)
 have aaT:(cs.take (k*10)++vs++cs.drop (k*10)).length=(n+1)*10:=by
  simp only[afK,af2,afX,YQ,Ti];omega
 have htn:((k:Int)).toNat=k:=by simp
 rw[htn]
 rcases agq L.cap (n+1)with yY|yY
 .
  obtain⟨ri,G,hG,hRs,hRg,Ex⟩:=N5 L.c n L.cap k Lv.c cy us uv X.w hkl (by omega) yY hl6 hul Rl Tf NW YO YP
  have htl:(us.take (k*10)).length=k*10:=by rw[af2];omega
  have Jo:ri.toList=us.take (k*10)++ri.toList.drop (k*10):=by
   have:ri.toList.take (k*10)=us.take (k*10):=by
    apply List.ext_getElem?
    intro j
    by_cases hj:j<k*10
    .rw[List.getElem?_take_of_lt hj,Array.getElem?_toList,hRg j _ (afB (by omega)),afB (by omega)]
    .rw[agP (by rw[af2];omega),agP (by omega)]
   rw[<-this,List.take_append_drop]
  have N0:(ri.toList.drop (k*10)).length=(G-k)*10:=by rw[afX,Array.length_toList,hRs];omega
  have Te:ef X.w (X.w.alloc (.cells ri 50)) (.cells (us.take (k*10)++[]++ri.toList.drop (k*10)).toArray 50):=by
   rw[agp,<-Jo]
   exact ef.alloc _ _
  obtain⟨X1,g1,g2,g3,g4,g5,g6⟩:=uG hS hB hb (h2.take (k*10)) A2.nil (by decide) (n:=k) (nc:=G) (by simp only[af2,List.length_nil];omega) N0 (by omega) Te
  have hb1:X1.H[b]?=some (.ct 10 (cs.take (k*10)++[]) 0 (ep+1) .loc):=by rw[g2];simp[(afD.1 hb).1]
  simp only[VR,iS,CR,fZ,hb1]at g5
  obtain⟨-,g5,-⟩:=g5
  obtain⟨L1,hL1,k1,afo,hk2,aaS⟩:=g5 trivial trivial
  have adT:k1=0:=by omega
  subst adT
  simp only[Value.slice.injEq,At,Addr.mk.injEq,and_true,true_and,Nat.sub_zero]at aaS
  obtain⟨Xd,NT⟩:=aaS
  have hr1:Km.rowAt X1.w L1.c (us.take (k*10)++ri.toList.drop (k*10)):=by
   have:=lH Te
   rw[agp]at this
   rw[g1,<-Xd];exact this
  obtain⟨s1,s2,s3,s4,s5,s6⟩:=eo (vE hr1) uv (k*10) (by rw[afK,htl,N0];omega)
  obtain⟨t1,t2,t3,t4,t5,t6⟩:=eo (vE s6) (us.drop (k*10)) ((k+1)*10) (by
   have:(bp (us.take (k*10)++ri.toList.drop (k*10)) (k*10) uv).length=G*10:=by
    unfold bp;simp only[afK,af2,afX,Array.length_toList]at N0 ⊢;omega
   rw[this,afX];omega)
  rw[E9 us _ uv k (by omega) Rl (by rw[N0];omega)]at t6
  obtain⟨X',q1,q2,q3,q4,q5,q6⟩:=Ce g3 hb1 hL1 (afJ _) (t1.trans s1) (λq hq=>(t2 q hq).trans (s2 q hq)) (t3.trans s3) (t4.trans s4) (t5.trans s5) t6 (A2.ext' σ g4 hA)
   (by rw[<-NT];simp only[afK,af2,afX,Array.length_toList]at N0 ⊢;omega) aaT
  rw[<-NT,<-Xd]at q5
  refine wv (X':=X') (by rw[q1,g1,<-Xd];exact Ex) ⟨by rw[q2,g2,List.set_set],q3,q5,g4.trans (q4.mono g4.len),by rw[q6,q1];have e1:=t1.trans s1;have e2:X1.w.drew.heap.size=X1.w.heap.size:=rfl;omega⟩ fs
 .
  obtain⟨eA,hsA⟩:=rowAt.shape hrv
  obtain⟨eB,hsB⟩:=rowAt.shape hr
  have Ey:(us++rest).length=L.cap*10:=h6
  have Ex:=Jv L.c n L.cap k Lv.c cy us uv X.w hkl yY hl6 hne hul Rl Tf (λj hj=>by
   rw[dD hr,afB (by rw[Ey];omega)];rfl) (λj hj=>rowAt.fz hr (by rw[Ey];omega)) NW YO YP eA eB _ _ hsA hsB (by rw[Ey];omega) (rowAt.fz hrv (ag2 _)) (rowAt.fz hrv (afJ _))
  have hr1:=vE hr
  obtain⟨s1,s2,s3,s4,s5,s6⟩:=eo hr1 (us.drop (k*10)) ((k+1)*10) (by rw[Ey,afX];omega)
  obtain⟨t1,t2,t3,t4,t5,t6⟩:=eo s6 uv (k*10) (by
   have:(bp (us++rest) ((k+1)*10) (us.drop (k*10))).length=L.cap*10:=by
    unfold bp;simp only[afK,af2,afX]at Ey ⊢;omega
   rw[this];omega)
  rw[JT us rest uv k (by omega) Rl (by omega)]at t6
  obtain⟨X',g1,g2,g3,g4,g5,g6⟩:=Ce hS hb hL (Nat.le_succ _) (t1.trans s1) (λq hq=>(t2 q hq).trans (s2 q hq)) (t3.trans s3) (t4.trans s4) (t5.trans s5) t6 hA
   (by simp only[afK,af2,afX]at Ey ⊢;omega) aaT
  exact wv (X':=X') (by rw[g1];exact Ex) ⟨g2,g3,g5,g4,by rw[g6,g1,t1,s1];exact hB⟩ fs
theorem X_{σ:Nat->FuncId}(hσ:σ gk=47):D1 Tryz.prog σ ub:=by
 intro f args H r H' hp
 unfold ub at hp
 split at hp
 case isFalse=>cases hp
 rename_i hf
 subst hf
 simp only[At]at hp
 rw[hσ]
 refine⟨Ju,λX us kind cs hX hS hB hA hk hki=>?_⟩
 have hkn:kind=.normal:=hki.resolve_right λh=>h rfl
 subst hkn
 subst hX
 unfold Jt at hp
 split at hp
 case h_2=>cases hp
 rename_i x i y
 obtain⟨ux,hA⟩:∃ux Hg,us=ux::Hg/\VR σ X (.c x) ux/\A2 (VR σ X) [.c (.f (.int .i64 i)),.c y] Hg:=by
  match us,hA with
  |[],h=>have:=h.len;simp at this
  |ux::Hg,h=>exact⟨ux,Hg,rfl,h.of_cons.1,h.of_cons.2⟩
 obtain⟨us1,rfl,hx,hA⟩:=hA
 obtain⟨ui,hA⟩:∃ui Hg,us1=ui::Hg/\VR σ X (.c (.f (.int .i64 i))) ui/\A2 (VR σ X) [.c y] Hg:=by
  match us1,hA with
  |[],h=>have:=h.len;simp at this
  |ux::Hg,h=>exact⟨ux,Hg,rfl,h.of_cons.1,h.of_cons.2⟩
 obtain⟨us2,rfl,hi,hA⟩:=hA
 obtain⟨uy,rfl,hy⟩:∃uy,us2=[uy]/\VR σ X (.c y) uy:=by
  match us2,hA with
  |[],h=>have:=h.len;simp at this
  |[ux],h=>exact⟨ux,rfl,h.of_cons.1⟩
  |_::_::_,h=>have:=h.len;simp at this
 have:=VR.int hi
 subst this
 have hul:([ux,.int .i64 i,uy]:List Value).toArray=#[ux,.int .i64 i,uy]:=rfl
 rw[hul]
 split at hp
 case h_2=>cases hp
 rename_i n ys hn adO
 obtain⟨ax,cx,hux⟩:=kd hx hn
 subst hux
 obtain⟨ay,cy,huy⟩:=kd hy (Iw adO)
 subst huy
 split at hp
 .rename_i YS
  subst YS
  obtain⟨u,X',h1,h2⟩:=Ys hS hB hx hy hp
  exact wv (Rs _ _ _ _ _ _ _ _ h1) h2 cs
 .rename_i YS
  exact Pw hS hB hx hy hn YS hp cs
end Go.Proofs.YtnaofdffomdmhaaGreat
end
