/-
  as9.Insert: atV it atK in ta model, and as_ ta small machine may take it so.
-/
import Derived.Test.YtnaofdffomdmhaaGreatProg
import Derived.WalkKit
import Derived.WalkSpells
import Derived.Shelf.Spec.SlicesInsertGrow
import Derived.Test.YtnaofdffomdmhaaGreatK5
open List renaming length_drop → auf, getElem?_drop → auj, mem_of_mem_drop → au0, getElem?_eq_getElem → asZ, length_take → aur, getElem?_eq_some_iff → atu, length_append → at6, drop_drop → ava, append_assoc → auL, take_append_of_le_length → auw, getElem?_eq_none → avc, append_nil → auR
open Nat renaming zero_add → auH, zero_le → avp, lt_or_ge → auK, le_refl → at3
open Option.some renaming injEq → At
open Prod.mk renaming injEq → at1
set_option linter.unusedVariables false
set_option linter.unusedSimpArgs false
set_option linter.unusedSectionVars false
section
set_option linter.unusedVariables false
set_option linter.unusedSimpArgs false
namespace Go.Proofs.YtnaofdffomdmhaaGreat
open Go Go.Shelf Go.RowKit Go.Lib
theorem nN{P:Program}(w:World)(dT sT ty elem:TypeId)(b o aqt asH:Nat)(a:Addr)(arp as7 size k:Nat)(cs:List Value)
  (hu:P.underlying dT=some (.slice elem)) (hs:(P.info? elem).map (·.size)=some size) (hk:k=Nat.min arp aqt) (hn:cs.length=k*size)
  (asW:∀ j v,cs[j]?=some v→w.cell? (a.add j)=some v) (hc:∀ j,j<cs.length→(w.cell? ⟨b,o+j,none⟩).isSome=true) (hf:∀ j,j<cs.length→w.frozen? ⟨b,o+j,none⟩=false) (h1:∀ v ∈ cs,v.oneCell'=true) :
  (Builtin.copy_ #[dT,sT] ty #[.slice (some ⟨b,o,none⟩) aqt asH,.slice (some a) arp as7]).run P w=.ok (goInt k) (w.setCells b o cs):=by
 have hl:=run_loadCells_list (P:=P) w a cs asW
 have hst:=run_storeCells_cells (P:=P) b o cs 0 w (by simpa using hc) (by simpa using hf) h1
 cases hq:P.info? elem with
 | none=>simp [hq]at hs
 | some i=>
  have hi:i.size=size:=by simpa [hq]using hs
  rw [hn]at hl
  simp [Builtin.copy_,run_underlying hu,Builtin.lenOf,Builtin.firstCells,sizeOf,typeInfo,hq,hi,←hk,hl,hst]
set_option maxHeartbeats 4000000 in
set_option maxRecDepth 100000 in
theorem P3(b n c i vb vc:Nat)(cs vs:List Value)(w:World)(hi:i<n)(yS:n+1≤c)(asN:n≤1000000)(hvb:vb≠b)
  (hcl:cs.length=n*10) (hvl:vs.length=10)
  (hcs:∀ j v,cs[j]?=some v→w.cell? ⟨b,j,none⟩=some v) (hsp:∀ j,j<(n+1)*10→(w.cell? ⟨b,j,none⟩).isSome=true) (hfz:∀ j,j<(n+1)*10→w.frozen? ⟨b,j,none⟩=false)
  (hvs:∀ j v,vs[j]?=some v→w.cell? ⟨vb,j,none⟩=some v) (h1c:∀ v ∈ cs,v.oneCell'=true) (h1v:∀ v ∈ vs,v.oneCell'=true)
  (tA tB:TypeId) (kA kB:Nat) (hsa:w.shape? vb=some (tA,kA)) (hsb:w.shape? b=some (tB,kB)) (hkB:kB≠0) (hfa:w.frozen? ⟨vb,0,none⟩=false) (hfe:w.frozen? ⟨vb,kA,none⟩=false) :
  Calls Tryz.prog 47 #[.slice (some ⟨b,0,none⟩) n c,.int .i64 i,.slice (some ⟨vb,0,none⟩) 1 vc] w fun e w'=>
   e=.returned (.slice (some ⟨b,0,none⟩) (n+1) c)∧w'=(w.drew.setCells b ((i+1)*10) (cs.drop (i*10))).setCells b (i*10) vs:=by
 have mixed:Tryz.prog.follows .mixedOrders=true:=by kernel_rfl
 have hz2:¬ ((i:Int)=(n:Int)):=by omega
 have nY:(Tryz.prog.info? 50).map (·.size)=some 10:=by kernel_rfl
 have hu:Tryz.prog.underlying 32=some (.slice 50):=by kernel_rfl
 have hov:∀ lb cb,(callFunc 85 #[.slice (some ⟨vb,0,none⟩) 1 vc,.slice (some ⟨b,(i+1)*10,none⟩) lb cb]).run Tryz.prog w=.ok (.value (.bool false)) w:=fun lb cb=>by
  rw [run_callFunc_extern Tryz.func85 (by kernel_rfl) (by kernel_rfl) (by kernel_rfl) (e:=Extern.SlicesOverlaps.overlaps #[32,32] #[4]) (by kernel_rfl),
   Lib.run_overlaps_apart w 32 4 50 hu 10 (by intro w';cases hq:Tryz.prog.info? 50 with
    | none=>rw [hq]at nY;cases nY
    | some q=>rw [hq]at nY;simp at nY;simp [sizeOf,typeInfo,hq,nY]) ⟨vb,0,none⟩ ⟨b,(i+1)*10,none⟩ 1 vc lb cb hvb tA tB kA kB hsa hsb hkB hfa hfe]
  rfl
 have hdl:(cs.drop (i*10)).length=(n-i)*10:=by rw [auf,hcl];omega
 have hw1:IntKind.i64.wrap ((i:Int)+(1:Int))=(i:Int)+(1:Int):=by rw [IntKind.wrap_i64];omega
 have hw2:IntKind.i64.wrap ((n:Int)+(1:Int))=(n:Int)+(1:Int):=by rw [IntKind.wrap_i64];omega
 have hb1:(0:Int)≤(i:Int)+(1:Int):=by omega
 have hin:i≤n:=by omega
 have htn:((i:Int)+(1:Int)).toNat=i+1:=by omega
 have atP:((n:Int)+(1:Int)).toNat=n+1:=by omega
 have hb2:¬ (c=i+1):=by omega
 have hb3:(i:Int)≤(n:Int)+(1:Int):=by omega
 have hb4:¬ (c=i):=by omega
 have aqG:∀ ty dc sc,(Builtin.copy_ #[32,32] ty #[.slice (some ⟨b,(i+1)*10,none⟩) (n-i) dc,.slice (some ⟨b,i*10,none⟩) (n+1-i) sc]).run Tryz.prog w.drew=.ok (goInt (n-i:Nat)) (w.drew.setCells b ((i+1)*10) (cs.drop (i*10))):=fun ty dc sc=>
  nN w.drew _ _ ty 50 b ((i+1)*10) (n-i) dc ⟨b,i*10,none⟩ (n+1-i) sc 10 (n-i) (cs.drop (i*10)) hu nY (by simp only [Nat.min_def];split<;>omega) hdl
   (fun j v hj=>by rw [Addr.add_lit];exact hcs (i*10+j) v (by rwa [auj]at hj))
   (fun j hj=>hsp _ (by rw [hdl]at hj;omega)) (fun j hj=>hfz _ (by rw [hdl]at hj;omega)) (fun v hv=>h1c v (au0 hv))
 obtain⟨W1,QV⟩:∃ W1,W1=w.drew.setCells b ((i+1)*10) (cs.drop (i*10)):=⟨_,rfl⟩
 have asV:∀ k,k<(n+1)*10→(W1.cell? ⟨b,k,none⟩).isSome=true:=fun k hk=>by
  rw [QV]
  exact isSome_setCells b (cs.drop (i*10)) ((i+1)*10) w.drew (fun j hj=>hsp _ (by rw [hdl]at hj;omega)) k (hsp k hk)
 have asP:∀(W:World),(∀ x,W.cell? x=W1.cell? x)→(∀ x,W.frozen? x=W1.frozen? x)→∀ ty dc,(Builtin.copy_ #[32,32] ty #[.slice (some ⟨b,i*10,none⟩) (n+1-i) dc,.slice (some ⟨vb,0,none⟩) 1 vc]).run Tryz.prog W=.ok (goInt (1:Nat)) (W.setCells b (i*10) vs):=fun W hWc hWf ty dc=>
  nN W 32 32 ty 50 b (i*10) (n+1-i) dc ⟨vb,0,none⟩ 1 vc 10 1 vs hu nY (by simp only [Nat.min_def];split<;>omega) (by omega)
   (fun j v hj=>by
    rw [Addr.add_lit,hWc,QV,World.cell?_setCells_out b _ _ _ _ (fun h _=>absurd h hvb),auH]
    exact hvs j v hj)
   (fun j hj=>by rw [hvl]at hj;rw [hWc];exact asV _ (by omega)) (fun j hj=>by rw [hvl]at hj;rw [hWf,QV,World.frozen?_setCells];exact hfz _ (by omega)) h1v
 rw [←QV]at aqG
 go_enter Tryz.func47,Tryz.ntmps47
 go_wp2_with (simp only [hov])
 go_region_law_o (refine step_copy_runI rfl _ _ 32 32 rfl _ _ (by simp [Act.eval,Act.put]) (by simp [Act.eval,Act.put]) (aqG _ _ _) ?_)
 go_wp2_with (at_builtin;refine wpList_copy_runI _ rfl _ _ 32 32 rfl _ _ rfl rfl (asP _ (fun _=>rfl) (fun _=>rfl) _ _) ?_)
 go_ret
 first | exact⟨rfl,rfl⟩ | exact⟨rfl,by rw [QV]⟩
end Go.Proofs.YtnaofdffomdmhaaGreat
end
section
set_option linter.unusedVariables false
set_option linter.unusedSimpArgs false
namespace Go.Proofs.YtnaofdffomdmhaaGreat
open Go Go.Shelf Go.RowKit Go.Lib
def xk:Value:=.agg #[.int .i64 0,.int .i64 0,.int .i64 0,.int .i64 0,.int .i64 0,.int .i64 0,.int .i64 0,.slice none 0 0,.int .i64 0,.slice none 0 0]
theorem anG:(Tryz.prog.info? 50).map (fun i=>(i.zero,i.size,i.bytes))=some (some xk,10,112):=by kernel_rfl
theorem QU(k:Nat):(Builtin.zeroCells xk.cells k).size=k*10:=by simp [Builtin.zeroCells,xk,Value.cells]
set_option maxHeartbeats 4000000 in
set_option maxRecDepth 100000 in
theorem ab8(b n c i vb vc:Nat)(cs vs:List Value)(w:World)(hi:i<n)(hnc:n≤c)(yS:c<n+1)(asN:n≤1000000)
  (hcl:cs.length=n*10) (hvl:vs.length=10)
  (hcs:∀ j v,cs[j]?=some v→w.cell? ⟨b,j,none⟩=some v)
  (hvs:∀ j v,vs[j]?=some v→w.cell? ⟨vb,j,none⟩=some v) (h1c:∀ v ∈ cs,v.oneCell'=true) (h1v:∀ v ∈ vs,v.oneCell'=true) :
  ∃(pB:Array Value) (G:Nat),n+1≤G∧pB.size=G*10∧(∀(j:Nat) v,(cs.take (i*10))[j]?=some v→pB[j]?=some v) ∧
  Calls Tryz.prog 47 #[.slice (some ⟨b,0,none⟩) n c,.int .i64 i,.slice (some ⟨vb,0,none⟩) 1 vc] w fun e w'=>
   e=.returned (.slice (some ⟨w.heap.size,0,none⟩) (n+1) G) ∧
   w'=(((w.alloc (.cells pB 50)).drew.setCells w.heap.size (i*10) vs).drew).setCells w.heap.size ((i+1)*10) (cs.drop (i*10)):=by
 have mixed:Tryz.prog.follows .mixedOrders=true:=by kernel_rfl
 have hu:Tryz.prog.underlying 32=some (.slice 50):=by kernel_rfl
 have hu3:Tryz.prog.underlying 3=some (.int .i64):=by kernel_rfl
 obtain⟨i0,hi0,hz0,hzs,hzb⟩:=info_parts anG
 have hz2:¬ ((i:Int)=(n:Int)):=by omega
 have hz3:(c:Int)<(n:Int)+(1:Int):=by omega
 have nY:(Tryz.prog.info? 50).map (·.size)=some 10:=by rw [hi0];simp [hzs]
 have hbw:b<w.heap.size:=block_lt_of_cell (hcs 0 _ (asZ (by omega)))
 have hvw:vb<w.heap.size:=block_lt_of_cell (hvs 0 _ (asZ (by omega)))
 have hkk:(n:Int)+(1:Int)-(i:Int)=((n+1-i:Nat):Int):=by omega
 have hik:i+(n+1-i)=n+1:=by omega
 have htl:(cs.take (i*10)).length=i*10:=by rw [aur];omega
 have hold:(Builtin.firstCells i0.size i (.slice (some ⟨b,0,none⟩) i c)).run Tryz.prog w.drew=.ok (cs.take (i*10)).toArray w.drew:=by
  rw [hzs]
  exact run_firstCells_some w.drew 10 i ⟨b,0,none⟩ i c (cs.take (i*10)) htl (fun j v hj=>by
   rw [Addr.add_lit,auH]
   rw [List.getElem?_take]at hj
   split at hj
   ·exact hcs j v hj
   ·cases hj)
 have hrz:∀ ty,(Builtin.append_ #[32,3] ty #[.slice (some ⟨b,0,none⟩) i c,.int .i64 ((n:Int)+(1:Int)-(i:Int))]).run Tryz.prog w =
   .ok (.slice (some ⟨w.heap.size,0,none⟩) (n+1) (grownCap w (n+1) c 50)) (w.drew.alloc (.cells ((cs.take (i*10)).toArray++Builtin.zeroCells xk.cells (n+1-i)++Builtin.zeroCells xk.cells (grownCap w (n+1) c 50-(n+1))) 50)):=fun ty=>by
  have h:=Lib.run_append_grow_zeros w 32 3 ty 50 i0 _ .i64 .i64 hu hu3 hi0 hz0 (some ⟨b,0,none⟩) i c (cs.take (i*10)) hold (n+1-i) (by omega) (by omega) (by omega) (by omega) (by rw [hzb];omega) (by rw [hzb,hik];exact growslice_fits yS (by omega))
  rw [hik]at h
  rw [hkk]
  exact h
 obtain⟨G,hG⟩:∃ G,G=grownCap w (n+1) c 50:=⟨_,rfl⟩
 have hGn:n+1≤G:=by rw [hG];exact grownCap_ge w _ _ _
 have atM:G≤9223372036854775807:=by
  have:=grownCap_le_maxLen w (n+1) c 50 (by unfold maxLen;omega)
  rw [←hG]at this
  unfold maxLen at this
  omega
 obtain⟨pB,PX⟩:∃ pB:Array Value,pB=(cs.take (i*10)).toArray++Builtin.zeroCells xk.cells (n+1-i)++Builtin.zeroCells xk.cells (G-(n+1)):=⟨_,rfl⟩
 rw [←hG]at hrz
 rw [←PX]at hrz
 have hRs:pB.size=G*10:=by
  rw [PX]
  simp only [Array.size_append,QU,List.size_toArray,htl]
  omega
 have hRg:∀(j:Nat) v,(cs.take (i*10))[j]?=some v→pB[j]?=some v:=fun j v hj=>by
  have hjl:j<(cs.take (i*10)).length:=(atu.1 hj).1
  rw [PX,Array.append_assoc,Array.getElem?_append_left (by simpa using hjl)]
  simpa using hj
 refine⟨pB,G,hGn,hRs,hRg,?_⟩
 obtain⟨W1,QV⟩:∃ W1,W1=w.drew.alloc (.cells pB 50):=⟨_,rfl⟩
 rw [←QV]at hrz
 have hN:∀ j,j<(n+1)*10→(W1.cell? ⟨w.heap.size,j,none⟩).isSome=true:=fun j hj=>by
  rw [QV,World.cell?_alloc_at (w:=w.drew) pB _ w.heap.size j rfl,Array.getElem?_eq_getElem (by omega)];rfl
 have hNf:∀ j,W1.frozen? ⟨w.heap.size,j,none⟩=false:=fun j=>by rw [QV];exact World.frozen?_alloc_at (w:=w.drew) pB _ w.heap.size j rfl
 have hOb:∀ j v,w.cell? ⟨b,j,none⟩=some v→W1.cell? ⟨b,j,none⟩=some v:=fun j v h=>by rw [QV,World.cell?_alloc_past (w:=w.drew) _ b j hbw];exact h
 have hOv:∀ j v,w.cell? ⟨vb,j,none⟩=some v→W1.cell? ⟨vb,j,none⟩=some v:=fun j v h=>by rw [QV,World.cell?_alloc_past (w:=w.drew) _ vb j hvw];exact h
 have asQ:∀(W:World),(∀ x,W.cell? x=W1.cell? x)→(∀ x,W.frozen? x=W1.frozen? x)→∀ ty dc,(Builtin.copy_ #[32,32] ty #[.slice (some ⟨w.heap.size,i*10,none⟩) (n+1-i) dc,.slice (some ⟨vb,0,none⟩) 1 vc]).run Tryz.prog W=.ok (goInt (1:Nat)) (W.setCells w.heap.size (i*10) vs):=fun W hWc hWf ty dc=>
  nN W 32 32 ty 50 w.heap.size (i*10) (n+1-i) dc ⟨vb,0,none⟩ 1 vc 10 1 vs hu nY (by simp only [Nat.min_def];split<;>omega) (by omega)
   (fun j v hj=>by rw [Addr.add_lit,hWc,auH];exact hOv _ v (hvs j v hj))
   (fun j hj=>by rw [hvl]at hj;rw [hWc];exact hN _ (by omega)) (fun j hj=>by rw [hWf];exact hNf _) h1v
 have hGi:¬ (G=i):=by omega
 have atN:¬ (G=i+1):=by omega
 have hci:¬ (c=i):=by omega
 have hbN:b≠w.heap.size:=by omega
 have hdl:(cs.drop (i*10)).length=(n-i)*10:=by rw [auf,hcl];omega
 have aqH:∀(W:World),(∀ x,W.cell? x=(W1.setCells w.heap.size (i*10) vs).cell? x)→(∀ x,W.frozen? x=(W1.setCells w.heap.size (i*10) vs).frozen? x)→∀ ty dc sc,(Builtin.copy_ #[32,32] ty #[.slice (some ⟨w.heap.size,(i+1)*10,none⟩) (n-i) dc,.slice (some ⟨b,i*10,none⟩) (n-i) sc]).run Tryz.prog W=.ok (goInt (n-i:Nat)) (W.setCells w.heap.size ((i+1)*10) (cs.drop (i*10))):=fun W hWc hWf ty dc sc=>
  nN W 32 32 ty 50 w.heap.size ((i+1)*10) (n-i) dc ⟨b,i*10,none⟩ (n-i) sc 10 (n-i) (cs.drop (i*10)) hu nY (by simp only [Nat.min_def];split<;>omega) hdl
   (fun j v hj=>by
    rw [Addr.add_lit,hWc,World.cell?_setCells_out _ _ _ _ _ (fun h _=>absurd h hbN)]
    exact hOb _ v (hcs (i*10+j) v (by rwa [auj]at hj)))
   (fun j hj=>by rw [hdl]at hj;rw [hWc];exact isSome_setCells _ vs (i*10) W1 (fun t ht=>hN _ (by rw [hvl]at ht;omega)) _ (hN _ (by omega)))
   (fun j hj=>by rw [hWf,World.frozen?_setCells];exact hNf _) (fun v hv=>h1c v (au0 hv))
 subst QV
 have hE1:∀ x,((w.alloc (.cells pB 50)).drew).cell? x=(w.drew.alloc (.cells pB 50)).cell? x:=fun x=>rfl
 have hE2:∀ x,((w.alloc (.cells pB 50)).drew).frozen? x=(w.drew.alloc (.cells pB 50)).frozen? x:=fun x=>rfl
 have hF1:∀ x,(((w.alloc (.cells pB 50)).drew.setCells w.heap.size (i*10) vs).drew).cell? x=((w.drew.alloc (.cells pB 50)).setCells w.heap.size (i*10) vs).cell? x:=fun x=>rfl
 have hF2:∀ x,(((w.alloc (.cells pB 50)).drew.setCells w.heap.size (i*10) vs).drew).frozen? x=((w.drew.alloc (.cells pB 50)).setCells w.heap.size (i*10) vs).frozen? x:=fun x=>rfl
 have hw1:IntKind.i64.wrap ((i:Int)+(1:Int))=(i:Int)+(1:Int):=by rw [IntKind.wrap_i64];omega
 have hw2:IntKind.i64.wrap ((n:Int)+(1:Int))=(n:Int)+(1:Int):=by rw [IntKind.wrap_i64];omega
 have hw3:IntKind.i64.wrap ((n:Int)+(1:Int)-(i:Int))=(n:Int)+(1:Int)-(i:Int):=by rw [IntKind.wrap_i64];omega
 have hb1:(0:Int)≤(i:Int)+(1:Int):=by omega
 have hin:i≤n:=by omega
 have htn:((i:Int)+(1:Int)).toNat=i+1:=by omega
 have hb3:(i:Int)≤(n:Int):=by omega
 have hb4:(i:Int)≤(n:Int)+1:=by omega
 clear hkk hik hold PX hG
 go_enter Tryz.func47,Tryz.ntmps47
 go_wp2_with (first
  | (at_builtin;refine Lib.wpList_append_run _ rfl _ _ _ _ rfl _ _ rfl rfl _ _ (hrz _) ?_)
  | (at_builtin;refine wpList_copy_runI _ rfl _ _ 32 32 rfl _ _ rfl rfl (asQ _ hE1 hE2 _ _) ?_)
  | (at_builtin;refine wpList_copy_runI _ rfl _ _ 32 32 rfl _ _ rfl rfl (aqH _ (fun _=>rfl) (fun _=>rfl) _ _ _) ?_))
 go_region_law_o (refine step_copy_runI rfl _ _ 32 32 rfl (.slice (some ⟨w.heap.size,(i+1)*10,none⟩) (n-i) (G-(i+1))) (.slice (some ⟨b,i*10,none⟩) (n-i) (c-i)) (by simp [Act.eval,Act.put]) (by simp [Act.eval,Act.put]) (aqH _ hF1 hF2 3 (G-(i+1)) (c-i)) ?_)
 go_wp2
 go_ret
 exact⟨rfl,rfl⟩
set_option maxHeartbeats 4000000 in
set_option maxRecDepth 100000 in
theorem ai7(a a2:Option Addr)(n c c2:Nat)(w w':World)(u:Value)(hr:(Builtin.append_ #[32,32] 32 #[.slice a n c,.slice a2 1 c2]).run Tryz.prog w=.ok u w') :
  Calls Tryz.prog 47 #[.slice a n c,.int .i64 n,.slice a2 1 c2] w fun e w''=>e=.returned u∧w''=w':=by
 have mixed:Tryz.prog.follows .mixedOrders=true:=by kernel_rfl
 go_enter Tryz.func47,Tryz.ntmps47
 go_wp2_with (at_builtin;refine Lib.wpList_append_run _ rfl _ _ _ _ rfl _ _ rfl rfl _ _ hr ?_)
 all_goals go_ret
 all_goals exact⟨rfl,rfl⟩
end Go.Proofs.YtnaofdffomdmhaaGreat
end
section
set_option linter.unusedVariables false
set_option linter.unusedSimpArgs false
namespace Go.Proofs.YtnaofdffomdmhaaGreat
open Go Km
theorem B'{Q:Program}{σ:Nat→FuncId}{X:Wd}(hS:SR Q σ X){b:Nat}{cs cs':List C}{e e2:Nat}{L:Km.Loc}(hb:X.H[b]?=some (.b5 10 cs 0 e .loc))(hL:X.cB b=some L)(he:e≤e2)
  {w':World} (hs:w'.heap.size=X.w.heap.size) (hw:∀ k,k≠L.c→w'.heap[k]?=X.w.heap[k]?) (ho:w'.os=X.w.os) (ht:w'.tape=X.w.tape) (hu:w'.output=X.w.output)
  {G1 acY:List Value} (hr:Km.rowAt w' L.c (G1++acY)) (hA:A2 (CR σ X) cs' G1) (hl:(G1++acY).length=L.cap*10) {n:Nat} (hn:cs'.length=n*10) :
  ∃ X',X'.w=w'∧X'.H=X.H.set b (.b5 10 cs' 0 e2 .loc)∧SR Q σ X'∧Ext X.H.length X X'∧VR σ X' (.c (.sl b 0 n 0 e2 10)) (.slice (some ⟨L.c,0,none⟩) n L.cap)∧X'.B=X.B:=by
 obtain⟨_,_,bq,hb',hbr⟩:=hS.br b L hL
 rw [hb]at hb';simp only [At]at hb';subst hb'
 obtain⟨_,us,rest,hr0,h2,h6,h7,h8,h3⟩:=hbr
 have hlt:b<X.H.length:=(atu.1 hb).1
 obtain⟨h4,h5⟩:=SR.adQ hS (blk':=.b5 10 cs' 0 e2 .loc) hb hL hs hw (fun i hf=>absurd hf (h3 i (avp _))) ho ht hu
  (fun bq anB=>⟨.b5 10 cs' 0 e2 .loc,by simp [hlt],by
   rw [hb]at anB;simp only [At]at anB;subst anB
   refine⟨rfl,?_⟩
   rcases auK e e2 with h | h
   ·exact .inr ⟨h,rfl,L,hL⟩
   ·exact .inl ⟨by omega,rfl,fun L' h'=>h'⟩⟩)
  (fun hx'=>⟨rfl,G1,acY,hr,A2.ext' σ hx' hA,hl,h7,⟨n,hn⟩,h3⟩)
 refine⟨_,rfl,rfl,h4,h5,?_,rfl⟩
 have asT:(X.H.set b (.b5 10 cs' 0 e2 .loc))[b]?=some (.b5 10 cs' 0 e2 .loc):=by simp [hlt]
 have hle:n≤L.cap:=by
  have:=hA.len
  rw [at6]at hl
  omega
 simp only [VR,hZ,CR,fj,asT]
 exact⟨at3 _,fun _ _=>⟨L,hL,0,by omega,by omega,by simp⟩,_,_,_,rfl⟩
theorem Qr{α:Type}(us rest vs:List α)(i:Nat)(hi:i*10≤us.length)(hv:vs.length=10)(hr:10≤rest.length) :
  bp (bp (us++rest) ((i+1)*10) (us.drop (i*10))) (i*10) vs=(us.take (i*10)++vs++us.drop (i*10))++rest.drop 10:=by
 have h1:bp (us++rest) ((i+1)*10) (us.drop (i*10))=((us++rest).take ((i+1)*10))++us.drop (i*10)++rest.drop 10:=by
  unfold bp
  congr 1
  rw [auf,show(i+1)*10+(us.length-i*10)=us.length+10 by omega,←ava,List.drop_left']
  rfl
 rw [h1]
 unfold bp
 have hl:((us++rest).take ((i+1)*10)).length=(i+1)*10:=by rw [aur,at6];omega
 have e1:(List.take ((i+1)*10) (us++rest)++us.drop (i*10)++rest.drop 10).take (i*10)=us.take (i*10):=by
  rw [auL,auw (by omega),List.take_take,auw (by omega),show min (i*10) ((i+1)*10)=i*10 by omega]
 have e2:(List.take ((i+1)*10) (us++rest)++us.drop (i*10)++rest.drop 10).drop (i*10+vs.length)=us.drop (i*10)++rest.drop 10:=by
  rw [hv,auL,List.drop_left' (by rw [hl];omega)]
 rw [e1,e2]
 simp
theorem EH{α:Type}(us rest vs:List α)(i:Nat)(hi:i*10≤us.length)(hv:vs.length=10)(hr:us.length+10≤i*10+rest.length) :
  bp (bp (us.take (i*10)++rest) (i*10) vs) ((i+1)*10) (us.drop (i*10))=(us.take (i*10)++vs++us.drop (i*10))++rest.drop (10+(us.length-i*10)):=by
 have hl:(us.take (i*10)).length=i*10:=by rw [aur];omega
 have h1:=wu (us.take (i*10)) rest vs (by omega)
 rw [hl]at h1
 rw [h1]
 have hl2:(us.take (i*10)++vs).length=(i+1)*10:=by rw [at6,hl,hv];omega
 have h2:=wu (us.take (i*10)++vs) (rest.drop vs.length) (us.drop (i*10)) (by rw [auf,auf];omega)
 rw [hl2]at h2
 rw [h2,ava,auf,hv]
theorem P2(vs:Array Value)(w:World):(callFunc 47 vs).run Tryz.prog w=.ok (.enter 47 vs) w:=by
 have hn:(Tryz.f47.name == "runtime.NumGoroutine")=false:=by kernel_rfl
 have hb:Tryz.f47.body.isSome=true:=by kernel_rfl
 obtain⟨c,hc⟩:=Option.isSome_iff_exists.1 hb
 exact qB Tryz.func47 (by simpa using hn) hc vs w
theorem wj{σ:Nat→FuncId}{X X':Wd}{us:Array Value}{u:Value}{r:V}{H':aj}(h:Calls Tryz.prog 47 us X.w fun e w'=>e=.returned u∧w'=X'.w)(hp:Km.eY Tryz.prog σ X r H' X' u)(cs:List Frame) :
  ∃ fr X' u,Steps Tryz.prog (lone (Frame.enter Tryz.prog 47 us .normal) cs X.w) (lone fr cs X'.w)∧Km.Leaves Tryz.prog 47 .normal fr u X'.w∧Km.eY Tryz.prog σ X r H' X' u:=by
 obtain⟨e,w',fr,⟨rfl,rfl⟩,h1,h2,hm,hd,hk,fn,hf,hr⟩:=h cs
 exact⟨fr,X',u,h1,⟨hm,hd,hk,h2,fn,by rw [←h2];exact hf,hr⟩,hp⟩
theorem vn{w:World}{c:Nat}{us:List Value}(h:Km.rowAt w c us):Km.rowAt w.drew c us:=h
theorem O6{H:aj}{y:C}{m:Nat}{ys:List C}(h:cV H 10 (.c y)=some (m,ys)):bA H y=some m:=by
 unfold cV at h
 split at h
 ·simp at h
 ·rename_i x hne heq
  cases heq
  split at h
  ·rename_i l cs hl hcs
   simp only [At,at1]at h
   rw [←h.1];exact hl
  ·cases h
 ·cases h
def adO:Oper:={ dst:=none,op:=.call { callee:=.builtin .append,args:=#[.tmp 0,.tmp 1],argTypes:=#[32,32] },type:=32,pos:= "",after:=#[],guard:=none }
theorem arx(σ:Nat→FuncId):dP Tryz.prog σ adO (.append 10 112 (.r .h) (.r (.o .h)))=true:=by kernel_rfl
set_option maxRecDepth 100000 in
theorem aoG{σ:Nat→FuncId}{X:Wd}(hS:SR Tryz.prog σ X)(hB:X.B≤X.w.heap.size){x y:C}{ux uy:Value}(hx:VR σ X (.c x) ux)(hy:VR σ X (.c y) uy){r:V}{H':aj}(hp:cG X.H 10 112 (.c x) (.c y)=some (r,H')) :
  ∃ u X',(Builtin.append_ #[32,32] 32 #[ux,uy]).run Tryz.prog X.w=.ok u X'.w∧Km.eY Tryz.prog σ X r H' X' u:=by
 let a:Act:={ tmps:=#[ux,uy],defers:=[] }
 have hR:RR σ X (.n (.n .e (.c y) .e) (.c x) .e) a.tmps:=fun p=>by
  match p with
  | .h=>exact hx
  | .o .h=>exact hy
  | .o (.o _)=>trivial
  | .o (.i _)=>trivial
  | .i _=>trivial
 obtain⟨u,X',h1,h2,h3,h4,h5,h6⟩:=yv hS hB hR (arx σ) (v:=r) (H':=H') hp
 refine⟨u,X',?_,h2,h3,h4,h5,h6⟩
 have he:(execOp a.eval adO).run Tryz.prog X.w=((Builtin.append_ #[32,32] 32 #[ux,uy]).run Tryz.prog X.w).andThen fun v w'=>.ok (.value v) w':=by
  refine dw (b:=.append) rfl rfl fun cs=>?_
  simp [builtin,adO,a,Act.eval]
 rw [he]at h1
 cases hq:(Builtin.append_ #[32,32] 32 #[ux,uy]).run Tryz.prog X.w with
 | ok v w'=>
  rw [hq]at h1
  simp only [Result.andThen_ok]at h1
  rcases h1 with h1 | ⟨h1,-⟩
  ·injection h1 with e1 e2
   injection e1 with e1
   rw [e1,e2]
  ·injection h1 with e1 e2
   cases e1
 | _=>rw [hq]at h1;rcases h1 with h1 | ⟨h1,-⟩<;>cases h1
theorem rowAt.shape{w:World}{c:Nat}{us:List Value}(h:Km.rowAt w c us):∃ e,w.shape? c=some (e,us.length):=by
 obtain⟨e,fr,h1,_⟩:=h
 exact⟨e,by simp [World.shape?,h1]⟩
theorem rowAt.fz{w:World}{c:Nat}{us:List Value}(h:Km.rowAt w c us){i:Nat}(hi:i≤us.length):w.frozen? ⟨c,i,none⟩=false:=by
 obtain⟨e,fr,h1,h2⟩:=h
 have:=h2 i hi
 simp only [World.frozen?,h1]
 simp only [Bool.and_eq_false_iff,decide_eq_false_iff_not]
 omega
theorem adi{σ:Nat→FuncId}{X:Wd}(hS:SR Tryz.prog σ X)(hB:X.B≤X.w.heap.size){x y:C}{i:Int}{n:Nat}{ax ay:Option Addr}{cx cy:Nat}(hx:VR σ X (.c x) (.slice ax n cx))(hy:VR σ X (.c y) (.slice ay 1 cy))(hn:bA X.H x=some n)(hin:i≠n)
  {r:V} {H':aj} (hp:AI X.H x i y=some (r,H')) (fs:List Frame) :
  ∃ fr X' u,Steps Tryz.prog (lone (Frame.enter Tryz.prog 47 #[.slice ax n cx,.int .i64 i,.slice ay 1 cy] .normal) fs X.w) (lone fr fs X'.w)∧Km.Leaves Tryz.prog 47 .normal fr u X'.w∧Km.eY Tryz.prog σ X r H' X' u:=by
 unfold AI at hp
 split at hp
 case h_2=>cases hp
 rename_i b o l c0 ep s vb vo vc ve vs0
 split at hp
 case h_2=>cases hp
 rename_i s' cs fl e vs vfl hb hvb
 split at hp
 case isFalse=>cases hp
 rename_i aqF
 obtain⟨rfl,rfl,rfl,rfl,rfl,hcl,rfl,hi0,hil,hl6,hvl⟩:=aqF
 simp only [At,at1]at hp
 obtain⟨rfl,rfl⟩:=hp
 obtain⟨k,rfl⟩:∃ k:Nat,i=k:=⟨i.toNat,by omega⟩
 have hkl:k<l:=by omega
 simp only [VR,hZ,CR,fj,hb]at hx
 obtain⟨-,hx2,-⟩:=hx
 obtain⟨L,hL,k0,hk0,hk1,hux⟩:=hx2 trivial trivial
 have asR:k0=0:=by omega
 subst asR
 simp only [Value.slice.injEq,Nat.sub_zero]at hux
 obtain⟨rfl,rfl,rfl⟩:=hux
 simp only [VR,hZ,CR,fj,hvb]at hy
 obtain⟨Lv,hLv,hvc,huy⟩:=hy
 simp only [Value.slice.injEq]at huy
 obtain⟨rfl,-,rfl⟩:=huy
 obtain⟨hLB,hLs,bq,hb',hbr⟩:=hS.br b L hL
 rw [hb]at hb';simp only [At]at hb';subst hb'
 obtain⟨_,us,rest,hr,h2,h6,h7,h8,h3⟩:=hbr
 obtain⟨hvB,hvs,bq,hb',hbr⟩:=hS.br vb Lv hLv
 rw [hvb]at hb';simp only [At]at hb';subst hb'
 obtain⟨uv,hrv,hv2,_⟩:=hbr
 have hne:Lv.c≠L.c:=fun h=>by
  have:=hS.inj _ _ _ _ hLv hL h
  subst this
  rw [hb]at hvb
  cases hvb
 have hul:us.length=n*10:=by rw [←h2.len];exact hcl
 have ai2:uv.length=10:=by rw [←hv2.len];exact hvl
 have hrl:(us++rest).length=us.length+rest.length:=at6
 have ak1:∀ j v,us[j]?=some v→X.w.cell? ⟨L.c,j,none⟩=some v:=fun j v hj=>by
  rw [dt hr,List.getElem?_append_left (atu.1 hj).1];exact hj
 have abX:∀ j v,uv[j]?=some v→X.w.cell? ⟨Lv.c,j,none⟩=some v:=fun j v hj=>by rw [dt hrv];exact hj
 have h1c:∀ v ∈ us,v.oneCell'=true:=fun v hv=>A2.one h2 v hv
 have h1v:∀ v ∈ uv,v.oneCell'=true:=fun v hv=>A2.one hv2 v hv
 have hA:A2 (CR σ X) (cs.take (k*10)++vs++cs.drop (k*10)) (us.take (k*10)++uv++us.drop (k*10)):=((h2.take _).append hv2).append (h2.drop _)
 have aqE:(cs.take (k*10)++vs++cs.drop (k*10)).length=(n+1)*10:=by
  simp only [at6,aur,auf,hcl,hvl];omega
 have htn:((k:Int)).toNat=k:=by simp
 rw [htn]
 rcases auK L.cap (n+1)with yS | yS
 ·
  obtain⟨pB,G,hG,hRs,hRg,D6⟩:=ab8 L.c n L.cap k Lv.c cy us uv X.w hkl (by omega) yS hl6 hul ai2 ak1 abX h1c h1v
  have htl:(us.take (k*10)).length=k*10:=by rw [aur];omega
  have PX:pB.toList=us.take (k*10)++pB.toList.drop (k*10):=by
   have:pB.toList.take (k*10)=us.take (k*10):=by
    apply List.ext_getElem?
    intro j
    by_cases hj:j<k*10
    ·rw [List.getElem?_take_of_lt hj,Array.getElem?_toList,hRg j _ (asZ (by omega)),asZ (by omega)]
    ·rw [avc (by rw [aur];omega),avc (by omega)]
   rw [←this,List.take_append_drop]
  have ab1:(pB.toList.drop (k*10)).length=(G-k)*10:=by rw [auf,Array.length_toList,hRs];omega
  have ak0:dW X.w (X.w.alloc (.cells pB 50)) (.cells (us.take (k*10)++[]++pB.toList.drop (k*10)).toArray 50):=by
   rw [auR,←PX]
   exact dW.alloc _ _
  obtain⟨X1,g1,g2,g3,g4,g5,g6⟩:=ur hS hB hb (h2.take (k*10)) A2.nil (by decide) (n:=k) (nc:=G) (by simp only [aur,List.length_nil];omega) ab1 (by omega) ak0
  have hb1:X1.H[b]?=some (.b5 10 (cs.take (k*10)++[]) 0 (ep+1) .loc):=by rw [g2];simp [(atu.1 hb).1]
  simp only [VR,hZ,CR,fj,hb1]at g5
  obtain⟨-,g5,-⟩:=g5
  obtain⟨L1,hL1,k1,atO,hk2,aqD⟩:=g5 trivial trivial
  have asS:k1=0:=by omega
  subst asS
  simp only [Value.slice.injEq,At,Addr.mk.injEq,and_true,true_and,Nat.sub_zero]at aqD
  obtain⟨anA,abW⟩:=aqD
  have hr1:Km.rowAt X1.w L1.c (us.take (k*10)++pB.toList.drop (k*10)):=by
   have:=jv ak0
   rw [auR]at this
   rw [g1,←anA];exact this
  obtain⟨s1,s2,s3,s4,s5,s6⟩:=eb (vn hr1) uv (k*10) (by rw [at6,htl,ab1];omega)
  obtain⟨t1,t2,t3,t4,t5,t6⟩:=eb (vn s6) (us.drop (k*10)) ((k+1)*10) (by
   have:(bp (us.take (k*10)++pB.toList.drop (k*10)) (k*10) uv).length=G*10:=by
    unfold bp;simp only [at6,aur,auf,Array.length_toList]at ab1 ⊢;omega
   rw [this,auf];omega)
  rw [EH us _ uv k (by omega) ai2 (by rw [ab1];omega)]at t6
  obtain⟨X',q1,q2,q3,q4,q5,q6⟩:=B' g3 hb1 hL1 (at3 _) (t1.trans s1) (fun q hq=>(t2 q hq).trans (s2 q hq)) (t3.trans s3) (t4.trans s4) (t5.trans s5) t6 (A2.ext' σ g4 hA)
   (by rw [←abW];simp only [at6,aur,auf,Array.length_toList]at ab1 ⊢;omega) aqE
  rw [←abW,←anA]at q5
  refine wj (X':=X') (by rw [q1,g1,←anA];exact D6) ⟨by rw [q2,g2,List.set_set],q3,q5,g4.trans (q4.mono g4.len),by rw [q6,q1];have e1:=t1.trans s1;have e2:X1.w.drew.heap.size=X1.w.heap.size:=rfl;omega⟩ fs
 ·
  obtain⟨eA,hsA⟩:=rowAt.shape hrv
  obtain⟨eB,hsB⟩:=rowAt.shape hr
  have D7:(us++rest).length=L.cap*10:=h6
  have D6:=P3 L.c n L.cap k Lv.c cy us uv X.w hkl yS hl6 hne hul ai2 ak1 (fun j hj=>by
   rw [dt hr,asZ (by rw [D7];omega)];rfl) (fun j hj=>rowAt.fz hr (by rw [D7];omega)) abX h1c h1v eA eB _ _ hsA hsB (by rw [D7];omega) (rowAt.fz hrv (avp _)) (rowAt.fz hrv (at3 _))
  have hr1:=vn hr
  obtain⟨s1,s2,s3,s4,s5,s6⟩:=eb hr1 (us.drop (k*10)) ((k+1)*10) (by rw [D7,auf];omega)
  obtain⟨t1,t2,t3,t4,t5,t6⟩:=eb s6 uv (k*10) (by
   have:(bp (us++rest) ((k+1)*10) (us.drop (k*10))).length=L.cap*10:=by
    unfold bp;simp only [at6,aur,auf]at D7 ⊢;omega
   rw [this];omega)
  rw [Qr us rest uv k (by omega) ai2 (by omega)]at t6
  obtain⟨X',g1,g2,g3,g4,g5,g6⟩:=B' hS hb hL (Nat.le_succ _) (t1.trans s1) (fun q hq=>(t2 q hq).trans (s2 q hq)) (t3.trans s3) (t4.trans s4) (t5.trans s5) t6 hA
   (by simp only [at6,aur,auf]at D7 ⊢;omega) aqE
  exact wj (X':=X') (by rw [g1];exact D6) ⟨g2,g3,g5,g4,by rw [g6,g1,t1,s1];exact hB⟩ fs
theorem aoe{σ:Nat→FuncId}(hσ:σ fo=47):DE Tryz.prog σ sX:=by
 intro f args H r H' hp
 unfold sX at hp
 split at hp
 case isFalse=>cases hp
 rename_i hf
 subst hf
 simp only [At]at hp
 rw [hσ]
 refine⟨P2,fun X us kind cs hX hS hB hA hk hki=>?_⟩
 have hkn:kind=.normal:=hki.resolve_right fun h=>h rfl
 subst hkn
 subst hX
 unfold P1 at hp
 split at hp
 case h_2=>cases hp
 rename_i x i y
 obtain⟨ux,hA⟩:∃ ux G1,us=ux::G1∧VR σ X (.c x) ux∧A2 (VR σ X) [.c (.f (.int .i64 i)),.c y] G1:=by
  match us,hA with
  | [],h=>have:=h.len;simp at this
  | ux::G1,h=>exact⟨ux,G1,rfl,h.of_cons.1,h.of_cons.2⟩
 obtain⟨us1,rfl,hx,hA⟩:=hA
 obtain⟨ui,hA⟩:∃ ui G1,us1=ui::G1∧VR σ X (.c (.f (.int .i64 i))) ui∧A2 (VR σ X) [.c y] G1:=by
  match us1,hA with
  | [],h=>have:=h.len;simp at this
  | ux::G1,h=>exact⟨ux,G1,rfl,h.of_cons.1,h.of_cons.2⟩
 obtain⟨us2,rfl,hi,hA⟩:=hA
 obtain⟨uy,rfl,hy⟩:∃ uy,us2=[uy]∧VR σ X (.c y) uy:=by
  match us2,hA with
  | [],h=>have:=h.len;simp at this
  | [ux],h=>exact⟨ux,rfl,h.of_cons.1⟩
  | _::_::_,h=>have:=h.len;simp at this
 have:=VR.int hi
 subst this
 have hul:([ux,.int .i64 i,uy]:List Value).toArray=#[ux,.int .i64 i,uy]:=rfl
 rw [hul]
 split at hp
 case h_2=>cases hp
 rename_i n ys hn asM
 obtain⟨ax,cx,hux⟩:=iQ hx hn
 subst hux
 obtain⟨ay,cy,huy⟩:=iQ hy (O6 asM)
 subst huy
 split at hp
 ·rename_i hin
  subst hin
  obtain⟨u,X',h1,h2⟩:=aoG hS hB hx hy hp
  exact wj (ai7 _ _ _ _ _ _ _ _ h1) h2 cs
 ·rename_i hin
  exact adi hS hB hx hy hn hin hp cs
end Go.Proofs.YtnaofdffomdmhaaGreat
end
