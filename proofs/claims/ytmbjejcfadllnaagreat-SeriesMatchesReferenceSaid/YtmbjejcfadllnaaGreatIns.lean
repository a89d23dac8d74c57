/-
  slices.Insert of a move: what it aro in the model, and that the small machine may take it so.
-/
import Derived.Test.YtmbjejcfadllnaaGreatProg
import Derived.WalkKit
import Derived.WalkSpells
import Derived.Shelf.Spec.SlicesInsertGrow
import Derived.Test.YtmbjejcfadllnaaGreatK3
open List renaming length_drop → arW, getElem?_drop → arV, mem_of_mem_drop → asW, getElem?_eq_getElem → AT, length_take → asp, getElem?_eq_some_iff → By, length_append → api, drop_drop → asQ, append_assoc → asF, take_append_of_le_length → asy, getElem?_eq_none → asS, append_nil → ast
open Nat renaming zero_add → aso, lt_or_ge → ar9, le_refl → OF
open Option.some renaming injEq → sh
open Prod.mk renaming injEq → IS
set_option linter.unusedVariables false
set_option linter.unusedSimpArgs false
set_option linter.unusedSectionVars false
set_option maxHeartbeats 4000000
set_option maxRecDepth 100000
section
namespace Go.Proofs.YtmbjejcfadllnaaGreat
open Go Go.Shelf Go.RowKit Go.Lib
theorem oB{P:Program}(w:World)(dT sT ty elem:TypeId)(b o alJ apb:Nat)(a:Addr)(an7 aqH size k:Nat)(cs:List Value)
  (hu:P.underlying dT=some (.slice elem)) (hs:(P.info? elem).map (·.size)=some size) (hk:k=Nat.min an7 alJ) (hn:cs.length=k*size)
  (apq:∀ j v,cs[j]?=some v→w.cell? (a.add j)=some v) (hc:∀ j,j<cs.length→(w.cell? ⟨b,o+j,none⟩).isSome=true) (hf:∀ j,j<cs.length→w.frozen? ⟨b,o+j,none⟩=false) (h1:∀ v ∈ cs,v.oneCell'=true) :
  (Builtin.copy_ #[dT,sT] ty #[.slice (some ⟨b,o,none⟩) alJ apb,.slice (some a) an7 aqH]).run P w=.ok (goInt k) (w.setCells b o cs):=by
 have hl:=run_loadCells_list (P:=P) w a cs apq
 have hst:=run_storeCells_cells (P:=P) b o cs 0 w (by simpa using hc) (by simpa using hf) h1
 cases hq:P.info? elem with
 | none=>simp [hq]at hs
 | some i=>
  have hi:i.size=size:=by simpa [hq]using hs
  rw [hn]at hl
  simp [Builtin.copy_,run_underlying hu,Builtin.lenOf,Builtin.firstCells,sizeOf,typeInfo,hq,hi,←hk,hl,hst]
theorem LP(b n c i vb vc:Nat)(cs vs:List Value)(w:World)(hi:i<n)(xG:n+1≤c)(aph:n≤1000000)(hvb:vb≠b)
  (hcl:cs.length=n*5) (hvl:vs.length=5)
  (hcs:∀ j v,cs[j]?=some v→w.cell? ⟨b,j,none⟩=some v) (hsp:∀ j,j<(n+1)*5→(w.cell? ⟨b,j,none⟩).isSome=true) (hfz:∀ j,j<(n+1)*5→w.frozen? ⟨b,j,none⟩=false)
  (hvs:∀ j v,vs[j]?=some v→w.cell? ⟨vb,j,none⟩=some v) (h1c:∀ v ∈ cs,v.oneCell'=true) (h1v:∀ v ∈ vs,v.oneCell'=true)
  (tA tB:TypeId) (kA kB:Nat) (hsa:w.shape? vb=some (tA,kA)) (hsb:w.shape? b=some (tB,kB)) (hkB:kB≠0) (hfa:w.frozen? ⟨vb,0,none⟩=false) (hfe:w.frozen? ⟨vb,kA,none⟩=false) :
  Calls Tryz.prog 55 #[.slice (some ⟨b,0,none⟩) n c,.int .i64 i,.slice (some ⟨vb,0,none⟩) 1 vc] w fun e w'=>
   e=.returned (.slice (some ⟨b,0,none⟩) (n+1) c)∧w'=(w.drew.setCells b ((i+1)*5) (cs.drop (i*5))).setCells b (i*5) vs:=by
 have mixed:Tryz.prog.follows .mixedOrders=true:=by kernel_rfl
 have hz2:¬ ((i:Int)=(n:Int)):=by omega
 have uO:(Tryz.prog.info? 53).map (·.size)=some 5:=by kernel_rfl
 have hu:Tryz.prog.underlying 35=some (.slice 53):=by kernel_rfl
 have hov:∀ lb cb,(callFunc 102 #[.slice (some ⟨vb,0,none⟩) 1 vc,.slice (some ⟨b,(i+1)*5,none⟩) lb cb]).run Tryz.prog w=.ok (.value (.bool false)) w:=fun lb cb=>by
  rw [run_callFunc_extern Tryz.func102 (by kernel_rfl) (by kernel_rfl) (by kernel_rfl) (e:=Extern.SlicesOverlaps.overlaps #[35,35] #[4]) (by kernel_rfl),
   Lib.run_overlaps_apart w 35 4 53 hu 5 (by intro w';cases hq:Tryz.prog.info? 53 with
    | none=>rw [hq]at uO;cases uO
    | some q=>rw [hq]at uO;simp at uO;simp [sizeOf,typeInfo,hq,uO]) ⟨vb,0,none⟩ ⟨b,(i+1)*5,none⟩ 1 vc lb cb hvb tA tB kA kB hsa hsb hkB hfa hfe]
  rfl
 have hdl:(cs.drop (i*5)).length=(n-i)*5:=by rw [arW,hcl];omega
 have hw1:IntKind.i64.wrap ((i:Int)+(1:Int))=(i:Int)+(1:Int):=by rw [IntKind.wrap_i64];omega
 have hw2:IntKind.i64.wrap ((n:Int)+(1:Int))=(n:Int)+(1:Int):=by rw [IntKind.wrap_i64];omega
 have hb1:(0:Int)≤(i:Int)+(1:Int):=by omega
 have hin:i≤n:=by omega
 have htn:((i:Int)+(1:Int)).toNat=i+1:=by omega
 have arv:((n:Int)+(1:Int)).toNat=n+1:=by omega
 have hb2:¬ (c=i+1):=by omega
 have hb3:(i:Int)≤(n:Int)+(1:Int):=by omega
 have hb4:¬ (c=i):=by omega
 have alV:∀ ty dc sc,(Builtin.copy_ #[35,35] ty #[.slice (some ⟨b,(i+1)*5,none⟩) (n-i) dc,.slice (some ⟨b,i*5,none⟩) (n+1-i) sc]).run Tryz.prog w.drew=.ok (goInt (n-i:Nat)) (w.drew.setCells b ((i+1)*5) (cs.drop (i*5))):=fun ty dc sc=>
  oB w.drew _ _ ty 53 b ((i+1)*5) (n-i) dc ⟨b,i*5,none⟩ (n+1-i) sc 5 (n-i) (cs.drop (i*5)) hu uO (by simp only [Nat.min_def];split<;>omega) hdl
   (fun j v hj=>by rw [Addr.add_lit];exact hcs (i*5+j) v (by rwa [arV]at hj))
   (fun j hj=>hsp _ (by rw [hdl]at hj;omega)) (fun j hj=>hfz _ (by rw [hdl]at hj;omega)) (fun v hv=>h1c v (asW hv))
 obtain⟨W1,MN⟩:∃ W1,W1=w.drew.setCells b ((i+1)*5) (cs.drop (i*5)):=⟨_,rfl⟩
 have apo:∀ k,k<(n+1)*5→(W1.cell? ⟨b,k,none⟩).isSome=true:=fun k hk=>by
  rw [MN]
  exact isSome_setCells b (cs.drop (i*5)) ((i+1)*5) w.drew (fun j hj=>hsp _ (by rw [hdl]at hj;omega)) k (hsp k hk)
 have apj:∀(W:World),(∀ x,W.cell? x=W1.cell? x)→(∀ x,W.frozen? x=W1.frozen? x)→∀ ty dc,(Builtin.copy_ #[35,35] ty #[.slice (some ⟨b,i*5,none⟩) (n+1-i) dc,.slice (some ⟨vb,0,none⟩) 1 vc]).run Tryz.prog W=.ok (goInt (1:Nat)) (W.setCells b (i*5) vs):=fun W hWc hWf ty dc=>
  oB W 35 35 ty 53 b (i*5) (n+1-i) dc ⟨vb,0,none⟩ 1 vc 5 1 vs hu uO (by simp only [Nat.min_def];split<;>omega) (by omega)
   (fun j v hj=>by
    rw [Addr.add_lit,hWc,MN,World.cell?_setCells_out b _ _ _ _ (fun h _=>absurd h hvb),aso]
    exact hvs j v hj)
   (fun j hj=>by rw [hvl]at hj;rw [hWc];exact apo _ (by omega)) (fun j hj=>by rw [hvl]at hj;rw [hWf,MN,World.frozen?_setCells];exact hfz _ (by omega)) h1v
 rw [←MN]at alV
 go_enter Tryz.func55,Tryz.ntmps55
 go_wp2_with (simp only [hov])
 go_region_law_o (refine step_copy_runI rfl _ _ 35 35 rfl _ _ (by simp [Act.eval,Act.put]) (by simp [Act.eval,Act.put]) (alV _ _ _) ?_)
 go_wp2_with (at_builtin;refine wpList_copy_runI _ rfl _ _ 35 35 rfl _ _ rfl rfl (apj _ (fun _=>rfl) (fun _=>rfl) _ _) ?_)
 go_ret
 first | exact⟨rfl,rfl⟩ | exact⟨rfl,by rw [MN]⟩
def vN:Value:=.agg #[.int .i64 0,.bool false,.int .i64 0,.int .i64 0,.int .i64 0]
theorem ahY:(Tryz.prog.info? 53).map (fun i=>(i.zero,i.size,i.bytes))=some (some vN,5,40):=by kernel_rfl
theorem ML(k:Nat):(Builtin.zeroCells vN.cells k).size=k*5:=by simp [Builtin.zeroCells,vN,Value.cells]
theorem XO(b n c i vb vc:Nat)(cs vs:List Value)(w:World)(hi:i<n)(hnc:n≤c)(xG:c<n+1)(aph:n≤1000000)
  (hcl:cs.length=n*5) (hvl:vs.length=5)
  (hcs:∀ j v,cs[j]?=some v→w.cell? ⟨b,j,none⟩=some v)
  (hvs:∀ j v,vs[j]?=some v→w.cell? ⟨vb,j,none⟩=some v) (h1c:∀ v ∈ cs,v.oneCell'=true) (h1v:∀ v ∈ vs,v.oneCell'=true) :
  ∃(pQ:Array Value) (G:Nat),n+1≤G∧pQ.size=G*5∧(∀(j:Nat) v,(cs.take (i*5))[j]?=some v→pQ[j]?=some v) ∧
  Calls Tryz.prog 55 #[.slice (some ⟨b,0,none⟩) n c,.int .i64 i,.slice (some ⟨vb,0,none⟩) 1 vc] w fun e w'=>
   e=.returned (.slice (some ⟨w.heap.size,0,none⟩) (n+1) G) ∧
   w'=(((w.alloc (.cells pQ 53)).drew.setCells w.heap.size (i*5) vs).drew).setCells w.heap.size ((i+1)*5) (cs.drop (i*5)):=by
 have mixed:Tryz.prog.follows .mixedOrders=true:=by kernel_rfl
 have hu:Tryz.prog.underlying 35=some (.slice 53):=by kernel_rfl
 have hu3:Tryz.prog.underlying 3=some (.int .i64):=by kernel_rfl
 obtain⟨i0,hi0,hz0,hzs,hzb⟩:=info_parts ahY
 have hz2:¬ ((i:Int)=(n:Int)):=by omega
 have hz3:(c:Int)<(n:Int)+(1:Int):=by omega
 have uO:(Tryz.prog.info? 53).map (·.size)=some 5:=by rw [hi0];simp [hzs]
 have hbw:b<w.heap.size:=block_lt_of_cell (hcs 0 _ (AT (by omega)))
 have hvw:vb<w.heap.size:=block_lt_of_cell (hvs 0 _ (AT (by omega)))
 have hkk:(n:Int)+(1:Int)-(i:Int)=((n+1-i:Nat):Int):=by omega
 have hik:i+(n+1-i)=n+1:=by omega
 have htl:(cs.take (i*5)).length=i*5:=by rw [asp];omega
 have hold:(Builtin.firstCells i0.size i (.slice (some ⟨b,0,none⟩) i c)).run Tryz.prog w.drew=.ok (cs.take (i*5)).toArray w.drew:=by
  rw [hzs]
  exact run_firstCells_some w.drew 5 i ⟨b,0,none⟩ i c (cs.take (i*5)) htl (fun j v hj=>by
   rw [Addr.add_lit,aso]
   rw [List.getElem?_take]at hj
   split at hj
   ·exact hcs j v hj
   ·cases hj)
 have hrz:∀ ty,(Builtin.append_ #[35,3] ty #[.slice (some ⟨b,0,none⟩) i c,.int .i64 ((n:Int)+(1:Int)-(i:Int))]).run Tryz.prog w =
   .ok (.slice (some ⟨w.heap.size,0,none⟩) (n+1) (grownCap w (n+1) c 53)) (w.drew.alloc (.cells ((cs.take (i*5)).toArray++Builtin.zeroCells vN.cells (n+1-i)++Builtin.zeroCells vN.cells (grownCap w (n+1) c 53-(n+1))) 53)):=fun ty=>by
  have h:=Lib.run_append_grow_zeros w 35 3 ty 53 i0 _ .i64 .i64 hu hu3 hi0 hz0 (some ⟨b,0,none⟩) i c (cs.take (i*5)) hold (n+1-i) (by omega) (by omega) (by omega) (by omega) (by rw [hzb];omega) (by rw [hzb,hik];exact growslice_fits xG (by omega))
  rw [hik]at h
  rw [hkk]
  exact h
 obtain⟨G,hG⟩:∃ G,G=grownCap w (n+1) c 53:=⟨_,rfl⟩
 have hGn:n+1≤G:=by rw [hG];exact grownCap_ge w _ _ _
 have arq:G≤9223372036854775807:=by
  have:=grownCap_le_maxLen w (n+1) c 53 (by unfold maxLen;omega)
  rw [←hG]at this
  unfold maxLen at this
  omega
 obtain⟨pQ,LH⟩:∃ pQ:Array Value,pQ=(cs.take (i*5)).toArray++Builtin.zeroCells vN.cells (n+1-i)++Builtin.zeroCells vN.cells (G-(n+1)):=⟨_,rfl⟩
 rw [←hG]at hrz
 rw [←LH]at hrz
 have hRs:pQ.size=G*5:=by
  rw [LH]
  simp only [Array.size_append,ML,List.size_toArray,htl]
  omega
 have hRg:∀(j:Nat) v,(cs.take (i*5))[j]?=some v→pQ[j]?=some v:=fun j v hj=>by
  have hjl:j<(cs.take (i*5)).length:=(By.1 hj).1
  rw [LH,Array.append_assoc,Array.getElem?_append_left (by simpa using hjl)]
  simpa using hj
 refine⟨pQ,G,hGn,hRs,hRg,?_⟩
 obtain⟨W1,MN⟩:∃ W1,W1=w.drew.alloc (.cells pQ 53):=⟨_,rfl⟩
 rw [←MN]at hrz
 have hN:∀ j,j<(n+1)*5→(W1.cell? ⟨w.heap.size,j,none⟩).isSome=true:=fun j hj=>by
  rw [MN,World.cell?_alloc_at (w:=w.drew) pQ _ w.heap.size j rfl,Array.getElem?_eq_getElem (by omega)];rfl
 have hNf:∀ j,W1.frozen? ⟨w.heap.size,j,none⟩=false:=fun j=>by rw [MN];exact World.frozen?_alloc_at (w:=w.drew) pQ _ w.heap.size j rfl
 have hOb:∀ j v,w.cell? ⟨b,j,none⟩=some v→W1.cell? ⟨b,j,none⟩=some v:=fun j v h=>by rw [MN,World.cell?_alloc_past (w:=w.drew) _ b j hbw];exact h
 have hOv:∀ j v,w.cell? ⟨vb,j,none⟩=some v→W1.cell? ⟨vb,j,none⟩=some v:=fun j v h=>by rw [MN,World.cell?_alloc_past (w:=w.drew) _ vb j hvw];exact h
 have apk:∀(W:World),(∀ x,W.cell? x=W1.cell? x)→(∀ x,W.frozen? x=W1.frozen? x)→∀ ty dc,(Builtin.copy_ #[35,35] ty #[.slice (some ⟨w.heap.size,i*5,none⟩) (n+1-i) dc,.slice (some ⟨vb,0,none⟩) 1 vc]).run Tryz.prog W=.ok (goInt (1:Nat)) (W.setCells w.heap.size (i*5) vs):=fun W hWc hWf ty dc=>
  oB W 35 35 ty 53 w.heap.size (i*5) (n+1-i) dc ⟨vb,0,none⟩ 1 vc 5 1 vs hu uO (by simp only [Nat.min_def];split<;>omega) (by omega)
   (fun j v hj=>by rw [Addr.add_lit,hWc,aso];exact hOv _ v (hvs j v hj))
   (fun j hj=>by rw [hvl]at hj;rw [hWc];exact hN _ (by omega)) (fun j hj=>by rw [hWf];exact hNf _) h1v
 have hGi:¬ (G=i):=by omega
 have ars:¬ (G=i+1):=by omega
 have hci:¬ (c=i):=by omega
 have hbN:b≠w.heap.size:=by omega
 have hdl:(cs.drop (i*5)).length=(n-i)*5:=by rw [arW,hcl];omega
 have alW:∀(W:World),(∀ x,W.cell? x=(W1.setCells w.heap.size (i*5) vs).cell? x)→(∀ x,W.frozen? x=(W1.setCells w.heap.size (i*5) vs).frozen? x)→∀ ty dc sc,(Builtin.copy_ #[35,35] ty #[.slice (some ⟨w.heap.size,(i+1)*5,none⟩) (n-i) dc,.slice (some ⟨b,i*5,none⟩) (n-i) sc]).run Tryz.prog W=.ok (goInt (n-i:Nat)) (W.setCells w.heap.size ((i+1)*5) (cs.drop (i*5))):=fun W hWc hWf ty dc sc=>
  oB W 35 35 ty 53 w.heap.size ((i+1)*5) (n-i) dc ⟨b,i*5,none⟩ (n-i) sc 5 (n-i) (cs.drop (i*5)) hu uO (by simp only [Nat.min_def];split<;>omega) hdl
   (fun j v hj=>by
    rw [Addr.add_lit,hWc,World.cell?_setCells_out _ _ _ _ _ (fun h _=>absurd h hbN)]
    exact hOb _ v (hcs (i*5+j) v (by rwa [arV]at hj)))
   (fun j hj=>by rw [hdl]at hj;rw [hWc];exact isSome_setCells _ vs (i*5) W1 (fun t ht=>hN _ (by rw [hvl]at ht;omega)) _ (hN _ (by omega)))
   (fun j hj=>by rw [hWf,World.frozen?_setCells];exact hNf _) (fun v hv=>h1c v (asW hv))
 subst MN
 have hE1:∀ x,((w.alloc (.cells pQ 53)).drew).cell? x=(w.drew.alloc (.cells pQ 53)).cell? x:=fun x=>rfl
 have hE2:∀ x,((w.alloc (.cells pQ 53)).drew).frozen? x=(w.drew.alloc (.cells pQ 53)).frozen? x:=fun x=>rfl
 have hF1:∀ x,(((w.alloc (.cells pQ 53)).drew.setCells w.heap.size (i*5) vs).drew).cell? x=((w.drew.alloc (.cells pQ 53)).setCells w.heap.size (i*5) vs).cell? x:=fun x=>rfl
 have hF2:∀ x,(((w.alloc (.cells pQ 53)).drew.setCells w.heap.size (i*5) vs).drew).frozen? x=((w.drew.alloc (.cells pQ 53)).setCells w.heap.size (i*5) vs).frozen? x:=fun x=>rfl
 have hw1:IntKind.i64.wrap ((i:Int)+(1:Int))=(i:Int)+(1:Int):=by rw [IntKind.wrap_i64];omega
 have hw2:IntKind.i64.wrap ((n:Int)+(1:Int))=(n:Int)+(1:Int):=by rw [IntKind.wrap_i64];omega
 have hw3:IntKind.i64.wrap ((n:Int)+(1:Int)-(i:Int))=(n:Int)+(1:Int)-(i:Int):=by rw [IntKind.wrap_i64];omega
 have hb1:(0:Int)≤(i:Int)+(1:Int):=by omega
 have hin:i≤n:=by omega
 have htn:((i:Int)+(1:Int)).toNat=i+1:=by omega
 have hb3:(i:Int)≤(n:Int):=by omega
 have hb4:(i:Int)≤(n:Int)+1:=by omega
 clear hkk hik hold LH hG
 go_enter Tryz.func55,Tryz.ntmps55
 go_wp2_with (first
  | (at_builtin;refine Lib.wpList_append_run _ rfl _ _ _ _ rfl _ _ rfl rfl _ _ (hrz _) ?_)
  | (at_builtin;refine wpList_copy_runI _ rfl _ _ 35 35 rfl _ _ rfl rfl (apk _ hE1 hE2 _ _) ?_)
  | (at_builtin;refine wpList_copy_runI _ rfl _ _ 35 35 rfl _ _ rfl rfl (alW _ (fun _=>rfl) (fun _=>rfl) _ _ _) ?_))
 go_region_law_o (refine step_copy_runI rfl _ _ 35 35 rfl (.slice (some ⟨w.heap.size,(i+1)*5,none⟩) (n-i) (G-(i+1))) (.slice (some ⟨b,i*5,none⟩) (n-i) (c-i)) (by simp [Act.eval,Act.put]) (by simp [Act.eval,Act.put]) (alW _ hF1 hF2 3 (G-(i+1)) (c-i)) ?_)
 go_wp2
 go_ret
 exact⟨rfl,rfl⟩
theorem ad0(a a2:Option Addr)(n c c2:Nat)(w w':World)(u:Value)(hr:(Builtin.append_ #[35,35] 35 #[.slice a n c,.slice a2 1 c2]).run Tryz.prog w=.ok u w') :
  Calls Tryz.prog 55 #[.slice a n c,.int .i64 n,.slice a2 1 c2] w fun e w''=>e=.returned u∧w''=w':=by
 have mixed:Tryz.prog.follows .mixedOrders=true:=by kernel_rfl
 go_enter Tryz.func55,Tryz.ntmps55
 go_wp2_with (at_builtin;refine Lib.wpList_append_run _ rfl _ _ _ _ rfl _ _ rfl rfl _ _ hr ?_)
 all_goals go_ret
 all_goals exact⟨rfl,rfl⟩
end Go.Proofs.YtmbjejcfadllnaaGreat
end
section
namespace Go.Proofs.YtmbjejcfadllnaaGreat
open Go Km
theorem BH{Q:Program}{σ:Nat→FuncId}{X:Wd}(hS:SR Q σ X){b:Nat}{cs cs':List C}{e e2:Nat}{L:Km.Loc}(hb:X.H[b]?=some (.bM 5 cs 0 e .loc))(hL:X.cr b=some L)(he:e≤e2)
  {w':World} (hs:w'.heap.size=X.w.heap.size) (hw:∀ k,k≠L.c→w'.heap[k]?=X.w.heap[k]?) (ho:w'.os=X.w.os) (ht:w'.tape=X.w.tape) (hu:w'.output=X.w.output)
  {Gp Y3:List Value} (hr:Km.rowAt w' L.c (Gp++Y3)) (hA:A2 (CR σ X) cs' Gp) (hl:(Gp++Y3).length=L.cap*5) {n:Nat} (hn:cs'.length=n*5) :
  ∃ X',X'.w=w'∧X'.H=X.H.set b (.bM 5 cs' 0 e2 .loc)∧SR Q σ X'∧Ext X.H.length X X'∧VR σ X' (.c (.sl b 0 n 0 e2 5)) (.slice (some ⟨L.c,0,none⟩) n L.cap)∧X'.B=X.B:=by
 obtain⟨_,_,bu,XE,hbr⟩:=hS.br b L hL
 rw [hb]at XE;simp only [sh]at XE;subst XE
 obtain⟨_,us,rest,hr0,h2,h6,h7,h8,h3⟩:=hbr
 have hlt:b<X.H.length:=(By.1 hb).1
 obtain⟨h4,h5⟩:=SR.turn hS (blk':=.bM 5 cs' 0 e2 .loc) hb hL hs hw (fun i hf=>absurd hf (h3 i (Nat.zero_le _))) ho ht hu
  (fun bu ahN=>⟨.bM 5 cs' 0 e2 .loc,by simp [hlt],by
   rw [hb]at ahN;simp only [sh]at ahN;subst ahN
   refine⟨rfl,?_⟩
   rcases ar9 e e2 with h | h
   ·exact .inr ⟨h,rfl,L,hL⟩
   ·exact .inl ⟨by omega,rfl,fun L' h'=>h'⟩⟩)
  (fun hx'=>⟨rfl,Gp,Y3,hr,A2.ext' σ hx' hA,hl,h7,⟨n,hn⟩,h3⟩)
 refine⟨_,rfl,rfl,h4,h5,?_,rfl⟩
 have apn:(X.H.set b (.bM 5 cs' 0 e2 .loc))[b]?=some (.bM 5 cs' 0 e2 .loc):=by simp [hlt]
 have hle:n≤L.cap:=by
  have:=hA.len
  rw [api]at hl
  omega
 simp only [VR,gU,CR,fD,apn]
 exact⟨OF _,fun _ _=>⟨L,hL,0,by omega,by omega,by simp⟩,_,_,_,rfl⟩
theorem Mk{α:Type}(us rest vs:List α)(i:Nat)(hi:i*5≤us.length)(hv:vs.length=5)(hr:5≤rest.length) :
  over (over (us++rest) ((i+1)*5) (us.drop (i*5))) (i*5) vs=(us.take (i*5)++vs++us.drop (i*5))++rest.drop 5:=by
 have h1:over (us++rest) ((i+1)*5) (us.drop (i*5))=((us++rest).take ((i+1)*5))++us.drop (i*5)++rest.drop 5:=by
  unfold over
  congr 1
  rw [arW,show(i+1)*5+(us.length-i*5)=us.length+5 by omega,←asQ,List.drop_left']
  rfl
 rw [h1]
 unfold over
 have hl:((us++rest).take ((i+1)*5)).length=(i+1)*5:=by rw [asp,api];omega
 have e1:(List.take ((i+1)*5) (us++rest)++us.drop (i*5)++rest.drop 5).take (i*5)=us.take (i*5):=by
  rw [asF,asy (by omega),List.take_take,asy (by omega),show min (i*5) ((i+1)*5)=i*5 by omega]
 have e2:(List.take ((i+1)*5) (us++rest)++us.drop (i*5)++rest.drop 5).drop (i*5+vs.length)=us.drop (i*5)++rest.drop 5:=by
  rw [hv,asF,List.drop_left' (by rw [hl];omega)]
 rw [e1,e2]
 simp
theorem Ef{α:Type}(us rest vs:List α)(i:Nat)(hi:i*5≤us.length)(hv:vs.length=5)(hr:us.length+5≤i*5+rest.length) :
  over (over (us.take (i*5)++rest) (i*5) vs) ((i+1)*5) (us.drop (i*5))=(us.take (i*5)++vs++us.drop (i*5))++rest.drop (5+(us.length-i*5)):=by
 have hl:(us.take (i*5)).length=i*5:=by rw [asp];omega
 have h1:=qw (us.take (i*5)) rest vs (by omega)
 rw [hl]at h1
 rw [h1]
 have hl2:(us.take (i*5)++vs).length=(i+1)*5:=by rw [api,hl,hv];omega
 have h2:=qw (us.take (i*5)++vs) (rest.drop vs.length) (us.drop (i*5)) (by rw [arW,arW];omega)
 rw [hl2]at h2
 rw [h2,asQ,arW,hv]
theorem LO(vs:Array Value)(w:World):(callFunc 55 vs).run Tryz.prog w=.ok (.enter 55 vs) w:=by
 have hn:(Tryz.f55.name == "runtime.NumGoroutine")=false:=by kernel_rfl
 have hb:Tryz.f55.body.isSome=true:=by kernel_rfl
 obtain⟨c,hc⟩:=Option.isSome_iff_exists.1 hb
 exact qE Tryz.func55 (by simpa using hn) hc vs w
theorem vd{σ:Nat→FuncId}{X X':Wd}{us:Array Value}{u:Value}{r:V}{H':aj}(h:Calls Tryz.prog 55 us X.w fun e w'=>e=.returned u∧w'=X'.w)(hp:Km.na Tryz.prog σ X r H' X' u)(cs:List Frame) :
  ∃ fr X' u,Steps Tryz.prog (lone (Frame.enter Tryz.prog 55 us .normal) cs X.w) (lone fr cs X'.w)∧Km.Leaves Tryz.prog 55 .normal fr u X'.w∧Km.na Tryz.prog σ X r H' X' u:=by
 obtain⟨e,w',fr,⟨rfl,rfl⟩,h1,h2,hm,hd,hk,fn,hf,hr⟩:=h cs
 exact⟨fr,X',u,h1,⟨hm,hd,hk,h2,fn,by rw [←h2];exact hf,hr⟩,hp⟩
theorem uG{w:World}{c:Nat}{us:List Value}(h:Km.rowAt w c us):Km.rowAt w.drew c us:=h
theorem Lc{H:aj}{y:C}{m:Nat}{ys:List C}(h:c4 H 5 (.c y)=some (m,ys)):bH H y=some m:=by
 unfold c4 at h
 split at h
 ·simp at h
 ·rename_i x hne heq
  cases heq
  split at h
  ·rename_i l cs hl hcs
   simp only [sh,IS]at h
   rw [←h.1];exact hl
  ·cases h
 ·cases h
def Zt:Oper:={ dst:=none,op:=.call { callee:=.builtin .append,args:=#[.tmp 0,.tmp 1],argTypes:=#[35,35] },type:=35,pos:= "",after:=#[],guard:=none }
theorem aob(σ:Nat→FuncId):dD Tryz.prog σ Zt (.append 5 40 (.r .h) (.r (.o .h)))=true:=by kernel_rfl
theorem ajY{σ:Nat→FuncId}{X:Wd}(hS:SR Tryz.prog σ X)(hB:X.B≤X.w.heap.size){x y:C}{ux uy:Value}(hx:VR σ X (.c x) ux)(hy:VR σ X (.c y) uy){r:V}{H':aj}(hp:bU X.H 5 40 (.c x) (.c y)=some (r,H')) :
  ∃ u X',(Builtin.append_ #[35,35] 35 #[ux,uy]).run Tryz.prog X.w=.ok u X'.w∧Km.na Tryz.prog σ X r H' X' u:=by
 let a:Act:={ tmps:=#[ux,uy],defers:=[] }
 have hR:RR σ X (.n (.n .e (.c y) .e) (.c x) .e) a.tmps:=fun p=>by
  match p with
  | .h=>exact hx
  | .o .h=>exact hy
  | .o (.o _)=>trivial
  | .o (.i _)=>trivial
  | .i _=>trivial
 obtain⟨u,X',h1,h2,h3,h4,h5,h6⟩:=xn hS hB hR (aob σ) (v:=r) (H':=H') hp
 refine⟨u,X',?_,h2,h3,h4,h5,h6⟩
 have he:(execOp a.eval Zt).run Tryz.prog X.w=((Builtin.append_ #[35,35] 35 #[ux,uy]).run Tryz.prog X.w).andThen fun v w'=>.ok (.value v) w':=by
  refine df (b:=.append) rfl rfl fun cs=>?_
  simp [builtin,Zt,a,Act.eval]
 rw [he]at h1
 cases hq:(Builtin.append_ #[35,35] 35 #[ux,uy]).run Tryz.prog X.w with
 | ok v w'=>
  rw [hq]at h1
  simp only [Result.andThen_ok]at h1
  rcases h1 with h1 | ⟨h1,-⟩
  ·injection h1 with e1 e2
   injection e1 with e1
   rw [e1,e2]
  ·injection h1 with e1 e2
   cases e1
 | _=>rw [hq]at h1;rcases h1 with h1 | ⟨h1,-⟩<;>cases h1
theorem rowAt.shape{w:World}{c:Nat}{us:List Value}(h:Km.rowAt w c us):∃ e,w.shape? c=some (e,us.length):=by
 obtain⟨e,fr,h1,_⟩:=h
 exact⟨e,by simp [World.shape?,h1]⟩
theorem rowAt.fz{w:World}{c:Nat}{us:List Value}(h:Km.rowAt w c us){i:Nat}(hi:i≤us.length):w.frozen? ⟨c,i,none⟩=false:=by
 obtain⟨e,fr,h1,h2⟩:=h
 have:=h2 i hi
 simp only [World.frozen?,h1]
 simp only [Bool.and_eq_false_iff,decide_eq_false_iff_not]
 omega
theorem Zd{σ:Nat→FuncId}{X:Wd}(hS:SR Tryz.prog σ X)(hB:X.B≤X.w.heap.size){x y:C}{i:Int}{n:Nat}{ax ay:Option Addr}{cx cy:Nat}(hx:VR σ X (.c x) (.slice ax n cx))(hy:VR σ X (.c y) (.slice ay 1 cy))(hn:bH X.H x=some n)(hin:i≠n)
  {r:V} {H':aj} (hp:zO X.H x i y=some (r,H')) (fs:List Frame) :
  ∃ fr X' u,Steps Tryz.prog (lone (Frame.enter Tryz.prog 55 #[.slice ax n cx,.int .i64 i,.slice ay 1 cy] .normal) fs X.w) (lone fr fs X'.w)∧Km.Leaves Tryz.prog 55 .normal fr u X'.w∧Km.na Tryz.prog σ X r H' X' u:=by
 unfold zO at hp
 split at hp
 case h_2=>cases hp
 rename_i b o l c0 ep s vb vo vc ve vs0
 split at hp
 case h_2=>cases hp
 rename_i s' cs fl e vs vfl hb hvb
 split at hp
 case isFalse=>cases hp
 rename_i alU
 obtain⟨rfl,rfl,rfl,rfl,rfl,hcl,rfl,hi0,hil,hl6,hvl⟩:=alU
 simp only [sh,IS]at hp
 obtain⟨rfl,rfl⟩:=hp
 obtain⟨k,rfl⟩:∃ k:Nat,i=k:=⟨i.toNat,by omega⟩
 have hkl:k<l:=by omega
 simp only [VR,gU,CR,fD,hb]at hx
 obtain⟨-,hx2,-⟩:=hx
 obtain⟨L,hL,k0,hk0,hk1,hux⟩:=hx2 trivial trivial
 have apl:k0=0:=by omega
 subst apl
 simp only [Value.slice.injEq,Nat.sub_zero]at hux
 obtain⟨rfl,rfl,rfl⟩:=hux
 simp only [VR,gU,CR,fD,hvb]at hy
 obtain⟨Lv,hLv,hvc,huy⟩:=hy
 simp only [Value.slice.injEq]at huy
 obtain⟨rfl,-,rfl⟩:=huy
 obtain⟨hLB,hLs,bu,XE,hbr⟩:=hS.br b L hL
 rw [hb]at XE;simp only [sh]at XE;subst XE
 obtain⟨_,us,rest,hr,h2,h6,h7,h8,h3⟩:=hbr
 obtain⟨hvB,hvs,bu,XE,hbr⟩:=hS.br vb Lv hLv
 rw [hvb]at XE;simp only [sh]at XE;subst XE
 obtain⟨uv,hrv,hv2,_⟩:=hbr
 have hne:Lv.c≠L.c:=fun h=>by
  have:=hS.inj _ _ _ _ hLv hL h
  subst this
  rw [hb]at hvb
  cases hvb
 have hul:us.length=n*5:=by rw [←h2.len];exact hcl
 have adP:uv.length=5:=by rw [←hv2.len];exact hvl
 have hrl:(us++rest).length=us.length+rest.length:=api
 have agr:∀ j v,us[j]?=some v→X.w.cell? ⟨L.c,j,none⟩=some v:=fun j v hj=>by
  rw [dd hr,List.getElem?_append_left (By.1 hj).1];exact hj
 have XF:∀ j v,uv[j]?=some v→X.w.cell? ⟨Lv.c,j,none⟩=some v:=fun j v hj=>by rw [dd hrv];exact hj
 have h1c:∀ v ∈ us,v.oneCell'=true:=fun v hv=>A2.one h2 v hv
 have h1v:∀ v ∈ uv,v.oneCell'=true:=fun v hv=>A2.one hv2 v hv
 have hA:A2 (CR σ X) (cs.take (k*5)++vs++cs.drop (k*5)) (us.take (k*5)++uv++us.drop (k*5)):=((h2.take _).append hv2).append (h2.drop _)
 have alT:(cs.take (k*5)++vs++cs.drop (k*5)).length=(n+1)*5:=by
  simp only [api,asp,arW,hcl,hvl];omega
 have htn:((k:Int)).toNat=k:=by simp
 rw [htn]
 rcases ar9 L.cap (n+1)with xG | xG
 ·
  obtain⟨pQ,G,hG,hRs,hRg,DK⟩:=XO L.c n L.cap k Lv.c cy us uv X.w hkl (by omega) xG hl6 hul adP agr XF h1c h1v
  have htl:(us.take (k*5)).length=k*5:=by rw [asp];omega
  have LH:pQ.toList=us.take (k*5)++pQ.toList.drop (k*5):=by
   have:pQ.toList.take (k*5)=us.take (k*5):=by
    apply List.ext_getElem?
    intro j
    by_cases hj:j<k*5
    ·rw [List.getElem?_take_of_lt hj,Array.getElem?_toList,hRg j _ (AT (by omega)),AT (by omega)]
    ·rw [asS (by rw [asp];omega),asS (by omega)]
   rw [←this,List.take_append_drop]
  have XH:(pQ.toList.drop (k*5)).length=(G-k)*5:=by rw [arW,Array.length_toList,hRs];omega
  have agq:dI X.w (X.w.alloc (.cells pQ 53)) (.cells (us.take (k*5)++[]++pQ.toList.drop (k*5)).toArray 53):=by
   rw [ast,←LH]
   exact dI.alloc _ _
  obtain⟨X1,g1,g2,g3,g4,g5,g6⟩:=tC hS hB hb (h2.take (k*5)) A2.nil (by decide) (n:=k) (nc:=G) (by simp only [asp,List.length_nil];omega) XH (by omega) agq
  have hb1:X1.H[b]?=some (.bM 5 (cs.take (k*5)++[]) 0 (ep+1) .loc):=by rw [g2];simp [(By.1 hb).1]
  simp only [VR,gU,CR,fD,hb1]at g5
  obtain⟨-,g5,-⟩:=g5
  obtain⟨L1,hL1,k1,aru,hk2,alS⟩:=g5 trivial trivial
  have apm:k1=0:=by omega
  subst apm
  simp only [Value.slice.injEq,sh,Addr.mk.injEq,and_true,true_and,Nat.sub_zero]at alS
  obtain⟨ahM,XD⟩:=alS
  have hr1:Km.rowAt X1.w L1.c (us.take (k*5)++pQ.toList.drop (k*5)):=by
   have:=jQ agq
   rw [ast]at this
   rw [g1,←ahM];exact this
  obtain⟨s1,s2,s3,s4,s5,s6⟩:=dX (uG hr1) uv (k*5) (by rw [api,htl,XH];omega)
  obtain⟨t1,t2,t3,t4,t5,t6⟩:=dX (uG s6) (us.drop (k*5)) ((k+1)*5) (by
   have:(over (us.take (k*5)++pQ.toList.drop (k*5)) (k*5) uv).length=G*5:=by
    unfold over;simp only [api,asp,arW,Array.length_toList]at XH ⊢;omega
   rw [this,arW];omega)
  rw [Ef us _ uv k (by omega) adP (by rw [XH];omega)]at t6
  obtain⟨X',q1,q2,q3,q4,q5,q6⟩:=BH g3 hb1 hL1 (OF _) (t1.trans s1) (fun q hq=>(t2 q hq).trans (s2 q hq)) (t3.trans s3) (t4.trans s4) (t5.trans s5) t6 (A2.ext' σ g4 hA)
   (by rw [←XD];simp only [api,asp,arW,Array.length_toList]at XH ⊢;omega) alT
  rw [←XD,←ahM]at q5
  refine vd (X':=X') (by rw [q1,g1,←ahM];exact DK) ⟨by rw [q2,g2,List.set_set],q3,q5,g4.trans (q4.mono g4.len),by rw [q6,q1];have e1:=t1.trans s1;have e2:X1.w.drew.heap.size=X1.w.heap.size:=rfl;omega⟩ fs
 ·
  obtain⟨eA,hsA⟩:=rowAt.shape hrv
  obtain⟨eB,hsB⟩:=rowAt.shape hr
  have DL:(us++rest).length=L.cap*5:=h6
  have DK:=LP L.c n L.cap k Lv.c cy us uv X.w hkl xG hl6 hne hul adP agr (fun j hj=>by
   rw [dd hr,AT (by rw [DL];omega)];rfl) (fun j hj=>rowAt.fz hr (by rw [DL];omega)) XF h1c h1v eA eB _ _ hsA hsB (by rw [DL];omega) (rowAt.fz hrv (Nat.zero_le _)) (rowAt.fz hrv (OF _))
  have hr1:=uG hr
  obtain⟨s1,s2,s3,s4,s5,s6⟩:=dX hr1 (us.drop (k*5)) ((k+1)*5) (by rw [DL,arW];omega)
  obtain⟨t1,t2,t3,t4,t5,t6⟩:=dX s6 uv (k*5) (by
   have:(over (us++rest) ((k+1)*5) (us.drop (k*5))).length=L.cap*5:=by
    unfold over;simp only [api,asp,arW]at DL ⊢;omega
   rw [this];omega)
  rw [Mk us rest uv k (by omega) adP (by omega)]at t6
  obtain⟨X',g1,g2,g3,g4,g5,g6⟩:=BH hS hb hL (Nat.le_succ _) (t1.trans s1) (fun q hq=>(t2 q hq).trans (s2 q hq)) (t3.trans s3) (t4.trans s4) (t5.trans s5) t6 hA
   (by simp only [api,asp,arW]at DL ⊢;omega) alT
  exact vd (X':=X') (by rw [g1];exact DK) ⟨g2,g3,g5,g4,by rw [g6,g1,t1,s1];exact hB⟩ fs
theorem ajF{σ:Nat→FuncId}(hσ:σ mN=55):yM Tryz.prog σ prm:=by
 intro f args H r H' hp
 unfold prm at hp
 split at hp
 case isFalse=>cases hp
 rename_i hf
 subst hf
 simp only [sh]at hp
 rw [hσ]
 refine⟨LO,fun X us kind cs hX hS hB hA hk hki=>?_⟩
 have hkn:kind=.normal:=hki.resolve_right fun h=>h rfl
 subst hkn
 subst hX
 unfold LN at hp
 split at hp
 case h_2=>cases hp
 rename_i x i y
 obtain⟨ux,hA⟩:∃ ux Gp,us=ux::Gp∧VR σ X (.c x) ux∧A2 (VR σ X) [.c (.f (.int .i64 i)),.c y] Gp:=by
  match us,hA with
  | [],h=>have:=h.len;simp at this
  | ux::Gp,h=>exact⟨ux,Gp,rfl,h.of_cons.1,h.of_cons.2⟩
 obtain⟨us1,rfl,hx,hA⟩:=hA
 obtain⟨ui,hA⟩:∃ ui Gp,us1=ui::Gp∧VR σ X (.c (.f (.int .i64 i))) ui∧A2 (VR σ X) [.c y] Gp:=by
  match us1,hA with
  | [],h=>have:=h.len;simp at this
  | ux::Gp,h=>exact⟨ux,Gp,rfl,h.of_cons.1,h.of_cons.2⟩
 obtain⟨us2,rfl,hi,hA⟩:=hA
 obtain⟨uy,rfl,hy⟩:∃ uy,us2=[uy]∧VR σ X (.c y) uy:=by
  match us2,hA with
  | [],h=>have:=h.len;simp at this
  | [ux],h=>exact⟨ux,rfl,h.of_cons.1⟩
  | _::_::_,h=>have:=h.len;simp at this
 have:=VR.int hi
 subst this
 have hul:([ux,.int .i64 i,uy]:List Value).toArray=#[ux,.int .i64 i,uy]:=rfl
 rw [hul]
 split at hp
 case h_2=>cases hp
 rename_i n ys hn apg
 obtain⟨ax,cx,hux⟩:=iF hx hn
 subst hux
 obtain⟨ay,cy,huy⟩:=iF hy (Lc apg)
 subst huy
 split at hp
 ·rename_i hin
  subst hin
  obtain⟨u,X',h1,h2⟩:=ajY hS hB hx hy hp
  exact vd (ad0 _ _ _ _ _ _ _ _ h1) h2 cs
 ·rename_i hin
  exact Zd hS hB hx hy hn hin hp cs
end Go.Proofs.YtmbjejcfadllnaaGreat
end
