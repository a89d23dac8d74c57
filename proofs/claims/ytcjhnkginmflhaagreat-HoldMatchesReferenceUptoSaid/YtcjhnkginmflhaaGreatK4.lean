/-
  Our own small machine for Go code by value, held against the model: part 4. No program in sight.
-/
import Derived.Test.YtcjhnkginmflhaaGreatK3
import Derived.ChangeArms
import Derived.DataReads
import Derived.Deep.Slices
import Derived.ProofKit
import Derived.RowKit3
import Derived.Below
import Derived.Carry
import Derived.Laws.IdiomArrays

set_option linter.unusedVariables false
set_option linter.unusedSimpArgs false
set_option linter.unusedSectionVars false

section
namespace Km
open Go

/-- Fields that lie one behind the other. -/
def DL (P : Program) : List Field → Nat → Nat → Bool
  | [], o, n => o == n
  | f :: fs, o, n => f.offset == o && DL P fs (o + P.cellsOf f.type) n

/-- Types of plain data: numbers, bools, strings, slices, structs, arrays. -/
def je (P : Program) : Nat → TypeId → Bool
  | 0, _ => false
  | n + 1, t => match P.underlying t with
    | some .bool => P.cellsOf t == 1
    | some (.int _) => P.cellsOf t == 1
    | some .string => P.cellsOf t == 1
    | some (.slice e) => P.cellsOf t == 1 && P.cellsOf e != 0 && je P n e
    | some (.struct fs) => DL P fs.toList 0 (P.cellsOf t) && fs.toList.all fun f => je P n f.type
    | some (.array k e) => P.cellsOf t == k * P.cellsOf e && je P n e
    | _ => false

/-- Cells one part behind the other. -/
def Bj (S : TypeId → List FC → Prop) : List TypeId → List FC → Prop
  | [], xs => xs = []
  | t :: ts, xs => ∃ p q, xs = p ++ q ∧ S t p ∧ Bj S ts q

theorem flat_get {α : Type} {sz : Nat} : ∀ {rows : List (List α)} {j k : Nat} {row : List α}, (∀ r ∈ rows, r.length = sz) → rows[j]? = some row → k < sz → rows.flatten[j * sz + k]? = row[k]?
  | [], j, k, row, _, hj, _ => by simp at hj
  | r :: rows, 0, k, row, hg, hj, hk => by
    simp at hj; subst hj
    have := hg r List.mem_cons_self
    rw [List.flatten_cons, List.getElem?_append_left (by omega)]
    simp
  | r :: rows, j + 1, k, row, hg, hj, hk => by
    have hr := hg r List.mem_cons_self
    rw [List.flatten_cons, List.getElem?_append_right (by rw [hr, Nat.add_mul]; omega)]
    have e : (j + 1) * sz + k - r.length = j * sz + k := by rw [hr, Nat.add_mul]; omega
    rw [e]
    exact flat_get (rows := rows) (fun x hx => hg x (List.mem_cons_of_mem _ hx)) (by simpa using hj) hk
theorem qF {α : Type} {sz : Nat} : ∀ {rows : List (List α)}, (∀ r ∈ rows, r.length = sz) → rows.flatten.length = rows.length * sz
  | [], _ => by simp
  | r :: rows, h => by
    have := qF (rows := rows) fun x hx => h x (List.mem_cons_of_mem _ hx)
    simp only [List.flatten_cons, List.length_append, List.length_cons, this, h r List.mem_cons_self, Nat.add_mul, Nat.one_mul]
    omega

/-- All cells of blocks that lie there. -/
def Ib (w : World) : Nat → Nat → Prop := fun c _ => c < w.heap.size

theorem cell_lt {w : World} {a : Addr} {v : Value} (h : w.cell? a = some v) : a.block < w.heap.size ∧ a.spot = none := by
  unfold World.cell? at h
  split at h
  · rename_i hb
    split at h
    · simp at h
    · rename_i hs
      refine ⟨?_, by simpa using hs⟩
      exact (Array.getElem?_eq_some_iff.1 hb).1
  · simp at h

theorem A2.flatten {α β : Type} {R : α → β → Prop} {xss : List (List α)} {yss : List (List β)} (hl : xss.length = yss.length)
    (h : ∀ (i : Nat) xs ys, xss[i]? = some xs → yss[i]? = some ys → A2 R xs ys) : A2 R xss.flatten yss.flatten := by
  induction xss generalizing yss with
  | nil => cases yss with
    | nil => exact A2.nil
    | cons y ys => simp at hl
  | cons x xs ih => cases yss with
    | nil => simp at hl
    | cons y ys =>
      rw [List.flatten_cons, List.flatten_cons]
      exact (h 0 x y rfl rfl).append (ih (by simpa using hl) fun i a b ha hb => h (i + 1) a b (by simpa using ha) (by simpa using hb))

section
variable {H : Type} {enc : TypeId × Value → H} {P : Program} {w : World} {base : Nat} {spare : Nat → Bool} {held : Bool} {σ : Nat → FuncId}

theorem Tt (c o n k : Nat) : ((⟨c, o, none⟩ : Addr).add n).add k = ⟨c, o + (n + k), none⟩ := by
  unfold Addr.add
  by_cases h1 : n = 0 <;> by_cases h2 : k = 0 <;> simp [h1, h2]
  omega
theorem Bg {α : Type} {sz : Nat} : ∀ {k : Nat} {cs : List α}, cs.length = k * sz → cs = ((List.range k).map fun i => (cs.drop (i * sz)).take sz).flatten
  | 0, cs, h => by simp at h; simp [h]
  | k + 1, cs, h => by
    have h' : (cs.take (k * sz)).length = k * sz := by rw [List.length_take, h, Nat.add_mul]; omega
    have ih := Bg h'
    rw [List.range_succ, List.map_append, List.flatten_append]
    have e : ((List.range k).map fun i => (cs.drop (i * sz)).take sz) = (List.range k).map fun i => ((cs.take (k * sz)).drop (i * sz)).take sz := by
      refine List.map_congr_left fun i hi => ?_
      have hi' : i < k := by simpa using hi
      have : (i + 1) * sz ≤ k * sz := Nat.mul_le_mul_right _ hi'
      rw [Nat.add_mul] at this
      rw [List.drop_take, List.take_take, Nat.min_eq_left (by omega)]
    rw [e, ← ih]
    simp only [List.map_cons, List.map_nil, List.flatten_cons, List.flatten_nil, List.append_nil]
    have : (cs.drop (k * sz)).take sz = cs.drop (k * sz) := List.take_of_length_le (by rw [List.length_drop, h, Nat.add_mul]; omega)
    rw [this, List.take_append_drop]

end

/-! ### Shapes, taken apart -/

section
variable {P : Program} {n : Nat} {t e : TypeId} {xs : List FC}
theorem bQ {S : TypeId → List FC → Prop} {ts : List TypeId} (h : Bj S (t :: ts) xs) : ∃ p q, xs = p ++ q ∧ S t p ∧ Bj S ts q := h
theorem oP {α : Type} {enc : α → List FC} {p : α → Prop} : ∀ {rows : List (List FC)}, (∀ r ∈ rows, ∃ x, r = enc x ∧ p x) → ∃ l : List α, rows = l.map enc ∧ ∀ x ∈ l, p x
  | [], _ => ⟨[], rfl, by simp⟩
  | r :: rows, h => by
    obtain ⟨x, rfl, hx⟩ := h r List.mem_cons_self
    obtain ⟨l, rfl, hl⟩ := oP fun r hr => h r (List.mem_cons_of_mem _ hr)
    exact ⟨x :: l, rfl, fun y hy => by
      rcases List.mem_cons.1 hy with rfl | hy
      · exact hx
      · exact hl y hy⟩
end
end Km
end

section
namespace Km
open Go Go.ChangeShapes Go.WideShapes Go.ChangeAt Go.RowKit

section
variable {H : Type} {enc : TypeId × Value → H} {P : Program} {W W' : World}

/-- As 'post_of_same', where what was there before the call stands in blocks that do not turn. -/
theorem Ac {f : Func} {s : ChangeSpec} {apart fresh handsOn again : Bool} {args : Array Value} {v : Value} {ds gs : List (DataW H)} {before pa pv : List MemPlace}
    (hW : DataW.Whole enc P f.params.toList s.vars apart W args.toList ds gs before)
    (hres : ∀ (b : Nat) (sp : Nat → Bool) (hd : Bool), DataW.TrodAll enc P W' b sp hd f.resultTypes.toList (v.resultList f.resultTypes.size) (s.fn H (ds ++ gs)).results [])
    (hargs : ∀ sp : Nat → Bool, (∀ p ∈ before, sp p.block = true) → DataW.TrodAll enc P W' 0 sp true f.params.toList args.toList (s.fn H (ds ++ gs)).args pa)
    (hvars : ∀ sp : Nat → Bool, (∀ p ∈ before, sp p.block = true) → DataW.TrodVars enc P W' sp s.vars (s.fn H (ds ++ gs)).vars pv)
    (hps : before = pa ++ pv) (hb : Below W.heap.size W W')
    (hok : ∀ (j : Nat) (t : TypeId) (r : Value), f.resultTypes[j]? = some t → (v.resultList f.resultTypes.size)[j]? = some r → Value.okWide P W' .any 0 t r) :
    s.post enc P f apart fresh handsOn again W args v W' := by
  have hlt : ∀ p ∈ before, p.block < W.heap.size := fun p hp => hW.lt p hp
  have hold : ∀ p ∈ before, (fun b => decide (b < W.heap.size)) p.block = true := fun p hp => by simpa using hlt p hp
  refine ⟨ds, gs, before, [], pa, pv, hW, hres _ _ _, hargs _ hold, hvars _ hold, World.keptBut_mono (fun p hp => ⟨hp, ?_⟩) (hb.frame (· ∈ before)), fun _ => ?_⟩
  · rw [hps, List.mem_append] at hp
    exact Or.inr hp
  · obtain ⟨_, _, _, _, _, hz, hn⟩ := hW
    refine ⟨hok, _, _, ([] ++ pa) ++ pv, ⟨[] ++ pa, pv, trodAll_append (hargs _ (fun _ _ => rfl)) (hres _ _ _), hvars _ (fun _ _ => rfl), rfl, ?_, ?_⟩, ?_⟩
    · intro b off hp
      have hp' : MemPlace.cell b off ∈ before := by rw [hps]; simpa using hp
      rw [hb.frozen (p := ⟨b, off, none⟩) (hlt _ hp')]
      exact hz b off hp'
    · intro ha
      have := hn ha
      rw [hps] at this
      simpa using this
    · intro p hp _
      rw [hps]
      simpa using hp

theorem qY (hl : laidOutB P = true) {sp : Nat → Bool} (hb : Below W.heap.size W W') : ∀ {ts : List TypeId} {vs : List Value} {ds : List (DataW H)} {ps : List MemPlace},
    (ts.all fun t => P.readableRec t && decide (t < P.types.size)) = true → DataW.TrodAll enc P W 0 (fun _ => true) true ts vs ds ps → (∀ p ∈ ps, p.block < W.heap.size) → (∀ p ∈ ps, sp p.block = true) →
    DataW.TrodAll enc P W' 0 sp true ts vs ds ps
  | [], [], [], ps, _, h, _, _ => h
  | t :: ts, v :: vs, d :: ds, ps, hr, ⟨p, q, h1, h2, e⟩, hlt, hs => by
    subst e
    simp only [List.all_cons, Bool.and_eq_true, decide_eq_true_eq] at hr
    exact ⟨p, q, WideElems.Trod_stays hl hr.1.1 hr.1.2 h1 (fun x hx => hb.same (hlt x (List.mem_append_left _ hx))) (fun x hx => hs x (List.mem_append_left _ hx)),
      qY hl hb hr.2 h2 (fun x hx => hlt x (List.mem_append_right _ hx)) (fun x hx => hs x (List.mem_append_right _ hx)), rfl⟩
  | [], _ :: _, _, _, _, h, _, _ => by cases h
  | [], [], _ :: _, _, _, h, _, _ => by cases h
  | _ :: _, [], _, _, _, h, _, _ => by cases h
  | _ :: _, _ :: _, [], _, _, h, _, _ => by cases h

variable {σ : Nat → FuncId}

/-- The relation at the call's beginning: nothing of the small machine's own; all that lies there is frozen. -/
def X0 (W : World) : Wd := ⟨fun _ => none, Ib W, [], W, W.heap.size⟩

theorem OH {xs : List FC} {cs : Array Value} (h : A2 (FCR σ (Ib W) W) xs cs.toList) : VR σ (X0 W) (.a (xs.map .f)) (.agg cs) :=
  ⟨cs.toList, by simp, A2.map (g := C.f) (h.weak fun _ _ h => h)⟩

theorem apV {n : Nat} {H : Heap} {v : V} {b : Bool} (h : exV (n + 1) H v = some (.c (.f (.bool b)))) : v = .c (.f (.bool b)) := by
  cases v with
  | top => simp [exV, dD] at h
  | a xs => simp [exV, dD] at h
  | t xs => simp [exV] at h
  | c x =>
    simp only [exV, dD, Option.map_eq_some_iff] at h
    obtain ⟨y, hy, h⟩ := h
    cases h
    cases x with
    | f x => simpa [exC] using hy
    | ptr b o e => simp only [exC] at hy; split at hy <;> simp at hy
    | sl b o l c e s =>
      simp only [exC] at hy
      split at hy
      · split at hy <;> simp at hy
      · split at hy <;> simp at hy
      · split at hy <;> simp at hy
      · split at hy <;> simp at hy
      · simp at hy
    | cl f caps => simp [exC] at hy
    | _ => simp [exC] at hy

variable {tab : Nat → Option AFunc}

/-- A call by value in the small machine that answers true: in the model. -/
theorem Hz (hE : Env P σ tab lD) {f : Nat} {args : List V} {us : List Value} (h : Pure tab f args (vb true)) (W : World) (ha : A2 (VR σ (X0 W)) args us) :
    Calls P (σ f) us.toArray W fun e w' => e = .returned (.bool true) ∧ Below W.heap.size W w' := by
  obtain ⟨r, H', ⟨m, d, h⟩, hr⟩ := h
  have hr := apV (n := 63) hr
  subst hr
  intro cs
  let X := X0 W
  have hS : SR P σ X := ⟨fun b L h => by simp [X, X0] at h, fun b b' L L' h => by simp [X, X0] at h, fun c i h => h⟩
  obtain ⟨fr, X', u, h1, ⟨l1, l2, l3, l4, fn, l5, l6⟩, h3, h4, h5, h6, h7⟩ := (SX hE m d).fn f args [] _ H' h X us .normal cs rfl hS (Nat.le_refl _) ha (.inl rfl)
  have hu := VR.bool h5
  subst hu
  exact ⟨.returned (.bool true), X'.w, fr, ⟨rfl, ⟨h6.os, h6.tape, h6.output, h6.size, fun k hk => h6.frame k hk (fun b L h => by simp [X, X0] at h)⟩⟩, h1, l4, l1, l2, l3, fn, by rw [l4]; exact l5, l6⟩

end
end Km
end

section
namespace Km
open Go

section
variable {tab : Nat → Option AFunc} {f : Nat} {args : List V} {r : V} {fn : Nat} {k : List eG} {t : T} {ds : List fZ} {H H' : Heap} {Q : Option ah → St → Prop}

@[simp] theorem aFM {b : Nat} {as : List V} : dU (.c (.yl b)) as = some (.yield b, as) := rfl

/-- A call's end, whatever the heap is then. -/
theorem jo {C : V → Heap → Prop} {ps : List P} {res : List nJ} {body : ah} (ht : tab f = some ⟨ps, res, body⟩) (hl : args.length = ps.length)
    (h : ∀ Q : Option ah → St → Prop, (∀ j s r, s.defs = [] → results s.regs s.heap res = some r → C r s.heap → Q j s) → WP tab f none [.code body] ⟨dP ps args .e, [], H⟩ Q) : ∃ r H', Ev tab (.fn f) args H r H' ∧ C r H' := by
  have h' := h (fun _ s => s.defs = [] ∧ ∃ r, results s.regs s.heap res = some r ∧ C r s.heap) fun _ _ r h1 h2 h3 => ⟨h1, r, h2, h3⟩
  obtain ⟨n, m, d, j, s, h1, hd, r, h2, h3⟩ := h'
  exact ⟨r, s.heap, Kq ht hl ⟨n, m, d, j, s, h1, 0, 0, s.heap, by rw [hd]; rfl, h2, rfl⟩, h3⟩
end
end Km
end

section
namespace Km
open Go

theorem J4 {n : Nat} : ∀ (l : List C) (H : Heap), (∀ x ∈ l, ∃ y, x = .f y) → l.foldl (fun H x => mkC n x H) H = H
  | [], _, _ => rfl
  | x :: l, H, h => by
    obtain ⟨y, rfl⟩ := h x List.mem_cons_self
    simp only [List.foldl_cons, aBF]
    exact J4 l H fun x hx => h x (List.mem_cons_of_mem _ hx)
end Km
end

section
namespace Km
open Go

end Km
end

section
namespace Km
open Go

/-- Block b holds these rows, of cells by value; nothing of it is frozen. -/
def RB (H : Heap) (b sz ep : Nat) (rows : List (List FC)) : Prop := H[b]? = some (.opn sz (rows.flatten.map .f) 0 ep .loc)
/-- All but block b stays. -/
def Fm (b : Nat) (H H' : Heap) : Prop := H.length ≤ H'.length ∧ ∀ b' : Nat, b' ≠ b → b' < H.length → H'[b']? = H[b']?
theorem Fm.refl {b : Nat} (H : Heap) : Fm b H H := ⟨Nat.le_refl _, fun _ _ _ => rfl⟩
theorem Fm.trans {b : Nat} {H H' H'' : Heap} (h : Fm b H H') (h' : Fm b H' H'') : Fm b H H'' :=
  ⟨Nat.le_trans h.1 h'.1, fun b' e l => (h'.2 b' e (Nat.lt_of_lt_of_le l h.1)).trans (h.2 b' e l)⟩
theorem Fm.push {b : Nat} (H J : Heap) : Fm b H (H ++ J) := ⟨by simp, fun b' _ l => List.getElem?_append_left l⟩
theorem Fm.set {b : Nat} (H : Heap) (x : Blk) : Fm b H (H.set b x) := ⟨by simp, fun b' e _ => List.getElem?_set_ne (Ne.symm e)⟩
theorem Fm.get {b : Nat} {H H' : Heap} (h : Fm b H H') {b' : Nat} {x : Blk} (hb : H[b']? = some x) (e : b' ≠ b) : H'[b']? = some x := by rw [h.2 b' e (aT hb)]; exact hb

theorem D7 {sz : Nat} {row : List FC} (hr : row.length = sz) : ∀ {rows : List (List FC)} {j : Nat}, Grid sz rows → j < rows.length →
    rows.flatten.take (j * sz) ++ row ++ rows.flatten.drop (j * sz + sz) = (rows.set j row).flatten
  | [], _, _, hj => by simp at hj
  | r :: rows, 0, hg, _ => by
    have := hg r List.mem_cons_self
    subst this
    simp
  | r :: rows, j + 1, hg, hj => by
    have hr0 := hg r List.mem_cons_self
    have ih := D7 hr (rows := rows) (j := j) (fun x hx => hg x (List.mem_cons_of_mem _ hx)) (by simpa using hj)
    simp only [List.flatten_cons, List.set_cons_succ]
    rw [← ih]
    have e1 : (j + 1) * sz = r.length + j * sz := by rw [hr0, Nat.add_mul]; omega
    have e2 : (j + 1) * sz + sz = r.length + (j * sz + sz) := by omega
    rw [e2, e1, List.take_append, List.drop_append]
    simp [List.take_of_length_le, List.append_assoc]

section
variable {H : Heap} {b sz ep j : Nat} {rows : List (List FC)} {row : List FC}
theorem RB.lt (h : RB H b sz ep rows) : b < H.length := aT h
theorem RB.push (h : RB H b sz ep rows) (J : Heap) : RB (H ++ J) b sz ep rows := by
  unfold RB at *; rw [List.getElem?_append_left (aT h)]; exact h
theorem RB.len (h : RB H b sz ep rows) {o l c : Nat} : bY H (.sl b o l c ep sz) = some l := by
  unfold RB at h; simp [bY, h]
theorem RB.idx (h : RB H b sz ep rows) {n c : Nat} {k : IntKind} {i : Int} (h0 : 0 ≤ i) (hi : i < n) {o : Nat} : bH H sz none (.c (.sl b o n c ep sz)) (.c (.f (.int k i))) = some (.c (.ptr b (o + i.toNat * sz) ep)) := by
  unfold RB at h
  simp only [bH, jF, h0, hi, if_true, h, and_self]
theorem RB.ldr (h : RB H b sz ep rows) (hg : Grid sz rows) (hj : rows[j]? = some row) : ldV H (some sz) (.c (.ptr b (j * sz) ep)) = some (.a (row.map .f)) := by
  unfold RB at h
  have hlen : row.length = sz := hg row (List.mem_of_getElem? hj)
  have := yV (k := 0) hg hj (by omega)
  simp only [aU, h, if_true]
  rw [← List.map_drop]
  rw [Nat.add_zero] at this
  rw [this]
  have h1 : (row.map C.f ++ ((rows.drop (j + 1)).flatten.map C.f)).take sz = row.map C.f := by
    rw [List.take_append_of_le_length (by simp [hlen]), List.take_of_length_le (by simp [hlen])]
  simp [hlen]
theorem RB.str (h : RB H b sz ep rows) (hg : Grid sz rows) (hj : j < rows.length) (hr : row.length = sz) :
    ∃ H', stC H (.ptr b (j * sz) ep) (row.map .f) = some H' ∧ RB H' b sz ep (rows.set j row) ∧ Fm b H H' ∧ H'.length = H.length := by
  have hl := fM hg
  have hjl : (j + 1) * sz ≤ rows.length * sz := Nat.mul_le_mul_right _ hj
  have hin : j * sz + sz ≤ rows.flatten.length := by rw [hl]; rw [Nat.add_mul] at hjl; omega
  unfold RB at h ⊢
  refine ⟨H.set b (.opn sz ((rows.set j row).flatten.map .f) 0 ep .loc), ?_, ?_, Fm.set _ _, by simp⟩
  · simp only [dY, h, Nat.zero_le, true_and, List.length_map, hr, hin, if_true]
    rw [← D7 hr hg hj]
    simp [over, hr]
  · exact List.getElem?_set_self (aT h)
end
theorem bnd_nat {k n : Nat} (h : k ≤ n) : bnd (vi k) n = some k := by
  have : (0 : Int) ≤ k ∧ (k : Int) ≤ n := by omega
  simp [bnd, jF, this]
@[simp] theorem aKD {t : T} {H : Heap} (sz : Nat) (zs : List FC) (x : Arg) : xOp t H (.clear sz zs x) = (y8 H sz zs (x.ev t)).map (.t [], ·) := rfl
end Km
end

section
namespace Km
open Go

/-- Two rows exchanged. -/
def swp (l : List (List FC)) (i j : Nat) : List (List FC) := (l.set i (l.getD j [])).set j (l.getD i [])
/-- Only what lies from a to b is turned about. -/
def Seg (a b : Nat) (l l' : List (List FC)) : Prop := l'.Perm l ∧ l'.take a = l.take a ∧ l'.drop b = l.drop b
theorem Seg.refl (a b : Nat) (l : List (List FC)) : Seg a b l l := ⟨.refl _, rfl, rfl⟩
theorem Seg.trans {a b : Nat} {l l' l'' : List (List FC)} (h : Seg a b l l') (h' : Seg a b l' l'') : Seg a b l l'' := ⟨h'.1.trans h.1, h'.2.1.trans h.2.1, h'.2.2.trans h.2.2⟩
theorem Seg.len {a b : Nat} {l l' : List (List FC)} (h : Seg a b l l') : l'.length = l.length := h.1.length_eq
theorem Seg.lt {a b : Nat} {l l' : List (List FC)} (h : Seg a b l l') {i : Nat} (hi : i < a) : l'[i]? = l[i]? := by
  have := congrArg (·[i]?) h.2.1
  simpa [List.getElem?_take, hi] using this
theorem Seg.ge {a b : Nat} {l l' : List (List FC)} (h : Seg a b l l') {i : Nat} (hi : b ≤ i) : l'[i]? = l[i]? := by
  have := congrArg (·[i - b]?) h.2.2
  simpa [List.getElem?_drop, show b + (i - b) = i by omega] using this
theorem Seg.mono {a b a' b' : Nat} {l l' : List (List FC)} (h : Seg a b l l') (ha : a' ≤ a) (hb : b ≤ b') : Seg a' b' l l' := by
  refine ⟨h.1, ?_, ?_⟩
  · have := congrArg (·.take a') h.2.1
    simpa [List.take_take, Nat.min_eq_left ha] using this
  · have := congrArg (·.drop (b' - b)) h.2.2
    simpa [List.drop_drop, show b + (b' - b) = b' by omega] using this
theorem swp_get {l : List (List FC)} {i j : Nat} (hi : i < l.length) (hj : j < l.length) (k : Nat) : (swp l i j)[k]? = if k = j then l[i]? else if k = i then l[j]? else l[k]? := by
  have e1 : l.getD i [] = l[i] := by simp [List.getD, List.getElem?_eq_getElem hi]
  have e2 : l.getD j [] = l[j] := by simp [List.getD, List.getElem?_eq_getElem hj]
  simp only [swp, e1, e2, List.getElem?_set]
  by_cases h1 : j = k
  · subst h1; simp [List.getElem?_eq_getElem hi, hj]
  · by_cases h2 : i = k
    · subst h2; simp [h1, Ne.symm h1, List.getElem?_eq_getElem hj, hi]
    · simp [h1, h2, Ne.symm h1, Ne.symm h2]
theorem xE {a b : Nat} {l : List (List FC)} {i j : Nat} (hi : a ≤ i) (hib : i < b) (hj : a ≤ j) (hjb : j < b) (hb : b ≤ l.length) : Seg a b l (swp l i j) := by
  have hil : i < l.length := by omega
  have hjl : j < l.length := by omega
  refine ⟨?_, ?_, ?_⟩
  · have e1 : l.getD i [] = l[i] := by simp [List.getD, List.getElem?_eq_getElem hil]
    have e2 : l.getD j [] = l[j] := by simp [List.getD, List.getElem?_eq_getElem hjl]
    simp only [swp, e1, e2]
    exact List.set_set_perm hil hjl
  · apply List.ext_getElem?
    intro k
    simp only [List.getElem?_take]
    split
    · rw [swp_get hil hjl, if_neg (by omega), if_neg (by omega)]
    · rfl
  · apply List.ext_getElem?
    intro k
    simp only [List.getElem?_drop]
    rw [swp_get hil hjl, if_neg (by omega), if_neg (by omega)]

section
variable {H : Heap} {b sz ep : Nat} {rows : List (List FC)}
/-- The two stores of an exchange. -/
theorem RB.swap (h : RB H b sz ep rows) (hg : Grid sz rows) {i j : Nat} (hi : i < rows.length) (hj : j < rows.length) :
    ∃ H1 H2, stC H (.ptr b (i * sz) ep) (rows[j].map .f) = some H1 ∧ RB H1 b sz ep (rows.set i rows[j]) ∧ stC H1 (.ptr b (j * sz) ep) (rows[i].map .f) = some H2 ∧ RB H2 b sz ep (swp rows i j) ∧ Fm b H H2 := by
  have gi : rows[i].length = sz := hg _ (List.getElem_mem hi)
  have gj : rows[j].length = sz := hg _ (List.getElem_mem hj)
  obtain ⟨H1, s1, r1, f1, -⟩ := h.str hg hi gj
  have hg1 : Grid sz (rows.set i rows[j]) := fun r hr => by
    rcases List.mem_or_eq_of_mem_set hr with h | rfl
    · exact hg r h
    · exact gj
  obtain ⟨H2, s2, r2, f2, -⟩ := r1.str hg1 (j := j) (by simpa using hj) gi
  refine ⟨H1, H2, s1, r1, s2, ?_, f1.trans f2⟩
  have e1 : rows.getD i [] = rows[i] := by simp [List.getD, List.getElem?_eq_getElem hi]
  have e2 : rows.getD j [] = rows[j] := by simp [List.getD, List.getElem?_eq_getElem hj]
  simp only [swp, e1, e2]
  exact r2
theorem Seg.grid {a b : Nat} {l l' : List (List FC)} (h : Seg a b l l') (hg : Grid sz l) : Grid sz l' := fun r hr => hg r (h.1.mem_iff.1 hr)
end

/-- How rows compare. -/
structure Cmp (W : List FC → Prop) (c : List FC → List FC → Int) : Prop where
  asym : ∀ {x y}, W x → W y → c x y < 0 → ¬ c y x < 0
  trans : ∀ {x y z}, W x → W y → W z → ¬ c y x < 0 → ¬ c z y < 0 → ¬ c z x < 0
/-- From a to b the rows rise. -/
def Up (c : List FC → List FC → Int) (a b : Nat) (l : List (List FC)) : Prop := ∀ i j x y, a ≤ i → i < j → j < b → l[i]? = some x → l[j]? = some y → ¬ c y x < 0
end Km
end

section
namespace Km
open Go

/-- The blocks of n rows at a and at b are exchanged. -/
def Xch (l l' : List (List FC)) (a b n : Nat) : Prop := ∀ k : Nat, l'[k]? = if a ≤ k ∧ k < a + n then l[k - a + b]? else if b ≤ k ∧ k < b + n then l[k - b + a]? else l[k]?
theorem Xch.zero (l : List (List FC)) (a b : Nat) : Xch l l a b 0 := fun k => by
  rw [if_neg (by omega), if_neg (by omega)]
theorem Xch.step {l l' : List (List FC)} {a b i : Nat} (h : Xch l l' a b i) (hl : l'.length = l.length) (hab : a + i < b) (hb : b + i < l.length) : Xch l (swp l' (a + i) (b + i)) a b (i + 1) := fun k => by
  rw [swp_get (by omega) (by omega)]
  by_cases h1 : k = b + i
  · subst h1
    rw [if_pos rfl, h, if_neg (by omega), if_neg (by omega), if_neg (by omega), if_pos (by omega)]
    congr 1; omega
  rw [if_neg h1]
  by_cases h2 : k = a + i
  · subst h2
    rw [if_pos rfl, h, if_neg (by omega), if_neg (by omega), if_pos (by omega)]
    congr 1; omega
  rw [if_neg h2, h k]
  by_cases h3 : a ≤ k ∧ k < a + i
  · rw [if_pos h3, if_pos (by omega)]
  rw [if_neg h3, if_neg (show ¬ (a ≤ k ∧ k < a + (i + 1)) by omega)]
  by_cases h4 : b ≤ k ∧ k < b + i
  · rw [if_pos h4, if_pos (by omega)]
  rw [if_neg h4, if_neg (by omega)]
theorem Xch.blocks {X P M Q Z l' : List (List FC)} {n : Nat} (hP : P.length = n) (hQ : Q.length = n) (h : Xch (X ++ (P ++ (M ++ (Q ++ Z)))) l' X.length (X.length + n + M.length) n) : l' = X ++ (Q ++ (M ++ (P ++ Z))) := by
  apply List.ext_getElem?
  intro k
  rw [h k]
  by_cases k1 : k < X.length
  · rw [if_neg (by omega), if_neg (by omega), List.getElem?_append_left k1, List.getElem?_append_left k1]
  rw [List.getElem?_append_right (l₁ := X) (l₂ := Q ++ (M ++ (P ++ Z))) (by omega)]
  by_cases k2 : k < X.length + n
  · rw [if_pos (by omega), List.getElem?_append_right (by omega), List.getElem?_append_right (by omega), List.getElem?_append_right (by omega), List.getElem?_append_left (by omega), List.getElem?_append_left (by omega)]
    congr 1; omega
  rw [if_neg (by omega), List.getElem?_append_right (l₁ := Q) (by omega)]
  by_cases k3 : k < X.length + n + M.length
  · rw [if_neg (by omega), List.getElem?_append_right (by omega), List.getElem?_append_right (by omega), List.getElem?_append_left (by omega), List.getElem?_append_left (by omega)]
    congr 1; omega
  rw [List.getElem?_append_right (l₁ := M) (l₂ := P ++ Z) (by omega)]
  by_cases k4 : k < X.length + n + M.length + n
  · rw [if_pos (by omega), List.getElem?_append_right (by omega), List.getElem?_append_left (by omega), List.getElem?_append_left (by omega)]
    congr 1; omega
  rw [if_neg (by omega), List.getElem?_append_right (by omega), List.getElem?_append_right (by omega), List.getElem?_append_right (by omega), List.getElem?_append_right (by omega), List.getElem?_append_right (by omega)]
  congr 1; omega

/-- Blocks [a, m) and [m, b) change places. -/
def Rot (l l' : List (List FC)) (a m b : Nat) : Prop := ∀ k : Nat, l'[k]? = if a ≤ k ∧ k < a + (b - m) then l[k - a + m]? else if a + (b - m) ≤ k ∧ k < b then l[k - (b - m)]? else l[k]?
theorem Rot.none (l : List (List FC)) {a m b : Nat} (ha : a ≤ m) (hm : m ≤ b) (h : a = m ∨ m = b) : Rot l l a m b := fun k => by
  rcases h with rfl | rfl
  · by_cases h1 : a ≤ k ∧ k < a + (b - a)
    · rw [if_pos h1]; congr 1; omega
    · rw [if_neg h1, if_neg (by omega)]
  · rw [if_neg (by omega)]
    by_cases h1 : a + (m - m) ≤ k ∧ k < m
    · rw [if_pos h1]; congr 1; omega
    · rw [if_neg h1]
theorem Rot.blocks {X U V Y : List (List FC)} : Rot (X ++ (U ++ (V ++ Y))) (X ++ (V ++ (U ++ Y))) X.length (X.length + U.length) (X.length + U.length + V.length) := fun k => by
  have e : X.length + U.length + V.length - (X.length + U.length) = V.length := by omega
  rw [e]
  by_cases k1 : k < X.length
  · rw [if_neg (by omega), if_neg (by omega), List.getElem?_append_left k1, List.getElem?_append_left k1]
  rw [List.getElem?_append_right (l₁ := X) (l₂ := V ++ (U ++ Y)) (by omega)]
  by_cases k2 : k < X.length + V.length
  · rw [if_pos (by omega), List.getElem?_append_right (l₁ := X) (by omega), List.getElem?_append_right (l₁ := U) (by omega), List.getElem?_append_left (l₁ := V) (l₂ := Y) (by omega), List.getElem?_append_left (l₁ := V) (l₂ := U ++ Y) (by omega)]
    congr 1; omega
  rw [if_neg (by omega), List.getElem?_append_right (l₁ := V) (l₂ := U ++ Y) (by omega)]
  by_cases k3 : k < X.length + U.length + V.length
  · rw [if_pos (by omega), List.getElem?_append_right (l₁ := X) (by omega), List.getElem?_append_left (l₁ := U) (l₂ := V ++ Y) (by omega), List.getElem?_append_left (l₁ := U) (l₂ := Y) (by omega)]
    congr 1; omega
  rw [if_neg (by omega), List.getElem?_append_right (l₁ := U) (l₂ := Y) (by omega), List.getElem?_append_right (l₁ := X) (by omega), List.getElem?_append_right (l₁ := U) (l₂ := V ++ Y) (by omega), List.getElem?_append_right (l₁ := V) (l₂ := Y) (by omega)]
  congr 1; omega
/-- A list as blocks. -/
theorem wz {l : List (List FC)} {a m b : Nat} (h1 : a ≤ m) (h2 : m ≤ b) (h3 : b ≤ l.length) : ∃ X U V Y, l = X ++ (U ++ (V ++ Y)) ∧ X.length = a ∧ U.length = m - a ∧ V.length = b - m := by
  refine ⟨l.take a, (l.drop a).take (m - a), (l.drop m).take (b - m), l.drop b, ?_, by simp; omega, by simp; omega, by simp; omega⟩
  have e2 : (l.drop m).take (b - m) ++ l.drop b = l.drop m := by
    have := List.take_append_drop (b - m) (l.drop m)
    rwa [List.drop_drop, show m + (b - m) = b by omega] at this
  have e1 : (l.drop a).take (m - a) ++ l.drop m = l.drop a := by
    have := List.take_append_drop (m - a) (l.drop a)
    rwa [List.drop_drop, show a + (m - a) = m by omega] at this
  rw [e2, e1, List.take_append_drop]

theorem Seg.mem {a b : Nat} {l l' : List (List FC)} (h : Seg a b l l') (hab : a ≤ b) (hb : b ≤ l.length) {i : Nat} {x : List FC} (h1 : a ≤ i) (h2 : i < b) (hx : l'[i]? = some x) : ∃ j, a ≤ j ∧ j < b ∧ l[j]? = some x := by
  obtain ⟨X, U, V, Y, e, lX, lU, lV⟩ := wz (Nat.le_refl a) hab hb
  have hl := h.len
  obtain ⟨X', U', V', Y', e', lX', lU', lV'⟩ := wz (l := l') (Nat.le_refl a) hab (by omega)
  obtain rfl : U = [] := List.length_eq_zero_iff.1 (by omega)
  obtain rfl : U' = [] := List.length_eq_zero_iff.1 (by omega)
  obtain ⟨hp, ht, hd⟩ := h
  subst e; subst e'
  have eX : X' = X := by
    simpa [List.take_append_of_le_length (show a ≤ X.length by omega), List.take_append_of_le_length (show a ≤ X'.length by omega), List.take_of_length_le (show X.length ≤ a by omega), List.take_of_length_le (show X'.length ≤ a by omega)] using ht
  have eY : Y' = Y := by
    have q : ∀ {A B C : List (List FC)}, A.length = a → B.length = b - a → (A ++ ([] ++ (B ++ C))).drop b = C := by
      intro A B C hA hB
      rw [List.nil_append, ← List.append_assoc, List.drop_append_of_le_length (by simp; omega), List.drop_of_length_le (by simp; omega), List.nil_append]
    rwa [q lX' lV', q lX lV] at hd
  subst eX; subst eY
  have hp : V'.Perm V := by
    have := (List.perm_append_left_iff X').1 hp
    simp only [List.nil_append] at this
    exact (List.perm_append_right_iff Y').1 this
  rw [List.nil_append, List.getElem?_append_right (by omega), List.getElem?_append_left (by omega)] at hx
  obtain ⟨j, hj⟩ := List.getElem?_of_mem (hp.mem_iff.1 (List.mem_of_getElem? hx))
  have hjl := (List.getElem?_eq_some_iff.1 hj).1
  refine ⟨a + j, by omega, by omega, ?_⟩
  rw [List.nil_append, List.getElem?_append_right (by omega), List.getElem?_append_left (by omega)]
  rw [← hj]; congr 1; omega

section
variable {W : List FC → Prop} {c : List FC → List FC → Int}

theorem Up.mono {a b a' b' : Nat} {l : List (List FC)} (h : Up c a b l) (ha : a ≤ a') (hb : b' ≤ b) : Up c a' b' l :=
  fun i j x y h1 h2 h3 hx hy => h i j x y (by omega) h2 (by omega) hx hy
theorem Up.one {a b : Nat} {l : List (List FC)} (h : b ≤ a + 1) : Up c a b l := fun i j x y h1 h2 h3 => by omega
theorem Up.of {a b : Nat} {l l' : List (List FC)} (h : Up c a b l) (he : ∀ k, a ≤ k → k < b → l'[k]? = l[k]?) : Up c a b l' := fun i j x y h1 h2 h3 hx hy =>
  h i j x y h1 h2 h3 (by rw [← he i h1 (by omega)]; exact hx) (by rw [← he j (by omega) h3]; exact hy)
/-- Row i is not above row j. -/
def LeI (c : List FC → List FC → Int) (l : List (List FC)) (i j : Nat) : Prop := ∀ x y, l[i]? = some x → l[j]? = some y → ¬ c y x < 0
theorem Up.le {a b i j : Nat} {l : List (List FC)} (hc : Cmp W c) (hW : ∀ r ∈ l, W r) (h : Up c a b l) (h1 : a ≤ i) (h2 : i ≤ j) (h3 : j < b) : LeI c l i j := fun x y hx hy => by
  by_cases e : i = j
  · subst e
    rw [hx] at hy; cases hy
    have := List.mem_of_getElem? hx
    intro q
    exact hc.asym (hW _ this) (hW _ this) q q
  · exact h i j x y h1 (by omega) h3 hx hy
theorem LeI.trans {l : List (List FC)} {i j k : Nat} (hc : Cmp W c) (hW : ∀ r ∈ l, W r) (h : LeI c l i j) (h' : LeI c l j k) (hj : j < l.length) : LeI c l i k := fun x y hx hy => by
  have hz := List.getElem?_eq_getElem hj
  exact hc.trans (hW _ (List.mem_of_getElem? hx)) (hW _ (List.getElem_mem hj)) (hW _ (List.mem_of_getElem? hy)) (h _ _ hx hz) (h' _ _ hz hy)

/-- Two rising segments, cut and exchanged in the middle, each half then made to rise. -/
theorem Ro {l l1 l2 l3 : List (List FC)} {a s m e b mid : Nat} (hc : Cmp W c) (hW : ∀ r ∈ l, W r) (u1 : Up c a m l) (u2 : Up c m b l) (h1 : a ≤ s) (h2 : s ≤ m) (h3 : m ≤ e) (h4 : e ≤ b) (hmid : mid + m = s + e) (hb : b ≤ l.length)
    (x1 : a < s → e < b → LeI c l (s - 1) e) (x2 : s < m → m < e → LeI c l (e - 1) s) (hr : Rot l l1 s m e) (hl1 : l1.length = l.length) (s2 : Seg a mid l1 l2) (g2 : Up c a mid l2) (s3 : Seg mid b l2 l3) (g3 : Up c mid b l3) : Up c a b l3 := by
  intro i j x y hi hij hj hx hy
  by_cases k1 : j < mid
  · rw [s3.lt (by omega)] at hx
    rw [s3.lt (by omega)] at hy
    exact g2 i j x y hi hij k1 hx hy
  by_cases k2 : mid ≤ i
  · exact g3 i j x y k2 hij hj hx hy
  have l2l := s2.len
  rw [s3.lt (by omega)] at hx
  obtain ⟨j', j1, j2, hy⟩ := s3.mem (by omega) (by omega) (by omega) hj hy
  rw [s2.ge (by omega)] at hy
  obtain ⟨i', i1, i2, hx⟩ := s2.mem (by omega) (by omega) hi (by omega) hx
  rw [hr i'] at hx
  rw [hr j'] at hy
  have fin : ∀ p q : Nat, LeI c l p q → l[p]? = some x → l[q]? = some y → ¬ c y x < 0 := fun p q h hp hq => h _ _ hp hq
  by_cases k3 : i' < s
  · rw [if_neg (by omega), if_neg (by omega)] at hx
    by_cases k4 : j' < e
    · rw [if_neg (by omega), if_pos (by omega)] at hy
      exact fin _ _ (u1.le hc hW (by omega) (by omega) (by omega)) hx hy
    · rw [if_neg (by omega), if_neg (by omega)] at hy
      exact fin _ _ (((u1.le hc hW (i := i') (j := s - 1) (by omega) (by omega) (by omega)).trans hc hW (x1 (by omega) (by omega)) (by omega)).trans hc hW (u2.le hc hW (i := e) (j := j') (by omega) (by omega) (by omega)) (by omega)) hx hy
  · rw [if_pos (by omega)] at hx
    by_cases k4 : j' < e
    · rw [if_neg (by omega), if_pos (by omega)] at hy
      exact fin _ _ (((u2.le hc hW (i := i' - s + m) (j := e - 1) (by omega) (by omega) (by omega)).trans hc hW (x2 (by omega) (by omega)) (by omega)).trans hc hW (u1.le hc hW (i := s) (j := j' - (e - m)) (by omega) (by omega) (by omega)) (by omega)) hx hy
    · rw [if_neg (by omega), if_neg (by omega)] at hy
      exact fin _ _ (u2.le hc hW (by omega) (by omega) (by omega)) hx hy

/-- Four segments one behind the other, the middle ones exchanged. -/
theorem P7 {l l' : List (List FC)} {a s m e b : Nat} (hc : Cmp W c) (hW : ∀ r ∈ l, W r) (u1 : Up c a m l) (u2 : Up c m b l) (h1 : a ≤ s) (h2 : s ≤ m) (h3 : m ≤ e) (h4 : e ≤ b) (hb : b ≤ l.length) (h5 : s < m ∨ m < e)
    (y1 : a < s → m < e → LeI c l (s - 1) m) (y2 : s < m → m < e → LeI c l (e - 1) s) (y3 : s < m → e < b → LeI c l (m - 1) e) (hr : Rot l l' s m e) : Up c a b l' := by
  intro i j x y hi hij hj hx hy
  rw [hr i] at hx
  rw [hr j] at hy
  have fin : ∀ p q : Nat, LeI c l p q → l[p]? = some x → l[q]? = some y → ¬ c y x < 0 := fun p q h hp hq => h _ _ hp hq
  by_cases i1 : i < s
  · rw [if_neg (by omega), if_neg (by omega)] at hx
    by_cases j1 : j < s
    · rw [if_neg (by omega), if_neg (by omega)] at hy
      exact fin _ _ (u1.le hc hW (by omega) (by omega) (by omega)) hx hy
    by_cases j2 : j < s + (e - m)
    · rw [if_pos (by omega)] at hy
      exact fin _ _ (((u1.le hc hW (i := i) (j := s - 1) (by omega) (by omega) (by omega)).trans hc hW (y1 (by omega) (by omega)) (by omega)).trans hc hW (u2.le hc hW (i := m) (j := j - s + m) (by omega) (by omega) (by omega)) (by omega)) hx hy
    rw [if_neg (by omega)] at hy
    by_cases j3 : j < e
    · rw [if_pos (by omega)] at hy
      exact fin _ _ (u1.le hc hW (by omega) (by omega) (by omega)) hx hy
    rw [if_neg (by omega)] at hy
    by_cases q : m < e
    · exact fin _ _ (((u1.le hc hW (i := i) (j := s - 1) (by omega) (by omega) (by omega)).trans hc hW (y1 (by omega) q) (by omega)).trans hc hW (u2.le hc hW (i := m) (j := j) (by omega) (by omega) (by omega)) (by omega)) hx hy
    · exact fin _ _ (((u1.le hc hW (i := i) (j := m - 1) (by omega) (by omega) (by omega)).trans hc hW (y3 (by omega) (by omega)) (by omega)).trans hc hW (u2.le hc hW (i := e) (j := j) (by omega) (by omega) (by omega)) (by omega)) hx hy
  by_cases i2 : i < s + (e - m)
  · rw [if_pos (by omega)] at hx
    by_cases j2 : j < s + (e - m)
    · rw [if_pos (by omega)] at hy
      exact fin _ _ (u2.le hc hW (by omega) (by omega) (by omega)) hx hy
    rw [if_neg (by omega)] at hy
    by_cases j3 : j < e
    · rw [if_pos (by omega)] at hy
      exact fin _ _ (((u2.le hc hW (i := i - s + m) (j := e - 1) (by omega) (by omega) (by omega)).trans hc hW (y2 (by omega) (by omega)) (by omega)).trans hc hW (u1.le hc hW (i := s) (j := j - (e - m)) (by omega) (by omega) (by omega)) (by omega)) hx hy
    rw [if_neg (by omega)] at hy
    exact fin _ _ (u2.le hc hW (by omega) (by omega) (by omega)) hx hy
  rw [if_neg (by omega)] at hx
  rw [if_neg (by omega)] at hy
  by_cases i3 : i < e
  · rw [if_pos (by omega)] at hx
    by_cases j3 : j < e
    · rw [if_pos (by omega)] at hy
      exact fin _ _ (u1.le hc hW (by omega) (by omega) (by omega)) hx hy
    rw [if_neg (by omega)] at hy
    exact fin _ _ (((u1.le hc hW (i := i - (e - m)) (j := m - 1) (by omega) (by omega) (by omega)).trans hc hW (y3 (by omega) (by omega)) (by omega)).trans hc hW (u2.le hc hW (i := e) (j := j) (by omega) (by omega) (by omega)) (by omega)) hx hy
  rw [if_neg (by omega)] at hx
  rw [if_neg (by omega)] at hy
  exact fin _ _ (u2.le hc hW (by omega) (by omega) (by omega)) hx hy
end
end Km
end

section
namespace Km
open Go

/-- A measure of what is read: it is at least what each part measures, and the length of each list and string. -/
structure Bulk {H : Type} (bk : DataW H → Nat) (M : Nat) : Prop where
  sl : ∀ es rs, bk (.slice es rs) ≤ M → es.length ≤ M ∧ ∀ e ∈ es, bk e ≤ M
  ag : ∀ ps, bk (.agg ps) ≤ M → ∀ p ∈ ps, bk p ≤ M
  st : ∀ bs, bk (.lit (.string bs)) ≤ M → bs.length ≤ M

/-- aN2 cells of a type, no list or string longer than M. -/
def gW (P : Program) (M : Nat) : Nat → TypeId → List FC → Prop
  | 0, _, _ => False
  | n + 1, t, xs => match P.underlying t with
    | some .bool => ∃ b, xs = [.bool b]
    | some (.int k) => ∃ m, xs = [.int k m] ∧ (Lit.int k m).wf = true
    | some .string => ∃ s, xs = [.str s] ∧ s.size ≤ M
    | some (.slice e) => ∃ g rows, xs = [sl g rows] ∧ Grid (P.cellsOf e) rows ∧ rows.length ≤ M ∧ ∀ r ∈ rows, gW P M n e r
    | some (.struct fs) => Bj (gW P M n) (fs.toList.map (·.type)) xs
    | some (.array k e) => ∃ rows, xs = rows.flatten ∧ rows.length = k ∧ Grid (P.cellsOf e) rows ∧ ∀ r ∈ rows, gW P M n e r
    | _ => False

section
variable {H : Type} {enc : TypeId × Value → H} {P : Program} {w : World} {base : Nat} {spare : Nat → Bool} {held : Bool} {σ : Nat → FuncId} {bk : DataW H → Nat} {M : Nat}

/-- What a value's cells come to. -/
def aBR (M : Nat) (σ : Nat → FuncId) (P : Program) (w : World) (n : Nat) (t : TypeId) (cs : List Value) : Prop := ∃ xs, A2 (FCR σ (Ib w) w) xs cs ∧ gW P M n t xs

theorem uz {n : Nat} (ih : ∀ {t : TypeId} {fuel : Nat} {cs : List Value} {x : DataW H × List MemPlace}, je P n t = true → DataW.trod enc P w base spare held fuel t cs = some x → bk x.1 ≤ M → aBR M σ P w n t cs ∧ cs.length = P.cellsOf t)
    {fuel : Nat} : ∀ (fs : List Field) (o N : Nat) (cs : List Value), DL P fs o N = true → (fs.all fun f => je P n f.type) = true → cs.length = N →
      (∀ f ∈ fs, ∃ x, DataW.trod enc P w base spare held fuel f.type ((cs.drop f.offset).take (P.cellsOf f.type)) = some x ∧ bk x.1 ≤ M) →
      ∃ xs, A2 (FCR σ (Ib w) w) xs (cs.drop o) ∧ Bj (gW P M n) (fs.map (·.type)) xs
  | [], o, N, cs, ht, _, hl, _ => by
    simp [DL] at ht
    exact ⟨[], by rw [List.drop_of_length_le (by omega)]; exact A2.nil, rfl⟩
  | f :: fs, o, N, cs, ht, hs, hl, hx => by
    simp only [DL, Bool.and_eq_true, beq_iff_eq] at ht
    simp only [List.all_cons, Bool.and_eq_true] at hs
    obtain ⟨x, hx0, hb0⟩ := hx f List.mem_cons_self
    rw [ht.1] at hx0
    obtain ⟨⟨p, hp, sp⟩, hlen⟩ := ih hs.1 hx0 hb0
    obtain ⟨q, hq, sq⟩ := uz ih fs (o + P.cellsOf f.type) N cs ht.2 hs.2 hl fun g hg => hx g (List.mem_cons_of_mem _ hg)
    refine ⟨p ++ q, ?_, p, q, rfl, sp, sq⟩
    have : cs.drop o = (cs.drop o).take (P.cellsOf f.type) ++ cs.drop (o + P.cellsOf f.type) := by
      rw [← List.drop_drop, List.take_append_drop]
    rw [this]
    exact hp.append hq

theorem LG {t e : TypeId} {k n : Nat} {cs : List Value} {x : DataW H × List MemPlace} (ht : P.underlying t = some (.array k e)) (h : DataW.trod enc P w base spare held (n + 1) t cs = some x) :
    cs.length = P.cellsOf t ∧ ∃ xs : List (DataW H × List MemPlace), x.1 = .agg (xs.map (·.1)) ∧ ∀ i, i < k → ∃ y ∈ xs, DataW.trod enc P w base spare held n e ((cs.drop (i * P.cellsOf e)).take (P.cellsOf e)) = some y := by
  unfold DataW.trod at h
  rw [ht] at h
  simp only [Option.ite_none_right_eq_some, Option.map_eq_some_iff] at h
  obtain ⟨hl, xs, hp, hd⟩ := h
  refine ⟨hl, xs, by rw [← hd], fun i hi => ?_⟩
  have := mapM_some_get hp i i (by simp [hi])
  have hlen : xs.length = k := by simpa using mapM_some_length hp
  rw [List.getElem?_eq_getElem (by omega)] at this
  exact ⟨_, List.getElem_mem _, this⟩
theorem aHO (hB : Bulk bk M) {n : Nat} : ∀ {t : TypeId} {fuel : Nat} {cs : List Value} {x : DataW H × List MemPlace}, je P n t = true → DataW.trod enc P w base spare held fuel t cs = some x → bk x.1 ≤ M →
    aBR M σ P w n t cs ∧ cs.length = P.cellsOf t := by
  induction n with
  | zero => intro t fuel cs x hs; simp [je] at hs
  | succ n ih =>
    intro t fuel cs x hs h hbk
    simp only [je] at hs
    split at hs
    · rename_i ht
      obtain ⟨b, rfl, _⟩ := DataW.trod_bool ht h
      exact ⟨⟨[.bool b], .cons (.bool b) .nil, by simp only [gW, ht]; exact ⟨b, rfl⟩⟩, by simp at hs; simp [hs]⟩
    · rename_i k ht
      obtain ⟨m, rfl, _, hw⟩ := DataW.trod_int ht h
      exact ⟨⟨[.int k m], .cons (.int k m) .nil, by simp only [gW, ht]; exact ⟨m, rfl, hw⟩⟩, by simp at hs; simp [hs]⟩
    · rename_i ht
      obtain ⟨s, rfl, rfl, hw⟩ := DataW.trod_string ht h
      have hw : s.size ≤ M := by
        have := hB.st _ hbk
        rwa [Array.length_toList] at this
      exact ⟨⟨[.str s], .cons (.str s) .nil, by simp only [gW, ht]; exact ⟨s, rfl, hw⟩⟩, by simp at hs; simp [hs]⟩
    · rename_i e ht
      simp only [Bool.and_eq_true, beq_iff_eq, bne_iff_ne] at hs
      obtain ⟨⟨h1, hsz⟩, he⟩ := hs
      rcases DataW.trod_slice ht h with ⟨rfl, _⟩ | ⟨a, len, cap, elems, rest, m, _, rfl, rfl, hb, hl, hm, hlen, hel, _, _⟩
      · exact ⟨⟨[sl .nil []], .cons .au .nil, by simp only [gW, ht]; exact ⟨.nil, [], rfl, fun r hr => by simp at hr, by simp, fun r hr => by simp at hr⟩⟩, by simpa using h1.symm⟩
      · refine ⟨?_, by simpa using h1.symm⟩
        obtain ⟨hM1, hM2⟩ := hB.sl _ _ hbk
        have hM1 : elems.length ≤ M := by simpa using hM1
        have each : ∀ i, i < len → ∃ p : List Value × List FC, w.cells? base (a.add (i * P.cellsOf e)) (P.cellsOf e) = some p.1 ∧ A2 (FCR σ (Ib w) w) p.2 p.1 ∧ gW P M n e p.2 := by
          intro i hi
          have := hel i hi
          rw [List.getElem?_eq_getElem (by omega)] at this
          obtain ⟨cs', h1, h2⟩ := Option.bind_eq_some_iff.1 this
          obtain ⟨⟨xs, ha, hs⟩, _⟩ := ih he h2 (hM2 _ (List.mem_map_of_mem (List.getElem_mem _)))
          exact ⟨(cs', xs), h1, ha, hs⟩
        obtain ⟨p, hp⟩ := Go.Deep.choose_lt each
        by_cases h0 : len = 0
        · subst h0
          refine ⟨[sl .fs []], .cons (.fs0 a cap) .nil, ?_⟩
          simp only [gW, ht]
          exact ⟨.fs, [], rfl, fun r hr => by simp at hr, by simp, fun r hr => by simp at hr⟩
        have hspot : a.spot = none := by
          have := hp 0 (by omega)
          obtain ⟨_, hl0, hc0⟩ := World.cells?_some this.1
          have := hc0 0 (by omega)
          rw [List.getElem?_eq_getElem (by omega)] at this
          have := (cell_lt this).2
          simpa [Addr.add] using this
        obtain ⟨c, o, sp⟩ := a
        simp only at hspot
        subst hspot
        let vss := (List.range len).map fun i => (p i).1
        let rows := (List.range len).map fun i => (p i).2
        have hv : ∀ v ∈ vss, v.length = P.cellsOf e := by
          intro v hv
          obtain ⟨i, hi, rfl⟩ := List.mem_map.1 hv
          exact (World.cells?_some (hp i (by simpa using hi)).1).2.1
        have hg : Grid (P.cellsOf e) rows := by
          intro r hr
          obtain ⟨i, hi, rfl⟩ := List.mem_map.1 hr
          obtain ⟨h1, h2, _⟩ := hp i (by simpa using hi)
          rw [h2.len, (World.cells?_some h1).2.1]
        have hA : A2 (FCR σ (Ib w) w) rows.flatten vss.flatten := by
          refine A2.flatten (by simp [rows, vss]) fun i xs ys hx hy => ?_
          simp only [rows, vss, List.getElem?_map, Option.map_eq_some_iff] at hx hy
          obtain ⟨i1, e1, rfl⟩ := hx
          obtain ⟨i2, e2, rfl⟩ := hy
          rw [e1] at e2
          cases e2
          have := List.mem_of_getElem? e1
          exact (hp i1 (by simpa using this)).2.1
        have hcell : ∀ i u, vss.flatten[i]? = some u → w.cell? ⟨c, o + i, none⟩ = some u := by
          intro i u hu
          have hi : i < vss.flatten.length := (List.getElem?_eq_some_iff.1 hu).1
          rw [qF hv] at hi
          have hvl : vss.length = len := by simp [vss]
          rw [hvl] at hi
          have hq : i / P.cellsOf e < len := Nat.div_lt_of_lt_mul (by rw [Nat.mul_comm]; exact hi)
          have hk : i % P.cellsOf e < P.cellsOf e := Nat.mod_lt _ (by omega)
          have hi' : i = i / P.cellsOf e * P.cellsOf e + i % P.cellsOf e := by rw [Nat.mul_comm]; exact (Nat.div_add_mod _ _).symm
          have hrow : vss[i / P.cellsOf e]? = some (p (i / P.cellsOf e)).1 := by simp [vss, hq]
          rw [hi', flat_get hv hrow hk] at hu
          obtain ⟨_, _, hc⟩ := World.cells?_some (hp _ hq).1
          have := hc _ hk
          rw [hu] at this
          rw [← this, Tt, ← hi']
        refine ⟨[sl .fs rows], .cons ?_ .nil, ?_⟩
        · have hne : rows ≠ [] := by simp [rows]; omega
          have hrl : rows.length = len := by simp [rows]
          have : sl Tg.fs rows = .fs rows.flatten len := by
            cases hr : rows with
            | nil => exact absurd hr hne
            | cons r rs => simp only [sl, List.isEmpty_cons, Bool.false_eq_true, if_false]; rw [← hr, hrl]
          rw [this]
          refine .fs rows.flatten len c o cap vss.flatten hl hA.len.symm (fun i hi => ?_) hcell fun i x u hx hu => hA.2 i x u hx hu
          have hi' : i < vss.flatten.length := by rw [← hA.len]; exact hi
          exact (cell_lt (hcell i _ (List.getElem?_eq_getElem hi'))).1
        · simp only [gW, ht]
          have hrl : rows.length = len := by simp [rows]
          refine ⟨.fs, rows, rfl, hg, by omega, fun r hr => ?_⟩
          obtain ⟨i, hi, rfl⟩ := List.mem_map.1 hr
          exact (hp i (by simpa using hi)).2.2
    · rename_i fs ht
      simp only [Bool.and_eq_true] at hs
      obtain ⟨xs, m, _, rfl, hl, _, hx⟩ := DataW.trod_struct ht h
      refine ⟨?_, hl⟩
      obtain ⟨ys, h1, h2⟩ := uz (n := n) (fuel := m) ih fs.toList 0 _ cs hs.1 hs.2 hl fun f hf => by
        obtain ⟨i, hi⟩ := List.getElem?_of_mem hf
        rw [Array.getElem?_toList] at hi
        have := hx i f hi
        rw [this]
        have hlt : i < fs.size := (Array.getElem?_eq_some_iff.1 hi).1
        exact ⟨_, List.getElem?_eq_getElem (by omega), hB.ag _ hbk _ (List.mem_map_of_mem (List.getElem_mem _))⟩
      exact ⟨ys, by simpa using h1, by simp only [gW, ht]; exact h2⟩
    · rename_i k e ht
      simp only [Bool.and_eq_true, beq_iff_eq] at hs
      obtain ⟨hct, he⟩ := hs
      cases fuel with
      | zero => simp [DataW.trod] at h
      | succ m =>
      obtain ⟨hl, ws, hws, hx⟩ := LG ht h
      rw [hws] at hbk
      refine ⟨?_, hl⟩
      have each : ∀ i, i < k → ∃ q : List FC, A2 (FCR σ (Ib w) w) q ((cs.drop (i * P.cellsOf e)).take (P.cellsOf e)) ∧ gW P M n e q := by
        intro i hi
        obtain ⟨y, hm, hy⟩ := hx i hi
        obtain ⟨⟨q, a, b⟩, _⟩ := ih he hy (hB.ag _ hbk _ (List.mem_map_of_mem hm))
        exact ⟨q, a, b⟩
      obtain ⟨q, hq⟩ := Go.Deep.choose_lt each
      let rows := (List.range k).map q
      have hcs : cs = ((List.range k).map fun i => (cs.drop (i * P.cellsOf e)).take (P.cellsOf e)).flatten := Bg (by rw [hl, hct])
      refine ⟨rows.flatten, ?_, ?_⟩
      · rw [hcs]
        refine A2.flatten (by simp [rows]) fun i xs ys hx hy => ?_
        simp only [rows, List.getElem?_map, Option.map_eq_some_iff] at hx hy
        obtain ⟨i1, e1, rfl⟩ := hx
        obtain ⟨i2, e2, rfl⟩ := hy
        rw [e1] at e2
        cases e2
        have := List.mem_of_getElem? e1
        exact (hq i1 (by simpa using this)).1
      · simp only [gW, ht]
        refine ⟨rows, rfl, by simp [rows], fun r hr => ?_, fun r hr => ?_⟩
        · obtain ⟨i, hi, rfl⟩ := List.mem_map.1 hr
          have hi' : i < k := by simpa using hi
          rw [(hq i hi').1.len, List.length_take, List.length_drop, hl, hct]
          have : (i + 1) * P.cellsOf e ≤ k * P.cellsOf e := Nat.mul_le_mul_right _ hi'
          rw [Nat.add_mul] at this
          omega
        · obtain ⟨i, hi, rfl⟩ := List.mem_map.1 hr
          exact (hq i (by simpa using hi)).2
    · simp at hs
end

/-! ### Shapes, taken apart -/

section
variable {P : Program} {M n : Nat} {t e : TypeId} {xs : List FC}
theorem dK {k : IntKind} (ht : P.underlying t = some (.int k)) (h : gW P M (n + 1) t xs) : ∃ m, xs = [.int k m] ∧ (Lit.int k m).wf = true := by simpa only [gW, ht] using h
theorem jM (ht : P.underlying t = some (.slice e)) (h : gW P M (n + 1) t xs) : ∃ g rows, xs = [sl g rows] ∧ Grid (P.cellsOf e) rows ∧ rows.length ≤ M ∧ ∀ r ∈ rows, gW P M n e r := by simpa only [gW, ht] using h
theorem gu {fs : Array Field} {ts : List TypeId} (ht : P.underlying t = some (.struct fs)) (hts : fs.toList.map (·.type) = ts) (h : gW P M (n + 1) t xs) : Bj (gW P M n) ts xs := by
  subst hts; simpa only [gW, ht] using h
theorem PS {k : Nat} (ht : P.underlying t = some (.array k e)) (h : gW P M (n + 1) t xs) : ∃ rows, xs = rows.flatten ∧ rows.length = k ∧ Grid (P.cellsOf e) rows ∧ ∀ r ∈ rows, gW P M n e r := by simpa only [gW, ht] using h
theorem Ap (ht : P.underlying t = some (.slice e)) (he : P.underlying e = some (.int .i64)) (h : gW P M (n + 2) t xs) : ∃ g l, xs = [sl g (ints l)] ∧ l.length ≤ M ∧ ∀ x ∈ l, (Lit.int .i64 x).wf = true := by
  obtain ⟨g, rows, rfl, _, hl, hr⟩ := jM ht h
  obtain ⟨l, rfl, hp⟩ := oP (enc := fun x => [fi x]) (p := fun x => (Lit.int .i64 x).wf = true) fun r hr' => dK he (hr r hr')
  exact ⟨g, l, rfl, by simpa using hl, hp⟩
end
open Go Go.ChangeShapes Go.WideShapes Go.ChangeAt Go.RowKit

/-- An argument by value, of a type. -/
def Dy (P : Program) (M : Nat) (t : TypeId) (a : V) : Prop := (∃ xs, a = .a (xs.map .f) ∧ gW P M 40 t xs ∧ (∃ d, P.underlying t = some d ∧ ((∃ fs, d = .struct fs) ∨ ∃ n e, d = .array n e))) ∨
  (∃ x, a = .c (.f x) ∧ gW P M 40 t [x])
def qK (P : Program) (M : Nat) : List TypeId → List V → Prop
  | [], as => as = []
  | t :: ts, as => ∃ a bs, as = a :: bs ∧ Dy P M t a ∧ qK P M ts bs

section
variable {H : Type} {enc : TypeId × Value → H} {P : Program} {W W' : World} {σ : Nat → FuncId} {bk : DataW H → Nat} {M : Nat} {tab : Nat → Option AFunc}

theorem NQ (hB : Bulk bk M) {t : TypeId} {v : Value} {d : DataW H} {ps : List MemPlace} {base : Nat} {spare : Nat → Bool} {held : Bool} {b0 : Nat} (hs : je P 40 t = true) (hval : Value.okWide P W .any b0 t v)
    (hd : DataW.Trod enc P W base spare held t v d ps) (hk : bk d ≤ M) : ∃ a, VR σ (X0 W) a v ∧ Dy P M t a := by
  obtain ⟨fuel, hf⟩ := hd
  obtain ⟨⟨xs, hA, hS⟩, hl⟩ := aHO (σ := σ) hB hs hf hk
  have scalar : v.cells.toList = [v] → ∃ a, VR σ (X0 W) a v ∧ Dy P M t a := by
    intro hv
    rw [hv] at hA
    match xs, hA.len with
    | [x], _ => exact ⟨.c (.f x), hA.of_cons.1, .inr ⟨x, rfl, hS⟩⟩
  unfold je at hs
  unfold Value.okWide at hval
  split at hval
  · rename_i fs ht
    obtain ⟨cs, rfl, _, _⟩ := hval
    exact ⟨_, OH hA, .inl ⟨xs, rfl, hS, _, ht, .inl ⟨_, rfl⟩⟩⟩
  · rename_i n e ht
    obtain ⟨cs, rfl, _, _⟩ := hval
    exact ⟨_, OH hA, .inl ⟨xs, rfl, hS, _, ht, .inr ⟨_, _, rfl⟩⟩⟩
  · rename_i h1 h2
    refine scalar ?_
    split at hs
    · rename_i ht
      obtain ⟨b, hb, _⟩ := DataW.trod_bool ht hf
      simp only [Cell.okWide, ht, Cell.ok] at hval
      cases v <;> simp_all [Value.cells]
    · rename_i ht
      obtain ⟨b, hb, _⟩ := DataW.trod_int ht hf
      simp only [Cell.okWide, ht, Cell.ok] at hval
      cases v <;> simp_all [Value.cells]
    · rename_i ht
      obtain ⟨b, hb, _⟩ := DataW.trod_string ht hf
      simp only [Cell.okWide, ht, Cell.ok] at hval
      cases v <;> simp_all [Value.cells]
    · rename_i ht
      simp only [Cell.okWide, ht, Cell.ok] at hval
      cases v <;> simp_all [Value.cells]
    · rename_i fs ht; exact absurd ht (h1 fs)
    · rename_i n e ht; exact absurd ht (h2 n e)
    · simp at hs

theorem zq (hB : Bulk bk M) {base : Nat} {spare : Nat → Bool} {held : Bool} {b0 : Nat} : ∀ {ts : List TypeId} {vs : List Value} {ds : List (DataW H)} {ps : List MemPlace}, (ts.all fun t => je P 40 t) = true →
    (∀ (j : Nat) t v, ts[j]? = some t → vs[j]? = some v → Value.okWide P W .any b0 t v) → DataW.TrodAll enc P W base spare held ts vs ds ps → (∀ d ∈ ds, bk d ≤ M) →
    ∃ as, A2 (VR σ (X0 W)) as vs ∧ qK P M ts as
  | [], [], [], _, _, _, _, _ => ⟨[], A2.nil, rfl⟩
  | t :: ts, v :: vs, d :: ds, ps, hs, hval, ⟨p, q, h1, h2, _⟩, hk => by
    simp only [List.all_cons, Bool.and_eq_true] at hs
    obtain ⟨a, ha, sa⟩ := NQ (σ := σ) hB hs.1 (hval 0 t v rfl rfl) h1 (hk d List.mem_cons_self)
    obtain ⟨bs, hb, sb⟩ := zq hB hs.2 (fun j t v h h' => hval (j + 1) t v (by simpa using h) (by simpa using h')) h2 fun x hx => hk x (List.mem_cons_of_mem _ hx)
    exact ⟨a :: bs, .cons ha hb, a, bs, rfl, sa, sb⟩
  | [], _ :: _, _, _, _, _, h, _ => by cases h
  | [], [], _ :: _, _, _, _, h, _ => by cases h
  | _ :: _, [], _, _, _, _, h, _ => by cases h
  | _ :: _, _ :: _, [], _, _, _, h, _ => by cases h

/-- The row's step. -/
theorem Nk (hB : Bulk bk M) (hE : Env P σ tab lD) {s : ChangeSpec} {f : Func} {fi : Nat} {tb : TypeId} (hvars : s.vars = []) (hlaid : laidOutB P = true) {ts : List TypeId} (hts : f.params.toList = ts)
    (hfn : ∀ ds : List (DataW H), ds.length = ts.length → s.fn H ds = ⟨[.lit (.bool true)], ds, []⟩)
    (hres : f.resultTypes = #[tb]) (htb : P.underlying tb = some .bool) (hread : (ts.all fun t => P.readableRec t && decide (t < P.types.size)) = true) (apP : (ts.all fun t => je P 40 t) = true)
    (hkm : ∀ as, qK P M ts as → Pure tab fi as (vb true)) {apart fresh handsOn again : Bool} {base : Nat} {args : Array Value} {ds gs : List (DataW H)} {before : List MemPlace}
    (hval : ∀ (j : Nat) t v, f.params[j]? = some t → args[j]? = some v → Value.okWide P W .any base t v) (hW : DataW.Whole enc P f.params.toList s.vars apart W args.toList ds gs before) (hk : ∀ d ∈ ds, bk d ≤ M) :
    Calls P (σ fi) args W fun e W' => ∃ v, e = .returned v ∧ s.post enc P f apart fresh handsOn again W args v W' := by
  have hW' := hW
  obtain ⟨p, q, hA, hV, hb, hfz, hnd⟩ := hW
  rw [hts] at hA
  rw [hvars] at hV
  obtain ⟨rfl, rfl⟩ := trodVars_none hV
  simp only [List.append_nil] at hb
  subst hb
  obtain ⟨as, h1, h2⟩ := zq (σ := σ) (b0 := base) hB apP (fun j t v h h' => hval j t v (by rw [← Array.getElem?_toList, hts]; exact h) (by rw [← Array.getElem?_toList]; exact h')) hA hk
  have hlen : ds.length = ts.length := by
    have : ∀ {ts : List TypeId} {vs : List Value} {ds : List (DataW H)} {ps : List MemPlace}, DataW.TrodAll enc P W 0 (fun _ => true) true ts vs ds ps → ds.length = ts.length := by
      intro ts
      induction ts with
      | nil => intro vs ds ps h; cases vs <;> cases ds <;> first | rfl | cases h
      | cons t ts ih => intro vs ds ps h; cases vs <;> cases ds <;> first | (obtain ⟨_, _, _, h, _⟩ := h; simp [ih h]) | cases h
    exact this hA
  have hfn' := hfn ds hlen
  have hc := Hz hE (hkm as h2) W h1
  rw [Array.toArray_toList] at hc
  refine hc.mono fun e W' h => ?_
  obtain ⟨he, hg⟩ := h
  subst he
  refine ⟨_, rfl, Ac (pa := before) (pv := []) hW' (fun b sp hd => ?_) (fun sp hsp => ?_) (fun sp _ => ?_) (by simp) hg ?_⟩
  · rw [List.append_nil, hfn', hres]
    exact trodAll_mk1 (shut_bool htb _)
  · rw [List.append_nil, hfn', hts]
    exact qY hlaid hg hread hA (fun p hp => hW'.lt p hp) hsp
  · rw [List.append_nil, hfn', hvars]
    exact rfl
  · exact ok_one hres rfl (okWide_bool_mk htb _)
end
end Km
end

section
namespace Km
open Go

def bI : C → Option Nat
  | .sl b _ _ _ _ _ => some b
  | _ => none
/-- A list of rows: nothing, or a block of its own. -/
def LR (H : Heap) (c : C) (sz : Nat) (rows : List (List FC)) : Prop := (rows = [] ∧ (c = .f .au ∨ c = .f .es)) ∨ (rows ≠ [] ∧ ∃ b ep, c = .sl b 0 rows.length 0 ep sz ∧ RB H b sz ep rows)
/-- All stays but the list's own block. -/
def Kb (H H' : Heap) (c : C) : Prop := H.length ≤ H'.length ∧ ∀ (i : Nat) y, H[i]? = some y → bI c ≠ some i → H'[i]? = some y

section
variable {H H' : Heap} {c : C} {sz : Nat} {rows : List (List FC)}
theorem LR.nil (H : Heap) (sz : Nat) : LR H (.f .au) sz [] := .inl ⟨rfl, .inl rfl⟩
theorem LR.keep (h : LR H c sz rows) (hk : ∀ i y, H[i]? = some y → bI c = some i → H'[i]? = some y) : LR H' c sz rows := by
  rcases h with h | ⟨h, b, ep, rfl, h2⟩
  · exact .inl h
  · exact .inr ⟨h, b, ep, rfl, hk b _ h2 rfl⟩
theorem LR.push (h : LR H c sz rows) (J : Heap) : LR (H ++ J) c sz rows := h.keep fun i y hy _ => by rw [List.getElem?_append_left (aT hy)]; exact hy
theorem LR.lt (h : LR H c sz rows) {i : Nat} (hi : bI c = some i) : i < H.length := by
  rcases h with ⟨_, rfl | rfl⟩ | ⟨h, b, ep, rfl, h2⟩
  · cases hi
  · cases hi
  · cases hi; exact h2.lt
theorem LR.Rh (h : LR H c sz rows) {i : Nat} {cs : List C} {fl : Nat} (hx : H[i]? = some (.box cs fl)) : bI c ≠ some i := by
  rcases h with ⟨_, rfl | rfl⟩ | ⟨h, b, ep, rfl, h2⟩
  · simp [bI]
  · simp [bI]
  · intro e
    cases e
    unfold RB at h2
    rw [h2] at hx; cases hx
theorem LR.set (h : LR H c sz rows) {i : Nat} (hi : bI c ≠ some i) (x : Blk) : LR (H.set i x) c sz rows := h.keep fun j y hy hj => by
  have : i ≠ j := by rintro rfl; exact hi hj
  rw [List.getElem?_set_ne this]; exact hy
theorem LR.len (h : LR H c sz rows) : bY H c = some rows.length := by
  rcases h with ⟨rfl, rfl | rfl⟩ | ⟨h, b, ep, rfl, h2⟩
  · rfl
  · rfl
  · exact h2.len
theorem LR.at (h : LR H c sz rows) (hg : Grid sz rows) {j : Nat} (hj : j < rows.length) : ∃ b ep, bH H sz none (.c c) (vi j) = some (.c (.ptr b (j * sz) ep)) ∧ ldV H (some sz) (.c (.ptr b (j * sz) ep)) = some (.a (rows[j].map .f)) := by
  rcases h with ⟨rfl, _⟩ | ⟨h, b, ep, rfl, h2⟩
  · simp at hj
  · have := h2.idx (n := rows.length) (c := 0) (k := .i64) (o := 0) (i := (j : Int)) (by omega) (by omega)
    rw [Int.toNat_natCast, Nat.zero_add] at this
    exact ⟨b, ep, this, h2.ldr hg (List.getElem?_eq_getElem hj)⟩
/-- By value. -/
theorem LR.ex (h : LR H c sz rows) (hg : Grid sz rows) (n : Nat) : ∃ g, exC (n + 1) H c = some (sl g rows) := by
  rcases h with ⟨rfl, rfl | rfl⟩ | ⟨h, b, ep, rfl, h2⟩
  · exact ⟨.nil, rfl⟩
  · exact ⟨.es, rfl⟩
  · refine ⟨.fs, ?_⟩
    have hl : rows.length * sz = rows.flatten.length := (fM hg).symm
    unfold RB at h2
    simp only [J9, h2]
    rw [if_pos ⟨trivial, trivial, by rw [List.length_map, Nat.zero_add, hl]; exact Nat.le_refl _⟩, List.drop_zero, List.take_of_length_le (by rw [List.length_map]; omega), Iq]
    cases rows with
    | nil => exact absurd rfl h
    | cons x l => simp [sl]
theorem aCt {g g' : Tg} {rows : List (List FC)} (h : rows ≠ []) : sl g rows = sl g' rows := by
  cases rows with
  | nil => exact absurd rfl h
  | cons x l => rfl
/-- By value, whatever else turns. -/
theorem LR.exU (h : LR H c sz rows) (hg : Grid sz rows) : ∃ g, ∀ (H' : Heap) (n : Nat), (∀ i y, H[i]? = some y → bI c = some i → H'[i]? = some y) → exC (n + 1) H' c = some (sl g rows) := by
  by_cases hr : rows = []
  · rcases h with ⟨rfl, rfl | rfl⟩ | ⟨h, _⟩
    · exact ⟨.nil, fun _ _ _ => rfl⟩
    · exact ⟨.es, fun _ _ _ => rfl⟩
    · exact absurd hr h
  · refine ⟨.fs, fun H' n hk => ?_⟩
    obtain ⟨g, e⟩ := (h.keep hk).ex hg n
    rw [e, aCt hr]
theorem LR.app (h : LR H c sz rows) (hg : Grid sz rows) (hsz : sz ≠ 0) {row : List FC} (hr : row.length = sz) {bytes : Nat} (hroom : dw (rows.length + 1) bytes = true) {b1 fl1 : Nat} (hb1 : H[b1]? = some (.box (row.map .f) fl1)) :
    ∃ c' H', dH H sz bytes (.c c) (.c (.sl b1 0 1 1 0 sz)) = some (.c c', H') ∧ LR H' c' sz (rows ++ [row]) ∧ Kb H H' c ∧ (bI c' = bI c ∨ bI c' = some H.length) := by
  have hadd : fA H sz (.c (.sl b1 0 1 1 0 sz)) = some (1, row.map .f) := NU hb1 (by simp [hr])
  rcases h with ⟨rfl, he⟩ | ⟨hne, b, ep, rfl, h2⟩
  · have hroom : dw 1 bytes = true := by simpa using hroom
    refine ⟨.sl H.length 0 1 0 0 sz, H ++ [.opn sz (row.map .f) 0 0 .loc], ?_, .inr ⟨by simp, H.length, 0, rfl, ?_⟩, ⟨by simp, fun i y hy _ => by rw [List.getElem?_append_left (aT hy)]; exact hy⟩, .inr rfl⟩
    · rcases he with rfl | rfl <;> simp [dH, hadd, hroom, hsz]
    · simp [RB]
  · have hlen : rows.length * sz = rows.flatten.length := (fM hg).symm
    unfold RB at h2
    refine ⟨.sl b 0 (rows.length + 1) 0 (ep + 1) sz, H.set b (.opn sz (rows.flatten.map .f ++ row.map .f) 0 (ep + 1) .loc), ?_, .inr ⟨by simp, b, ep + 1, by simp, ?_⟩, ⟨by simp, fun i y hy hn => ?_⟩, .inl rfl⟩
    · simp only [dH, hadd, hsz, if_false, h2, and_self, if_true]
      simp only [Nat.add_one_ne_zero, if_false]
      rw [if_pos ⟨trivial, by rw [List.length_map]; exact hlen, by simp⟩, hroom]
      simp
    · unfold RB
      rw [List.getElem?_set_self (aT h2)]
      simp
    · have : b ≠ i := by rintro rfl; exact hn rfl
      rw [List.getElem?_set_ne this]; exact hy
theorem Kb.refl (H : Heap) (c : C) : Kb H H c := ⟨Nat.le_refl _, fun _ _ h _ => h⟩
theorem Kb.push (H J : Heap) (c : C) : Kb H (H ++ J) c := ⟨by simp, fun i y hy _ => by rw [List.getElem?_append_left (aT hy)]; exact hy⟩
/-- Of Fm: the list's block alone. -/
theorem Kb.aHe {b o l cp ep s : Nat} (h : Fm b H H') : Kb H H' (.sl b o l cp ep s) := ⟨h.1, fun i y hy hn => by
  have : i ≠ b := by rintro rfl; exact hn rfl
  exact h.get hy this⟩
end
end Km
end

section
namespace Km
open Go

theorem su {α : Type} {sz : Nat} : ∀ {rows : List (List α)} {j : Nat} {row : List α}, (∀ r ∈ rows, r.length = sz) → rows[j]? = some row → (rows.flatten.drop (j * sz)).take sz = row
  | [], j, row, _, hj => by simp at hj
  | r :: rows, 0, row, hg, hj => by
    simp at hj; subst hj
    have := hg r List.mem_cons_self
    subst this
    simp
  | r :: rows, j + 1, row, hg, hj => by
    have hr := hg r List.mem_cons_self
    have ih := su (rows := rows) (j := j) (row := row) (fun x hx => hg x (List.mem_cons_of_mem _ hx)) (by simpa using hj)
    rw [List.flatten_cons, show (j + 1) * sz = r.length + j * sz by rw [hr, Nat.add_mul]; omega, ← List.drop_drop, List.drop_left]
    exact ih
theorem yF {α : Type} : ∀ {cs : List α} {k : Nat} {x : α}, k < cs.length → over cs k [x] = cs.set k x
  | [], k, x, h => by simp at h
  | c :: cs, 0, x, _ => by simp [over]
  | c :: cs, k + 1, x, h => by
    have := yF (cs := cs) (k := k) (x := x) (by simpa using h)
    simp only [over, List.length_cons, List.length_nil] at this ⊢
    rw [List.take_succ_cons, List.set_cons_succ, ← this]
    simp
theorem Fe {α : Type} {sz : Nat} : ∀ {rows : List (List α)} {j k : Nat} {row : List α} {x : α}, (∀ r ∈ rows, r.length = sz) → rows[j]? = some row → k < sz → rows.flatten.set (j * sz + k) x = (rows.set j (row.set k x)).flatten
  | [], j, k, row, x, _, hj, _ => by simp at hj
  | r :: rows, 0, k, row, x, hg, hj, hk => by
    simp at hj; subst hj
    have := hg r List.mem_cons_self
    simp only [List.flatten_cons, List.set_cons_zero, Nat.zero_mul, Nat.zero_add]
    rw [List.set_append_left _ _ (by omega)]
  | r :: rows, j + 1, k, row, x, hg, hj, hk => by
    have hr := hg r List.mem_cons_self
    have ih := Fe (rows := rows) (j := j) (k := k) (row := row) (x := x) (fun y hy => hg y (List.mem_cons_of_mem _ hy)) (by simpa using hj) hk
    simp only [List.flatten_cons, List.set_cons_succ]
    rw [List.set_append_right _ _ (by rw [hr, Nat.add_mul]; omega), ← ih]
    congr 2
    rw [hr, Nat.add_mul]; omega
theorem EO {α β : Type} {g : α → Option β} : ∀ {xs : List α} {ys : List β}, xs.length = ys.length → (∀ (j : Nat) x y, xs[j]? = some x → ys[j]? = some y → g x = some y) → bG g xs = some ys
  | [], [], _, _ => rfl
  | [], _ :: _, h, _ => by simp at h
  | _ :: _, [], h, _ => by simp at h
  | x :: xs, y :: ys, h, hg => by
    simp only [bG]
    rw [hg 0 x y rfl rfl, EO (xs := xs) (ys := ys) (by simpa using h) fun j a b ha hb => hg (j + 1) a b (by simpa using ha) (by simpa using hb)]
/-- Rows one by one. -/
theorem AB {β : Type} {g : C → Option β} : ∀ {xss : List (List C)} {yss : List (List β)}, xss.length = yss.length → (∀ (j : Nat) x y, xss[j]? = some x → yss[j]? = some y → bG g x = some y) → bG g xss.flatten = some yss.flatten
  | [], [], _, _ => rfl
  | [], _ :: _, h, _ => by simp at h
  | _ :: _, [], h, _ => by simp at h
  | x :: xs, y :: ys, h, hg => by
    rw [List.flatten_cons, List.flatten_cons]
    exact wL (hg 0 x y rfl rfl) (AB (xss := xs) (yss := ys) (by simpa using h) fun j a b ha hb => hg (j + 1) a b (by simpa using ha) (by simpa using hb))

theorem Nv {α : Type} {sz : Nat} : ∀ {rows : List (List α)} {j k n : Nat} {row : List α}, (∀ r ∈ rows, r.length = sz) → rows[j]? = some row → k + n ≤ sz → (rows.flatten.drop (j * sz + k)).take n = (row.drop k).take n := by
  intro rows j k n row hg hj hk
  have hr : row.length = sz := hg row (List.mem_of_getElem? hj)
  have h1 := su hg hj
  rw [← List.drop_drop, ← h1, List.drop_take, List.take_take, Nat.min_eq_left (by omega)]
theorem AY {α : Type} {sz : Nat} : ∀ {rows : List (List α)} {j k : Nat} {row xs : List α}, (∀ r ∈ rows, r.length = sz) → rows[j]? = some row → k + xs.length ≤ sz → over rows.flatten (j * sz + k) xs = (rows.set j (over row k xs)).flatten
  | [], j, k, row, xs, _, hj, _ => by simp at hj
  | r :: rows, 0, k, row, xs, hg, hj, hk => by
    simp at hj; subst hj
    have := hg r List.mem_cons_self
    simp only [over, List.flatten_cons, List.set_cons_zero, Nat.zero_mul, Nat.zero_add]
    rw [List.take_append_of_le_length (by omega), List.drop_append_of_le_length (by omega)]
    simp
  | r :: rows, j + 1, k, row, xs, hg, hj, hk => by
    have hr := hg r List.mem_cons_self
    have ih := AY (rows := rows) (j := j) (k := k) (row := row) (xs := xs) (fun y hy => hg y (List.mem_cons_of_mem _ hy)) (by simpa using hj) hk
    have e : (j + 1) * sz + k = r.length + (j * sz + k) := by rw [hr, Nat.add_mul]; omega
    simp only [over, List.flatten_cons, List.set_cons_succ] at ih ⊢
    rw [← ih, e, List.take_length_add_append, Nat.add_assoc, List.drop_length_add_append]
    simp
theorem CY {α : Type} {sz : Nat} {rows : List (List α)} (hg : ∀ r ∈ rows, r.length = sz) {j : Nat} (hj : j < rows.length) : j * sz + sz ≤ rows.flatten.length := by
  rw [qF hg]
  have : (j + 1) * sz ≤ rows.length * sz := Nat.mul_le_mul_right _ hj
  rw [Nat.add_mul] at this
  omega

section
variable {H : Heap} {b sz ep j k n : Nat} {rows : List (List FC)} {row : List FC}
/-- A part of a row. -/
theorem RB.ldp (h : RB H b sz ep rows) (hg : Grid sz rows) (hj : rows[j]? = some row) (hk : k + n ≤ sz) : ldV H (some n) (.c (.ptr b (j * sz + k) ep)) = some (.a (((row.drop k).take n).map .f)) := by
  unfold RB at h
  have hlen : row.length = sz := hg row (List.mem_of_getElem? hj)
  have := Nv (n := n) hg hj hk
  simp only [aU, h, if_true]
  have e : ((row.drop k).take n).length = n := by simp [hlen]; omega
  have hlt := CY hg (List.getElem?_eq_some_iff.1 hj).1
  rw [← List.map_drop]
  simp only [bC, List.length_map]
  rw [if_pos (by rw [List.length_drop]; omega), ← List.map_take, this]
theorem RB.ldc {x : FC} (h : RB H b sz ep rows) (hg : Grid sz rows) (hj : rows[j]? = some row) (hk : row[k]? = some x) : ldV H none (.c (.ptr b (j * sz + k) ep)) = some (.c (.f x)) := by
  unfold RB at h
  have hlen : row.length = sz := hg row (List.mem_of_getElem? hj)
  have hkl := (List.getElem?_eq_some_iff.1 hk).1
  have := flat_get hg hj (by omega : k < sz)
  simp only [aU, h, if_true]
  rw [List.map_drop.symm]
  have e : (rows.flatten.drop (j * sz + k))[0]? = some x := by rw [List.getElem?_drop, Nat.add_zero, this, hk]
  cases hd : rows.flatten.drop (j * sz + k) with
  | nil => rw [hd] at e; simp at e
  | cons y ys => rw [hd] at e; simp at e; simp [bC, e]
theorem RB.stp {xs : List FC} (h : RB H b sz ep rows) (hg : Grid sz rows) (hj : rows[j]? = some row) (hk : k + xs.length ≤ sz) : ∃ H', stC H (.ptr b (j * sz + k) ep) (xs.map .f) = some H' ∧ RB H' b sz ep (rows.set j (over row k xs)) ∧ Fm b H H' ∧ H'.length = H.length := by
  have hjl := (List.getElem?_eq_some_iff.1 hj).1
  have hin := CY hg hjl
  unfold RB at h ⊢
  refine ⟨H.set b (.opn sz ((rows.set j (over row k xs)).flatten.map .f) 0 ep .loc), ?_, List.getElem?_set_self (aT h), Fm.set _ _, by simp⟩
  have e : over (rows.flatten.map C.f) (j * sz + k) (xs.map .f) = ((rows.set j (over row k xs)).flatten).map .f := by
    rw [← AY hg hj hk]
    simp [over]
  simp only [dY, h, Nat.zero_le, true_and, List.length_map]
  rw [if_pos (by omega), e]
end

/-- slices.Clone. -/
def SL (sz : Nat) (zs : List FC) (bytes : Nat) : AFunc := ⟨[P.nat 0], [.tmp (P.nat 2)], .seq (.region [⟨D 2, .mov (.k (.c (.f (.au)))), none⟩] []) (.seq (.seq (.region [⟨D 3, .mov (R 0), none⟩, ⟨D 4, .eq false .sl (R 3) (.k (.c (.f (.au)))), none⟩] [])
  (.cond (R 4) (.seq (.region [⟨D 2, .mov (.k (.c (.f (.au)))), none⟩] []) .ret) .skip)) (.seq (.region [⟨D 5, .bf sz zs 0 [], none⟩, ⟨D 6, .mov (R 0), none⟩, ⟨D 7, .append sz bytes (R 5) (R 6), none⟩, ⟨D 2, .mov (R 7), none⟩] []) .ret))⟩

section
variable {tab : Nat → Option AFunc} {F sz bytes : Nat} {zs : List FC} {H : Heap} {g : Tg} {rows : List (List FC)}
theorem Bc {cs : List FC} {n : Nat} : eqV H .sl (.c (.f (.fs cs n))) (.c (.f .au)) = some false := rfl
theorem apY : eqV H .sl (.c (.f .au)) (.c (.f .au)) = some true := rfl
theorem aHT : eqV H .sl (.c (.f .es)) (.c (.f .au)) = some false := rfl
theorem uK (hT : tab F = some (SL sz zs bytes)) (hsz : sz ≠ 0) (hg : Grid sz rows) (hroom : dw rows.length bytes = true) :
    ∃ r H', Ev tab (.fn F) [.c (.f (sl g rows))] H r H' ∧ ∃ c J, r = .c c ∧ H' = H ++ J ∧ LR (H ++ J) c sz rows ∧ ∀ i, bI c = some i → H.length ≤ i := by
  refine jo (C := fun r H' => ∃ c J, r = .c c ∧ H' = H ++ J ∧ LR (H ++ J) c sz rows ∧ ∀ i, bI c = some i → H.length ≤ i) hT rfl fun Q hQ => ?_
  refine ak (aj (.inl rfl) ?_)
  simp
  refine ak ?_
  refine ak (aj (.inl rfl) ?_)
  cases rows with
  | nil =>
    cases g with
    | nil =>
      simp [sl, Tg.fc, apY]
      refine aI (by simp) ?_
      refine ak (aj (.inl rfl) ?_)
      simp
      exact aO (hQ _ _ (.c (.f .au)) rfl (by simp [Km.results, bG]) ⟨_, [], rfl, by simp, .inl ⟨rfl, .inl rfl⟩, by simp [bI]⟩)
    | es =>
      simp [sl, Tg.fc, aHT]
      refine aB (by simp) (aN ?_)
      refine ak (aj (.inl rfl) ?_)
      simp [dH, fA, bY, dA, hsz]
      exact aO (hQ _ _ (.c (.f .es)) rfl (by simp [Km.results, bG]) ⟨_, [], rfl, by simp, .inl ⟨rfl, .inr rfl⟩, by simp [bI]⟩)
    | fs =>
      simp [sl, Tg.fc, Bc]
      refine aB (by simp) (aN ?_)
      refine ak (aj (.inl rfl) ?_)
      simp [dH, fA, bY, dA, hsz]
      exact aO (hQ _ _ (.c (.f .es)) rfl (by simp [Km.results, bG]) ⟨_, [], rfl, by simp, .inl ⟨rfl, .inr rfl⟩, by simp [bI]⟩)
  | cons x r =>
    have hadd : fA H sz (.c (.f (.fs (x :: r).flatten (x :: r).length))) = some ((x :: r).length, (x :: r).flatten.map .f) := by
      have h1 := Fv (H := H) (g := .fs) hg
      have h2 := Rz (H := H) .fs (x :: r)
      simp only [sl, List.isEmpty_cons, Bool.false_eq_true, if_false] at h1 h2
      simp only [fA, h1, h2]
    have hroom' : dw (r.length + 1) bytes = true := by simpa using hroom
    simp only [sl, List.isEmpty_cons, Bool.false_eq_true, if_false]
    simp [Bc]
    refine aB (by simp) (aN ?_)
    refine ak (aj (.inl rfl) ?_)
    simp only [List.flatten_cons, List.length_cons] at hadd
    simp [dH, hadd, hsz, hroom']
    refine aO (hQ _ _ (.c (.sl H.length 0 (r.length + 1) 0 0 sz)) rfl (by simp [Km.results, bG]) ⟨_, [.opn sz ((x :: r).flatten.map .f) 0 0 .loc], rfl, by simp, .inr ⟨by simp, H.length, 0, rfl, by simp [RB]⟩, by simp [bI]⟩)
/-- By value. -/
theorem SK (hT : tab F = some (SL sz zs bytes)) (hsz : sz ≠ 0) (hg : Grid sz rows) (hroom : dw rows.length bytes = true) : ∃ g', Km.Pure tab F [.c (.f (sl g rows))] = Eq (.c (.f (sl g' rows))) := by
  obtain ⟨r, H', he, c, J, rfl, hJ, h, -⟩ := uK (H := []) (g := g) hT hsz hg hroom
  rw [List.nil_append] at hJ h
  subst hJ
  obtain ⟨g', h'⟩ := h.ex hg 63
  exact ⟨g', Km.Pure.eq ⟨_, _, he, by simp only [exV, dD, deep]; rw [h']; rfl⟩⟩
end
end Km
end

section
namespace Km
open Go

theorem FT {H : Heap} {sz : Nat} {g : Tg} {rows : List (List FC)} (hg : Grid sz rows) : fA H sz (.c (.f (sl g rows))) = some (rows.length, rows.flatten.map .f) := by
  have h1 := Fv (H := H) (g := g) hg
  have h2 := Rz (H := H) g rows
  have e : ∀ s, sl g rows ≠ .str s := fun s => by cases rows <;> cases g <;> simp [sl, Tg.fc]
  generalize sl g rows = x at *
  cases x <;> simp only [fA, h1, h2]
  exact absurd rfl (e _)
theorem aoD {H : Heap} {sz : Nat} {g : Tg} {rows : List (List FC)} {k : Nat} (hg : Grid sz rows) (hk : k ≤ rows.length) (hn : rows.length ≤ 9223372036854775807) :
    ∃ g', iM H sz (.c (.f (sl g rows))) (some (vi k)) none none = some (.c (.f (sl g' (rows.drop k)))) := by
  cases rows with
  | nil =>
    have : k = 0 := by simpa using hk
    subst this
    cases g
    · exact ⟨.nil, rfl⟩
    · exact ⟨.es, rfl⟩
    · exact ⟨.fs, by simp [sl, Tg.fc, iM, cO]; rfl⟩
  | cons x r =>
    refine ⟨.fs, ?_⟩
    have hb : bnd (vi k) (x :: r).length = some k := by
      have : (0 : Int) ≤ (k : Int) ∧ (k : Int) ≤ ((x :: r).length : Int) := ⟨by omega, by omega⟩
      show (if (0 : Int) ≤ (k : Int) ∧ (k : Int) ≤ ((x :: r).length : Int) then some (k : Int).toNat else none) = some k
      rw [if_pos this, Int.toNat_natCast]
    have hbv : cO (x :: r).length (x :: r).length (some (vi k)) none none = some (k, (x :: r).length, (x :: r).length) := by
      simp [cO]
      simp only [List.length_cons] at hb
      rw [hb]; rfl
    show iM H sz (.c (.f (.fs (x :: r).flatten (x :: r).length))) _ _ _ = _
    simp only [iM, hbv]
    have h1 : ((x :: r).flatten.drop (k * sz)).take (((x :: r).length - k) * sz) = ((x :: r).drop k).flatten := by
      rw [vX k hg, List.take_of_length_le]
      rw [fM (fun y hy => hg y (List.mem_of_mem_drop hy)), List.length_drop]
      exact Nat.le_refl _
    rw [h1]
    have h2 : sl .fs ((x :: r).drop k) = .fs ((x :: r).drop k).flatten ((x :: r).length - k) := by
      cases hd : (x :: r).drop k with
      | nil =>
        have := congrArg List.length hd
        simp only [List.length_drop, List.length_nil] at this
        rw [this]; rfl
      | cons y q =>
        have := congrArg List.length hd
        simp only [List.length_drop] at this
        rw [this]; rfl
    rw [h2]
    simp
theorem LR.aH2 {H : Heap} {c : C} {sz : Nat} {rows rows' : List (List FC)} (h : LR H c sz rows) (hg : Grid sz rows) (hsz : sz ≠ 0) (hg' : Grid sz rows') {bytes : Nat} (hroom : dw (rows.length + rows'.length) bytes = true) (g : Tg) :
    ∃ c' H', dH H sz bytes (.c c) (.c (.f (sl g rows'))) = some (.c c', H') ∧ LR H' c' sz (rows ++ rows') ∧ Kb H H' c ∧ (bI c' = bI c ∨ bI c' = some H.length) := by
  by_cases h0 : rows' = []
  · subst h0
    refine ⟨c, H, ?_, by simpa using h, Kb.refl H c, .inl rfl⟩
    have ha := FT (H := H) (g := g) hg'
    rcases h with ⟨rfl, rfl | rfl⟩ | ⟨hne, b, ep, rfl, h2⟩
    · simp only [dH, ha, hsz, if_false]; simp
    · simp only [dH, ha, hsz, if_false]; simp
    · unfold RB at h2
      simp only [dH, ha, hsz, if_false, h2, and_self, if_true, List.length_nil]
  have hm : rows'.length ≠ 0 := fun e => h0 (List.length_eq_zero_iff.1 e)
  have hadd := FT (H := H) (g := g) hg'
  have hl' := fM hg'
  rcases h with ⟨rfl, he⟩ | ⟨hne, b, ep, rfl, h2⟩
  · have hroom : dw rows'.length bytes = true := by simpa using hroom
    refine ⟨.sl H.length 0 rows'.length 0 0 sz, H ++ [.opn sz (rows'.flatten.map .f) 0 0 .loc], ?_, .inr ⟨by simpa using h0, H.length, 0, by simp, ?_⟩, Kb.push H _ c, .inr rfl⟩
    · rcases he with rfl | rfl <;> simp [dH, hadd, hroom, hsz, hm]
    · simp [RB]
  · have hlen : rows.length * sz = rows.flatten.length := (fM hg).symm
    unfold RB at h2
    refine ⟨.sl b 0 (rows.length + rows'.length) 0 (ep + 1) sz, H.set b (.opn sz (rows.flatten.map .f ++ rows'.flatten.map .f) 0 (ep + 1) .loc), ?_, .inr ⟨by simp [hne], b, ep + 1, by simp, ?_⟩, ⟨by simp, fun i y hy hn => ?_⟩, .inl rfl⟩
    · simp only [dH, hadd, hsz, if_false, h2, and_self, if_true, hm]
      rw [if_pos ⟨trivial, by rw [List.length_map]; exact hlen, by simp⟩, hroom]
      simp
    · unfold RB
      rw [List.getElem?_set_self (aT h2)]
      simp
    · have : b ≠ i := by rintro rfl; exact hn rfl
      rw [List.getElem?_set_ne this]; exact hy
end Km
end

section
namespace Km
open Go

def PW : List aV := [⟨D 11, .mov (R 5), none⟩, ⟨D 12, .mov (R 0), none⟩, ⟨D 13, .len (R 12), none⟩, ⟨D 14, .bin .lss (R 11) (R 13), none⟩]
def aGa (c : Nat) (test : List aV) : AFunc := ⟨[P.nat 0, P.nat 1], [.tmp (P.nat 4)], .seq (.region [⟨D 4, .mov (.k (.c (.f (.bool false)))), none⟩] []) (.seq
  (.seq (.region [⟨D 6, .mov (R 0), none⟩, ⟨D 7, .len (R 6), none⟩, ⟨D 8, .mov (R 1), none⟩, ⟨D 9, .len (R 8), none⟩, ⟨D 10, .bin .neq (R 7) (R 9), none⟩] []) (.cond (R 10) (.seq (.region [⟨D 4, .mov (.k (.c (.f (.bool false)))), none⟩] []) .ret) .skip))
  (.seq (.seq (.region [⟨D 5, .mov (.k (.c (.f (.int .i64 0)))), none⟩] []) (Fq 0 5 14 15 16 PW (.block 1 (.seq (.region test []) (.cond (R c) (.seq (.region [⟨D 4, .mov (.k (.c (.f (.bool false)))), none⟩] []) .ret) .skip)))))
  (.seq (.region [⟨D 4, .mov (.k (.c (.f (.bool true)))), none⟩] []) .ret)))⟩

theorem xH {tab : Nat → Option AFunc} {f c : Nat} {test : List aV} (hT : tab f = some (aGa c test)) {g g' : Tg} {rows rows' : List (List FC)} (hl : rows.length ≤ 9223372036854775807) (he : rows'.length = rows.length)
    (ht : ∀ (j : Nat), j < rows.length → ∀ (t : T) (H : Heap) (L : St → Prop), t.g 0 = .c (.f (sl g rows)) → t.g 1 = .c (.f (sl g' rows')) → t.g 5 = vi j →
      (∀ t' : T, t'.g 0 = .c (.f (sl g rows)) → t'.g 1 = .c (.f (sl g' rows')) → t'.g 5 = vi j → t'.g c = vb false → L ⟨t', [], H⟩) → OPS tab test ⟨t, [], H⟩ L) :
    Km.Pure tab f [.c (.f (sl g rows)), .c (.f (sl g' rows'))] = Eq (vb true) := Kf.eq (by
  refine jD hT rfl fun H Q hQ => ?_
  refine ak (aj (.inl rfl) ?_)
  simp
  refine ak ?_
  refine ak (aj (.inl rfl) ?_)
  simp [he]
  refine aB (by simp) (aN ?_)
  refine ak ?_
  refine ak (aj (.inl rfl) ?_)
  simp
  refine iU rows.length (fun j t H' => t.g 0 = .c (.f (sl g rows)) ∧ t.g 1 = .c (.f (sl g' rows')) ∧ H = H') hl rfl (by simp) ⟨by simp, by simp, rfl⟩ ?_ ?_ ?_
  · rintro j t _ L hj ⟨g0, g1, rfl⟩ ha hL
    simp [PW, ha, g0]
    exact hL _ ⟨by simp [g0], by simp [g1], rfl⟩ (by simp [ha]) (by simp)
  · rintro j t _ hj ⟨g0, g1, rfl⟩ ha next
    refine aS ?_
    refine ak (aj (.inl rfl) ?_)
    refine ht j hj _ _ _ g0 g1 ha fun t' g0 g1 g5 gc => ?_
    refine aB (by simp [gc]) (aN (aP (next _ _ ⟨by simp [g0], by simp [g1], rfl⟩ (by simp [g5]))))
  · rintro t _ ⟨g0, g1, rfl⟩ ha
    refine ak (aj (.inl rfl) ?_)
    simp
    refine aO (hQ _ _ ?_)
    simp)
end Km
end

section
set_option linter.unusedVariables false
namespace Km
open Go

/-- The numbers of the functions. -/
structure Srt where
  pdq : Nat
  ins : Nat
  heap : Nat
  sift : Nat
  brk : Nat
  piv : Nat
  rev : Nat
  part : Nat
  peq : Nat
  pins : Nat
  aNo : Nat
  med : Nat
  ord : Nat
  npt : Nat
  nxt : Nat
  len : Nat
  aCi : Nat
  sS : Nat
  rot : Nat
  swr : Nat

def aHu (σ : Srt) (sz : Nat) : ah := .region [⟨D 10, .mov (R 1), none⟩, ⟨D 11, .bin .add (R 10) (.k (.c (.f (.int .i64 1)))), none⟩, ⟨D 8, .mov (R 11), none⟩] []
def aHq (σ : Srt) (sz : Nat) : ah := .region [⟨D 12, .mov (R 8), none⟩, ⟨D 13, .mov (R 2), none⟩, ⟨D 14, .bin .lss (R 12) (R 13), none⟩] []
def aHp (σ : Srt) (sz : Nat) : ah := .cond (R 14) .skip (.exit 0)
def aHr (σ : Srt) (sz : Nat) : ah := .seq (aHq σ sz) (aHp σ sz)
def aDT (σ : Srt) (sz : Nat) : ah := .region [⟨D 17, .mov (R 8), none⟩, ⟨D 9, .mov (R 17), none⟩] []
def aDO (σ : Srt) (sz : Nat) : ah := .region [⟨D 18, .mov (R 9), none⟩, ⟨D 19, .mov (R 1), none⟩, ⟨D 20, .bin .gtr (R 18) (R 19), none⟩, ⟨D 21, .mov (R 20), none⟩, ⟨D 22, .mov (R 3), G 21 true⟩, ⟨D 23, .mov (R 0), G 21 true⟩, ⟨D 24, .mov (R 9), G 21 true⟩, ⟨D 25, .aK sz none (R 23) (R 24), G 21 true⟩, ⟨D 26, .load (some sz) (R 25), G 21 true⟩, ⟨D 27, .mov (R 0), G 21 true⟩, ⟨D 28, .mov (R 9), G 21 true⟩, ⟨D 29, .bin .sub (R 28) (.k (.c (.f (.int .i64 1)))), G 21 true⟩, ⟨D 30, .aK sz none (R 27) (R 29), G 21 true⟩, ⟨D 31, .load (some sz) (R 30), G 21 true⟩, ⟨D 32, .bW (R 22) [(R 26), (R 31)] true, G 21 true⟩, ⟨D 33, .bin .lss (R 32) (.k (.c (.f (.int .i64 0)))), G 21 true⟩, ⟨D 34, .pick (R 21) (R 33) (.k (.c (.f (.bool false)))), none⟩] []
def aDN (σ : Srt) (sz : Nat) : ah := .cond (R 34) .skip (.exit 2)
def aDP (σ : Srt) (sz : Nat) : ah := .seq (aDO σ sz) (aDN σ sz)
def aDK (σ : Srt) (sz : Nat) : ah := .region [⟨D 37, .mov (R 0), none⟩, ⟨D 38, .mov (R 9), none⟩, ⟨D 39, .mov (R 0), none⟩, ⟨D 40, .mov (R 9), none⟩, ⟨D 41, .bin .sub (R 40) (.k (.c (.f (.int .i64 1)))), none⟩, ⟨D 42, .mov (R 0), none⟩, ⟨D 43, .mov (R 9), none⟩, ⟨D 44, .bin .sub (R 43) (.k (.c (.f (.int .i64 1)))), none⟩, ⟨D 45, .aK sz none (R 42) (R 44), none⟩, ⟨D 46, .load (some sz) (R 45), none⟩, ⟨D 47, .mov (R 0), none⟩, ⟨D 48, .mov (R 9), none⟩, ⟨D 49, .aK sz none (R 47) (R 48), none⟩, ⟨D 50, .load (some sz) (R 49), none⟩, ⟨D 51, .aK sz none (R 37) (R 38), none⟩, ⟨none, .store sz (R 51) (R 46), none⟩, ⟨D 52, .aK sz none (R 39) (R 41), none⟩, ⟨none, .store sz (R 52) (R 50), none⟩] []
def aDL (σ : Srt) (sz : Nat) : ah := .block 3 (aDK σ sz)
def aDJ (σ : Srt) (sz : Nat) : ah := .region [⟨D 35, .mov (R 9), none⟩, ⟨D 36, .bin .sub (R 35) (.k (.c (.f (.int .i64 1)))), none⟩, ⟨D 9, .mov (R 36), none⟩] []
def aDM (σ : Srt) (sz : Nat) : ah := .seq (aDL σ sz) (aDJ σ sz)
def aDQ (σ : Srt) (sz : Nat) : ah := .seq (aDP σ sz) (aDM σ sz)
def aDR (σ : Srt) (sz : Nat) : ah := .loop (aDQ σ sz)
def aDS (σ : Srt) (sz : Nat) : ah := .block 2 (aDR σ sz)
def aDU (σ : Srt) (sz : Nat) : ah := .seq (aDT σ sz) (aDS σ sz)
def aHn (σ : Srt) (sz : Nat) : ah := .block 1 (aDU σ sz)
def CP (σ : Srt) (sz : Nat) : ah := .region [⟨D 15, .mov (R 8), none⟩, ⟨D 16, .bin .add (R 15) (.k (.c (.f (.int .i64 1)))), none⟩, ⟨D 8, .mov (R 16), none⟩] []
def aHo (σ : Srt) (sz : Nat) : ah := .seq (aHn σ sz) (CP σ sz)
def JU (σ : Srt) (sz : Nat) : ah := .seq (aHr σ sz) (aHo σ sz)
def aHs (σ : Srt) (sz : Nat) : ah := .loop (JU σ sz)
def aHt (σ : Srt) (sz : Nat) : ah := .block 0 (aHs σ sz)
def aHv (σ : Srt) (sz : Nat) : ah := .seq (aHu σ sz) (aHt σ sz)
def aBH (σ : Srt) (sz : Nat) : AFunc := ⟨[P.nat 0, P.nat 1, P.nat 2, P.nat 3], [], (aHv σ sz)⟩

end Km
end

section
namespace Km
open Go

/-- A comparison that answers c for all rows W, in any heap. -/
def Cv (tab : Nat → Option AFunc) (cv : V) (W : List FC → Prop) (c : List FC → List FC → Int) : Prop :=
  ∀ x y, W x → W y → ∀ H, ∃ F ar J, dU cv [.a (x.map .f), .a (y.map .f)] = some (.fn F, ar) ∧ Ev tab (.fn F) ar H (vi (c x y)) (H ++ J)

section
variable {W : List FC → Prop} {c : List FC → List FC → Int} {l : List (List FC)}
theorem LeI.of_lt {i j : Nat} (hc : Cmp W c) (hW : ∀ r ∈ l, W r) {x y : List FC} (hx : l[i]? = some x) (hy : l[j]? = some y) (h : c x y < 0) : LeI c l i j := fun x' y' h1 h2 => by
  rw [hx] at h1; rw [hy] at h2; cases h1; cases h2
  exact hc.asym (hW _ (List.mem_of_getElem? hx)) (hW _ (List.mem_of_getElem? hy)) h
theorem LeI.of_le {i j : Nat} {x y : List FC} (hx : l[i]? = some x) (hy : l[j]? = some y) (h : ¬ c y x < 0) : LeI c l i j := fun x' y' h1 h2 => by
  rw [hx] at h1; rw [hy] at h2; cases h1; cases h2; exact h
theorem LeI.get {l' : List (List FC)} {i j i' j' : Nat} (h : LeI c l i j) (h1 : l'[i']? = l[i]?) (h2 : l'[j']? = l[j]?) : LeI c l' i' j' := fun x y hx hy => h x y (by rw [← h1]; exact hx) (by rw [← h2]; exact hy)

/-- All pairs up to i rise but those whose later one is j. -/
def Ins (c : List FC → List FC → Int) (a i j : Nat) (l : List (List FC)) : Prop := ∀ p q, a ≤ p → p < q → q ≤ i → q ≠ j → LeI c l p q
theorem Ins.start {a i : Nat} (h : Up c a i l) : Ins c a i i l := fun p q h1 h2 h3 h4 => fun x y => h p q x y h1 h2 (by omega)
theorem Ins.step {a i j : Nat} (hc : Cmp W c) (hW : ∀ r ∈ l, W r) (h : Ins c a i (j + 1) l) (ha : a ≤ j) (hj : j + 1 ≤ i) (hi : i < l.length) {x y : List FC} (hx : l[j + 1]? = some x) (hy : l[j]? = some y) (hlt : c x y < 0) : Ins c a i j (swp l (j + 1) j) := by
  intro p q h1 h2 h3 h4
  have g : ∀ k, (swp l (j + 1) j)[k]? = if k = j then l[j + 1]? else if k = j + 1 then l[j]? else l[k]? := fun k => swp_get (by omega) (by omega) k
  by_cases q1 : q = j + 1
  · subst q1
    by_cases p1 : p = j
    · subst p1
      exact (LeI.of_lt hc hW hx hy hlt).get (by rw [g, if_pos rfl]) (by rw [g, if_neg (by omega), if_pos rfl])
    · exact (h p j h1 (by omega) (by omega) (by omega)).get (by rw [g, if_neg (by omega), if_neg (by omega)]) (by rw [g, if_neg (by omega), if_pos rfl])
  · have gq : (swp l (j + 1) j)[q]? = l[q]? := by rw [g, if_neg h4, if_neg q1]
    by_cases p1 : p = j
    · subst p1
      exact (h (p + 1) q (by omega) (by omega) h3 q1).get (by rw [g, if_pos rfl]) gq
    by_cases p2 : p = j + 1
    · subst p2
      exact (h j q ha (by omega) h3 q1).get (by rw [g, if_neg (by omega), if_pos rfl]) gq
    · exact (h p q h1 h2 h3 q1).get (by rw [g, if_neg p1, if_neg p2]) gq
theorem Ins.front {a i : Nat} (h : Ins c a i a l) : Up c a (i + 1) l := fun p q x y h1 h2 h3 => h p q h1 h2 (by omega) (by omega) x y
theorem Ins.stop {a i j : Nat} (hc : Cmp W c) (hW : ∀ r ∈ l, W r) (h : Ins c a i (j + 1) l) (ha : a ≤ j) (hj : j + 1 ≤ i) (hi : i < l.length) (hle : LeI c l j (j + 1)) : Up c a (i + 1) l := by
  intro p q x y h1 h2 h3
  by_cases q1 : q = j + 1
  · subst q1
    by_cases p1 : p = j
    · subst p1; exact hle x y
    · exact ((h p j h1 (by omega) (by omega) (by omega)).trans hc hW hle (by omega)) x y
  · exact h p q h1 h2 (by omega) q1 x y
end

section
variable {tab : Nat → Option AFunc} {σ : Srt} {sz : Nat} {H : Heap} {b ep : Nat} {rows : List (List FC)} {cv : V} {W : List FC → Prop} {c : List FC → List FC → Int}

theorem RB.at (h : RB H b sz ep rows) {i : Nat} (hi : i < rows.length) : bH H sz none (.c (.sl b 0 rows.length 0 ep sz)) (vi i) = some (.c (.ptr b (i * sz) ep)) := by
  have := h.idx (n := rows.length) (c := 0) (k := .i64) (o := 0) (i := (i : Int)) (by omega) (by omega)
  rwa [Int.toNat_natCast, Nat.zero_add] at this
theorem RB.ldi (h : RB H b sz ep rows) (hg : Grid sz rows) {i : Nat} (hi : i < rows.length) : ldV H (some sz) (.c (.ptr b (i * sz) ep)) = some (.a (rows[i].map .f)) := h.ldr hg (List.getElem?_eq_getElem hi)

theorem IG (hT : tab σ.ins = some (aBH σ sz)) (hcv : Cv tab cv W c) (hc : Cmp W c) {n a e : Nat} (hn : rows.length = n) (hl : n ≤ 1000000000) (hrb : RB H b sz ep rows) (hg : Grid sz rows) (hW : ∀ r ∈ rows, W r) (hae : a ≤ e) (hen : e ≤ n) :
    ∃ r H', Ev tab (.fn σ.ins) [.c (.sl b 0 n 0 ep sz), vi a, vi e, cv] H r H' ∧ (r = .t [] ∧ Fm b H H' ∧ ∃ l', RB H' b sz ep l' ∧ Seg a e rows l' ∧ Up c a e l') := by
  refine jo hT rfl fun Q hQ => ?_
  refine ak (aj (.inl rfl) ?_)
  simp [wrap64 (n := (a : Int) + 1) (by omega) (by omega)]
  refine aS ?_
  refine iT (fun m s => ∃ (i : Nat) (t : T) (H1 : Heap) (l : List (List FC)), s = ⟨t, [], H1⟩ ∧ m = n + 1 - i ∧ a + 1 ≤ i ∧ (i ≤ e ∨ i = a + 1) ∧ t.g 0 = .c (.sl b 0 n 0 ep sz) ∧ t.g 1 = vi a ∧ t.g 2 = vi e ∧ t.g 3 = cv ∧ t.g 8 = vi i ∧
    Fm b H H1 ∧ RB H1 b sz ep l ∧ Seg a e rows l ∧ Up c a i l) _
    ⟨a + 1, _, H, rows, rfl, rfl, by omega, .inr rfl, by simp, by simp, by simp, by simp, by simp, Fm.refl H, hrb, Seg.refl _ _ _, Up.one (by omega)⟩ ?_
  rintro m s ⟨i, t, H1, l, rfl, rfl, hi1, hi, g0, g1, g2, g3, g8, hfr, hrb, hseg, hup⟩ ih
  have hlen := hseg.len
  refine ak ?_
  refine ak (aj (.inl rfl) ?_)
  simp [g8, g2]
  by_cases hlt : i < e
  case neg =>
    refine aB (by simp [hlt]) ?_
    refine dN (k' := []) rfl ?_
    exact jQ (hQ _ _ _ rfl rfl ⟨rfl, hfr, l, hrb, hseg, hup.mono (Nat.le_refl _) (by omega)⟩)
  refine aI (by simp [hlt]) (aN ?_)
  refine ak ?_
  refine aS ?_
  refine ak (aj (.inl rfl) ?_)
  simp [g8]
  refine aS ?_
  refine iT (fun m s => ∃ (j : Nat) (t : T) (H2 : Heap) (l2 : List (List FC)), s = ⟨t, [], H2⟩ ∧ j = m ∧ a ≤ j ∧ j ≤ i ∧ t.g 0 = .c (.sl b 0 n 0 ep sz) ∧ t.g 1 = vi a ∧ t.g 2 = vi e ∧ t.g 3 = cv ∧ t.g 8 = vi i ∧ t.g 9 = vi j ∧
    Fm b H H2 ∧ RB H2 b sz ep l2 ∧ Seg a e rows l2 ∧ Ins c a i j l2) i
    ⟨i, _, H1, l, rfl, rfl, by omega, by omega, by simp [g0], by simp [g1], by simp [g2], by simp [g3], by simp [g8], by simp, hfr, hrb, hseg, Ins.start hup⟩ ?_
  rintro m s ⟨j, t, H2, l2, rfl, rfl, hja, hji, g0, g1, g2, g3, g8, g9, hfr, hrb, hseg, hins⟩ ih2
  have hlen := hseg.len
  have hg2 := hseg.grid hg
  have hW2 : ∀ r ∈ l2, W r := fun r hr => hW r (hseg.1.mem_iff.1 hr)
  have stop : Up c a (i + 1) l2 → ∀ t : T, t.g 0 = .c (.sl b 0 n 0 ep sz) → t.g 1 = vi a → t.g 2 = vi e → t.g 3 = cv → t.g 8 = vi i → ∀ H3, Fm b H H3 → RB H3 b sz ep l2 →
      WP tab σ.ins none [.inBlock 1, .code (CP σ sz), .inLoop (JU σ sz), .inBlock 0] ⟨t, [], H3⟩ Q := by
    intro hp t g0 g1 g2 g3 g8 H3 hfr hrb
    refine aP (aj (.inl rfl) ?_)
    simp [g8, wrap64 (n := (i : Int) + 1) (by omega) (by omega)]
    exact ih (n + 1 - (i + 1)) _ (by omega) ⟨i + 1, _, H3, l2, rfl, rfl, by omega, .inl (by omega), by simp [g0], by simp [g1], by simp [g2], by simp [g3], by simp, hfr, hrb, hseg, hp⟩
  refine ak ?_
  refine ak (aj (.inl rfl) ?_)
  by_cases hj : j = a
  · subst hj
    simp [g9, g1]
    refine aB (by simp) ?_
    refine dN (k' := [.inBlock 1, .code (CP σ sz), .inLoop (JU σ sz), .inBlock 0]) rfl ?_
    exact stop hins.front _ (by simp [g0]) (by simp [g1]) (by simp [g2]) (by simp [g3]) (by simp [g8]) _ hfr hrb
  obtain ⟨k, rfl⟩ : ∃ k, j = k + 1 := ⟨j - 1, by omega⟩
  have k1 : k + 1 < l2.length := by omega
  have c1 : ((k + 1 : Nat) : Int) = (k : Int) + 1 := by omega
  have i1 := hrb.at k1
  have i0 := hrb.at (show k < l2.length by omega)
  have l1 := hrb.ldi hg2 k1
  have l0 := hrb.ldi hg2 (show k < l2.length by omega)
  rw [hlen, hn] at i1 i0
  rw [c1] at i1 g9
  obtain ⟨F, ar, J, vM, hev⟩ := hcv l2[k + 1] l2[k] (hW2 _ (List.getElem_mem _)) (hW2 _ (List.getElem_mem _)) H2
  have he := hev.eq
  have gt : (a : Int) < (k : Int) + 1 := by omega
  simp [g9, g0, g1, g3, gt, i1, i0, l1, l0, vM, he, -aU, wrap64 (n := (k : Int)) (by omega) (by omega)]
  by_cases hlt2 : c l2[k + 1] l2[k] < 0
  case neg =>
    refine aB (by simp [hlt2]) ?_
    refine dN (k' := [.inBlock 1, .code (CP σ sz), .inLoop (JU σ sz), .inBlock 0]) rfl ?_
    exact stop (hins.stop hc hW2 (by omega) hji (by omega) (LeI.of_le (List.getElem?_eq_getElem (by omega)) (List.getElem?_eq_getElem k1) hlt2)) _ (by simp [g0]) (by simp [g1]) (by simp [g2]) (by simp [g3]) (by simp [g8]) _ (hfr.trans (Fm.push _ _)) (hrb.push _)
  refine aI (by simp [hlt2]) (aN ?_)
  have w1 : l2[k + 1].length = sz := hg2 _ (List.getElem_mem _)
  have w0 : l2[k].length = sz := hg2 _ (List.getElem_mem _)
  have Nr := hrb.push J
  obtain ⟨HJ, hHJ⟩ : ∃ HJ, HJ = H2 ++ J := ⟨_, rfl⟩
  rw [← hHJ] at Nr ⊢
  have aNx : Fm b H HJ := by rw [hHJ]; exact hfr.trans (Fm.push _ _)
  have i1 := Nr.at k1
  have i0 := Nr.at (show k < l2.length by omega)
  have l1 := Nr.ldi hg2 k1
  have l0 := Nr.ldi hg2 (show k < l2.length by omega)
  obtain ⟨H3, H4, s1, r1, s2, r2, f2⟩ := Nr.swap hg2 k1 (show k < l2.length by omega)
  have i2 := r1.at (show k < (l2.set (k + 1) l2[k]).length by simp; omega)
  rw [List.length_set] at i2
  rw [hlen, hn] at i1 i0 i2
  rw [c1] at i1
  refine ak ?_
  refine aS ?_
  refine aj (.inl rfl) ?_
  simp [g9, g0, i1, i0, i2, l1, l0, s1, s2, w1, w0, -aU, -dY, wrap64 (n := (k : Int)) (by omega) (by omega)]
  refine aP ?_
  refine aj (.inl rfl) ?_
  simp [g9, wrap64 (n := (k : Int)) (by omega) (by omega)]
  exact ih2 k _ (by omega) ⟨k, _, H4, swp l2 (k + 1) k, rfl, rfl, by omega, by omega, by simp [g0], by simp [g1], by simp [g2], by simp [g3], by simp [g8], by simp, aNx.trans f2, r2,
    hseg.trans (xE (by omega) (by omega) (by omega) (by omega) (by omega)), hins.step hc hW2 (by omega) hji (by omega) (List.getElem?_eq_getElem k1) (List.getElem?_eq_getElem (by omega)) hlt2⟩
end
end Km
end

section
namespace Km
open Go

section
variable {tab : Nat → Option AFunc} {σ : Srt} {sz : Nat} {H : Heap} {b ep : Nat} {rows : List (List FC)} {cv : V} {W : List FC → Prop} {c : List FC → List FC → Int}

/-- All that an exchange of rows i and j asks. -/
theorem RB.swp (h : RB H b sz ep rows) (hg : Grid sz rows) {n i j : Nat} (hn : rows.length = n) (hi : i < n) (hj : j < n) : ∃ (x y : List FC) (H1 H2 : Heap), rows[i]? = some x ∧ rows[j]? = some y ∧
    bH H sz none (.c (.sl b 0 n 0 ep sz)) (vi i) = some (.c (.ptr b (i * sz) ep)) ∧ bH H sz none (.c (.sl b 0 n 0 ep sz)) (vi j) = some (.c (.ptr b (j * sz) ep)) ∧
    ldV H (some sz) (.c (.ptr b (i * sz) ep)) = some (.a (x.map .f)) ∧ ldV H (some sz) (.c (.ptr b (j * sz) ep)) = some (.a (y.map .f)) ∧ x.length = sz ∧ y.length = sz ∧
    stC H (.ptr b (i * sz) ep) (y.map .f) = some H1 ∧ bH H1 sz none (.c (.sl b 0 n 0 ep sz)) (vi j) = some (.c (.ptr b (j * sz) ep)) ∧ stC H1 (.ptr b (j * sz) ep) (x.map .f) = some H2 ∧ RB H2 b sz ep (swp rows i j) ∧ Fm b H H2 := by
  subst hn
  obtain ⟨H1, H2, s1, r1, s2, r2, f2⟩ := h.swap hg hi hj
  have i2 := r1.at (show j < (rows.set i rows[j]).length by simpa using hj)
  rw [List.length_set] at i2
  exact ⟨rows[i], rows[j], H1, H2, List.getElem?_eq_getElem hi, List.getElem?_eq_getElem hj, h.at hi, h.at hj, h.ldi hg hi, h.ldi hg hj, hg _ (List.getElem_mem _), hg _ (List.getElem_mem _), s1, i2, s2, r2, f2⟩
/-- All that comparing rows i and j asks. -/
theorem RB.ask (h : RB H b sz ep rows) (hg : Grid sz rows) (hcv : Cv tab cv W c) (hW : ∀ r ∈ rows, W r) {n i j : Nat} (hn : rows.length = n) (hi : i < n) (hj : j < n) : ∃ (x y : List FC) (F : Nat) (ar : List V) (J : Heap), rows[i]? = some x ∧ rows[j]? = some y ∧
    bH H sz none (.c (.sl b 0 n 0 ep sz)) (vi i) = some (.c (.ptr b (i * sz) ep)) ∧ bH H sz none (.c (.sl b 0 n 0 ep sz)) (vi j) = some (.c (.ptr b (j * sz) ep)) ∧
    ldV H (some sz) (.c (.ptr b (i * sz) ep)) = some (.a (x.map .f)) ∧ ldV H (some sz) (.c (.ptr b (j * sz) ep)) = some (.a (y.map .f)) ∧
    dU cv [.a (x.map .f), .a (y.map .f)] = some (.fn F, ar) ∧ Ev tab (.fn F) ar H = E2 (vi (c x y)) (H ++ J) ∧ W x ∧ W y := by
  subst hn
  obtain ⟨F, ar, J, h1, h2⟩ := hcv rows[i] rows[j] (hW _ (List.getElem_mem _)) (hW _ (List.getElem_mem _)) H
  exact ⟨rows[i], rows[j], F, ar, J, List.getElem?_eq_getElem hi, List.getElem?_eq_getElem hj, h.at hi, h.at hj, h.ldi hg hi, h.ldi hg hj, h1, h2.eq, hW _ (List.getElem_mem _), hW _ (List.getElem_mem _)⟩

/-- All that was there stays. -/
def Kp (H H' : Heap) : Prop := H.length ≤ H'.length ∧ ∀ b' : Nat, b' < H.length → H'[b']? = H[b']?
theorem Kp.refl (H : Heap) : Kp H H := ⟨Nat.le_refl _, fun _ _ => rfl⟩
theorem Kp.push (H J : Heap) : Kp H (H ++ J) := ⟨by simp, fun b' l => List.getElem?_append_left l⟩
theorem Kp.next {H H' H'' : Heap} {p : Nat} (h : Kp H H') (hp : H.length ≤ p) (h' : Fm p H' H'') : Kp H H'' := ⟨Nat.le_trans h.1 h'.1, fun b' l => (h'.2 b' (by omega) (Nat.lt_of_lt_of_le l h.1)).trans (h.2 b' l)⟩
end
end Km
end

section
set_option linter.unusedVariables false
namespace Km
open Go

def aCg (σ : Srt) (sz : Nat) : ah := .region [⟨D 6, .mov (.k (.c (.f (.int .i64 20)))), none⟩] []
def aCe (σ : Srt) (sz : Nat) : ah := .region [⟨D 10, .mov (R 6), none⟩, ⟨D 7, .mov (.k (.c (.f (.int .i64 0)))), none⟩, ⟨D 8, .mov (R 10), none⟩] []
def aB8 (σ : Srt) (sz : Nat) : ah := .region [⟨D 11, .mov (R 8), none⟩, ⟨D 12, .mov (R 1), none⟩, ⟨D 13, .bin .leq (R 11) (R 12), none⟩] []
def am6 (σ : Srt) (sz : Nat) : ah := .cond (R 13) .skip (.exit 0)
def aB9 (σ : Srt) (sz : Nat) : ah := .seq (aB8 σ sz) (am6 σ sz)
def am3 (σ : Srt) (sz : Nat) : ah := .region [⟨D 14, .mov (R 0), none⟩, ⟨D 15, .mov (R 7), none⟩, ⟨D 16, .mov (R 8), none⟩, ⟨D 17, .mov (R 2), none⟩, ⟨D 18, .call σ.ins [(R 14), (R 15), (R 16), (R 17)] true, none⟩] []
def am1 (σ : Srt) (sz : Nat) : ah := .region [⟨D 19, .mov (R 8), none⟩, ⟨D 7, .mov (R 19), none⟩] []
def am0 (σ : Srt) (sz : Nat) : ah := .region [⟨D 20, .mov (R 8), none⟩, ⟨D 21, .mov (R 6), none⟩, ⟨D 22, .bin .add (R 20) (R 21), none⟩, ⟨D 8, .mov (R 22), none⟩] []
def am2 (σ : Srt) (sz : Nat) : ah := .seq (am1 σ sz) (am0 σ sz)
def am4 (σ : Srt) (sz : Nat) : ah := .seq (am3 σ sz) (am2 σ sz)
def am5 (σ : Srt) (sz : Nat) : ah := .block 1 (am4 σ sz)
def aCa (σ : Srt) (sz : Nat) : ah := .seq (aB9 σ sz) (am5 σ sz)
def aCb (σ : Srt) (sz : Nat) : ah := .loop (aCa σ sz)
def aCc (σ : Srt) (sz : Nat) : ah := .block 0 (aCb σ sz)
def amZ (σ : Srt) (sz : Nat) : ah := .region [⟨D 23, .mov (R 0), none⟩, ⟨D 24, .mov (R 7), none⟩, ⟨D 25, .mov (R 1), none⟩, ⟨D 26, .mov (R 2), none⟩, ⟨D 27, .call σ.ins [(R 23), (R 24), (R 25), (R 26)] true, none⟩] []
def amV (σ : Srt) (sz : Nat) : ah := .region [⟨D 28, .mov (R 6), none⟩, ⟨D 29, .mov (R 1), none⟩, ⟨D 30, .bin .lss (R 28) (R 29), none⟩] []
def amU (σ : Srt) (sz : Nat) : ah := .cond (R 30) .skip (.exit 2)
def amW (σ : Srt) (sz : Nat) : ah := .seq (amV σ sz) (amU σ sz)
def amR (σ : Srt) (sz : Nat) : ah := .region [⟨D 31, .mov (R 6), none⟩, ⟨D 32, .bin .mul (.k (.c (.f (.int .i64 2)))) (R 31), none⟩, ⟨D 7, .mov (.k (.c (.f (.int .i64 0)))), none⟩, ⟨D 8, .mov (R 32), none⟩] []
def amL (σ : Srt) (sz : Nat) : ah := .region [⟨D 33, .mov (R 8), none⟩, ⟨D 34, .mov (R 1), none⟩, ⟨D 35, .bin .leq (R 33) (R 34), none⟩] []
def amK (σ : Srt) (sz : Nat) : ah := .cond (R 35) .skip (.exit 4)
def amM (σ : Srt) (sz : Nat) : ah := .seq (amL σ sz) (amK σ sz)
def amH (σ : Srt) (sz : Nat) : ah := .region [⟨D 36, .mov (R 0), none⟩, ⟨D 37, .mov (R 7), none⟩, ⟨D 38, .mov (R 7), none⟩, ⟨D 39, .mov (R 6), none⟩, ⟨D 40, .bin .add (R 38) (R 39), none⟩, ⟨D 41, .mov (R 8), none⟩, ⟨D 42, .mov (R 2), none⟩, ⟨D 43, .call σ.sS [(R 36), (R 37), (R 40), (R 41), (R 42)] true, none⟩] []
def amF (σ : Srt) (sz : Nat) : ah := .region [⟨D 44, .mov (R 8), none⟩, ⟨D 7, .mov (R 44), none⟩] []
def amE (σ : Srt) (sz : Nat) : ah := .region [⟨D 45, .mov (R 8), none⟩, ⟨D 46, .mov (R 6), none⟩, ⟨D 47, .bin .mul (.k (.c (.f (.int .i64 2)))) (R 46), none⟩, ⟨D 48, .bin .add (R 45) (R 47), none⟩, ⟨D 8, .mov (R 48), none⟩] []
def amG (σ : Srt) (sz : Nat) : ah := .seq (amF σ sz) (amE σ sz)
def amI (σ : Srt) (sz : Nat) : ah := .seq (amH σ sz) (amG σ sz)
def amJ (σ : Srt) (sz : Nat) : ah := .block 5 (amI σ sz)
def amN (σ : Srt) (sz : Nat) : ah := .seq (amM σ sz) (amJ σ sz)
def amO (σ : Srt) (sz : Nat) : ah := .loop (amN σ sz)
def amP (σ : Srt) (sz : Nat) : ah := .block 4 (amO σ sz)
def amC (σ : Srt) (sz : Nat) : ah := .region [⟨D 49, .mov (R 7), none⟩, ⟨D 50, .mov (R 6), none⟩, ⟨D 51, .bin .add (R 49) (R 50), none⟩, ⟨D 9, .mov (R 51), none⟩] []
def amA (σ : Srt) (sz : Nat) : ah := .region [⟨D 52, .mov (R 9), none⟩, ⟨D 53, .mov (R 1), none⟩, ⟨D 54, .bin .lss (R 52) (R 53), none⟩] []
def amx (σ : Srt) (sz : Nat) : ah := .region [⟨D 55, .mov (R 0), none⟩, ⟨D 56, .mov (R 7), none⟩, ⟨D 57, .mov (R 9), none⟩, ⟨D 58, .mov (R 1), none⟩, ⟨D 59, .mov (R 2), none⟩, ⟨D 60, .call σ.sS [(R 55), (R 56), (R 57), (R 58), (R 59)] true, none⟩] []
def amy (σ : Srt) (sz : Nat) : ah := .cond (R 54) (amx σ sz) .skip
def amB (σ : Srt) (sz : Nat) : ah := .seq (amA σ sz) (amy σ sz)
def amD (σ : Srt) (sz : Nat) : ah := .seq (amC σ sz) (amB σ sz)
def amw (σ : Srt) (sz : Nat) : ah := .region [⟨D 61, .mov (R 6), none⟩, ⟨D 62, .bin .mul (R 61) (.k (.c (.f (.int .i64 2)))), none⟩, ⟨D 6, .mov (R 62), none⟩] []
def Ju (σ : Srt) (sz : Nat) : ah := .seq (amD σ sz) (amw σ sz)
def amQ (σ : Srt) (sz : Nat) : ah := .seq (amP σ sz) (Ju σ sz)
def amS (σ : Srt) (sz : Nat) : ah := .seq (amR σ sz) (amQ σ sz)
def amT (σ : Srt) (sz : Nat) : ah := .block 3 (amS σ sz)
def Jv (σ : Srt) (sz : Nat) : ah := .seq (amW σ sz) (amT σ sz)
def amX (σ : Srt) (sz : Nat) : ah := .loop (Jv σ sz)
def amY (σ : Srt) (sz : Nat) : ah := .block 2 (amX σ sz)
def BH (σ : Srt) (sz : Nat) : ah := .seq (amZ σ sz) (amY σ sz)
def aCd (σ : Srt) (sz : Nat) : ah := .seq (aCc σ sz) (BH σ sz)
def aCf (σ : Srt) (sz : Nat) : ah := .seq (aCe σ sz) (aCd σ sz)
def aCh (σ : Srt) (sz : Nat) : ah := .seq (aCg σ sz) (aCf σ sz)
def aB7 (σ : Srt) (sz : Nat) : AFunc := ⟨[P.nat 0, P.nat 1, P.nat 2], [], (aCh σ sz)⟩

def aCq (σ : Srt) (sz : Nat) : ah := .region [⟨D 25, .mov (R 2), none⟩, ⟨D 26, .mov (R 1), none⟩, ⟨D 27, .bin .sub (R 25) (R 26), none⟩, ⟨D 28, .bin .eql (R 27) (.k (.c (.f (.int .i64 1)))), none⟩] []
def aCo (σ : Srt) (sz : Nat) : ah := .region [⟨D 29, .mov (R 2), none⟩, ⟨D 10, .mov (R 29), none⟩] []
def aCm (σ : Srt) (sz : Nat) : ah := .region [⟨D 30, .mov (R 3), none⟩, ⟨D 11, .mov (R 30), none⟩] []
def aoz (σ : Srt) (sz : Nat) : ah := .region [⟨D 31, .mov (R 10), none⟩, ⟨D 32, .mov (R 11), none⟩, ⟨D 33, .bin .lss (R 31) (R 32), none⟩] []
def aoy (σ : Srt) (sz : Nat) : ah := .cond (R 33) .skip (.exit 0)
def aoA (σ : Srt) (sz : Nat) : ah := .seq (aoz σ sz) (aoy σ sz)
def aov (σ : Srt) (sz : Nat) : ah := .region [⟨D 34, .mov (R 10), none⟩, ⟨D 35, .mov (R 11), none⟩, ⟨D 36, .bin .add (R 34) (R 35), none⟩, ⟨D 37, .cvi .u64 (R 36), none⟩, ⟨D 38, .bin .shr (R 37) (.k (.c (.f (.int .u64 1)))), none⟩, ⟨D 39, .cvi .i64 (R 38), none⟩, ⟨D 12, .mov (R 39), none⟩] []
def aot (σ : Srt) (sz : Nat) : ah := .region [⟨D 40, .mov (R 4), none⟩, ⟨D 41, .mov (R 0), none⟩, ⟨D 42, .mov (R 12), none⟩, ⟨D 43, .aK sz none (R 41) (R 42), none⟩, ⟨D 44, .load (some sz) (R 43), none⟩, ⟨D 45, .mov (R 0), none⟩, ⟨D 46, .mov (R 1), none⟩, ⟨D 47, .aK sz none (R 45) (R 46), none⟩, ⟨D 48, .load (some sz) (R 47), none⟩, ⟨D 49, .bW (R 40) [(R 44), (R 48)] true, none⟩, ⟨D 50, .bin .lss (R 49) (.k (.c (.f (.int .i64 0)))), none⟩] []
def aoq (σ : Srt) (sz : Nat) : ah := .region [⟨D 51, .mov (R 12), none⟩, ⟨D 52, .bin .add (R 51) (.k (.c (.f (.int .i64 1)))), none⟩, ⟨D 10, .mov (R 52), none⟩] []
def aop (σ : Srt) (sz : Nat) : ah := .region [⟨D 53, .mov (R 12), none⟩, ⟨D 11, .mov (R 53), none⟩] []
def aor (σ : Srt) (sz : Nat) : ah := .cond (R 50) (aoq σ sz) (aop σ sz)
def aou (σ : Srt) (sz : Nat) : ah := .seq (aot σ sz) (aor σ sz)
def aow (σ : Srt) (sz : Nat) : ah := .seq (aov σ sz) (aou σ sz)
def aox (σ : Srt) (sz : Nat) : ah := .block 1 (aow σ sz)
def aoB (σ : Srt) (sz : Nat) : ah := .seq (aoA σ sz) (aox σ sz)
def aoC (σ : Srt) (sz : Nat) : ah := .loop (aoB σ sz)
def aCk (σ : Srt) (sz : Nat) : ah := .block 0 (aoC σ sz)
def aon (σ : Srt) (sz : Nat) : ah := .region [⟨D 54, .mov (R 1), none⟩, ⟨D 13, .mov (R 54), none⟩] []
def aoi (σ : Srt) (sz : Nat) : ah := .region [⟨D 55, .mov (R 13), none⟩, ⟨D 56, .mov (R 10), none⟩, ⟨D 57, .bin .sub (R 56) (.k (.c (.f (.int .i64 1)))), none⟩, ⟨D 58, .bin .lss (R 55) (R 57), none⟩] []
def aoh (σ : Srt) (sz : Nat) : ah := .cond (R 58) .skip (.exit 2)
def aoj (σ : Srt) (sz : Nat) : ah := .seq (aoi σ sz) (aoh σ sz)
def aoe (σ : Srt) (sz : Nat) : ah := .region [⟨D 61, .mov (R 0), none⟩, ⟨D 62, .mov (R 13), none⟩, ⟨D 63, .mov (R 0), none⟩, ⟨D 64, .mov (R 13), none⟩, ⟨D 65, .bin .add (R 64) (.k (.c (.f (.int .i64 1)))), none⟩, ⟨D 66, .mov (R 0), none⟩, ⟨D 67, .mov (R 13), none⟩, ⟨D 68, .bin .add (R 67) (.k (.c (.f (.int .i64 1)))), none⟩, ⟨D 69, .aK sz none (R 66) (R 68), none⟩, ⟨D 70, .load (some sz) (R 69), none⟩, ⟨D 71, .mov (R 0), none⟩, ⟨D 72, .mov (R 13), none⟩, ⟨D 73, .aK sz none (R 71) (R 72), none⟩, ⟨D 74, .load (some sz) (R 73), none⟩, ⟨D 75, .aK sz none (R 61) (R 62), none⟩, ⟨none, .store sz (R 75) (R 70), none⟩, ⟨D 76, .aK sz none (R 63) (R 65), none⟩, ⟨none, .store sz (R 76) (R 74), none⟩] []
def aof (σ : Srt) (sz : Nat) : ah := .block 3 (aoe σ sz)
def aod (σ : Srt) (sz : Nat) : ah := .region [⟨D 59, .mov (R 13), none⟩, ⟨D 60, .bin .add (R 59) (.k (.c (.f (.int .i64 1)))), none⟩, ⟨D 13, .mov (R 60), none⟩] []
def aog (σ : Srt) (sz : Nat) : ah := .seq (aof σ sz) (aod σ sz)
def aok (σ : Srt) (sz : Nat) : ah := .seq (aoj σ sz) (aog σ sz)
def aol (σ : Srt) (sz : Nat) : ah := .loop (aok σ sz)
def aom (σ : Srt) (sz : Nat) : ah := .block 2 (aol σ sz)
def aoo (σ : Srt) (sz : Nat) : ah := .seq (aon σ sz) (aom σ sz)
def JB (σ : Srt) (sz : Nat) : ah := .seq (aoo σ sz) .ret
def aCl (σ : Srt) (sz : Nat) : ah := .seq (aCk σ sz) (JB σ sz)
def aCn (σ : Srt) (sz : Nat) : ah := .seq (aCm σ sz) (aCl σ sz)
def O7 (σ : Srt) (sz : Nat) : ah := .seq (aCo σ sz) (aCn σ sz)
def aCp (σ : Srt) (sz : Nat) : ah := .cond (R 28) (O7 σ sz) .skip
def aCr (σ : Srt) (sz : Nat) : ah := .seq (aCq σ sz) (aCp σ sz)
def aoa (σ : Srt) (sz : Nat) : ah := .region [⟨D 77, .mov (R 3), none⟩, ⟨D 78, .mov (R 2), none⟩, ⟨D 79, .bin .sub (R 77) (R 78), none⟩, ⟨D 80, .bin .eql (R 79) (.k (.c (.f (.int .i64 1)))), none⟩] []
def an8 (σ : Srt) (sz : Nat) : ah := .region [⟨D 81, .mov (R 1), none⟩, ⟨D 14, .mov (R 81), none⟩] []
def an6 (σ : Srt) (sz : Nat) : ah := .region [⟨D 82, .mov (R 2), none⟩, ⟨D 15, .mov (R 82), none⟩] []
def an0 (σ : Srt) (sz : Nat) : ah := .region [⟨D 83, .mov (R 14), none⟩, ⟨D 84, .mov (R 15), none⟩, ⟨D 85, .bin .lss (R 83) (R 84), none⟩] []
def anZ (σ : Srt) (sz : Nat) : ah := .cond (R 85) .skip (.exit 4)
def an1 (σ : Srt) (sz : Nat) : ah := .seq (an0 σ sz) (anZ σ sz)
def anW (σ : Srt) (sz : Nat) : ah := .region [⟨D 86, .mov (R 14), none⟩, ⟨D 87, .mov (R 15), none⟩, ⟨D 88, .bin .add (R 86) (R 87), none⟩, ⟨D 89, .cvi .u64 (R 88), none⟩, ⟨D 90, .bin .shr (R 89) (.k (.c (.f (.int .u64 1)))), none⟩, ⟨D 91, .cvi .i64 (R 90), none⟩, ⟨D 16, .mov (R 91), none⟩] []
def anU (σ : Srt) (sz : Nat) : ah := .region [⟨D 92, .mov (R 4), none⟩, ⟨D 93, .mov (R 0), none⟩, ⟨D 94, .mov (R 2), none⟩, ⟨D 95, .aK sz none (R 93) (R 94), none⟩, ⟨D 96, .load (some sz) (R 95), none⟩, ⟨D 97, .mov (R 0), none⟩, ⟨D 98, .mov (R 16), none⟩, ⟨D 99, .aK sz none (R 97) (R 98), none⟩, ⟨D 100, .load (some sz) (R 99), none⟩, ⟨D 101, .bW (R 92) [(R 96), (R 100)] true, none⟩, ⟨D 102, .bin .lss (R 101) (.k (.c (.f (.int .i64 0)))), none⟩, ⟨D 103, .un .not (R 102), none⟩] []
def anS (σ : Srt) (sz : Nat) : ah := .region [⟨D 104, .mov (R 16), none⟩, ⟨D 105, .bin .add (R 104) (.k (.c (.f (.int .i64 1)))), none⟩, ⟨D 14, .mov (R 105), none⟩] []
def anR (σ : Srt) (sz : Nat) : ah := .region [⟨D 106, .mov (R 16), none⟩, ⟨D 15, .mov (R 106), none⟩] []
def anT (σ : Srt) (sz : Nat) : ah := .cond (R 103) (anS σ sz) (anR σ sz)
def anV (σ : Srt) (sz : Nat) : ah := .seq (anU σ sz) (anT σ sz)
def anX (σ : Srt) (sz : Nat) : ah := .seq (anW σ sz) (anV σ sz)
def anY (σ : Srt) (sz : Nat) : ah := .block 5 (anX σ sz)
def an2 (σ : Srt) (sz : Nat) : ah := .seq (an1 σ sz) (anY σ sz)
def an3 (σ : Srt) (sz : Nat) : ah := .loop (an2 σ sz)
def an4 (σ : Srt) (sz : Nat) : ah := .block 4 (an3 σ sz)
def anP (σ : Srt) (sz : Nat) : ah := .region [⟨D 107, .mov (R 2), none⟩, ⟨D 17, .mov (R 107), none⟩] []
def anK (σ : Srt) (sz : Nat) : ah := .region [⟨D 108, .mov (R 17), none⟩, ⟨D 109, .mov (R 14), none⟩, ⟨D 110, .bin .gtr (R 108) (R 109), none⟩] []
def anJ (σ : Srt) (sz : Nat) : ah := .cond (R 110) .skip (.exit 6)
def anL (σ : Srt) (sz : Nat) : ah := .seq (anK σ sz) (anJ σ sz)
def anG (σ : Srt) (sz : Nat) : ah := .region [⟨D 113, .mov (R 0), none⟩, ⟨D 114, .mov (R 17), none⟩, ⟨D 115, .mov (R 0), none⟩, ⟨D 116, .mov (R 17), none⟩, ⟨D 117, .bin .sub (R 116) (.k (.c (.f (.int .i64 1)))), none⟩, ⟨D 118, .mov (R 0), none⟩, ⟨D 119, .mov (R 17), none⟩, ⟨D 120, .bin .sub (R 119) (.k (.c (.f (.int .i64 1)))), none⟩, ⟨D 121, .aK sz none (R 118) (R 120), none⟩, ⟨D 122, .load (some sz) (R 121), none⟩, ⟨D 123, .mov (R 0), none⟩, ⟨D 124, .mov (R 17), none⟩, ⟨D 125, .aK sz none (R 123) (R 124), none⟩, ⟨D 126, .load (some sz) (R 125), none⟩, ⟨D 127, .aK sz none (R 113) (R 114), none⟩, ⟨none, .store sz (R 127) (R 122), none⟩, ⟨D 128, .aK sz none (R 115) (R 117), none⟩, ⟨none, .store sz (R 128) (R 126), none⟩] []
def anH (σ : Srt) (sz : Nat) : ah := .block 7 (anG σ sz)
def anF (σ : Srt) (sz : Nat) : ah := .region [⟨D 111, .mov (R 17), none⟩, ⟨D 112, .bin .sub (R 111) (.k (.c (.f (.int .i64 1)))), none⟩, ⟨D 17, .mov (R 112), none⟩] []
def anI (σ : Srt) (sz : Nat) : ah := .seq (anH σ sz) (anF σ sz)
def anM (σ : Srt) (sz : Nat) : ah := .seq (anL σ sz) (anI σ sz)
def anN (σ : Srt) (sz : Nat) : ah := .loop (anM σ sz)
def anO (σ : Srt) (sz : Nat) : ah := .block 6 (anN σ sz)
def anQ (σ : Srt) (sz : Nat) : ah := .seq (anP σ sz) (anO σ sz)
def Jz (σ : Srt) (sz : Nat) : ah := .seq (anQ σ sz) .ret
def an5 (σ : Srt) (sz : Nat) : ah := .seq (an4 σ sz) (Jz σ sz)
def an7 (σ : Srt) (sz : Nat) : ah := .seq (an6 σ sz) (an5 σ sz)
def JA (σ : Srt) (sz : Nat) : ah := .seq (an8 σ sz) (an7 σ sz)
def an9 (σ : Srt) (sz : Nat) : ah := .cond (R 80) (JA σ sz) .skip
def aob (σ : Srt) (sz : Nat) : ah := .seq (aoa σ sz) (an9 σ sz)
def anD (σ : Srt) (sz : Nat) : ah := .region [⟨D 129, .mov (R 1), none⟩, ⟨D 130, .mov (R 3), none⟩, ⟨D 131, .bin .add (R 129) (R 130), none⟩, ⟨D 132, .cvi .u64 (R 131), none⟩, ⟨D 133, .bin .shr (R 132) (.k (.c (.f (.int .u64 1)))), none⟩, ⟨D 134, .cvi .i64 (R 133), none⟩, ⟨D 18, .mov (R 134), none⟩] []
def anB (σ : Srt) (sz : Nat) : ah := .region [⟨D 135, .mov (R 18), none⟩, ⟨D 136, .mov (R 2), none⟩, ⟨D 137, .bin .add (R 135) (R 136), none⟩, ⟨D 19, .mov (R 137), none⟩] []
def anz (σ : Srt) (sz : Nat) : ah := .region [⟨D 20, .mov (.k (.c (.f (.int .i64 0)))), none⟩, ⟨D 21, .mov (.k (.c (.f (.int .i64 0)))), none⟩] []
def anv (σ : Srt) (sz : Nat) : ah := .region [⟨D 138, .mov (R 2), none⟩, ⟨D 139, .mov (R 18), none⟩, ⟨D 140, .bin .gtr (R 138) (R 139), none⟩] []
def anr (σ : Srt) (sz : Nat) : ah := .region [⟨D 141, .mov (R 19), none⟩, ⟨D 142, .mov (R 3), none⟩, ⟨D 143, .bin .sub (R 141) (R 142), none⟩, ⟨D 20, .mov (R 143), none⟩] []
def anq (σ : Srt) (sz : Nat) : ah := .region [⟨D 144, .mov (R 18), none⟩, ⟨D 21, .mov (R 144), none⟩] []
def ant (σ : Srt) (sz : Nat) : ah := .seq (anr σ sz) (anq σ sz)
def ano (σ : Srt) (sz : Nat) : ah := .region [⟨D 145, .mov (R 1), none⟩, ⟨D 20, .mov (R 145), none⟩] []
def anm (σ : Srt) (sz : Nat) : ah := .region [⟨D 146, .mov (R 2), none⟩, ⟨D 21, .mov (R 146), none⟩] []
def anp (σ : Srt) (sz : Nat) : ah := .seq (ano σ sz) (anm σ sz)
def anu (σ : Srt) (sz : Nat) : ah := .cond (R 140) (ant σ sz) (anp σ sz)
def anw (σ : Srt) (sz : Nat) : ah := .seq (anv σ sz) (anu σ sz)
def anl (σ : Srt) (sz : Nat) : ah := .region [⟨D 147, .mov (R 19), none⟩, ⟨D 148, .bin .sub (R 147) (.k (.c (.f (.int .i64 1)))), none⟩, ⟨D 22, .mov (R 148), none⟩] []
def anf (σ : Srt) (sz : Nat) : ah := .region [⟨D 149, .mov (R 20), none⟩, ⟨D 150, .mov (R 21), none⟩, ⟨D 151, .bin .lss (R 149) (R 150), none⟩] []
def ane (σ : Srt) (sz : Nat) : ah := .cond (R 151) .skip (.exit 8)
def ang (σ : Srt) (sz : Nat) : ah := .seq (anf σ sz) (ane σ sz)
def am9 (σ : Srt) (sz : Nat) : ah := .region [⟨D 152, .mov (R 20), none⟩, ⟨D 153, .mov (R 21), none⟩, ⟨D 154, .bin .add (R 152) (R 153), none⟩, ⟨D 155, .cvi .u64 (R 154), none⟩, ⟨D 156, .bin .shr (R 155) (.k (.c (.f (.int .u64 1)))), none⟩, ⟨D 157, .cvi .i64 (R 156), none⟩, ⟨D 23, .mov (R 157), none⟩] []
def PI (σ : Srt) (sz : Nat) : ah := .region [⟨D 158, .mov (R 4), none⟩, ⟨D 159, .mov (R 0), none⟩, ⟨D 160, .mov (R 22), none⟩, ⟨D 161, .mov (R 23), none⟩, ⟨D 162, .bin .sub (R 160) (R 161), none⟩, ⟨D 163, .aK sz none (R 159) (R 162), none⟩, ⟨D 164, .load (some sz) (R 163), none⟩, ⟨D 165, .mov (R 0), none⟩, ⟨D 166, .mov (R 23), none⟩, ⟨D 167, .aK sz none (R 165) (R 166), none⟩, ⟨D 168, .load (some sz) (R 167), none⟩, ⟨D 169, .bW (R 158) [(R 164), (R 168)] true, none⟩, ⟨D 170, .bin .lss (R 169) (.k (.c (.f (.int .i64 0)))), none⟩, ⟨D 171, .un .not (R 170), none⟩] []
def PE (σ : Srt) (sz : Nat) : ah := .region [⟨D 172, .mov (R 23), none⟩, ⟨D 173, .bin .add (R 172) (.k (.c (.f (.int .i64 1)))), none⟩, ⟨D 20, .mov (R 173), none⟩] []
def PD (σ : Srt) (sz : Nat) : ah := .region [⟨D 174, .mov (R 23), none⟩, ⟨D 21, .mov (R 174), none⟩] []
def PG (σ : Srt) (sz : Nat) : ah := .cond (R 171) (PE σ sz) (PD σ sz)
def PK (σ : Srt) (sz : Nat) : ah := .seq (PI σ sz) (PG σ sz)
def ana (σ : Srt) (sz : Nat) : ah := .seq (am9 σ sz) (PK σ sz)
def anb (σ : Srt) (sz : Nat) : ah := .block 9 (ana σ sz)
def anh (σ : Srt) (sz : Nat) : ah := .seq (ang σ sz) (anb σ sz)
def ani (σ : Srt) (sz : Nat) : ah := .loop (anh σ sz)
def anj (σ : Srt) (sz : Nat) : ah := .block 8 (ani σ sz)
def Pz (σ : Srt) (sz : Nat) : ah := .region [⟨D 175, .mov (R 19), none⟩, ⟨D 176, .mov (R 20), none⟩, ⟨D 177, .bin .sub (R 175) (R 176), none⟩, ⟨D 24, .mov (R 177), none⟩] []
def Pv (σ : Srt) (sz : Nat) : ah := .region [⟨D 178, .mov (R 20), none⟩, ⟨D 179, .mov (R 2), none⟩, ⟨D 180, .bin .lss (R 178) (R 179), none⟩, ⟨D 181, .mov (R 180), none⟩, ⟨D 182, .mov (R 2), G 181 true⟩, ⟨D 183, .mov (R 24), G 181 true⟩, ⟨D 184, .bin .lss (R 182) (R 183), G 181 true⟩, ⟨D 185, .pick (R 181) (R 184) (.k (.c (.f (.bool false)))), none⟩] []
def Po (σ : Srt) (sz : Nat) : ah := .region [⟨D 186, .mov (R 0), none⟩, ⟨D 187, .mov (R 20), none⟩, ⟨D 188, .mov (R 2), none⟩, ⟨D 189, .mov (R 24), none⟩, ⟨D 190, .mov (R 4), none⟩, ⟨D 191, .call σ.rot [(R 186), (R 187), (R 188), (R 189), (R 190)] true, none⟩] []
def Pq (σ : Srt) (sz : Nat) : ah := .cond (R 185) (Po σ sz) .skip
def Px (σ : Srt) (sz : Nat) : ah := .seq (Pv σ sz) (Pq σ sz)
def Pm (σ : Srt) (sz : Nat) : ah := .region [⟨D 192, .mov (R 1), none⟩, ⟨D 193, .mov (R 20), none⟩, ⟨D 194, .bin .lss (R 192) (R 193), none⟩, ⟨D 195, .mov (R 194), none⟩, ⟨D 196, .mov (R 20), G 195 true⟩, ⟨D 197, .mov (R 18), G 195 true⟩, ⟨D 198, .bin .lss (R 196) (R 197), G 195 true⟩, ⟨D 199, .pick (R 195) (R 198) (.k (.c (.f (.bool false)))), none⟩] []
def Ph (σ : Srt) (sz : Nat) : ah := .region [⟨D 200, .mov (R 0), none⟩, ⟨D 201, .mov (R 1), none⟩, ⟨D 202, .mov (R 20), none⟩, ⟨D 203, .mov (R 18), none⟩, ⟨D 204, .mov (R 4), none⟩, ⟨D 205, .call σ.sS [(R 200), (R 201), (R 202), (R 203), (R 204)] true, none⟩] []
def Pj (σ : Srt) (sz : Nat) : ah := .cond (R 199) (Ph σ sz) .skip
def Pn (σ : Srt) (sz : Nat) : ah := .seq (Pm σ sz) (Pj σ sz)
def Pg (σ : Srt) (sz : Nat) : ah := .region [⟨D 206, .mov (R 18), none⟩, ⟨D 207, .mov (R 24), none⟩, ⟨D 208, .bin .lss (R 206) (R 207), none⟩, ⟨D 209, .mov (R 208), none⟩, ⟨D 210, .mov (R 24), G 209 true⟩, ⟨D 211, .mov (R 3), G 209 true⟩, ⟨D 212, .bin .lss (R 210) (R 211), G 209 true⟩, ⟨D 213, .pick (R 209) (R 212) (.k (.c (.f (.bool false)))), none⟩] []
def O8 (σ : Srt) (sz : Nat) : ah := .region [⟨D 214, .mov (R 0), none⟩, ⟨D 215, .mov (R 18), none⟩, ⟨D 216, .mov (R 24), none⟩, ⟨D 217, .mov (R 3), none⟩, ⟨D 218, .mov (R 4), none⟩, ⟨D 219, .call σ.sS [(R 214), (R 215), (R 216), (R 217), (R 218)] true, none⟩] []
def O9 (σ : Srt) (sz : Nat) : ah := .cond (R 213) (O8 σ sz) .skip
def DX (σ : Srt) (sz : Nat) : ah := .seq (Pg σ sz) (O9 σ sz)
def DY (σ : Srt) (sz : Nat) : ah := .seq (Pn σ sz) (DX σ sz)
def Py (σ : Srt) (sz : Nat) : ah := .seq (Px σ sz) (DY σ sz)
def yc (σ : Srt) (sz : Nat) : ah := .seq (Pz σ sz) (Py σ sz)
def ank (σ : Srt) (sz : Nat) : ah := .seq (anj σ sz) (yc σ sz)
def Jy (σ : Srt) (sz : Nat) : ah := .seq (anl σ sz) (ank σ sz)
def anx (σ : Srt) (sz : Nat) : ah := .seq (anw σ sz) (Jy σ sz)
def anA (σ : Srt) (sz : Nat) : ah := .seq (anz σ sz) (anx σ sz)
def anC (σ : Srt) (sz : Nat) : ah := .seq (anB σ sz) (anA σ sz)
def anE (σ : Srt) (sz : Nat) : ah := .seq (anD σ sz) (anC σ sz)
def aoc (σ : Srt) (sz : Nat) : ah := .seq (aob σ sz) (anE σ sz)
def aCs (σ : Srt) (sz : Nat) : ah := .seq (aCr σ sz) (aoc σ sz)
def O6 (σ : Srt) (sz : Nat) : AFunc := ⟨[P.nat 0, P.nat 1, P.nat 2, P.nat 3, P.nat 4], [], (aCs σ sz)⟩

def aGj (σ : Srt) (sz : Nat) : ah := .region [⟨D 12, .mov (R 2), none⟩, ⟨D 13, .mov (R 1), none⟩, ⟨D 14, .bin .sub (R 12) (R 13), none⟩, ⟨D 10, .mov (R 14), none⟩] []
def aGh (σ : Srt) (sz : Nat) : ah := .region [⟨D 15, .mov (R 3), none⟩, ⟨D 16, .mov (R 2), none⟩, ⟨D 17, .bin .sub (R 15) (R 16), none⟩, ⟨D 11, .mov (R 17), none⟩] []
def aGb (σ : Srt) (sz : Nat) : ah := .region [⟨D 18, .mov (R 10), none⟩, ⟨D 19, .mov (R 11), none⟩, ⟨D 20, .bin .neq (R 18) (R 19), none⟩] []
def aCI (σ : Srt) (sz : Nat) : ah := .cond (R 20) .skip (.exit 0)
def aGc (σ : Srt) (sz : Nat) : ah := .seq (aGb σ sz) (aCI σ sz)
def aCF (σ : Srt) (sz : Nat) : ah := .region [⟨D 21, .mov (R 10), none⟩, ⟨D 22, .mov (R 11), none⟩, ⟨D 23, .bin .gtr (R 21) (R 22), none⟩] []
def aCC (σ : Srt) (sz : Nat) : ah := .region [⟨D 24, .mov (R 0), none⟩, ⟨D 25, .mov (R 2), none⟩, ⟨D 26, .mov (R 10), none⟩, ⟨D 27, .bin .sub (R 25) (R 26), none⟩, ⟨D 28, .mov (R 2), none⟩, ⟨D 29, .mov (R 11), none⟩, ⟨D 30, .mov (R 4), none⟩, ⟨D 31, .call σ.swr [(R 24), (R 27), (R 28), (R 29), (R 30)] true, none⟩] []
def aCB (σ : Srt) (sz : Nat) : ah := .region [⟨D 32, .mov (R 10), none⟩, ⟨D 33, .mov (R 11), none⟩, ⟨D 34, .bin .sub (R 32) (R 33), none⟩, ⟨D 10, .mov (R 34), none⟩] []
def aCD (σ : Srt) (sz : Nat) : ah := .seq (aCC σ sz) (aCB σ sz)
def aCz (σ : Srt) (sz : Nat) : ah := .region [⟨D 35, .mov (R 0), none⟩, ⟨D 36, .mov (R 2), none⟩, ⟨D 37, .mov (R 10), none⟩, ⟨D 38, .bin .sub (R 36) (R 37), none⟩, ⟨D 39, .mov (R 2), none⟩, ⟨D 40, .mov (R 11), none⟩, ⟨D 41, .bin .add (R 39) (R 40), none⟩, ⟨D 42, .mov (R 10), none⟩, ⟨D 43, .bin .sub (R 41) (R 42), none⟩, ⟨D 44, .mov (R 10), none⟩, ⟨D 45, .mov (R 4), none⟩, ⟨D 46, .call σ.swr [(R 35), (R 38), (R 43), (R 44), (R 45)] true, none⟩] []
def aCy (σ : Srt) (sz : Nat) : ah := .region [⟨D 47, .mov (R 11), none⟩, ⟨D 48, .mov (R 10), none⟩, ⟨D 49, .bin .sub (R 47) (R 48), none⟩, ⟨D 11, .mov (R 49), none⟩] []
def aCA (σ : Srt) (sz : Nat) : ah := .seq (aCz σ sz) (aCy σ sz)
def aCE (σ : Srt) (sz : Nat) : ah := .cond (R 23) (aCD σ sz) (aCA σ sz)
def aCG (σ : Srt) (sz : Nat) : ah := .seq (aCF σ sz) (aCE σ sz)
def aCH (σ : Srt) (sz : Nat) : ah := .block 1 (aCG σ sz)
def aGd (σ : Srt) (sz : Nat) : ah := .seq (aGc σ sz) (aCH σ sz)
def aGe (σ : Srt) (sz : Nat) : ah := .loop (aGd σ sz)
def aGf (σ : Srt) (sz : Nat) : ah := .block 0 (aGe σ sz)
def P9 (σ : Srt) (sz : Nat) : ah := .region [⟨D 50, .mov (R 0), none⟩, ⟨D 51, .mov (R 2), none⟩, ⟨D 52, .mov (R 10), none⟩, ⟨D 53, .bin .sub (R 51) (R 52), none⟩, ⟨D 54, .mov (R 2), none⟩, ⟨D 55, .mov (R 10), none⟩, ⟨D 56, .mov (R 4), none⟩, ⟨D 57, .call σ.swr [(R 50), (R 53), (R 54), (R 55), (R 56)] true, none⟩] []
def aGg (σ : Srt) (sz : Nat) : ah := .seq (aGf σ sz) (P9 σ sz)
def aGi (σ : Srt) (sz : Nat) : ah := .seq (aGh σ sz) (aGg σ sz)
def aGk (σ : Srt) (sz : Nat) : ah := .seq (aGj σ sz) (aGi σ sz)
def P8 (σ : Srt) (sz : Nat) : AFunc := ⟨[P.nat 0, P.nat 1, P.nat 2, P.nat 3, P.nat 4], [], (aGk σ sz)⟩

def aF7 (σ : Srt) (sz : Nat) : ah := .region [⟨D 10, .mov (.k (.c (.f (.int .i64 0)))), none⟩] []
def aF2 (σ : Srt) (sz : Nat) : ah := .region [⟨D 11, .mov (R 10), none⟩, ⟨D 12, .mov (R 3), none⟩, ⟨D 13, .bin .lss (R 11) (R 12), none⟩] []
def aF1 (σ : Srt) (sz : Nat) : ah := .cond (R 13) .skip (.exit 0)
def aF3 (σ : Srt) (sz : Nat) : ah := .seq (aF2 σ sz) (aF1 σ sz)
def aB6 (σ : Srt) (sz : Nat) : ah := .region [⟨D 16, .mov (R 0), none⟩, ⟨D 17, .mov (R 1), none⟩, ⟨D 18, .mov (R 10), none⟩, ⟨D 19, .bin .add (R 17) (R 18), none⟩, ⟨D 20, .mov (R 0), none⟩, ⟨D 21, .mov (R 2), none⟩, ⟨D 22, .mov (R 10), none⟩, ⟨D 23, .bin .add (R 21) (R 22), none⟩, ⟨D 24, .mov (R 0), none⟩, ⟨D 25, .mov (R 2), none⟩, ⟨D 26, .mov (R 10), none⟩, ⟨D 27, .bin .add (R 25) (R 26), none⟩, ⟨D 28, .aK sz none (R 24) (R 27), none⟩, ⟨D 29, .load (some sz) (R 28), none⟩, ⟨D 30, .mov (R 0), none⟩, ⟨D 31, .mov (R 1), none⟩, ⟨D 32, .mov (R 10), none⟩, ⟨D 33, .bin .add (R 31) (R 32), none⟩, ⟨D 34, .aK sz none (R 30) (R 33), none⟩, ⟨D 35, .load (some sz) (R 34), none⟩, ⟨D 36, .aK sz none (R 16) (R 19), none⟩, ⟨none, .store sz (R 36) (R 29), none⟩, ⟨D 37, .aK sz none (R 20) (R 23), none⟩, ⟨none, .store sz (R 37) (R 35), none⟩] []
def aFZ (σ : Srt) (sz : Nat) : ah := .block 1 (aB6 σ sz)
def aB5 (σ : Srt) (sz : Nat) : ah := .region [⟨D 14, .mov (R 10), none⟩, ⟨D 15, .bin .add (R 14) (.k (.c (.f (.int .i64 1)))), none⟩, ⟨D 10, .mov (R 15), none⟩] []
def aF0 (σ : Srt) (sz : Nat) : ah := .seq (aFZ σ sz) (aB5 σ sz)
def aF4 (σ : Srt) (sz : Nat) : ah := .seq (aF3 σ sz) (aF0 σ sz)
def aF5 (σ : Srt) (sz : Nat) : ah := .loop (aF4 σ sz)
def aF6 (σ : Srt) (sz : Nat) : ah := .block 0 (aF5 σ sz)
def aF8 (σ : Srt) (sz : Nat) : ah := .seq (aF7 σ sz) (aF6 σ sz)
def Jt (σ : Srt) (sz : Nat) : AFunc := ⟨[P.nat 0, P.nat 1, P.nat 2, P.nat 3, P.nat 4], [], (aF8 σ sz)⟩

end Km
end

section
set_option linter.unusedVariables false
namespace Km
open Go

theorem lG {tab : Nat → Option AFunc} {fn : Nat} {ro : Option Nat} {k : List eG} {s : St} {Q : Option ah → St → Prop} {a : ah} (h : WP tab fn ro (.code a :: .inLoop a :: k) s Q) : WP tab fn ro (.code (.loop a) :: k) s Q := uf h fun _ _ _ => rfl
theorem oG {lo hi : Nat} (h : lo + hi ≤ 2000000000) : IntKind.u64.wrap ((lo : Int) + hi) = (lo : Int) + hi := by
  show ((lo : Int) + hi) % 18446744073709551616 = _
  omega
theorem qB {lo hi q : Nat} (h : lo + hi ≤ 2000000000) (hq : q = (lo + hi) / 2) : jy BinOp.shr (V.c (C.f (FC.int IntKind.u64 ((lo : Int) + hi)))) (V.c (C.f (FC.int IntKind.u64 1))) = some (.c (.f (.int .u64 (q : Int)))) := by
  show some (V.c (C.f (FC.int IntKind.u64 (Int.fdiv ((lo : Int) + hi) (2 ^ (min (1 : Int).toNat IntKind.u64.bits)))))) = _
  have h3 : Int.fdiv ((lo : Int) + hi) (2 ^ (min (1 : Int).toNat IntKind.u64.bits)) = q := by
    show Int.fdiv ((lo : Int) + hi) 2 = q
    rw [Int.fdiv_eq_ediv_of_nonneg _ (by omega)]; omega
  rw [h3]

section
variable {tab : Nat → Option AFunc} {σ : Srt} {sz : Nat} {b ep : Nat} {cv : V} {W : List FC → Prop} {c : List FC → List FC → Int}

theorem GX {H : Heap} {rows : List (List FC)} (hT : tab σ.swr = some (Jt σ sz)) {n x y m lo hi : Nat} (hn : rows.length = n) (hl : n ≤ 1000000000) (hrb : RB H b sz ep rows) (hg : Grid sz rows) (h1 : lo ≤ x) (h2 : x + m ≤ y) (h3 : y + m ≤ hi) (h4 : hi ≤ n) :
    ∃ r H', Ev tab (.fn σ.swr) [.c (.sl b 0 n 0 ep sz), vi x, vi y, vi m, cv] H r H' ∧ (r = .t [] ∧ Fm b H H' ∧ ∃ l', RB H' b sz ep l' ∧ Seg lo hi rows l' ∧ Xch rows l' x y m) := by
  refine jo hT rfl fun Q hQ => ?_
  refine ak (aj (.inl rfl) ?_)
  simp
  refine aS ?_
  refine iT (fun w s => ∃ (i : Nat) (t : T) (H1 : Heap) (l : List (List FC)), s = ⟨t, [], H1⟩ ∧ i + w = m ∧ t.g 0 = .c (.sl b 0 n 0 ep sz) ∧ t.g 1 = vi x ∧ t.g 2 = vi y ∧ t.g 3 = vi m ∧ t.g 10 = vi i ∧
    Fm b H H1 ∧ RB H1 b sz ep l ∧ Seg lo hi rows l ∧ Xch rows l x y i) m
    ⟨0, _, H, rows, rfl, by omega, by simp, by simp, by simp, by simp, by simp, Fm.refl H, hrb, Seg.refl _ _ _, Xch.zero _ _ _⟩ ?_
  rintro w s ⟨i, t, H1, l, rfl, him, g0, g1, g2, g3, g10, hfr, hrb, hseg, hx⟩ ih
  have hlen := hseg.len
  refine ak ?_
  refine ak (aj (.inl rfl) ?_)
  simp [g10, g3]
  by_cases hlt : i < m
  case neg =>
    obtain rfl : i = m := by omega
    refine aB (by simp) ?_
    refine dN (k' := []) rfl ?_
    exact jQ (hQ _ _ _ rfl rfl ⟨rfl, hfr, l, hrb, hseg, hx⟩)
  refine aI (by simp [hlt]) (aN ?_)
  obtain ⟨p, q, H2, H3, -, -, i1, j1, l1, l2, w1, w2, s1, j2, s2, r2, f2⟩ := hrb.swp (hseg.grid hg) (hlen.trans hn) (i := x + i) (j := y + i) (by omega) (by omega)
  simp only [Int.natCast_add] at i1 j1 j2
  refine ak ?_
  refine aS ?_
  refine aj (.inl rfl) ?_
  simp [g0, g1, g2, g10, wrap64 (n := (x : Int) + i) (by omega) (by omega), wrap64 (n := (y : Int) + i) (by omega) (by omega), i1, j1, l1, l2, w1, w2, s1, j2, s2, -aU, -dY]
  refine aP ?_
  refine aj (.inl rfl) ?_
  simp [g10, wrap64 (n := (i : Int) + 1) (by omega) (by omega)]
  exact ih (w - 1) _ (by omega) ⟨i + 1, _, H3, _, rfl, by omega, by simp [g0], by simp [g1], by simp [g2], by simp [g3], by simp, hfr.trans f2, r2, hseg.trans (xE (by omega) (by omega) (by omega) (by omega) (by omega)), hx.step hlen (by omega) (by omega)⟩

theorem aCx {H : Heap} {rows : List (List FC)} (hT : tab σ.rot = some (P8 σ sz)) (hS : tab σ.swr = some (Jt σ sz)) {n a m e : Nat} (hn : rows.length = n) (hl : n ≤ 1000000000) (hrb : RB H b sz ep rows) (hg : Grid sz rows) (h1 : a < m) (h2 : m < e) (h4 : e ≤ n) :
    ∃ r H', Ev tab (.fn σ.rot) [.c (.sl b 0 n 0 ep sz), vi a, vi m, vi e, cv] H r H' ∧ (r = .t [] ∧ Fm b H H' ∧ ∃ l', RB H' b sz ep l' ∧ Seg a e rows l' ∧ Rot rows l' a m e) := by
  obtain ⟨X0, U0, V0, Y0, rfl, lX, lU, lV⟩ := wz (l := rows) (Nat.le_of_lt h1) (Nat.le_of_lt h2) (by omega)
  have hn' : X0.length + (U0.length + (V0.length + Y0.length)) = n := by rw [← hn]; simp
  refine jo hT rfl fun Q hQ => ?_
  refine ak (aj (.inl rfl) ?_)
  simp [wrap64 (n := (m : Int) - a) (by omega) (by omega)]
  refine ak (aj (.inl rfl) ?_)
  simp [wrap64 (n := (e : Int) - m) (by omega) (by omega)]
  refine ak ?_
  refine aS ?_
  refine iT (fun w s => ∃ (i j : Nat) (X U V Y : List (List FC)) (t : T) (H1 : Heap), s = ⟨t, [], H1⟩ ∧ w = i + j ∧ 0 < i ∧ 0 < j ∧ X.length + i = m ∧ U.length = i ∧ V.length = j ∧ X ++ (V ++ (U ++ Y)) = X0 ++ (V0 ++ (U0 ++ Y0)) ∧ a ≤ X.length ∧ m + j ≤ e ∧
    t.g 0 = .c (.sl b 0 n 0 ep sz) ∧ t.g 2 = vi m ∧ t.g 4 = cv ∧ t.g 10 = vi i ∧ t.g 11 = vi j ∧ Fm b H H1 ∧ RB H1 b sz ep (X ++ (U ++ (V ++ Y))) ∧ Seg a e (X0 ++ (U0 ++ (V0 ++ Y0))) (X ++ (U ++ (V ++ Y)))) (e - a)
    ⟨m - a, e - m, X0, U0, V0, Y0, _, H, rfl, by omega, by omega, by omega, by omega, lU, lV, rfl, by omega, by omega, by simp, by simp, by simp, by simp; omega, by simp; omega, Fm.refl H, hrb, Seg.refl _ _ _⟩ ?_
  rintro w s ⟨i, j, X, U, V, Y, t, H1, rfl, rfl, hi, hj, hXi, hU, hV, hT', haX, hme, g0, g2, g4, g10, g11, hfr, hrb, hseg⟩ ih
  have hlen := hseg.len
  rw [hn] at hlen
  have gr := hseg.grid hg
  have e1 : ((m : Int) - i) = ((X.length : Nat) : Int) := by omega
  have w0 : IntKind.i64.wrap (X.length : Int) = X.length := wrap64 (by omega) (by omega)
  refine ak ?_
  refine ak (aj (.inl rfl) ?_)
  simp [g10, g11]
  by_cases hne : i = j
  · -- the same length: one exchange more
    subst hne
    refine aB (by simp) ?_
    refine dN (k' := [.code (P9 σ sz)]) rfl ?_
    obtain ⟨r, H2, he, rfl, f2, l2, r2, s2, x2⟩ := GX (cv := cv) (x := X.length) (y := m) (m := i) (lo := a) (hi := e) hS hlen hl hrb gr haX (by omega) (by omega) h4
    have he := he.eq
    have x3 := Xch.blocks (X := X) (P := U) (M := []) (Q := V) (Z := Y) (l' := l2) (n := i) hU hV (by simpa [hXi] using x2)
    simp only [List.nil_append] at x3
    refine aj (.inl rfl) ?_
    simp [g0, g2, g4, g10, e1, w0, he]
    refine jQ (hQ _ ⟨_, [], H2⟩ (.t []) rfl rfl ⟨rfl, hfr.trans f2, l2, r2, hseg.trans s2, ?_⟩)
    rw [x3, hT']
    have := Rot.blocks (X := X0) (U := U0) (V := V0) (Y := Y0)
    rwa [lX, lU, lV, show a + (m - a) = m by omega, show m + (e - m) = e by omega] at this
  refine aI (by simp [hne]) (aN ?_)
  refine aS ?_
  refine ak ?_
  refine aj (.inl rfl) ?_
  simp [g10, g11]
  by_cases hgt : j < i
  · refine aI (by simp [hgt]) ?_
    obtain ⟨r, H2, he, rfl, f2, l2, r2, s2, x2⟩ := GX (cv := cv) (x := X.length) (y := m) (m := j) (lo := a) (hi := e) hS hlen hl hrb gr haX (by omega) (by omega) h4
    have he := he.eq
    obtain ⟨U1, U2, rfl, l1⟩ : ∃ U1 U2, U = U1 ++ U2 ∧ U1.length = j := ⟨U.take j, U.drop j, (List.take_append_drop j U).symm, by simp; omega⟩
    have l2' : U2.length = i - j := by simp at hU; omega
    have x3 := Xch.blocks (X := X) (P := U1) (M := U2) (Q := V) (Z := Y) (l' := l2) (n := j) l1 hV (by rw [l2', show X.length + j + (i - j) = m by omega]; simpa using x2)
    subst x3
    refine ak (aj (.inl rfl) ?_)
    simp [g0, g2, g4, g10, g11, e1, w0, he]
    refine aj (.inl rfl) ?_
    simp [g10, g11, wrap64 (n := (i : Int) - j) (by omega) (by omega)]
    exact aP (ih (i - j + j) _ (by omega) ⟨i - j, j, X ++ V, U2, U1, Y, _, H2, rfl, rfl, by omega, hj, by simp; omega, l2', l1, by rw [← hT']; simp, by simp; omega, hme, by simp [g0], by simp [g2], by simp [g4], by simp; omega, by simp [g11], hfr.trans f2, by simpa using r2, by simpa using hseg.trans s2⟩)
  · refine aB (by simp [hgt]) ?_
    obtain ⟨r, H2, he, rfl, f2, l2, r2, s2, x2⟩ := GX (cv := cv) (x := X.length) (y := m + j - i) (m := i) (lo := a) (hi := e) hS hlen hl hrb gr haX (by omega) (by omega) h4
    have he := he.eq
    obtain ⟨V1, V2, rfl, l1⟩ : ∃ V1 V2, V = V1 ++ V2 ∧ V1.length = j - i := ⟨V.take (j - i), V.drop (j - i), (List.take_append_drop _ V).symm, by simp; omega⟩
    have l2' : V2.length = i := by simp at hV; omega
    have x3 := Xch.blocks (X := X) (P := U) (M := V1) (Q := V2) (Z := Y) (l' := l2) (n := i) hU l2' (by rw [l1, show X.length + i + (j - i) = m + j - i by omega]; simpa using x2)
    subst x3
    have e2 : ((m : Int) + j - i) = ((m + j - i : Nat) : Int) := by omega
    refine ak (aj (.inl rfl) ?_)
    simp [g0, g2, g4, g10, g11, wrap64 (n := (m : Int) + j) (by omega) (by omega), wrap64 (n := ((m + j - i : Nat) : Int)) (by omega) (by omega), e1, e2, w0, he]
    refine aj (.inl rfl) ?_
    simp [g10, g11, wrap64 (n := (j : Int) - i) (by omega) (by omega)]
    exact aP (ih (i + (j - i)) _ (by omega) ⟨i, j - i, X, V2, V1, U ++ Y, _, H2, rfl, rfl, hi, by omega, hXi, l2', l1, by rw [← hT']; simp, haX, by omega, by simp [g0], by simp [g2], by simp [g4], by simp [g10], by simp; omega, hfr.trans f2, by simpa using r2, by simpa using hseg.trans s2⟩)
end
end Km
end

section
set_option linter.unusedVariables false
namespace Km
open Go

section
variable {W : List FC → Prop} {c : List FC → List FC → Int} {l l' : List (List FC)}
theorem Rot.up {a k : Nat} (h : Rot l l' a (a + 1) (k + 1)) (hl : l'.length = l.length) (hak : a ≤ k) (hk : k + 1 < l.length) : Rot l (swp l' k (k + 1)) a (a + 1) (k + 2) := fun q => by
  rw [swp_get (by omega) (by omega), h k, h (k + 1), h q]
  by_cases q1 : q = k + 1
  · subst q1
    rw [if_pos rfl, if_neg (by omega), if_pos (by omega), if_neg (by omega), if_pos (by omega)]
    congr 1; omega
  rw [if_neg q1]
  by_cases q2 : q = k
  · subst q2
    rw [if_pos rfl, if_neg (by omega), if_neg (by omega), if_pos (by omega)]
    congr 1; omega
  rw [if_neg q2]
  by_cases q3 : a ≤ q ∧ q < a + (k + 1 - (a + 1))
  · rw [if_pos q3, if_pos (by omega)]
  · rw [if_neg q3, if_neg (by omega), if_neg (by omega), if_neg (by omega)]
theorem Rot.dn {m k : Nat} (h : Rot l l' (k + 1) m (m + 1)) (hl : l'.length = l.length) (hkm : k + 1 ≤ m) (hm : m < l.length) : Rot l (swp l' (k + 1) k) k m (m + 1) := fun q => by
  rw [swp_get (by omega) (by omega), h k, h (k + 1), h q]
  have e : m + 1 - m = 1 := by omega
  rw [e]
  by_cases q1 : q = k
  · subst q1
    rw [if_pos rfl, if_pos (by omega), if_pos (by omega)]
    congr 1; omega
  rw [if_neg q1]
  by_cases q2 : q = k + 1
  · subst q2
    rw [if_pos rfl, if_neg (by omega), if_neg (by omega), if_neg (by omega), if_pos (by omega)]
    congr 1
  rw [if_neg q2, if_neg (by omega), if_neg (show ¬ (k ≤ q ∧ q < k + 1) by omega)]
  by_cases q3 : k + 1 + 1 ≤ q ∧ q < m + 1
  · rw [if_pos q3, if_pos (by omega)]
  · rw [if_neg q3, if_neg (by omega)]
theorem Up.add {a b d : Nat} (h : Up c (a + d) (b + d) l) (he : ∀ k, a ≤ k → k < b → l'[k]? = l[k + d]?) : Up c a b l' := fun i j x y h1 h2 h3 hx hy =>
  h (i + d) (j + d) x y (by omega) (by omega) (by omega) (by rw [← he i h1 (by omega)]; exact hx) (by rw [← he j (by omega) h3]; exact hy)
theorem Up.sub {a b d : Nat} (h : Up c (a - d) (b - d) l) (hd : d ≤ a) (he : ∀ k, a ≤ k → k < b → l'[k]? = l[k - d]?) : Up c a b l' := fun i j x y h1 h2 h3 hx hy =>
  h (i - d) (j - d) x y (by omega) (by omega) (by omega) (by rw [← he i h1 (by omega)]; exact hx) (by rw [← he j (by omega) h3]; exact hy)
theorem LeI.strict {i j : Nat} (hc : Cmp W c) (hW : ∀ r ∈ l, W r) {p x y : List FC} (hp : W p) (h : LeI c l i j) (hx : l[i]? = some x) (hy : l[j]? = some y) (hlt : c y p < 0) : c x p < 0 := by
  apply Classical.not_not.1
  intro hn
  exact hc.trans hp (hW _ (List.mem_of_getElem? hx)) (hW _ (List.mem_of_getElem? hy)) hn (h x y hx hy) hlt
theorem LeI.amu {i j : Nat} (hc : Cmp W c) (hW : ∀ r ∈ l, W r) {p x y : List FC} (hp : W p) (h : LeI c l i j) (hx : l[i]? = some x) (hy : l[j]? = some y) (hlt : c p x < 0) : c p y < 0 := by
  apply Classical.not_not.1
  intro hn
  exact hc.trans (hW _ (List.mem_of_getElem? hx)) (hW _ (List.mem_of_getElem? hy)) hp (h x y hx hy) hn hlt
end

section
variable {tab : Nat → Option AFunc} {σ : Srt} {sz : Nat} {b ep : Nat} {cv : V} {W : List FC → Prop} {c : List FC → List FC → Int}

/-- The first segment is one row: it goes up. -/
theorem O5 {H : Heap} {rows : List (List FC)} {n a e : Nat} {Q : Option ah → St → Prop} {k : List eG} (hcv : Cv tab cv W c) (hc : Cmp W c) (hn : rows.length = n) (hl : n ≤ 1000000000) (hrb : RB H b sz ep rows) (hg : Grid sz rows) (hW : ∀ r ∈ rows, W r)
    (h2 : a + 1 < e) (h4 : e ≤ n) (u2 : Up c (a + 1) e rows) {t : T} (g0 : t.g 0 = .c (.sl b 0 n 0 ep sz)) (g1 : t.g 1 = vi a) (g2 : t.g 2 = vi ((a + 1 : Nat) : Int)) (g3 : t.g 3 = vi e) (g4 : t.g 4 = cv)
    (hQ : ∀ t H' l', Fm b H H' → RB H' b sz ep l' → Seg a e rows l' → Up c a e l' → Q (some .ret) ⟨t, [], H'⟩) : WP tab σ.sS none (.code (O7 σ sz) :: k) ⟨t, [], H⟩ Q := by
  obtain ⟨p, hp⟩ : ∃ p, rows[a]? = some p := ⟨_, List.getElem?_eq_getElem (by omega)⟩
  have wp : W p := hW _ (List.mem_of_getElem? hp)
  refine ak (aj (.inl rfl) ?_)
  simp [g2]
  refine ak (aj (.inl rfl) ?_)
  simp [g3]
  refine ak ?_
  refine aS ?_
  refine iT (fun w s => ∃ (lo hi : Nat) (t : T) (H1 : Heap), s = ⟨t, [], H1⟩ ∧ lo + w = hi ∧ a + 1 ≤ lo ∧ hi ≤ e ∧ t.g 0 = .c (.sl b 0 n 0 ep sz) ∧ t.g 1 = vi a ∧ t.g 4 = cv ∧ t.g 10 = vi lo ∧ t.g 11 = vi hi ∧ Fm b H H1 ∧ RB H1 b sz ep rows ∧
      (∀ (k : Nat) x, a + 1 ≤ k → k < lo → rows[k]? = some x → c x p < 0) ∧ (∀ (k : Nat) x, hi ≤ k → k < e → rows[k]? = some x → ¬ c x p < 0)) (e - (a + 1))
    ⟨a + 1, e, _, H, rfl, by omega, by omega, by omega, by simp [g0], by simp [g1], by simp [g4], by simp, by simp, Fm.refl H, hrb, fun k x h1 h2 => by omega, fun k x h1 h2 => by omega⟩ ?_
  rintro w s ⟨lo, hi, t, H1, rfl, hw, h5, h6, g0, g1, g4, g10, g11, hfr, hrb, hlo, hhi⟩ ih
  refine ak ?_
  refine ak (aj (.inl rfl) ?_)
  simp [g10, g11]
  by_cases hlt : lo < hi
  · refine aI (by simp [hlt]) (aN ?_)
    obtain ⟨q, hq⟩ : ∃ q, q = (lo + hi) / 2 := ⟨_, rfl⟩
    refine aS ?_
    refine ak (aj (.inl rfl) ?_)
    simp [g10, g11, wrap64 (n := (lo : Int) + hi) (by omega) (by omega), oG (lo := lo) (hi := hi) (by omega), qB (lo := lo) (hi := hi) (by omega) hq, wrap64 (n := (q : Int)) (by omega) (by omega)]
    obtain ⟨x, y, F, ar, J, hx, hy, i1, j1, l1, l2, vM, he, wx, -⟩ := hrb.ask hg hcv hW hn (i := q) (j := a) (by omega) (by omega)
    rw [hp] at hy; cases hy
    refine ak (aj (.inl rfl) ?_)
    simp [g0, g1, g4, i1, j1, l1, l2, vM, he, -aU]
    by_cases hc0 : c x p < 0
    · refine aI (by simp [hc0]) (aj (.inl rfl) ?_)
      simp [wrap64 (n := (q : Int) + 1) (by omega) (by omega)]
      refine aP (ih (hi - (q + 1)) _ (by omega) ⟨q + 1, hi, _, _, rfl, by omega, by omega, h6, by simp [g0], by simp [g1], by simp [g4], by simp, by simp [g11], hfr.trans (Fm.push _ _), hrb.push _, fun k z k1 k2 hz => ?_, hhi⟩)
      exact (u2.le hc hW k1 (by omega) (show q < e by omega)).strict hc hW wp hz hx hc0
    · refine aB (by simp [hc0]) (aj (.inl rfl) ?_)
      simp
      refine aP (ih (q - lo) _ (by omega) ⟨lo, q, _, _, rfl, by omega, h5, by omega, by simp [g0], by simp [g1], by simp [g4], by simp [g10], by simp, hfr.trans (Fm.push _ _), hrb.push _, hlo, fun k z k1 k2 hz => ?_⟩)
      exact hc.trans wp wx (hW _ (List.mem_of_getElem? hz)) hc0 ((u2.le hc hW (i := q) (j := k) (by omega) k1 k2) _ _ hx hz)
  refine aB (by simp [hlt]) ?_
  obtain rfl : lo = hi := by omega
  refine dN (k' := .code (JB σ sz) :: k) rfl ?_
  refine ak ?_
  refine ak (aj (.inl rfl) ?_)
  simp [g1]
  refine aS ?_
  refine iT (fun w s => ∃ (i : Nat) (t : T) (H1 : Heap) (l : List (List FC)), s = ⟨t, [], H1⟩ ∧ i + 1 + w = lo ∧ a ≤ i ∧ t.g 0 = .c (.sl b 0 n 0 ep sz) ∧ t.g 10 = vi lo ∧ t.g 13 = vi i ∧ Fm b H H1 ∧ RB H1 b sz ep l ∧ Seg a e rows l ∧ Rot rows l a (a + 1) (i + 1)) (lo - (a + 1))
    ⟨a, _, H1, rows, rfl, by omega, by omega, by simp [g0], by simp [g10], by simp, hfr, hrb, Seg.refl _ _ _, Rot.none _ (by omega) (by omega) (.inr rfl)⟩ ?_
  rintro w s ⟨i, t, H1, l, rfl, hw, h7, g0, g10, g13, hfr, hrb, hseg, rX⟩ ih
  have hlen := hseg.len
  refine ak ?_
  refine ak (aj (.inl rfl) ?_)
  simp [g10, g13, wrap64 (n := (lo : Int) - 1) (by omega) (by omega)]
  by_cases hlt : i + 1 < lo
  · refine aI (by simp; omega) (aN ?_)
    obtain ⟨x, y, H2, H3, -, -, i1, j1, l1, l2, w1, w2, s1, j2, s2, r2, f2⟩ := hrb.swp (hseg.grid hg) (hlen.trans hn) (i := i) (j := i + 1) (by omega) (by omega)
    have c1 : ((i + 1 : Nat) : Int) = (i : Int) + 1 := by omega
    rw [c1] at j1 j2
    refine ak ?_
    refine aS (aj (.inl rfl) ?_)
    simp [g0, g13, wrap64 (n := (i : Int) + 1) (by omega) (by omega), i1, j1, l1, l2, w1, w2, s1, j2, s2, -aU, -dY]
    refine aP (aj (.inl rfl) ?_)
    simp [g13, wrap64 (n := (i : Int) + 1) (by omega) (by omega)]
    exact ih (w - 1) _ (by omega) ⟨i + 1, _, H3, _, rfl, by omega, by omega, by simp [g0], by simp [g10], by simp, hfr.trans f2, r2, hseg.trans (xE (by omega) (by omega) (by omega) (by omega) (by omega)), rX.up hlen h7 (by omega)⟩
  obtain rfl : lo = i + 1 := by omega
  refine aB (by simp) ?_
  refine dN (k' := .code .ret :: k) rfl ?_
  refine aO (hQ _ _ l hfr hrb hseg ?_)
  refine P7 hc hW (Up.one (by omega)) u2 (Nat.le_refl _) (by omega) h5 h6 (by omega) (.inl (by omega)) (fun h => by omega) (fun _ h => ?_) (fun _ h => ?_) rX
  · have hx := List.getElem?_eq_getElem (l := rows) (i := i + 1 - 1) (by omega)
    exact LeI.of_lt hc hW hx hp (hlo _ _ (by omega) (by omega) hx)
  · have hx := List.getElem?_eq_getElem (l := rows) (i := i + 1) (by omega)
    exact LeI.of_le hp hx (hhi _ _ (by omega) h hx)

/-- The second segment is one row: it goes down. -/
theorem LJ {H : Heap} {rows : List (List FC)} {n a m : Nat} {Q : Option ah → St → Prop} {k : List eG} (hcv : Cv tab cv W c) (hc : Cmp W c) (hn : rows.length = n) (hl : n ≤ 1000000000) (hrb : RB H b sz ep rows) (hg : Grid sz rows) (hW : ∀ r ∈ rows, W r)
    (h2 : a < m) (h4 : m < n) (u1 : Up c a m rows) {t : T} (g0 : t.g 0 = .c (.sl b 0 n 0 ep sz)) (g1 : t.g 1 = vi a) (g2 : t.g 2 = vi m) (g4 : t.g 4 = cv)
    (hQ : ∀ t H' l', Fm b H H' → RB H' b sz ep l' → Seg a (m + 1) rows l' → Up c a (m + 1) l' → Q (some .ret) ⟨t, [], H'⟩) : WP tab σ.sS none (.code (JA σ sz) :: k) ⟨t, [], H⟩ Q := by
  obtain ⟨p, hp⟩ : ∃ p, rows[m]? = some p := ⟨_, List.getElem?_eq_getElem (by omega)⟩
  have wp : W p := hW _ (List.mem_of_getElem? hp)
  refine ak (aj (.inl rfl) ?_)
  simp [g1]
  refine ak (aj (.inl rfl) ?_)
  simp [g2]
  refine ak ?_
  refine aS ?_
  refine iT (fun w s => ∃ (lo hi : Nat) (t : T) (H1 : Heap), s = ⟨t, [], H1⟩ ∧ lo + w = hi ∧ a ≤ lo ∧ hi ≤ m ∧ t.g 0 = .c (.sl b 0 n 0 ep sz) ∧ t.g 2 = vi m ∧ t.g 4 = cv ∧ t.g 14 = vi lo ∧ t.g 15 = vi hi ∧ Fm b H H1 ∧ RB H1 b sz ep rows ∧
      (∀ (k : Nat) x, a ≤ k → k < lo → rows[k]? = some x → ¬ c p x < 0) ∧ (∀ (k : Nat) x, hi ≤ k → k < m → rows[k]? = some x → c p x < 0)) (m - a)
    ⟨a, m, _, H, rfl, by omega, by omega, by omega, by simp [g0], by simp [g2], by simp [g4], by simp, by simp, Fm.refl H, hrb, fun k x h1 h2 => by omega, fun k x h1 h2 => by omega⟩ ?_
  rintro w s ⟨lo, hi, t, H1, rfl, hw, h5, h6, g0, g2, g4, g14, g15, hfr, hrb, hlo, hhi⟩ ih
  refine ak ?_
  refine ak (aj (.inl rfl) ?_)
  simp [g14, g15]
  by_cases hlt : lo < hi
  · refine aI (by simp [hlt]) (aN ?_)
    obtain ⟨q, hq⟩ : ∃ q, q = (lo + hi) / 2 := ⟨_, rfl⟩
    refine aS ?_
    refine ak (aj (.inl rfl) ?_)
    simp [g14, g15, wrap64 (n := (lo : Int) + hi) (by omega) (by omega), oG (lo := lo) (hi := hi) (by omega), qB (lo := lo) (hi := hi) (by omega) hq, wrap64 (n := (q : Int)) (by omega) (by omega)]
    obtain ⟨x, y, F, ar, J, hx, hy, i1, j1, l1, l2, vM, he, -, wy⟩ := hrb.ask hg hcv hW hn (i := m) (j := q) (by omega) (by omega)
    rw [hp] at hx; cases hx
    refine ak (aj (.inl rfl) ?_)
    simp [g0, g2, g4, i1, j1, l1, l2, vM, he, -aU]
    by_cases hc0 : c p y < 0
    · refine aB (by simp [hc0]) (aj (.inl rfl) ?_)
      simp
      refine aP (ih (q - lo) _ (by omega) ⟨lo, q, _, _, rfl, by omega, h5, by omega, by simp [g0], by simp [g2], by simp [g4], by simp [g14], by simp, hfr.trans (Fm.push _ _), hrb.push _, hlo, fun k z k1 k2 hz => ?_⟩)
      exact (u1.le hc hW (i := q) (j := k) (by omega) k1 k2).amu hc hW wp hy hz hc0
    · refine aI (by simp [hc0]) (aj (.inl rfl) ?_)
      simp [wrap64 (n := (q : Int) + 1) (by omega) (by omega)]
      refine aP (ih (hi - (q + 1)) _ (by omega) ⟨q + 1, hi, _, _, rfl, by omega, by omega, h6, by simp [g0], by simp [g2], by simp [g4], by simp, by simp [g15], hfr.trans (Fm.push _ _), hrb.push _, fun k z k1 k2 hz => ?_, hhi⟩)
      exact hc.trans (hW _ (List.mem_of_getElem? hz)) wy wp ((u1.le hc hW (i := k) (j := q) k1 (by omega) (by omega)) _ _ hz hy) hc0
  refine aB (by simp [hlt]) ?_
  obtain rfl : lo = hi := by omega
  refine dN (k' := .code (Jz σ sz) :: k) rfl ?_
  refine ak ?_
  refine ak (aj (.inl rfl) ?_)
  simp [g2]
  refine aS ?_
  refine iT (fun w s => ∃ (i : Nat) (t : T) (H1 : Heap) (l : List (List FC)), s = ⟨t, [], H1⟩ ∧ i = lo + w ∧ i ≤ m ∧ t.g 0 = .c (.sl b 0 n 0 ep sz) ∧ t.g 14 = vi lo ∧ t.g 17 = vi i ∧ Fm b H H1 ∧ RB H1 b sz ep l ∧ Seg a (m + 1) rows l ∧ Rot rows l i m (m + 1)) (m - lo)
    ⟨m, _, H1, rows, rfl, by omega, by omega, by simp [g0], by simp [g14], by simp, hfr, hrb, Seg.refl _ _ _, Rot.none _ (by omega) (by omega) (.inl rfl)⟩ ?_
  rintro w s ⟨i, t, H1, l, rfl, hw, h7, g0, g14, g17, hfr, hrb, hseg, rX⟩ ih
  have hlen := hseg.len
  refine ak ?_
  refine ak (aj (.inl rfl) ?_)
  simp [g14, g17]
  by_cases hlt : lo < i
  · refine aI (by simp; omega) (aN ?_)
    obtain ⟨d, rfl⟩ : ∃ d, i = d + 1 := ⟨i - 1, by omega⟩
    obtain ⟨x, y, H2, H3, -, -, i1, j1, l1, l2, w1, w2, s1, j2, s2, r2, f2⟩ := hrb.swp (hseg.grid hg) (hlen.trans hn) (i := d + 1) (j := d) (by omega) (by omega)
    have c1 : ((d + 1 : Nat) : Int) = (d : Int) + 1 := by omega
    rw [c1] at i1 g17
    refine ak ?_
    refine aS (aj (.inl rfl) ?_)
    simp [g0, g17, wrap64 (n := (d : Int)) (by omega) (by omega), i1, j1, l1, l2, w1, w2, s1, j2, s2, -aU, -dY]
    refine aP (aj (.inl rfl) ?_)
    simp [g17, wrap64 (n := (d : Int)) (by omega) (by omega)]
    exact ih (w - 1) _ (by omega) ⟨d, _, H3, _, rfl, by omega, by omega, by simp [g0], by simp [g14], by simp, hfr.trans f2, r2, hseg.trans (xE (by omega) (by omega) (by omega) (by omega) (by omega)), rX.dn hlen h7 (by omega)⟩
  obtain rfl : lo = i := by omega
  refine aB (by simp) ?_
  refine dN (k' := .code .ret :: k) rfl ?_
  refine aO (hQ _ _ l hfr hrb hseg ?_)
  refine P7 hc hW u1 (Up.one (by omega)) h5 h6 (by omega) (Nat.le_refl _) (by omega) (.inr (by omega)) (fun h _ => ?_) (fun h _ => ?_) (fun _ h => by omega) rX
  · have hx := List.getElem?_eq_getElem (l := rows) (i := lo - 1) (by omega)
    exact LeI.of_le hx hp (hlo _ _ (by omega) (by omega) hx)
  · have hx := List.getElem?_eq_getElem (l := rows) (i := lo) (by omega)
    exact LeI.of_lt hc hW hp hx (hhi _ _ (by omega) (by omega) hx)
end
end Km
end

section
set_option linter.unusedVariables false
namespace Km
open Go

section
variable {tab : Nat → Option AFunc} {σ : Srt} {sz : Nat} {b ep : Nat} {cv : V} {W : List FC → Prop} {c : List FC → List FC → Int}

theorem am8 (hT : tab σ.sS = some (O6 σ sz)) (hR : tab σ.rot = some (P8 σ sz)) (hS : tab σ.swr = some (Jt σ sz)) (hcv : Cv tab cv W c) (hc : Cmp W c) {n : Nat} (hl : n ≤ 1000000000) : ∀ (d : Nat) {H : Heap} {rows : List (List FC)} {a m e : Nat}, e - a = d → rows.length = n → RB H b sz ep rows → Grid sz rows → (∀ r ∈ rows, W r) → a < m → m < e → e ≤ n → Up c a m rows → Up c m e rows →
    ∃ r H', Ev tab (.fn σ.sS) [.c (.sl b 0 n 0 ep sz), vi a, vi m, vi e, cv] H r H' ∧ (r = .t [] ∧ Fm b H H' ∧ ∃ l', RB H' b sz ep l' ∧ Seg a e rows l' ∧ Up c a e l') := by
  intro d
  induction d using Nat.strongRecOn with
  | _ d IH =>
  intro H rows a m e hd hn hrb hg hW h1 h2 h4 u1 u2
  refine jo hT rfl fun Q hQ => ?_
  refine ak ?_
  refine ak (aj (.inl rfl) ?_)
  simp [wrap64 (n := (m : Int) - a) (by omega) (by omega)]
  by_cases hm1 : m = a + 1
  · subst hm1
    refine aI (by simp; omega) ?_
    exact O5 hcv hc hn hl hrb hg hW h2 h4 u2 (by simp) (by simp) (by simp) (by simp) (by simp) fun t H' l' f r s u => hQ _ _ _ rfl rfl ⟨rfl, f, l', r, s, u⟩
  refine aB (by simp; omega) (aN ?_)
  refine ak ?_
  refine ak (aj (.inl rfl) ?_)
  simp [wrap64 (n := (e : Int) - m) (by omega) (by omega)]
  by_cases he1 : e = m + 1
  · subst he1
    refine aI (by simp; omega) ?_
    exact LJ hcv hc hn hl hrb hg hW h1 h4 u1 (by simp) (by simp) (by simp) (by simp) fun t H' l' f r s u => hQ _ _ _ rfl rfl ⟨rfl, f, l', r, s, u⟩
  refine aB (by simp; omega) (aN ?_)
  obtain ⟨mid, hmid⟩ : ∃ q, q = (a + e) / 2 := ⟨_, rfl⟩
  refine ak (aj (.inl rfl) ?_)
  simp [wrap64 (n := (a : Int) + e) (by omega) (by omega), oG (lo := a) (hi := e) (by omega), qB (lo := a) (hi := e) (by omega) hmid, wrap64 (n := (mid : Int)) (by omega) (by omega)]
  refine ak (aj (.inl rfl) ?_)
  simp [wrap64 (n := (mid : Int) + m) (by omega) (by omega)]
  refine ak (aj (.inl rfl) ?_)
  simp
  -- the last step: the second half
  have st3 : ∀ (t : T) (H3 : Heap) (s en : Nat) (l1 l2 : List (List FC)), a ≤ s → s ≤ m → s ≤ mid → m ≤ en → mid ≤ en → en ≤ e → mid + m = s + en → (a < s → en < e → LeI c rows (s - 1) en) → (s < m → m < en → LeI c rows (en - 1) s) → Rot rows l1 s m en → Seg a e rows l1 → Seg a mid l1 l2 → Up c a mid l2 →
      t.g 0 = .c (.sl b 0 n 0 ep sz) → t.g 3 = vi e → t.g 4 = cv → t.g 18 = vi mid → t.g 24 = vi en → Fm b H H3 → RB H3 b sz ep l2 → WP tab σ.sS none [.code (DX σ sz)] ⟨t, [], H3⟩ Q := by
    intro t H3 s en l1 l2 q1 q2 q3 q4 q5 q6 q7 x1 x2 rX sg1 sg2 up2 g0 g3 g4 g18 g24 hfr hrb
    have e1 := sg1.len
    have e2 := sg2.len
    have v1 : Up c mid en l2 := by
      refine Up.sub (l := rows) (d := en - m) (u1.mono (by omega) (by omega)) (by omega) fun k k1 k2 => ?_
      rw [sg2.ge k1, rX k, if_neg (by omega), if_pos (by omega)]
    have v2 : Up c en e l2 := (u2.mono (show m ≤ en by omega) (Nat.le_refl _)).of fun k k1 k2 => by rw [sg2.ge (by omega), rX k, if_neg (by omega), if_neg (by omega)]
    have fin : ∀ l3, Seg mid e l2 l3 → Up c mid e l3 → Seg a e rows l3 ∧ Up c a e l3 := fun l3 sg3 up3 =>
      ⟨sg1.trans ((sg2.mono (Nat.le_refl _) (by omega)).trans (sg3.mono (by omega) (Nat.le_refl _))), Ro hc hW u1 u2 q1 q2 q4 q6 q7 (by omega) x1 x2 rX e1 sg2 up2 sg3 up3⟩
    refine ak (aj (.inl rfl) ?_)
    by_cases k1 : mid < en
    · by_cases k2 : en < e
      · simp [g3, g18, g24, k1, k2]
        obtain ⟨r, H4, hev, rfl, f4, l3, r3, s3, u3⟩ := IH (e - mid) (by omega) (H := H3) (rows := l2) rfl (by omega) hrb (sg2.grid (sg1.grid hg)) (fun r hr => hW r (sg1.1.mem_iff.1 (sg2.1.mem_iff.1 hr))) k1 k2 h4 v1 v2
        obtain ⟨w1, w2⟩ := fin l3 s3 u3
        have hev := hev.eq
        refine aI (by simp) (aj (.inl rfl) ?_)
        simp [g0, g3, g4, g18, g24, hev]
        exact jQ (hQ _ _ _ rfl rfl ⟨rfl, hfr.trans f4, l3, r3, w1, w2⟩)
      · simp [g3, g18, g24, k1, k2]
        obtain rfl : en = e := by omega
        obtain ⟨w1, w2⟩ := fin l2 (Seg.refl _ _ _) v1
        refine aB (by simp) (aN ?_)
        exact jQ (hQ _ _ _ rfl rfl ⟨rfl, hfr, l2, hrb, w1, w2⟩)
    · simp [g3, g18, g24, k1]
      obtain rfl : mid = en := by omega
      obtain ⟨w1, w2⟩ := fin l2 (Seg.refl _ _ _) v2
      refine aB (by simp) (aN ?_)
      exact jQ (hQ _ _ _ rfl rfl ⟨rfl, hfr, l2, hrb, w1, w2⟩)
  -- the first half
  have st2 : ∀ (t : T) (H3 : Heap) (s en : Nat) (l1 : List (List FC)), a ≤ s → s ≤ m → s ≤ mid → m ≤ en → mid ≤ en → en ≤ e → mid + m = s + en → (a < s → en < e → LeI c rows (s - 1) en) → (s < m → m < en → LeI c rows (en - 1) s) → Rot rows l1 s m en → Seg a e rows l1 →
      t.g 0 = .c (.sl b 0 n 0 ep sz) → t.g 1 = vi a → t.g 3 = vi e → t.g 4 = cv → t.g 18 = vi mid → t.g 20 = vi s → t.g 24 = vi en → Fm b H H3 → RB H3 b sz ep l1 → WP tab σ.sS none [.code (DY σ sz)] ⟨t, [], H3⟩ Q := by
    intro t H3 s en l1 q1 q2 q3 q4 q5 q6 q7 x1 x2 rX sg1 g0 g1 g3 g4 g18 g20 g24 hfr hrb
    have e1 := sg1.len
    have v1 : Up c a s l1 := (u1.mono (Nat.le_refl _) q2).of fun k k1 k2 => by rw [rX k, if_neg (by omega), if_neg (by omega)]
    have v2 : Up c s mid l1 := by
      refine Up.add (l := rows) (d := m - s) (u2.mono (by omega) (by omega)) fun k k1 k2 => ?_
      rw [rX k, if_pos (by omega)]; congr 1; omega
    refine ak ?_
    refine ak (aj (.inl rfl) ?_)
    by_cases k1 : a < s
    · by_cases k2 : s < mid
      · simp [g1, g18, g20, k1, k2]
        obtain ⟨r, H4, hev, rfl, f4, l3, r3, s3, u3⟩ := IH (mid - a) (by omega) (H := H3) (rows := l1) rfl (by omega) hrb (sg1.grid hg) (fun r hr => hW r (sg1.1.mem_iff.1 hr)) k1 k2 (by omega) v1 v2
        have hev := hev.eq
        refine aI (by simp) (aj (.inl rfl) ?_)
        simp [g0, g1, g4, g18, g20, hev]
        exact st3 _ _ s en l1 l3 q1 q2 q3 q4 q5 q6 q7 x1 x2 rX sg1 s3 u3 (by simp [g0]) (by simp [g3]) (by simp [g4]) (by simp [g18]) (by simp [g24]) (hfr.trans f4) r3
      · simp [g1, g18, g20, k1, k2]
        obtain rfl : s = mid := by omega
        refine aB (by simp) (aN ?_)
        exact st3 _ _ s en l1 l1 q1 q2 q3 q4 q5 q6 q7 x1 x2 rX sg1 (Seg.refl _ _ _) v1 (by simp [g0]) (by simp [g3]) (by simp [g4]) (by simp [g18]) (by simp [g24]) hfr hrb
    · simp [g1, g18, g20, k1]
      obtain rfl : a = s := by omega
      refine aB (by simp) (aN ?_)
      exact st3 _ _ a en l1 l1 q1 q2 q3 q4 q5 q6 q7 x1 x2 rX sg1 (Seg.refl _ _ _) v2 (by simp [g0]) (by simp [g3]) (by simp [g4]) (by simp [g18]) (by simp [g24]) hfr hrb
  -- the cut is found
  have st1 : ∀ (t : T) (H3 : Heap) (s0 r0 s : Nat), (mid < m ∧ s0 + e = mid + m ∧ r0 = mid ∨ m ≤ mid ∧ s0 = a ∧ r0 = m) → s0 ≤ s → s ≤ r0 → (∀ k, s0 ≤ k → k < s → LeI c rows k (mid + m - 1 - k)) → (∀ k, s ≤ k → k < r0 → LeI c rows (mid + m - 1 - k) k) →
      t.g 0 = .c (.sl b 0 n 0 ep sz) → t.g 1 = vi a → t.g 2 = vi m → t.g 3 = vi e → t.g 4 = cv → t.g 18 = vi mid → t.g 19 = vi ((mid + m : Nat) : Int) → t.g 20 = vi s → Fm b H H3 → RB H3 b sz ep rows → WP tab σ.sS none [.code (yc σ sz)] ⟨t, [], H3⟩ Q := by
    intro t H3 s0 r0 s hor k1 k2 i1 i2 g0 g1 g2 g3 g4 g18 g19 g20 hfr hrb
    obtain ⟨en, hen⟩ : ∃ q, q = mid + m - s := ⟨_, rfl⟩
    have c1 : ((mid + m : Nat) : Int) - s = (en : Int) := by omega
    have x1 : a < s → en < e → LeI c rows (s - 1) en := fun p1 p2 => by
      have := i1 (s - 1) (by omega) (by omega)
      rwa [show mid + m - 1 - (s - 1) = en by omega] at this
    have x2 : s < m → m < en → LeI c rows (en - 1) s := fun p1 p2 => by
      have := i2 s (Nat.le_refl _) (by omega)
      rwa [show mid + m - 1 - s = en - 1 by omega] at this
    rw [show ((mid + m : Nat) : Int) = (mid : Int) + m by omega] at g19 c1
    refine ak (aj (.inl rfl) ?_)
    simp [g19, g20, c1, wrap64 (n := (en : Int)) (by omega) (by omega)]
    refine ak ?_
    refine ak (aj (.inl rfl) ?_)
    by_cases p1 : s < m
    · by_cases p2 : m < en
      · simp [g2, g20, p1, p2]
        obtain ⟨r, H4, hev, rfl, f4, l1, r1, s1, x⟩ := aCx (cv := cv) (a := s) (m := m) (e := en) hR hS hn hl hrb hg p1 p2 (by omega)
        have hev := hev.eq
        refine aI (by simp) (aj (.inl rfl) ?_)
        simp [g0, g2, g4, g20, hev]
        exact st2 _ _ s en l1 (by omega) (by omega) (by omega) (by omega) (by omega) (by omega) (by omega) x1 x2 x (s1.mono (by omega) (by omega)) (by simp [g0]) (by simp [g1]) (by simp [g3]) (by simp [g4]) (by simp [g18]) (by simp [g20]) (by simp) (hfr.trans f4) r1
      · simp [g2, g20, p1, p2]
        refine aB (by simp) (aN ?_)
        exact st2 _ _ s en rows (by omega) (by omega) (by omega) (by omega) (by omega) (by omega) (by omega) x1 x2 (Rot.none _ (by omega) (by omega) (.inr (by omega))) (Seg.refl _ _ _) (by simp [g0]) (by simp [g1]) (by simp [g3]) (by simp [g4]) (by simp [g18]) (by simp [g20]) (by simp) hfr hrb
    · simp [g2, g20, p1]
      refine aB (by simp) (aN ?_)
      exact st2 _ _ s en rows (by omega) (by omega) (by omega) (by omega) (by omega) (by omega) (by omega) x1 x2 (Rot.none _ (by omega) (by omega) (.inl (by omega))) (Seg.refl _ _ _) (by simp [g0]) (by simp [g1]) (by simp [g3]) (by simp [g4]) (by simp [g18]) (by simp [g20]) (by simp) hfr hrb
  -- the search
  have st0 : ∀ (t : T) (s0 r0 : Nat), (mid < m ∧ s0 + e = mid + m ∧ r0 = mid ∨ m ≤ mid ∧ s0 = a ∧ r0 = m) → t.g 0 = .c (.sl b 0 n 0 ep sz) → t.g 1 = vi a → t.g 2 = vi m → t.g 3 = vi e → t.g 4 = cv → t.g 18 = vi mid → t.g 19 = vi ((mid + m : Nat) : Int) → t.g 20 = vi s0 → t.g 21 = vi r0 →
      WP tab σ.sS none [.code (Jy σ sz)] ⟨t, [], H⟩ Q := by
    intro t s0 r0 hor g0 g1 g2 g3 g4 g18 g19 g20 g21
    have c0 : ((mid + m : Nat) : Int) = (mid : Int) + m := by omega
    obtain ⟨p, hp⟩ : ∃ p, p = mid + m - 1 := ⟨_, rfl⟩
    have c1 : (mid : Int) + m - 1 = (p : Int) := by omega
    rw [c0] at g19
    refine ak (aj (.inl rfl) ?_)
    simp [g19, c1, wrap64 (n := (p : Int)) (by omega) (by omega)]
    refine ak ?_
    refine aS ?_
    refine iT (fun w s => ∃ (lo hi : Nat) (t : T) (H1 : Heap), s = ⟨t, [], H1⟩ ∧ lo + w = hi ∧ s0 ≤ lo ∧ hi ≤ r0 ∧ t.g 0 = .c (.sl b 0 n 0 ep sz) ∧ t.g 1 = vi a ∧ t.g 2 = vi m ∧ t.g 3 = vi e ∧ t.g 4 = cv ∧ t.g 18 = vi mid ∧ t.g 19 = vi ((mid : Int) + m) ∧ t.g 22 = vi p ∧ t.g 20 = vi lo ∧ t.g 21 = vi hi ∧ Fm b H H1 ∧ RB H1 b sz ep rows ∧
        (∀ k, s0 ≤ k → k < lo → LeI c rows k (mid + m - 1 - k)) ∧ (∀ k, hi ≤ k → k < r0 → LeI c rows (mid + m - 1 - k) k)) (r0 - s0)
      ⟨s0, r0, _, H, rfl, by omega, by omega, by omega, by simp [g0], by simp [g1], by simp [g2], by simp [g3], by simp [g4], by simp [g18], by simp [g19], by simp, by simp [g20], by simp [g21], Fm.refl H, hrb, fun k h1 h2 => by omega, fun k h1 h2 => by omega⟩ ?_
    rintro w s ⟨lo, hi, t, H1, rfl, hw, h5, h6, g0, g1, g2, g3, g4, g18, g19, g22, g20, g21, hfr, hrb, hlo, hhi⟩ ih
    refine ak ?_
    refine ak (aj (.inl rfl) ?_)
    simp [g20, g21]
    by_cases hlt : lo < hi
    · refine aI (by simp [hlt]) (aN ?_)
      obtain ⟨q, hq⟩ : ∃ q, q = (lo + hi) / 2 := ⟨_, rfl⟩
      refine aS ?_
      refine ak (aj (.inl rfl) ?_)
      simp [g20, g21, wrap64 (n := (lo : Int) + hi) (by omega) (by omega), oG (lo := lo) (hi := hi) (by omega), qB (lo := lo) (hi := hi) (by omega) hq, wrap64 (n := (q : Int)) (by omega) (by omega)]
      obtain ⟨x, y, F, ar, J, hx, hy, i1, j1, l1, l2, vM, he, wx, wy⟩ := hrb.ask hg hcv hW hn (i := p - q) (j := q) (by omega) (by omega)
      rw [show ((p - q : Nat) : Int) = (p : Int) - q by omega] at i1
      refine ak (aj (.inl rfl) ?_)
      simp [g0, g4, g22, wrap64 (n := (p : Int) - q) (by omega) (by omega), i1, j1, l1, l2, vM, he, -aU]
      by_cases hc0 : c x y < 0
      · refine aB (by simp [hc0]) (aj (.inl rfl) ?_)
        simp
        refine aP (ih (q - lo) _ (by omega) ⟨lo, q, _, _, rfl, by omega, h5, by omega, by simp [g0], by simp [g1], by simp [g2], by simp [g3], by simp [g4], by simp [g18], by simp [g19], by simp [g22], by simp [g20], by simp, hfr.trans (Fm.push _ _), hrb.push _, hlo, fun k k1 k2 => ?_⟩)
        exact ((u2.le hc hW (i := mid + m - 1 - k) (j := p - q) (by omega) (by omega) (by omega)).trans hc hW (LeI.of_lt hc hW hx hy hc0) (by omega)).trans hc hW (u1.le hc hW (i := q) (j := k) (by omega) k1 (by omega)) (by omega)
      · refine aI (by simp [hc0]) (aj (.inl rfl) ?_)
        simp [wrap64 (n := (q : Int) + 1) (by omega) (by omega)]
        refine aP (ih (hi - (q + 1)) _ (by omega) ⟨q + 1, hi, _, _, rfl, by omega, by omega, h6, by simp [g0], by simp [g1], by simp [g2], by simp [g3], by simp [g4], by simp [g18], by simp [g19], by simp [g22], by simp, by simp [g21], hfr.trans (Fm.push _ _), hrb.push _, fun k k1 k2 => ?_, hhi⟩)
        exact ((u1.le hc hW (i := k) (j := q) (by omega) (by omega) (by omega)).trans hc hW (LeI.of_le hy hx hc0) (by omega)).trans hc hW (u2.le hc hW (i := p - q) (j := mid + m - 1 - k) (by omega) (by omega) (by omega)) (by omega)
    refine aB (by simp [hlt]) ?_
    obtain rfl : lo = hi := by omega
    refine dN (k' := [.code (yc σ sz)]) rfl ?_
    exact st1 _ _ s0 r0 lo hor h5 h6 hlo hhi (by simp [g0]) (by simp [g1]) (by simp [g2]) (by simp [g3]) (by simp [g4]) (by simp [g18]) (by simp [g19]) (by simp [g20]) hfr hrb
  refine ak ?_
  refine ak (aj (.inl rfl) ?_)
  simp
  by_cases hgt : mid < m
  · refine aI (by simp [hgt]) ?_
    have c2 : (mid : Int) + m - e = ((mid + m - e : Nat) : Int) := by omega
    refine ak (aj (.inl rfl) ?_)
    simp [wrap64 (n := (mid : Int) + m - e) (by omega) (by omega)]
    refine aj (.inl rfl) ?_
    simp
    exact st0 _ (mid + m - e) mid (.inl ⟨hgt, by omega, rfl⟩) (by simp) (by simp) (by simp) (by simp) (by simp) (by simp) (by simp) (by simp [c2]) (by simp)
  · refine aB (by simp [hgt]) ?_
    refine ak (aj (.inl rfl) ?_)
    simp
    refine aj (.inl rfl) ?_
    simp
    exact st0 _ a m (.inr ⟨by omega, rfl, rfl⟩) (by simp) (by simp) (by simp) (by simp) (by simp) (by simp) (by simp) (by simp) (by simp)

theorem amv (hT : tab σ.aCi = some (aB7 σ sz)) (hI : tab σ.ins = some (aBH σ sz)) (hM : tab σ.sS = some (O6 σ sz)) (hR : tab σ.rot = some (P8 σ sz)) (hS : tab σ.swr = some (Jt σ sz)) (hcv : Cv tab cv W c) (hc : Cmp W c) {H : Heap} {rows : List (List FC)} {n : Nat} (hn : rows.length = n) (hl : n < 40) (hrb : RB H b sz ep rows) (hg : Grid sz rows) (hW : ∀ r ∈ rows, W r) :
    ∃ r H', Ev tab (.fn σ.aCi) [.c (.sl b 0 n 0 ep sz), vi n, cv] H r H' ∧ (r = .t [] ∧ Fm b H H' ∧ ∃ l', RB H' b sz ep l' ∧ l'.Perm rows ∧ Up c 0 n l') := by
  refine jo hT rfl fun Q hQ => ?_
  refine ak (aj (.inl rfl) ?_)
  simp
  refine ak (aj (.inl rfl) ?_)
  simp
  refine ak ?_
  refine aS ?_
  refine lG ?_
  refine ak ?_
  refine ak (aj (.inl rfl) ?_)
  simp
  by_cases h20 : 20 ≤ n
  case neg =>
    refine aB (by simp; omega) ?_
    refine dN (k' := [.code (BH σ sz)]) rfl ?_
    obtain ⟨r, H1, he, rfl, f1, l1, r1, s1, u1⟩ := IG (a := 0) (e := n) hI hcv hc hn (by omega) hrb hg hW (by omega) (Nat.le_refl _)
    have he := he.eq
    simp at he
    refine ak (aj (.inl rfl) ?_)
    simp [he]
    refine aS ?_
    refine lG ?_
    refine ak ?_
    refine ak (aj (.inl rfl) ?_)
    simp
    refine aB (by simp; omega) ?_
    refine dN (k' := []) rfl ?_
    exact jQ (hQ _ _ _ rfl rfl ⟨rfl, f1, l1, r1, s1.1, u1⟩)
  refine aI (by simp; omega) (aN ?_)
  obtain ⟨r, H1, he, rfl, f1, l1, r1, s1, u1⟩ := IG (a := 0) (e := 20) hI hcv hc hn (by omega) hrb hg hW (by omega) h20
  have he := he.eq
  simp at he
  have wall : ∀ {a e l}, Seg a e rows l → ∀ r ∈ l, W r := fun h r hr => hW r (h.1.mem_iff.1 hr)
  obtain ⟨r, H2, he2, rfl, f2, l2, r2, s2, u2⟩ := IG (a := 20) (e := n) hI hcv hc (s1.len.trans hn) (by omega) r1 (s1.grid hg) (wall s1) h20 (Nat.le_refl _)
  have he2 := he2.eq
  simp at he2
  refine aS ?_
  refine ak (aj (.inl rfl) ?_)
  simp [he]
  refine ak (aj (.inl rfl) ?_)
  simp
  refine aj (.inl rfl) ?_
  simp [wrap64 (n := (20 : Int) + 20) (by omega) (by omega)]
  refine aP (vH ?_)
  refine ak ?_
  refine ak (aj (.inl rfl) ?_)
  simp
  refine aB (by simp [IntKind.wrap, IntKind.bits, IntKind.signed]; omega) ?_
  refine dN (k' := [.code (BH σ sz)]) rfl ?_
  refine ak (aj (.inl rfl) ?_)
  simp [he2]
  refine aS ?_
  refine lG ?_
  refine ak ?_
  refine ak (aj (.inl rfl) ?_)
  simp
  have s12 : Seg 0 n rows l2 := (s1.mono (Nat.le_refl _) h20).trans (s2.mono (by omega) (Nat.le_refl _))
  have u12 : Up c 0 20 l2 := u1.of fun k _ k2 => s2.lt k2
  by_cases h21 : 20 < n
  case neg =>
    obtain rfl : n = 20 := by omega
    refine aB (by simp) ?_
    refine dN (k' := []) rfl ?_
    exact jQ (hQ _ _ _ rfl rfl ⟨rfl, f1.trans f2, l2, r2, s12.1, u12⟩)
  refine aI (by simp; omega) (aN ?_)
  obtain ⟨r, H3, he3, rfl, f3, l3, r3, s3, u3⟩ := am8 (b := b) (ep := ep) (sz := sz) hM hR hS hcv hc (n := n) (by omega) n (a := 0) (m := 20) (e := n) rfl (s12.len.trans hn) r2 (s12.grid hg) (wall s12) (by omega) h21 (Nat.le_refl _) u12 u2
  have he3 := he3.eq
  simp at he3
  refine aS ?_
  refine ak (aj (.inl rfl) ?_)
  simp [wrap64 (n := (2 : Int) * 20) (by omega) (by omega)]
  refine ak ?_
  refine aS ?_
  refine lG ?_
  refine ak ?_
  refine ak (aj (.inl rfl) ?_)
  simp
  refine aB (by simp [IntKind.wrap, IntKind.bits, IntKind.signed]; omega) ?_
  refine dN (k' := [.code (Ju σ sz), .inBlock 3, .inLoop (Jv σ sz), .inBlock 2]) rfl ?_
  refine ak ?_
  refine ak (aj (.inl rfl) ?_)
  simp [wrap64 (n := (0 : Int) + 20) (by omega) (by omega), wrap64 (n := (20 : Int)) (by omega) (by omega)]
  refine ak (aj (.inl rfl) ?_)
  simp
  refine aI (by simp; omega) ?_
  refine aj (.inl rfl) ?_
  simp [he3]
  refine aj (.inl rfl) ?_
  simp
  refine aP (vH ?_)
  refine ak ?_
  refine ak (aj (.inl rfl) ?_)
  simp
  refine aB (by simp [IntKind.wrap, IntKind.bits, IntKind.signed]; omega) ?_
  refine dN (k' := []) rfl ?_
  exact jQ (hQ _ _ _ rfl rfl ⟨rfl, f1.trans (f2.trans f3), l3, r3, s3.1.trans s12.1, u3⟩)
end
end Km
end

