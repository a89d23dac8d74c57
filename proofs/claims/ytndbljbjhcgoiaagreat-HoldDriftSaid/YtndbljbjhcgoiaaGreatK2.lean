/-
  Our own small machine for closed runs of Go code, held against the model: the steps of its operations. No program in sight.
-/
import Derived.Test.YtndbljbjhcgoiaaGreatK1
import Derived.Laws.Tables
import Derived.Laws.AppendOwn
import Derived.AtR
import Derived.RangeFuncIn
import Derived.RangeFuncRecord
import Derived.Conc.MuLone

set_option linter.unusedVariables false
set_option linter.unusedSimpArgs false
set_option linter.unusedSectionVars false

section
namespace Km
open Go

variable {Q : Program} {σ : Nat → FuncId} {X : Wd}

theorem ex_v {s : Sem Value} {u : Value} {w w' : World} (h : s.run Q w = .ok u w') : (do pure (Next.value (← s)) : Sem Next).run Q w = .ok (.value u) w' := by simp [h]

theorem OR_ok {a : Act} {regs : T} (hR : RR σ X regs a.tmps) {x : Option Arg} {y : Option Operand} (h : mO σ x y = true) : OR X σ (x.map (·.ev regs)) (y.map a.eval) := by
  rcases mO_ok hR h with ⟨rfl, rfl⟩ | ⟨x', y', rfl, rfl, hv⟩
  · trivial
  · exact hv

theorem elem_ok {t : TypeId} {p : TypeId → Bool} (h : (elemT Q t).any p = true) : ∃ e, Q.underlying t = some (.slice e) ∧ p e = true := by
  unfold elemT at h
  split at h
  · exact ⟨_, by assumption, by simpa using h⟩
  · simp at h

theorem slLen_ok {x : C} {u : Value} (hx : CR σ X x u) {l : Nat} (h : slLen X.H x = some l) : ∃ a c, u = .slice a l c := by
  unfold slLen at h
  split at h <;> try simp only [Option.some.injEq, reduceCtorEq] at h
  · simp only [CR, CR1] at hx
    split at h
    · rename_i hb
      rw [hb] at hx
      obtain ⟨L, _, _, rfl⟩ := hx
      simp only [Option.some.injEq] at h; subst h
      exact ⟨_, _, rfl⟩
    · rename_i s cs fl e st hb
      rw [hb] at hx
      split at h
      · rename_i hc
        have := hx.2.1 hc.1 hc.2
        simp only [Option.some.injEq] at h; subst h
        cases st with
        | loc => obtain ⟨L, _, k, _, _, rfl⟩ := this; exact ⟨_, _, rfl⟩
        | nil => obtain ⟨_, rfl, rfl⟩ := this; exact ⟨_, _, rfl⟩
        | es => obtain ⟨_, rfl, a, rfl⟩ := this; exact ⟨_, _, rfl⟩
      · simp at h
    · simp at h
  · subst h; cases (hx : FCR σ X.F X.w .nils u); exact ⟨_, _, rfl⟩
  · subst h; cases (hx : FCR σ X.F X.w .es u); exact ⟨_, _, rfl⟩
  · subst h; cases (hx : FCR σ X.F X.w (.fs _ _) u) <;> exact ⟨_, _, rfl⟩

/-- The elements of a slice, read. -/
theorem slCells_ok (hS : SR Q σ X) {sz : Nat} {x : C} {u : Value} (hx : CR σ X x u) {l : Nat} (hl : slLen X.H x = some l) {cs : List C} (h : slCells X.H sz x = some cs) :
    ∃ us, (Builtin.firstCells sz l u).run Q X.w = .ok us.toArray X.w ∧ A2 (CR σ X) cs us ∧ cs.length = l * sz := by
  have row : ∀ (c o : Nat) (us : List Value) (cap : Nat), us.length = l * sz → (∀ (i : Nat) u, us[i]? = some u → X.w.cell? ⟨c, o + i, none⟩ = some u) →
      (Builtin.firstCells sz l (.slice (some ⟨c, o, none⟩) l cap)).run Q X.w = .ok us.toArray X.w := by
    intro c o us cap hu hc
    have := run_loadCells_list (P := Q) X.w ⟨c, o, none⟩ us (fun j v hj => by rw [add_mk]; exact hc j v hj)
    rw [hu] at this
    simpa [Builtin.firstCells] using this
  unfold slCells at h
  split at h <;> try simp only [reduceCtorEq] at h
  · rename_i b o l' cap ep s
    simp only [CR, CR1] at hx
    simp only [slLen] at hl
    split at h
    · rename_i cs' fl hb
      rw [hb] at hx hl
      simp only [Option.some.injEq] at hl; subst hl
      obtain ⟨L, hL, _, rfl⟩ := hx
      split at h
      · rename_i hlen
        simp only [Option.some.injEq] at h; subst h
        obtain ⟨_, _, blk, hb', hbr⟩ := hS.br b L hL
        rw [hb] at hb'; simp only [Option.some.injEq] at hb'; subst hb'
        obtain ⟨us, hr, h2, _⟩ := hbr
        have := h2.len
        refine ⟨(us.drop o).take (l' * sz), row _ _ _ _ (by simp; omega) (fun i u hu => ?_), (h2.drop o).take _, by simp; omega⟩
        rw [cell_row hr]
        rw [List.getElem?_take] at hu
        split at hu
        · rw [List.getElem?_drop] at hu; exact hu
        · simp at hu
      · simp at h
    · rename_i s' cs' fl e st hb
      rw [hb] at hx hl
      split at h
      · rename_i hc
        obtain ⟨rfl, rfl, hlen⟩ := hc
        simp only [and_self, if_true, Option.some.injEq] at hl; subst hl
        simp only [Option.some.injEq] at h; subst h
        have hx2 := hx.2.1 rfl rfl
        cases st with
        | loc =>
          obtain ⟨L, hL, k, _, _, rfl⟩ := hx2
          obtain ⟨_, _, blk, hb', hbr⟩ := hS.br b L hL
          rw [hb] at hb'; simp only [Option.some.injEq] at hb'; subst hb'
          obtain ⟨_, us, rest, hr, h2, _⟩ := hbr
          have := h2.len
          refine ⟨(us.drop o).take (l' * sz), row _ _ _ _ (by simp; omega) (fun i u hu => ?_), (h2.drop o).take _, by simp; omega⟩
          rw [cell_row hr]
          rw [List.getElem?_take] at hu
          split at hu
          · rw [List.getElem?_drop] at hu
            rw [List.getElem?_append_left (List.getElem?_eq_some_iff.1 hu).1]; exact hu
          · simp at hu
        | nil =>
          obtain ⟨rfl, rfl, rfl⟩ := hx2
          exact ⟨[], by simp [Builtin.firstCells], by simpa using A2.nil, by simp⟩
        | es =>
          obtain ⟨rfl, rfl, a, rfl⟩ := hx2
          exact ⟨[], by simp [Builtin.firstCells, loadCells, loadCellsFrom], by simpa using A2.nil, by simp⟩
      · simp at h
    · simp at h
  · simp only [Option.some.injEq] at h; subst h
    simp only [slLen, Option.some.injEq] at hl; subst hl
    cases (hx : FCR σ X.F X.w .nils u)
    exact ⟨[], by simp [Builtin.firstCells], A2.nil, by simp⟩
  · simp only [Option.some.injEq] at h; subst h
    simp only [slLen, Option.some.injEq] at hl; subst hl
    cases (hx : FCR σ X.F X.w .es u)
    exact ⟨[], by simp [Builtin.firstCells, loadCells, loadCellsFrom], A2.nil, by simp⟩
  · rename_i cs' l'
    simp only [slLen, Option.some.injEq] at hl; subst hl
    split at h
    · rename_i hlen
      simp only [Option.some.injEq] at h; subst h
      cases (hx : FCR σ X.F X.w (.fs cs' l') u) with
      | fs _ _ c o cap us hcap hl' hF hc hr =>
        exact ⟨us, row _ _ _ _ (by omega) hc, A2.map ⟨by omega, hr⟩, by simp; omega⟩
      | fs0 a cap => exact ⟨[], by simp [Builtin.firstCells, loadCells, loadCellsFrom], A2.nil, by simp⟩
    · simp at h

theorem capC_ok {v : V} {u : Value} (h : VR σ X v u) {c : C} (hc : capC v = some c) : CR1 σ X c u := by
  unfold capC at hc
  split at hc
  · simp at hc
  · simp at hc
  · rename_i x hn hn'
    simp only [Option.some.injEq] at hc; subst hc
    cases x with
    | cl f caps => exact absurd rfl (hn f caps)
    | bm f caps => exact absurd rfl (hn' f caps)
    | mi b => exact h
    | f y => exact h
    | ptr a b c => exact h
    | sl a b c d e g => exact h
    | yl b => exact h
    | mp b => exact h
    | it b => exact h
  · simp at hc

theorem argsC_ok {xs : List V} {us : List Value} (h : A2 (VR σ X) xs us) {cs : List C} (hc : mapO capC xs = some cs) : A2 (CR1 σ X) cs us := by
  induction xs generalizing us cs with
  | nil =>
    simp only [mapO, Option.some.injEq] at hc; subst hc
    match us, h.len with
    | [], _ => exact A2.nil
  | cons x xs ih =>
    match us, h with
    | u :: us, h =>
      obtain ⟨h1, h2⟩ := h.of_cons
      simp only [mapO] at hc
      split at hc
      · simp at hc
      · rename_i y hy
        split at hc
        · simp at hc
        · rename_i ys hys
          simp only [Option.some.injEq] at hc; subst hc
          exact A2.cons (capC_ok h1 hy) (ih h2 hys)
    | [], h => have := h.len; simp at this

/-- What a call of a builtin comes to. -/
theorem run_builtin {ρ : Operand → Value} {o : Oper} {c : Call} {b : Builtin} (ho : o.op = .call c) (hb : c.callee = .builtin b) {r : Result Next} {w : World}
    (h : ∀ cs, (builtin b c.argTypes o.type cs (c.args.map ρ)).run Q w = r) : (execOp ρ o).run Q w = r := by
  simp only [execOp, ho, resolve, hb, Sem.run_bind, Sem.run_pure, Result.andThen_ok, invoke]
  exact h _

theorem arr1 {α : Type} {a : Array α} {x : α} (h : a.toList = [x]) : a = #[x] := by
  apply Array.ext'; simp [h]
theorem arr2 {α : Type} {a : Array α} {x y : α} (h : a.toList = [x, y]) : a = #[x, y] := by
  apply Array.ext'; simp [h]

theorem mCall_len {c : Call} {x : Arg} (h : mCall Q σ c (.len x) = true) : ∃ y t e, c.callee = .builtin .len ∧ c.args = #[y] ∧ c.argTypes = #[t] ∧ mA σ x y = true ∧ Q.underlying t = some (.slice e) := by
  simp only [mCall] at h
  split at h
  · rename_i y t h1 h2 h3
    simp only [Bool.and_eq_true] at h
    have := h.2
    split at this
    · exact ⟨y, t, _, h1, arr1 h2, arr1 h3, h.1, by assumption⟩
    · simp at this
  · simp at h

theorem mCall_lens {c : Call} {x : Arg} (h : mCall Q σ c (.lens x) = true) : ∃ y t, c.callee = .builtin .len ∧ c.args = #[y] ∧ c.argTypes = #[t] ∧ mA σ x y = true ∧ Q.underlying t = some .string := by
  simp only [mCall] at h
  split at h
  · rename_i y t h1 h2 h3
    simp only [Bool.and_eq_true] at h
    have := h.2
    split at this
    · exact ⟨y, t, h1, arr1 h2, arr1 h3, h.1, by assumption⟩
    · simp at this
  · simp at h

theorem mCall_lenA {c : Call} {n : Nat} (h : mCall Q σ c (.lenA n) = true) : ∃ y t e, c.callee = .builtin .len ∧ c.args = #[y] ∧ c.argTypes = #[t] ∧ Q.underlying t = some (.array n e) := by
  simp only [mCall] at h
  split at h
  · rename_i y t h1 h2 h3
    split at h
    · rename_i m e hu
      simp only [decide_eq_true_eq] at h; subst h
      exact ⟨y, t, e, h1, arr1 h2, arr1 h3, hu⟩
    · simp at h
  · simp at h

theorem mCall_maxs {c : Call} {lo : Bool} {xs : List Arg} (h : mCall Q σ c (.maxs lo xs) = true) : c.callee = .builtin (if lo then .min else .max) ∧ mAs σ xs c.args = true := by
  simp only [mCall] at h
  split at h
  · rename_i h1; exact ⟨h1, h⟩
  · rename_i h1; exact ⟨h1, h⟩
  · simp at h

theorem max2V_ok {lo : Bool} {x y z : V} {u v : Value} (hx : VR σ X x u) (hy : VR σ X y v) (h : max2V lo x y = some z) (w : World) : ∃ r, (if lo then Builtin.min2 u v else Builtin.max2 u v).run Q w = .ok r w ∧ VR σ X z r := by
  unfold max2V at h
  split at h
  · simp only [Option.some.injEq] at h; subst h
    have hx := VR.int hx; have hy := VR.int hy
    subst hx; subst hy
    cases lo
    · exact ⟨_, by simp [Builtin.max2], VR.mkInt _ _⟩
    · exact ⟨_, by simp [Builtin.min2], VR.mkInt _ _⟩
  · simp at h

theorem maxsV_ok {lo : Bool} (w : World) : ∀ {ys : List V} {vs : List Value} {x z : V} {u : Value}, VR σ X x u → A2 (VR σ X) ys vs → maxsV lo x ys = some z → ∃ r, (vs.foldlM (fun u v => if lo then Builtin.min2 u v else Builtin.max2 u v) u).run Q w = .ok r w ∧ VR σ X z r
  | [], vs, x, z, u, hx, hA, h => by
    have : vs = [] := List.eq_nil_of_length_eq_zero hA.len.symm
    subst this
    simp only [maxsV, Option.some.injEq] at h; subst h
    exact ⟨u, rfl, hx⟩
  | y :: ys, [], x, z, u, hx, hA, h => by have := hA.len; simp at this
  | y :: ys, v :: vs, x, z, u, hx, hA, h => by
    obtain ⟨h1, hA⟩ := hA.of_cons
    simp only [maxsV] at h
    split at h
    · rename_i q hq
      obtain ⟨r1, g1, g2⟩ := max2V_ok (Q := Q) hx h1 hq w
      obtain ⟨r, g3, g4⟩ := maxsV_ok w g2 hA h
      exact ⟨r, by rw [List.foldlM_cons, Sem.run_bind, g1]; exact g3, g4⟩
    · simp at h

theorem mCall_cap {c : Call} {x : Arg} (h : mCall Q σ c (.cap x) = true) : ∃ y t e, c.callee = .builtin .cap ∧ c.args = #[y] ∧ c.argTypes = #[t] ∧ mA σ x y = true ∧ Q.underlying t = some (.slice e) := by
  simp only [mCall] at h
  split at h
  · rename_i y t h1 h2 h3
    simp only [Bool.and_eq_true] at h
    obtain ⟨hx, hu⟩ := h
    split at hu
    · rename_i e hu'; exact ⟨y, t, e, h1, arr1 h2, arr1 h3, hx, hu'⟩
    · simp at hu
  · simp at h

theorem slCap_ok {x : C} {u : Value} (hx : CR σ X x u) {n : Nat} (h : slCap X.H x = some n) : ∃ a l, u = .slice a l n := by
  cases x with
  | sl b o l c ep sz =>
    simp only [slCap] at h
    simp only [CR, CR1] at hx
    split at h
    · rename_i hb
      rw [hb] at hx
      obtain ⟨L, _, _, rfl⟩ := hx
      simp only [Option.some.injEq] at h; subst h
      exact ⟨_, _, rfl⟩
    · rename_i hb
      rw [hb] at hx
      split at h
      · rename_i hc
        have := hx.2.1 hc.1 hc.2
        simp only [Option.some.injEq] at h; subst h
        obtain ⟨_, _, rfl⟩ := this
        exact ⟨_, _, rfl⟩
      · simp at h
    · rename_i hb
      rw [hb] at hx
      split at h
      · rename_i hc
        have := hx.2.1 hc.1 hc.2
        simp only [Option.some.injEq] at h; subst h
        obtain ⟨_, _, a, rfl⟩ := this
        exact ⟨_, _, rfl⟩
      · simp at h
    · simp at h
  | f y =>
    cases y <;> simp only [slCap, Option.some.injEq, reduceCtorEq] at h
    · subst h; cases (hx : FCR σ X.F X.w .nils u); exact ⟨_, _, rfl⟩
    · subst h; cases (hx : FCR σ X.F X.w .es u); exact ⟨_, _, rfl⟩
  | _ => simp [slCap] at h

/-- A map of one entry, in the world. -/
theorem map_one (hS : SR Q σ X) {m : Nat} {L : Loc} (hL : X.rho m = some L) {e : FC × C} (hm : X.H[m]? = some (.map [e])) : ∃ me : MapEntry, X.w.heap[L.c]? = some (.map #[me] 1) ∧ FCR σ X.F X.w e.1 me.key ∧ CR σ X e.2 me.val ∧ me.born = 0 := by
  obtain ⟨_, _, blk, hb', hbr⟩ := hS.br m L hL
  rw [hm] at hb'; cases hb'
  obtain ⟨arr, h1, h2, h3⟩ := hbr
  match arr, h2 with
  | [me], h2 => exact ⟨me, h1, h2.of_cons.1.1, h2.of_cons.1.2, h3 0 me rfl⟩
  | [], h2 => have := h2.len; simp at this
  | _ :: _ :: _, h2 => have := h2.len; simp at this

theorem entryV_ok (hS : SR Q σ X) {x : V} {u : Value} (hx : VR σ X x u) {v : V} (h : entryV X.H x = some v) : ∃ r, (Instr.entry u).run Q X.w = .ok r X.w ∧ VR σ X v r := by
  unfold entryV at h
  split at h
  · rename_i b
    obtain ⟨L, hL, _, rfl⟩ := hx
    split at h
    · rename_i m s hb
      split at h
      · rename_i e hm
        simp only [Option.some.injEq] at h; subst h
        obtain ⟨_, _, blk, hb', hbr⟩ := hS.br b L hL
        rw [hb] at hb'; cases hb'
        obtain ⟨Lm, sn, st, h1, _, h2, h3⟩ := hbr
        simp only [if_true] at h3
        obtain ⟨rfl, rfl⟩ := h3
        obtain ⟨me, g1, g2, g3, g4⟩ := map_one hS h1 hm
        refine ⟨.tuple #[me.key, me.val], ?_, [me.key, me.val], rfl, A2.cons g2 (A2.cons g3 A2.nil)⟩
        simp [Instr.entry, getObj, Sem.run, h2, g1, g4, Result.andThen]
      · simp at h
    · simp at h
  · simp at h

theorem bytes_ok : ∀ {cs : List C} {us : List Value} {bs : List UInt8}, A2 (CR σ X) cs us → mapO (fun c => match c with | C.f (.int .u8 n) => some (UInt8.ofNat n.toNat) | _ => none) cs = some bs →
    ∃ ns : List Int, us = ns.map (Value.int .u8) ∧ bs = ns.map fun n => UInt8.ofNat n.toNat
  | [], us, bs, h, hb => by
    simp only [mapO, Option.some.injEq] at hb; subst hb
    match us, h.len with
    | [], _ => exact ⟨[], rfl, rfl⟩
  | c :: cs, [], bs, h, hb => by have := h.len; simp at this
  | c :: cs, u :: us, bs, h, hb => by
    obtain ⟨h1, h2⟩ := h.of_cons
    simp only [mapO] at hb
    split at hb
    · simp at hb
    · rename_i y hy
      split at hb
      · simp at hb
      · rename_i ys hys
        simp only [Option.some.injEq] at hb; subst hb
        obtain ⟨ns, rfl, rfl⟩ := bytes_ok h2 hys
        split at hy
        · rename_i n
          simp only [Option.some.injEq] at hy; subst hy
          cases (h1 : FCR σ X.F X.w (.int .u8 n) u)
          exact ⟨n :: ns, rfl, rfl⟩
        · simp at hy

theorem foldl_push : ∀ (ns : List Int) (s : ByteArray), ns.foldl (fun (r : ByteArray) n => r.push (UInt8.ofNat n.toNat)) s = ⟨s.data ++ (ns.map fun n => UInt8.ofNat n.toNat).toArray⟩
  | [], s => by simp
  | n :: ns, s => by
    rw [List.foldl_cons, foldl_push ns]
    congr 1
    simp [ByteArray.push]

theorem cvbsV_ok (hS : SR Q σ X) {x : V} {u : Value} (hx : VR σ X x u) {v : V} (h : cvbsV X.H x = some v) : ∃ r, (Conv.bytesToString u).run Q X.w = .ok r X.w ∧ VR σ X v r := by
  unfold cvbsV at h
  split at h
  · rename_i x
    split at h
    · rename_i l hl
      split at h
      · rename_i cs hcs
        simp only [Option.map_eq_some_iff] at h
        obtain ⟨bs, hb, rfl⟩ := h
        obtain ⟨us, h1, h2, h3⟩ := slCells_ok hS hx hl hcs
        obtain ⟨ad, c, rfl⟩ := slLen_ok hx hl
        obtain ⟨ns, rfl, rfl⟩ := bytes_ok h2 hb
        refine ⟨.string (ns.foldl (fun (r : ByteArray) n => r.push (UInt8.ofNat n.toNat)) ByteArray.empty), ?_, ?_⟩
        · cases ad with
          | none =>
            simp only [Builtin.firstCells, Sem.run_pure, Result.ok.injEq, and_true] at h1
            have : ns = [] := by
              have := congrArg Array.toList h1
              simpa using this.symm
            subst this
            simp only [Conv.bytesToString, List.foldl_nil, List.map_nil, Sem.run_pure]
          | some ad => exact run_bytesToString X.w ad l c ns (by simpa [Builtin.firstCells] using h1)
        · rw [foldl_push]
          rw [show (ByteArray.empty.data ++ (List.map (fun n : Int => UInt8.ofNat n.toNat) ns).toArray) = (List.map (fun n : Int => UInt8.ofNat n.toNat) ns).toArray from Array.empty_append]
          exact VR.mkStr _
      · simp at h
    · simp at h
  · simp at h

theorem rd_ok (hS : SR Q σ X) {a : Act} {regs : T} (hR : RR σ X regs a.tmps) {o : Oper} {op : AOp} (hm : mOp Q σ o op = true) (hc : cls op = .p ∨ cls op = .r) {v : V} {H' : Heap}
    (h : xOp regs X.H op = some (v, H')) : H' = X.H ∧ ∃ u, (execOp a.eval o).run Q X.w = .ok (.value u) X.w ∧ VR σ X v u := by
  cases op <;> first | (simp only [cls, reduceCtorEq, or_self] at hc; done) | skip
  case mov x =>
    simp only [xOp, Option.some.injEq, Prod.mk.injEq] at h
    obtain ⟨rfl, rfl⟩ := h
    refine ⟨rfl, ?_⟩
    simp only [mOp] at hm
    split at hm
    · rename_i y ho; exact ⟨_, by simp [execOp, ho], mA_ok hR hm⟩
    · rename_i y ho; exact ⟨_, by simp [execOp, ho], mA_ok hR hm⟩
    · simp at hm
  case pick c x y =>
    simp only [mOp] at hm
    split at hm
    · rename_i c' x' y' ho
      simp only [Bool.and_eq_true] at hm
      simp only [xOp] at h
      have hcv := mA_ok hR hm.1.1
      split at h
      · rename_i b hb
        rw [hb] at hcv
        have hcv := VR.bool hcv
        simp only [Option.some.injEq, Prod.mk.injEq] at h
        obtain ⟨rfl, rfl⟩ := h
        cases b
        · exact ⟨rfl, _, by simp [execOp, ho, hcv, asBool], mA_ok hR hm.2⟩
        · exact ⟨rfl, _, by simp [execOp, ho, hcv, asBool], mA_ok hR hm.1.2⟩
      · simp at h
    · simp at hm
  case build zs qs =>
    simp only [mOp] at hm
    split at hm
    · rename_i t ps ho
      simp only [Bool.and_eq_true] at hm
      simp only [xOp, Option.map_eq_some_iff, Prod.mk.injEq] at h
      obtain ⟨cs, hcs, rfl, rfl⟩ := h
      obtain ⟨z, us, hz1, hz2, hz3, _⟩ := tZero_ok (σ := σ) (X := X) hm.1 X.w
      refine ⟨rfl, ?_⟩
      have hb := hm.2
      unfold mBuild at hb
      split at hb
      · rename_i fs hu
        split at hb
        · rename_i pl hpl
          obtain ⟨us', h5, h6⟩ := fill_ok (place := (pl.toArray[·]?)) hR ((all2_A2 hb).imp fun q p hqp => by
            simp only [Bool.and_eq_true, decide_eq_true_eq] at hqp
            exact ⟨by simpa using hqp.1, hqp.2⟩) hz3 hcs
          refine ⟨.agg us'.toArray, ?_, us', rfl, h6⟩
          have hp := run_places (P := Q) X.w fs.toList pl hpl
          simp only [execOp, ho]
          refine ex_v ?_
          simp [Instr.build, hz1, run_und hu, Array.mapM_eq_mapM_toList, hp, hz2]
          simp at h5
          simp [h5]
        · simp at hb
      · rename_i n e hu
        split at hb
        · rename_i inf hi
          obtain ⟨us', h5, h6⟩ := fill_ok (place := fun i => some (i * inf.size, inf.size)) hR ((all2_A2 hb).imp fun q p hqp => by
            simp only [Bool.and_eq_true, beq_iff_eq] at hqp
            exact ⟨by rw [hqp.1.2, hqp.1.1], hqp.2⟩) hz3 hcs
          refine ⟨.agg us'.toArray, ?_, us', rfl, h6⟩
          simp only [execOp, ho]
          refine ex_v ?_
          simp [Instr.build, hz1, run_und hu, Go.sizeOf, typeInfo, hi, hz2, h5]
        · simp at hb
      · simp at hb
    · simp at hm
  case load k x =>
    simp only [mOp] at hm
    split at hm
    · rename_i t y ho
      simp only [Bool.and_eq_true] at hm
      simp only [xOp, Option.map_eq_some_iff, Prod.mk.injEq] at h
      obtain ⟨v', hv, rfl, rfl⟩ := h
      obtain ⟨u, h1, h2⟩ := ldV_ok hS hm.1 (mA_ok hR hm.2) hv
      exact ⟨rfl, u, by simp only [execOp, ho]; exact ex_v h1, h2⟩
    · simp at hm
  case nilchk x =>
    simp only [mOp] at hm
    split at hm
    · rename_i y ho
      have hx := mA_ok hR hm
      simp only [xOp] at h
      have fin : ∀ ad, a.eval y = .pointer (some ad) → (execOp a.eval o).run Q X.w = .ok (.value (a.eval y)) X.w := by
        intro ad had
        simp [execOp, ho, had]
      split at h
      · rename_i b off e hb
        simp only [Option.some.injEq, Prod.mk.injEq] at h
        obtain ⟨rfl, rfl⟩ := h
        rw [hb] at hx
        have hx' := hx
        obtain ⟨L, hL, hx⟩ := hx
        split at hx
        · exact ⟨rfl, _, fin _ hx, hx'⟩
        · obtain ⟨_, _, ad, had⟩ := hx; exact ⟨rfl, _, fin _ had, hx'⟩
        · exact hx.elim
      · rename_i cs off hb
        simp only [Option.some.injEq, Prod.mk.injEq] at h
        obtain ⟨rfl, rfl⟩ := h
        rw [hb] at hx
        have hx' := hx
        have : ∃ ad, a.eval y = .pointer (some ad) := by
          generalize a.eval y = u at hx
          cases (hx : FCR σ X.F X.w (.fp cs off) u); exact ⟨_, rfl⟩
        obtain ⟨ad, had⟩ := this
        exact ⟨rfl, _, fin _ had, hx'⟩
      · simp at h
    · simp at hm
  case bin op x y =>
    simp only [mOp] at hm
    split at hm
    · rename_i op' t x' y' yt ho
      simp only [Bool.and_eq_true, decide_eq_true_eq] at hm
      obtain ⟨⟨rfl, hx⟩, hy⟩ := hm
      simp only [xOp, Option.map_eq_some_iff, Prod.mk.injEq] at h
      obtain ⟨v', hv, rfl, rfl⟩ := h
      have hx := mA_ok hR hx
      have hy := mA_ok hR hy
      refine ⟨rfl, ?_⟩
      have guard : ∀ op, (∀ xs, a.eval x' ≠ .agg xs) → a.eval x' ≠ .nilIface → (eqGuard op t x' y' (a.eval x') (a.eval y')).run Q X.w = .ok () X.w := by
        intro op h1 h2
        cases op <;> simp [eqGuard] <;> (generalize a.eval x' = ux at *; cases ux <;> simp at h1 h2 ⊢)
      unfold binV at hv
      split at hv
      · rename_i k n k' m h1 h2
        rw [h1] at hx; rw [h2] at hy
        have hx := VR.int hx; have hy := VR.int hy
        split at hv
        · simp at hv
        · rename_i hm
          simp only [Option.some.injEq] at hv; subst hv
          exact ⟨_, by simp only [execOp, ho]; refine ex_v ?_; rw [Sem.run_bind, guard _ (by simp [hx]) (by simp [hx])]; simp [hx, hy, binOp, Op.shift, hm], VR.mkInt _ _⟩
      · rename_i k n k' m h1 h2
        rw [h1] at hx; rw [h2] at hy
        have hx := VR.int hx; have hy := VR.int hy
        split at hv
        · simp at hv
        · rename_i hm
          simp only [Option.some.injEq] at hv; subst hv
          exact ⟨_, by simp only [execOp, ho]; refine ex_v ?_; rw [Sem.run_bind, guard _ (by simp [hx]) (by simp [hx])]; simp [hx, hy, binOp, Op.shift, hm], VR.mkInt _ _⟩
      · rename_i k n k' m _ _ h1 h2
        rw [h1] at hx; rw [h2] at hy
        have hx := VR.int hx; have hy := VR.int hy
        split at hv
        · rename_i hk
          subst hk
          obtain ⟨u, h3, h4, h5⟩ := binI_ok (Q := Q) (σ := σ) (X := X) hv X.w
          exact ⟨u, by simp only [execOp, ho]; refine ex_v ?_; rw [Sem.run_bind, guard _ (by simp [hx]) (by simp [hx])]; simp [hx, hy, h5, h3], h4⟩
        · simp at hv
      · rename_i s1 s2 h1 h2
        rw [h1] at hx; rw [h2] at hy
        have hx := VR.str hx; have hy := VR.str hy
        obtain ⟨u, h3, h4⟩ := binS_ok (Q := Q) (σ := σ) (X := X) hv X.w t
        exact ⟨u, by simp only [execOp, ho]; refine ex_v ?_; rw [Sem.run_bind, guard _ (by simp [hx]) (by simp [hx])]; simp [hx, hy, h3], h4⟩
      · simp at hv
    · simp at hm
  case eq neg k x y =>
    simp only [mOp] at hm
    split at hm
    · rename_i op' t x' y' yt ho
      simp only [Bool.and_eq_true, decide_eq_true_eq] at hm
      obtain ⟨⟨⟨rfl, hx⟩, hy⟩, hk⟩ := hm
      simp only [xOp, Option.map_eq_some_iff, Prod.mk.injEq] at h
      obtain ⟨b, hv, rfl, rfl⟩ := h
      refine ⟨rfl, _, ?_, VR.mkBool _⟩
      simp only [execOp, ho]
      exact ex_v (eqV_ok hk (mA_ok hR hx) (mA_ok hR hy) hv neg X.w)
    · simp at hm
  case un op x =>
    simp only [mOp] at hm
    split at hm
    · rename_i op' t y ho
      simp only [Bool.and_eq_true, decide_eq_true_eq] at hm
      obtain ⟨rfl, hx⟩ := hm
      simp only [xOp, Option.map_eq_some_iff, Prod.mk.injEq] at h
      obtain ⟨v', hv, rfl, rfl⟩ := h
      have hx := mA_ok hR hx
      refine ⟨rfl, ?_⟩
      unfold unV at hv
      split at hv
      · rename_i k n h1
        rw [h1] at hx; have hx := VR.int hx
        simp only [Option.some.injEq] at hv; subst hv
        exact ⟨_, by simp [execOp, ho, hx, Op.unary, Op.intArith], VR.mkInt _ _⟩
      · rename_i b h1
        rw [h1] at hx; have hx := VR.bool hx
        simp only [Option.some.injEq] at hv; subst hv
        exact ⟨_, by simp [execOp, ho, hx, Op.unary], VR.mkBool _⟩
      · simp at hv
    · simp at hm
  case cvi k x =>
    simp only [mOp] at hm
    split at hm
    · rename_i s d y ho
      simp only [Bool.and_eq_true] at hm
      obtain ⟨⟨hx, hs⟩, hd⟩ := hm
      have hx := mA_ok hR hx
      simp only [xOp] at h
      split at h
      · rename_i q n h1
        rw [h1] at hx; have hx := VR.int hx
        simp only [Option.some.injEq, Prod.mk.injEq] at h
        obtain ⟨rfl, rfl⟩ := h
        split at hd
        · rename_i k' hu
          simp only [decide_eq_true_eq] at hd; subst hd
          obtain ⟨ds, hds⟩ := Option.isSome_iff_exists.1 hs
          exact ⟨rfl, _, by simp only [execOp, ho]; refine ex_v ?_; simp [convert, run_und hds, run_und hu, hx, Conv.intToInt], VR.mkInt _ _⟩
        · simp at hd
      · simp at h
    · simp at hm
  case cvid x =>
    simp only [mOp] at hm
    split at hm
    · rename_i s d y ho
      simp only [Bool.and_eq_true] at hm
      obtain ⟨hx, hd⟩ := hm
      have hx := mA_ok hR hx
      simp only [xOp] at h
      split at h
      · rename_i q h1
        rw [h1] at hx; have hx := VR.str hx
        simp only [Option.some.injEq, Prod.mk.injEq] at h
        obtain ⟨rfl, rfl⟩ := h
        split at hd
        · rename_i hu1 hu2
          exact ⟨rfl, _, by simp only [execOp, ho]; refine ex_v ?_; simp [convert, run_und hu1, run_und hu2, hx], VR.mkStr _⟩
        · simp at hd
      · simp at h
    · simp at hm
  case mkfn f xs =>
    simp only [mOp] at hm
    split at hm
    · rename_i g fst caps ho
      simp only [Bool.and_eq_true, beq_iff_eq] at hm
      obtain ⟨⟨hf, rfl⟩, hx⟩ := hm
      simp only [xOp, Option.map_eq_some_iff, Prod.mk.injEq] at h
      obtain ⟨cs, hcs, rfl, rfl⟩ := h
      have := argsC_ok (mAs_ok hR hx) hcs
      have hfst : fst = #[] := by simpa using hf
      exact ⟨rfl, .func (.func (σ f)) #[] (caps.map a.eval), by simp only [execOp, ho, Instr.makeFunc, hfst]; exact ex_v (by simp), (caps.map a.eval).toList, congrArg _ Array.toArray_toList.symm, this⟩
    · simp at hm
  case slice sz x lo hi mx =>
    simp only [mOp] at hm
    split at hm
    · rename_i t y lo' hi' mx' ho
      simp only [Bool.and_eq_true, decide_eq_true_eq] at hm
      obtain ⟨⟨⟨⟨⟨hx, h1⟩, h2⟩, h3⟩, he⟩, hz⟩ := hm
      obtain ⟨e, hu, hsz⟩ := elem_ok he
      simp only [xOp, Option.map_eq_some_iff, Prod.mk.injEq] at h
      obtain ⟨v', hv, rfl, rfl⟩ := h
      obtain ⟨r, h4, h5⟩ := sliceV_ok hu hsz (mA_ok hR hx) (OR_ok hR h1) (OR_ok hR h2) (OR_ok hR h3) hv
      exact ⟨rfl, r, by simp only [execOp, ho]; exact ex_v h4, h5⟩
    · simp at hm
  case slarr n sz x lo hi mx =>
    simp only [mOp] at hm
    split at hm
    · rename_i t y lo' hi' mx' ho
      simp only [Bool.and_eq_true, decide_eq_true_eq] at hm
      obtain ⟨⟨⟨⟨⟨hx, h1⟩, h2⟩, h3⟩, he⟩, hz⟩ := hm
      split at he
      · rename_i n' e hu
        simp only [Bool.and_eq_true, beq_iff_eq] at he
        obtain ⟨rfl, hsz⟩ := he
        simp only [xOp, Option.map_eq_some_iff, Prod.mk.injEq] at h
        obtain ⟨v', hv, rfl, rfl⟩ := h
        obtain ⟨r, h4, h5⟩ := slarrV_ok hS hu hsz (mA_ok hR hx) (OR_ok hR h1) (OR_ok hR h2) (OR_ok hR h3) hv
        exact ⟨rfl, r, by simp only [execOp, ho]; exact ex_v h4, h5⟩
      · simp at he
    · simp at hm
  case slstr x lo hi =>
    simp only [mOp] at hm
    split at hm
    · rename_i t y lo' hi' ho
      simp only [Bool.and_eq_true] at hm
      obtain ⟨⟨⟨hx, h1⟩, h2⟩, he⟩ := hm
      split at he
      · rename_i hu
        simp only [xOp, Option.map_eq_some_iff, Prod.mk.injEq] at h
        obtain ⟨v', hv, rfl, rfl⟩ := h
        obtain ⟨r, h4, h5⟩ := slstrV_ok hu (mA_ok hR hx) (OR_ok hR h1) (OR_ok hR h2) hv X.w
        exact ⟨rfl, r, by simp only [execOp, ho, Option.map_none]; exact ex_v h4, h5⟩
      · simp at he
    · simp at hm
  case fieldA off x =>
    simp only [mOp] at hm
    split at hm
    · rename_i t y i ho
      simp only [Bool.and_eq_true] at hm
      obtain ⟨hx, hf⟩ := hm
      split at hf
      · rename_i fs hu
        split at hf
        · rename_i f hfi
          simp only [Bool.and_eq_true, beq_iff_eq] at hf
          obtain ⟨rfl, hz⟩ := hf
          simp only [xOp, Option.map_eq_some_iff, Prod.mk.injEq] at h
          obtain ⟨v', hv, rfl, rfl⟩ := h
          obtain ⟨r, h4, h5⟩ := fieldAV_ok hu hfi hz (mA_ok hR hx) hv X.w
          exact ⟨rfl, r, by simp only [execOp, ho]; exact ex_v h4, h5⟩
        · simp at hf
      · simp at hf
    · simp at hm
  case field off n x =>
    simp only [mOp] at hm
    split at hm
    · rename_i t y i ho
      simp only [Bool.and_eq_true] at hm
      obtain ⟨hx, hf⟩ := hm
      split at hf
      · rename_i fs hu
        split at hf
        · rename_i f hfi
          simp only [Bool.and_eq_true, beq_iff_eq] at hf
          obtain ⟨rfl, hz⟩ := hf
          simp only [xOp, Option.map_eq_some_iff, Prod.mk.injEq] at h
          obtain ⟨v', hv, rfl, rfl⟩ := h
          obtain ⟨r, h4, h5⟩ := fieldV_ok hu hfi hz (mA_ok hR hx) hv X.w
          exact ⟨rfl, r, by simp only [execOp, ho]; exact ex_v h4, h5⟩
        · simp at hf
      · simp at hf
    · simp at hm
  case indexA sz arr x i =>
    simp only [mOp] at hm
    split at hm
    · rename_i t y j ho
      simp only [Bool.and_eq_true] at hm
      obtain ⟨⟨hx, hi⟩, hf⟩ := hm
      simp only [xOp, Option.map_eq_some_iff, Prod.mk.injEq] at h
      obtain ⟨v', hv, rfl, rfl⟩ := h
      have : ∃ e, tSize Q e sz = true ∧ ((arr = none ∧ Q.underlying t = some (.slice e)) ∨ ∃ n, arr = some n ∧ Q.underlying t = some (.array n e)) := by
        split at hf
        · rename_i e hu; exact ⟨e, hf, .inl ⟨rfl, hu⟩⟩
        · rename_i n e n' hu
          simp only [Bool.and_eq_true, beq_iff_eq] at hf
          obtain ⟨rfl, hsz⟩ := hf
          exact ⟨e, hsz, .inr ⟨_, rfl, hu⟩⟩
        · simp at hf
      obtain ⟨e, hsz, hu⟩ := this
      obtain ⟨r, h4, h5⟩ := indexAV_ok hsz hu (mA_ok hR hx) (mA_ok hR hi) hv
      exact ⟨rfl, r, by simp only [execOp, ho]; exact ex_v h4, h5⟩
    · simp at hm
  case idxs x i =>
    simp only [mOp] at hm
    split at hm
    · rename_i t y j ho
      simp only [Bool.and_eq_true] at hm
      obtain ⟨⟨hx, hi⟩, hf⟩ := hm
      simp only [xOp, Option.map_eq_some_iff, Prod.mk.injEq] at h
      obtain ⟨v', hv, rfl, rfl⟩ := h
      split at hf
      · rename_i hu
        obtain ⟨r, h4, h5⟩ := idxsV_ok hu (mA_ok hR hx) (mA_ok hR hi) hv X.w
        exact ⟨rfl, r, by simp only [execOp, ho]; exact ex_v h4, h5⟩
      · simp at hf
    · simp at hm
  case idxa n sz k x i =>
    simp only [mOp] at hm
    split at hm
    · rename_i t y j ho
      simp only [Bool.and_eq_true] at hm
      obtain ⟨⟨hx, hi⟩, hf⟩ := hm
      simp only [xOp, Option.map_eq_some_iff, Prod.mk.injEq] at h
      obtain ⟨v', hv, rfl, rfl⟩ := h
      split at hf
      · rename_i n' e hu
        simp only [Bool.and_eq_true, beq_iff_eq] at hf
        obtain ⟨⟨rfl, hsz⟩, hk⟩ := hf
        obtain ⟨r, h4, h5⟩ := idxaV_ok hu hsz hk (mA_ok hR hx) (mA_ok hR hi) hv X.w
        exact ⟨rfl, r, by simp only [execOp, ho]; exact ex_v h4, h5⟩
      · simp at hf
    · simp at hm
  case lookup ck z m k =>
    simp only [mOp] at hm
    split at hm
    · rename_i t m' k' ho
      simp only [Bool.and_eq_true] at hm
      obtain ⟨⟨h1, h2⟩, hf⟩ := hm
      simp only [xOp, Option.map_eq_some_iff, Prod.mk.injEq] at h
      obtain ⟨v', hv, rfl, rfl⟩ := h
      split at hf
      · rename_i kt e hu
        simp only [Bool.and_eq_true] at hf
        obtain ⟨u, h4, h5⟩ := lookup_ok hS hu hf.1.1 hf.1.2 hf.2 (mA_ok hR h1) (mA_ok hR h2) hv
        exact ⟨rfl, u, by simp only [execOp, ho]; exact ex_v h4, h5⟩
      · simp at hf
    · simp at hm
  case extract x i =>
    simp only [mOp] at hm
    split at hm
    · rename_i y j ho
      simp only [Bool.and_eq_true, beq_iff_eq] at hm
      obtain ⟨hx, rfl⟩ := hm
      have hx := mA_ok hR hx
      simp only [xOp] at h
      split at h
      · rename_i vs hvs
        rw [hvs] at hx
        simp only [Option.map_eq_some_iff, Prod.mk.injEq] at h
        obtain ⟨v', hv, rfl, rfl⟩ := h
        obtain ⟨us, hus, h2⟩ := hx
        obtain ⟨u, hu, hvu⟩ := h2.get hv
        exact ⟨rfl, u, by simp only [execOp, ho]; refine ex_v ?_; simp [Instr.extract, hus, hu], VR.of1 σ hvu⟩
      · simp at h
    · simp at hm
  case lenA n =>
    simp only [mOp] at hm
    split at hm
    · rename_i c ho
      obtain ⟨y, t, e, h1, h2, h3, hu⟩ := mCall_lenA hm
      simp only [xOp, Option.some.injEq, Prod.mk.injEq] at h
      obtain ⟨rfl, rfl⟩ := h
      exact ⟨rfl, _, run_builtin ho h1 (fun cs => by simp [builtin, h2, h3, Builtin.len_, run_und hu, goInt]), VR.mkInt _ _⟩
    · simp at hm
  case lens x =>
    simp only [mOp] at hm
    split at hm
    · rename_i c ho
      obtain ⟨y, t, h1, h2, h3, hx, hu⟩ := mCall_lens hm
      have hx := mA_ok hR hx
      simp only [xOp] at h
      split at h
      · rename_i s hs
        rw [hs] at hx; have hx := VR.str hx
        simp only [Option.some.injEq, Prod.mk.injEq] at h
        obtain ⟨rfl, rfl⟩ := h
        exact ⟨rfl, _, run_builtin ho h1 (fun cs => by simp [builtin, h2, h3, Builtin.len_, run_und hu, hx, goInt]), VR.mkInt _ _⟩
      · simp at h
    · simp at hm
  case len x =>
    simp only [mOp] at hm
    split at hm
    · rename_i c ho
      obtain ⟨y, t, e, h1, h2, h3, hx, hu⟩ := mCall_len hm
      have hx := mA_ok hR hx
      simp only [xOp] at h
      split at h
      · rename_i z hz
        rw [hz] at hx
        split at h
        · rename_i n hn
          simp only [Option.some.injEq, Prod.mk.injEq] at h
          obtain ⟨rfl, rfl⟩ := h
          obtain ⟨ad, cp, hsl⟩ := slLen_ok hx hn
          exact ⟨rfl, _, run_builtin ho h1 (fun cs => by simp [builtin, h2, h3, Builtin.len_, run_und hu, hsl, goInt]), VR.mkInt _ _⟩
        · simp at h
      · simp at h
    · simp at hm
  case maxs lo xs =>
    simp only [mOp] at hm
    split at hm
    · rename_i c ho
      obtain ⟨h1, h2⟩ := mCall_maxs hm
      have hA := mAs_ok hR h2
      simp only [xOp, Option.map_eq_some_iff, Prod.mk.injEq] at h
      obtain ⟨v', hv, rfl, rfl⟩ := h
      refine ⟨rfl, ?_⟩
      unfold maxV at hv
      split at hv
      · simp at hv
      · rename_i x ys hxs
        rw [hxs] at hA
        match hus : (c.args.map a.eval).toList, hA with
        | [], hA => have := hA.len; simp at this
        | u :: us, hA =>
          obtain ⟨hx, hA⟩ := hA.of_cons
          obtain ⟨r, g1, g2⟩ := maxsV_ok (Q := Q) (lo := lo) X.w hx hA hv
          refine ⟨r, run_builtin ho h1 (fun cs => ?_), g2⟩
          cases lo
          · simp only [Bool.false_eq_true, if_false] at g1 ⊢
            have g1 : (us.foldlM Builtin.max2 u).run Q X.w = .ok r X.w := g1
            have hus' : List.map a.eval c.args.toList = u :: us := by simpa using hus
            simp [builtin, Builtin.max_, hus', g1]
          · simp only [if_true] at g1 ⊢
            have g1 : (us.foldlM Builtin.min2 u).run Q X.w = .ok r X.w := g1
            have hus' : List.map a.eval c.args.toList = u :: us := by simpa using hus
            simp [builtin, Builtin.min_, hus', g1]
    · simp at hm
  case cap x =>
    simp only [mOp] at hm
    split at hm
    · rename_i c ho
      obtain ⟨y, t, e, h1, h2, h3, hx, hu⟩ := mCall_cap hm
      have hx := mA_ok hR hx
      simp only [xOp] at h
      split at h
      · rename_i z hz
        rw [hz] at hx
        split at h
        · rename_i n hn
          simp only [Option.some.injEq, Prod.mk.injEq] at h
          obtain ⟨rfl, rfl⟩ := h
          obtain ⟨ad, l, hsl⟩ := slCap_ok hx hn
          exact ⟨rfl, _, run_builtin ho h1 (fun cs => by simp [builtin, h2, h3, Builtin.cap_, run_und hu, hsl, goInt]), VR.mkInt _ _⟩
        · simp at h
      · simp at h
    · simp at hm
  case entry x =>
    simp only [mOp] at hm
    split at hm
    · rename_i y ho
      simp only [xOp, Option.map_eq_some_iff, Prod.mk.injEq] at h
      obtain ⟨v', hv, rfl, rfl⟩ := h
      obtain ⟨r, g1, g2⟩ := entryV_ok hS (mA_ok hR hm) hv
      exact ⟨rfl, r, by simp only [execOp, ho]; exact ex_v g1, g2⟩
    · simp at hm
  case mkbm f xs =>
    simp only [mOp] at hm
    split at hm
    · rename_i g fst caps ho
      simp only [Bool.and_eq_true, beq_iff_eq] at hm
      obtain ⟨⟨hf, rfl⟩, hx⟩ := hm
      simp only [xOp, Option.map_eq_some_iff, Prod.mk.injEq] at h
      obtain ⟨cs, hcs, rfl, rfl⟩ := h
      have := argsC_ok (mAs_ok hR hx) hcs
      have hcap : caps = #[] := by simpa using hf
      exact ⟨rfl, .func (.func (σ f)) (fst.map a.eval) #[], by simp only [execOp, ho, Instr.makeFunc, hcap]; exact ex_v (by simp), (fst.map a.eval).toList, by rw [Array.toArray_toList], this⟩
    · simp at hm
  case call f args h' => cases h' <;> simp [cls] at hc
  case cvbs x =>
    simp only [mOp] at hm
    split at hm
    · rename_i s d y ho
      simp only [Bool.and_eq_true] at hm
      obtain ⟨hx, hd⟩ := hm
      have hx := mA_ok hR hx
      split at hd
      · rename_i e hu1 hu2
        simp only [Bool.and_eq_true] at hd
        have hu8 : Q.underlying e = some (.int .u8) := by
          have := hd.1; unfold isU8 at this; split at this
          · assumption
          · simp at this
        simp only [xOp, Option.map_eq_some_iff, Prod.mk.injEq] at h
        obtain ⟨v', hv, rfl, rfl⟩ := h
        obtain ⟨u, h4, h5⟩ := cvbsV_ok hS hx hv
        refine ⟨rfl, u, ?_, h5⟩
        simp only [execOp, ho]
        refine ex_v ?_
        simp only [convert, Sem.run_bind, run_und hu1, run_und hu2, Result.andThen_ok]
        have : ∃ ad l c, a.eval y = .slice ad l c := by
          unfold cvbsV at hv
          split at hv
          · rename_i z hz
            rw [hz] at hx
            split at hv
            · rename_i l hl
              obtain ⟨ad, c, h⟩ := slLen_ok hx hl; exact ⟨_, _, _, h⟩
            · simp at hv
          · simp at hv
        obtain ⟨ad, l, c, h6⟩ := this
        rw [h6] at h4 ⊢
        simp only [Sem.run_bind, run_und hu8, Result.andThen_ok, h4]
      · simp at hd
    · simp at hm

end Km
end

section
namespace Km
open Go

variable {Q : Program} {σ : Nat → FuncId} {X : Wd}

theorem SR.lt (hS : SR Q σ X) {b : Nat} {L : Loc} (h : X.rho b = some L) : b < X.H.length := by
  obtain ⟨_, _, blk, hb, _⟩ := hS.br b L h
  exact (List.getElem?_eq_some_iff.1 hb).1

theorem SR.rho0 (hS : SR Q σ X) : X.rho X.H.length = none := by
  cases h : X.rho X.H.length with
  | none => rfl
  | some L => have := SR.lt hS h; omega

/-- One block, and what else stays. -/
theorem Ext.one (hS : SR Q σ X) {X' : Wd} (b0 : Nat) (hB : X'.B = X.B) (hF : ∀ c i, X'.F c i ↔ X.F c i)
    (hw : ∀ k, k < X.w.heap.size → (∀ L, X.rho b0 = some L → k ≠ L.c) → X'.w.heap[k]? = X.w.heap[k]?)
    (hFw : ∀ L i, X.rho b0 = some L → X.F L.c i → X'.w.cell? ⟨L.c, i, none⟩ = X.w.cell? ⟨L.c, i, none⟩) (hkeep : b0 < X.H.length → KeepB X X' b0)
    (hH : ∀ b, b ≠ b0 → b < X.H.length → X'.H[b]? = X.H[b]?) (hrho : ∀ b, b ≠ b0 → X'.rho b = X.rho b)
    (hr0 : ∀ L, X'.rho b0 = some L → (∃ L0, X.rho b0 = some L0 ∧ L0.c = L.c) ∨ X.w.heap.size ≤ L.c) (hs : X.w.heap.size ≤ X'.w.heap.size) (ho : X'.w.os = X.w.os) (ht : X'.w.tape = X.w.tape)
    (hu : X'.w.output = X.w.output) : Ext X.H.length X X' where
  B := hB
  F := fun c i h => (hF c i).2 h
  Fnew := fun c i h => .inl ((hF c i).1 h)
  fw := fun c i h => by
    by_cases hc : ∃ L, X.rho b0 = some L ∧ c = L.c
    · obtain ⟨L, hL, rfl⟩ := hc; exact hFw L i hL h
    · exact World.cell?_of_block (hw c (hS.fb c i h) fun L hL e => hc ⟨L, hL, e⟩)
  keep := fun b hb => by
    by_cases h : b = b0
    · subst h; exact hkeep hb
    · intro blk hblk
      refine ⟨blk, (hH b h hb).trans hblk, ?_⟩
      have : ∀ L, X.rho b = some L → X'.rho b = some L := fun L hL => (hrho b h).trans hL
      cases blk <;> simp_all
  img := fun b L hb => by
    by_cases h : b = b0
    · subst h
      rcases hr0 L hb with ⟨L0, h1, h2⟩ | h1
      · exact .inl ⟨b, L0, h1, h2⟩
      · exact .inr h1
    · rw [hrho b h] at hb; exact .inl ⟨b, L, hb, rfl⟩
  size := hs
  os := ho
  tape := ht
  output := hu
  frame := fun k hk hn => hw k hk fun L hL e => hn b0 L hL e.symm

/-- The heap is longer: nothing of it lies anywhere yet. -/
theorem SR.grow (hS : SR Q σ X) (blk : Blk) : SR Q σ { X with H := X.H ++ [blk] } ∧ Ext X.H.length X { X with H := X.H ++ [blk] } := by
  have hx : Ext X.H.length X { X with H := X.H ++ [blk] } := Ext.one hS X.H.length rfl (fun _ _ => Iff.rfl) (fun _ _ _ => rfl) (fun _ _ _ _ => rfl) (fun h => by omega)
    (fun b _ h => by simp [List.getElem?_append_left h]) (fun _ _ => rfl) (fun L h => by rw [SR.rho0 hS] at h; simp at h) (Nat.le_refl _) rfl rfl rfl
  refine ⟨⟨fun b L hb => ?_, hS.inj, hS.fb⟩, hx⟩
  obtain ⟨h1, h2, blk', h3, h4⟩ := hS.br b L hb
  exact ⟨h1, h2, blk', by rw [List.getElem?_append_left (SR.lt hS hb)]; exact h3, BR.ext Q σ hx rfl (fun _ h => h) h4⟩

/-- The world with a new block, draws or none. -/
structure Adds (w w' : World) (o : Obj) : Prop where
  heap : w'.heap = w.heap.push o
  os : w'.os = w.os
  tape : w'.tape = w.tape
  output : w'.output = w.output

theorem Adds.alloc (w : World) (o : Obj) : Adds w (w.alloc o) o := ⟨rfl, rfl, rfl, rfl⟩

theorem Adds.old {w w' : World} {o : Obj} (h : Adds w w' o) {k : Nat} (hk : k < w.heap.size) : w'.heap[k]? = w.heap[k]? := by
  rw [h.heap, Array.getElem?_push, if_neg (by omega)]
theorem Adds.new {w w' : World} {o : Obj} (h : Adds w w' o) : w'.heap[w.heap.size]? = some o := by
  rw [h.heap]; simp
theorem Adds.size {w w' : World} {o : Obj} (h : Adds w w' o) : w'.heap.size = w.heap.size + 1 := by
  rw [h.heap]; simp

/-- A block that lay nowhere comes to lie in a new one. -/
theorem SR.fill (hS : SR Q σ X) (hB : X.B ≤ X.w.heap.size) {n : Nat} {blk : Blk} (hn : X.H[n]? = some blk) (hr : X.rho n = none) {w' : World} {o : Obj} (hw : Adds X.w w' o) (cap : Nat)
    (hbr : Ext X.H.length X { X with rho := fun b => if b = n then some ⟨X.w.heap.size, cap⟩ else X.rho b, w := w' } → BR Q σ { X with rho := fun b => if b = n then some ⟨X.w.heap.size, cap⟩ else X.rho b, w := w' } blk ⟨X.w.heap.size, cap⟩) :
    SR Q σ { X with rho := fun b => if b = n then some ⟨X.w.heap.size, cap⟩ else X.rho b, w := w' } ∧ Ext X.H.length X { X with rho := fun b => if b = n then some ⟨X.w.heap.size, cap⟩ else X.rho b, w := w' } := by
  have hx : Ext X.H.length X { X with rho := fun b => if b = n then some ⟨X.w.heap.size, cap⟩ else X.rho b, w := w' } :=
    Ext.one hS n rfl (fun _ _ => Iff.rfl) (fun k h _ => hw.old h) (fun L i hL _ => by rw [hr] at hL; simp at hL)
      (fun _ b' hb' => ⟨b', hb', by
        cases b' <;> simp [hr]⟩)
      (fun _ _ _ => rfl) (fun b h => by simp [h]) (fun L h => by simp at h; subst h; exact .inr (Nat.le_refl _)) (by rw [hw.size]; omega) hw.os hw.tape hw.output
  refine ⟨SR.step Q σ hS hx n (fun _ _ => rfl) (fun b h => by simp [h]) (fun b L _ hb => hw.old (hS.br b L hb).2.1) (fun _ _ _ _ _ h => h) (fun L h => ?_) (fun c i h => by rw [hw.size]; have := hS.fb c i h; omega), hx⟩
  simp at h; subst h
  refine ⟨hB, by simp [hw.size], ⟨blk, hn, hbr hx⟩, fun b L' _ hb => ?_⟩
  have := (hS.br b L' hb).2.1
  simp; omega

/-- A new block. -/
theorem SR.new (hS : SR Q σ X) (hB : X.B ≤ X.w.heap.size) (blk : Blk) {w' : World} {o : Obj} (hw : Adds X.w w' o) (cap : Nat)
    (hbr : ∀ X', Ext X.H.length X X' → X'.w = w' → X'.F = X.F → X'.H = X.H ++ [blk] → BR Q σ X' blk ⟨X.w.heap.size, cap⟩) :
    ∃ X', X'.w = w' ∧ X'.H = X.H ++ [blk] ∧ SR Q σ X' ∧ Ext X.H.length X X' ∧ X'.rho X.H.length = some ⟨X.w.heap.size, cap⟩ ∧ X'.B ≤ X'.w.heap.size := by
  obtain ⟨h1, h2⟩ := SR.grow hS blk
  have hn : (X.H ++ [blk])[X.H.length]? = some blk := by simp
  obtain ⟨h3, h4⟩ := SR.fill h1 hB hn (SR.rho0 hS) hw cap (fun hx => hbr _ (h2.trans (hx.mono (by simp))) rfl rfl rfl)
  exact ⟨_, rfl, rfl, h3, h2.trans (h4.mono (by simp)), by simp, by simp [hw.size]; omega⟩

/-- A block turns where it lies. -/
theorem SR.turn (hS : SR Q σ X) {b : Nat} {blk blk' : Blk} {L : Loc} (hb : X.H[b]? = some blk) (hL : X.rho b = some L) {w' : World} (hs : w'.heap.size = X.w.heap.size)
    (hw : ∀ k, k ≠ L.c → w'.heap[k]? = X.w.heap[k]?) (hF : ∀ i, X.F L.c i → w'.cell? ⟨L.c, i, none⟩ = X.w.cell? ⟨L.c, i, none⟩) (ho : w'.os = X.w.os) (ht : w'.tape = X.w.tape) (hu : w'.output = X.w.output)
    (hkeep : KeepB X { X with H := X.H.set b blk', w := w' } b)
    (hbr : Ext X.H.length X { X with H := X.H.set b blk', w := w' } → BR Q σ { X with H := X.H.set b blk', w := w' } blk' L) :
    SR Q σ { X with H := X.H.set b blk', w := w' } ∧ Ext X.H.length X { X with H := X.H.set b blk', w := w' } := by
  have hlt : b < X.H.length := (List.getElem?_eq_some_iff.1 hb).1
  have hx : Ext X.H.length X { X with H := X.H.set b blk', w := w' } :=
    Ext.one hS b rfl (fun _ _ => Iff.rfl) (fun k _ h => hw k (h L hL)) (fun L' i h => by rw [hL] at h; cases h; exact hF i) (fun _ => hkeep)
      (fun b' h _ => by simp [List.getElem?_set_ne (Ne.symm h)]) (fun _ _ => rfl) (fun L' h => .inl ⟨L', h, rfl⟩) (Nat.le_of_eq hs.symm) ho ht hu
  refine ⟨SR.step Q σ hS hx b (fun b' h => by simp [List.getElem?_set_ne (Ne.symm h)]) (fun _ _ => rfl) (fun b' L' h hb' => hw _ fun e => h (hS.inj b' b L' L hb' hL e)) (fun _ _ _ _ _ h => h)
    (fun L' h => ?_) (fun c i h => by rw [hs]; exact hS.fb c i h), hx⟩
  change X.rho b = some L' at h
  rw [hL] at h; cases h
  obtain ⟨h1, h2, _⟩ := hS.br b L hL
  exact ⟨h1, by show L.c < w'.heap.size; omega, ⟨blk', by simp [hlt], hbr hx⟩, fun b' L' h hb' e => h (hS.inj b' b L' L hb' hL e)⟩

/-- Cells of a row are written. -/
theorem setCells_row {w : World} {c : Nat} {us : List Value} (h : rowAt w c us) : ∀ (vs : List Value) (off : Nat), off + vs.length ≤ us.length →
    (w.setCells c off vs).heap.size = w.heap.size ∧ (∀ k, k ≠ c → (w.setCells c off vs).heap[k]? = w.heap[k]?) ∧ (w.setCells c off vs).os = w.os ∧ (w.setCells c off vs).tape = w.tape ∧
    (w.setCells c off vs).output = w.output ∧ rowAt (w.setCells c off vs) c (over us off vs)
  | [], off, _ => ⟨rfl, fun _ _ => rfl, rfl, rfl, rfl, by simpa [World.setCells, over] using h⟩
  | v :: vs, off, hl => by
    simp only [List.length_cons] at hl
    have h1 : rowAt (w.setCell ⟨c, off, none⟩ v) c (us.set off v) := by
      obtain ⟨e, fr, h1, h2⟩ := h
      refine ⟨e, fr, ?_, by simpa using h2⟩
      simp [World.setCell, Array.getElem?_modify, h1]
    obtain ⟨h2, h3, h4, h5, h6, h7⟩ := setCells_row h1 vs (off + 1) (by simp; omega)
    simp only [World.setCells]
    refine ⟨by rw [h2]; simp, fun k hk => (h3 k hk).trans ?_, h4, h5, h6, ?_⟩
    · simp only [World.setCell, Array.getElem?_modify]; rw [if_neg (by simpa using Ne.symm hk)]
    · have : over (us.set off v) (off + 1) vs = over us off (v :: vs) := by
        unfold over
        simp only [List.length_cons]
        rw [List.take_set, List.drop_set_of_lt (by omega), show off + 1 + vs.length = off + (vs.length + 1) by omega]
        rw [List.take_succ_eq_append_getElem (by omega)]
        have hl : (List.take off us).length = off := by simp; omega
        have e : (List.take off us ++ [us[off]]).set off v = List.take off us ++ [v] := by
          rw [List.set_append, if_neg (by omega), hl]; simp
        rw [e]; simp
      rw [← this]; exact h7

theorem store_row {w : World} {c : Nat} {us : List Value} (h : rowAt w c us) (vs : List Value) (off : Nat) (hl : off + vs.length ≤ us.length) (h1 : ∀ v ∈ vs, v.oneCell' = true) :
    (storeCells ⟨c, off, none⟩ vs).run Q w = .ok () (w.setCells c off vs) := by
  have := run_storeCells_cells (P := Q) c off vs 0 w (fun j hj => by rw [cell_row h]; simp; omega) (fun j hj => frozen_row h (by omega)) h1
  simpa using this

theorem over_get {α : Type} (us : List α) (off : Nat) (vs : List α) (h : off + vs.length ≤ us.length) (i : Nat) (hi : i < off) : (over us off vs)[i]? = us[i]? := by
  unfold over
  rw [List.getElem?_append_left (by simp; omega), List.getElem?_append_left (by simp; omega), List.getElem?_take]
  simp [hi]

end Km
end

section
namespace Km
open Go

variable {Q : Program} {σ : Nat → FuncId} {X : Wd}

/-- What an operation that calls nothing does to the world. -/
def OpOK (Q : Program) (σ : Nat → FuncId) (X : Wd) (v : V) (H' : Heap) (s : Sem Next) : Prop :=
  ∃ u X', (s.run Q X.w = .ok (.value u) X'.w ∨ (s.run Q X.w = .ok .skip X'.w ∧ u = undef)) ∧ X'.H = H' ∧ SR Q σ X' ∧ VR σ X' v u ∧ Ext X.H.length X X' ∧ X'.B ≤ X'.w.heap.size

theorem OpOK.of_rd (hB : X.B ≤ X.w.heap.size) (hS : SR Q σ X) {v : V} {H' : Heap} {s : Sem Next} (h : H' = X.H ∧ ∃ u, s.run Q X.w = .ok (.value u) X.w ∧ VR σ X v u) : OpOK Q σ X v H' s := by
  obtain ⟨rfl, u, h1, h2⟩ := h
  exact ⟨u, X, .inl h1, rfl, hS, h2, Ext.refl _ _, hB⟩

theorem rowAt_new {w w' : World} {us : List Value} {e : TypeId} (h : Adds w w' (.cells us.toArray e)) : rowAt w' w.heap.size us := ⟨e, (0, 0), h.new, fun i _ => by simp⟩

/-- A new box. -/
theorem newBox (hS : SR Q σ X) (hB : X.B ≤ X.w.heap.size) {cs : List C} {us : List Value} (h : A2 (CR σ X) cs us) (e : TypeId) :
    ∃ X', X'.w = X.w.alloc (.cells us.toArray e) ∧ X'.H = X.H ++ [.box cs 0] ∧ SR Q σ X' ∧ Ext X.H.length X X' ∧ X'.rho X.H.length = some ⟨X.w.heap.size, 0⟩ ∧ X'.B ≤ X'.w.heap.size :=
  SR.new hS hB (.box cs 0) (Adds.alloc _ _) 0 fun X' hx hw hF _ => ⟨us, by rw [hw]; exact rowAt_new (Adds.alloc _ _), A2.ext' σ hx h, fun i _ hf => by
    rw [hF] at hf; have := hS.fb _ _ hf; simp at this⟩

theorem newBox_ptr (hS : SR Q σ X) (hB : X.B ≤ X.w.heap.size) {cs : List C} {us : List Value} (h : A2 (CR σ X) cs us) (e : TypeId) {s : Sem Next}
    (hs : s.run Q X.w = .ok (.value (.pointer (some ⟨X.w.heap.size, 0, none⟩))) (X.w.alloc (.cells us.toArray e))) : OpOK Q σ X (.c (.ptr X.H.length 0 0)) (X.H ++ [.box cs 0]) s := by
  obtain ⟨X', h1, h2, h3, h4, h5, h6⟩ := newBox hS hB h e
  refine ⟨_, X', .inl (by rw [h1]; exact hs), h2, h3, ?_, h4, h6⟩
  exact ⟨_, h5, by rw [h2]; simp⟩

theorem alloc_ok (hS : SR Q σ X) (hB : X.B ≤ X.w.heap.size) {a : Act} {o : Oper} {zs : List FC} (hm : mOp Q σ o (.alloc zs) = true) :
    OpOK Q σ X (.c (.ptr X.H.length 0 0)) (X.H ++ [.box (zs.map .f) 0]) (execOp a.eval o) := by
  simp only [mOp] at hm
  split at hm
  · rename_i t ho
    obtain ⟨z, us, h1, h2, h3, _⟩ := tZero_ok (σ := σ) (X := X) hm X.w
    refine newBox_ptr hS hB h3 t ?_
    simp only [execOp, ho]
    refine ex_v ?_
    simp [Instr.alloc, h1, newVar, newRow, h2]
  · simp at hm

theorem box_ok (hS : SR Q σ X) (hB : X.B ≤ X.w.heap.size) {a : Act} {regs : T} (hR : RR σ X regs a.tmps) {o : Oper} {x : Arg} (hm : mOp Q σ o (.box x) = true) {xs : List C} (hx : (x.ev regs).cells? = some xs) :
    OpOK Q σ X (.c (.ptr X.H.length 0 0)) (X.H ++ [.box xs 0]) (execOp a.eval o) := by
  simp only [mOp] at hm
  split at hm
  · rename_i t y ho
    obtain ⟨us, h2, h3⟩ := cells_ok (mA_ok hR hm) hx
    refine newBox_ptr hS hB h3 t ?_
    simp only [execOp, ho]
    refine ex_v ?_
    simp [Instr.box, newVar, newRow, h2]
  · simp at hm

theorem zeros_ok {zs : List FC} {us : List Value} (h : A2 (CR σ X) (zs.map .f) us) (n : Nat) : A2 (CR σ X) ((repl n zs).map .f) (repl n us) := by
  induction n with
  | zero => exact A2.nil
  | succ n ih =>
    simp only [repl, List.replicate_succ, List.flatten_cons, List.map_append] at ih ⊢
    exact h.append ih

theorem repl_len {α : Type} (n : Nat) (xs : List α) : (repl n xs).length = n * xs.length := by simp [repl]

theorem repl_get {α : Type} (us : List α) : ∀ (n i : Nat), i < n * us.length → (repl n us)[i]? = us[i % us.length]?
  | 0, i, h => by simp at h
  | n + 1, i, h => by
    have h1 : repl (n + 1) us = us ++ repl n us := by simp [repl, List.replicate_succ]
    rw [h1]
    by_cases hi : i < us.length
    · rw [List.getElem?_append_left hi, Nat.mod_eq_of_lt hi]
    · have h2 : (n + 1) * us.length = n * us.length + us.length := by rw [Nat.add_mul]; omega
      rw [List.getElem?_append_right (by omega), repl_get us n (i - us.length) (by omega)]
      rw [← Nat.mod_eq_sub_mod (by omega)]

/-- The model's row of zeros. -/
theorem zeros_eq (us : List Value) (n : Nat) (hn : 0 < us.length) : ((Array.range (n * us.length)).map fun i => us.toArray[i % us.toArray.size]!) = (repl n us).toArray := by
  apply Array.ext
  · simp [repl_len]
  · intro i h1 h2
    have h3 : i < n * us.length := by simpa using h1
    have h4 := repl_get us n i h3
    have h5 : i % us.length < us.length := Nat.mod_lt _ hn
    have h6 : i < (repl n us).length := by simpa using h2
    rw [List.getElem?_eq_getElem h6, List.getElem?_eq_getElem h5, Option.some.injEq] at h4
    simp [h4, h5]

theorem bslice_ok (hS : SR Q σ X) (hB : X.B ≤ X.w.heap.size) {a : Act} {regs : T} (hR : RR σ X regs a.tmps) {o : Oper} {sz n : Nat} {zs : List FC} {ps : List (Nat × Arg)}
    (hm : mOp Q σ o (.bslice sz zs n ps) = true) {v : V} {H' : Heap} (h : xOp regs X.H (.bslice sz zs n ps) = some (v, H')) : OpOK Q σ X v H' (execOp a.eval o) := by
  simp only [mOp] at hm
  split at hm
  · rename_i t n' qs ho
    simp only [Bool.and_eq_true, beq_iff_eq, decide_eq_true_eq] at hm
    obtain ⟨⟨⟨⟨rfl, hbig⟩, he⟩, hsz0⟩, hq⟩ := hm
    obtain ⟨e, hu, he⟩ := elem_ok he
    simp only [Bool.and_eq_true, decide_eq_true_eq] at he
    obtain ⟨⟨hsz, hz⟩, hzl⟩ := he
    obtain ⟨z, us, hz1, hz2, hz3, _⟩ := tZero_ok (σ := σ) (X := X) hz X.w
    have hul : us.length = sz := by have := hz3.len; simp at this; omega
    simp only [xOp] at h
    split at h
    · -- no element
      rename_i hn
      subst hn
      split at h
      · rename_i hps
        simp only [Option.some.injEq, Prod.mk.injEq] at h
        obtain ⟨rfl, rfl⟩ := h
        have hqs : qs.toList = [] := by
          have := (all2_A2 hq).len
          simp only [List.isEmpty_iff] at hps
          rw [hps] at this
          exact List.eq_nil_of_length_eq_zero this.symm
        have hqs : qs = #[] := by apply Array.ext'; simpa using hqs
        -- the model lays an empty block, which nothing of ours is
        obtain ⟨X', h1, h2, h3, h4, h5, h6⟩ : ∃ X' : Wd, X'.w = X.w.alloc (.cells #[] e) ∧ X'.H = X.H ∧ SR Q σ X' ∧ Ext X.H.length X X' ∧ True ∧ X'.B ≤ X'.w.heap.size := by
          have hx : Ext X.H.length X { X with w := X.w.alloc (.cells #[] e) } := Ext.one hS X.H.length rfl (fun _ _ => Iff.rfl) (fun k hk _ => (Adds.alloc _ _).old hk)
            (fun L i h => by rw [SR.rho0 hS] at h; simp at h) (fun h => by omega) (fun _ _ _ => rfl) (fun _ _ => rfl) (fun L h => by rw [SR.rho0 hS] at h; simp at h) (by simp) rfl rfl rfl
          refine ⟨{ X with w := X.w.alloc (.cells #[] e) }, rfl, rfl, SR.step Q σ hS hx X.H.length (fun _ _ => rfl) (fun _ _ => rfl) (fun b L _ hb => (Adds.alloc _ _).old (hS.br b L hb).2.1)
            (fun _ _ _ _ _ h => h) (fun L h => by rw [SR.rho0 hS] at h; simp at h) (fun c i h => ?_), hx, trivial, ?_⟩
          · have := hS.fb c i h; simp; omega
          · simp; omega
        refine ⟨.slice (some ⟨X.w.heap.size, 0, none⟩) 0 0, X', .inl ?_, h2, h3, FCR.es _, h4, h6⟩
        rw [h1]
        simp only [execOp, ho]
        refine ex_v ?_
        simp [Instr.buildSlice, run_und hu, run_sz hsz, hqs, Instr.fill, newRow, show Array.range 0 = (#[] : Array Nat) from rfl]
      · simp at h
    · rename_i hn
      simp only [Option.map_eq_some_iff, Prod.mk.injEq] at h
      obtain ⟨cs, hcs, rfl, rfl⟩ := h
      obtain ⟨us', h5, h6⟩ := fill_ok (place := fun i => some (i * sz, sz)) (ps := qs.toList) hR (qs := ps.map fun p => (p.1 * sz, sz, p.2)) (A2.map ((all2_A2 hq).imp fun q p hqp => by
        simp only [Bool.and_eq_true, beq_iff_eq] at hqp
        exact ⟨by rw [hqp.1], hqp.2⟩)) (zeros_ok hz3 n') hcs
      obtain ⟨X', h1, h2, h3, h4, h7, h8⟩ := newBox hS hB h6 e
      refine ⟨.slice (some ⟨X.w.heap.size, 0, none⟩) n' n', X', .inl ?_, h2, h3, ?_, h4, h8⟩
      · rw [h1]
        simp only [execOp, ho]
        refine ex_v ?_
        have hnz : n' * sz ≠ 0 := by
          intro h0; rcases Nat.mul_eq_zero.1 h0 with h0 | h0 <;> omega
        have hze := zeros_eq us n' (by omega)
        rw [hul] at hze
        simp only [Instr.buildSlice, Sem.run_bind, run_und hu, run_sz hsz, Result.andThen_ok, if_neg (show ¬ n' * sz > 2 ^ 24 by omega), Sem.run_ite, if_neg hnz, hz1, Sem.run_pure, hz2]
        simp only [Array.toList_map] 
        rw [hze]
        simp [h5, newRow]
      · simp only [VR, VR1, CR, CR1, h2]
        simp
        exact ⟨_, h7, rfl⟩
  · simp at hm

end Km
end

section
namespace Km
open Go

variable {Q : Program} {σ : Nat → FuncId} {X : Wd}

theorem over_append {α : Type} (us rest : List α) (off : Nat) (vs : List α) (h : off + vs.length ≤ us.length) : over (us ++ rest) off vs = over us off vs ++ rest := by
  unfold over
  rw [List.take_append_of_le_length (by omega), List.drop_append_of_le_length (by omega)]
  simp

theorem A2.one {cs : List C} {us : List Value} (h : A2 (CR σ X) cs us) : ∀ v ∈ us, v.oneCell' = true := by
  intro v hv
  obtain ⟨i, hi⟩ := List.getElem?_of_mem hv
  have hlt : i < cs.length := by rw [h.len]; exact (List.getElem?_eq_some_iff.1 hi).1
  exact CR.one σ (h.2 i _ v (List.getElem?_eq_getElem hlt) hi)

/-- Cells of a box are written. -/
theorem writeBox (hS : SR Q σ X) {b : Nat} {cs : List C} {fl : Nat} {L : Loc} (hb : X.H[b]? = some (.box cs fl)) (hL : X.rho b = some L) {xs : List C} {vs : List Value} (hx : A2 (CR σ X) xs vs) {off : Nat}
    (hfl : fl ≤ off) (hl : off + xs.length ≤ cs.length) : ∃ X', (storeCells ⟨L.c, off, none⟩ vs).run Q X.w = .ok () X'.w ∧ X'.H = X.H.set b (.box (over cs off xs) fl) ∧ SR Q σ X' ∧ Ext X.H.length X X' ∧
      (∀ b, X'.rho b = X.rho b) ∧ X'.w.heap.size = X.w.heap.size ∧ X'.B = X.B := by
  obtain ⟨_, _, blk, hb', hbr⟩ := hS.br b L hL
  rw [hb] at hb'; simp only [Option.some.injEq] at hb'; subst hb'
  obtain ⟨us, hr, h2, h3⟩ := hbr
  have hvl := hx.len
  have hul := h2.len
  obtain ⟨s1, s2, s3, s4, s5, s6⟩ := setCells_row hr vs off (by omega)
  obtain ⟨h4, h5⟩ := SR.turn hS (blk' := .box (over cs off xs) fl) hb hL s1 s2 (fun i hf => by
      rw [cell_row s6, cell_row hr]
      have : i < off := by
        rcases Nat.lt_or_ge i off with h | h
        · exact h
        · exact absurd hf (h3 i (by omega))
      exact over_get us off vs (by omega) i this) s3 s4 s5
    (fun blk hblk => ⟨.box (over cs off xs) fl, by simp [(List.getElem?_eq_some_iff.1 hb).1], by rw [hb] at hblk; simp only [Option.some.injEq] at hblk; subst hblk; exact fun L h => h⟩)
    (fun hx' => ⟨over us off vs, s6, A2.over (A2.ext' σ hx' h2) (A2.ext' σ hx' hx) off, h3⟩)
  exact ⟨_, store_row hr vs off (by omega) (A2.one hx), rfl, h4, h5, fun _ => rfl, s1, rfl⟩

/-- Cells of a growable block are written, within its length. -/
theorem writeOpn (hS : SR Q σ X) {b : Nat} {sz : Nat} {cs : List C} {fl ep : Nat} {L : Loc} (hb : X.H[b]? = some (.opn sz cs fl ep .loc)) (hL : X.rho b = some L) {xs : List C} {vs : List Value} (hx : A2 (CR σ X) xs vs) {off : Nat}
    (hfl : fl ≤ off) (hl : off + xs.length ≤ cs.length) : ∃ X', (storeCells ⟨L.c, off, none⟩ vs).run Q X.w = .ok () X'.w ∧ X'.H = X.H.set b (.opn sz (over cs off xs) fl ep .loc) ∧ SR Q σ X' ∧ Ext X.H.length X X' ∧
      (∀ b, X'.rho b = X.rho b) ∧ X'.w.heap.size = X.w.heap.size ∧ X'.B = X.B := by
  obtain ⟨_, _, blk, hb', hbr⟩ := hS.br b L hL
  rw [hb] at hb'; simp only [Option.some.injEq] at hb'; subst hb'
  obtain ⟨hst, us, rest, hr, h2, h6, h7, h8, h3⟩ := hbr
  have hvl := hx.len
  have hul := h2.len
  obtain ⟨s1, s2, s3, s4, s5, s6⟩ := setCells_row hr vs off (by simp; omega)
  rw [over_append _ _ _ _ (by omega)] at s6
  have hol := over_len us off vs (by omega)
  obtain ⟨h4, h5⟩ := SR.turn hS (blk' := .opn sz (over cs off xs) fl ep .loc) hb hL s1 s2 (fun i hf => by
      rw [cell_row s6, cell_row hr]
      have : i < off := by
        rcases Nat.lt_or_ge i off with h | h
        · exact h
        · exact absurd hf (h3 i (by omega))
      rw [List.getElem?_append_left (by omega), List.getElem?_append_left (by omega)]
      exact over_get us off vs (by omega) i this) s3 s4 s5
    (fun blk hblk => ⟨.opn sz (over cs off xs) fl ep .loc, by simp [(List.getElem?_eq_some_iff.1 hb).1], by rw [hb] at hblk; simp only [Option.some.injEq] at hblk; subst hblk; exact ⟨rfl, .inl ⟨rfl, rfl, fun L h => h⟩⟩⟩)
    (fun hx' => ⟨rfl, over us off vs, rest, s6, A2.over (A2.ext' σ hx' h2) (A2.ext' σ hx' hx) off, by simp only [List.length_append] at h6 ⊢; omega, h7, by rw [over_len cs off xs hl]; exact h8, h3⟩)
  exact ⟨_, store_row hr vs off (by simp; omega) (A2.one hx), rfl, h4, h5, fun _ => rfl, s1, rfl⟩

theorem stC_ok (hS : SR Q σ X) {x : C} {u : Value} (hx : CR σ X x u) {xs : List C} {vs : List Value} (hxs : A2 (CR σ X) xs vs) {H' : Heap} (h : stC X.H x xs = some H') :
    ∃ c off X', u = .pointer (some ⟨c, off, none⟩) ∧ (storeCells ⟨c, off, none⟩ vs).run Q X.w = .ok () X'.w ∧ X'.H = H' ∧ SR Q σ X' ∧ Ext X.H.length X X' ∧ X'.w.heap.size = X.w.heap.size ∧ X'.B = X.B := by
  unfold stC at h
  split at h
  · rename_i b off ep
    obtain ⟨L, hL, hx⟩ := hx
    split at h
    · rename_i cs fl hb
      rw [hb] at hx; simp only at hx; subst hx
      split at h
      · rename_i hc
        simp only [Option.some.injEq] at h; subst h
        obtain ⟨X', h1, h2, h3, h4, _, h5, h6⟩ := writeBox hS hb hL hxs hc.1 hc.2
        exact ⟨_, _, X', rfl, h1, h2, h3, h4, h5, h6⟩
      · simp at h
    · rename_i sz cs fl e hb
      rw [hb] at hx
      split at h
      · rename_i hc
        have hx := hx.2.1 hc.1
        subst hx
        simp only [Option.some.injEq] at h; subst h
        obtain ⟨X', h1, h2, h3, h4, _, h5, h6⟩ := writeOpn hS hb hL hxs hc.2.1 hc.2.2
        exact ⟨_, _, X', rfl, h1, h2, h3, h4, h5, h6⟩
      · simp at h
    · simp at h
  · simp at h

theorem store_ok (hS : SR Q σ X) (hB : X.B ≤ X.w.heap.size) {a : Act} {regs : T} (hR : RR σ X regs a.tmps) {o : Oper} {n : Nat} {x y : Arg} (hm : mOp Q σ o (.store n x y) = true) {v : V} {H' : Heap}
    (h : xOp regs X.H (.store n x y) = some (v, H')) : OpOK Q σ X v H' (execOp a.eval o) := by
  simp only [mOp] at hm
  split at hm
  · rename_i t x' y' ho
    simp only [Bool.and_eq_true] at hm
    obtain ⟨⟨hn, hx⟩, hy⟩ := hm
    have hx := mA_ok hR hx
    have hy := mA_ok hR hy
    simp only [xOp] at h
    split at h
    · rename_i p xs hp hxs
      rw [hp] at hx
      split at h
      · rename_i hlen
        simp only [Option.map_eq_some_iff, Prod.mk.injEq] at h
        obtain ⟨H2, hst, rfl, rfl⟩ := h
        obtain ⟨vs, hv, hxv⟩ := cells_ok hy hxs
        obtain ⟨c, off, X', hu, h1, h2, h3, h4, h5, h6⟩ := stC_ok hS hx hxv hst
        refine ⟨undef, X', .inr ⟨?_, rfl⟩, h2, h3, trivial, h4, by omega⟩
        have hvl := hxv.len
        simp only [execOp, ho, Sem.run_bind]
        have : (Instr.storeAt t (a.eval x') (a.eval y')).run Q X.w = .ok () X'.w := by
          rw [hu]
          simp [Instr.storeAt, Instr.sureAddr, storeVar, run_sz hn, hv]
          rw [if_pos (by omega)]
          exact h1
        simp [this]
      · simp at h
    · simp at h
  · simp at hm

end Km
end

section
namespace Km
open Go

variable {Q : Program} {σ : Nat → FuncId} {X : Wd}

theorem growBy_le (n : Nat) : ∀ (r c : Nat), Builtin.growBy n r c ≤ Nat.max c (n + (n + 768) / 4)
  | 0, c => by simp [Builtin.growBy]; exact Nat.le_max_left _ _
  | r + 1, c => by
    simp only [Builtin.growBy]
    split
    · exact Nat.le_max_left _ _
    · rename_i h
      refine Nat.le_trans (growBy_le n r _) ?_
      apply Nat.max_le.2
      exact ⟨Nat.le_trans (by omega) (Nat.le_max_right _ _), Nat.le_max_right _ _⟩

theorem nextcap_le {need cap : Nat} (h : cap < need) : Builtin.nextslicecap need cap ≤ 2 * need + 768 := by
  unfold Builtin.nextslicecap
  split
  · omega
  · split
    · omega
    · refine Nat.le_trans (growBy_le need 4 cap) ?_
      apply Nat.max_le.2
      omega

/-- What is appended. -/
theorem added_ok (hS : SR Q σ X) {sz : Nat} {y : V} {u : Value} (hy : VR σ X y u) {m : Nat} {ys : List C} (h : addedV X.H sz y = some (m, ys)) :
    ∃ vs, (Builtin.lenOf u).run Q X.w = .ok m X.w ∧ (Builtin.firstCells sz m u).run Q X.w = .ok vs.toArray X.w ∧ A2 (CR σ X) ys vs ∧ ys.length = m * sz := by
  unfold addedV at h
  split at h
  · rename_i s
    have := VR.str hy; subst this
    split at h
    case isFalse => simp at h
    rename_i hs1
    subst hs1
    simp only [Option.some.injEq, Prod.mk.injEq] at h
    obtain ⟨rfl, rfl⟩ := h
    have hext : s.extract 0 s.size = s := ByteArray.extract_zero_size
    refine ⟨s.data.toList.map fun b => .int .u8 b.toNat, by simp [Builtin.lenOf], ?_, ?_, ?_⟩
    · simp only [Builtin.firstCells, hext, Sem.run_pure]
      congr 1
      apply Array.ext'; simp
    · rw [ByteArray.toList_eq]
      exact ⟨by simp, fun i x u hx hu => by
        simp only [List.getElem?_map, Option.map_eq_some_iff] at hx hu
        obtain ⟨c, hc, rfl⟩ := hx
        obtain ⟨d, hd, rfl⟩ := hu
        rw [hc] at hd; cases hd
        exact FCR.int _ _⟩
    · rw [ByteArray.toList_eq]; simp only [List.length_map, Array.length_toList, Nat.mul_one]; rfl
  · rename_i x hn
    split at h
    · rename_i l cs hl hcs
      simp only [Option.some.injEq, Prod.mk.injEq] at h
      obtain ⟨rfl, rfl⟩ := h
      obtain ⟨us, h1, h2, h3⟩ := slCells_ok hS hy hl hcs
      obtain ⟨a, c, rfl⟩ := slLen_ok hy hl
      exact ⟨us, by simp [Builtin.lenOf], h1, h2, h3⟩
    · simp at h
  · simp at h

/-- The facts of an append's types. -/
structure AppT (Q : Program) (t t' e : TypeId) (sz bytes : Nat) : Prop where
  hu : Q.underlying t = some (.slice e)
  hu' : ∃ d, Q.underlying t' = some d ∧ (∀ k, d ≠ .int k)
  hsz : tSize Q e sz = true
  hby : tBytes Q e bytes = true
  pos : 0 < sz
  zero : ∃ i z, Q.info? e = some i ∧ i.zero = some z ∧ z.cells.size = sz

def stBase (base : Option Addr) (k : Nat) (vs : List Value) : Sem Unit := match base with
  | some a => storeCells (a.add k) vs
  | none => pure ()

theorem run_append {t t' e : TypeId} {sz bytes : Nat} (ht : AppT Q t t' e sz bytes) (ty : TypeId) {base : Option Addr} {l cap m : Nat} {u : Value} {vs : List Value} {w : World}
    (h1 : (Builtin.lenOf u).run Q w = .ok m w) (h2 : (Builtin.firstCells sz m u).run Q w = .ok vs.toArray w) :
    (l + m ≤ cap → (Builtin.append_ #[t, t'] ty #[.slice base l cap, u]).run Q w =
      ((stBase base (l * sz) vs).run Q w).andThen fun _ w' => .ok (.slice base (l + m) cap) w') ∧
    (¬ l + m ≤ cap → roomOK (l + m) bytes = true → ∀ os vs : List Value, (Builtin.firstCells sz l (.slice base l cap)).run Q w.drew = .ok os.toArray w.drew → (Builtin.firstCells sz m u).run Q w.drew = .ok vs.toArray w.drew →
      ∃ nc rest w', l + m ≤ nc ∧ (Builtin.append_ #[t, t'] ty #[.slice base l cap, u]).run Q w = .ok (.slice (some ⟨w.heap.size, 0, none⟩) (l + m) nc) w' ∧
        Adds w w' (.cells (os ++ vs ++ rest).toArray e) ∧ rest.length = (nc - (l + m)) * sz) := by
  obtain ⟨d, hd, hdn⟩ := ht.hu'
  obtain ⟨i, z, hi, hz, hzs⟩ := ht.zero
  obtain ⟨inf, hb1, hb2⟩ := run_by ht.hby w
  have hzz : ((d matches .int _) : Bool) = false := by
    cases d with
    | int k => exact absurd rfl (hdn k)
    | _ => rfl
  constructor
  · intro hle
    simp only [Builtin.append_, List.getElem?_toArray]
    simp [run_und ht.hu, run_und hd, run_sz ht.hsz, hzz, h1, hle, h2]
    cases base <;> simp [stBase]
  · intro hgt hroom os vs h3 h4
    unfold roomOK at hroom
    simp only [Bool.and_eq_true, decide_eq_true_eq] at hroom
    have hinf : inf = i := by
      simp [typeInfo, hi] at hb1; exact hb1.symm
    subst hinf
    have hnb : ¬ (Builtin.nextslicecap (l + m) cap * inf.bytes > 2 ^ 48) := by
      rw [hb2]
      have := nextcap_le (need := l + m) (cap := cap) (by omega)
      have := Nat.mul_le_mul_right bytes this
      omega
    let nc := (Question.appendCap (l + m) cap e).cut (w.tape w.drawn (.appendCap (l + m) cap e))
    have hnc : l + m ≤ nc := by simp [nc, Question.cut]
    refine ⟨nc, repl (nc - (l + m)) z.cells.toList, w.drew.alloc (.cells (os ++ vs ++ repl (nc - (l + m)) z.cells.toList).toArray e), hnc, ?_, ⟨rfl, rfl, rfl, rfl⟩, by rw [repl_len]; simp [hzs]⟩
    have hch : (choose (.appendCap (l + m) cap e)).run Q w = .ok nc w.drew := by
      simp [choose, Sem.run, Question.forced, nc]
    have hzc : Builtin.zeroCells z.cells (nc - (l + m)) = (repl (nc - (l + m)) z.cells.toList).toArray := by
      have := zeros_eq z.cells.toList (nc - (l + m)) (by simp [hzs]; exact ht.pos)
      simpa [Builtin.zeroCells] using this
    have hmax : ¬ (((l + m : Nat) : Int) > IntKind.i64.max) := by
      have : IntKind.i64.max = 9223372036854775807 := by decide
      rw [this]; omega
    have hzv : ∀ w', (zeroValue e).run Q w' = .ok z w' := fun w' => by simp [zeroValue, typeInfo, hi, hz]
    have hti : ∀ w', (typeInfo e).run Q w' = .ok inf w' := fun w' => by simp [typeInfo, hi]
    simp only [Builtin.append_, Sem.run_bind, run_und ht.hu, run_und hd, run_sz ht.hsz, hzz, Result.andThen_ok, Sem.run_pure, Bool.false_eq_true, if_false, h1, if_neg hgt, Sem.run_ite, hti, hmax, false_and, hnb, hch, run_askRoom, h3,
      Bool.not_false, if_true, h4, hzv, hzc, newRow, run_newObj, List.getElem?_toArray, List.getElem?_cons_zero, List.getElem?_cons_succ]
    have e1 : os.toArray ++ vs.toArray ++ (repl (nc - (l + m)) z.cells.toList).toArray = (os ++ vs ++ repl (nc - (l + m)) z.cells.toList).toArray := by simp
    rw [e1]; rfl

theorem SR.drew (hS : SR Q σ X) : SR Q σ { X with w := X.w.drew } ∧ Ext X.H.length X { X with w := X.w.drew } := by
  have hx : Ext X.H.length X { X with w := X.w.drew } := Ext.one hS X.H.length rfl (fun _ _ => Iff.rfl) (fun _ _ _ => rfl) (fun _ _ _ _ => rfl) (fun h => by omega)
    (fun _ _ _ => rfl) (fun _ _ => rfl) (fun L h => .inl ⟨L, h, rfl⟩) (Nat.le_refl _) rfl rfl rfl
  exact ⟨SR.step Q σ hS hx X.H.length (fun _ _ => rfl) (fun _ _ => rfl) (fun _ _ _ _ => rfl) (fun _ _ _ _ _ h => h) (fun L h => by
    change X.rho X.H.length = some L at h; rw [SR.rho0 hS] at h; simp at h) hS.fb, hx⟩

/-- A growable block, grown into a new row. -/
theorem newOpn (hS : SR Q σ X) (hB : X.B ≤ X.w.heap.size) {sz : Nat} (hsz : 0 < sz) {cs : List C} {us rest : List Value} (h : A2 (CR σ X) cs us) {n nc : Nat} (hn : cs.length = n * sz) (hr : rest.length = (nc - n) * sz) (hnc : n ≤ nc)
    {e : TypeId} {w' : World} (hw : Adds X.w w' (.cells (us ++ rest).toArray e)) :
    ∃ X', X'.w = w' ∧ X'.H = X.H ++ [.opn sz cs 0 0 .loc] ∧ SR Q σ X' ∧ Ext X.H.length X X' ∧ VR σ X' (.c (.sl X.H.length 0 n 0 0 sz)) (.slice (some ⟨X.w.heap.size, 0, none⟩) n nc) ∧ X'.B ≤ X'.w.heap.size := by
  obtain ⟨X', h1, h2, h3, h4, h5, h6⟩ := SR.new hS hB (.opn sz cs 0 0 .loc) hw nc fun X' hx hw' hF _ => ⟨rfl, us, rest, by rw [hw']; exact rowAt_new hw, A2.ext' σ hx h, by
    have := h.len
    rw [List.length_append, hr, ← this, hn, ← Nat.add_mul]; congr 1; show n + (nc - n) = nc; omega, hsz, ⟨n, hn⟩, fun i _ hf => by rw [hF] at hf; have := hS.fb _ _ hf; simp at this⟩
  refine ⟨X', h1, h2, h3, h4, ?_, h6⟩
  have hnew : X'.H[X.H.length]? = some (.opn sz cs 0 0 .loc) := by rw [h2]; simp
  simp only [VR, VR1, CR, CR1, hnew]
  exact ⟨Nat.le_refl _, fun _ _ => ⟨_, h5, 0, by omega, by show 0 + n ≤ nc; omega, by simp⟩, _, _, _, rfl⟩

/-- A growable block that grows where it lies, or anew. -/
theorem growOpn (hS : SR Q σ X) (hB : X.B ≤ X.w.heap.size) {b sz : Nat} {cs : List C} {fl ep : Nat} {st : Os} (hb : X.H[b]? = some (.opn sz cs fl ep st)) {ys : List C} {us vs rest : List Value} (hc : A2 (CR σ X) cs us) (hy : A2 (CR σ X) ys vs)
    (hsz : 0 < sz) {n nc : Nat} (hn : cs.length + ys.length = n * sz) (hr : rest.length = (nc - n) * sz) (hnc : n ≤ nc) {e : TypeId} {w' : World} (hw : Adds X.w w' (.cells (us ++ vs ++ rest).toArray e)) :
    ∃ X', X'.w = w' ∧ X'.H = X.H.set b (.opn sz (cs ++ ys) fl (ep + 1) .loc) ∧ SR Q σ X' ∧ Ext X.H.length X X' ∧ VR σ X' (.c (.sl b 0 n 0 (ep + 1) sz)) (.slice (some ⟨X.w.heap.size, 0, none⟩) n nc) ∧ X'.B ≤ X'.w.heap.size := by
  have hlt : b < X.H.length := (List.getElem?_eq_some_iff.1 hb).1
  let X' : Wd := { X with H := X.H.set b (.opn sz (cs ++ ys) fl (ep + 1) .loc), rho := fun k => if k = b then some ⟨X.w.heap.size, nc⟩ else X.rho k, w := w' }
  have hnew : X'.H[b]? = some (.opn sz (cs ++ ys) fl (ep + 1) .loc) := by simp [X', hlt]
  have hrb : X'.rho b = some ⟨X.w.heap.size, nc⟩ := by simp [X']
  have hx : Ext X.H.length X X' := Ext.one hS b rfl (fun _ _ => Iff.rfl) (fun k hk _ => hw.old hk) (fun L i hL hf => World.cell?_of_block (hw.old (hS.fb _ _ hf)))
    (fun _ blk hblk => ⟨_, hnew, by rw [hb] at hblk; simp only [Option.some.injEq] at hblk; subst hblk; exact ⟨rfl, .inr ⟨by omega, rfl, _, hrb⟩⟩⟩)
    (fun b' h _ => by simp [X', List.getElem?_set_ne (Ne.symm h)]) (fun b' h => by simp [X', h]) (fun L h => by rw [hrb] at h; simp only [Option.some.injEq] at h; subst h; exact .inr (Nat.le_refl _)) (by show X.w.heap.size ≤ w'.heap.size; rw [hw.size]; omega) hw.os hw.tape hw.output
  refine ⟨X', rfl, rfl, SR.step Q σ hS hx b (fun b' h => by simp [X', List.getElem?_set_ne (Ne.symm h)]) (fun b' h => by simp [X', h]) (fun b' L _ hb' => hw.old (hS.br b' L hb').2.1) (fun _ _ _ _ _ h => h) (fun L h => ?_) (fun c i h => ?_), hx, ?_, ?_⟩
  · rw [hrb] at h; simp only [Option.some.injEq] at h; subst h
    refine ⟨hB, by show X.w.heap.size < w'.heap.size; rw [hw.size]; omega, ⟨_, hnew, rfl, us ++ vs, rest, rowAt_new hw, (A2.ext' σ hx hc).append (A2.ext' σ hx hy), ?_, hsz, ⟨n, by simpa using hn⟩, fun i _ hf => ?_⟩, fun b' L' _ hb' => ?_⟩
    · have h8 := hc.len
      have h9 := hy.len
      rw [List.length_append, List.length_append, hr, ← h8, ← h9, hn, ← Nat.add_mul]; congr 1; show n + (nc - n) = nc; omega
    · have := hS.fb _ _ hf; simp at this
    · have := (hS.br b' L' hb').2.1; show L'.c ≠ X.w.heap.size; omega
  · have := hS.fb c i h; show c < w'.heap.size; rw [hw.size]; omega
  · simp only [VR, VR1, CR, CR1, hnew]
    exact ⟨Nat.le_refl _, fun _ _ => ⟨_, hrb, 0, by omega, by show 0 + n ≤ nc; omega, by simp⟩, _, _, _, rfl⟩
  · show X.B ≤ w'.heap.size; rw [hw.size]; omega

end Km
end

section
namespace Km
open Go

variable {Q : Program} {σ : Nat → FuncId} {X : Wd}

theorem over_tip {α : Type} (us rest vs : List α) (h : vs.length ≤ rest.length) : over (us ++ rest) us.length vs = us ++ vs ++ rest.drop vs.length := by
  unfold over
  rw [List.take_left', ← List.drop_drop, List.drop_left']
  all_goals rfl

/-- A growable block that has room. -/
theorem tipOpn (hS : SR Q σ X) {b sz : Nat} {cs : List C} {fl ep : Nat} {L : Loc} (hb : X.H[b]? = some (.opn sz cs fl ep .loc)) (hL : X.rho b = some L) {ys : List C} {vs : List Value} (hy : A2 (CR σ X) ys vs) (hfl : fl ≤ cs.length)
    {n : Nat} (hn : cs.length + ys.length = n * sz) (hcap : n ≤ L.cap) : ∃ X', (storeCells ⟨L.c, cs.length, none⟩ vs).run Q X.w = .ok () X'.w ∧ X'.H = X.H.set b (.opn sz (cs ++ ys) fl (ep + 1) .loc) ∧ SR Q σ X' ∧
      Ext X.H.length X X' ∧ VR σ X' (.c (.sl b 0 n 0 (ep + 1) sz)) (.slice (some ⟨L.c, 0, none⟩) n L.cap) ∧ X'.w.heap.size = X.w.heap.size ∧ X'.B = X.B := by
  obtain ⟨_, _, blk, hb', hbr⟩ := hS.br b L hL
  rw [hb] at hb'; simp only [Option.some.injEq] at hb'; subst hb'
  obtain ⟨_, us, rest, hr, h2, h6, h7, h8, h3⟩ := hbr
  have hlt : b < X.H.length := (List.getElem?_eq_some_iff.1 hb).1
  have hvl := hy.len
  have hul := h2.len
  have hroom : n * sz ≤ L.cap * sz := Nat.mul_le_mul_right sz hcap
  have hrl : vs.length ≤ rest.length := by simp only [List.length_append] at h6; omega
  obtain ⟨s1, s2, s3, s4, s5, s6⟩ := setCells_row hr vs cs.length (by simp; omega)
  rw [hul, over_tip _ _ _ hrl] at s6
  rw [← hul] at s6
  obtain ⟨h4, h5⟩ := SR.turn hS (blk' := .opn sz (cs ++ ys) fl (ep + 1) .loc) hb hL s1 s2 (fun i hf => by
      have hi : i < fl := by
        rcases Nat.lt_or_ge i fl with h | h
        · exact h
        · exact absurd hf (h3 i h)
      have := cell_row s6 i
      rw [hul] at this ⊢
      rw [this, cell_row hr, List.append_assoc, List.getElem?_append_left (by omega), List.getElem?_append_left (by omega)]) s3 s4 s5
    (fun blk hblk => ⟨.opn sz (cs ++ ys) fl (ep + 1) .loc, by simp [hlt], by rw [hb] at hblk; simp only [Option.some.injEq] at hblk; subst hblk; exact ⟨rfl, .inr ⟨by omega, rfl, L, hL⟩⟩⟩)
    (fun hx' => ⟨rfl, us ++ vs, rest.drop vs.length, by rw [hul] at s6 ⊢; exact s6, (A2.ext' σ hx' h2).append (A2.ext' σ hx' hy), by simp only [List.length_append, List.length_drop] at h6 ⊢; omega, h7, ⟨n, by simpa using hn⟩, h3⟩)
  refine ⟨_, store_row hr vs cs.length (by simp; omega) (A2.one hy), rfl, h4, h5, ?_, s1, rfl⟩
  have hnew : (X.H.set b (.opn sz (cs ++ ys) fl (ep + 1) .loc))[b]? = some (.opn sz (cs ++ ys) fl (ep + 1) .loc) := by simp [hlt]
  simp only [VR, VR1, CR, CR1, hnew]
  exact ⟨Nat.le_refl _, fun _ _ => ⟨L, hL, 0, by omega, by omega, by simp⟩, _, _, _, rfl⟩

theorem mCall_append {c : Call} {sz bytes : Nat} {x y : Arg} (h : mCall Q σ c (.append sz bytes x y) = true) : ∃ u v t t' e, c.callee = .builtin .append ∧ c.args = #[u, v] ∧ c.argTypes = #[t, t'] ∧ mA σ x u = true ∧ mA σ y v = true ∧
    AppT Q t t' e sz bytes := by
  simp only [mCall] at h
  split at h
  · rename_i u v t t' h1 h2 h3
    simp only [Bool.and_eq_true] at h
    obtain ⟨⟨⟨hx, hy⟩, he⟩, ht'⟩ := h
    obtain ⟨e, hu, he⟩ := elem_ok he
    simp only [Bool.and_eq_true, decide_eq_true_eq] at he
    obtain ⟨⟨⟨hsz, hby⟩, hpos⟩, hz⟩ := he
    have hz' : ∃ i z, Q.info? e = some i ∧ i.zero = some z ∧ z.cells.size = sz := by
      cases hi : Q.info? e with
      | none => simp [hi] at hz
      | some i =>
        simp only [hi, Option.any_some] at hz
        cases hzz : i.zero with
        | none => simp [hzz] at hz
        | some z => simp [hzz] at hz; exact ⟨i, z, rfl, hzz, hz⟩
    refine ⟨u, v, t, t', e, h1, arr2 h2, arr2 h3, hx, hy, ⟨hu, ?_, hsz, hby, hpos, hz'⟩⟩
    split at ht'
    · exact ⟨_, by assumption, fun k => by simp⟩
    · exact ⟨_, by assumption, fun k => by simp⟩
    · simp at ht'
  · simp at h

theorem append_ok (hS : SR Q σ X) (hB : X.B ≤ X.w.heap.size) {a : Act} {regs : T} (hR : RR σ X regs a.tmps) {o : Oper} {sz bytes : Nat} {x y : Arg} (hm : mOp Q σ o (.append sz bytes x y) = true) {v : V} {H' : Heap}
    (h : xOp regs X.H (.append sz bytes x y) = some (v, H')) : OpOK Q σ X v H' (execOp a.eval o) := by
  simp only [mOp] at hm
  split at hm
  · rename_i c ho
    obtain ⟨u, v', t, t', e, h1, h2, h3, hx, hy, ht⟩ := mCall_append hm
    have hx := mA_ok hR hx
    have hy := mA_ok hR hy
    simp only [xOp] at h
    generalize hux : a.eval u = ux at hx
    generalize huy : a.eval v' = uy at hy
    generalize x.ev regs = vx at hx h
    generalize y.ev regs = vy at hy h
    -- what the call comes to
    have fin : ∀ (r : Value) (w' : World), (Builtin.append_ #[t, t'] o.type #[ux, uy]).run Q X.w = .ok r w' → (execOp a.eval o).run Q X.w = .ok (.value r) w' := by
      intro r w' hr
      refine run_builtin ho h1 fun cs => ?_
      simp [builtin, h2, h3, hux, huy, hr]
    unfold appendV at h
    split at h
    · simp at h
    rename_i m ys hadd
    rw [if_neg (by have := ht.pos; omega)] at h
    obtain ⟨vs, hl1, hf1, hyv, hyl⟩ := added_ok hS hy hadd
    obtain ⟨hSd, hxd⟩ := SR.drew hS
    obtain ⟨vs2, _, hf2, hyv2, _⟩ := added_ok hSd (VR.ext' σ hxd hy) hadd
    have hyv2' : A2 (CR σ X) ys vs2 := by
      -- what holds after a draw held before
      have hxb : Ext X.H.length { X with w := X.w.drew } X := Ext.one hSd X.H.length rfl (fun _ _ => Iff.rfl) (fun _ _ _ => rfl) (fun _ _ _ _ => rfl) (fun h => absurd h (Nat.lt_irrefl _))
        (fun _ _ _ => rfl) (fun _ _ => rfl) (fun L h => .inl ⟨L, h, rfl⟩) (Nat.le_refl _) rfl rfl rfl
      exact A2.ext' σ (X := { X with w := X.w.drew }) hxb hyv2
    -- a new block
    have fresh : ∀ {base : Option Addr} {l cap : Nat} {os : List Value} {cs : List C}, ux = .slice base l cap → ¬ l + m ≤ cap → roomOK (l + m) bytes = true →
        (Builtin.firstCells sz l (.slice base l cap)).run Q X.w.drew = .ok os.toArray X.w.drew → A2 (CR σ X) cs os → cs.length = l * sz →
        OpOK Q σ X (.c (.sl X.H.length 0 (l + m) 0 0 sz)) (X.H ++ [.opn sz (cs ++ ys) 0 0 .loc]) (execOp a.eval o) := by
      intro base l cap os cs hu hgt hroom hfo hco hcl
      obtain ⟨nc, rest, w', hnc, hrun, hadds, hrl⟩ := (run_append ht o.type (base := base) (l := l) (cap := cap) hl1 hf1).2 hgt hroom os vs2 hfo hf2
      obtain ⟨X', g1, g2, g3, g4, g5, g6⟩ := newOpn hS hB ht.pos (cs := cs ++ ys) (us := os ++ vs2) (hco.append hyv2') (n := l + m) (nc := nc) (by rw [List.length_append, hcl, hyl, Nat.add_mul]) hrl hnc hadds
      exact ⟨_, X', .inl (by rw [g1]; exact fin _ _ (by rw [hu]; exact hrun)), g2, g3, g5, g4, g6⟩
    -- no new block
    have room : ∀ {base : Option Addr} {l cap : Nat} {X' : Wd}, ux = .slice base l cap → l + m ≤ cap → (stBase base (l * sz) vs).run Q X.w = .ok () X'.w →
        (execOp a.eval o).run Q X.w = .ok (.value (.slice base (l + m) cap)) X'.w := by
      intro base l cap X' hu hle hst
      refine fin _ _ ?_
      rw [hu, (run_append ht o.type (base := base) (l := l) (cap := cap) hl1 hf1).1 hle, hst]; rfl
    split at h
    · -- onto nil
      cases (hx : FCR σ X.F X.w .nils ux)
      split at h
      · rename_i hm0; subst hm0
        simp only [Option.some.injEq, Prod.mk.injEq] at h
        obtain ⟨rfl, rfl⟩ := h
        exact ⟨_, X, .inl (room (X' := X) rfl (by omega) rfl), rfl, hS, FCR.nils, Ext.refl _ _, hB⟩
      · split at h
        · rename_i hroom
          simp only [Option.some.injEq, Prod.mk.injEq] at h
          obtain ⟨rfl, rfl⟩ := h
          have := fresh (base := none) (l := 0) (cap := 0) (os := []) (cs := []) rfl (by omega) (by simpa using hroom) (by simp [Builtin.firstCells]) A2.nil (by simp)
          simpa using this
        · simp at h
    · -- onto an empty slice of capacity 0
      cases (hx : FCR σ X.F X.w .es ux)
      rename_i ad
      split at h
      · rename_i hm0; subst hm0
        simp only [Option.some.injEq, Prod.mk.injEq] at h
        obtain ⟨rfl, rfl⟩ := h
        have hvs : vs = [] := List.eq_nil_of_length_eq_zero (by rw [← hyv.len, hyl]; simp)
        exact ⟨_, X, .inl (room (X' := X) rfl (by omega) (by rw [hvs]; rfl)), rfl, hS, FCR.es _, Ext.refl _ _, hB⟩
      · split at h
        · rename_i hroom
          simp only [Option.some.injEq, Prod.mk.injEq] at h
          obtain ⟨rfl, rfl⟩ := h
          have := fresh (base := some ad) (l := 0) (cap := 0) (os := []) (cs := []) rfl (by omega) (by simpa using hroom) (by simp [Builtin.firstCells, loadCells, loadCellsFrom]) A2.nil (by simp)
          simpa using this
        · simp at h
    · rename_i b off l cap ep s
      have hx0 : CR σ X (.sl b off l cap ep s) ux := hx
      simp only [VR, VR1, CR, CR1] at hx
      split at h
      · -- onto a row of known capacity
        rename_i cs fl hb
        rw [hb] at hx
        obtain ⟨L, hL, hlc, rfl⟩ := hx
        split at h
        · rename_i hle
          split at h
          · rename_i hc
            simp only [Option.some.injEq, Prod.mk.injEq] at h
            obtain ⟨rfl, rfl⟩ := h
            obtain ⟨X', g1, g2, g3, g4, g5, g6, g7⟩ := writeBox hS hb hL hyv hc.1 hc.2
            refine ⟨_, X', .inl (room rfl hle (by simp only [stBase, add_mk]; exact g1)), g2, g3, ?_, g4, by omega⟩
            have hnew : X'.H[b]? = some (.box (over cs (off + l * sz) ys) fl) := by rw [g2]; simp [(List.getElem?_eq_some_iff.1 hb).1]
            simp only [VR, VR1, CR, CR1, hnew]
            exact ⟨L, by rw [g5]; exact hL, hle, rfl⟩
          · simp at h
        · rename_i hgt
          split at h
          · rename_i hc
            simp only [Option.some.injEq, Prod.mk.injEq] at h
            obtain ⟨rfl, rfl⟩ := h
            have hsl : slCells X.H sz (.sl b off l cap ep s) = some ((cs.drop off).take (l * sz)) := by simp [slCells, hb, hc.2]
            have hsn : slLen X.H (.sl b off l cap ep s) = some l := by simp [slLen, hb]
            obtain ⟨os, q1, q2, q3⟩ := slCells_ok hSd (CR.ext' σ hxd hx0) hsn hsl
            have q2' : A2 (CR σ X) ((cs.drop off).take (l * sz)) os := by
              have hxb : Ext X.H.length { X with w := X.w.drew } X := Ext.one hSd X.H.length rfl (fun _ _ => Iff.rfl) (fun _ _ _ => rfl) (fun _ _ _ _ => rfl) (fun h => absurd h (Nat.lt_irrefl _))
                (fun _ _ _ => rfl) (fun _ _ => rfl) (fun L h => .inl ⟨L, h, rfl⟩) (Nat.le_refl _) rfl rfl rfl
              exact A2.ext' σ (X := { X with w := X.w.drew }) hxb q2
            exact fresh rfl hgt hc.1 q1 q2' q3
          · simp at h
      · -- onto a growable block
        rename_i s' cs fl e' st hb
        rw [hb] at hx
        split at h
        · rename_i hc
          obtain ⟨rfl, rfl, rfl⟩ := hc
          have hx2 := hx.2.1 rfl rfl
          split at h
          · -- nothing is appended
            rename_i hm0; subst hm0
            simp only [Option.some.injEq, Prod.mk.injEq] at h
            obtain ⟨rfl, rfl⟩ := h
            have hvs : vs = [] := List.eq_nil_of_length_eq_zero (by rw [← hyv.len, hyl]; simp)
            obtain ⟨base, n, cp, hux2⟩ := hx.2.2
            have hln : n = l ∧ l ≤ cp := by
              cases st with
              | loc => obtain ⟨L, _, k, _, hk, h8⟩ := hx2; rw [hux2] at h8; simp only [Value.slice.injEq] at h8; omega
              | nil => obtain ⟨_, rfl, h8⟩ := hx2; rw [hux2] at h8; simp only [Value.slice.injEq] at h8; omega
              | es => obtain ⟨_, rfl, _, h8⟩ := hx2; rw [hux2] at h8; simp only [Value.slice.injEq] at h8; omega
            obtain ⟨rfl, hcp⟩ := hln
            refine ⟨.slice base (n + 0) cp, X, .inl (room (X' := X) hux2 (by omega) (by rw [hvs]; cases base <;> rfl)), rfl, hS, ?_, Ext.refl _ _, hB⟩
            rw [Nat.add_zero, ← hux2]; exact hx0
          · rename_i hm0
            split at h
            · -- at the tip
              rename_i hc
              obtain ⟨rfl, hlen, hflc⟩ := hc
              split at h
              · rename_i hroom
                simp only [Option.some.injEq, Prod.mk.injEq] at h
                obtain ⟨rfl, rfl⟩ := h
                have hn : cs.length + ys.length = (l + m) * s := by rw [hyl, ← hlen, Nat.add_mul]
                cases st with
                | loc =>
                  obtain ⟨L, hL, k, hk0, hk, rfl⟩ := hx2
                  have hk0' : k = 0 := by
                    rcases Nat.mul_eq_zero.1 hk0.symm with h8 | h8
                    · exact h8
                    · have := ht.pos; omega
                  subst hk0'
                  rw [Nat.sub_zero] at *
                  by_cases hle : l + m ≤ L.cap
                  · obtain ⟨X', g1, g2, g3, g4, g5, g6, g7⟩ := tipOpn hS hb hL hyv hflc hn hle
                    exact ⟨_, X', .inl (room rfl hle (by simp only [stBase, add_mk]; rw [hlen, Nat.zero_add]; exact g1)), g2, g3, g5, g4, by omega⟩
                  · have hsl : slCells X.H s (.sl b 0 l cap ep s) = some ((cs.drop 0).take (l * s)) := by simp [slCells, hb, hlen]
                    have hsn : slLen X.H (.sl b 0 l cap ep s) = some l := by simp [slLen, hb]
                    obtain ⟨os, q1, q2, q3⟩ := slCells_ok hSd (CR.ext' σ hxd hx0) hsn hsl
                    have q2' : A2 (CR σ X) cs os := by
                      have hxb : Ext X.H.length { X with w := X.w.drew } X := Ext.one hSd X.H.length rfl (fun _ _ => Iff.rfl) (fun _ _ _ => rfl) (fun _ _ _ _ => rfl) (fun h => absurd h (Nat.lt_irrefl _))
                        (fun _ _ _ => rfl) (fun _ _ => rfl) (fun L h => .inl ⟨L, h, rfl⟩) (Nat.le_refl _) rfl rfl rfl
                      have := A2.ext' σ (X := { X with w := X.w.drew }) hxb q2
                      rwa [List.drop_zero, hlen, List.take_length] at this
                    obtain ⟨nc, rest, w', hnc, hrun, hadds, hrl⟩ := (run_append ht o.type (base := some ⟨L.c, 0, none⟩) (l := l) (cap := L.cap) hl1 hf1).2 hle hroom os vs2 q1 hf2
                    obtain ⟨X', g1, g2, g3, g4, g5, g6⟩ := growOpn hS hB hb q2' hyv2' ht.pos hn hrl hnc hadds
                    exact ⟨_, X', .inl (by rw [g1]; exact fin _ _ (by simpa using hrun)), g2, g3, g5, g4, g6⟩
                | nil =>
                  obtain ⟨_, rfl, rfl⟩ := hx2
                  have hcs : cs = [] := List.eq_nil_of_length_eq_zero (by simpa using hlen.symm)
                  subst hcs
                  obtain ⟨nc, rest, w', hnc, hrun, hadds, hrl⟩ := (run_append ht o.type (base := none) (l := 0) (cap := 0) hl1 hf1).2 (by omega) hroom [] vs2 (by simp [Builtin.firstCells]) hf2
                  obtain ⟨X', g1, g2, g3, g4, g5, g6⟩ := growOpn hS hB hb (us := []) A2.nil hyv2' ht.pos hn hrl hnc hadds
                  exact ⟨_, X', .inl (by rw [g1]; exact fin _ _ hrun), g2, g3, g5, g4, g6⟩
                | es =>
                  obtain ⟨_, rfl, ad, rfl⟩ := hx2
                  have hcs : cs = [] := List.eq_nil_of_length_eq_zero (by simpa using hlen.symm)
                  subst hcs
                  obtain ⟨nc, rest, w', hnc, hrun, hadds, hrl⟩ := (run_append ht o.type (base := some ad) (l := 0) (cap := 0) hl1 hf1).2 (by omega) hroom [] vs2 (by simp [Builtin.firstCells, loadCells, loadCellsFrom]) hf2
                  obtain ⟨X', g1, g2, g3, g4, g5, g6⟩ := growOpn hS hB hb (us := []) A2.nil hyv2' ht.pos hn hrl hnc hadds
                  exact ⟨_, X', .inl (by rw [g1]; exact fin _ _ hrun), g2, g3, g5, g4, g6⟩
              · simp at h
            · split at h
              · -- within what the block holds
                rename_i hc
                obtain ⟨rfl, hflo, hin⟩ := hc
                simp only [Option.some.injEq, Prod.mk.injEq] at h
                obtain ⟨rfl, rfl⟩ := h
                obtain ⟨L, hL, k, rfl, hk, rfl⟩ := hx2
                obtain ⟨_, _, blk, hb', hbr⟩ := hS.br b L hL
                rw [hb] at hb'; simp only [Option.some.injEq] at hb'; subst hb'
                obtain ⟨_, us, rest, hr, h22, h6, h7, h8, h3'⟩ := hbr
                have hle : l + m ≤ L.cap - k := by
                  have e1 : (k + (l + m)) * s ≤ L.cap * s := by
                    rw [Nat.add_mul, Nat.add_mul]
                    have := h22.len
                    simp only [List.length_append] at h6
                    omega
                  have := Nat.le_of_mul_le_mul_right e1 h7
                  omega
                obtain ⟨X', g1, g2, g3, g4, g5, g6, g7⟩ := writeOpn hS hb hL hyv hflo hin
                refine ⟨_, X', .inl (room rfl hle (by simp only [stBase, add_mk]; exact g1)), g2, g3, ?_, g4, by omega⟩
                have hnew : X'.H[b]? = some (.opn s (over cs (k * s + l * s) ys) fl ep .loc) := by rw [g2]; simp [(List.getElem?_eq_some_iff.1 hb).1]
                simp only [VR, VR1, CR, CR1, hnew]
                exact ⟨Nat.le_refl _, fun _ _ => ⟨L, by rw [g5]; exact hL, k, rfl, by omega, rfl⟩, _, _, _, rfl⟩
              · simp at h
        · simp at h
      · simp at h
    · simp at h
  · simp at hm

end Km
end

section
namespace Km
open Go

variable {Q : Program} {σ : Nat → FuncId} {X : Wd}

theorem mCall_appz {c : Call} {sz bytes : Nat} {zs : List FC} {x y : Arg} (h : mCall Q σ c (.appz sz bytes zs x y) = true) : ∃ u v t t' e k, c.callee = .builtin .append ∧ c.args = #[u, v] ∧ c.argTypes = #[t, t'] ∧ mA σ x u = true ∧ mA σ y v = true ∧
    Q.underlying t = some (.slice e) ∧ tSize Q e sz = true ∧ tBytes Q e bytes = true ∧ 0 < sz ∧ tZero Q e zs = true ∧ Q.underlying t' = some (.int k) := by
  simp only [mCall] at h
  split at h
  · rename_i u v t t' h1 h2 h3
    simp only [Bool.and_eq_true] at h
    obtain ⟨⟨⟨hx, hy⟩, he⟩, ht'⟩ := h
    obtain ⟨e, hu, he⟩ := elem_ok he
    simp only [Bool.and_eq_true, decide_eq_true_eq] at he
    obtain ⟨⟨⟨hsz, hby⟩, hpos⟩, hz⟩ := he
    split at ht'
    · rename_i k hk
      exact ⟨u, v, t, t', e, k, h1, arr2 h2, arr2 h3, hx, hy, hu, hsz, hby, hpos, hz, hk⟩
    · simp at ht'
  · simp at h

theorem wrap_nat {n : Nat} (h : n < 2 ^ 48) : IntKind.i64.wrap (n : Int) = n := by
  simp only [IntKind.wrap, IntKind.bits, IntKind.signed]
  have e1 : (2 ^ 64 : Int) = 18446744073709551616 := by decide
  have e2 : (2 ^ (64 - 1) : Int) = 9223372036854775808 := by decide
  have e3 : (2 : Nat) ^ 48 = 281474976710656 := by decide
  simp only [e1, e2, Bool.true_and, decide_eq_true_eq]
  split <;> omega

theorem run_appz {t t' e : TypeId} {sz bytes : Nat} {k k' : IntKind} (hu : Q.underlying t = some (.slice e)) (hu' : Q.underlying t' = some (.int k)) (hsz : tSize Q e sz = true) (hby : tBytes Q e bytes = true) (hpos : 0 < sz)
    {z : Value} {us : List Value} {i : TypeInfo} (hi : Q.info? e = some i) (hz : i.zero = some z) (hzc : z.cells = us.toArray) (hul : us.length = sz) (ty : TypeId) {base : Option Addr} {n : Nat} {w : World} :
    (n = 0 → (Builtin.append_ #[t, t'] ty #[.slice base 0 0, .int k' (n : Int)]).run Q w = .ok (.slice base 0 0) w) ∧
    (n ≠ 0 → roomOK n bytes = true → ∃ nc rest w', n ≤ nc ∧ (Builtin.append_ #[t, t'] ty #[.slice base 0 0, .int k' (n : Int)]).run Q w = .ok (.slice (some ⟨w.heap.size, 0, none⟩) n nc) w' ∧
      Adds w w' (.cells (repl n us ++ rest).toArray e) ∧ rest.length = (nc - n) * sz) := by
  obtain ⟨inf, hb1, hb2⟩ := run_by hby w
  have hinf : inf = i := by simp [typeInfo, hi] at hb1; exact hb1.symm
  subst hinf
  have hti : ∀ w', (typeInfo e).run Q w' = .ok inf w' := fun w' => by simp [typeInfo, hi]
  have hzv : ∀ w', (zeroValue e).run Q w' = .ok z w' := fun w' => by simp [zeroValue, typeInfo, hi, hz]
  have hai : ∀ (q : Int) w', (asInt (.int k' q)).run Q w' = .ok q w' := fun q w' => by simp [asInt, asIntOf]
  constructor
  · rintro rfl
    have hw0 : IntKind.i64.wrap 0 = 0 := by decide
    simp only [Builtin.append_, List.getElem?_toArray]
    simp [run_und hu, run_und hu', run_sz hsz, hti, hai, hw0]
    cases base <;> simp [storeCells]
  · intro hn hroom
    have hroom0 := hroom
    unfold roomOK at hroom
    simp only [Bool.and_eq_true, decide_eq_true_eq] at hroom
    have hwr := wrap_nat hroom.2
    have hnb : ¬ (Builtin.nextslicecap n 0 * inf.bytes > 2 ^ 48) := by
      rw [hb2]
      have := nextcap_le (need := n) (cap := 0) (by omega)
      have := Nat.mul_le_mul_right bytes this
      omega
    let nc := (Question.appendCap n 0 e).cut (w.tape w.drawn (.appendCap n 0 e))
    have hnc : n ≤ nc := by simp [nc, Question.cut]
    have hch : (choose (.appendCap n 0 e)).run Q w = .ok nc w.drew := by
      simp [choose, Sem.run, Question.forced, nc]
    have hzr : ∀ m, Builtin.zeroCells z.cells m = (repl m us).toArray := fun m => by
      have := zeros_eq us m (by omega)
      simpa [Builtin.zeroCells, hzc] using this
    have hmax : ¬ ((n : Int) > IntKind.i64.max) := by
      have : IntKind.i64.max = 9223372036854775807 := by decide
      have e3 : (2 : Nat) ^ 48 = 281474976710656 := by decide
      rw [this]; omega
    have hl0 : ¬ ((n : Int) < 0) := by omega
    have hlb : ¬ ((n : Int) * (inf.bytes : Int) > 2 ^ 48) := by
      rw [hb2]
      have h1 : n * bytes ≤ 2 ^ 48 := Nat.le_trans (Nat.mul_le_mul_right bytes (by omega : n ≤ 2 * n + 768)) hroom.1
      have h2 : ((n * bytes : Nat) : Int) ≤ 2 ^ 48 := by
        have e1 : ((2 ^ 48 : Nat) : Int) = 2 ^ 48 := by decide
        rw [← e1]; exact Int.ofNat_le.2 h1
      rw [Int.natCast_mul] at h2
      omega
    have hfirst : (Builtin.firstCells sz 0 (.slice base 0 0)).run Q w.drew = .ok #[] w.drew := by
      cases base <;> simp [Builtin.firstCells, loadCells, loadCellsFrom]
    have hns : ¬ (n * sz = 0) := by
      intro h
      rcases Nat.mul_eq_zero.1 h with h | h <;> omega
    refine ⟨nc, repl (nc - n) us, w.drew.alloc (.cells (repl n us ++ repl (nc - n) us).toArray e), hnc, ?_, ⟨rfl, rfl, rfl, rfl⟩, by rw [repl_len, hul]⟩
    have hzn : ¬ (n ≤ 0) := by omega
    have hint : ((n : Int)).toNat = n := by simp
    simp only [Builtin.append_, Sem.run_bind, run_und hu, run_und hu', run_sz hsz, Result.andThen_ok, Sem.run_pure, Bool.false_eq_true, if_false, Sem.run_ite, hti, false_and, hnb, hch, run_askRoom,
      Bool.not_true, if_true, hzv, hzr, newRow, run_newObj, List.getElem?_toArray, List.getElem?_cons_zero, List.getElem?_cons_succ, hai, hwr, hl0, hlb, hint, Nat.zero_add, hzn, hmax, hns, hfirst, true_or, and_true, Bool.true_eq]
    have e1 : #[] ++ (repl n us).toArray ++ (repl (nc - n) us).toArray = (repl n us ++ repl (nc - n) us).toArray := by simp
    first
      | (rw [e1]; rfl)
      | (simp [e1]; rfl)

theorem appz_ok (hS : SR Q σ X) (hB : X.B ≤ X.w.heap.size) {a : Act} {regs : T} (hR : RR σ X regs a.tmps) {o : Oper} {sz bytes : Nat} {zs : List FC} {x y : Arg} (hm : mOp Q σ o (.appz sz bytes zs x y) = true) {v : V} {H' : Heap}
    (h : xOp regs X.H (.appz sz bytes zs x y) = some (v, H')) : OpOK Q σ X v H' (execOp a.eval o) := by
  simp only [mOp] at hm
  split at hm
  · rename_i c ho
    obtain ⟨u, v', t, t', e, k, h1, h2, h3, hx, hy, hu, hsz, hby, hpos, hz, hk⟩ := mCall_appz hm
    have hx := mA_ok hR hx
    have hy := mA_ok hR hy
    simp only [xOp] at h
    generalize hux : a.eval u = ux at hx
    generalize huy : a.eval v' = uy at hy
    generalize x.ev regs = vx at hx h
    generalize y.ev regs = vy at hy h
    have fin : ∀ (r : Value) (w' : World), (Builtin.append_ #[t, t'] o.type #[ux, uy]).run Q X.w = .ok r w' → (execOp a.eval o).run Q X.w = .ok (.value r) w' := by
      intro r w' hr
      refine run_builtin ho h1 fun cs => ?_
      simp [builtin, h2, h3, hux, huy, hr]
    unfold appzV at h
    split at h
    · rename_i n hn
      obtain ⟨k', hk'⟩ := intV_ok hy hn
      split at h
      · rename_i hc
        obtain ⟨z, us, hz1, hz2, hz3, i0, hi0, hi1⟩ := tZero_ok (σ := σ) (X := X) hz X.w
        have hul : us.length = sz := by have := hz3.len; simp at this; omega
        obtain ⟨m, rfl⟩ : ∃ m : Nat, n = m := ⟨n.toNat, by omega⟩
        have fresh : ∀ base, ux = .slice base 0 0 → (v, H') = (.c (.sl X.H.length 0 m 0 0 sz), X.H ++ [.opn sz ((repl m zs).map .f) 0 0 .loc]) → m ≠ 0 → roomOK m bytes = true → OpOK Q σ X v H' (execOp a.eval o) := by
          intro base hb he hm0 hroom
          cases he
          obtain ⟨nc, rest, w', hnc, hrun, hadds, hrl⟩ := (run_appz (k' := k') hu hk hsz hby hpos hi0 hi1 hz2 hul o.type (base := base) (n := m)).2 hm0 hroom
          obtain ⟨X', g1, g2, g3, g4, g5, g6⟩ := newOpn hS hB hpos (cs := (repl m zs).map .f) (us := repl m us) (zeros_ok hz3 m) (n := m) (nc := nc) (by rw [List.length_map, repl_len, hc.2]) hrl hnc hadds
          exact ⟨_, X', .inl (by rw [g1]; exact fin _ _ (by rw [hb, hk']; exact hrun)), g2, g3, g5, g4, g6⟩
        split at h
        · cases (hx : FCR σ X.F X.w .nils ux)
          simp only [Int.toNat_natCast] at h
          split at h
          · rename_i hm0
            simp only [Option.some.injEq, Prod.mk.injEq] at h
            obtain ⟨rfl, rfl⟩ := h
            exact ⟨_, X, .inl (fin _ _ (by rw [hk']; exact (run_appz (k' := k') hu hk hsz hby hpos hi0 hi1 hz2 hul o.type (base := none) (n := m)).1 hm0)), rfl, hS, FCR.nils, Ext.refl _ _, hB⟩
          · rename_i hm0
            split at h
            · rename_i hroom
              simp only [Option.some.injEq] at h
              exact fresh none rfl h.symm hm0 hroom
            · simp at h
        · cases (hx : FCR σ X.F X.w .es ux)
          rename_i ad
          simp only [Int.toNat_natCast] at h
          split at h
          · rename_i hm0
            simp only [Option.some.injEq, Prod.mk.injEq] at h
            obtain ⟨rfl, rfl⟩ := h
            exact ⟨_, X, .inl (fin _ _ (by rw [hk']; exact (run_appz (k' := k') hu hk hsz hby hpos hi0 hi1 hz2 hul o.type (base := some ad) (n := m)).1 hm0)), rfl, hS, FCR.es _, Ext.refl _ _, hB⟩
          · rename_i hm0
            split at h
            · rename_i hroom
              simp only [Option.some.injEq] at h
              exact fresh (some ad) rfl h.symm hm0 hroom
            · simp at h
        · simp at h
      · simp at h
    · simp at h
  · simp at hm

end Km
end

section
namespace Km
open Go

variable {Q : Program} {σ : Nat → FuncId} {X : Wd}

theorem pre_ok (hS : SR Q σ X) (hB : X.B ≤ X.w.heap.size) {a : Act} {regs : T} {o : Oper} {st : Os} {sz : Nat} (hm : mOp Q σ o (.pre st sz) = true) {v : V} {H' : Heap}
    (h : xOp regs X.H (.pre st sz) = some (v, H')) : OpOK Q σ X v H' (execOp a.eval o) := by
  cases st with
  | nil =>
    simp only [xOp] at h
    split at h
    · simp at h
    · simp only [Option.some.injEq, Prod.mk.injEq] at h
      obtain ⟨rfl, rfl⟩ := h
      obtain ⟨h1, h2⟩ := SR.grow hS (.opn sz [] 0 0 .nil)
      have hv : VR σ { X with H := X.H ++ [.opn sz [] 0 0 .nil] } (.c (.sl X.H.length 0 0 0 0 sz)) (.slice none 0 0) := by
        have hnew : (X.H ++ [Blk.opn sz [] 0 0 .nil])[X.H.length]? = some (.opn sz [] 0 0 .nil) := by simp
        simp only [VR, VR1, CR, CR1, hnew]
        exact ⟨Nat.le_refl _, fun _ _ => by simp, _, _, _, rfl⟩
      simp only [mOp] at hm
      split at hm
      · rename_i ho; exact ⟨.slice none 0 0, _, .inl (by simp [execOp, ho, Act.eval]), rfl, h1, hv, h2, hB⟩
      · rename_i ho; exact ⟨.slice none 0 0, _, .inl (by simp [execOp, ho, Act.eval]), rfl, h1, hv, h2, hB⟩
      · simp at hm
  | _ => simp [mOp] at hm

theorem mkmap_ok (hS : SR Q σ X) (hB : X.B ≤ X.w.heap.size) {a : Act} {o : Oper} (hm : mOp Q σ o .mkmap = true) : OpOK Q σ X (.c (.mp X.H.length)) (X.H ++ [.map []]) (execOp a.eval o) := by
  simp only [mOp] at hm
  split at hm
  · rename_i t ho
    obtain ⟨X', h1, h2, h3, h4, h5, h6⟩ := SR.new hS hB (.map []) (Adds.alloc X.w (.map #[] 0)) 0 fun X' hx hw hF _ => ⟨[], by rw [hw]; exact (Adds.alloc _ _).new, A2.nil, by simp⟩
    exact ⟨.map (some X.w.heap.size), X', .inl (by rw [h1]; simp [execOp, ho, Instr.makeMap]), h2, h3, ⟨_, h5, ⟨[], by rw [h2]; simp⟩, rfl⟩, h4, h6⟩
  · simp at hm

theorem range_ok (hS : SR Q σ X) (hB : X.B ≤ X.w.heap.size) {a : Act} {regs : T} (hR : RR σ X regs a.tmps) {o : Oper} {x : Arg} (hm : mOp Q σ o (.range x) = true) {v : V} {H' : Heap}
    (h : xOp regs X.H (.range x) = some (v, H')) : OpOK Q σ X v H' (execOp a.eval o) := by
  simp only [mOp] at hm
  split at hm
  · rename_i t y ho
    simp only [Bool.and_eq_true] at hm
    obtain ⟨hx, ht⟩ := hm
    have hx := mA_ok hR hx
    simp only [xOp] at h
    split at h
    · rename_i s hs
      rw [hs] at hx; have hx := VR.str hx
      simp only [Option.some.injEq, Prod.mk.injEq] at h
      obtain ⟨rfl, rfl⟩ := h
      split at ht
      · rename_i hu
        obtain ⟨X', h1, h2, h3, h4, h5, h6⟩ := SR.new hS hB (.it s 0) (Adds.alloc X.w (.stringIter s 0)) 0 fun X' hx hw hF _ => by
          show X'.w.heap[X.w.heap.size]? = _
          rw [hw]; exact (Adds.alloc _ _).new
        exact ⟨.pointer (some ⟨X.w.heap.size, 0, none⟩), X', .inl (by rw [h1]; simp [execOp, ho, Instr.range, run_und hu, hx]), h2, h3, ⟨_, h5, ⟨s, 0, by rw [h2]; simp⟩, rfl⟩, h4, h6⟩
      · simp at ht
    · simp at h
  · simp at hm

/-- A block that is no row turns. -/
theorem SR.turnObj (hS : SR Q σ X) {b : Nat} {blk blk' : Blk} {L : Loc} {o o' : Obj} (hb : X.H[b]? = some blk) (hL : X.rho b = some L) (ho : X.w.heap[L.c]? = some o) (hoc : ∀ c e f, o ≠ .cells c e f) (hoc' : ∀ c e f, o' ≠ .cells c e f)
    (hkeep : KeepB X { X with H := X.H.set b blk', w := { X.w with heap := X.w.heap.setIfInBounds L.c o' } } b)
    (hbr : ∀ X', Ext X.H.length X X' → X'.w.heap[L.c]? = some o' → X'.F = X.F → X'.rho = X.rho → X'.H = X.H.set b blk' → BR Q σ X' blk' L) :
    SR Q σ { X with H := X.H.set b blk', w := { X.w with heap := X.w.heap.setIfInBounds L.c o' } } ∧ Ext X.H.length X { X with H := X.H.set b blk', w := { X.w with heap := X.w.heap.setIfInBounds L.c o' } } := by
  have hlt : L.c < X.w.heap.size := (hS.br b L hL).2.1
  refine SR.turn hS hb hL (by simp) (fun k hk => by simp [Array.getElem?_setIfInBounds_ne (Ne.symm hk)]) (fun i _ => ?_) rfl rfl rfl hkeep (fun hx => hbr _ hx (by simp [hlt]) rfl rfl rfl)
  have e1 : ({ X.w with heap := X.w.heap.setIfInBounds L.c o' } : World).cell? ⟨L.c, i, none⟩ = none := by
    simp only [World.cell?]
    rw [show (X.w.heap.setIfInBounds L.c o')[L.c]? = some o' by simp [hlt]]
    cases o' <;> simp at hoc' ⊢
  have e2 : X.w.cell? ⟨L.c, i, none⟩ = none := by
    simp only [World.cell?, ho]
    cases o <;> simp at hoc ⊢
  rw [e1, e2]

theorem next_ok (hS : SR Q σ X) (hB : X.B ≤ X.w.heap.size) {a : Act} {regs : T} (hR : RR σ X regs a.tmps) {o : Oper} {x : Arg} (hm : mOp Q σ o (.next x) = true) {v : V} {H' : Heap}
    (h : xOp regs X.H (.next x) = some (v, H')) : OpOK Q σ X v H' (execOp a.eval o) := by
  simp only [mOp] at hm
  split at hm
  · rename_i y ho
    have hx := mA_ok hR hm
    simp only [xOp] at h
    unfold nextV at h
    split at h
    · rename_i b hv
      rw [hv] at hx
      obtain ⟨L, hL, ⟨s0, p0, hb0⟩, hu⟩ := hx
      split at h
      · rename_i s pos hb
        obtain ⟨_, _, blk, hb', hbr⟩ := hS.br b L hL
        rw [hb] at hb'; simp only [Option.some.injEq] at hb'; subst hb'
        have hobj : X.w.heap[L.c]? = some (.stringIter s pos) := hbr
        split at h
        · rename_i hp
          simp only [Option.some.injEq, Prod.mk.injEq] at h
          obtain ⟨rfl, rfl⟩ := h
          obtain ⟨g1, g2⟩ := SR.turnObj (o' := .stringIter s (pos + (Utf8.decode s pos).2)) (blk' := .it s (pos + (Utf8.decode s pos).2)) hS hb hL hobj (by simp) (by simp)
            (fun blk hblk => ⟨.it s (pos + (Utf8.decode s pos).2), by simp [(List.getElem?_eq_some_iff.1 hb).1], by rw [hb] at hblk; simp only [Option.some.injEq] at hblk; subst hblk; exact fun L h => h⟩)
            (fun X' _ h1 _ _ _ => h1)
          refine ⟨.tuple #[.bool true, .int .i64 pos, .int .i32 (Utf8.decode s pos).1], _, .inl ?_, rfl, g1, ⟨[.bool true, .int .i64 pos, .int .i32 (Utf8.decode s pos).1], rfl, ?_⟩, g2, by simpa using hB⟩
          · simp only [execOp, ho]
            refine ex_v ?_
            simp [Instr.next, hu, getObj, setObj, Sem.run, hobj, hp, goInt]
          · exact A2.cons (FCR.bool _) (A2.cons (FCR.int _ _) (A2.cons (FCR.int _ _) A2.nil))
        · rename_i hp
          simp only [Option.some.injEq, Prod.mk.injEq] at h
          obtain ⟨rfl, rfl⟩ := h
          refine ⟨.tuple #[.bool false], X, .inl ?_, rfl, hS, ⟨[.bool false], rfl, A2.cons (FCR.bool _) A2.nil⟩, Ext.refl _ _, hB⟩
          simp only [execOp, ho]
          refine ex_v ?_
          simp [Instr.next, hu, getObj, Sem.run, hobj, hp]
      · simp at h
    · simp at h
  · simp at hm

theorem mpPut_ok {ck : CK} {d : TypeDesc} (hd : (ck = .int ∧ ∃ j, d = .int j) ∨ (ck = .str ∧ d = .string) ∨ (ck = .bool ∧ d = .bool)) {F : Nat → Nat → Prop} {w : World} {k : FC} {v : C} {kv : Value} (hk : FCR σ F w k kv) :
    ∀ {R : C → Value → Prop} {es es' : List (FC × C)} {arr : List MapEntry}, A2 (fun e m => FCR σ F w e.1 m.key ∧ R e.2 m.val) es arr → ∀ (i : Nat), mpPut ck k v es = some es' →
    (Instr.findNow d kv arr i = some none ∧ es' = es ++ [(k, v)]) ∨ ∃ (j : Nat) (u : Value) (m : MapEntry), Instr.findNow d kv arr i = some (some (i + j, u)) ∧ arr[j]? = some m ∧ Instr.sameNow d kv m.key = some true ∧ es' = es.set j (k, v)
  | _, [], es', [], _, i, h => by
    simp only [mpPut, Option.some.injEq] at h; subst h
    exact .inl ⟨rfl, rfl⟩
  | _, [], _, _ :: _, hq, _, _ => by have := hq.len; simp at this
  | _, _ :: _, _, [], hq, _, _ => by have := hq.len; simp at this
  | _, e :: es, es', m :: arr, hq, i, h => by
    obtain ⟨⟨h1, h2⟩, hq'⟩ := hq.of_cons
    simp only [mpPut] at h
    split at h
    · rename_i he
      simp only [Option.some.injEq] at h; subst h
      have := eqK_ok hd hk h1 he
      exact .inr ⟨0, m.val, m, by simp [Instr.findNow, this], rfl, this, rfl⟩
    · rename_i he
      simp only [Option.map_eq_some_iff] at h
      obtain ⟨es2, h3, rfl⟩ := h
      have := eqK_ok hd hk h1 he
      rcases mpPut_ok hd hk hq' (i + 1) h3 with ⟨h4, rfl⟩ | ⟨j, u, m', h4, h5, h6, rfl⟩
      · exact .inl ⟨by simp [Instr.findNow, this, h4], rfl⟩
      · exact .inr ⟨j + 1, u, m', by simp [Instr.findNow, this, h4]; omega, by simpa using h5, h6, rfl⟩
    · simp at h

theorem sameBits_of {d : TypeDesc} {u v : Value} (h : Instr.sameNow d u v = some true) (n : Nat) : Instr.sameBits n v u = true := by
  unfold Instr.sameNow at h
  split at h
  · split at h
    · rename_i hk; subst hk
      simp only [Option.some.injEq, beq_iff_eq] at h; subst h
      simp [Instr.sameBits]
    · simp at h
  · simp only [Option.some.injEq, beq_toListBytes, beq_iff_eq] at h; simp [Instr.sameBits, beq_toListBytes, h]
  · simp only [Option.some.injEq, beq_iff_eq] at h; subst h; simp [Instr.sameBits]
  · simp at h

theorem mapup_ok (hS : SR Q σ X) (hB : X.B ≤ X.w.heap.size) {a : Act} {regs : T} (hR : RR σ X regs a.tmps) {o : Oper} {ck : CK} {x y z : Arg} (hm : mOp Q σ o (.mapup ck x y z) = true) {v : V} {H' : Heap}
    (h : xOp regs X.H (.mapup ck x y z) = some (v, H')) : OpOK Q σ X v H' (execOp a.eval o) := by
  simp only [mOp] at hm
  split at hm
  · rename_i t x' y' z' ho
    simp only [Bool.and_eq_true] at hm
    obtain ⟨⟨⟨hx, hy⟩, hz⟩, ht⟩ := hm
    have hx := mA_ok hR hx
    have hy := mA_ok hR hy
    have hz := mA_ok hR hz
    split at ht
    · rename_i kt e hu
      simp only [xOp] at h
      split at h
      · rename_i b k vv hb1 hk1 hv1
        rw [hb1] at hx; rw [hk1] at hy; rw [hv1] at hz
        obtain ⟨L, hL, _, hux⟩ := hx
        split at h
        · rename_i es hb
          split at h
          · rename_i hik
            simp only [Option.map_eq_some_iff, Prod.mk.injEq] at h
            obtain ⟨es', hp, rfl, rfl⟩ := h
            obtain ⟨_, _, blk, hb', hbr⟩ := hS.br b L hL
            rw [hb] at hb'; simp only [Option.some.injEq] at hb'; subst hb'
            obtain ⟨arr, hobj, h2, hborn⟩ := hbr
            have go : ∀ d, Q.underlying kt = some d → ((ck = .int ∧ ∃ j, d = .int j) ∨ (ck = .str ∧ d = .string) ∨ (ck = .bool ∧ d = .bool)) → OpOK Q σ X .top (X.H.set b (.map es')) (execOp a.eval o) := by
              intro d hku hd
              have fin : ∀ (arr' : List MapEntry), (Instr.mapUpdate t (a.eval x') (a.eval y') (a.eval z')).run Q X.w = .ok () { X.w with heap := X.w.heap.setIfInBounds L.c (.map arr'.toArray arr'.length) } →
                  A2 (fun (e : FC × C) (m : MapEntry) => FCR σ X.F X.w e.1 m.key ∧ CR σ X e.2 m.val) es' arr' → (∀ (i : Nat) m, arr'[i]? = some m → m.born = i) → OpOK Q σ X .top (X.H.set b (.map es')) (execOp a.eval o) := by
                intro arr' hrun hA hbn
                obtain ⟨g1, g2⟩ := SR.turnObj (o' := .map arr'.toArray arr'.length) (blk' := .map es') hS hb hL hobj (by simp) (by simp)
                  (fun blk hblk => ⟨.map es', by simp [(List.getElem?_eq_some_iff.1 hb).1], by rw [hb] at hblk; simp only [Option.some.injEq] at hblk; subst hblk; exact fun L h => h⟩)
                  (fun X' hx' h1 hF _ _ => ⟨arr', h1, hA.imp fun e m h => ⟨FCR.mono hx'.F hx'.fw h.1, CR.ext' σ hx' h.2⟩, hbn⟩)
                exact ⟨undef, _, .inr ⟨by simp [execOp, ho, hrun], rfl⟩, rfl, g1, trivial, g2, by simpa using hB⟩
              rcases mpPut_ok hd hy h2 0 hp with ⟨h4, rfl⟩ | ⟨j, u, m, h4, h5, h6, rfl⟩
              · have hcons : A2 (fun (e : FC × C) (m : MapEntry) => FCR σ X.F X.w e.1 m.key ∧ CR σ X e.2 m.val) [(k, vv)] [({ key := a.eval y', val := a.eval z', born := arr.length } : MapEntry)] := A2.cons (And.intro hy hz) A2.nil
                refine fin (arr ++ [{ key := a.eval y', val := a.eval z', born := arr.length }]) ?_ (h2.append hcons) ?_
                rotate_left
                · intro i m hm
                  by_cases hi : i < arr.length
                  · rw [List.getElem?_append_left hi] at hm; exact hborn i m hm
                  · rw [List.getElem?_append_right (by omega)] at hm
                    have hi2 : i - arr.length = 0 := by
                      have := (List.getElem?_eq_some_iff.1 hm).1; simp at this; omega
                    rw [hi2] at hm
                    simp only [List.getElem?_cons_zero, Option.some.injEq] at hm; subst hm; simp only; omega
                simp [Instr.mapUpdate, run_und hu, hux, getObj, setObj, Sem.run, hobj, checkKey_ok ht hy hik, Instr.findKey, run_und hku, h4]
              · rw [Nat.zero_add] at h4
                refine fin (arr.set j { m with key := a.eval y', val := a.eval z' }) ?_ ?_ ?_
                · have hst : (Instr.keyThatStays m.key (a.eval y')).run Q X.w = .ok (a.eval y') X.w := by
                    simp [Instr.keyThatStays, sameBits_of h6 10000]
                  have hmod : arr.modify j (fun e => { e with key := a.eval y', val := a.eval z' }) = arr.set j { m with key := a.eval y', val := a.eval z' } := by
                    apply List.ext_getElem?
                    intro i
                    simp only [List.getElem?_modify, List.getElem?_set]
                    by_cases hij : j = i
                    · subst hij
                      have hlt := (List.getElem?_eq_some_iff.1 h5).1
                      have hm2 := (List.getElem?_eq_some_iff.1 h5).2
                      simp [h5, hlt, hm2]
                    · simp [hij]
                  simp [Instr.mapUpdate, run_und hu, hux, getObj, setObj, Sem.run, hobj, checkKey_ok ht hy hik, Instr.findKey, run_und hku, h4, h5, hst, hmod]
                · refine ⟨by simpa using h2.len, fun i e' m' he hm' => ?_⟩
                  rw [List.getElem?_set] at he hm'
                  split at he
                  · rename_i hij
                    subst hij
                    simp only [if_true] at hm'
                    have hlt := (List.getElem?_eq_some_iff.1 h5).1
                    have hlt2 := h2.len
                    rw [if_pos (by omega)] at he
                    rw [if_pos hlt] at hm'
                    simp only [Option.some.injEq] at he hm'; subst he; subst hm'
                    exact ⟨hy, hz⟩
                  · rename_i hij
                    rw [if_neg hij] at hm'
                    exact h2.2 i e' m' he hm'
                · intro i m' hm'
                  rw [List.getElem?_set] at hm'
                  split at hm'
                  · rename_i hij
                    subst hij
                    split at hm'
                    · simp only [Option.some.injEq] at hm'; subst hm'; exact hborn j m h5
                    · simp at hm'
                  · exact hborn i m' hm'
            rcases mKey_cases ht with ⟨h4, j, hku⟩ | ⟨h4, hku⟩ | ⟨h4, hku⟩
            · exact go _ hku (.inl ⟨h4, j, rfl⟩)
            · exact go _ hku (.inr (.inl ⟨h4, rfl⟩))
            · exact go _ hku (.inr (.inr ⟨h4, rfl⟩))
          · simp at h
        · simp at h
      · simp at h
    · simp at ht
  · simp at hm

theorem mCall_clear {c : Call} {sz : Nat} {zs : List FC} {x : Arg} (h : mCall Q σ c (.clear sz zs x) = true) : ∃ y t e, c.callee = .builtin .clear ∧ c.args = #[y] ∧ c.argTypes = #[t] ∧ mA σ x y = true ∧ Q.underlying t = some (.slice e) ∧ tSize Q e sz = true ∧ tZero Q e zs = true := by
  simp only [mCall] at h
  split at h
  · rename_i y t h1 h2 h3
    simp only [Bool.and_eq_true] at h
    obtain ⟨hx, he⟩ := h
    obtain ⟨e, hu, he⟩ := elem_ok he
    simp only [Bool.and_eq_true] at he
    exact ⟨y, t, e, h1, arr1 h2, arr1 h3, hx, hu, he.1, he.2⟩
  · simp at h

theorem clear_ok (hS : SR Q σ X) (hB : X.B ≤ X.w.heap.size) {a : Act} {regs : T} (hR : RR σ X regs a.tmps) {o : Oper} {sz : Nat} {zs : List FC} {x : Arg} (hm : mOp Q σ o (.clear sz zs x) = true) {v : V} {H' : Heap}
    (h : xOp regs X.H (.clear sz zs x) = some (v, H')) : OpOK Q σ X v H' (execOp a.eval o) := by
  simp only [mOp] at hm
  split at hm
  · rename_i c ho
    obtain ⟨y, t, e, h1, h2, h3, hx, hu, hsz, hz⟩ := mCall_clear hm
    have hx := mA_ok hR hx
    simp only [xOp, Option.map_eq_some_iff, Prod.mk.injEq] at h
    obtain ⟨H2, hc, rfl, rfl⟩ := h
    have done : VR σ X (.t []) (.tuple #[]) := ⟨[], rfl, A2.nil⟩
    unfold clearV at hc
    split at hc
    · rename_i p hp
      rw [hp] at hx
      split at hc
      · rename_i hl
        simp only [Option.some.injEq] at hc; subst hc
        obtain ⟨ad, cp, hsl⟩ := slLen_ok hx hl
        refine ⟨.tuple #[], X, .inl (run_builtin ho h1 fun cs => ?_), rfl, hS, done, Ext.refl _ _, hB⟩
        cases ad <;> simp [builtin, h2, h3, Builtin.clear_, run_und hu, hsl]
      · rename_i l hl0 hl
        obtain ⟨ad, cp, hsl⟩ := slLen_ok hx hl
        split at hc
        · rename_i hzl
          obtain ⟨z, us, hz1, hz2, hz3, _⟩ := tZero_ok (σ := σ) (X := X) hz X.w
          have hul : us.length = zs.length := by have := hz3.len; simp at this; omega
          have hlp : l ≠ 0 := fun e => hl0 (by rw [e])
          -- a store of zeros
          have key : ∀ (b o' ep : Nat), (∃ q, CR σ X (.ptr b o' ep) (.pointer (some q)) ∧ ad = some q) → stC X.H (.ptr b o' ep) ((repl l zs).map .f) = some H2 → OpOK Q σ X (.t []) H2 (execOp a.eval o) := by
            rintro b o' ep ⟨q, hq, rfl⟩ hst
            obtain ⟨cc, off, X', g1, g2, g3, g4, g5, g6, g7⟩ := stC_ok hS hq (zeros_ok hz3 l) hst
            cases g1
            by_cases hzz : sz = 0
            · subst hzz
              have hzn : zs = [] := List.eq_nil_of_length_eq_zero hzl
              have hun : us = [] := List.eq_nil_of_length_eq_zero (by omega)
              subst hzn; subst hun
              refine ⟨.tuple #[], X', .inl (run_builtin ho h1 fun cs => ?_), g3, g4, ⟨[], rfl, A2.nil⟩, g5, by omega⟩
              have hr : repl l ([] : List Value) = [] := by simp [repl]
              rw [hr] at g2
              simp [builtin, h2, h3, Builtin.clear_, run_und hu, hsl, hlp, hz1, hz2, Builtin.zeroCells]
              cases l with
              | zero => exact absurd rfl hlp
              | succ l => simp [g2]
            · have hzc : Builtin.zeroCells z.cells l = (repl l us).toArray := by
                have := zeros_eq us l (by omega)
                simpa [Builtin.zeroCells, hz2] using this
              refine ⟨.tuple #[], X', .inl (run_builtin ho h1 fun cs => ?_), g3, g4, ⟨[], rfl, A2.nil⟩, g5, by omega⟩
              simp [builtin, h2, h3, Builtin.clear_, run_und hu, hsl, hz1, hzc]
              cases l with
              | zero => exact absurd rfl hlp
              | succ l => simp [g2]
          split at hc
          · rename_i b o' l' cap ep s
            simp only [VR, VR1, CR, CR1] at hx
            split at hc
            · rename_i cs fl hb
              rw [hb] at hx
              obtain ⟨L, hL, _, h8⟩ := hx
              rw [hsl] at h8
              simp only [Value.slice.injEq] at h8
              refine key b o' ep ⟨⟨L.c, o', none⟩, ⟨L, hL, by rw [hb]⟩, h8.1⟩ hc
            · rename_i s' cs fl e' hb
              split at hc
              · rename_i hce
                rw [hb] at hx
                obtain ⟨L, hL, k, _, _, h8⟩ := hx.2.1 hce.1 hce.2
                rw [hsl] at h8
                simp only [Value.slice.injEq] at h8
                refine key b o' ep ⟨⟨L.c, o', none⟩, ⟨L, hL, ?_⟩, h8.1⟩ hc
                rw [hb]
                exact ⟨hx.1, fun _ => rfl, _, rfl⟩
              · simp at hc
            · simp at hc
          · simp at hc
        · simp at hc
      · simp at hc
    · simp at hc
  · simp at hm

theorem rangem_ok (hS : SR Q σ X) (hB : X.B ≤ X.w.heap.size) {a : Act} {regs : T} (hR : RR σ X regs a.tmps) {o : Oper} {x : Arg} (hm : mOp Q σ o (.rangem x) = true) {v : V} {H' : Heap}
    (h : xOp regs X.H (.rangem x) = some (v, H')) : OpOK Q σ X v H' (execOp a.eval o) := by
  simp only [mOp] at hm
  split at hm
  · rename_i t y ho
    simp only [Bool.and_eq_true] at hm
    obtain ⟨hx, ht⟩ := hm
    have hx := mA_ok hR hx
    simp only [xOp] at h
    unfold rangemV at h
    split at h
    · rename_i b hv
      rw [hv] at hx
      obtain ⟨L, hL, _, hu⟩ := hx
      split at h
      · rename_i es hb
        split at h
        · rename_i hl
          simp only [Option.some.injEq, Prod.mk.injEq] at h
          obtain ⟨rfl, rfl⟩ := h
          obtain ⟨_, _, blk, hb', hbr⟩ := hS.br b L hL
          rw [hb] at hb'; simp only [Option.some.injEq] at hb'; subst hb'
          obtain ⟨arr, g1, g2, _⟩ := hbr
          split at ht
          · rename_i kt e hu2
            obtain ⟨X', h1, h2, h3, h4, h5, h6⟩ := SR.new hS hB (.mit b es.length false) (Adds.alloc X.w (.mapIter (some L.c) arr.length #[] arr.length)) 0 fun X' hx hw hF hH => by
              obtain ⟨blk', k1, k2⟩ := hx.keep b (List.getElem?_eq_some_iff.1 hb).1 _ hb
              cases blk' <;> simp only at k2
              refine ⟨L, #[], arr.length, k2 L hL, ⟨_, k1⟩, ?_, rfl⟩
              rw [g2.len, hw]; exact (Adds.alloc _ _).new
            refine ⟨.pointer (some ⟨X.w.heap.size, 0, none⟩), X', .inl ?_, h2, h3, ⟨_, h5, ⟨b, es.length, false, by rw [h2]; simp⟩, rfl⟩, h4, h6⟩
            have hg : (getObj L.c).run Q X.w = .ok (.map arr.toArray arr.length) X.w := by simp [getObj, Sem.run, g1]
            rw [h1]
            simp [execOp, ho, Instr.range, run_und hu2, hu, hg]
          · simp at ht
        · simp at h
      · simp at h
    · simp at h
  · simp at hm

theorem run_choose1 (w : World) : (choose (.mapNext 1)).run Q w = .ok 0 w := by
  simp [choose, Sem.run, Question.forced]

theorem nextm_ok (hS : SR Q σ X) (hB : X.B ≤ X.w.heap.size) {a : Act} {regs : T} (hR : RR σ X regs a.tmps) {o : Oper} {x : Arg} (hm : mOp Q σ o (.nextm x) = true) {v : V} {H' : Heap}
    (h : xOp regs X.H (.nextm x) = some (v, H')) : OpOK Q σ X v H' (execOp a.eval o) := by
  simp only [mOp] at hm
  split at hm
  · rename_i y ho
    have hx := mA_ok hR hm
    simp only [xOp] at h
    unfold nextmV at h
    split at h
    · rename_i b hv
      rw [hv] at hx
      obtain ⟨L, hL, _, hu⟩ := hx
      split at h
      · rename_i m since done hb
        obtain ⟨_, _, blk, hb', hbr⟩ := hS.br b L hL
        rw [hb] at hb'; simp only [Option.some.injEq] at hb'; subst hb'
        obtain ⟨Lm, sn, st, g1, _, g2, g3⟩ := hbr
        split at h
        · rename_i hmm
          obtain ⟨_, _, blk, hb', hbr⟩ := hS.br m Lm g1
          rw [hmm] at hb'; simp only [Option.some.injEq] at hb'; subst hb'
          obtain ⟨arr, k1, k2, _⟩ := hbr
          have : arr = [] := List.eq_nil_of_length_eq_zero k2.len.symm
          subst this
          split at h
          · simp at h
          · rename_i hd
            simp only [Option.some.injEq, Prod.mk.injEq] at h
            obtain ⟨rfl, rfl⟩ := h
            simp only [hd, Bool.false_eq_true, if_false] at g3
            subst g3
            refine ⟨.tuple #[.bool false], X, .inl ?_, rfl, hS, ⟨[.bool false], rfl, A2.cons (FCR.bool _) A2.nil⟩, Ext.refl _ _, hB⟩
            simp only [execOp, ho]
            refine ex_v ?_
            simp [Instr.next, hu, getObj, Sem.run, g2, k1, Result.andThen, choose, Question.forced]
        · rename_i e hmm
          obtain ⟨me, k1, k2, k3, k4⟩ := map_one hS g1 hmm
          split at h
          · rename_i hd
            simp only [Option.some.injEq, Prod.mk.injEq] at h
            obtain ⟨rfl, rfl⟩ := h
            simp only [hd, if_true] at g3
            obtain ⟨rfl, rfl⟩ := g3
            refine ⟨.tuple #[.bool false], X, .inl ?_, rfl, hS, ⟨[.bool false], rfl, A2.cons (FCR.bool _) A2.nil⟩, Ext.refl _ _, hB⟩
            simp only [execOp, ho]
            refine ex_v ?_
            simp [Instr.next, hu, getObj, Sem.run, g2, k1, k4, Result.andThen, choose, Question.forced]
          · rename_i hd
            split at h
            · rename_i hsi
              subst hsi
              simp only [Option.some.injEq, Prod.mk.injEq] at h
              obtain ⟨rfl, rfl⟩ := h
              simp only [hd, Bool.false_eq_true, if_false] at g3
              subst g3
              obtain ⟨q1, q2⟩ := SR.turnObj (o' := .mapIter (some Lm.c) 1 #[0] 1) (blk' := .mit m 1 true) hS hb hL g2 (by simp) (by simp)
                (fun blk hblk => ⟨.mit m 1 true, by simp [(List.getElem?_eq_some_iff.1 hb).1], by rw [hb] at hblk; simp only [Option.some.injEq] at hblk; subst hblk; exact ⟨⟨rfl, rfl⟩, fun L h => h⟩⟩)
                (fun X' hx' hw' _ hrho hH => by
                  have hne : b ≠ m := fun e => by rw [e, hmm] at hb; cases hb
                  exact ⟨Lm, #[0], 1, by rw [hrho]; exact g1, ⟨_, by rw [hH, List.getElem?_set_ne hne]; exact hmm⟩, hw', rfl, rfl⟩)
              refine ⟨.tuple #[.bool true, me.key, me.val], _, .inl ?_, rfl, q1, ?_, q2, by simpa using hB⟩
              · simp only [execOp, ho]
                refine ex_v ?_
                simp [Instr.next, hu, getObj, setObj, Sem.run, g2, k1, k4, Result.andThen, choose, Question.forced]
              · exact ⟨[.bool true, me.key, me.val], rfl, A2.cons (FCR.bool _) (A2.cons (FCR.mono q2.F q2.fw k2) (A2.cons (CR.ext' σ q2 k3) A2.nil))⟩
            · simp at h
        · simp at h
      · simp at h
    · simp at h
  · simp at hm

end Km
end

section
namespace Km
open Go

variable {Q : Program} {σ : Nat → FuncId} {X : Wd}

/-- The world has a new block that nothing of ours is. -/
theorem SR.skip (hS : SR Q σ X) {w' : World} {o : Obj} (hw : Adds X.w w' o) (hB : X.B ≤ X.w.heap.size) : ∃ X' : Wd, X'.w = w' ∧ X'.H = X.H ∧ SR Q σ X' ∧ Ext X.H.length X X' ∧ X'.B ≤ X'.w.heap.size := by
  have hx : Ext X.H.length X { X with w := w' } := Ext.one hS X.H.length rfl (fun _ _ => Iff.rfl) (fun k hk _ => hw.old hk)
    (fun L i h => by rw [SR.rho0 hS] at h; simp at h) (fun h => absurd h (Nat.lt_irrefl _)) (fun _ _ _ => rfl) (fun _ _ => rfl) (fun L h => .inl ⟨L, h, rfl⟩) (by show _ ≤ w'.heap.size; rw [hw.size]; omega) hw.os hw.tape hw.output
  refine ⟨{ X with w := w' }, rfl, rfl, SR.step Q σ hS hx X.H.length (fun _ _ => rfl) (fun _ _ => rfl) (fun b L _ hb => hw.old (hS.br b L hb).2.1)
    (fun _ _ _ _ _ h => h) (fun L h => by change X.rho X.H.length = some L at h; rw [SR.rho0 hS] at h; simp at h) (fun c i h => ?_), hx, ?_⟩
  · have := hS.fb c i h; show c < w'.heap.size; rw [hw.size]; omega
  · show X.B ≤ w'.heap.size; rw [hw.size]; omega

theorem wrap_small {n : Int} (h0 : 0 ≤ n) (h1 : n < 2 ^ 63) : IntKind.i64.wrap n = n := by
  have : n % (2 ^ 64 : Int) = n := Int.emod_eq_of_lt h0 (by omega)
  simp only [IntKind.wrap, IntKind.bits, IntKind.signed, this, Bool.true_and, decide_eq_true_eq]
  rw [if_neg (by show ¬ n ≥ 2 ^ (64 - 1); omega)]

theorem mkslice_ok (hS : SR Q σ X) (hB : X.B ≤ X.w.heap.size) {a : Act} {regs : T} (hR : RR σ X regs a.tmps) {o : Oper} {sz bytes : Nat} {zs : List FC} {x y : Arg} (hm : mOp Q σ o (.mkslice sz bytes zs x y) = true) {v : V} {H' : Heap}
    (h : xOp regs X.H (.mkslice sz bytes zs x y) = some (v, H')) : OpOK Q σ X v H' (execOp a.eval o) := by
  simp only [mOp] at hm
  split at hm
  · rename_i t x' y' ho
    simp only [Bool.and_eq_true, decide_eq_true_eq] at hm
    obtain ⟨⟨⟨hx, hy⟩, he⟩, hpos⟩ := hm
    have hx := mA_ok hR hx
    have hy := mA_ok hR hy
    obtain ⟨e, hu, he⟩ := elem_ok he
    simp only [Bool.and_eq_true] at he
    obtain ⟨⟨hsz, hby⟩, hz⟩ := he
    obtain ⟨z, us, hz1, hz2, hz3, inf, hi1, hi2⟩ := tZero_ok (σ := σ) (X := X) hz X.w
    obtain ⟨inf', hb1, hb2⟩ := run_by hby X.w
    simp only [xOp] at h
    split at h
    · rename_i l c hl hc
      obtain ⟨kl, hxl⟩ := intV_ok hx hl
      obtain ⟨kc, hyc⟩ := intV_ok hy hc
      split at h
      · rename_i hcond
        obtain ⟨h0, hlc, hroom, hzl⟩ := hcond
        unfold roomOK at hroom
        simp only [Bool.and_eq_true, decide_eq_true_eq] at hroom
        have hul : us.length = sz := by have := hz3.len; simp at this; omega
        have hwl := wrap_small (n := l) h0 (by omega)
        have hwc := wrap_small (n := c) (by omega) (by omega)
        have hnat : c.toNat * bytes ≤ 2 ^ 48 := by
          have : c.toNat * bytes ≤ (2 * c.toNat + 768) * bytes := Nat.mul_le_mul_right _ (by omega)
          omega
        have hbig : ¬ ((bytes : Int) * c > 2 ^ 48) := by
          have e1 : (bytes : Int) * c = ((c.toNat * bytes : Nat) : Int) := by
            rw [Int.natCast_mul, Int.mul_comm]; congr 1; omega
          rw [e1]; omega
        have hrow : ((Array.range (c.toNat * sz)).map fun i => us.toArray[i % us.toArray.size]!) = (repl c.toNat us).toArray := by
          have := zeros_eq us c.toNat (by omega); rwa [hul] at this
        have run : (execOp a.eval o).run Q X.w = .ok (.value (.slice (some ⟨X.w.heap.size, 0, none⟩) l.toNat c.toNat)) (X.w.alloc (.cells (repl c.toNat us).toArray e)) := by
          simp only [execOp, ho]
          refine ex_v ?_
          rw [hxl, hyc]
          have hc1 : ¬ c < 0 := by omega
          have hl1 : ¬ l < 0 := by omega
          have hlc1 : ¬ l > c := by omega
          by_cases hc0 : c.toNat * sz = 0
          · have hr0 : repl c.toNat us = [] := List.eq_nil_of_length_eq_zero (by rw [repl_len, hul]; exact hc0)
            have hcond2 : ((decide (c < 0) || decide ((bytes : Int) * c > 2 ^ 48)) || decide (l < 0) || decide (l > c)) = false := by rw [decide_eq_false hc1, decide_eq_false hl1, decide_eq_false hlc1, decide_eq_false hbig]; rfl
            simp only [Instr.makeSlice, Sem.run_bind, run_und hu, asInt, asIntOf, Sem.run_pure, Result.andThen_ok, hb1, hb2, hwl, hwc, run_askRoom, run_sz hsz]
            simp only [hcond2, Bool.false_eq_true, if_false, Sem.run_ite, if_pos hc0, Sem.run_bind, Result.andThen_ok, Sem.run_pure, run_askRoom, run_sz hsz, newRow, run_newObj]
            rw [hc0, hr0, show (Array.map (fun x => (#[] : Array Value)[x % (#[] : Array Value).size]!) (Array.range 0)) = #[] from by simp [show Array.range 0 = (#[] : Array Nat) from rfl]]; rfl
          · simp only [Instr.makeSlice, Sem.run_bind, run_und hu, asInt, asIntOf, Sem.run_pure, Result.andThen_ok, hb1, hb2, hwl, hwc, run_askRoom, run_sz hsz]
            have hcond2 : ((decide (c < 0) || decide ((bytes : Int) * c > 2 ^ 48)) || decide (l < 0) || decide (l > c)) = false := by rw [decide_eq_false hc1, decide_eq_false hl1, decide_eq_false hlc1, decide_eq_false hbig]; rfl
            simp only [hcond2, Bool.false_eq_true, if_false, Sem.run_ite, if_neg hc0, Sem.run_bind, hz1, hz2, Result.andThen_ok, Sem.run_pure, run_askRoom, run_sz hsz, hrow, newRow, run_newObj]
            rfl
        split at h
        · rename_i hc0
          subst hc0
          simp only [Option.some.injEq, Prod.mk.injEq] at h
          obtain ⟨rfl, rfl⟩ := h
          have : l = 0 := by omega
          subst this
          obtain ⟨X', g1, g2, g3, g4, g5⟩ := SR.skip hS (Adds.alloc X.w (.cells (repl (0 : Int).toNat us).toArray e)) hB
          exact ⟨_, X', .inl (by rw [g1]; exact run), g2, g3, FCR.es _, g4, g5⟩
        · simp only [Option.some.injEq, Prod.mk.injEq] at h
          obtain ⟨rfl, rfl⟩ := h
          obtain ⟨X', g1, g2, g3, g4, g5, g6⟩ := newBox hS hB (zeros_ok hz3 c.toNat) e
          refine ⟨_, X', .inl (by rw [g1]; exact run), g2, g3, ?_, g4, g6⟩
          have hnew : X'.H[X.H.length]? = some (.box ((repl c.toNat zs).map .f) 0) := by rw [g2]; simp
          simp only [VR, VR1, CR, CR1, hnew]
          exact ⟨_, g5, by omega, rfl⟩
      · simp at h
    · simp at h
  · simp at hm

/-- **Every operation that calls nothing.** -/
theorem xOp_ok (hS : SR Q σ X) (hB : X.B ≤ X.w.heap.size) {a : Act} {regs : T} (hR : RR σ X regs a.tmps) {o : Oper} {op : AOp} (hm : mOp Q σ o op = true) {v : V} {H' : Heap}
    (h : xOp regs X.H op = some (v, H')) : OpOK Q σ X v H' (execOp a.eval o) := by
  by_cases hc : cls op = .p ∨ cls op = .r
  · exact OpOK.of_rd hB hS (rd_ok hS hR hm hc h)
  · cases op with
    | pre st sz => exact pre_ok hS hB hm h
    | alloc zs =>
      simp only [xOp, Option.some.injEq, Prod.mk.injEq] at h
      obtain ⟨rfl, rfl⟩ := h
      exact alloc_ok hS hB hm
    | box x =>
      simp only [xOp] at h
      split at h
      · rename_i xs hxs
        simp only [Option.some.injEq, Prod.mk.injEq] at h
        obtain ⟨rfl, rfl⟩ := h
        exact box_ok hS hB hR hm hxs
      · simp at h
    | bslice sz zs n ps => exact bslice_ok hS hB hR hm h
    | store n x y => exact store_ok hS hB hR hm h
    | mkmap =>
      simp only [xOp, Option.some.injEq, Prod.mk.injEq] at h
      obtain ⟨rfl, rfl⟩ := h
      exact mkmap_ok hS hB hm
    | mapup ck x y z => exact mapup_ok hS hB hR hm h
    | mkslice sz by' zs x y => exact mkslice_ok hS hB hR hm h
    | range x => exact range_ok hS hB hR hm h
    | next x => exact next_ok hS hB hR hm h
    | append sz by' x y => exact append_ok hS hB hR hm h
    | cvsb x => simp [mOp] at hm
    | copy sz x y => simp [mOp] at hm
    | clear sz zs x => exact clear_ok hS hB hR hm h
    | appz sz by' zs x y => exact appz_ok hS hB hR hm h
    | rangem x => exact rangem_ok hS hB hR hm h
    | nextm x => exact nextm_ok hS hB hR hm h
    | call f xs h' => simp [xOp] at h
    | calld x xs h' => simp [xOp] at h
    | recover => simp [xOp] at h
    | defer x xs => simp [xOp] at h
    | bad => simp [xOp] at h
    | _ => exact absurd (by simp [cls]) hc

end Km
end

section
namespace Km
open Go

variable {Q : Program} {σ : Nat → FuncId} {X : Wd}

/-- The same block, more of it frozen. -/
def blkLe (a b : Blk) : Prop :=
  match a with
  | .box cs fl => (match b with
    | .box cs' fl' => cs = cs' ∧ fl ≤ fl'
    | _ => False)
  | .opn s cs fl e st => (match b with
    | .opn s' cs' fl' e' st' => s = s' ∧ cs = cs' ∧ fl ≤ fl' ∧ e = e' ∧ st = st'
    | _ => False)
  | a => a = b

theorem blkLe.refl (a : Blk) : blkLe a a := by cases a <;> simp [blkLe]
theorem blkLe.trans {a b c : Blk} (h : blkLe a b) (k : blkLe b c) : blkLe a c := by
  cases a <;> cases b <;> simp only [blkLe, reduceCtorEq] at h <;> cases c <;> simp only [blkLe, reduceCtorEq] at k ⊢
  · exact ⟨h.1.trans k.1, Nat.le_trans h.2 k.2⟩
  · exact ⟨h.1.trans k.1, h.2.1.trans k.2.1, Nat.le_trans h.2.2.1 k.2.2.1, h.2.2.2.1.trans k.2.2.2.1, h.2.2.2.2.trans k.2.2.2.2⟩
  all_goals exact h.trans k

def HLe (H H' : Heap) : Prop := H.length = H'.length ∧ ∀ (b : Nat) blk blk', H[b]? = some blk → H'[b]? = some blk' → blkLe blk blk'

theorem HLe.refl (H : Heap) : HLe H H := ⟨rfl, fun b blk blk' h h' => by rw [h] at h'; cases h'; exact blkLe.refl _⟩
theorem HLe.get {H H' : Heap} (h : HLe H H') {b : Nat} {blk : Blk} (hb : H[b]? = some blk) : ∃ blk', H'[b]? = some blk' ∧ blkLe blk blk' := by
  have hl := (List.getElem?_eq_some_iff.1 hb).1
  have hl' : b < H'.length := by have := h.1; omega
  exact ⟨_, List.getElem?_eq_getElem hl', h.2 b _ _ hb (List.getElem?_eq_getElem hl')⟩
theorem HLe.trans {A B C : Heap} (h : HLe A B) (k : HLe B C) : HLe A C :=
  ⟨h.1.trans k.1, fun b x z hx hz => by obtain ⟨y, hy, h1⟩ := h.get hx; exact h1.trans (k.2 b y z hy hz)⟩
theorem HLe.none {H H' : Heap} (h : HLe H H') {b : Nat} (hb : H[b]? = none) : H'[b]? = none := by
  rw [List.getElem?_eq_none_iff] at hb ⊢; have := h.1; omega
theorem HLe.set {H : Heap} {b : Nat} {blk blk' : Blk} (hb : H[b]? = some blk) (h : blkLe blk blk') : HLe H (H.set b blk') := by
  have hl := (List.getElem?_eq_some_iff.1 hb).1
  refine ⟨by simp, fun i x y hx hy => ?_⟩
  by_cases hi : i = b
  · subst hi
    simp only [List.getElem?_set, if_true, hl] at hy
    rw [hb] at hx; cases hx; cases hy; exact h
  · rw [List.getElem?_set_ne (Ne.symm hi)] at hy; rw [hx] at hy; cases hy; exact blkLe.refl _

theorem HLe.foldl {f : Heap → C → Heap} (hf : ∀ H x, HLe H (f H x)) : ∀ (xs : List C) (H : Heap), HLe H (xs.foldl f H)
  | [], H => HLe.refl H
  | x :: xs, H => (hf H x).trans (HLe.foldl hf xs (f H x))

theorem mkC_le : ∀ (n : Nat) (x : C) (H : Heap), HLe H (mkC n x H)
  | n, .f _, H => by cases n <;> exact HLe.refl H
  | 0, .ptr _ _ _, H => HLe.refl H
  | 0, .sl _ _ _ _ _ _, H => HLe.refl H
  | 0, .cl _ _, H => HLe.refl H
  | 0, .yl _, H => HLe.refl H
  | 0, .mp _, H => HLe.refl H
  | 0, .it _, H => HLe.refl H
  | 0, .bm _ _, H => HLe.refl H
  | 0, .mi _, H => HLe.refl H
  | n + 1, .ptr b off ep, H => by
    simp only [mkC]
    split
    · rename_i cs fl hb
      exact (HLe.set hb (by exact ⟨rfl, Nat.le_max_left _ _⟩)).trans (HLe.foldl (fun H x => mkC_le n x H) _ _)
    · exact HLe.refl H
  | n + 1, .sl b o l c ep sz, H => by
    simp only [mkC]
    split
    · rename_i cs fl hb
      exact (HLe.set hb (by exact ⟨rfl, Nat.le_max_left _ _⟩)).trans (HLe.foldl (fun H x => mkC_le n x H) _ _)
    · rename_i s cs fl e st hb
      exact (HLe.set hb (by exact ⟨rfl, rfl, Nat.le_max_left _ _, rfl, rfl⟩)).trans (HLe.foldl (fun H x => mkC_le n x H) _ _)
    · exact HLe.refl H
  | n + 1, .cl f caps, H => HLe.foldl (fun H x => mkC_le n x H) _ _
  | n + 1, .yl _, H => HLe.refl H
  | n + 1, .mp _, H => HLe.refl H
  | n + 1, .it _, H => HLe.refl H
  | n + 1, .bm _ _, H => HLe.refl H
  | n + 1, .mi _, H => HLe.refl H

theorem mapO_congr {α β : Type} {f g : α → Option β} : ∀ {xs : List α}, (∀ x ∈ xs, f x = g x) → mapO f xs = mapO g xs
  | [], _ => rfl
  | x :: xs, h => by rw [mapO, mapO, h x (by simp), mapO_congr (xs := xs) (fun y hy => h y (List.mem_cons_of_mem _ hy))]

theorem exC_le : ∀ (n : Nat) {H H' : Heap}, HLe H H' → ∀ (x : C), exC n H' x = exC n H x
  | n, H, H', h, .f _ => by cases n <;> rfl
  | 0, H, H', h, .ptr _ _ _ => rfl
  | 0, H, H', h, .sl _ _ _ _ _ _ => rfl
  | 0, H, H', h, .cl _ _ => rfl
  | 0, H, H', h, .yl _ => rfl
  | 0, H, H', h, .mp _ => rfl
  | 0, H, H', h, .it _ => rfl
  | 0, H, H', h, .bm _ _ => rfl
  | 0, H, H', h, .mi _ => rfl
  | n + 1, H, H', h, .ptr b off ep => by
    simp only [exC]
    cases hb : H[b]? with
    | none => rw [h.none hb]
    | some blk =>
      obtain ⟨blk', hb', hl⟩ := h.get hb
      rw [hb']
      cases blk <;> cases blk' <;> simp only [blkLe, reduceCtorEq] at hl
      · obtain ⟨rfl, _⟩ := hl; simp only [mapO_congr (g := exC n H) fun x _ => exC_le n h x]
      all_goals rfl
  | n + 1, H, H', h, .sl b o l c ep sz => by
    simp only [exC]
    cases hb : H[b]? with
    | none => rw [h.none hb]
    | some blk =>
      obtain ⟨blk', hb', hl⟩ := h.get hb
      rw [hb']
      cases blk <;> cases blk' <;> simp only [blkLe, reduceCtorEq] at hl
      · obtain ⟨rfl, _⟩ := hl; simp only [mapO_congr (g := exC n H) fun x _ => exC_le n h x]
      · obtain ⟨rfl, rfl, hx, rfl, rfl⟩ := hl
        clear hx
        rename_i st _
        cases st <;> simp only [mapO_congr (g := exC n H) fun x _ => exC_le n h x]
      all_goals rfl
  | n + 1, H, H', h, .cl f caps => by simp only [exC, mapO_congr (g := exC n H) fun x _ => exC_le n h x]
  | n + 1, H, H', h, .yl _ => rfl
  | n + 1, H, H', h, .mp _ => rfl
  | n + 1, H, H', h, .it _ => rfl
  | n + 1, H, H', h, .bm _ _ => rfl
  | n + 1, H, H', h, .mi _ => rfl

/-- All that a freezing of x reads is marked frozen. -/
def Marked : Nat → Heap → C → Prop
  | _, _, .f _ => True
  | 0, _, _ => True
  | n + 1, H, .ptr b _ _ => ∀ cs fl, H[b]? = some (.box cs fl) → cs.length ≤ fl ∧ ∀ x ∈ cs, Marked n H x
  | n + 1, H, .sl b o l _ _ sz => ∀ blk, H[b]? = some blk → match blk with
    | .box cs fl => o + l * sz ≤ fl ∧ ∀ x ∈ (cs.drop o).take (l * sz), Marked n H x
    | .opn _ cs fl _ .loc => o + l * sz ≤ fl ∧ ∀ x ∈ (cs.drop o).take (l * sz), Marked n H x
    | _ => True
  | n + 1, H, .cl _ caps => ∀ x ∈ caps, Marked n H x
  | _, _, _ => True

theorem Marked.le : ∀ (n : Nat) {H H' : Heap}, HLe H H' → ∀ {x : C}, Marked n H x → Marked n H' x
  | n, H, H', h, .f _, _ => by cases n <;> trivial
  | 0, H, H', h, .ptr _ _ _, _ => trivial
  | 0, H, H', h, .sl _ _ _ _ _ _, _ => trivial
  | 0, H, H', h, .cl _ _, _ => trivial
  | 0, H, H', h, .yl _, _ => trivial
  | 0, H, H', h, .mp _, _ => trivial
  | 0, H, H', h, .it _, _ => trivial
  | 0, H, H', h, .bm _ _, _ => trivial
  | 0, H, H', h, .mi _, _ => trivial
  | n + 1, H, H', h, .ptr b off ep, hm => by
    intro cs fl hb'
    have hl' := (List.getElem?_eq_some_iff.1 hb').1
    have hlt : b < H.length := by have := h.1; omega
    have hle := h.2 b _ _ (List.getElem?_eq_getElem hlt) hb'
    cases hblk : H[b] <;> rw [hblk] at hle <;> simp only [blkLe, reduceCtorEq] at hle
    obtain ⟨rfl, hfl⟩ := hle
    obtain ⟨h1, h2⟩ := hm _ _ (by rw [List.getElem?_eq_getElem hlt, hblk])
    exact ⟨Nat.le_trans h1 hfl, fun x hx => Marked.le n h (h2 x hx)⟩
  | n + 1, H, H', h, .sl b o l c ep sz, hm => by
    intro blk' hb'
    have hl' := (List.getElem?_eq_some_iff.1 hb').1
    have hlt : b < H.length := by have := h.1; omega
    have hle := h.2 b _ _ (List.getElem?_eq_getElem hlt) hb'
    have hm' := hm _ (List.getElem?_eq_getElem hlt)
    cases hblk : H[b] <;> rw [hblk] at hle hm' <;> cases blk' <;> simp only [blkLe, reduceCtorEq] at hle <;> try simp only
    · obtain ⟨rfl, hfl⟩ := hle
      exact ⟨Nat.le_trans hm'.1 hfl, fun x hx => Marked.le n h (hm'.2 x hx)⟩
    · obtain ⟨rfl, rfl, hfl, rfl, rfl⟩ := hle
      rename_i st _
      cases st <;> simp only at hm' ⊢
      exact ⟨Nat.le_trans hm'.1 hfl, fun x hx => Marked.le n h (hm'.2 x hx)⟩
  | n + 1, H, H', h, .cl f caps, hm => fun x hx => Marked.le n h (hm x hx)
  | n + 1, H, H', h, .yl _, _ => trivial
  | n + 1, H, H', h, .mp _, _ => trivial
  | n + 1, H, H', h, .it _, _ => trivial
  | n + 1, H, H', h, .bm _ _, _ => trivial
  | n + 1, H, H', h, .mi _, _ => trivial

theorem marked_foldl {n : Nat} (hmk : ∀ (x : C) (H : Heap), Marked n (mkC n x H) x) : ∀ (xs : List C) (H : Heap), ∀ x ∈ xs, Marked n (xs.foldl (fun H x => mkC n x H) H) x
  | y :: ys, H, x, hx => by
    simp only [List.foldl_cons]
    rcases List.mem_cons.1 hx with rfl | hx
    · exact Marked.le n (HLe.foldl (fun H x => mkC_le n x H) ys _) (hmk x H)
    · exact marked_foldl hmk ys _ x hx

theorem mkC_marked : ∀ (n : Nat) (x : C) (H : Heap), Marked n (mkC n x H) x
  | n, .f _, H => by cases n <;> trivial
  | 0, .ptr _ _ _, H => trivial
  | 0, .sl _ _ _ _ _ _, H => trivial
  | 0, .cl _ _, H => trivial
  | 0, .yl _, H => trivial
  | 0, .mp _, H => trivial
  | 0, .it _, H => trivial
  | 0, .bm _ _, H => trivial
  | 0, .mi _, H => trivial
  | n + 1, .ptr b off ep, H => by
    simp only [mkC]
    cases hb : H[b]? with
    | none => intro cs fl h; exfalso; simp only at h; exact absurd (hb.symm.trans h) (by simp)
    | some blk =>
      cases blk with
      | box cs0 fl0 =>
        intro cs fl h
        have hlt := (List.getElem?_eq_some_iff.1 hb).1
        simp only at h ⊢
        have h1 := HLe.foldl (fun H x => mkC_le n x H) cs0 (H.set b (.box cs0 (Nat.max fl0 cs0.length)))
        obtain ⟨blk', hb', hle⟩ := h1.get (b := b) (blk := .box cs0 (Nat.max fl0 cs0.length)) (by simp [hlt])
        rw [h] at hb'; cases hb'
        obtain ⟨rfl, hfl⟩ := hle
        exact ⟨Nat.le_trans (Nat.le_max_right _ _) hfl, fun x hx => marked_foldl (fun x H => mkC_marked n x H) _ _ x hx⟩
      | _ => intro cs fl h; simp only at h; rw [hb] at h; cases h
  | n + 1, .sl b o l c ep sz, H => by
    simp only [mkC]
    cases hb : H[b]? with
    | none => intro blk h; exfalso; simp only at h; exact absurd (hb.symm.trans h) (by simp)
    | some blk =>
      have hlt := (List.getElem?_eq_some_iff.1 hb).1
      cases blk with
      | box cs0 fl0 =>
        intro blk h
        simp only at h ⊢
        have h1 := HLe.foldl (fun H x => mkC_le n x H) ((cs0.drop o).take (l * sz)) (H.set b (.box cs0 (Nat.max fl0 (o + l * sz))))
        obtain ⟨blk', hb', hle⟩ := h1.get (b := b) (blk := .box cs0 (Nat.max fl0 (o + l * sz))) (by simp [hlt])
        rw [h] at hb'; cases hb'
        cases blk <;> simp only [blkLe, reduceCtorEq] at hle
        obtain ⟨rfl, hfl⟩ := hle
        exact ⟨Nat.le_trans (Nat.le_max_right _ _) hfl, fun x hx => marked_foldl (fun x H => mkC_marked n x H) _ _ x hx⟩
      | opn s0 cs0 fl0 e0 st0 =>
        intro blk h
        simp only at h ⊢
        have h1 := HLe.foldl (fun H x => mkC_le n x H) ((cs0.drop o).take (l * sz)) (H.set b (.opn s0 cs0 (Nat.max fl0 (o + l * sz)) e0 st0))
        obtain ⟨blk', hb', hle⟩ := h1.get (b := b) (blk := .opn s0 cs0 (Nat.max fl0 (o + l * sz)) e0 st0) (by simp [hlt])
        rw [h] at hb'; cases hb'
        cases blk <;> simp only [blkLe, reduceCtorEq] at hle
        obtain ⟨rfl, rfl, hfl, rfl, rfl⟩ := hle
        cases st0 <;> simp only
        exact ⟨Nat.le_trans (Nat.le_max_right _ _) hfl, fun x hx => marked_foldl (fun x H => mkC_marked n x H) _ _ x hx⟩
      | _ => intro blk h; simp only at h; rw [hb] at h; cases h; simp
  | n + 1, .cl f caps, H => fun x hx => marked_foldl (fun x H => mkC_marked n x H) _ _ x hx
  | n + 1, .yl _, H => trivial
  | n + 1, .mp _, H => trivial
  | n + 1, .it _, H => trivial
  | n + 1, .bm _ _, H => trivial
  | n + 1, .mi _, H => trivial

end Km
end

section
namespace Km
open Go

variable {Q : Program} {σ : Nat → FuncId} {X : Wd}

/-- A later heap: more of the old blocks frozen, and new blocks. -/
def HExt (H H' : Heap) : Prop := ∀ (b : Nat) blk, H[b]? = some blk → ∃ blk', H'[b]? = some blk' ∧ blkLe blk blk'

theorem HExt.refl (H : Heap) : HExt H H := fun _ blk h => ⟨blk, h, blkLe.refl _⟩
theorem HExt.trans {A B C : Heap} (h : HExt A B) (k : HExt B C) : HExt A C := fun b x hx => by
  obtain ⟨y, hy, h1⟩ := h b x hx
  obtain ⟨z, hz, h2⟩ := k b y hy
  exact ⟨z, hz, h1.trans h2⟩
theorem HLe.ext {H H' : Heap} (h : HLe H H') : HExt H H' := fun _ _ hb => h.get hb
theorem HExt.append (H H' : Heap) : HExt H (H ++ H') := fun b blk hb => ⟨blk, by rw [List.getElem?_append_left (List.getElem?_eq_some_iff.1 hb).1]; exact hb, blkLe.refl _⟩
theorem HExt.len {H H' : Heap} (h : HExt H H') : H.length ≤ H'.length := by
  rcases Nat.lt_or_ge H'.length H.length with hlt | hge
  · obtain ⟨y, hy, _⟩ := h H'.length _ (List.getElem?_eq_getElem hlt)
    have := (List.getElem?_eq_some_iff.1 hy).1
    omega
  · exact hge

/-- The heap of later: what of it lies nowhere yet stays so. -/
theorem SR.ahead (hS : SR Q σ X) {H' : Heap} (h : HExt X.H H') : SR Q σ { X with H := H' } ∧ Ext X.H.length X { X with H := H' } := by
  have hx : Ext X.H.length X { X with H := H' } :=
    { B := rfl, F := fun _ _ h => h, Fnew := fun _ _ h => .inl h, fw := fun _ _ _ => rfl
      keep := fun b _ blk hb => by
        obtain ⟨blk', hb', hl⟩ := h b blk hb
        refine ⟨blk', hb', ?_⟩
        cases blk <;> cases blk' <;> simp only [blkLe, reduceCtorEq] at hl <;> simp_all
      img := fun b L h => .inl ⟨b, L, h, rfl⟩, size := Nat.le_refl _, os := rfl, tape := rfl, output := rfl, frame := fun _ _ _ => rfl }
  refine ⟨⟨fun b L hb => ?_, hS.inj, hS.fb⟩, hx⟩
  obtain ⟨h1, h2, blk, h3, h4⟩ := hS.br b L hb
  obtain ⟨blk', h5, h6⟩ := h b blk h3
  refine ⟨h1, h2, blk', h5, ?_⟩
  have h7 : BR Q σ { X with H := H' } blk L := BR.ext Q σ hx rfl (fun _ h => h) h4
  cases blk <;> cases blk' <;> simp only [blkLe, reduceCtorEq] at h6
  · obtain ⟨rfl, hl⟩ := h6
    obtain ⟨us, g1, g2, g3⟩ := h7
    exact ⟨us, g1, g2, fun i hi => g3 i (Nat.le_trans hl hi)⟩
  · obtain ⟨rfl, rfl, hl, rfl, rfl⟩ := h6
    obtain ⟨hst, us, rest, g1, g2, g3, g4, g5, g6⟩ := h7
    exact ⟨hst, us, rest, g1, g2, g3, g4, g5, fun i hi => g6 i (Nat.le_trans hl hi)⟩
  all_goals (rw [← h6]; exact h7)

def flagAt : Blk → Nat → Prop
  | .box cs fl, i => i < fl ∧ i < cs.length
  | .opn _ cs fl _ _, i => i < fl ∧ i < cs.length
  | _, _ => False

/-- The cells that are marked frozen are frozen. -/
def FL (X : Wd) : Prop := ∀ b L i blk, X.rho b = some L → X.H[b]? = some blk → flagAt blk i → X.F L.c i

def Wd.flag (X : Wd) : Wd := { X with F := fun c i => X.F c i ∨ ∃ b L blk, X.rho b = some L ∧ L.c = c ∧ X.H[b]? = some blk ∧ flagAt blk i }

theorem SR.flag (hS : SR Q σ X) : SR Q σ X.flag ∧ Ext X.H.length X X.flag ∧ FL X.flag := by
  have hx : Ext X.H.length X X.flag :=
    { B := rfl, F := fun _ _ h => .inl h
      Fnew := fun c i h => by
        rcases h with h | ⟨b, L, blk, h1, h2, _⟩
        · exact .inl h
        · exact .inr (.inr ⟨b, L, h1, h2⟩)
      fw := fun _ _ _ => rfl
      keep := fun b _ => by
        intro blk hb
        refine ⟨blk, hb, ?_⟩
        cases blk <;> simp [Wd.flag]
      img := fun b L h => .inl ⟨b, L, h, rfl⟩, size := Nat.le_refl _, os := rfl, tape := rfl, output := rfl, frame := fun _ _ _ => rfl }
  refine ⟨⟨fun b L hb => ?_, hS.inj, fun c i h => ?_⟩, hx, fun b L i blk h1 h2 h3 => .inr ⟨b, L, blk, h1, rfl, h2, h3⟩⟩
  · obtain ⟨h1, h2, blk, h3, h4⟩ := hS.br b L hb
    refine ⟨h1, h2, blk, h3, ?_⟩
    have key : ∀ i, X.flag.F L.c i → X.F L.c i ∨ flagAt blk i := by
      rintro i (h | ⟨b', L', blk', g1, g2, g3, g4⟩)
      · exact .inl h
      · have : b' = b := hS.inj _ _ _ _ g1 hb g2
        subst this
        rw [h3] at g3; cases g3
        exact .inr g4
    cases blk with
    | box cs fl =>
      obtain ⟨us, g1, g2, g3⟩ := h4
      exact ⟨us, g1, A2.ext' σ hx g2, fun i hi hf => (key i hf).elim (g3 i hi) fun h => by have := h.1; omega⟩
    | opn sz cs fl ep st =>
      obtain ⟨hst, us, rest, g1, g2, g3, g4, g5, g6⟩ := h4
      exact ⟨hst, us, rest, g1, A2.ext' σ hx g2, g3, g4, g5, fun i hi hf => (key i hf).elim (g6 i hi) fun h => by have := h.1; omega⟩
    | map es => exact BR.ext Q σ hx rfl (fun i h => (key i h).elim id False.elim) h4
    | it s p => exact BR.ext Q σ hx rfl (fun i h => (key i h).elim id False.elim) h4
    | dfr b => exact BR.ext Q σ hx rfl (fun i h => (key i h).elim id False.elim) h4
    | mit m s d => exact BR.ext Q σ hx rfl (fun i h => (key i h).elim id False.elim) h4
    | lp f t p a c st q d => exact BR.ext Q σ hx rfl (fun i h => (key i h).elim id False.elim) h4
  · rcases h with h | ⟨b, L, blk, h1, h2, _⟩
    · exact hS.fb c i h
    · rw [← h2]; exact (hS.br b L h1).2.1

theorem mapO_A2 {α β : Type} {f : α → Option β} : ∀ {xs : List α} {ys : List β}, mapO f xs = some ys → A2 (fun x y => f x = some y) xs ys
  | [], ys, h => by simp only [mapO, Option.some.injEq] at h; subst h; exact A2.nil
  | x :: xs, ys, h => by
    simp only [mapO] at h
    split at h
    · simp at h
    · rename_i y hy
      split at h
      · simp at h
      · rename_i ys' hys
        simp only [Option.some.injEq] at h; subst h
        exact A2.cons hy (mapO_A2 hys)

/-- **A cell that is frozen stands, by value, for what it stood for.** -/
theorem frz (hS : SR Q σ X) (hF : FL X) {H : Heap} (hH : HExt H X.H) : ∀ (n : Nat) {x : C} {y : FC} {v : Value}, exC n H x = some y → Marked n H x → CR σ X x v → FCR σ X.F X.w y v
  | n, .f x, y, v, he, _, hv => by
    have : exC n H (.f x) = some x := by cases n <;> rfl
    rw [this] at he; cases he
    exact hv
  | 0, .ptr _ _ _, y, v, he, _, _ => by simp [exC] at he
  | 0, .sl _ _ _ _ _ _, y, v, he, _, _ => by simp [exC] at he
  | 0, .cl _ _, y, v, he, _, _ => by simp [exC] at he
  | 0, .yl _, y, v, he, _, _ => by simp [exC] at he
  | 0, .mp _, y, v, he, _, _ => by simp [exC] at he
  | 0, .it _, y, v, he, _, _ => by simp [exC] at he
  | 0, .bm _ _, y, v, he, _, _ => by simp [exC] at he
  | 0, .mi _, y, v, he, _, _ => by simp [exC] at he
  | n + 1, .ptr b off ep, y, v, he, hm, hv => by
    simp only [exC] at he
    split at he
    · rename_i cs fl hb
      simp only [Option.map_eq_some_iff] at he
      obtain ⟨ys, hys, rfl⟩ := he
      obtain ⟨hfl, hms⟩ := hm cs fl hb
      obtain ⟨blk', hb', hle⟩ := hH b _ hb
      cases blk' <;> simp only [blkLe, reduceCtorEq] at hle
      obtain ⟨rfl, hle⟩ := hle
      rename_i fl'
      obtain ⟨L, hL, hv⟩ := hv
      simp only [hb'] at hv
      subst hv
      obtain ⟨_, _, blk, hb2, hbr⟩ := hS.br b L hL
      rw [hb'] at hb2; cases hb2
      obtain ⟨us, hrow, hus, _⟩ := hbr
      have hys := mapO_A2 hys
      have := FCR.fp (σ := σ) (F := X.F) (w := X.w) ys off L.c 0 us (by rw [← hus.len, hys.len])
        (fun i hi => by rw [Nat.zero_add]; exact hF b L i _ hL hb' ⟨by have := hys.len; omega, by have := hys.len; omega⟩)
        (fun i u hu => by rw [Nat.zero_add, cell_row hrow]; exact hu)
        (fun i y u hy hu => by
          have hi : i < cs.length := by rw [hys.len]; exact (List.getElem?_eq_some_iff.1 hy).1
          have hx := List.getElem?_eq_getElem hi
          exact frz hS hF hH n (hys.2 i _ _ hx hy) (hms _ (List.getElem_mem hi)) (hus.2 i _ _ hx hu))
      rw [Nat.zero_add] at this
      exact this
    · simp at he
  | n + 1, .sl b o l c ep sz, y, v, he, hm, hv => by
    -- a row of the block, frozen
    have key : ∀ (cs : List C) (fl : Nat) (blk' : Blk) (L : Loc) (us rest : List Value) (ys : List FC) (cap : Nat), o + l * sz ≤ cs.length → o + l * sz ≤ fl →
        (∀ i, i < fl → i < cs.length → flagAt blk' i) → X.H[b]? = some blk' → X.rho b = some L → rowAt X.w L.c (us ++ rest) → A2 (CR σ X) cs us →
        (∀ x ∈ (cs.drop o).take (l * sz), Marked n H x) → mapO (exC n H) ((cs.drop o).take (l * sz)) = some ys → l ≤ cap → FCR σ X.F X.w (.fs ys l) (.slice (some ⟨L.c, o, none⟩) l cap) := by
      intro cs fl blk' L us rest ys cap hlen hfl hflag hb' hL hrow hus hms hys hcap
      have hys := mapO_A2 hys
      have hul := hus.len
      have hyl : ys.length = l * sz := by rw [← hys.len]; simp; omega
      have hsub := (hus.drop o).take (l * sz)
      refine .fs ys l L.c o cap ((us.drop o).take (l * sz)) hcap (by rw [hyl]; simp; omega) (fun i hi => hF b L _ _ hL hb' (hflag _ (by omega) (by omega))) (fun i u hu => ?_) (fun i y u hy hu => ?_)
      · have hi : i < l * sz := by
          have := (List.getElem?_eq_some_iff.1 hu).1
          simp at this; omega
        rw [cell_row hrow, List.getElem?_append_left (by omega)]
        rw [List.getElem?_take_of_lt hi, List.getElem?_drop] at hu
        exact hu
      · have hi : i < ((cs.drop o).take (l * sz)).length := by rw [hys.len]; exact (List.getElem?_eq_some_iff.1 hy).1
        have hx := List.getElem?_eq_getElem hi
        exact frz hS hF hH n (hys.2 i _ _ hx hy) (hms _ (List.getElem_mem hi)) (hsub.2 i _ _ hx hu)
    simp only [exC] at he
    simp only [CR, CR1] at hv
    split at he
    · rename_i cs fl hb
      split at he
      · rename_i hlen
        simp only [Option.map_eq_some_iff] at he
        obtain ⟨ys, hys, rfl⟩ := he
        obtain ⟨hfl, hms⟩ := hm _ hb
        obtain ⟨blk', hb', hle⟩ := hH b _ hb
        cases blk' <;> simp only [blkLe, reduceCtorEq] at hle
        obtain ⟨rfl, hle⟩ := hle
        rename_i fl'
        simp only [hb'] at hv
        obtain ⟨L, hL, hcap, rfl⟩ := hv
        obtain ⟨_, _, blk, hb2, hbr⟩ := hS.br b L hL
        rw [hb'] at hb2; cases hb2
        obtain ⟨us, hrow, hus, _⟩ := hbr
        exact key cs fl (.box cs fl') L us [] ys c hlen hfl (fun i h1 h2 => ⟨by omega, h2⟩) hb' hL (by simpa using hrow) hus hms hys hcap
      · simp at he
    · rename_i s cs fl e hb
      split at he
      · rename_i hlen
        obtain ⟨rfl, rfl, hlen⟩ := hlen
        simp only [Option.map_eq_some_iff] at he
        obtain ⟨ys, hys, rfl⟩ := he
        obtain ⟨hfl, hms⟩ := hm _ hb
        obtain ⟨blk', hb', hle⟩ := hH b _ hb
        cases blk' <;> simp only [blkLe, reduceCtorEq] at hle
        obtain ⟨rfl, rfl, hle, rfl, rfl⟩ := hle
        rename_i fl'
        simp only [hb'] at hv
        obtain ⟨L, hL, k, ho, hcap, rfl⟩ := hv.2.1 trivial trivial
        obtain ⟨_, _, blk, hb2, hbr⟩ := hS.br b L hL
        rw [hb'] at hb2; cases hb2
        obtain ⟨_, us, rest, hrow, hus, _⟩ := hbr
        exact key cs fl (.opn sz cs fl' ep .loc) L us rest ys _ hlen hfl (fun i h1 h2 => ⟨by omega, h2⟩) hb' hL hrow hus hms hys (by omega)
      · simp at he
    · rename_i s cs fl e hb
      split at he
      · rename_i hlen
        obtain ⟨rfl, rfl⟩ := hlen
        cases he
        obtain ⟨blk', hb', hle⟩ := hH b _ hb
        cases blk' <;> simp only [blkLe, reduceCtorEq] at hle
        obtain ⟨rfl, rfl, hle, rfl, rfl⟩ := hle
        simp only [hb'] at hv
        obtain ⟨_, _, rfl⟩ := hv.2.1 trivial trivial
        exact .nils
      · simp at he
    · rename_i s cs fl e hb
      split at he
      · rename_i hlen
        obtain ⟨rfl, rfl⟩ := hlen
        cases he
        obtain ⟨blk', hb', hle⟩ := hH b _ hb
        cases blk' <;> simp only [blkLe, reduceCtorEq] at hle
        obtain ⟨rfl, rfl, hle, rfl, rfl⟩ := hle
        simp only [hb'] at hv
        obtain ⟨_, _, a, rfl⟩ := hv.2.1 trivial trivial
        exact .es a
      · simp at he
    · simp at he
  | n + 1, .cl f caps, y, v, he, hm, hv => by
    simp only [exC, Option.map_eq_some_iff] at he
    obtain ⟨ys, hys, rfl⟩ := he
    obtain ⟨us, rfl, hus⟩ := hv
    have hys := mapO_A2 hys
    refine .fn f ys us (by rw [← hus.len, hys.len]) fun i y u hy hu => ?_
    have hi : i < caps.length := by rw [hys.len]; exact (List.getElem?_eq_some_iff.1 hy).1
    have hx := List.getElem?_eq_getElem hi
    exact frz hS hF hH n (hys.2 i _ _ hx hy) (hm _ (List.getElem_mem hi)) (CR.of1 σ (hus.2 i _ _ hx hu))
  | n + 1, .yl _, y, v, he, _, _ => by simp [exC] at he
  | n + 1, .mp _, y, v, he, _, _ => by simp [exC] at he
  | n + 1, .it _, y, v, he, _, _ => by simp [exC] at he
  | n + 1, .bm _ _, y, v, he, _, _ => by simp [exC] at he
  | n + 1, .mi _, y, v, he, _, _ => by simp [exC] at he

end Km
end

section
namespace Km
open Go

variable {Q : Program} {σ : Nat → FuncId} {X : Wd}

def MarkedV (n : Nat) (H : Heap) : V → Prop
  | .c x => Marked n H x
  | .a xs => ∀ x ∈ xs, Marked n H x
  | _ => True

theorem MarkedV.le {n : Nat} {H H' : Heap} (h : HLe H H') {v : V} (hm : MarkedV n H v) : MarkedV n H' v := by
  cases v with
  | c x => exact Marked.le n h hm
  | a xs => exact fun x hx => Marked.le n h (hm x hx)
  | _ => trivial

theorem mkV_le (n : Nat) (v : V) (H : Heap) : HLe H (mkV n H v) := by
  cases v with
  | c x => exact mkC_le n x H
  | a xs => exact HLe.foldl (fun H x => mkC_le n x H) xs H
  | _ => exact HLe.refl H

theorem mkV_marked (n : Nat) (v : V) (H : Heap) : MarkedV n (mkV n H v) v := by
  cases v with
  | c x => exact mkC_marked n x H
  | a xs => exact fun x hx => marked_foldl (fun x H => mkC_marked n x H) xs H x hx
  | _ => trivial

theorem mkVs_le (n : Nat) : ∀ (vs : List V) (H : Heap), HLe H (vs.foldl (mkV n) H)
  | [], H => HLe.refl H
  | v :: vs, H => (mkV_le n v H).trans (mkVs_le n vs _)

theorem mkVs_marked (n : Nat) : ∀ (vs : List V) (H : Heap), ∀ v ∈ vs, MarkedV n (vs.foldl (mkV n) H) v
  | u :: vs, H, v, hv => by
    rcases List.mem_cons.1 hv with rfl | hv
    · exact (mkV_marked n v H).le (mkVs_le n vs _)
    · exact mkVs_marked n vs _ v hv

/-- A value of frozen cells alone, at frozen cells F of a world. -/
def FV1 (σ : Nat → FuncId) (F : Nat → Nat → Prop) (w : World) (v : V) (u : Value) : Prop := ∀ X : Wd, X.F = F → X.w = w → VR1 σ X v u
def FV (σ : Nat → FuncId) (F : Nat → Nat → Prop) (w : World) (v : V) (u : Value) : Prop := ∀ X : Wd, X.F = F → X.w = w → VR σ X v u

theorem frzV1 (hS : SR Q σ X) (hF : FL X) {H : Heap} (hH : HExt H X.H) {n : Nat} {v v' : V} {u : Value} (he : exV1 n H v = some v') (hm : MarkedV n H v) (hv : VR1 σ X v u) : FV1 σ X.F X.w v' u := by
  intro Z hZF hZw
  cases v with
  | c x =>
    simp only [exV1, Option.map_eq_some_iff] at he
    obtain ⟨y, hy, rfl⟩ := he
    have := frz hS hF hH n hy hm hv
    rw [← hZF, ← hZw] at this
    exact this
  | a xs =>
    simp only [exV1, Option.map_eq_some_iff] at he
    obtain ⟨ys, hys, rfl⟩ := he
    obtain ⟨us, rfl, hus⟩ := hv
    have hys := mapO_A2 hys
    refine ⟨us, rfl, A2.map ⟨by rw [← hus.len, hys.len], fun i y u hy hu => ?_⟩⟩
    have hi : i < xs.length := by rw [hys.len]; exact (List.getElem?_eq_some_iff.1 hy).1
    have hx := List.getElem?_eq_getElem hi
    have := frz hS hF hH n (hys.2 i _ _ hx hy) (hm _ (List.getElem_mem hi)) (hus.2 i _ _ hx hu)
    rw [← hZF, ← hZw] at this
    exact this
  | top => simp [exV1] at he
  | t vs => simp [exV1] at he

def Blk.full : Blk → Blk
  | .box cs fl => .box cs (Nat.max fl cs.length)
  | .opn s cs fl e st => .opn s cs (Nat.max fl cs.length) e st
  | b => b

theorem full_le (H : Heap) : HLe H (H.map Blk.full) := by
  refine ⟨by simp, fun b x y hx hy => ?_⟩
  rw [List.getElem?_map, hx] at hy
  simp only [Option.map_some, Option.some.injEq] at hy
  subst hy
  cases x <;> simp [blkLe, Blk.full, Nat.le_max_left]

theorem full_marked : ∀ (n : Nat) {H : Heap} {x : C} {y : FC}, exC n H x = some y → Marked n (H.map Blk.full) x
  | n, H, .f _, y, _ => by cases n <;> trivial
  | 0, H, .ptr _ _ _, y, _ => trivial
  | 0, H, .sl _ _ _ _ _ _, y, _ => trivial
  | 0, H, .cl _ _, y, _ => trivial
  | 0, H, .yl _, y, _ => trivial
  | 0, H, .mp _, y, _ => trivial
  | 0, H, .it _, y, _ => trivial
  | 0, H, .bm _ _, y, _ => trivial
  | 0, H, .mi _, y, _ => trivial
  | n + 1, H, .ptr b off ep, y, he => by
    intro cs fl hb
    rw [List.getElem?_map] at hb
    simp only [exC] at he
    split at he
    · rename_i cs' fl' hb'
      rw [hb'] at hb
      simp only [Option.map_some, Option.some.injEq, Blk.full, Blk.box.injEq] at hb
      obtain ⟨rfl, rfl⟩ := hb
      simp only [Option.map_eq_some_iff] at he
      obtain ⟨ys, hys, rfl⟩ := he
      refine ⟨Nat.le_max_right _ _, fun x hx => ?_⟩
      obtain ⟨i, hi⟩ := List.getElem?_of_mem hx
      obtain ⟨y, _, hy⟩ := (mapO_A2 hys).get hi
      exact full_marked n hy
    · simp at he
  | n + 1, H, .sl b o l c ep sz, y, he => by
    intro blk hb
    rw [List.getElem?_map] at hb
    simp only [exC] at he
    split at he
    · rename_i cs' fl' hb'
      rw [hb'] at hb
      simp only [Option.map_some, Option.some.injEq, Blk.full] at hb
      subst hb
      split at he
      · rename_i hlen
        simp only [Option.map_eq_some_iff] at he
        obtain ⟨ys, hys, rfl⟩ := he
        refine ⟨Nat.le_trans hlen (Nat.le_max_right _ _), fun x hx => ?_⟩
        obtain ⟨i, hi⟩ := List.getElem?_of_mem hx
        obtain ⟨y, _, hy⟩ := (mapO_A2 hys).get hi
        exact full_marked n hy
      · simp at he
    · rename_i s cs' fl' e hb'
      rw [hb'] at hb
      simp only [Option.map_some, Option.some.injEq, Blk.full] at hb
      subst hb
      split at he
      · rename_i hlen
        simp only [Option.map_eq_some_iff] at he
        obtain ⟨ys, hys, rfl⟩ := he
        refine ⟨Nat.le_trans hlen.2.2 (Nat.le_max_right _ _), fun x hx => ?_⟩
        obtain ⟨i, hi⟩ := List.getElem?_of_mem hx
        obtain ⟨y, _, hy⟩ := (mapO_A2 hys).get hi
        exact full_marked n hy
      · simp at he
    · rename_i s cs' fl' e hb'
      rw [hb'] at hb
      simp only [Option.map_some, Option.some.injEq, Blk.full] at hb
      subst hb; trivial
    · rename_i s cs' fl' e hb'
      rw [hb'] at hb
      simp only [Option.map_some, Option.some.injEq, Blk.full] at hb
      subst hb; trivial
    · simp at he
  | n + 1, H, .cl f caps, y, he => by
    simp only [exC, Option.map_eq_some_iff] at he
    obtain ⟨ys, hys, rfl⟩ := he
    intro x hx
    obtain ⟨i, hi⟩ := List.getElem?_of_mem hx
    obtain ⟨y, _, hy⟩ := (mapO_A2 hys).get hi
    exact full_marked n hy
  | n + 1, H, .yl _, y, he => trivial
  | n + 1, H, .mp _, y, he => trivial
  | n + 1, H, .it _, y, he => trivial
  | n + 1, H, .bm _ _, y, he => trivial
  | n + 1, H, .mi _, y, he => trivial

theorem full_markedV {n : Nat} {H : Heap} {v v' : V} (he : exV1 n H v = some v') : MarkedV n (H.map Blk.full) v := by
  cases v with
  | c x =>
    simp only [exV1, Option.map_eq_some_iff] at he
    obtain ⟨y, hy, rfl⟩ := he
    exact full_marked n hy
  | a xs =>
    simp only [exV1, Option.map_eq_some_iff] at he
    obtain ⟨ys, hys, rfl⟩ := he
    intro x hx
    obtain ⟨i, hi⟩ := List.getElem?_of_mem hx
    obtain ⟨y, _, hy⟩ := (mapO_A2 hys).get hi
    exact full_marked n hy
  | _ => trivial

/-- The world in which a function that is called by value begins. -/
def Wd.inner (X : Wd) : Wd := ⟨fun _ => none, X.F, [], X.w, X.w.heap.size⟩

theorem SR.inner (hS : SR Q σ X) : SR Q σ X.inner := ⟨fun b L h => by simp [Wd.inner] at h, fun b b' L L' h => by simp [Wd.inner] at h, hS.fb⟩

/-- All that it has laid is frozen. -/
def Wd.fullF (Y : Wd) : Wd := Wd.flag { Y with H := Y.H.map Blk.full }

theorem SR.fullF {Y : Wd} (hS : SR Q σ Y) : SR Q σ Y.fullF ∧ Ext Y.H.length Y Y.fullF ∧ FL Y.fullF := by
  obtain ⟨h1, h2⟩ := SR.ahead hS (full_le Y.H).ext
  obtain ⟨h3, h4, h5⟩ := SR.flag h1
  exact ⟨h3, h2.trans (h4.mono (by simp)), h5⟩

/-- Its result by value. -/
theorem frz_result {Y : Wd} (hS : SR Q σ Y) {n : Nat} {v v' : V} {u : Value} (he : exV n Y.H v = some v') (hv : VR σ Y v u) : FV σ Y.fullF.F Y.w v' u := by
  obtain ⟨h1, h2, h3⟩ := SR.fullF hS
  have hv' := VR.ext' σ h2 hv
  have one : ∀ {v v' : V} {u : Value}, exV1 n Y.H v = some v' → VR1 σ Y.fullF v u → FV1 σ Y.fullF.F Y.w v' u := by
    intro v v' u he hv
    have he' : exV1 n Y.fullF.H v = some v' := by
      show exV1 n (Y.H.map Blk.full) v = some v'
      cases v with
      | c x => simp only [exV1] at he ⊢; rw [exC_le n (full_le Y.H)]; exact he
      | a xs => simp only [exV1] at he ⊢; rw [mapO_congr (fun x _ => exC_le n (full_le Y.H) x)]; exact he
      | _ => simp [exV1] at he
    exact frzV1 h1 h3 (HExt.refl _) he' (full_markedV he) hv
  intro Z hZF hZw
  cases v with
  | t vs =>
    simp only [exV, Option.map_eq_some_iff] at he
    obtain ⟨vs', hvs, rfl⟩ := he
    obtain ⟨us, rfl, hus⟩ := hv'
    have hvs := mapO_A2 hvs
    refine ⟨us, rfl, by rw [← hus.len, hvs.len], fun i y u hy hu => ?_⟩
    have hi : i < vs.length := by rw [hvs.len]; exact (List.getElem?_eq_some_iff.1 hy).1
    have hx := List.getElem?_eq_getElem hi
    exact one (hvs.2 i _ _ hx hy) (hus.2 i _ _ hx hu) Z hZF hZw
  | c x => exact VR.of1 σ (one (v := .c x) he hv' Z hZF hZw)
  | a xs => exact VR.of1 σ (one (v := .a xs) he hv' Z hZF hZw)
  | top => simp [exV, exV1] at he

/-- **Behind a call by value.** -/
theorem SR.outer (hS : SR Q σ X) (hB : X.B ≤ X.w.heap.size) {Y : Wd} (hY : SR Q σ Y) (hx : Ext 0 X.inner Y) :
    SR Q σ { X with F := Y.fullF.F, w := Y.w } ∧ Ext X.H.length X { X with F := Y.fullF.F, w := Y.w } ∧ X.B ≤ Y.w.heap.size := by
  obtain ⟨h1, h2, h3⟩ := SR.fullF hY
  have hsz : X.w.heap.size ≤ Y.w.heap.size := hx.size
  have hblk : ∀ k, k < X.w.heap.size → Y.w.heap[k]? = X.w.heap[k]? := fun k hk => hx.frame k hk (fun b L h => by simp [Wd.inner] at h)
  have hnew : ∀ c i, Y.fullF.F c i → X.F c i ∨ X.w.heap.size ≤ c := by
    intro c i h
    rcases h2.Fnew c i h with h | h | ⟨b, L, hb, rfl⟩
    · rcases hx.Fnew c i h with h | h | ⟨b, L, hb, _⟩
      · exact .inl h
      · exact .inr h
      · simp [Wd.inner] at hb
    · exact .inr (Nat.le_trans hsz h)
    · have := (hY.br b L hb).1
      rw [hx.B] at this
      exact .inr this
  have hext : Ext X.H.length X { X with F := Y.fullF.F, w := Y.w } :=
    { B := rfl, F := fun c i h => h2.F c i (hx.F c i h)
      Fnew := fun c i h => (hnew c i h).elim .inl fun h => .inr (.inl h)
      fw := fun c i h => hx.fw c i h
      keep := fun b _ blk hb => ⟨blk, hb, by cases blk <;> simp⟩
      img := fun b L h => .inl ⟨b, L, h, rfl⟩, size := hsz, os := hx.os, tape := hx.tape, output := hx.output, frame := fun k hk _ => hblk k hk }
  refine ⟨⟨fun b L hb => ?_, hS.inj, fun c i h => h1.fb c i h⟩, hext, Nat.le_trans hB hsz⟩
  obtain ⟨g1, g2, blk, g3, g4⟩ := hS.br b L hb
  refine ⟨g1, Nat.lt_of_lt_of_le g2 hsz, blk, g3, BR.ext Q σ hext (hblk _ g2) (fun i h => ?_) g4⟩
  rcases hnew _ _ h with h | h
  · exact h
  · omega

end Km
end

section
namespace Km
open Go

variable {Q : Program} {σ : Nat → FuncId} {X : Wd}

/-- Behind something that was done in world X. -/
def Post (Q : Program) (σ : Nat → FuncId) (X : Wd) (v : V) (H' : Heap) (X' : Wd) (u : Value) : Prop :=
  X'.H = H' ∧ SR Q σ X' ∧ VR σ X' v u ∧ Ext X.H.length X X' ∧ X'.B ≤ X'.w.heap.size

/-- Who may be called from where: a deferred call comes from a frame that returns. -/
def okKind (kind : CallKind) (cs : List Frame) : Prop := kind = .normal ∨ (kind = .deferred ∧ ∃ c rest, cs = c :: rest ∧ c.mode = .returning)

def okFrame (b : Frame) (cs : List Frame) : Prop := okKind b.kind cs

theorem okKind.noRecover {fr : Frame} {cs : List Frame} (h : okKind fr.kind cs) : tryRecover fr cs = none := by
  unfold tryRecover
  rcases h with h | ⟨h, c, rest, rfl, hm⟩
  · rw [h]
  · rw [h]; simp [hm]

def Leaves (Q : Program) (f : FuncId) (kind : CallKind) (fr : Frame) (u : Value) (w : World) : Prop :=
  fr.mode = .returning ∧ fr.defers = [] ∧ fr.kind = kind ∧ fr.fn = f ∧ ∃ fn, Q.funcs[f]? = some fn ∧ (Go.results fn fr.tmps).run Q w = .ok u w

/-- What a sound 'call' does. -/
structure CallOK (Q : Program) (σ : Nat → FuncId) (call : CallF) : Prop where
  enters : ∀ f args H r, call (.fn f) args H = some r → ∀ as w, (callFunc (σ f) as).run Q w = .ok (.enter (σ f) as) w
  fn : ∀ f args H r H', call (.fn f) args H = some (r, H') → ∀ (X : Wd) us kind cs, X.H = H → SR Q σ X → X.B ≤ X.w.heap.size → A2 (VR σ X) args us → okKind kind cs →
    ∃ fr X' u, Steps Q (lone (Frame.enter Q (σ f) us.toArray kind) cs X.w) (lone fr cs X'.w) ∧ Leaves Q (σ f) kind fr u X'.w ∧ Post Q σ X r H' X' u
  yield : ∀ b args H r H', call (.yield b) args H = some (r, H') → ∀ (X : Wd) us c cs L, X.H = H → SR Q σ X → X.B ≤ X.w.heap.size → A2 (VR σ X) args us → X.rho b = some L →
    ∃ f tmps as bd X' u, (Instr.yield L.c us.toArray).run Q X.w = .ok (.round L.c f tmps as bd) X.w ∧
      Steps Q (lone (Frame.round L.c f tmps as bd .normal) (c :: cs) X.w) (lone (c.finish u) cs X'.w) ∧ Post Q σ X r H' X' u

/-- An operation in its frame: what it writes, and the heap behind it. -/
def OpSteps (Q : Program) (σ : Nat → FuncId) (X : Wd) (o : Oper) (a : Act) (v : V) (H' : Heap) : Prop :=
  ∀ (b : Frame) (ops : Array Oper) (i : Nat) (rest : List Nat) (k : List Item) (cs : List Frame), ops[i]? = some o → Region.wanted o (yielded ops a.tmps) = true → okFrame b cs →
    ∃ X' u, Steps Q (lone (b.atR a (.inRegion ops (i :: rest) :: k)) cs X.w) (lone (b.atR (a.put o.dst u) (.inRegion ops rest :: k)) cs X'.w) ∧ Post Q σ X v H' X' u

theorem kind_inRegion {b : Frame} {a : Act} {ops : Array Oper} {l : List Nat} {k : List Item} : (match (b.atR a (.inRegion ops l :: k)).todo with | .call _ true _ _ :: _ => CallKind.wrapped | _ => .normal) = .normal := rfl

theorem OpSteps.of_ok {o : Oper} {a : Act} {v : V} {H' : Heap} (hd : ∀ c, o.op ≠ .defer c) (h : OpOK Q σ X v H' (execOp a.eval o)) : OpSteps Q σ X o a v H' := by
  intro b ops i rest k cs ho hw hk
  obtain ⟨u, X', hrun, h1, h2, h3, h4, h5⟩ := h
  refine ⟨X', u, .one (step_lone_go ?_), h1, h2, h3, h4, h5⟩
  rw [stepGR_op ho hw, Oper.semAt_eq _ _ _ hd]
  have hfin := Frame.finish_atR b a ops i rest k u
  rw [ho] at hfin
  simp only [Option.bind_some] at hfin
  rw [← hfin]
  rcases hrun with hrun | ⟨hrun, rfl⟩ <;> simp [stepG.apply, Sem.runT_eq, hrun]

/-- An operation that enters a function. -/
theorem OpSteps.of_enter {o : Oper} {a : Act} {v : V} {H' : Heap} (hd : ∀ c, o.op ≠ .defer c) {f : FuncId} {us : Array Value} (hrun : (execOp a.eval o).run Q X.w = .ok (.enter f us) X.w)
    (h : ∀ cs, ∃ fr X' u, Steps Q (lone (Frame.enter Q f us .normal) cs X.w) (lone fr cs X'.w) ∧ Leaves Q f .normal fr u X'.w ∧ Post Q σ X v H' X' u) : OpSteps Q σ X o a v H' := by
  intro b ops i rest k cs ho hw hk
  obtain ⟨fr, X', u, h1, ⟨l1, l2, l3, l4, fn, l5, l6⟩, h3⟩ := h (b.atR a (.inRegion ops (i :: rest) :: k) :: cs)
  refine ⟨X', u, .head (step_lone_go (fr' := Frame.enter Q f us .normal) (cs' := b.atR a (.inRegion ops (i :: rest) :: k) :: cs) (w' := X.w) ?_) (h1.trans (.one ?_)), h3⟩
  · rw [stepGR_op ho hw, Oper.semAt_eq _ _ _ hd]
    simp [stepG.apply, Sem.runT_eq, hrun, Frame.atR]
  · have hfin := Frame.finish_atR b a ops i rest k u
    rw [ho] at hfin
    simp only [Option.bind_some] at hfin
    rw [← hfin]
    exact step_leave_returned ⟨l1, l2, l3, fn, by rw [l4]; exact l5, l6⟩

/-- An operation that yields to a loop's body. -/
theorem OpSteps.of_round {o : Oper} {a : Act} {v : V} {H' : Heap} (hd : ∀ c, o.op ≠ .defer c) {l : Nat} {f : FuncId} {tmps : Array Value} {as bd : Code} (hrun : (execOp a.eval o).run Q X.w = .ok (.round l f tmps as bd) X.w)
    (h : ∀ c cs, ∃ X' u, Steps Q (lone (Frame.round l f tmps as bd .normal) (c :: cs) X.w) (lone (c.finish u) cs X'.w) ∧ Post Q σ X v H' X' u) : OpSteps Q σ X o a v H' := by
  intro b ops i rest k cs ho hw hk
  obtain ⟨X', u, h1, h3⟩ := h (b.atR a (.inRegion ops (i :: rest) :: k)) cs
  refine ⟨X', u, .head (step_lone_go (fr' := Frame.round l f tmps as bd .normal) (cs' := b.atR a (.inRegion ops (i :: rest) :: k) :: cs) (w' := X.w) ?_) ?_, h3⟩
  · rw [stepGR_op ho hw, Oper.semAt_eq _ _ _ hd]
    simp [stepG.apply, Sem.runT_eq, hrun, Frame.atR]
  · have hfin := Frame.finish_atR b a ops i rest k u
    rw [ho] at hfin
    simp only [Option.bind_some] at hfin
    rw [← hfin]
    exact h1

/-- Who is called. -/
theorem calleeV_ok {x : V} {u : Value} {args : List V} {us : List Value} {c : Callee} {args' : List V} (hc : calleeV x args = some (c, args')) (hx : VR σ X x u) (ha : A2 (VR σ X) args us) :
    match c with
    | .fn f => ∃ fst cap : List Value, u = .func (.func (σ f)) fst.toArray cap.toArray ∧ A2 (VR σ X) args' (fst ++ us ++ cap)
    | .yield b => args' = args ∧ ∃ L, X.rho b = some L ∧ u = .func (.yield L.c) #[] #[] := by
  unfold calleeV at hc
  split at hc
  · rename_i f caps
    cases hc
    cases hx with
    | fn _ _ cap hl hr =>
      refine ⟨[], cap, rfl, ha.append (A2.map ⟨hl.symm, fun i x u hx hu => ?_⟩)⟩
      exact hr i x u hx hu
  · rename_i f caps
    cases hc
    obtain ⟨cap, rfl, hcap⟩ := hx
    exact ⟨[], cap, rfl, ha.append (A2.map (hcap.imp fun x u h => CR.of1 σ h))⟩
  · rename_i b
    cases hc
    obtain ⟨L, hL, _, rfl⟩ := hx
    exact ⟨rfl, L, hL, rfl⟩
  · rename_i f first
    cases hc
    obtain ⟨cap, rfl, hcap⟩ := hx
    have h1 : A2 (VR σ X) (first.map .c) cap := A2.map (hcap.imp fun x u h => CR.of1 σ h)
    exact ⟨cap, [], rfl, by simpa using h1.append ha⟩
  · simp at hc

/-- The model's call of a function value. -/
theorem run_callVal {a : Act} {o : Oper} {cl : Call} {y : Operand} (ho : o.op = .call cl) (hy : cl.callee = .value y) {w : World} {fn : Fn} {fst cap : Array Value} (hv : a.eval y = .func fn fst cap) :
    (execOp a.eval o).run Q w = (invoke (.fn fn cap) (fst ++ cl.args.map a.eval)).run Q w := by
  simp only [execOp, ho, resolve, hy, hv, Deferred.ofValue, Sem.run_bind, Sem.run_pure, Result.andThen_ok]

theorem run_invoke_fn {f : FuncId} {cap as : Array Value} {w : World} (h : ∀ as w, (callFunc f as).run Q w = .ok (.enter f as) w) : (invoke (.fn (.func f) cap) as).run Q w = .ok (.enter f (as ++ cap)) w := by
  simp only [invoke]; exact h _ _

end Km
end

