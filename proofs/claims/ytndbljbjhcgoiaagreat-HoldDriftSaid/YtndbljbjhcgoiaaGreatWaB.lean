/-
  HoldOrder, walked: it returns true at every input.
-/
import Derived.Test.YtndbljbjhcgoiaaGreatWaA
import Derived.Deep.RegionHeld3
import Derived.Test.YtndbljbjhcgoiaaGreatSane

set_option linter.unusedVariables false
set_option linter.unusedSimpArgs false
set_option linter.unusedSectionVars false

set_option linter.unusedSimpArgs false
set_option linter.unusedVariables false
namespace Go.Proofs.YtndbljbjhcgoiaaGreat
open Go Go.RowKit

theorem arr_cells (w w1 : World) (a b c : Int) (hb : Below (w.alloc (.cells #[.int .i64 a, .int .i64 b, .int .i64 c] 31)).heap.size (w.alloc (.cells #[.int .i64 a, .int .i64 b, .int .i64 c] 31)) w1) :
    w1.cell? ⟨w.heap.size, 0, none⟩ = some (.int .i64 a) ∧ w1.cell? ⟨w.heap.size, 1, none⟩ = some (.int .i64 b) ∧ w1.cell? ⟨w.heap.size, 2, none⟩ = some (.int .i64 c) := by
  have hs : w.heap.size < (w.alloc (.cells #[.int .i64 a, .int .i64 b, .int .i64 c] 31)).heap.size := by simp
  refine ⟨(hb.cell (p := ⟨w.heap.size, 0, none⟩) hs).trans ?_, (hb.cell (p := ⟨w.heap.size, 1, none⟩) hs).trans ?_, (hb.cell (p := ⟨w.heap.size, 2, none⟩) hs).trans ?_⟩ <;> simp [World.cell?_alloc_at]

theorem arr_below (w w1 : World) (x : Obj) (hb : Below (w.alloc x).heap.size (w.alloc x) w1) : Below w.heap.size w w1 :=
  ((Below.refl _ w).alloc (Nat.le_refl _) x).trans (hb.mono (by simp))


theorem safe_iff {a b d : Int} : safe a b d = true ↔ (0 ≤ d ∧ d ≤ 2251799813685248) ∧ (-2251799813685248 ≤ a ∧ a ≤ 2251799813685248) ∧ (-2251799813685248 ≤ b ∧ b ≤ 2251799813685248) ∧ a + d < b - d := by
  simp [safe, momentB, nearB, and_assoc]
theorem safe_not {a b d : Int} : safe a b d = false ↔ ¬ ((0 ≤ d ∧ d ≤ 2251799813685248) ∧ (-2251799813685248 ≤ a ∧ a ≤ 2251799813685248) ∧ (-2251799813685248 ≤ b ∧ b ≤ 2251799813685248) ∧ a + d < b - d) := by
  rw [← safe_iff, Bool.not_eq_true]

set_option maxRecDepth 100000 in
set_option maxHeartbeats 1000000 in
theorem order_0 (a b c d n : Int) (w : World) (hA : safe a b d = false) :
    Calls Tryz.prog 4 #[.agg #[.int .i64 a, .int .i64 b, .int .i64 c], .int .i64 d, .int .u8 n] w fun e w' => e = .returned (.bool true) ∧ Below w.heap.size w w' := by
  go_enter Tryz.func4, Tryz.ntmps4
  go_wp2_with (go_at_call 5; refine (sane _).mono ?_; rintro e w1 ⟨rfl, hb⟩; obtain ⟨c0, c1, c2⟩ := arr_cells w w1 a b c hb; have hb1 := arr_below w w1 _ hb; clear hb)
  go_region_held3 (fun w' => w'.cell? ⟨w.heap.size, 0, none⟩ = some (.int .i64 a) ∧ w'.cell? ⟨w.heap.size, 1, none⟩ = some (.int .i64 b) ∧ w'.cell? ⟨w.heap.size, 2, none⟩ = some (.int .i64 c)) (first | assumption | simp [go_sem, *])
    (first | (go_at_call 8; refine (safe_any _ _ _ _).mono ?_; rintro e w2 ⟨rfl, hw⟩; simp only [hw, hA]; clear hw w2))
  go_wp2_with (go_at_call 8; refine (safe_any _ _ _ _).mono ?_; rintro e w2 ⟨rfl, hw⟩; simp only [hw, hA]; clear hw w2)
  go_ret
  exact ⟨rfl, hb1.drew⟩

set_option maxRecDepth 100000 in
set_option maxHeartbeats 1000000 in
theorem order_t1 (a b c d n : Int) (w : World) (hA : safe a b d = true) (hR : safe b a d = false) (hB : safe b c d = true) (hC : safe a c d = true) (g1 : a < -1125899906842624) :
    Calls Tryz.prog 4 #[.agg #[.int .i64 a, .int .i64 b, .int .i64 c], .int .i64 d, .int .u8 n] w fun e w' => e = .returned (.bool true) ∧ Below w.heap.size w w' := by
  go_enter Tryz.func4, Tryz.ntmps4
  go_wp2_with (go_at_call 5; refine (sane _).mono ?_; rintro e w1 ⟨rfl, hb⟩; obtain ⟨c0, c1, c2⟩ := arr_cells w w1 a b c hb; have hb1 := arr_below w w1 _ hb; clear hb)
  go_region_held3 (fun w' => w'.cell? ⟨w.heap.size, 0, none⟩ = some (.int .i64 a) ∧ w'.cell? ⟨w.heap.size, 1, none⟩ = some (.int .i64 b) ∧ w'.cell? ⟨w.heap.size, 2, none⟩ = some (.int .i64 c)) (first | assumption | simp [go_sem, *])
    (first | (go_at_call 8; refine (safe_any _ _ _ _).mono ?_; rintro e w2 ⟨rfl, hw⟩; simp only [hw, hA, hR, hB, hC]; clear hw w2))
  go_wp2_with (go_at_call 8; refine (safe_any _ _ _ _).mono ?_; rintro e w2 ⟨rfl, hw⟩; simp only [hw, hA, hR, hB, hC]; clear hw w2)
  go_ret
  exact ⟨rfl, hb1.drew⟩

set_option maxRecDepth 100000 in
set_option maxHeartbeats 1000000 in
theorem order_t2 (a b c d n : Int) (w : World) (hA : safe a b d = true) (hR : safe b a d = false) (hB : safe b c d = true) (hC : safe a c d = true) (g1 : ¬ a < -1125899906842624) (g2 : 1125899906842624 < b) :
    Calls Tryz.prog 4 #[.agg #[.int .i64 a, .int .i64 b, .int .i64 c], .int .i64 d, .int .u8 n] w fun e w' => e = .returned (.bool true) ∧ Below w.heap.size w w' := by
  go_enter Tryz.func4, Tryz.ntmps4
  go_wp2_with (go_at_call 5; refine (sane _).mono ?_; rintro e w1 ⟨rfl, hb⟩; obtain ⟨c0, c1, c2⟩ := arr_cells w w1 a b c hb; have hb1 := arr_below w w1 _ hb; clear hb)
  go_region_held3 (fun w' => w'.cell? ⟨w.heap.size, 0, none⟩ = some (.int .i64 a) ∧ w'.cell? ⟨w.heap.size, 1, none⟩ = some (.int .i64 b) ∧ w'.cell? ⟨w.heap.size, 2, none⟩ = some (.int .i64 c)) (first | assumption | simp [go_sem, *])
    (first | (go_at_call 8; refine (safe_any _ _ _ _).mono ?_; rintro e w2 ⟨rfl, hw⟩; simp only [hw, hA, hR, hB, hC]; clear hw w2))
  go_wp2_with (go_at_call 8; refine (safe_any _ _ _ _).mono ?_; rintro e w2 ⟨rfl, hw⟩; simp only [hw, hA, hR, hB, hC]; clear hw w2)
  go_ret
  exact ⟨rfl, hb1.drew⟩

set_option maxRecDepth 100000 in
set_option maxHeartbeats 1000000 in
theorem order_t3 (a b c d n : Int) (w : World) (hA : safe a b d = true) (hR : safe b a d = false) (hB : safe b c d = true) (hC : safe a c d = true) (g1 : ¬ a < -1125899906842624) (g2 : ¬ 1125899906842624 < b) (e0 : IntKind.wrap .i64 n = n) (e1 : IntKind.wrap .i64 (a - n) = a - n) (e2 : IntKind.wrap .i64 (b + n) = b + n) (e3 : IntKind.wrap .i64 (d - n) = d - n) (s1 : safe (a - n) b d = true) (s2 : safe a (b + n) d = true) (g3 : d < n) :
    Calls Tryz.prog 4 #[.agg #[.int .i64 a, .int .i64 b, .int .i64 c], .int .i64 d, .int .u8 n] w fun e w' => e = .returned (.bool true) ∧ Below w.heap.size w w' := by
  go_enter Tryz.func4, Tryz.ntmps4
  go_wp2_with (go_at_call 5; refine (sane _).mono ?_; rintro e w1 ⟨rfl, hb⟩; obtain ⟨c0, c1, c2⟩ := arr_cells w w1 a b c hb; have hb1 := arr_below w w1 _ hb; clear hb)
  go_region_held3 (fun w' => w'.cell? ⟨w.heap.size, 0, none⟩ = some (.int .i64 a) ∧ w'.cell? ⟨w.heap.size, 1, none⟩ = some (.int .i64 b) ∧ w'.cell? ⟨w.heap.size, 2, none⟩ = some (.int .i64 c)) (first | assumption | simp [go_sem, *])
    (first | (go_at_call 8; refine (safe_any _ _ _ _).mono ?_; rintro e w2 ⟨rfl, hw⟩; simp only [hw, hA, hR, hB, hC, e0, e1, e2, s1, s2]; clear hw w2))
  go_wp2_with (go_at_call 8; refine (safe_any _ _ _ _).mono ?_; rintro e w2 ⟨rfl, hw⟩; simp only [hw, hA, hR, hB, hC, e0, e1, e2, s1, s2]; clear hw w2)
  go_ret
  exact ⟨rfl, hb1.drew⟩

set_option maxRecDepth 100000 in
set_option maxHeartbeats 1000000 in
theorem order_t4 (a b c d n : Int) (w : World) (hA : safe a b d = true) (hR : safe b a d = false) (hB : safe b c d = true) (hC : safe a c d = true) (g1 : ¬ a < -1125899906842624) (g2 : ¬ 1125899906842624 < b) (e0 : IntKind.wrap .i64 n = n) (e1 : IntKind.wrap .i64 (a - n) = a - n) (e2 : IntKind.wrap .i64 (b + n) = b + n) (e3 : IntKind.wrap .i64 (d - n) = d - n) (s1 : safe (a - n) b d = true) (s2 : safe a (b + n) d = true) (g3 : ¬ d < n) (s3 : safe a b (d - n) = true) :
    Calls Tryz.prog 4 #[.agg #[.int .i64 a, .int .i64 b, .int .i64 c], .int .i64 d, .int .u8 n] w fun e w' => e = .returned (.bool true) ∧ Below w.heap.size w w' := by
  go_enter Tryz.func4, Tryz.ntmps4
  go_wp2_with (go_at_call 5; refine (sane _).mono ?_; rintro e w1 ⟨rfl, hb⟩; obtain ⟨c0, c1, c2⟩ := arr_cells w w1 a b c hb; have hb1 := arr_below w w1 _ hb; clear hb)
  go_region_held3 (fun w' => w'.cell? ⟨w.heap.size, 0, none⟩ = some (.int .i64 a) ∧ w'.cell? ⟨w.heap.size, 1, none⟩ = some (.int .i64 b) ∧ w'.cell? ⟨w.heap.size, 2, none⟩ = some (.int .i64 c)) (first | assumption | simp [go_sem, *])
    (first | (go_at_call 8; refine (safe_any _ _ _ _).mono ?_; rintro e w2 ⟨rfl, hw⟩; simp only [hw, hA, hR, hB, hC, e0, e1, e2, e3, s1, s2, s3]; clear hw w2))
  go_wp2_with (go_at_call 8; refine (safe_any _ _ _ _).mono ?_; rintro e w2 ⟨rfl, hw⟩; simp only [hw, hA, hR, hB, hC, e0, e1, e2, e3, s1, s2, s3]; clear hw w2)
  go_ret
  exact ⟨rfl, hb1.drew⟩

set_option maxRecDepth 100000 in
set_option maxHeartbeats 1000000 in
theorem order_f1 (a b c d n : Int) (w : World) (hA : safe a b d = true) (hR : safe b a d = false) (hB : safe b c d = false) (g1 : a < -1125899906842624) :
    Calls Tryz.prog 4 #[.agg #[.int .i64 a, .int .i64 b, .int .i64 c], .int .i64 d, .int .u8 n] w fun e w' => e = .returned (.bool true) ∧ Below w.heap.size w w' := by
  go_enter Tryz.func4, Tryz.ntmps4
  go_wp2_with (go_at_call 5; refine (sane _).mono ?_; rintro e w1 ⟨rfl, hb⟩; obtain ⟨c0, c1, c2⟩ := arr_cells w w1 a b c hb; have hb1 := arr_below w w1 _ hb; clear hb)
  go_region_held3 (fun w' => w'.cell? ⟨w.heap.size, 0, none⟩ = some (.int .i64 a) ∧ w'.cell? ⟨w.heap.size, 1, none⟩ = some (.int .i64 b) ∧ w'.cell? ⟨w.heap.size, 2, none⟩ = some (.int .i64 c)) (first | assumption | simp [go_sem, *])
    (first | (go_at_call 8; refine (safe_any _ _ _ _).mono ?_; rintro e w2 ⟨rfl, hw⟩; simp only [hw, hA, hR, hB]; clear hw w2))
  go_wp2_with (go_at_call 8; refine (safe_any _ _ _ _).mono ?_; rintro e w2 ⟨rfl, hw⟩; simp only [hw, hA, hR, hB]; clear hw w2)
  go_ret
  exact ⟨rfl, hb1.drew⟩

set_option maxRecDepth 100000 in
set_option maxHeartbeats 1000000 in
theorem order_f2 (a b c d n : Int) (w : World) (hA : safe a b d = true) (hR : safe b a d = false) (hB : safe b c d = false) (g1 : ¬ a < -1125899906842624) (g2 : 1125899906842624 < b) :
    Calls Tryz.prog 4 #[.agg #[.int .i64 a, .int .i64 b, .int .i64 c], .int .i64 d, .int .u8 n] w fun e w' => e = .returned (.bool true) ∧ Below w.heap.size w w' := by
  go_enter Tryz.func4, Tryz.ntmps4
  go_wp2_with (go_at_call 5; refine (sane _).mono ?_; rintro e w1 ⟨rfl, hb⟩; obtain ⟨c0, c1, c2⟩ := arr_cells w w1 a b c hb; have hb1 := arr_below w w1 _ hb; clear hb)
  go_region_held3 (fun w' => w'.cell? ⟨w.heap.size, 0, none⟩ = some (.int .i64 a) ∧ w'.cell? ⟨w.heap.size, 1, none⟩ = some (.int .i64 b) ∧ w'.cell? ⟨w.heap.size, 2, none⟩ = some (.int .i64 c)) (first | assumption | simp [go_sem, *])
    (first | (go_at_call 8; refine (safe_any _ _ _ _).mono ?_; rintro e w2 ⟨rfl, hw⟩; simp only [hw, hA, hR, hB]; clear hw w2))
  go_wp2_with (go_at_call 8; refine (safe_any _ _ _ _).mono ?_; rintro e w2 ⟨rfl, hw⟩; simp only [hw, hA, hR, hB]; clear hw w2)
  go_ret
  exact ⟨rfl, hb1.drew⟩

set_option maxRecDepth 100000 in
set_option maxHeartbeats 1000000 in
theorem order_f3 (a b c d n : Int) (w : World) (hA : safe a b d = true) (hR : safe b a d = false) (hB : safe b c d = false) (g1 : ¬ a < -1125899906842624) (g2 : ¬ 1125899906842624 < b) (e0 : IntKind.wrap .i64 n = n) (e1 : IntKind.wrap .i64 (a - n) = a - n) (e2 : IntKind.wrap .i64 (b + n) = b + n) (e3 : IntKind.wrap .i64 (d - n) = d - n) (s1 : safe (a - n) b d = true) (s2 : safe a (b + n) d = true) (g3 : d < n) :
    Calls Tryz.prog 4 #[.agg #[.int .i64 a, .int .i64 b, .int .i64 c], .int .i64 d, .int .u8 n] w fun e w' => e = .returned (.bool true) ∧ Below w.heap.size w w' := by
  go_enter Tryz.func4, Tryz.ntmps4
  go_wp2_with (go_at_call 5; refine (sane _).mono ?_; rintro e w1 ⟨rfl, hb⟩; obtain ⟨c0, c1, c2⟩ := arr_cells w w1 a b c hb; have hb1 := arr_below w w1 _ hb; clear hb)
  go_region_held3 (fun w' => w'.cell? ⟨w.heap.size, 0, none⟩ = some (.int .i64 a) ∧ w'.cell? ⟨w.heap.size, 1, none⟩ = some (.int .i64 b) ∧ w'.cell? ⟨w.heap.size, 2, none⟩ = some (.int .i64 c)) (first | assumption | simp [go_sem, *])
    (first | (go_at_call 8; refine (safe_any _ _ _ _).mono ?_; rintro e w2 ⟨rfl, hw⟩; simp only [hw, hA, hR, hB, e0, e1, e2, s1, s2]; clear hw w2))
  go_wp2_with (go_at_call 8; refine (safe_any _ _ _ _).mono ?_; rintro e w2 ⟨rfl, hw⟩; simp only [hw, hA, hR, hB, e0, e1, e2, s1, s2]; clear hw w2)
  go_ret
  exact ⟨rfl, hb1.drew⟩

set_option maxRecDepth 100000 in
set_option maxHeartbeats 1000000 in
theorem order_f4 (a b c d n : Int) (w : World) (hA : safe a b d = true) (hR : safe b a d = false) (hB : safe b c d = false) (g1 : ¬ a < -1125899906842624) (g2 : ¬ 1125899906842624 < b) (e0 : IntKind.wrap .i64 n = n) (e1 : IntKind.wrap .i64 (a - n) = a - n) (e2 : IntKind.wrap .i64 (b + n) = b + n) (e3 : IntKind.wrap .i64 (d - n) = d - n) (s1 : safe (a - n) b d = true) (s2 : safe a (b + n) d = true) (g3 : ¬ d < n) (s3 : safe a b (d - n) = true) :
    Calls Tryz.prog 4 #[.agg #[.int .i64 a, .int .i64 b, .int .i64 c], .int .i64 d, .int .u8 n] w fun e w' => e = .returned (.bool true) ∧ Below w.heap.size w w' := by
  go_enter Tryz.func4, Tryz.ntmps4
  go_wp2_with (go_at_call 5; refine (sane _).mono ?_; rintro e w1 ⟨rfl, hb⟩; obtain ⟨c0, c1, c2⟩ := arr_cells w w1 a b c hb; have hb1 := arr_below w w1 _ hb; clear hb)
  go_region_held3 (fun w' => w'.cell? ⟨w.heap.size, 0, none⟩ = some (.int .i64 a) ∧ w'.cell? ⟨w.heap.size, 1, none⟩ = some (.int .i64 b) ∧ w'.cell? ⟨w.heap.size, 2, none⟩ = some (.int .i64 c)) (first | assumption | simp [go_sem, *])
    (first | (go_at_call 8; refine (safe_any _ _ _ _).mono ?_; rintro e w2 ⟨rfl, hw⟩; simp only [hw, hA, hR, hB, e0, e1, e2, e3, s1, s2, s3]; clear hw w2))
  go_wp2_with (go_at_call 8; refine (safe_any _ _ _ _).mono ?_; rintro e w2 ⟨rfl, hw⟩; simp only [hw, hA, hR, hB, e0, e1, e2, e3, s1, s2, s3]; clear hw w2)
  go_ret
  exact ⟨rfl, hb1.drew⟩

/-- **HoldOrder, walked: true whatever the input.** -/
theorem order_any (a b c d n : Int) (hn : 0 ≤ n ∧ n ≤ 255) (w : World) :
    Calls Tryz.prog 4 #[.agg #[.int .i64 a, .int .i64 b, .int .i64 c], .int .i64 d, .int .u8 n] w fun e w' => e = .returned (.bool true) ∧ Below w.heap.size w w' := by
  cases hA : safe a b d
  · exact order_0 a b c d n w hA
  have pA := safe_iff.mp hA
  have hR : safe b a d = false := safe_not.mpr (by omega)
  by_cases g1 : a < -1125899906842624
  · cases hB : safe b c d
    · exact order_f1 a b c d n w hA hR hB g1
    · have pB := safe_iff.mp hB
      exact order_t1 a b c d n w hA hR hB (safe_iff.mpr (by omega)) g1
  by_cases g2 : 1125899906842624 < b
  · cases hB : safe b c d
    · exact order_f2 a b c d n w hA hR hB g1 g2
    · have pB := safe_iff.mp hB
      exact order_t2 a b c d n w hA hR hB (safe_iff.mpr (by omega)) g1 g2
  have e0 : IntKind.wrap .i64 n = n := wrap_fit (by omega) (by omega)
  have e1 : IntKind.wrap .i64 (a - n) = a - n := wrap_fit (by omega) (by omega)
  have e2 : IntKind.wrap .i64 (b + n) = b + n := wrap_fit (by omega) (by omega)
  have e3 : IntKind.wrap .i64 (d - n) = d - n := wrap_fit (by omega) (by omega)
  have s1 : safe (a - n) b d = true := safe_iff.mpr (by omega)
  have s2 : safe a (b + n) d = true := safe_iff.mpr (by omega)
  by_cases g3 : d < n
  · cases hB : safe b c d
    · exact order_f3 a b c d n w hA hR hB g1 g2 e0 e1 e2 e3 s1 s2 g3
    · have pB := safe_iff.mp hB
      exact order_t3 a b c d n w hA hR hB (safe_iff.mpr (by omega)) g1 g2 e0 e1 e2 e3 s1 s2 g3
  have s3 : safe a b (d - n) = true := safe_iff.mpr (by omega)
  cases hB : safe b c d
  · exact order_f4 a b c d n w hA hR hB g1 g2 e0 e1 e2 e3 s1 s2 g3 s3
  · have pB := safe_iff.mp hB
    exact order_t4 a b c d n w hA hR hB (safe_iff.mpr (by omega)) g1 g2 e0 e1 e2 e3 s1 s2 g3 s3
end Go.Proofs.YtndbljbjhcgoiaaGreat
