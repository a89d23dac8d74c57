/-
  HoldDrift, walked: it returns true at every input.
-/
import Derived.Test.YtndbljbjhcgoiaaGreatWbC
import Derived.Test.YtndbljbjhcgoiaaGreatWbB
import Derived.Deep.RegionHeld3

set_option linter.unusedVariables false
set_option linter.unusedSimpArgs false
set_option linter.unusedSectionVars false

set_option linter.unusedSimpArgs false
set_option linter.unusedVariables false
namespace Go.Proofs.YtndbljbjhcgoiaaGreat
open Go Go.RowKit

theorem arr_below5 (w w1 : World) (x : Obj) (hb : Below (w.alloc x).heap.size (w.alloc x) w1) : Below w.heap.size w w1 :=
  ((Below.refl _ w).alloc (Nat.le_refl _) x).trans (hb.mono (by simp))

theorem arr5_cells (w w1 : World) (a b c d f : Int) (t : TypeId) (hb : Below (w.alloc (.cells #[.int .i64 a, .int .i64 b, .int .i64 c, .int .i64 d, .int .i64 f] t)).heap.size (w.alloc (.cells #[.int .i64 a, .int .i64 b, .int .i64 c, .int .i64 d, .int .i64 f] t)) w1) :
    w1.cell? ⟨w.heap.size, 0, none⟩ = some (.int .i64 a) ∧ w1.cell? ⟨w.heap.size, 1, none⟩ = some (.int .i64 b) ∧ w1.cell? ⟨w.heap.size, 2, none⟩ = some (.int .i64 c) ∧ w1.cell? ⟨w.heap.size, 3, none⟩ = some (.int .i64 d) ∧ w1.cell? ⟨w.heap.size, 4, none⟩ = some (.int .i64 f) := by
  have hs : w.heap.size < (w.alloc (.cells #[.int .i64 a, .int .i64 b, .int .i64 c, .int .i64 d, .int .i64 f] t)).heap.size := by simp
  refine ⟨(hb.cell (p := ⟨w.heap.size, 0, none⟩) hs).trans ?_, (hb.cell (p := ⟨w.heap.size, 1, none⟩) hs).trans ?_, (hb.cell (p := ⟨w.heap.size, 2, none⟩) hs).trans ?_, (hb.cell (p := ⟨w.heap.size, 3, none⟩) hs).trans ?_, (hb.cell (p := ⟨w.heap.size, 4, none⟩) hs).trans ?_⟩ <;> simp [World.cell?_alloc_at]

theorem two_cells (w w1 : World) (a b : Bool) (t : TypeId) (hb : Below (w.alloc (.cells #[.bool a, .bool b] t)).heap.size (w.alloc (.cells #[.bool a, .bool b] t)) w1) :
    w1.cell? ⟨w.heap.size, 0, none⟩ = some (.bool a) ∧ w1.cell? ⟨w.heap.size, 1, none⟩ = some (.bool b) ∧ w.heap.size < w1.heap.size := by
  have hs : w.heap.size < (w.alloc (.cells #[.bool a, .bool b] t)).heap.size := by simp
  refine ⟨(hb.cell (p := ⟨w.heap.size, 0, none⟩) hs).trans ?_, (hb.cell (p := ⟨w.heap.size, 1, none⟩) hs).trans ?_, Nat.lt_of_lt_of_le hs hb.size⟩ <;> simp [World.cell?_alloc_at]

set_option maxRecDepth 100000 in
set_option maxHeartbeats 2000000 in
theorem drift_n (a b c d f D P Q N S F : Int) (w : World) (hD : modG a 50 = D) (hP : modG b 300 = P) (hQ : modG c 300 = Q) (hN : modG d 400 = N) (hS : modG f (D + 1) = S) (hF : modG (f.tdiv 64) (D + 1) = F)
    (bD : 0 ≤ D ∧ D < 50) (bP : 0 ≤ P ∧ P < 300) (bQ : 0 ≤ Q ∧ Q < 300) (bN : 0 ≤ N ∧ N < 400) (bS : 0 ≤ S ∧ S < D + 1) (bF : 0 ≤ F ∧ F < D + 1)
    (e1 : IntKind.wrap .i64 (1000 + P) = 1000 + P) (e2 : IntKind.wrap .i64 (1000 + Q) = 1000 + Q) (e3 : IntKind.wrap .i64 (1000 + N) = 1000 + N) (e4 : IntKind.wrap .i64 (D + 1) = D + 1)
    (e5 : IntKind.wrap .i64 (1000 + N - S) = 1000 + N - S) (e6 : IntKind.wrap .i64 (1000 + N + F) = 1000 + N + F) (e7 : IntKind.wrap .i64 (f.tdiv 64) = f.tdiv 64)
    (A0 A1 B0 B1 : Bool) (hA0 : decide (1000 + P < 1000 + N - S) = A0) (hA1 : decide (1000 + P < 1000 + N + F) = A1) (hB0 : decide (1000 + Q < 1000 + N + F) = B0) (hB1 : decide (1000 + Q < 1000 + N - S) = B1) (hs : safe (1000 + P) (1000 + Q) D = false) :
    Calls Tryz.prog 3 #[.agg #[.int .i64 a, .int .i64 b, .int .i64 c, .int .i64 d, .int .i64 f]] w fun e w' => e = .returned (.bool true) ∧ Below w.heap.size w w' := by
  go_enter Tryz.func3, Tryz.ntmps3
  go_wp2_with (first
    | (go_at_call 5; refine (sane _).mono ?_; rintro e w1 ⟨rfl, hb⟩; obtain ⟨c0, c1, c2, c3, c4⟩ := arr5_cells w w1 a b c d f _ hb; have hb1 := arr_below5 w w1 _ hb; clear hb)
    | (go_at_call 6; refine (mod_any _ _ (by omega) _).mono ?_; rintro e w2 ⟨rfl, hw⟩; simp only [hw, hD, hP, hQ, hN, hS, hF]; clear hw w2))
  go_region_held3 (fun w' => w'.cell? ⟨w.heap.size, 1, none⟩ = some (.int .i64 b) ∧ w'.cell? ⟨w.heap.size, 2, none⟩ = some (.int .i64 c)) (first | assumption | simp [go_sem, *])
    (first | (go_at_call 6; refine (mod_any _ _ (by omega) _).mono ?_; rintro e w2 ⟨rfl, hw⟩; simp only [hw, hD, hP, hQ, hN, hS, hF]; clear hw w2))
  go_wp2_with (first
    | (go_at_call 6; refine (mod_any _ _ (by omega) _).mono ?_; rintro e w2 ⟨rfl, hw⟩; simp only [hw, hD, hP, hQ, hN, hS, hF]; clear hw w2))
  go_region_held3 (fun w' => w'.cell? ⟨w.heap.size, 4, none⟩ = some (.int .i64 f)) (first | assumption | exact c4 | simp [go_sem, *])
    (first | (go_at_call 6; refine (mod_any _ _ (by omega) _).mono ?_; rintro e w2 ⟨rfl, hw⟩; simp only [hw, hD, hP, hQ, hN, hS, hF, e7]; clear hw w2))
  go_wp2_with (first
    | (go_at_call 7; refine (expired_any _ _ _ _ (by omega) (by omega) (by omega) (by omega) _).mono ?_; rintro e w3 ⟨rfl, hb2⟩; simp only [hA0, hA1, hB0, hB1]
       have hb1 : Below w.heap.size w w3 := by
        first
          | exact hb1.drew.drew.trans (hb2.mono hb1.size)
          | exact (hb1.alloc hb1.size _).trans (hb2.mono (Nat.le_trans hb1.size (by simp))))
    | (go_at_call 8; obtain ⟨g0, g1, g2⟩ := two_cells _ _ _ _ _ hb2; refine (safe_any _ _ _ _).mono ?_; rintro e w4 ⟨rfl, hw⟩; simp only [hw, hs]; clear hw w4))
  go_ret
  exact ⟨by simp, hb1.alloc hb1.size _⟩

set_option maxRecDepth 100000 in
set_option maxHeartbeats 2000000 in
theorem drift_ff (a b c d f D P Q N S F : Int) (w : World) (hD : modG a 50 = D) (hP : modG b 300 = P) (hQ : modG c 300 = Q) (hN : modG d 400 = N) (hS : modG f (D + 1) = S) (hF : modG (f.tdiv 64) (D + 1) = F)
    (bD : 0 ≤ D ∧ D < 50) (bP : 0 ≤ P ∧ P < 300) (bQ : 0 ≤ Q ∧ Q < 300) (bN : 0 ≤ N ∧ N < 400) (bS : 0 ≤ S ∧ S < D + 1) (bF : 0 ≤ F ∧ F < D + 1)
    (e1 : IntKind.wrap .i64 (1000 + P) = 1000 + P) (e2 : IntKind.wrap .i64 (1000 + Q) = 1000 + Q) (e3 : IntKind.wrap .i64 (1000 + N) = 1000 + N) (e4 : IntKind.wrap .i64 (D + 1) = D + 1)
    (e5 : IntKind.wrap .i64 (1000 + N - S) = 1000 + N - S) (e6 : IntKind.wrap .i64 (1000 + N + F) = 1000 + N + F) (e7 : IntKind.wrap .i64 (f.tdiv 64) = f.tdiv 64)
    (A0 A1 B0 B1 : Bool) (hA0 : decide (1000 + P < 1000 + N - S) = A0) (hA1 : decide (1000 + P < 1000 + N + F) = A1) (hB0 : decide (1000 + Q < 1000 + N + F) = B0) (hB1 : decide (1000 + Q < 1000 + N - S) = B1) (hs : safe (1000 + P) (1000 + Q) D = true) (k0 : B0 = false) (k1 : B1 = false) :
    Calls Tryz.prog 3 #[.agg #[.int .i64 a, .int .i64 b, .int .i64 c, .int .i64 d, .int .i64 f]] w fun e w' => e = .returned (.bool true) ∧ Below w.heap.size w w' := by
  subst k0; subst k1
  go_enter Tryz.func3, Tryz.ntmps3
  go_wp2_with (first
    | (go_at_call 5; refine (sane _).mono ?_; rintro e w1 ⟨rfl, hb⟩; obtain ⟨c0, c1, c2, c3, c4⟩ := arr5_cells w w1 a b c d f _ hb; have hb1 := arr_below5 w w1 _ hb; clear hb)
    | (go_at_call 6; refine (mod_any _ _ (by omega) _).mono ?_; rintro e w2 ⟨rfl, hw⟩; simp only [hw, hD, hP, hQ, hN, hS, hF]; clear hw w2))
  go_region_held3 (fun w' => w'.cell? ⟨w.heap.size, 1, none⟩ = some (.int .i64 b) ∧ w'.cell? ⟨w.heap.size, 2, none⟩ = some (.int .i64 c)) (first | assumption | simp [go_sem, *])
    (first | (go_at_call 6; refine (mod_any _ _ (by omega) _).mono ?_; rintro e w2 ⟨rfl, hw⟩; simp only [hw, hD, hP, hQ, hN, hS, hF]; clear hw w2))
  go_wp2_with (first
    | (go_at_call 6; refine (mod_any _ _ (by omega) _).mono ?_; rintro e w2 ⟨rfl, hw⟩; simp only [hw, hD, hP, hQ, hN, hS, hF]; clear hw w2))
  go_region_held3 (fun w' => w'.cell? ⟨w.heap.size, 4, none⟩ = some (.int .i64 f)) (first | assumption | exact c4 | simp [go_sem, *])
    (first | (go_at_call 6; refine (mod_any _ _ (by omega) _).mono ?_; rintro e w2 ⟨rfl, hw⟩; simp only [hw, hD, hP, hQ, hN, hS, hF, e7]; clear hw w2))
  go_wp2_with (first
    | (go_at_call 7; refine (expired_any _ _ _ _ (by omega) (by omega) (by omega) (by omega) _).mono ?_; rintro e w3 ⟨rfl, hb2⟩; simp only [hA0, hA1, hB0, hB1]
       have hb1 : Below w.heap.size w w3 := by
        first
          | exact hb1.drew.drew.trans (hb2.mono hb1.size)
          | exact (hb1.alloc hb1.size _).trans (hb2.mono (Nat.le_trans hb1.size (by simp))))
    | (go_at_call 8; obtain ⟨g0, g1, g2⟩ := two_cells _ _ _ _ _ hb2; refine (safe_any _ _ _ _).mono ?_; rintro e w4 ⟨rfl, hw⟩; simp only [hw, hs]; clear hw w4))
  go_ret
  exact ⟨by simp, hb1.alloc hb1.size _⟩

set_option maxRecDepth 100000 in
set_option maxHeartbeats 2000000 in
theorem drift_ft (a b c d f D P Q N S F : Int) (w : World) (hD : modG a 50 = D) (hP : modG b 300 = P) (hQ : modG c 300 = Q) (hN : modG d 400 = N) (hS : modG f (D + 1) = S) (hF : modG (f.tdiv 64) (D + 1) = F)
    (bD : 0 ≤ D ∧ D < 50) (bP : 0 ≤ P ∧ P < 300) (bQ : 0 ≤ Q ∧ Q < 300) (bN : 0 ≤ N ∧ N < 400) (bS : 0 ≤ S ∧ S < D + 1) (bF : 0 ≤ F ∧ F < D + 1)
    (e1 : IntKind.wrap .i64 (1000 + P) = 1000 + P) (e2 : IntKind.wrap .i64 (1000 + Q) = 1000 + Q) (e3 : IntKind.wrap .i64 (1000 + N) = 1000 + N) (e4 : IntKind.wrap .i64 (D + 1) = D + 1)
    (e5 : IntKind.wrap .i64 (1000 + N - S) = 1000 + N - S) (e6 : IntKind.wrap .i64 (1000 + N + F) = 1000 + N + F) (e7 : IntKind.wrap .i64 (f.tdiv 64) = f.tdiv 64)
    (A0 A1 B0 B1 : Bool) (hA0 : decide (1000 + P < 1000 + N - S) = A0) (hA1 : decide (1000 + P < 1000 + N + F) = A1) (hB0 : decide (1000 + Q < 1000 + N + F) = B0) (hB1 : decide (1000 + Q < 1000 + N - S) = B1) (hs : safe (1000 + P) (1000 + Q) D = true) (k0 : B0 = false) (k1 : B1 = true) (j1 : A1 = true) :
    Calls Tryz.prog 3 #[.agg #[.int .i64 a, .int .i64 b, .int .i64 c, .int .i64 d, .int .i64 f]] w fun e w' => e = .returned (.bool true) ∧ Below w.heap.size w w' := by
  subst k0; subst k1; subst j1
  go_enter Tryz.func3, Tryz.ntmps3
  go_wp2_with (first
    | (go_at_call 5; refine (sane _).mono ?_; rintro e w1 ⟨rfl, hb⟩; obtain ⟨c0, c1, c2, c3, c4⟩ := arr5_cells w w1 a b c d f _ hb; have hb1 := arr_below5 w w1 _ hb; clear hb)
    | (go_at_call 6; refine (mod_any _ _ (by omega) _).mono ?_; rintro e w2 ⟨rfl, hw⟩; simp only [hw, hD, hP, hQ, hN, hS, hF]; clear hw w2))
  go_region_held3 (fun w' => w'.cell? ⟨w.heap.size, 1, none⟩ = some (.int .i64 b) ∧ w'.cell? ⟨w.heap.size, 2, none⟩ = some (.int .i64 c)) (first | assumption | simp [go_sem, *])
    (first | (go_at_call 6; refine (mod_any _ _ (by omega) _).mono ?_; rintro e w2 ⟨rfl, hw⟩; simp only [hw, hD, hP, hQ, hN, hS, hF]; clear hw w2))
  go_wp2_with (first
    | (go_at_call 6; refine (mod_any _ _ (by omega) _).mono ?_; rintro e w2 ⟨rfl, hw⟩; simp only [hw, hD, hP, hQ, hN, hS, hF]; clear hw w2))
  go_region_held3 (fun w' => w'.cell? ⟨w.heap.size, 4, none⟩ = some (.int .i64 f)) (first | assumption | exact c4 | simp [go_sem, *])
    (first | (go_at_call 6; refine (mod_any _ _ (by omega) _).mono ?_; rintro e w2 ⟨rfl, hw⟩; simp only [hw, hD, hP, hQ, hN, hS, hF, e7]; clear hw w2))
  go_wp2_with (first
    | (go_at_call 7; refine (expired_any _ _ _ _ (by omega) (by omega) (by omega) (by omega) _).mono ?_; rintro e w3 ⟨rfl, hb2⟩; simp only [hA0, hA1, hB0, hB1]
       have hb1 : Below w.heap.size w w3 := by
        first
          | exact hb1.drew.drew.trans (hb2.mono hb1.size)
          | exact (hb1.alloc hb1.size _).trans (hb2.mono (Nat.le_trans hb1.size (by simp))))
    | (go_at_call 8; obtain ⟨g0, g1, g2⟩ := two_cells _ _ _ _ _ hb2; refine (safe_any _ _ _ _).mono ?_; rintro e w4 ⟨rfl, hw⟩; simp only [hw, hs]; clear hw w4))
  go_ret
  exact ⟨by simp, hb1.alloc hb1.size _⟩

set_option maxRecDepth 100000 in
set_option maxHeartbeats 2000000 in
theorem drift_tf (a b c d f D P Q N S F : Int) (w : World) (hD : modG a 50 = D) (hP : modG b 300 = P) (hQ : modG c 300 = Q) (hN : modG d 400 = N) (hS : modG f (D + 1) = S) (hF : modG (f.tdiv 64) (D + 1) = F)
    (bD : 0 ≤ D ∧ D < 50) (bP : 0 ≤ P ∧ P < 300) (bQ : 0 ≤ Q ∧ Q < 300) (bN : 0 ≤ N ∧ N < 400) (bS : 0 ≤ S ∧ S < D + 1) (bF : 0 ≤ F ∧ F < D + 1)
    (e1 : IntKind.wrap .i64 (1000 + P) = 1000 + P) (e2 : IntKind.wrap .i64 (1000 + Q) = 1000 + Q) (e3 : IntKind.wrap .i64 (1000 + N) = 1000 + N) (e4 : IntKind.wrap .i64 (D + 1) = D + 1)
    (e5 : IntKind.wrap .i64 (1000 + N - S) = 1000 + N - S) (e6 : IntKind.wrap .i64 (1000 + N + F) = 1000 + N + F) (e7 : IntKind.wrap .i64 (f.tdiv 64) = f.tdiv 64)
    (A0 A1 B0 B1 : Bool) (hA0 : decide (1000 + P < 1000 + N - S) = A0) (hA1 : decide (1000 + P < 1000 + N + F) = A1) (hB0 : decide (1000 + Q < 1000 + N + F) = B0) (hB1 : decide (1000 + Q < 1000 + N - S) = B1) (hs : safe (1000 + P) (1000 + Q) D = true) (k0 : B0 = true) (j0 : A0 = true) (k1 : B1 = false) :
    Calls Tryz.prog 3 #[.agg #[.int .i64 a, .int .i64 b, .int .i64 c, .int .i64 d, .int .i64 f]] w fun e w' => e = .returned (.bool true) ∧ Below w.heap.size w w' := by
  subst k0; subst j0; subst k1
  go_enter Tryz.func3, Tryz.ntmps3
  go_wp2_with (first
    | (go_at_call 5; refine (sane _).mono ?_; rintro e w1 ⟨rfl, hb⟩; obtain ⟨c0, c1, c2, c3, c4⟩ := arr5_cells w w1 a b c d f _ hb; have hb1 := arr_below5 w w1 _ hb; clear hb)
    | (go_at_call 6; refine (mod_any _ _ (by omega) _).mono ?_; rintro e w2 ⟨rfl, hw⟩; simp only [hw, hD, hP, hQ, hN, hS, hF]; clear hw w2))
  go_region_held3 (fun w' => w'.cell? ⟨w.heap.size, 1, none⟩ = some (.int .i64 b) ∧ w'.cell? ⟨w.heap.size, 2, none⟩ = some (.int .i64 c)) (first | assumption | simp [go_sem, *])
    (first | (go_at_call 6; refine (mod_any _ _ (by omega) _).mono ?_; rintro e w2 ⟨rfl, hw⟩; simp only [hw, hD, hP, hQ, hN, hS, hF]; clear hw w2))
  go_wp2_with (first
    | (go_at_call 6; refine (mod_any _ _ (by omega) _).mono ?_; rintro e w2 ⟨rfl, hw⟩; simp only [hw, hD, hP, hQ, hN, hS, hF]; clear hw w2))
  go_region_held3 (fun w' => w'.cell? ⟨w.heap.size, 4, none⟩ = some (.int .i64 f)) (first | assumption | exact c4 | simp [go_sem, *])
    (first | (go_at_call 6; refine (mod_any _ _ (by omega) _).mono ?_; rintro e w2 ⟨rfl, hw⟩; simp only [hw, hD, hP, hQ, hN, hS, hF, e7]; clear hw w2))
  go_wp2_with (first
    | (go_at_call 7; refine (expired_any _ _ _ _ (by omega) (by omega) (by omega) (by omega) _).mono ?_; rintro e w3 ⟨rfl, hb2⟩; simp only [hA0, hA1, hB0, hB1]
       have hb1 : Below w.heap.size w w3 := by
        first
          | exact hb1.drew.drew.trans (hb2.mono hb1.size)
          | exact (hb1.alloc hb1.size _).trans (hb2.mono (Nat.le_trans hb1.size (by simp))))
    | (go_at_call 8; obtain ⟨g0, g1, g2⟩ := two_cells _ _ _ _ _ hb2; refine (safe_any _ _ _ _).mono ?_; rintro e w4 ⟨rfl, hw⟩; simp only [hw, hs]; clear hw w4))
  go_ret
  exact ⟨by simp, hb1.alloc hb1.size _⟩

set_option maxRecDepth 100000 in
set_option maxHeartbeats 2000000 in
theorem drift_tt (a b c d f D P Q N S F : Int) (w : World) (hD : modG a 50 = D) (hP : modG b 300 = P) (hQ : modG c 300 = Q) (hN : modG d 400 = N) (hS : modG f (D + 1) = S) (hF : modG (f.tdiv 64) (D + 1) = F)
    (bD : 0 ≤ D ∧ D < 50) (bP : 0 ≤ P ∧ P < 300) (bQ : 0 ≤ Q ∧ Q < 300) (bN : 0 ≤ N ∧ N < 400) (bS : 0 ≤ S ∧ S < D + 1) (bF : 0 ≤ F ∧ F < D + 1)
    (e1 : IntKind.wrap .i64 (1000 + P) = 1000 + P) (e2 : IntKind.wrap .i64 (1000 + Q) = 1000 + Q) (e3 : IntKind.wrap .i64 (1000 + N) = 1000 + N) (e4 : IntKind.wrap .i64 (D + 1) = D + 1)
    (e5 : IntKind.wrap .i64 (1000 + N - S) = 1000 + N - S) (e6 : IntKind.wrap .i64 (1000 + N + F) = 1000 + N + F) (e7 : IntKind.wrap .i64 (f.tdiv 64) = f.tdiv 64)
    (A0 A1 B0 B1 : Bool) (hA0 : decide (1000 + P < 1000 + N - S) = A0) (hA1 : decide (1000 + P < 1000 + N + F) = A1) (hB0 : decide (1000 + Q < 1000 + N + F) = B0) (hB1 : decide (1000 + Q < 1000 + N - S) = B1) (hs : safe (1000 + P) (1000 + Q) D = true) (k0 : B0 = true) (j0 : A0 = true) (k1 : B1 = true) (j1 : A1 = true) :
    Calls Tryz.prog 3 #[.agg #[.int .i64 a, .int .i64 b, .int .i64 c, .int .i64 d, .int .i64 f]] w fun e w' => e = .returned (.bool true) ∧ Below w.heap.size w w' := by
  subst k0; subst j0; subst k1; subst j1
  go_enter Tryz.func3, Tryz.ntmps3
  go_wp2_with (first
    | (go_at_call 5; refine (sane _).mono ?_; rintro e w1 ⟨rfl, hb⟩; obtain ⟨c0, c1, c2, c3, c4⟩ := arr5_cells w w1 a b c d f _ hb; have hb1 := arr_below5 w w1 _ hb; clear hb)
    | (go_at_call 6; refine (mod_any _ _ (by omega) _).mono ?_; rintro e w2 ⟨rfl, hw⟩; simp only [hw, hD, hP, hQ, hN, hS, hF]; clear hw w2))
  go_region_held3 (fun w' => w'.cell? ⟨w.heap.size, 1, none⟩ = some (.int .i64 b) ∧ w'.cell? ⟨w.heap.size, 2, none⟩ = some (.int .i64 c)) (first | assumption | simp [go_sem, *])
    (first | (go_at_call 6; refine (mod_any _ _ (by omega) _).mono ?_; rintro e w2 ⟨rfl, hw⟩; simp only [hw, hD, hP, hQ, hN, hS, hF]; clear hw w2))
  go_wp2_with (first
    | (go_at_call 6; refine (mod_any _ _ (by omega) _).mono ?_; rintro e w2 ⟨rfl, hw⟩; simp only [hw, hD, hP, hQ, hN, hS, hF]; clear hw w2))
  go_region_held3 (fun w' => w'.cell? ⟨w.heap.size, 4, none⟩ = some (.int .i64 f)) (first | assumption | exact c4 | simp [go_sem, *])
    (first | (go_at_call 6; refine (mod_any _ _ (by omega) _).mono ?_; rintro e w2 ⟨rfl, hw⟩; simp only [hw, hD, hP, hQ, hN, hS, hF, e7]; clear hw w2))
  go_wp2_with (first
    | (go_at_call 7; refine (expired_any _ _ _ _ (by omega) (by omega) (by omega) (by omega) _).mono ?_; rintro e w3 ⟨rfl, hb2⟩; simp only [hA0, hA1, hB0, hB1]
       have hb1 : Below w.heap.size w w3 := by
        first
          | exact hb1.drew.drew.trans (hb2.mono hb1.size)
          | exact (hb1.alloc hb1.size _).trans (hb2.mono (Nat.le_trans hb1.size (by simp))))
    | (go_at_call 8; obtain ⟨g0, g1, g2⟩ := two_cells _ _ _ _ _ hb2; refine (safe_any _ _ _ _).mono ?_; rintro e w4 ⟨rfl, hw⟩; simp only [hw, hs]; clear hw w4))
  go_ret
  exact ⟨by simp, hb1.alloc hb1.size _⟩

theorem tdiv64 {f : Int} (h : -9223372036854775808 ≤ f ∧ f ≤ 9223372036854775807) : -9223372036854775808 ≤ f.tdiv 64 ∧ f.tdiv 64 ≤ 9223372036854775807 := by
  by_cases h0 : 0 ≤ f
  · rw [Int.tdiv_eq_ediv_of_nonneg h0]
    omega
  · have e : f.tdiv 64 = -((-f).tdiv 64) := by rw [Int.neg_tdiv, Int.neg_neg]
    rw [e, Int.tdiv_eq_ediv_of_nonneg (by omega)]
    omega

/-- **HoldDrift, walked: true whatever the input.** -/
theorem drift_any (a b c d f : Int) (hf : -9223372036854775808 ≤ f ∧ f ≤ 9223372036854775807) (w : World) :
    Calls Tryz.prog 3 #[.agg #[.int .i64 a, .int .i64 b, .int .i64 c, .int .i64 d, .int .i64 f]] w fun e w' => e = .returned (.bool true) ∧ Below w.heap.size w w' := by
  obtain ⟨D, hD⟩ : ∃ D, modG a 50 = D := ⟨_, rfl⟩
  obtain ⟨P, hP⟩ : ∃ D, modG b 300 = D := ⟨_, rfl⟩
  obtain ⟨Q, hQ⟩ : ∃ D, modG c 300 = D := ⟨_, rfl⟩
  obtain ⟨N, hN⟩ : ∃ D, modG d 400 = D := ⟨_, rfl⟩
  have bD : 0 ≤ D ∧ D < 50 := hD ▸ ⟨modG_low a (by decide), modG_high a (by decide)⟩
  have bP : 0 ≤ P ∧ P < 300 := hP ▸ ⟨modG_low b (by decide), modG_high b (by decide)⟩
  have bQ : 0 ≤ Q ∧ Q < 300 := hQ ▸ ⟨modG_low c (by decide), modG_high c (by decide)⟩
  have bN : 0 ≤ N ∧ N < 400 := hN ▸ ⟨modG_low d (by decide), modG_high d (by decide)⟩
  obtain ⟨S, hS⟩ : ∃ S, modG f (D + 1) = S := ⟨_, rfl⟩
  obtain ⟨F, hF⟩ : ∃ S, modG (f.tdiv 64) (D + 1) = S := ⟨_, rfl⟩
  have bS : 0 ≤ S ∧ S < D + 1 := hS ▸ ⟨modG_low f (by omega), modG_high f (by omega)⟩
  have bF : 0 ≤ F ∧ F < D + 1 := hF ▸ ⟨modG_low _ (by omega), modG_high _ (by omega)⟩
  have t64 := tdiv64 hf
  have e1 : IntKind.wrap .i64 (1000 + P) = 1000 + P := wrap_fit (by omega) (by omega)
  have e2 : IntKind.wrap .i64 (1000 + Q) = 1000 + Q := wrap_fit (by omega) (by omega)
  have e3 : IntKind.wrap .i64 (1000 + N) = 1000 + N := wrap_fit (by omega) (by omega)
  have e4 : IntKind.wrap .i64 (D + 1) = D + 1 := wrap_fit (by omega) (by omega)
  have e5 : IntKind.wrap .i64 (1000 + N - S) = 1000 + N - S := wrap_fit (by omega) (by omega)
  have e6 : IntKind.wrap .i64 (1000 + N + F) = 1000 + N + F := wrap_fit (by omega) (by omega)
  have e7 : IntKind.wrap .i64 (f.tdiv 64) = f.tdiv 64 := wrap_fit t64.1 t64.2
  cases hs : safe (1000 + P) (1000 + Q) D
  · exact drift_n a b c d f D P Q N S F w hD hP hQ hN hS hF bD bP bQ bN bS bF e1 e2 e3 e4 e5 e6 e7 _ _ _ _ rfl rfl rfl rfl hs
  · have ps : (1000 + P) + D < (1000 + Q) - D := by
      unfold safe at hs
      simp only [Bool.and_eq_true, decide_eq_true_eq] at hs
      exact hs.2
    by_cases k0 : 1000 + Q < 1000 + N + F <;> by_cases k1 : 1000 + Q < 1000 + N - S
    · exact drift_tt a b c d f D P Q N S F w hD hP hQ hN hS hF bD bP bQ bN bS bF e1 e2 e3 e4 e5 e6 e7 _ _ _ _ rfl rfl rfl rfl hs (decide_eq_true k0) (decide_eq_true (by omega)) (decide_eq_true k1) (decide_eq_true (by omega))
    · exact drift_tf a b c d f D P Q N S F w hD hP hQ hN hS hF bD bP bQ bN bS bF e1 e2 e3 e4 e5 e6 e7 _ _ _ _ rfl rfl rfl rfl hs (decide_eq_true k0) (decide_eq_true (by omega)) (decide_eq_false k1)
    · exact drift_ft a b c d f D P Q N S F w hD hP hQ hN hS hF bD bP bQ bN bS bF e1 e2 e3 e4 e5 e6 e7 _ _ _ _ rfl rfl rfl rfl hs (decide_eq_false k0) (decide_eq_true k1) (decide_eq_true (by omega))
    · exact drift_ff a b c d f D P Q N S F w hD hP hQ hN hS hF bD bP bQ bN bS bF e1 e2 e3 e4 e5 e6 e7 _ _ _ _ rfl rfl rfl rfl hs (decide_eq_false k0) (decide_eq_false k1)
end Go.Proofs.YtndbljbjhcgoiaaGreat
