/-
  What the function expired returns, for all numbers in range.
-/
import Derived.Test.YtndbljbjhcgoiaaGreatWbA
import Derived.Test.YtndbljbjhcgoiaaGreatSane

set_option linter.unusedVariables false
set_option linter.unusedSimpArgs false
set_option linter.unusedSectionVars false

namespace Go.Proofs.YtndbljbjhcgoiaaGreat
open Go Km

theorem plain_calls {Q : Program} {σ : Nat → FuncId} {tab : Nat → Option AFunc} {prim : Nat → List V → Heap → Option (Option (V × Heap))} (hE : Env Q σ tab prim) {m d f : Nat} {args : List V} {us : List Value} {r : V} {H' : Heap}
    (h : callF tab prim m d (.fn f) args [] = some (r, H')) (W : World) (ha : ∀ X : Wd, A2 (VR σ X) args us) :
    Calls Q (σ f) us.toArray W fun e w' => (∃ (X : Wd) (u : Value), VR σ X r u ∧ e = .returned u) ∧ RowKit.Below W.heap.size W w' := by
  intro cs
  let X : Wd := ⟨fun _ => none, fun _ _ => False, [], W, W.heap.size⟩
  have hS : SR Q σ X := ⟨fun b L h => by simp [X] at h, fun b b' L L' h => by simp [X] at h, fun c i h => h.elim⟩
  obtain ⟨fr, X', u, h1, ⟨l1, l2, l3, l4, fn, l5, l6⟩, h3, h4, h5, h6, h7⟩ := (callF_ok hE m d).fn f args [] _ H' h X us .normal cs rfl hS (Nat.le_refl _) (ha X) (.inl rfl)
  refine ⟨.returned u, X'.w, fr, ⟨⟨X', u, h5, rfl⟩, ⟨h6.os, h6.tape, h6.output, h6.size, fun k hk => h6.frame k hk (fun b L h => by simp [X] at h)⟩⟩, h1, l4, l1, l2, l3, fn, by rw [l4]; exact l5, l6⟩

theorem A2_one {α β : Type} {R : α → β → Prop} {x : α} {ys : List β} (h : A2 R [x] ys) : ∃ y, ys = [y] ∧ R x y := by
  match ys, h.len with
  | [y], _ => exact ⟨y, rfl, h.of_cons.1⟩
theorem A2_two {α β : Type} {R : α → β → Prop} {x y : α} {ys : List β} (h : A2 R [x, y] ys) : ∃ a b, ys = [a, b] ∧ R x a ∧ R y b := by
  match ys, h.len with
  | [a, b], _ => exact ⟨a, b, rfl, h.of_cons.1, h.of_cons.2.of_cons.1⟩

theorem expired_any (dl dr c0 c1 : Int) (h1 : 0 ≤ dr ∧ dr ≤ 2251799813685248) (h2 : 900 ≤ dl ∧ dl ≤ 2251799813685248) (h3 : 900 ≤ c0 ∧ c0 ≤ 2251799813685248) (h4 : 900 ≤ c1 ∧ c1 ≤ 2251799813685248) (W : World) :
    Calls Tryz.prog 7 #[.int .i64 dl, .int .i64 dr, .agg #[.int .i64 c0, .int .i64 c1]] W fun e w' =>
      e = .returned (.tuple #[.agg #[.bool (decide (dl < c0)), .bool (decide (dl < c1))], .bool true]) ∧ RowKit.Below W.heap.size W w' := by
  obtain ⟨H', h⟩ := expired_km dl dr c0 c1 h1 h2 h3 h4
  refine (plain_calls (us := [.int .i64 dl, .int .i64 dr, .agg #[.int .i64 c0, .int .i64 c1]]) env h W ?_).mono ?_
  · intro X
    exact .cons (FCR.int _ _) (.cons (FCR.int _ _) (.cons ⟨[.int .i64 c0, .int .i64 c1], rfl, .cons (FCR.int _ _) (.cons (FCR.int _ _) .nil)⟩ .nil))
  · rintro e w' ⟨⟨X, u, hu, rfl⟩, hb⟩
    refine ⟨?_, hb⟩
    obtain ⟨us, rfl, hus⟩ := hu
    obtain ⟨a, b, rfl, ha, hb'⟩ := A2_two hus
    obtain ⟨vs, rfl, hvs⟩ := ha
    obtain ⟨p, q, rfl, hp, hq⟩ := A2_two hvs
    cases (hp : FCR sg X.F X.w (.bool _) p)
    cases (hq : FCR sg X.F X.w (.bool _) q)
    cases (hb' : FCR sg X.F X.w (.bool _) b)
    rfl
end Go.Proofs.YtndbljbjhcgoiaaGreat
