/-
  HoldDrift: the row in one step; arrays of five integers.
-/
import Derived.Test.YtndbljbjhcgoiaaGreatWaC
import Derived.Test.YtndbljbjhcgoiaaGreatWbD

set_option linter.unusedVariables false
set_option linter.unusedSimpArgs false
set_option linter.unusedSectionVars false

namespace Go.Proofs.YtndbljbjhcgoiaaGreat
open Go Go.ChangeShapes Go.WideShapes Go.ChangeAt Go.RowKit

section
variable {H : Type} {enc : TypeId × Value → H} {P : Program} {W : World}

theorem trod_array5 {base : Nat} {spare : Nat → Bool} {held : Bool} {t e : TypeId} {fuel : Nat} {c0 c1 c2 c3 c4 : Value} {x : DataW H × List MemPlace} (ht : P.underlying t = some (.array 5 e)) (hce : P.cellsOf e = 1)
    (h : DataW.trod enc P W base spare held fuel t [c0, c1, c2, c3, c4] = some x) :
    ∃ y0 y1 y2 y3 y4 n, x = (.agg [y0.1, y1.1, y2.1, y3.1, y4.1], y0.2 ++ (y1.2 ++ (y2.2 ++ (y3.2 ++ y4.2)))) ∧ DataW.trod enc P W base spare held n e [c0] = some y0 ∧ DataW.trod enc P W base spare held n e [c1] = some y1 ∧ DataW.trod enc P W base spare held n e [c2] = some y2 ∧ DataW.trod enc P W base spare held n e [c3] = some y3 ∧ DataW.trod enc P W base spare held n e [c4] = some y4 := by
  cases fuel with
  | zero => simp [DataW.trod] at h
  | succ n =>
    unfold DataW.trod at h
    rw [ht] at h
    have r5 : List.range 5 = [0, 1, 2, 3, 4] := rfl
    simp [r5, hce] at h
    obtain ⟨_, h⟩ := h
    cases h0 : DataW.trod enc P W base spare held n e [c0] with
    | none => simp [h0] at h
    | some y0 =>
      cases h1 : DataW.trod enc P W base spare held n e [c1] with
      | none => simp [h0, h1] at h
      | some y1 =>
        cases h2 : DataW.trod enc P W base spare held n e [c2] with
        | none => simp [h0, h1, h2] at h
        | some y2 =>
          cases h3 : DataW.trod enc P W base spare held n e [c3] with
          | none => simp [h0, h1, h2, h3] at h
          | some y3 =>
            cases h4 : DataW.trod enc P W base spare held n e [c4] with
            | none => simp [h0, h1, h2, h3, h4] at h
            | some y4 =>
              simp [h0, h1, h2, h3, h4] at h
              exact ⟨y0, y1, y2, y3, y4, n, h.symm, h0, h1, h2, h3, h4⟩

theorem open_arr5 {base : Nat} {spare : Nat → Bool} {held : Bool} {r : Reach} {b0 : Nat} {t e : TypeId} {q : IntKind} {v : Value} {d : DataW H} {ps : List MemPlace}
    (ht : P.underlying t = some (.array 5 e)) (he : P.underlying e = some (.int q)) (hce : P.cellsOf e = 1) (hct : P.cellsOf t = 5)
    (hval : Value.okWide P W r b0 t v) (hd : DataW.Trod enc P W base spare held t v d ps) :
    ∃ a b c f g : Int, v = .agg #[.int q a, .int q b, .int q c, .int q f, .int q g] ∧ d = .agg [.lit (.int q a), .lit (.int q b), .lit (.int q c), .lit (.int q f), .lit (.int q g)] ∧ ps = [] ∧
      (Lit.int q a).wf = true ∧ (Lit.int q b).wf = true ∧ (Lit.int q c).wf = true ∧ (Lit.int q f).wf = true ∧ (Lit.int q g).wf = true := by
  simp only [Value.okWide, ht, hct] at hval
  obtain ⟨⟨l⟩, rfl, hl, _⟩ := hval
  obtain ⟨fuel, hf⟩ := hd
  match l, hl with
  | [c0, c1, c2, c3, c4], _ =>
    simp only [Value.cells] at hf
    obtain ⟨y0, y1, y2, y3, y4, n, h, h0, h1, h2, h3, h4⟩ := trod_array5 ht hce hf
    obtain ⟨a, ea, rfl, wa⟩ := DataW.trod_int he h0
    obtain ⟨b, eb, rfl, wb⟩ := DataW.trod_int he h1
    obtain ⟨c, ec, rfl, wc⟩ := DataW.trod_int he h2
    obtain ⟨f, ef, rfl, wf⟩ := DataW.trod_int he h3
    obtain ⟨g, eg, rfl, wg⟩ := DataW.trod_int he h4
    simp only [Prod.mk.injEq, List.nil_append] at h
    obtain ⟨rfl, rfl⟩ := h
    cases ea; cases eb; cases ec; cases ef; cases eg
    exact ⟨a, b, c, f, g, rfl, rfl, rfl, wa, wb, wc, wf, wg⟩

theorem shut_arr5 {base : Nat} {spare : Nat → Bool} {held : Bool} {t e : TypeId} {q : IntKind}
    (ht : P.underlying t = some (.array 5 e)) (he : P.underlying e = some (.int q)) (hce : P.cellsOf e = 1) (hct : P.cellsOf t = 5) {a b c f g : Int}
    (wa : (Lit.int q a).wf = true) (wb : (Lit.int q b).wf = true) (wc : (Lit.int q c).wf = true) (wf : (Lit.int q f).wf = true) (wg : (Lit.int q g).wf = true) :
    DataW.Trod enc P W base spare held t (.agg #[.int q a, .int q b, .int q c, .int q f, .int q g]) (.agg [.lit (.int q a), .lit (.int q b), .lit (.int q c), .lit (.int q f), .lit (.int q g)]) [] := by
  have r5 : List.range 5 = [0, 1, 2, 3, 4] := rfl
  refine ⟨2, ?_⟩
  unfold DataW.trod
  simp [Value.cells, ht, hct, r5, hce]
  unfold DataW.trod
  simp [he, wa, wb, wc, wf, wg]
end

theorem int_of_wf {x : Int} (h : (Lit.int .i64 x).wf = true) : -9223372036854775808 ≤ x ∧ x ≤ 9223372036854775807 := by
  simp [Lit.wf, IntKind.min, IntKind.max, IntKind.signed, IntKind.bits] at h
  exact ⟨by omega, by omega⟩

set_option maxRecDepth 100000 in
theorem holdDrift_lifted (os : Os) (started : os.Started) (H : Type) (enc : TypeId × Value → H) :
    ReturnsInHanded {} Tryz.checked os 3 .any (Rows.holdDriftSpec.pre6 enc Tryz.prog Tryz.f3 Rows.holdDriftRow.domain false) (Rows.holdDriftSpec.post enc Tryz.prog Tryz.f3 false true false false) := by
  refine returnsInHanded_of_change (C := Tryz.checked) Tryz.own started (by kernel_rfl) Tryz.func3
    (ChangeSpec.witness6 (enc := enc) (C := Tryz.checked) false ⟨#[], #[.agg #[.int .i64 0, .int .i64 0, .int .i64 0, .int .i64 0, .int .i64 0]], []⟩ 8 (by kernel_rfl) (by kernel_rfl) (by kernel_rfl) (by kernel_rfl)) ?_
  intro W base args ds gs before hval0 hW hcnd _
  have hval : ∀ (j : Nat) t v, Tryz.f3.params[j]? = some t → args[j]? = some v → Value.okWide Tryz.prog W .any base t v := hval0
  have hW' := hW
  obtain ⟨p, q, hA0, hV, rfl, hfz, hnd⟩ := hW
  have hA : DataW.TrodAll enc Tryz.prog W 0 (fun _ => true) true Tryz.f3.params.toList args.toList ds p := hA0
  rw [Tryz.params3] at hA hval
  obtain ⟨v0, d0, rfl, rfl, h0⟩ := trodAll_one hA
  obtain ⟨rfl, rfl⟩ := trodVars_none hV
  obtain ⟨a, b, c, d, f, rfl, rfl, rfl, wa, wb, wc, wd, wf⟩ := open_arr5 Tryz.underlying22 Tryz.underlying3 (by kernel_rfl) (by kernel_rfl) (hval 0 22 v0 rfl rfl) h0
  clear hA0 hval0
  simp only [List.append_nil] at hW'
  refine (drift_any a b c d f (int_of_wf wf) W).mono fun e W' ⟨he, hg⟩ => ?_
  subst he
  exact ⟨_, rfl, post_of_below (pa := []) (pv := []) hW' (fun _ _ _ => trodAll_mk1 (shut_bool Tryz.underlying4 _)) (fun sp _ => trodAll_mk1 (shut_arr5 Tryz.underlying22 Tryz.underlying3 (by kernel_rfl) (by kernel_rfl) wa wb wc wd wf)) (fun _ _ => rfl) rfl
    hg (ok_one (by kernel_rfl) rfl (okWide_bool_mk Tryz.underlying4 _))⟩
end Go.Proofs.YtndbljbjhcgoiaaGreat
