/-
  What the program's functions and the reference's answer, for all arguments of their kind, in the small machine: part 2.
-/
import Derived.Test.YtcjhnkginmflhaaGreatS1
import Derived.Test.YtcjhnkginmflhaaGreatRows
import Derived.Test.YtcjhnkginmflhaaGreatK4
import Derived.Test.YtcjhnkginmflhaaGreatTie
import Derived.Test.YtcjhnkginmflhaaGreatEv

set_option linter.unusedVariables false
set_option linter.unusedSimpArgs false
set_option linter.unusedSectionVars false

section
namespace Go.Proofs.YtcjhnkginmflhaaGreat
open Go Km

/-! ### What stays small; two results are the same -/
theorem xI {a a' R : HsD} (ha : a.cl = R.cl) (ha' : a'.cl = R.cl) (hl : R.l.length ≤ 1048576) (hs : ∀ x ∈ R.l, x.Sm) : Km.Pure tab.get zD [.a (a.row.map .f), .a (a'.row.map .f)] = Eq (vb true) := by
  have h1 : a.l.map aQ.cl = R.l.map aQ.cl := by have := congrArg HsD.l ha; exact this
  refine same_holds a a' (by rw [jT h1]; exact hl) (fun x hx => ?_) (ha.trans ha'.symm)
  obtain ⟨y, hy, e⟩ := lF h1 hx
  exact aQ.qo e (hs y hy)
theorem OM {clk : Int} {x : aQ} (h : x.Sm) : (fU clk x).Sm := by
  unfold fU; split <;> exact h
def DR (h : HsD) (clk : Int) : HsD := if iD h clk = 0 then ⟨clk, h.bg, .nil, h.l.map (fU clk)⟩ else dO
theorem OQ (h : HsD) (clk : Int) : (DR h clk).cl = (if iD h clk = 0 then HsD.cl ⟨clk, h.bg, .nil, h.l.map (fU clk)⟩ else dO) := by
  unfold DR; split <;> rfl
theorem DN {h : HsD} (hl : h.l.length ≤ 30) (hs : ∀ x ∈ h.l, x.Sm) (clk : Int) : (DR h clk).l.length ≤ 1048576 ∧ ∀ x ∈ (DR h clk).l, x.Sm := by
  unfold DR
  split
  · refine ⟨by simp; omega, fun x hx => ?_⟩
    obtain ⟨y, hy, rfl⟩ := List.mem_map.1 hx
    exact OM (hs y hy)
  · exact ⟨by simp [dO], fun x hx => by simp [dO] at hx⟩
def DJ (h : HsD) (id st : Int) : HsD := if dI h id = 0 then jK h id st else dO
theorem OJ (h : HsD) (id st : Int) : (DJ h id st).cl = (if dI h id = 0 then (jK h id st).cl else dO) := by
  unfold DJ; split <;> rfl
theorem aoE {i : Nat} {st : Int} {l : List aQ} (hs : ∀ x ∈ l, x.Sm) : (sW i st l).length = l.length ∧ ∀ x ∈ sW i st l, x.Sm := by
  unfold sW
  split
  · exact ⟨rfl, hs⟩
  · rename_i x hx
    refine ⟨by simp, fun y hy => ?_⟩
    rcases List.mem_or_eq_of_mem_set hy with h | rfl
    · exact hs y h
    · exact hs x (List.mem_of_getElem? hx)
theorem sO {h : HsD} (hl : h.l.length ≤ 30) (hs : ∀ x ∈ h.l, x.Sm) (id st : Int) : (DJ h id st).l.length ≤ 1048576 ∧ ∀ x ∈ (DJ h id st).l, x.Sm := by
  unfold DJ
  split
  · unfold jK
    simp only
    cases fidx id h.l with
    | none => exact ⟨by show h.l.length ≤ _; omega, hs⟩
    | some i =>
      obtain ⟨h1, h2⟩ := aoE (i := i) (st := st) hs
      exact ⟨by show (sW i st h.l).length ≤ _; omega, h2⟩
  · exact ⟨by simp [dO], fun x hx => by simp [dO] at hx⟩
theorem RJ {s : aF} {l : List aF} {x : aF} (h : x ∈ pX s l) : x ∈ l ∨ x = s := by
  have := (oD s l).mem_iff.1 h
  simpa using this
theorem yu : ∀ {l : List aQ} {acc : List aF}, (∀ x ∈ l, x.Sm) → (∀ s ∈ acc, s.Sm) → ∀ s ∈ iO acc l, s.Sm
  | [], _, _, ha, s, hs => ha s hs
  | x :: r, acc, hl, ha, s, hs => by
    simp only [iO] at hs
    split at hs
    · exact yu (fun y hy => hl y (List.mem_cons_of_mem _ hy)) (fun t ht => by
        rcases RJ ht with h | rfl
        · exact ha t h
        · exact hl x List.mem_cons_self) s hs
    · exact yu (fun y hy => hl y (List.mem_cons_of_mem _ hy)) ha s hs
theorem IC (h : HsD) (hl : h.l.length ≤ 30) (hs : ∀ x ∈ h.l, x.Sm) : ∃ v w, Km.Pure tab.get TS [.a (h.row.map .f)] = Eq v ∧ Km.Pure tab.get wV [.a (h.row.map .f)] = Eq w ∧ (∃ x y, v = .c (.f x) ∧ w = .c (.f y)) ∧ Km.Pure tab.get KJ [v, w] = Eq (vb true) := by
  obtain ⟨g, A, hA, h1⟩ := apE h hl hs
  obtain ⟨g', h2⟩ := Ee h hl
  obtain ⟨B, hB⟩ : ∃ B, B = (if dh h then iO [] h.l else []) := ⟨_, rfl⟩
  rw [← hB] at h2
  have hAB : A.map aF.cl = B.map aF.cl := by
    rw [hA, hB]; split <;> rfl
  have hBl : B.length ≤ 30 ∧ ∀ s ∈ B, s.Sm := by
    rw [hB]; split
    · have := qR h.l []
      exact ⟨by simp at this; omega, yu hs (by simp)⟩
    · exact ⟨by simp, by simp⟩
  refine ⟨_, _, h1, h2, ⟨_, _, rfl, rfl⟩, GZ g g' A B (by rw [jT hAB]; omega) (fun s hsA => ?_) hAB⟩
  obtain ⟨y, hy, e⟩ := lF hAB hsA
  exact aF.qo e (hBl.2 y hy)

theorem PL (h : HsD) (hl : h.l.length ≤ 1048576) : ∃ b, (b = true → h.l.length ≤ 30) ∧ Km.Pure tab.get KW [.a (h.row.map .f)] = Eq (vb b) := by
  obtain ⟨r, ⟨b, hb, rfl⟩, hp⟩ : ∃ r, (∃ b, (b = true → h.l.length ≤ 30) ∧ r = vb b) ∧ Km.Pure tab.get KW [.a (h.row.map .f)] r := by
    refine jU aJ1 rfl fun Q hQ => ?_
    refine ak (aj (.inl rfl) ?_)
    simp [HsD.row]
    refine ak ?_
    refine ak (aj (.inl rfl) ?_)
    simp
    by_cases k : h.l.length ≤ 30
    case neg =>
      refine aI (by simp; omega) (ak (aj (.inl rfl) ?_))
      simp
      exact aO (hQ _ _ (vb false) ⟨false, by simp, rfl⟩ (by simp))
    refine aB (by simp; omega) (aN ?_)
    refine ak ?_
    refine ak (aj (.inl rfl) ?_)
    simp
    refine iU h.l.length (fun j t H => t.g 1 = .c (.ptr 0 0 0) ∧ H[0]? = some (.box [.f (fi h.clock), .f (fi h.bg), .f (sl h.lg (aJ h.l))] 0)) (by omega) rfl (by simp) ⟨by simp, rfl⟩ ?_ ?_ ?_
    · rintro j t H L hj ⟨g1, h0⟩ ha hk
      simp [ha, g1, h0]
      exact hk _ ⟨by simp [g1], h0⟩ (by simp [ha]) (by simp)
    · rintro j t H hj ⟨g1, h0⟩ ha next
      have b2 : ldV H none (.c (.ptr 0 2 0)) = some (.c (.f (sl h.lg (aJ h.l)))) := by simp [h0, bC]
      have hidx := dJ (H := H) (g := h.lg) (rows := aJ h.l) (sz := 10) (k := .i64) (i := (j : Int)) (by omega) (by simp; omega)
      rw [Int.toNat_natCast] at hidx
      have hld := xO (H := H) (k := 7) (n := 3) (aZ h.l) (cu hj) (by decide)
      obtain ⟨x, hx⟩ : ∃ x, x = h.l[j] := ⟨_, rfl⟩
      rw [← hx] at hld
      have hrow : ((x.row.drop 7).take 3).map C.f = [.f (sl x.stand.st.cg (aW x.stand.st.cs)), .f (fi x.stand.st.len), .f (sl x.stand.st.xg (bn x.stand.st.xs))] := rfl
      rw [hrow] at hld
      refine aS ?_
      refine ak (aj (.inl rfl) ?_)
      simp [ha, g1, b2, hidx, hld, -aU]
      obtain ⟨H3, hH3⟩ : ∃ H3 : Heap, H3 = H ++ [.box [.f (sl x.stand.st.cg (aW x.stand.st.cs)), .f (fi x.stand.st.len), .f (sl x.stand.st.xg (bn x.stand.st.xs))] 0] := ⟨_, rfl⟩
      have q0 : ldV H3 none (.c (.ptr H.length 0 0)) = some (.c (.f (sl x.stand.st.cg (aW x.stand.st.cs)))) := by rw [hH3]; simp [bC]
      have q2 : ldV H3 none (.c (.ptr H.length 2 0)) = some (.c (.f (sl x.stand.st.xg (bn x.stand.st.xs)))) := by rw [hH3]; simp [bC]
      have h3 : H3[0]? = some (.box [.f (fi h.clock), .f (fi h.bg), .f (sl h.lg (aJ h.l))] 0) := by rw [hH3, List.getElem?_append_left (aT h0)]; exact h0
      rw [← hH3]
      refine ak ?_
      refine aj (.inl rfl) ?_
      by_cases k1 : (4 : Int) < x.stand.st.cs.length
      · simp [q0, k1, -aU]
        refine aI (by simp) (ak (aj (.inl rfl) ?_))
        simp
        exact aO (hQ _ _ (vb false) ⟨false, by simp, rfl⟩ (by simp))
      by_cases k2 : (10 : Int) < x.stand.st.xs.length
      · simp [q0, q2, k1, k2, -aU]
        refine aI (by simp) (ak (aj (.inl rfl) ?_))
        simp
        exact aO (hQ _ _ (vb false) ⟨false, by simp, rfl⟩ (by simp))
      simp [q0, q2, k1, k2, -aU]
      exact aB (by simp) (aN (aP (next _ _ ⟨by simp [g1], h3⟩ (by simp [ha]))))
    · rintro t H ⟨g1, h0⟩ ha
      refine ak (aj (.inl rfl) ?_)
      simp
      exact aO (hQ _ _ (vb true) ⟨true, fun _ => k, rfl⟩ (by simp))
  exact ⟨b, hb, hp.eq⟩
end Go.Proofs.YtcjhnkginmflhaaGreat
end

section
namespace Go.Proofs.YtcjhnkginmflhaaGreat
open Go Km

set_option maxRecDepth 100000 in
theorem Ru (aD0 : Km.Pure tab.get F8 [] (vb true)) (h : HsD) (hl0 : h.l.length ≤ 1048576) (hs : ∀ x ∈ h.l, x.Sm) (x : aQ) (n0 n1 n2 : Int) (hx : x.stand.st.cs.length ≤ 1048576) :
    Km.Pure tab.get F9 [.a (h.row.map .f), .a (x.row.map .f), .a [.f (fi n0), .f (fi n1), .f (fi n2)]] (vb true) := by
  refine dM aJ2 rfl fun Q hQ => ?_
  have aD0 := aD0.eq
  obtain ⟨b, hb, hsm⟩ := PL h hl0
  have i0 : ∀ H : Heap, bH H 1 (some 3) (.c (.ptr 2 0 0)) (vi 0) = some (.c (.ptr 2 0 0)) := fun _ => rfl
  have i1 : ∀ H : Heap, bH H 1 (some 3) (.c (.ptr 2 0 0)) (vi 1) = some (.c (.ptr 2 1 0)) := fun _ => rfl
  have i2 : ∀ H : Heap, bH H 1 (some 3) (.c (.ptr 2 0 0)) (vi 2) = some (.c (.ptr 2 2 0)) := fun _ => rfl
  simp [HsD.row] at hsm
  refine ak (aj (.inl rfl) ?_)
  simp [HsD.row, aQ.row]
  refine ak (aj (.inl rfl) ?_)
  simp [aD0]
  have early : ∀ (t : T) (H : Heap) (k : List eG), t.g 7 = vb true → WP tab.get F9 none (.code Lr :: k) ⟨t, [], H⟩ Q := by
    intro t H k g
    refine ak (aj (.inl rfl) ?_)
    simp [g]
    refine aO (hQ _ _ ?_)
    simp
  refine ak ?_
  refine ak ?_
  refine aj (.inl rfl) ?_
  cases hbb : b
  case false =>
    rw [hbb] at hsm
    simp [hsm]
    exact aI (by simp) (early _ _ _ (by simp))
  rw [hbb] at hsm
  have hl := hb hbb
  by_cases k1 : (4 : Int) < x.stand.st.cs.length
  · simp [hsm, k1]
    exact aI (by simp) (early _ _ _ (by simp))
  simp [hsm, k1]
  refine aB (by simp) (aN ?_)
  -- all calls
  obtain ⟨t1, et1, ht1⟩ := amo h hl hs n0
  obtain ⟨t2, et2, ht2⟩ := P5 h hl n0
  obtain ⟨c1, ec1, hc1⟩ := I8 h hl hs n1
  obtain ⟨c2, ec2, hc2⟩ := En h hl n1
  obtain ⟨r1, er1, hr1⟩ := Hr h hl hs n1
  obtain ⟨r2, er2, hr2⟩ := Eb h hl n1
  have hg1 := Sl h hl hs x
  have hg2 := LV h hl x
  rw [← OQ] at et1 et2
  rw [← OJ] at ec1 ec2 er1 er2
  have ss1 := xI et1 et2 (DN hl hs n0).1 (DN hl hs n0).2
  have ss2 := xI ec1 ec2 (sO hl hs n1 2).1 (sO hl hs n1 2).2
  have ss3 := xI er1 er2 (sO hl hs n1 3).1 (sO hl hs n1 3).2
  have ss4 := xI (a := dO) (a' := dO) (R := dO) rfl rfl (by simp [dO]) (fun x hx => by simp [dO] at hx)
  obtain ⟨v, w, hv1, hw1, ⟨fv, fw, rfl, rfl⟩, hvw⟩ := IC h hl hs
  have hva := qg h hl
  have hvb := oq h hl
  have sf1 := aoH n0 n1 n2
  have sf2 := P6 n0 n1 n2
  simp [HsD.row, aQ.row] at ht1 ht2 hc1 hc2 hr1 hr2 hg1 hg2 ss1 ss2 ss3 ss4 hv1 hw1 hva hvb
  refine ak (aj (.inl rfl) ?_)
  simp [i0, i1, i2, ht1]
  refine ak (aj (.inl rfl) ?_)
  simp [i0, i1, i2, ht2]
  refine ak (aj (.inl rfl) ?_)
  simp [i0, i1, i2, hc1]
  refine ak (aj (.inl rfl) ?_)
  simp [i0, i1, i2, hc2]
  refine ak (aj (.inl rfl) ?_)
  simp [i0, i1, i2, hr1]
  refine ak (aj (.inl rfl) ?_)
  simp [i0, i1, i2, hr2]
  refine ak (aj (.inl rfl) ?_)
  simp [i0, i1, i2, hg1, iK]
  refine ak (aj (.inl rfl) ?_)
  simp [i0, i1, i2, hg2, iK]
  refine ak ?_
  refine ak ?_
  refine aj (.inl rfl) ?_
  simp [hva, hvb, hv1, hw1, hvw, ss1, ss2, ss3]
  refine aB (by simp) (aN ?_)
  refine ak (aj (.inl rfl) ?_)
  simp [ss4, i0, i1, i2, sf1, sf2]
  refine aO (hQ _ _ ?_)
  simp
end Go.Proofs.YtcjhnkginmflhaaGreat
end

section
namespace Go.Proofs.YtcjhnkginmflhaaGreat
open Go Km
set_option maxRecDepth 100000

theorem sane : Km.Pure tab.get F8 [] (vb true) := zZ (reckoned ev)

/-! ### Bulk -/
theorem Tc {H : Type} (d : DataW H) : 1 ≤ Rows.uptoBulk d := by
  cases d with
  | lit l => cases l <;> simp [Rows.uptoBulk]
  | nil => simp [Rows.uptoBulk]
  | ptr d => simp [Rows.uptoBulk]
  | slice elems spare => simp [Rows.uptoBulk]
  | agg parts => simp [Rows.uptoBulk]
  | iface t d => simp [Rows.uptoBulk]
  | map entries => simp [Rows.uptoBulk]
  | held h => simp [Rows.uptoBulk]
theorem wo {H : Type} {d : DataW H} {l : List (DataW H)} (h : d ∈ l) : Rows.uptoBulk d ≤ Rows.uptoBulkAll l := by
  induction l with
  | nil => cases h
  | cons x r ih =>
    simp only [Rows.uptoBulkAll]
    rcases List.mem_cons.1 h with e | e
    · subst e; omega
    · have := ih e; omega
theorem Td {H : Type} (l : List (DataW H)) : l.length ≤ Rows.uptoBulkAll l := by
  induction l with
  | nil => simp [Rows.uptoBulkAll]
  | cons x r ih => have := Tc x; simp only [Rows.uptoBulkAll, List.length_cons]; omega
theorem bulk {H : Type} (M : Nat) : Bulk (H := H) Rows.uptoBulk M where
  sl es rs h := by
    simp only [Rows.uptoBulk] at h
    have := Td es
    exact ⟨by omega, fun e he => by have := wo he; omega⟩
  ag ps h p hp := by
    simp only [Rows.uptoBulk] at h
    have := wo hp; omega
  st bs h := by
    simp only [Rows.uptoBulk] at h
    omega

/-! ### What the arguments read as -/
abbrev MB : Nat := 1048576
theorem aC8 {n : Nat} {x : List FC} (h : gW Tryz.prog MB (n + 3) 85 x) : ∃ p : fG, x = p.row ∧ p.Sm := by
  obtain ⟨_, q1, rfl, h1, k1⟩ := bQ (gu (ts := [83, 3, 3, 83]) Tryz.underlying85 rfl h)
  obtain ⟨g, l, rfl, hl, _⟩ := Ap Tryz.underlying83 Tryz.underlying3 h1
  obtain ⟨_, q2, rfl, h1, k2⟩ := bQ k1
  obtain ⟨a, rfl, _⟩ := dK Tryz.underlying3 h1
  obtain ⟨_, q3, rfl, h1, k3⟩ := bQ k2
  obtain ⟨b, rfl, _⟩ := dK Tryz.underlying3 h1
  obtain ⟨_, q4, rfl, h1, k4⟩ := bQ k3
  obtain ⟨g2, l2, rfl, hl2, _⟩ := Ap Tryz.underlying83 Tryz.underlying3 h1
  obtain rfl : q4 = [] := k4
  exact ⟨⟨g, l, a, b, g2, l2⟩, rfl, hl, hl2⟩
theorem amr {n : Nat} {x : List FC} (h : gW Tryz.prog MB (n + 4) 86 x) : ∃ t : dG, x = t.row ∧ t.Sm := by
  obtain ⟨g, rows, rfl, _, hl, hr⟩ := jM Tryz.underlying86 h
  obtain ⟨l, rfl, hp⟩ := oP (enc := fG.row) (p := fG.Sm) fun r hr' => aC8 (hr r hr')
  exact ⟨⟨g, l⟩, rfl, by simpa using hl, hp⟩
theorem SQ {n : Nat} {x : List FC} (h : gW Tryz.prog MB (n + 7) 108 x) : ∃ c : bK, x = c.row ∧ c.Sm := by
  obtain ⟨_, q1, rfl, h1, k1⟩ := bQ (gu (ts := [89, 3]) Tryz.underlying108 rfl h)
  obtain ⟨_, q3, rfl, h3, k3⟩ := bQ (gu (ts := [87]) Tryz.underlying89 rfl h1)
  obtain rfl : q3 = [] := k3
  obtain ⟨g, rows, rfl, _, hl, hr⟩ := jM Tryz.underlying87 h3
  obtain ⟨l, rfl, hp⟩ := oP (enc := dG.row) (p := dG.Sm) fun r hr' => amr (hr r hr')
  obtain ⟨_, q2, rfl, h1, k2⟩ := bQ k1
  obtain ⟨a, rfl, _⟩ := dK Tryz.underlying3 h1
  obtain rfl : q2 = [] := k2
  exact ⟨⟨g, l, a⟩, rfl, by simpa using hl, hp⟩
theorem apL {n : Nat} {x : List FC} (h : gW Tryz.prog MB (n + 3) 42 x) : ∃ i : pV, x = i.row ∧ True := by
  obtain ⟨_, q1, rfl, h1, k1⟩ := bQ (gu (ts := [3, 40]) Tryz.underlying42 rfl h)
  obtain ⟨a, rfl, _⟩ := dK Tryz.underlying3 h1
  obtain ⟨_, q2, rfl, h1, k2⟩ := bQ k1
  obtain rfl : q2 = [] := k2
  obtain ⟨_, q5, rfl, h5, k5⟩ := bQ (gu (ts := [3, 3]) Tryz.underlying40 rfl h1)
  obtain ⟨b, rfl, _⟩ := dK Tryz.underlying3 h5
  obtain ⟨_, q6, rfl, h6, k6⟩ := bQ k5
  obtain ⟨c, rfl, _⟩ := dK Tryz.underlying3 h6
  obtain rfl : q6 = [] := k6
  exact ⟨⟨a, b, c⟩, rfl, trivial⟩
theorem LH {n : Nat} {x : List FC} (h : gW Tryz.prog MB (n + 9) 28 x) : ∃ s : iy, x = s.row ∧ s.Sm := by
  obtain ⟨_, q1, rfl, h1, k1⟩ := bQ (gu (ts := [25, 3, 26]) Tryz.underlying28 rfl h)
  obtain ⟨g, rows, rfl, _, hl, hr⟩ := jM Tryz.underlying25 h1
  obtain ⟨l, rfl, hp⟩ := oP (enc := bK.row) (p := bK.Sm) fun r hr' => SQ (hr r hr')
  obtain ⟨_, q2, rfl, h1, k2⟩ := bQ k1
  obtain ⟨a, rfl, _⟩ := dK Tryz.underlying3 h1
  obtain ⟨_, q3, rfl, h1, k3⟩ := bQ k2
  obtain rfl : q3 = [] := k3
  obtain ⟨g2, rows, rfl, _, hl2, hr⟩ := jM Tryz.underlying26 h1
  obtain ⟨l2, rfl, _⟩ := oP (enc := pV.row) (p := fun _ => True) fun r hr' => apL (n := n + 4) (hr r hr')
  exact ⟨⟨g, l, a, g2, l2⟩, rfl, by simpa using hl, by simpa using hl2, hp⟩
theorem OY {n : Nat} {x : List FC} (h : gW Tryz.prog MB (n + 10) 30 x) : ∃ s : aF, x = s.row ∧ s.Sm := by
  obtain ⟨_, q1, rfl, h1, k1⟩ := bQ (gu (ts := [3, 3, 3, 3, 28]) Tryz.underlying30 rfl h)
  obtain ⟨a, rfl, _⟩ := dK Tryz.underlying3 h1
  obtain ⟨_, q2, rfl, h1, k2⟩ := bQ k1
  obtain ⟨b, rfl, _⟩ := dK Tryz.underlying3 h1
  obtain ⟨_, q3, rfl, h1, k3⟩ := bQ k2
  obtain ⟨c, rfl, _⟩ := dK Tryz.underlying3 h1
  obtain ⟨_, q4, rfl, h1, k4⟩ := bQ k3
  obtain ⟨d, rfl, _⟩ := dK Tryz.underlying3 h1
  obtain ⟨_, q5, rfl, h1, k5⟩ := bQ k4
  obtain rfl : q5 = [] := k5
  obtain ⟨s, rfl, hs⟩ := LH h1
  exact ⟨⟨a, b, c, d, s⟩, rfl, hs⟩
theorem CS {n : Nat} {x : List FC} (h : gW Tryz.prog MB (n + 11) 32 x) : ∃ s : aQ, x = s.row ∧ s.Sm := by
  obtain ⟨_, q1, rfl, h1, k1⟩ := bQ (gu (ts := [3, 3, 3, 30]) Tryz.underlying32 rfl h)
  obtain ⟨a, rfl, _⟩ := dK Tryz.underlying3 h1
  obtain ⟨_, q2, rfl, h1, k2⟩ := bQ k1
  obtain ⟨b, rfl, _⟩ := dK Tryz.underlying3 h1
  obtain ⟨_, q3, rfl, h1, k3⟩ := bQ k2
  obtain ⟨c, rfl, _⟩ := dK Tryz.underlying3 h1
  obtain ⟨_, q4, rfl, h1, k4⟩ := bQ k3
  obtain rfl : q4 = [] := k4
  obtain ⟨s, rfl, hs⟩ := OY h1
  exact ⟨⟨a, b, c, s⟩, rfl, hs⟩
theorem holds_of {x : List FC} (h : gW Tryz.prog MB 40 24 x) : ∃ s : HsD, x = s.row ∧ s.l.length ≤ 1048576 ∧ ∀ y ∈ s.l, y.Sm := by
  obtain ⟨_, q1, rfl, h1, k1⟩ := bQ (gu (ts := [3, 3, 22]) Tryz.underlying24 rfl h)
  obtain ⟨a, rfl, _⟩ := dK Tryz.underlying3 h1
  obtain ⟨_, q2, rfl, h1, k2⟩ := bQ k1
  obtain ⟨b, rfl, _⟩ := dK Tryz.underlying3 h1
  obtain ⟨_, q3, rfl, h1, k3⟩ := bQ k2
  obtain rfl : q3 = [] := k3
  obtain ⟨g, rows, rfl, _, hl, hr⟩ := jM Tryz.underlying22 h1
  obtain ⟨l, rfl, hp⟩ := oP (enc := aQ.row) (p := aQ.Sm) fun r hr' => CS (n := 27) (hr r hr')
  exact ⟨⟨a, b, g, l⟩, rfl, by simpa using hl, hp⟩
theorem DT {x : List FC} (h : gW Tryz.prog MB 40 33 x) : ∃ a b c : Int, x = [fi a, fi b, fi c] := by
  obtain ⟨rows, rfl, hlen, _, hr⟩ := PS Tryz.underlying33 h
  match rows, hlen with
  | [r0, r1, r2], _ =>
    obtain ⟨a, rfl, _⟩ := dK Tryz.underlying3 (hr r0 (by simp))
    obtain ⟨b, rfl, _⟩ := dK Tryz.underlying3 (hr r1 (by simp))
    obtain ⟨c, rfl, _⟩ := dK Tryz.underlying3 (hr r2 (by simp))
    exact ⟨a, b, c, rfl⟩

theorem Io {ar : List V} (h : qK Tryz.prog MB [24, 32, 33] ar) : ∃ (s : HsD) (p : aQ) (a b c : Int), ar = [.a (s.row.map .f), .a (p.row.map .f), .a [.f (fi a), .f (fi b), .f (fi c)]] ∧ (s.l.length ≤ 1048576 ∧ ∀ y ∈ s.l, y.Sm) ∧ p.Sm := by
  obtain ⟨a0, _, rfl, h0, a1, _, rfl, h1, a2, _, rfl, h2, rfl⟩ := h
  have e0 : ∃ xs, a0 = .a (xs.map .f) ∧ gW Tryz.prog MB 40 24 xs := by
    rcases h0 with ⟨xs, rfl, hs, _⟩ | ⟨x, rfl, hs⟩
    · exact ⟨xs, rfl, hs⟩
    · exfalso
      obtain ⟨s, e, _⟩ := holds_of hs
      simp [HsD.row] at e
  have e1 : ∃ xs, a1 = .a (xs.map .f) ∧ gW Tryz.prog MB 40 32 xs := by
    rcases h1 with ⟨xs, rfl, hs, _⟩ | ⟨x, rfl, hs⟩
    · exact ⟨xs, rfl, hs⟩
    · exfalso
      obtain ⟨s, e, _⟩ := CS (n := 29) hs
      simp [aQ.row] at e
  have e2 : ∃ xs, a2 = .a (xs.map .f) ∧ gW Tryz.prog MB 40 33 xs := by
    rcases h2 with ⟨xs, rfl, hs, _⟩ | ⟨x, rfl, hs⟩
    · exact ⟨xs, rfl, hs⟩
    · exfalso
      obtain ⟨a, b, c, e⟩ := DT hs
      simp at e
  obtain ⟨xs, rfl, hs⟩ := e0
  obtain ⟨ys, rfl, hy⟩ := e1
  obtain ⟨zs, rfl, hz⟩ := e2
  obtain ⟨s, rfl, hsm⟩ := holds_of hs
  obtain ⟨p, rfl, hpm⟩ := CS (n := 29) hy
  obtain ⟨a, b, c, rfl⟩ := DT hz
  exact ⟨s, p, a, b, c, rfl, hsm, hpm⟩

theorem Il (ar : List V) (h : qK Tryz.prog MB [24, 32, 33] ar) : Km.Pure tab.get F9 ar (vb true) := by
  obtain ⟨s, p, a, b, c, rfl, hs, hp⟩ := Io h
  exact Ru sane s hs.1 hs.2 p a b c hp.1
end Go.Proofs.YtcjhnkginmflhaaGreat
end

