/-
  What the program's functions and the reference's answer, for all arguments of their kind, in the small machine: part 1.
-/
import Derived.Test.YthjpdnjmppbokaaGreatTabB
import Derived.Test.YthjpdnjmppbokaaGreatK4
import Derived.KernelRfl

set_option linter.unusedVariables false
set_option linter.unusedSimpArgs false
set_option linter.unusedSectionVars false

section
namespace Go.Proofs.YthjpdnjmppbokaaGreat
open Go Km

def withinB (n lo hi : Int) : Bool := decide (lo ≤ n) && decide (n ≤ hi)
theorem withinB_t {n lo hi : Int} (h : withinB n lo hi = true) : lo ≤ n ∧ n ≤ hi := by simpa [withinB] using h

theorem within_kf (n lo hi : Int) : Kf tab.get F_x162 [vi n, vi lo, vi hi] (vb (withinB n lo hi)) := by
  refine kf_fn T_x162 rfl fun H Q hQ => ?_
  refine kw_seq ?_
  refine kw_region (.inl rfl) ?_
  simp
  refine kw_seq ?_
  refine kw_region (.inl rfl) ?_
  by_cases h : lo ≤ n
  · simp [h]
    refine kw_ret (hQ _ _ ?_)
    simp [withinB, h]
  · simp [h]
    refine kw_ret (hQ _ _ ?_)
    simp [withinB, h]
@[simp] theorem within_sp (n lo hi : Int) : Km.Pure tab.get F_x162 [vi n, vi lo, vi hi] = Eq (vb (withinB n lo hi)) := (within_kf n lo hi).eq

end Go.Proofs.YthjpdnjmppbokaaGreat
end

section
namespace Go.Proofs.YthjpdnjmppbokaaGreat
open Go Km

/-- A periodic set. -/
structure PerD where
  hg : Tg
  head : List Int
  fr : Int
  per : Int
  cg : Tg
  cyc : List Int
def PerD.row (p : PerD) : List FC := [sl p.hg (ints p.head), fi p.fr, fi p.per, sl p.cg (ints p.cyc)]
def perRows (l : List PerD) : List (List FC) := l.map PerD.row
@[simp] theorem perRows_len (l : List PerD) : (perRows l).length = l.length := by simp [perRows]
theorem perRows_grid (l : List PerD) : Grid 4 (perRows l) := Grid.map fun _ => rfl
theorem perRows_at {l : List PerD} {j : Nat} (hj : j < l.length) : (perRows l)[j]? = some l[j].row := by simp [perRows, hj]

/-- The numbers rise, from last on, below a limit. -/
def risingB (limit last : Int) : List Int → Bool
  | [] => true
  | n :: r => decide (last < n) && decide (n < limit) && risingB limit n r
theorem risingB_drop {limit last : Int} {l : List Int} {j : Nat} (hj : j < l.length) : risingB limit last (l.drop j) = (decide (last < l[j]) && decide (l[j] < limit) && risingB limit l[j] (l.drop (j + 1))) := by
  rw [List.drop_eq_getElem_cons hj]; rfl
def perB (p : PerD) : Bool := decide (0 ≤ p.fr) && decide (p.fr ≤ 1099511627776) && decide (1 ≤ p.per) && decide (p.per ≤ 1099511627776) &&
  decide ((p.head.length : Int) + p.cyc.length ≤ 1048576) && risingB p.fr (-1) p.head && risingB p.per (-1) p.cyc

theorem rising_kf (g : Tg) (l : List Int) (limit : Int) (hl : l.length ≤ 9223372036854775807) : Kf tab.get F_x111 [.c (.f (sl g (ints l))), vi limit] (vb (risingB limit (-1) l)) := by
  refine kf_fn T_x111 rfl fun H Q hQ => ?_
  refine kw_seq (kw_region (.inl rfl) ?_)
  simp
  refine kw_seq (kw_region (.inl rfl) ?_)
  simp
  refine kw_seq ?_
  refine kw_seq (kw_region (.inl rfl) ?_)
  simp
  refine kw_for l.length (fun j t H' => t.g 1 = vi limit ∧ t.g 8 = .c (.f (sl g (ints l))) ∧ H = H' ∧ ∃ last, t.g 5 = vi last ∧ risingB limit (-1) l = risingB limit last (l.drop j)) hl (by decide) (by decide) (by simp) (by simp) (by simp) ?_ ?_
  · rintro j t _ hj ⟨g1, g8, rfl, last, g5, hB⟩ ha hb next
    rw [risingB_drop hj] at hB
    refine kw_block ?_
    refine kw_seq (kw_region (.inl rfl) ?_)
    simp [ha, g8, idx_sl, hj, ld_int]
    refine kw_seq ?_
    refine kw_seq (kw_region (.inl rfl) ?_)
    simp [g5, g1]
    by_cases k1 : l[j] ≤ last
    · simp [k1]
      refine kw_cond_t (by simp) ?_
      refine kw_seq (kw_region (.inl rfl) ?_)
      simp
      refine kw_ret (hQ _ _ ?_)
      simp [hB, show ¬ last < l[j] by omega]
    simp [k1, g1]
    by_cases k2 : limit ≤ l[j]
    · simp [k2]
      refine kw_cond_t (by simp) ?_
      refine kw_seq (kw_region (.inl rfl) ?_)
      simp
      refine kw_ret (hQ _ _ ?_)
      simp [hB, show ¬ l[j] < limit by omega]
    simp [k2]
    refine kw_cond_f (by simp) ?_
    refine kw_skip ?_
    refine kw_region (.inl rfl) ?_
    simp
    refine kw_inBlock (next _ _ ?_ (by simp [ha]) (by simp [hb]))
    rw [decide_eq_true (by omega), decide_eq_true (by omega)] at hB
    exact ⟨by simp [g1], by simp [g8], rfl, l[j], by simp, by simpa using hB⟩
  · rintro t _ ⟨g1, g8, rfl, last, g5, hB⟩ ha hb
    refine kw_seq (kw_region (.inl rfl) ?_)
    simp
    refine kw_ret (hQ _ _ ?_)
    simp [hB, risingB]
theorem rising_sp (g : Tg) (l : List Int) (limit : Int) (hl : l.length ≤ 9223372036854775807) :
    Km.Pure tab.get F_x111 [.c (.f (sl g (ints l))), vi limit] = Eq (vb (risingB limit (-1) l)) := (rising_kf g l limit hl).eq

theorem per_kf (p : PerD) (h1 : p.head.length ≤ 9223372036854775807) (h2 : p.cyc.length ≤ 9223372036854775807) (h : p.head.length + p.cyc.length ≤ 9223372036854775807) :
    Kf tab.get F_x96 [.a (p.row.map .f)] (vb (perB p)) := by
  refine kf_fn T_x96 rfl fun H Q hQ => ?_
  refine kw_seq (kw_region (.inl rfl) ?_)
  simp [PerD.row]
  refine kw_seq (kw_region (.inl rfl) ?_)
  simp
  by_cases k1 : 0 ≤ p.fr
  case neg =>
    simp [k1]
    refine kw_ret (hQ _ _ ?_)
    simp [perB, k1]
  simp [k1]
  by_cases k2 : p.fr ≤ 1099511627776
  case neg =>
    simp [k2]
    refine kw_ret (hQ _ _ ?_)
    simp [perB, k2]
  simp [k2]
  by_cases k3 : 1 ≤ p.per
  case neg =>
    simp [k3]
    refine kw_ret (hQ _ _ ?_)
    simp [perB, k3]
  simp [k3]
  by_cases k4 : p.per ≤ 1099511627776
  case neg =>
    simp [k4]
    refine kw_ret (hQ _ _ ?_)
    simp [perB, k4]
  simp [k4, wrap64 (n := (p.head.length : Int) + p.cyc.length) (by omega) (by omega)]
  by_cases k5 : (p.head.length : Int) + p.cyc.length ≤ 1048576
  case neg =>
    simp [k5]
    refine kw_ret (hQ _ _ ?_)
    simp [perB, k5]
  simp [k5, rising_sp p.hg p.head p.fr h1]
  cases k6 : risingB p.fr (-1) p.head
  · simp
    refine kw_ret (hQ _ _ ?_)
    simp [perB, k6]
  simp [rising_sp p.cg p.cyc p.per h2]
  refine kw_ret (hQ _ _ ?_)
  simp [perB, k1, k2, k3, k4, k5, k6]
end Go.Proofs.YthjpdnjmppbokaaGreat
end

section
namespace Go.Proofs.YthjpdnjmppbokaaGreat
open Go Km

def PerD.Sm (p : PerD) : Prop := p.head.length + p.cyc.length ≤ 9223372036854775807
theorem per_sp (p : PerD) (h : p.Sm) : Km.Pure tab.get F_x96 [.a (p.row.map .f)] = Eq (vb (perB p)) := by
  have h : p.head.length + p.cyc.length ≤ 9223372036854775807 := h
  exact (per_kf p (by omega) (by omega) h).eq
theorem perB_sm {p : PerD} (h : perB p = true) : p.Sm := by
  simp [perB] at h
  show p.head.length + p.cyc.length ≤ 9223372036854775807
  omega

/-- A term. -/
structure TermD where
  tg : Tg
  fs : List PerD
def TermD.row (t : TermD) : List FC := [sl t.tg (perRows t.fs)]
def termRows (l : List TermD) : List (List FC) := l.map TermD.row
@[simp] theorem termRows_len (l : List TermD) : (termRows l).length = l.length := by simp [termRows]
theorem termRows_grid (l : List TermD) : Grid 1 (termRows l) := Grid.map fun _ => rfl
theorem termRows_at {l : List TermD} {j : Nat} (hj : j < l.length) : (termRows l)[j]? = some l[j].row := by simp [termRows, hj]
def TermD.Sm (t : TermD) : Prop := t.fs.length ≤ 9223372036854775807 ∧ ∀ p ∈ t.fs, p.Sm
def termB (t : TermD) : Bool := decide (1 ≤ (t.fs.length : Int)) && decide ((t.fs.length : Int) ≤ 4) && t.fs.all perB
def mixB (l : List TermD) : Bool := decide ((l.length : Int) ≤ 64) && l.all termB
theorem all_drop {α : Type} {l : List α} {p : α → Bool} {j : Nat} (hj : j < l.length) : (l.drop j).all p = (p l[j] && (l.drop (j + 1)).all p) := by
  rw [List.drop_eq_getElem_cons hj, List.all_cons]

theorem bad_kf (p : PerD) (h : p.Sm) : Kf tab.get F_x45 [.a (p.row.map .f)] (vb (!perB p)) := by
  refine kf_fn T_x45 rfl fun H Q hQ => ?_
  have hv := per_sp p h
  simp [PerD.row] at hv
  refine kw_seq (kw_region (.inl rfl) ?_)
  simp [PerD.row]
  refine kw_seq (kw_region (.inl rfl) ?_)
  simp [hv]
  refine kw_ret (hQ _ _ ?_)
  simp
theorem anybad_sp (g : Tg) (l : List PerD) (hl : l.length ≤ 9223372036854775807) (h : ∀ p ∈ l, p.Sm) :
    Km.Pure tab.get F_x177 [.c (.f (sl g (perRows l))), .c (.f (.fn F_x45 []))] = Eq (vb (l.any fun p => !perB p)) :=
  (contains_kf T_x177 (indexf_kf T_x190 l PerD.row (fun r => .a (r.row.map .f)) (fun p => !perB p) g F_x45 [] hl
    (fun j hj H => ld_rowa (perRows_grid l) (perRows_at hj)) (fun p hp => bad_kf p (h p hp)))).eq

theorem mix_kf (g : Tg) (l : List TermD) (hl : l.length ≤ 9223372036854775807) (h : ∀ t ∈ l, t.Sm) : Kf tab.get F_x44 [.a [.f (sl g (termRows l))]] (vb (mixB l)) := by
  refine kf_fn T_x44 rfl fun H Q hQ => ?_
  refine kw_seq (kw_region (.inl rfl) ?_)
  simp
  refine kw_seq ?_
  refine kw_seq (kw_region (.inl rfl) ?_)
  simp
  by_cases k1 : (64 : Int) < l.length
  · simp [k1]
    refine kw_cond_t (by simp) ?_
    refine kw_seq (kw_region (.inl rfl) ?_)
    simp
    refine kw_ret (hQ _ _ ?_)
    simp [mixB, show ¬ (l.length : Int) ≤ 64 by omega]
  simp [k1]
  refine kw_cond_f (by simp) ?_
  refine kw_skip ?_
  refine kw_seq ?_
  refine kw_seq (kw_region (.inl rfl) ?_)
  simp
  refine kw_for l.length (fun j t H' => t.g 10 = .c (.f (sl g (termRows l))) ∧ (∃ J, H' = H ++ J) ∧ l.all termB = (l.drop j).all termB) hl (by decide) (by decide) (by simp) (by simp) (by simp) ?_ ?_
  · rintro j t _ hj ⟨g10, ⟨J, rfl⟩, hB⟩ ha hb next
    rw [all_drop hj] at hB
    have hs := h l[j] (List.getElem_mem hj)
    have hrow := ld_row (H := H ++ J) (k := 0) (termRows_grid l) (termRows_at hj) rfl
    refine kw_block ?_
    refine kw_seq (kw_region (.inl rfl) ?_)
    simp at hrow
    simp [ha, g10, idx_sl, hj, hrow]
    have bad : termB l[j] = false → ∀ (t : T) (J : Heap) k, WP tab.get F_x44 none (.code (.region [⟨D 2, .mov (.k (.c (.f (.bool false)))), none⟩] []) :: .code .ret :: k) ⟨t, [], H ++ J⟩ Q := by
      intro hf t J k
      refine kw_region (.inl rfl) ?_
      simp
      refine kw_ret (hQ _ _ ?_)
      simp [mixB, hB, hf]
    refine kw_seq (kw_region (.inl rfl) ?_)
    simp
    by_cases k2 : (l[j].fs.length : Int) < 1
    · simp [k2]
      exact kw_cond_t (by simp) (kw_seq (bad (by simp [termB, show ¬ 1 ≤ (l[j].fs.length : Int) by omega]) _ _ _))
    simp [k2]
    by_cases k3 : (4 : Int) < l[j].fs.length
    · simp [k3]
      exact kw_cond_t (by simp) (kw_seq (bad (by simp [termB, show ¬ (l[j].fs.length : Int) ≤ 4 by omega]) _ _ _))
    simp [k3, anybad_sp l[j].tg l[j].fs hs.1 hs.2]
    cases k4 : l[j].fs.any fun p => !perB p
    · have : termB l[j] = true := by
        simp [termB] at k4 ⊢
        exact ⟨⟨by omega, by omega⟩, k4⟩
      refine kw_cond_f (by simp) ?_
      refine kw_skip (kw_inBlock (next _ _ ?_ (by simp [ha]) (by simp [hb])))
      rw [this, Bool.true_and] at hB
      exact ⟨by simp [g10], ⟨_, rfl⟩, hB⟩
    · exact kw_cond_t (by simp) (kw_seq (bad (by simp [termB] at k4 ⊢; intro _ _; exact k4) _ _ _))
  · rintro t _ ⟨g10, ⟨J, rfl⟩, hB⟩ ha hb
    refine kw_seq (kw_region (.inl rfl) ?_)
    simp
    refine kw_ret (hQ _ _ ?_)
    simp [mixB, hB, show (l.length : Int) ≤ 64 by omega]
end Go.Proofs.YthjpdnjmppbokaaGreat
end

section
namespace Go.Proofs.YthjpdnjmppbokaaGreat
open Go Km

/-! ### Comparing -/
theorem isNaN_sp (a : Int) : Km.Pure tab.get F_x5 [vi a] = Eq (vb false) := (show Kf tab.get F_x5 [vi a] (vb false) by
  refine kf_fn T_x5 rfl fun H Q hQ => ?_
  refine kw_seq (kw_region (.inl rfl) ?_)
  simp
  refine kw_seq (kw_region (.inl rfl) ?_)
  simp
  refine kw_ret (hQ _ _ ?_)
  simp).eq

def cmpI (a b : Int) : Int := if a < b then -1 else if b < a then 1 else 0
theorem compare_kf (a b : Int) : Kf tab.get F_x2 [vi a, vi b] (vi (cmpI a b)) := by
  refine kf_fn T_x2 rfl fun H Q hQ => ?_
  refine kw_seq (kw_region (.inl rfl) ?_)
  simp
  refine kw_seq (kw_region (.inl rfl) ?_)
  simp [isNaN_sp]
  refine kw_seq (kw_region (.inl rfl) ?_)
  simp [isNaN_sp]
  refine kw_seq ?_
  refine kw_seq (kw_region (.inl rfl) ?_)
  simp
  refine kw_cond_f (by simp) (kw_skip ?_)
  refine kw_seq ?_
  refine kw_seq (kw_region (.inl rfl) ?_)
  simp
  refine kw_cond_f (by simp) (kw_skip ?_)
  refine kw_seq ?_
  refine kw_seq (kw_region (.inl rfl) ?_)
  simp
  by_cases h : a < b
  · refine kw_cond_t (by simp [h]) ?_
    refine kw_seq (kw_region (.inl rfl) ?_)
    simp
    refine kw_ret (hQ _ _ ?_)
    simp [cmpI, h]
  refine kw_cond_f (by simp [h]) (kw_skip ?_)
  refine kw_seq ?_
  refine kw_seq (kw_region (.inl rfl) ?_)
  simp
  by_cases h' : b < a
  · refine kw_cond_t (by simp [h']) ?_
    refine kw_seq (kw_region (.inl rfl) ?_)
    simp
    refine kw_ret (hQ _ _ ?_)
    simp [cmpI, h, h']
  refine kw_cond_f (by simp [h']) (kw_skip ?_)
  refine kw_seq (kw_region (.inl rfl) ?_)
  simp
  refine kw_ret (hQ _ _ ?_)
  simp [cmpI, h, h']
theorem compare_sp (a b : Int) : Km.Pure tab.get F_x2 [vi a, vi b] = Eq (vi (cmpI a b)) := (compare_kf a b).eq

/-- The first that is not 0. -/
def orI : List Int → Int
  | [] => 0
  | a :: r => if a = 0 then orI r else a
theorem orI_drop {l : List Int} {j : Nat} (hj : j < l.length) : orI (l.drop j) = if l[j] = 0 then orI (l.drop (j + 1)) else l[j] := by
  rw [List.drop_eq_getElem_cons hj]; rfl
theorem or_kf (g : Tg) (l : List Int) (hl : l.length ≤ 9223372036854775807) : Kf tab.get F_x4 [.c (.f (sl g (ints l)))] (vi (orI l)) := by
  refine kf_fn T_x4 rfl fun H Q hQ => ?_
  refine kw_seq (kw_region (.inl rfl) ?_)
  simp
  refine kw_seq (kw_region (.inl rfl) ?_)
  simp
  refine kw_seq ?_
  refine kw_seq (kw_region (.inl rfl) ?_)
  simp
  refine kw_for l.length (fun j t H' => t.g 3 = vi 0 ∧ t.g 6 = .c (.f (sl g (ints l))) ∧ H = H' ∧ orI l = orI (l.drop j)) hl (by decide) (by decide) (by simp) (by simp) (by simp) ?_ ?_
  · rintro j t _ hj ⟨g3, g6, rfl, hB⟩ ha hb next
    rw [orI_drop hj] at hB
    refine kw_block ?_
    refine kw_seq (kw_region (.inl rfl) ?_)
    simp [ha, g6, idx_sl, hj, ld_int]
    refine kw_seq (kw_region (.inl rfl) ?_)
    simp [g3]
    by_cases h : l[j] = 0
    · refine kw_cond_f (by simp [h]) ?_
      refine kw_skip (kw_inBlock (next _ _ ?_ (by simp [ha]) (by simp [hb])))
      rw [if_pos h] at hB
      exact ⟨by simp [g3], by simp [g6], rfl, hB⟩
    · refine kw_cond_t (by simp [h]) ?_
      refine kw_seq (kw_region (.inl rfl) ?_)
      simp
      refine kw_ret (hQ _ _ ?_)
      simp [hB, h]
  · rintro t _ ⟨g3, g6, rfl, hB⟩ ha hb
    refine kw_seq (kw_region (.inl rfl) ?_)
    simp [g3]
    refine kw_ret (hQ _ _ ?_)
    simp [hB, orI]
theorem or_sp (g : Tg) (l : List Int) (hl : l.length ≤ 9223372036854775807) : Km.Pure tab.get F_x4 [.c (.f (sl g (ints l)))] = Eq (vi (orI l)) := (or_kf g l hl).eq

theorem ein_kf (n lo hi : Int) : Kf tab.get F_x16 [vi n, vi lo, vi hi] (vb (withinB n lo hi)) := by
  refine kf_fn T_x16 rfl fun H Q hQ => ?_
  refine kw_seq (kw_region (.inl rfl) ?_)
  simp
  refine kw_seq (kw_region (.inl rfl) ?_)
  by_cases h : lo ≤ n
  · simp [h]
    refine kw_ret (hQ _ _ ?_)
    simp [withinB, h]
  · simp [h]
    refine kw_ret (hQ _ _ ?_)
    simp [withinB, h]
@[simp] theorem ein_sp (n lo hi : Int) : Km.Pure tab.get F_x16 [vi n, vi lo, vi hi] = Eq (vb (withinB n lo hi)) := (ein_kf n lo hi).eq

/-! ### Instances, streams -/
structure InstD where
  day : Int
  fr : Int
  to : Int
deriving DecidableEq
def InstD.row (x : InstD) : List FC := [fi x.day, fi x.fr, fi x.to]
def instRows (l : List InstD) : List (List FC) := l.map InstD.row
@[simp] theorem instRows_len (l : List InstD) : (instRows l).length = l.length := by simp [instRows]
theorem instRows_grid (l : List InstD) : Grid 3 (instRows l) := Grid.map fun _ => rfl
theorem instRows_at {l : List InstD} {j : Nat} (hj : j < l.length) : (instRows l)[j]? = some l[j].row := by simp [instRows, hj]
def ordI (x y : InstD) : Int := orI [cmpI x.fr y.fr, cmpI x.day y.day, cmpI x.to y.to]
theorem order_kf (x y : InstD) : Kf tab.get F_x18 [.a (x.row.map .f), .a (y.row.map .f)] (vi (ordI x y)) := by
  refine kf_fn T_x18 rfl fun H Q hQ => ?_
  have ho := or_sp .fs [cmpI x.fr y.fr, cmpI x.day y.day, cmpI x.to y.to] (by simp)
  simp [ints, sl, Tg.fc] at ho
  refine kw_seq (kw_region (.inl rfl) ?_)
  simp [InstD.row]
  refine kw_seq (kw_region (.inl rfl) ?_)
  simp [compare_sp, deep, ex_sl, mk_sl, ho]
  refine kw_ret (hQ _ _ ?_)
  simp [ordI]
end Go.Proofs.YthjpdnjmppbokaaGreat
end

section
namespace Go.Proofs.YthjpdnjmppbokaaGreat
open Go Km

theorem order_sp (x y : InstD) : Km.Pure tab.get F_x18 [.a (x.row.map .f), .a (y.row.map .f)] = Eq (vi (ordI x y)) := (order_kf x y).eq
theorem mix_sp (g : Tg) (l : List TermD) (hl : l.length ≤ 9223372036854775807) (h : ∀ t ∈ l, t.Sm) : Km.Pure tab.get F_x44 [.a [.f (sl g (termRows l))]] = Eq (vb (mixB l)) := (mix_kf g l hl h).eq

structure ClassD where
  mg : Tg
  ts : List TermD
  min : Int
def ClassD.row (c : ClassD) : List FC := [sl c.mg (termRows c.ts), fi c.min]
def classRows (l : List ClassD) : List (List FC) := l.map ClassD.row
@[simp] theorem classRows_len (l : List ClassD) : (classRows l).length = l.length := by simp [classRows]
theorem classRows_grid (l : List ClassD) : Grid 2 (classRows l) := Grid.map fun _ => rfl
theorem classRows_at {l : List ClassD} {j : Nat} (hj : j < l.length) : (classRows l)[j]? = some l[j].row := by simp [classRows, hj]
structure StreamD where
  cg : Tg
  cs : List ClassD
  len : Int
  xg : Tg
  xs : List InstD
def StreamD.row (s : StreamD) : List FC := [sl s.cg (classRows s.cs), fi s.len, sl s.xg (instRows s.xs)]
/-- No list is longer than an int says. -/
def StreamD.Sm (s : StreamD) : Prop := s.cs.length ≤ 9223372036854775807 ∧ s.xs.length ≤ 9223372036854775807 ∧ ∀ c ∈ s.cs, c.ts.length ≤ 9223372036854775807 ∧ ∀ t ∈ c.ts, t.Sm

def classesB : Option Int → List ClassD → Bool
  | _, [] => true
  | prev, c :: r => mixB c.ts && withinB c.min (-4320) 4320 && (prev.all fun m => decide (m < c.min)) && classesB (some c.min) r
def goodB (x : InstD) : Bool := withinB x.day 0 1099511627776 && withinB x.fr (-2251799813685248) 1583296743997439 && withinB x.to (x.fr + 1) (x.fr + 10080)
def extraB : Option InstD → List InstD → Bool
  | _, [] => true
  | prev, x :: r => goodB x && (prev.all fun m => decide (ordI m x < 0)) && extraB (some x) r
def streamB (s : StreamD) : Bool := decide ((s.cs.length : Int) ≤ 64) && withinB s.len 1 10080 && decide ((s.xs.length : Int) ≤ 4096) && classesB none s.cs && extraB none s.xs
theorem classesB_drop {p : Option Int} {l : List ClassD} {j : Nat} (hj : j < l.length) : classesB p (l.drop j) = (mixB l[j].ts && withinB l[j].min (-4320) 4320 && (p.all fun m => decide (m < l[j].min)) && classesB (some l[j].min) (l.drop (j + 1))) := by
  rw [List.drop_eq_getElem_cons hj]; rfl
theorem extraB_drop {p : Option InstD} {l : List InstD} {j : Nat} (hj : j < l.length) : extraB p (l.drop j) = (goodB l[j] && (p.all fun m => decide (ordI m l[j] < 0)) && extraB (some l[j]) (l.drop (j + 1))) := by
  rw [List.drop_eq_getElem_cons hj]; rfl

theorem stream_kf (s : StreamD) (h : s.Sm) : Kf tab.get F_x10 [.a (s.row.map .f)] (vb (streamB s)) := by
  obtain ⟨hc, hx, hts⟩ := h
  refine kf_fn T_x10 rfl fun H Q hQ => ?_
  have bad : streamB s = false → ∀ (t : T) (J : Heap) k, WP tab.get F_x10 none (.code (.region [⟨D 2, .mov (.k (.c (.f (.bool false)))), none⟩] []) :: .code .ret :: k) ⟨t, [], H ++ J⟩ Q := by
    intro hf t J k
    refine kw_region (.inl rfl) ?_
    simp
    refine kw_ret (hQ _ _ ?_)
    simp [hf]
  refine kw_seq (kw_region (.inl rfl) ?_)
  simp [StreamD.row]
  refine kw_seq ?_
  refine kw_seq (kw_region (.inl rfl) ?_)
  simp
  by_cases k1 : (64 : Int) < s.cs.length
  · simp [k1]
    exact kw_cond_t (by simp) (kw_seq (bad (by simp [streamB, show ¬ (s.cs.length : Int) ≤ 64 by omega]) _ _ _))
  simp [k1]
  cases k2 : withinB s.len 1 10080
  · simp
    exact kw_cond_t (by simp) (kw_seq (bad (by simp [streamB, k2]) _ _ _))
  simp
  by_cases k3 : (4096 : Int) < s.xs.length
  · simp [k3]
    exact kw_cond_t (by simp) (kw_seq (bad (by simp [streamB, show ¬ (s.xs.length : Int) ≤ 4096 by omega]) _ _ _))
  simp [k3]
  have hS : streamB s = (classesB none s.cs && extraB none s.xs) := by simp [streamB, k2, show (s.cs.length : Int) ≤ 64 by omega, show (s.xs.length : Int) ≤ 4096 by omega]
  rw [hS] at bad
  refine kw_cond_f (by simp) ?_
  refine kw_skip ?_
  refine kw_seq ?_
  refine kw_seq (kw_region (.inl rfl) ?_)
  simp
  obtain ⟨ROW, hROW⟩ : ∃ x, x = [C.f (sl s.cg (classRows s.cs)), C.f (fi s.len), C.f (sl s.xg (instRows s.xs))] := ⟨_, rfl⟩
  rw [← hROW]
  have hr0 : ROW.drop 0 = [C.f (sl s.cg (classRows s.cs)), C.f (fi s.len), C.f (sl s.xg (instRows s.xs))] := by rw [hROW]; rfl
  have hr2 : ROW.drop 2 = [C.f (sl s.xg (instRows s.xs))] := by rw [hROW]; rfl
  have hr3 : ROW = C.f (sl s.cg (classRows s.cs)) :: [C.f (fi s.len), C.f (sl s.xg (instRows s.xs))] := hROW
  refine kw_for s.cs.length (fun j t H' => t.g 1 = .c (.ptr H.length 0 0) ∧ t.g 25 = .c (.f (sl s.cg (classRows s.cs))) ∧ (∃ J, H' = H ++ (.box ROW 0 :: J)) ∧
    ∃ prev, (∀ m, j = m + 1 → ∀ h : m < s.cs.length, prev = some (s.cs[m]'h).min) ∧ (j = 0 → prev = none) ∧ classesB none s.cs = classesB prev (s.cs.drop j)) hc (by decide) (by decide) (by simp) (by simp)
      ⟨by simp, by simp, ⟨[], by simp⟩, none, by omega, by simp, by simp⟩ ?_ ?_
  · rintro j t _ hj ⟨g1, g25, ⟨J, rfl⟩, prev, l1, l2, hB⟩ ha hb next
    rw [classesB_drop hj] at hB
    have hld := ld_rowa (H := H ++ (.box ROW 0 :: J)) (classRows_grid s.cs) (classRows_at hj)
    have hm := mix_sp s.cs[j].mg s.cs[j].ts (hts _ (List.getElem_mem hj)).1 (hts _ (List.getElem_mem hj)).2
    refine kw_block ?_
    refine kw_seq (kw_region (.inl rfl) ?_)
    simp [ha, g25, idx_sl, hj, hld, ClassD.row]
    refine kw_seq (kw_region (.inl rfl) ?_)
    simp [hm]
    cases k4 : mixB s.cs[j].ts
    · simp
      exact kw_cond_t (by simp) (kw_seq (bad (by simp [hB, k4]) _ _ _))
    simp
    cases k5 : withinB s.cs[j].min (-4320) 4320
    · simp
      exact kw_cond_t (by simp) (kw_seq (bad (by simp [hB, k5]) _ _ _))
    simp
    have go : (prev.all fun m => decide (m < s.cs[j].min)) = true → ∃ prev', (∀ m, j + 1 = m + 1 → ∀ h : m < s.cs.length, prev' = some (s.cs[m]'h).min) ∧ (j + 1 = 0 → prev' = none) ∧ classesB none s.cs = classesB prev' (s.cs.drop (j + 1)) := by
      intro hp
      rw [k4, k5, hp, Bool.true_and, Bool.true_and, Bool.true_and] at hB
      refine ⟨some s.cs[j].min, fun m hm h => ?_, by omega, hB⟩
      have : m = j := by omega
      subst this; rfl
    cases j with
    | zero =>
      simp
      refine kw_cond_f (by simp) ?_
      refine kw_skip (kw_inBlock (next _ _ ?_ (by simp [ha]) (by simp [hb])))
      exact ⟨by simp [g1], by simp [g25], ⟨_, rfl⟩, go (by rw [l2 rfl]; rfl)⟩
    | succ m =>
      have hm : m < s.cs.length := by omega
      have hl1 := l1 m rfl hm
      have e1 : ((m + 1 : Nat) : Int) - 1 = m := by omega
      have hrow := ld_row (H := H ++ (Blk.box ROW 0 :: (J ++ [Blk.box [C.f (sl s.cs[m + 1].mg (termRows s.cs[m + 1].ts)), C.f (fi s.cs[m + 1].min)] 0]))) (k := 1) (classRows_grid s.cs) (classRows_at hm) rfl
      rw [hr3] at hrow
      simp [show 0 < m + 1 by omega, g1, hr3, wrap64 (n := (m : Int)) (by omega) (by omega), idx_sl, hm, hrow]
      by_cases k6 : s.cs[m + 1].min ≤ s.cs[m].min
      · simp [k6]
        have b := bad (by simp [hB, hl1, show ¬ s.cs[m].min < s.cs[m + 1].min by omega])
        refine kw_cond_t (by simp) ?_
        exact kw_seq (b _ _ _)
      · simp [k6]
        refine kw_cond_f (by simp) ?_
        refine kw_skip (kw_inBlock (next _ _ ?_ (by simp [ha]) (by simp [hb])))
        exact ⟨by simp [g1], by simp [g25], ⟨_, by rw [hr3]⟩, go (by rw [hl1]; simp; omega)⟩
  · rintro t _ ⟨g1, g25, ⟨J, rfl⟩, prev, l1, l2, hB⟩ ha hb
    have hC : classesB none s.cs = true := by rw [hB]; simp [classesB]
    rw [hC, Bool.true_and] at bad hS
    refine kw_seq ?_
    refine kw_seq (kw_region (.inl rfl) ?_)
    simp [g1, hr2]
    refine kw_for s.xs.length (fun j t H' => t.g 1 = .c (.ptr H.length 0 0) ∧ t.g 60 = .c (.f (sl s.xg (instRows s.xs))) ∧ (∃ J, H' = H ++ (.box ROW 0 :: J)) ∧
      ∃ prev, (∀ m, j = m + 1 → ∀ h : m < s.xs.length, prev = some (s.xs[m]'h)) ∧ (j = 0 → prev = none) ∧ extraB none s.xs = extraB prev (s.xs.drop j)) hx (by decide) (by decide) (by simp) (by simp)
        ⟨by simp [g1], by simp, ⟨J, by simp⟩, none, by omega, by simp, by simp⟩ ?_ ?_
    · rintro j t _ hj ⟨g1, g60, ⟨J, rfl⟩, prev, l1, l2, hB⟩ ha hb next
      rw [extraB_drop hj] at hB
      have hld := ld_rowa (H := H ++ (.box ROW 0 :: J)) (instRows_grid s.xs) (instRows_at hj)
      refine kw_block ?_
      refine kw_seq (kw_region (.inl rfl) ?_)
      simp [ha, g60, idx_sl, hj, hld, InstD.row]
      have off : goodB s.xs[j] = false → ∀ (t : T) (J : Heap) k, t.g 7 = vb false → WP tab.get F_x10 none (.code C_x10_42 :: k) ⟨t, [], H ++ J⟩ Q := by
        intro hf t J k g7
        refine kw_seq (kw_region (.inl rfl) ?_)
        simp [g7]
        exact kw_cond_t (by simp) (kw_seq (bad (by simp [hB, hf]) _ _ _))
      have go : goodB s.xs[j] = true → (prev.all fun m => decide (ordI m s.xs[j] < 0)) = true → ∃ prev', (∀ m, j + 1 = m + 1 → ∀ h : m < s.xs.length, prev' = some (s.xs[m]'h)) ∧ (j + 1 = 0 → prev' = none) ∧ extraB none s.xs = extraB prev' (s.xs.drop (j + 1)) := by
        intro hg hp
        rw [hg, hp, Bool.true_and, Bool.true_and] at hB
        refine ⟨some s.xs[j], fun m hm h => ?_, by omega, hB⟩
        have : m = j := by omega
        subst this; rfl
      refine kw_seq (kw_region (.inl rfl) ?_)
      simp
      cases k4 : withinB s.xs[j].day 0 1099511627776
      · simp
        exact off (by simp [goodB, k4]) _ _ _ (by simp)
      simp
      cases k5 : withinB s.xs[j].fr (-2251799813685248) 1583296743997439
      · simp
        exact off (by simp [goodB, k5]) _ _ _ (by simp)
      have w5 := withinB_t k5
      simp [wrap64 (n := s.xs[j].fr + 1) (by omega) (by omega), wrap64 (n := s.xs[j].fr + 10080) (by omega) (by omega)]
      cases k6 : withinB s.xs[j].to (s.xs[j].fr + 1) (s.xs[j].fr + 10080)
      · exact off (by simp [goodB, k6]) _ _ _ (by simp)
      have hg : goodB s.xs[j] = true := by simp [goodB, k4, k5, k6]
      refine kw_seq (kw_region (.inl rfl) ?_)
      simp
      cases j with
      | zero =>
        simp
        refine kw_cond_f (by simp) ?_
        refine kw_skip (kw_inBlock (next _ _ ?_ (by simp [ha]) (by simp [hb])))
        exact ⟨by simp [g1], by simp [g60], ⟨_, rfl⟩, go hg (by rw [l2 rfl]; rfl)⟩
      | succ m =>
        have hm : m < s.xs.length := by omega
        have hl1 := l1 m rfl hm
        have e1 : ((m + 1 : Nat) : Int) - 1 = m := by omega
        have hrow := ld_rowa (H := H ++ (.box ROW 0 :: (J ++ [Blk.box [C.f (fi s.xs[m + 1].day), C.f (fi s.xs[m + 1].fr), C.f (fi s.xs[m + 1].to)] 0]))) (instRows_grid s.xs) (instRows_at hm)
        have hord := order_sp s.xs[m] s.xs[m + 1]
        simp [InstD.row] at hord hrow
        simp [show 0 < m + 1 by omega, g1, hr2, wrap64 (n := (m : Int)) (by omega) (by omega), idx_sl, hm, hrow, hord]
        by_cases k7 : 0 ≤ ordI s.xs[m] s.xs[m + 1]
        · simp [k7]
          have b := bad (by simp [hB, hl1, show ¬ ordI s.xs[m] s.xs[m + 1] < 0 by omega])
          refine kw_cond_t (by simp) ?_
          exact kw_seq (b _ _ _)
        · simp [k7]
          refine kw_cond_f (by simp) ?_
          refine kw_skip (kw_inBlock (next _ _ ?_ (by simp [ha]) (by simp [hb])))
          exact ⟨by simp [g1], by simp [g60], ⟨_, rfl⟩, go hg (by rw [hl1]; simp; omega)⟩
    · rintro t _ ⟨g1, g60, ⟨J, rfl⟩, prev, l1, l2, hB⟩ ha hb
      have hX : extraB none s.xs = true := by rw [hB]; simp [extraB]
      refine kw_seq (kw_region (.inl rfl) ?_)
      simp
      refine kw_ret (hQ _ _ ?_)
      simp [hS, hX]
end Go.Proofs.YthjpdnjmppbokaaGreat
end

section
namespace Go.Proofs.YthjpdnjmppbokaaGreat
open Go Km

theorem stream_sp (s : StreamD) (h : s.Sm) : Km.Pure tab.get F_x10 [.a (s.row.map .f)] = Eq (vb (streamB s)) := (stream_kf s h).eq

/-- A stand. -/
structure StandD where
  meet : Int
  room : Int
  team : Int
  size : Int
  st : StreamD
def StandD.row (s : StandD) : List FC := [fi s.meet, fi s.room, fi s.team, fi s.size, sl s.st.cg (classRows s.st.cs), fi s.st.len, sl s.st.xg (instRows s.st.xs)]
def standRows (l : List StandD) : List (List FC) := l.map StandD.row
@[simp] theorem standRows_len (l : List StandD) : (standRows l).length = l.length := by simp [standRows]
theorem standRows_grid (l : List StandD) : Grid 7 (standRows l) := Grid.map fun _ => rfl
theorem standRows_at {l : List StandD} {j : Nat} (hj : j < l.length) : (standRows l)[j]? = some l[j].row := by simp [standRows, hj]
end Go.Proofs.YthjpdnjmppbokaaGreat
end

section
namespace Go.Proofs.YthjpdnjmppbokaaGreat
open Go Km

theorem rrising_kf (g : Tg) (l : List Int) (limit : Int) (hl : l.length ≤ 9223372036854775807) : Kf tab.get F_x116 [.c (.f (sl g (ints l))), vi limit] (vb (risingB limit (-1) l)) := by
  refine kf_fn T_x116 rfl fun H Q hQ => ?_
  have bad : risingB limit (-1) l = false → ∀ (t : T) k, WP tab.get F_x116 none (.code (.region [⟨D 4, .mov (.k (.c (.f (.bool false)))), none⟩] []) :: .code .ret :: k) ⟨t, [], H⟩ Q := by
    intro hf t k
    refine kw_region (.inl rfl) ?_
    simp
    refine kw_ret (hQ _ _ ?_)
    simp [hf]
  refine kw_seq (kw_region (.inl rfl) ?_)
  simp
  refine kw_seq ?_
  refine kw_seq (kw_region (.inl rfl) ?_)
  simp
  refine kw_cfor l.length (fun j t H' => t.g 0 = .c (.f (sl g (ints l))) ∧ t.g 1 = vi limit ∧ H = H' ∧ ∃ last, -1 ≤ last ∧ (∀ m, j = m + 1 → ∀ h : m < l.length, last = (l[m]'h)) ∧ (j = 0 → last = -1) ∧ risingB limit (-1) l = risingB limit last (l.drop j)) hl rfl (by simp)
    ⟨by simp, by simp, rfl, -1, by omega, by omega, by simp, by simp⟩ ?_ ?_ ?_
  · rintro j t _ L hj ⟨g0, g1, rfl, h⟩ ha hL
    simp [ha, g0]
    exact hL _ ⟨by simp [g0], by simp [g1], rfl, h⟩ (by simp [ha]) (by simp)
  · rintro j t _ hj ⟨g0, g1, rfl, last, l0, l1, l2, hB⟩ ha next
    rw [risingB_drop hj] at hB
    refine kw_block ?_
    refine kw_seq (kw_region (.inl rfl) ?_)
    simp [g0, g1, ha, idx_sl, hj, ld_int]
    by_cases k1 : l[j] < 0
    · simp [k1]
      refine kw_cond_t (by simp) (kw_seq (bad ?_ _ _))
      rw [hB, decide_eq_false (show ¬ last < l[j] by omega)]; rfl
    simp [k1, g0, g1, ha, idx_sl, hj, ld_int]
    by_cases k2 : limit ≤ l[j]
    · simp [k2]
      refine kw_cond_t (by simp) (kw_seq (bad ?_ _ _))
      rw [hB, decide_eq_false (show ¬ l[j] < limit by omega)]; simp
    simp [k2, ha]
    have go : last < l[j] → ∃ last', -1 ≤ last' ∧ (∀ m, j + 1 = m + 1 → ∀ h : m < l.length, last' = (l[m]'h)) ∧ (j + 1 = 0 → last' = -1) ∧ risingB limit (-1) l = risingB limit last' (l.drop (j + 1)) := by
      intro h
      rw [decide_eq_true h, decide_eq_true (show l[j] < limit by omega), Bool.true_and, Bool.true_and] at hB
      refine ⟨l[j], by omega, fun m hm h => ?_, by omega, hB⟩
      have : m = j := by omega
      subst this; rfl
    cases j with
    | zero =>
      simp
      refine kw_cond_f (by simp) ?_
      refine kw_skip (kw_inBlock (next _ _ ?_ (by simp [ha])))
      exact ⟨by simp [g0], by simp [g1], rfl, go (by have := l2 rfl; omega)⟩
    | succ m =>
      have hm : m < l.length := by omega
      have hl1 := l1 m rfl hm
      have e1 : ((m + 1 : Nat) : Int) - 1 = m := by omega
      have hidx : ∀ H : Heap, indexAV H 1 none (.c (.f (sl g (ints l)))) (vi ((m : Int) + 1)) = some (.c (.f (.fp (ints l).flatten (m + 1)))) := fun H => by
        have := idx_sl (H := H) (g := g) (rows := ints l) (sz := 1) (k := .i64) (i := (m : Int) + 1) (by omega) (by simp; omega)
        rwa [show ((m : Int) + 1).toNat = m + 1 by omega, Nat.mul_one] at this
      simp [show 0 < m + 1 by omega, hidx, g0, ha, e1, wrap64 (n := (m : Int)) (by omega) (by omega), idx_sl, hj, hm, ld_int]
      by_cases k3 : l[m + 1] ≤ l[m]
      · simp [k3]
        refine kw_cond_t (by simp) (kw_seq (bad ?_ _ _))
        rw [hB, decide_eq_false (show ¬ last < l[m + 1] by omega)]; rfl
      · simp [k3]
        refine kw_cond_f (by simp) ?_
        refine kw_skip (kw_inBlock (next _ _ ?_ (by simp [ha])))
        exact ⟨by simp [g0], by simp [g1], rfl, go (by omega)⟩
  · rintro t _ ⟨g0, g1, rfl, last, l0, l1, l2, hB⟩ ha
    refine kw_seq (kw_region (.inl rfl) ?_)
    simp
    refine kw_ret (hQ _ _ ?_)
    simp [hB, risingB]
theorem rrising_sp (g : Tg) (l : List Int) (limit : Int) (hl : l.length ≤ 9223372036854775807) :
    Km.Pure tab.get F_x116 [.c (.f (sl g (ints l))), vi limit] = Eq (vb (risingB limit (-1) l)) := (rrising_kf g l limit hl).eq

theorem rper_kf (p : PerD) (h : p.Sm) : Kf tab.get F_x115 [.a (p.row.map .f)] (vb (perB p)) := by
  have h : p.head.length + p.cyc.length ≤ 9223372036854775807 := h
  refine kf_fn T_x115 rfl fun H Q hQ => ?_
  have bad : perB p = false → ∀ (t : T) (J : Heap) k, WP tab.get F_x115 none (.code (.region [⟨D 2, .mov (.k (.c (.f (.bool false)))), none⟩] []) :: .code .ret :: k) ⟨t, [], H ++ J⟩ Q := by
    intro hf t J k
    refine kw_region (.inl rfl) ?_
    simp
    refine kw_ret (hQ _ _ ?_)
    simp [hf]
  refine kw_seq (kw_region (.inl rfl) ?_)
  simp [PerD.row]
  refine kw_seq ?_
  refine kw_seq (kw_region (.inl rfl) ?_)
  simp
  by_cases k1 : p.fr < 0
  · simp [k1]
    exact kw_cond_t (by simp) (kw_seq (bad (by simp [perB, show ¬ 0 ≤ p.fr by omega]) _ _ _))
  simp [k1]
  by_cases k2 : 1099511627776 < p.fr
  · simp [k2]
    exact kw_cond_t (by simp) (kw_seq (bad (by simp [perB, show ¬ p.fr ≤ 1099511627776 by omega]) _ _ _))
  simp [k2]
  by_cases k3 : p.per < 1
  · simp [k3]
    exact kw_cond_t (by simp) (kw_seq (bad (by simp [perB, show ¬ 1 ≤ p.per by omega]) _ _ _))
  simp [k3]
  by_cases k4 : 1099511627776 < p.per
  · simp [k4]
    exact kw_cond_t (by simp) (kw_seq (bad (by simp [perB, show ¬ p.per ≤ 1099511627776 by omega]) _ _ _))
  simp [k4]
  refine kw_cond_f (by simp) (kw_skip ?_)
  refine kw_seq ?_
  refine kw_seq (kw_region (.inl rfl) ?_)
  simp
  by_cases k5 : (1048576 : Int) < p.head.length
  · simp [k5]
    exact kw_cond_t (by simp) (kw_seq (bad (by simp [perB, show ¬ (p.head.length : Int) + p.cyc.length ≤ 1048576 by omega]) _ _ _))
  simp [k5]
  by_cases k6 : (1048576 : Int) < p.cyc.length
  · simp [k6]
    exact kw_cond_t (by simp) (kw_seq (bad (by simp [perB, show ¬ (p.head.length : Int) + p.cyc.length ≤ 1048576 by omega]) _ _ _))
  simp [k6, wrap64 (n := (p.head.length : Int) + p.cyc.length) (by omega) (by omega)]
  by_cases k7 : (1048576 : Int) < p.head.length + p.cyc.length
  · simp [k7]
    exact kw_cond_t (by simp) (kw_seq (bad (by simp [perB, show ¬ (p.head.length : Int) + p.cyc.length ≤ 1048576 by omega]) _ _ _))
  simp [k7]
  refine kw_cond_f (by simp) (kw_skip ?_)
  refine kw_seq (kw_region (.inl rfl) ?_)
  simp [rrising_sp p.hg p.head p.fr (by omega)]
  have hp : perB p = (risingB p.fr (-1) p.head && risingB p.per (-1) p.cyc) := by
    simp [perB, show 0 ≤ p.fr by omega, show p.fr ≤ 1099511627776 by omega, show 1 ≤ p.per by omega, show p.per ≤ 1099511627776 by omega, show (p.head.length : Int) + p.cyc.length ≤ 1048576 by omega]
  cases k8 : risingB p.fr (-1) p.head
  · simp
    refine kw_ret (hQ _ _ ?_)
    simp [hp, k8]
  simp [rrising_sp p.cg p.cyc p.per (by omega)]
  refine kw_ret (hQ _ _ ?_)
  simp [hp, k8]
theorem rper_sp (p : PerD) (h : p.Sm) : Km.Pure tab.get F_x115 [.a (p.row.map .f)] = Eq (vb (perB p)) := (rper_kf p h).eq

theorem empty_sp (p : PerD) (h : p.Sm) : Km.Pure tab.get F_x114 [.a (p.row.map .f)] = Eq (vb (perB p && decide ((p.head.length : Int) + p.cyc.length = 0))) := by
  have h' : p.head.length + p.cyc.length ≤ 9223372036854775807 := h
  refine Kf.eq (kf_fn T_x114 rfl fun H Q hQ => ?_)
  have hv := rper_sp p h
  simp [PerD.row] at hv
  refine kw_seq (kw_region (.inl rfl) ?_)
  simp [PerD.row]
  refine kw_seq (kw_region (.inl rfl) ?_)
  simp [hv]
  cases k : perB p
  · simp
    refine kw_ret (hQ _ _ ?_)
    simp [k]
  simp [wrap64 (n := (p.head.length : Int) + p.cyc.length) (by omega) (by omega)]
  refine kw_ret (hQ _ _ ?_)
  simp [k]
end Go.Proofs.YthjpdnjmppbokaaGreat
end

section
namespace Go.Proofs.YthjpdnjmppbokaaGreat
open Go Km

def lessB (x y : InstD) : Bool := if x.fr = y.fr then (if x.day = y.day then decide (x.to < y.to) else decide (x.day < y.day)) else decide (x.fr < y.fr)
theorem less_sp (x y : InstD) : Km.Pure tab.get F_x118 [.a (x.row.map .f), .a (y.row.map .f)] = Eq (vb (lessB x y)) := by
  refine Kf.eq (kf_fn T_x118 rfl fun H Q hQ => ?_)
  refine kw_seq (kw_region (.inl rfl) ?_)
  simp [InstD.row]
  refine kw_seq ?_
  refine kw_seq (kw_region (.inl rfl) ?_)
  simp
  by_cases k1 : x.fr = y.fr
  · refine kw_cond_f (by simp [k1]) (kw_skip ?_)
    refine kw_seq ?_
    refine kw_seq (kw_region (.inl rfl) ?_)
    simp
    by_cases k2 : x.day = y.day
    · refine kw_cond_f (by simp [k2]) (kw_skip ?_)
      refine kw_seq (kw_region (.inl rfl) ?_)
      simp
      refine kw_ret (hQ _ _ ?_)
      simp [lessB, k1, k2]
    · refine kw_cond_t (by simp [k2]) ?_
      refine kw_seq (kw_region (.inl rfl) ?_)
      simp
      refine kw_ret (hQ _ _ ?_)
      simp [lessB, k1, k2]
  · refine kw_cond_t (by simp [k1]) ?_
    refine kw_seq (kw_region (.inl rfl) ?_)
    simp
    refine kw_ret (hQ _ _ ?_)
    simp [lessB, k1]

/-! Order of instances. -/
def InstD.lt (x y : InstD) : Prop := x.fr < y.fr ∨ x.fr = y.fr ∧ (x.day < y.day ∨ x.day = y.day ∧ x.to < y.to)
theorem lessB_iff (x y : InstD) : lessB x y = true ↔ x.lt y := by
  unfold lessB InstD.lt
  by_cases k1 : x.fr = y.fr
  · by_cases k2 : x.day = y.day
    · simp [k1, k2]
    · simp [k1, k2]
  · simp [k1]
theorem ordI_iff (x y : InstD) : ordI x y < 0 ↔ x.lt y := by
  unfold ordI InstD.lt
  simp only [orI, cmpI]
  repeat' split
  all_goals omega
theorem InstD.lt_trans {x y z : InstD} (h : x.lt y) (h' : y.lt z) : x.lt z := by unfold InstD.lt at *; omega
theorem InstD.lt_tri {x y : InstD} (h : ¬ x.lt y) (h' : x ≠ y) : y.lt x := by
  obtain ⟨a, b, c⟩ := x
  obtain ⟨a', b', c'⟩ := y
  unfold InstD.lt at *
  simp only [ne_eq, InstD.mk.injEq] at h'
  simp only at h ⊢
  omega
theorem InstD.lt_irr {x : InstD} : ¬ x.lt x := by unfold InstD.lt; omega

theorem insert_ex (g : Tg) (l : List InstD) (x : InstD) (hl : l.length ≤ 10) (hs : l.Pairwise InstD.lt) : ∃ g' l', l'.length ≤ l.length + 1 ∧ (l'.Pairwise InstD.lt ∧ ∀ y, y ∈ l' ↔ y = x ∨ y ∈ l) ∧ Km.Pure tab.get F_x117 [.c (.f (sl g (instRows l))), .a (x.row.map .f)] = Eq (.c (.f (sl g' (instRows l')))) := by
  obtain ⟨r, ⟨g', l', hl', hS, rfl⟩, h⟩ : ∃ r, (∃ g' l', l'.length ≤ l.length + 1 ∧ (l'.Pairwise InstD.lt ∧ ∀ y, y ∈ l' ↔ y = x ∨ y ∈ l) ∧ r = .c (.f (sl g' (instRows l')))) ∧ Km.Pure tab.get F_x117 [.c (.f (sl g (instRows l))), .a (x.row.map .f)] r := by
    refine pure_ex T_x117 rfl fun Q hQ => ?_
    refine kw_seq (kw_region (.inl rfl) ?_)
    simp [InstD.row]
    refine kw_seq (kw_region (.inl rfl) ?_)
    simp
    refine kw_seq (kw_region (.inl rfl) ?_)
    simp
    refine kw_seq ?_
    refine kw_seq (kw_region (.inl rfl) ?_)
    simp
    -- one row more
    have app : ∀ (H : Heap) (v : V) (o : List InstD) (y : InstD), o.length ≤ 30 → LB true H 3 v .es (instRows o) → ∃ v' H', appendV (H ++ [.box [.f (fi y.day), .f (fi y.fr), .f (fi y.to)] 0]) 3 24 v (.c (.sl H.length 0 1 1 0 3)) = some (v', H') ∧ LB true H' 3 v' .es (instRows (o ++ [y])) ∧ (∀ (b : Nat) cs fl, H[b]? = some (.box cs fl) → H'[b]? = some (.box cs fl)) := by
      intro H v o y ho hB
      obtain ⟨v', H', e1, e2, -, e4⟩ := LB.app (H := H ++ [.box [.f (fi y.day), .f (fi y.fr), .f (fi y.to)] 0]) (row := y.row) (bytes := 24) (y := .c (.sl H.length 0 1 1 0 3)) (hB.push _) (instRows_grid _) rfl (by decide)
        (added_box (fl := 0) (cs := y.row.map .f) (by simp [InstD.row]) rfl) (mapO_exB _) (by simp [roomOK]; omega)
      refine ⟨v', H', e1, by simpa [instRows] using e2, fun b cs fl hb => e4 _ _ _ ?_⟩
      rw [List.getElem?_append_left (lt_of_get hb)]; exact hb
    refine kw_cfor l.length (fun j t H => t.g 0 = .c (.f (sl g (instRows l))) ∧ t.g 3 = .c (.ptr 0 0 0) ∧ H[0]? = some (.box [.f (fi x.day), .f (fi x.fr), .f (fi x.to)] 0) ∧ ∃ d o, t.g 6 = vb d ∧ LB true H 3 (t.g 5) .es (instRows o) ∧ o.length ≤ j + 1 ∧ (d = false → o = l.take j ∧ ∀ y ∈ o, y.lt x) ∧ (d = true → (o ++ l.drop j).Pairwise InstD.lt ∧ ∀ y, y ∈ o ↔ y = x ∨ y ∈ l.take j)) (by omega) rfl (by simp)
      ⟨by simp, by simp, by simp, false, [], by simp, by simpa [instRows] using LB.es0, by simp, by simp, by simp⟩ ?_ ?_ ?_
    · rintro j t H L hj ⟨g0, g3, h3, d, o, g6, hB, ho, hd, hd'⟩ ha hL
      simp [ha, g0]
      exact hL _ ⟨by simp [g0], by simp [g3], h3, d, o, by simp [g6], by simpa using hB, ho, hd, hd'⟩ (by simp [ha]) (by simp)
    · rintro j t H hj ⟨g0, g3, h3, d, o, g6, hB, ho, hd, hd'⟩ ha next
      have hrow := fun H : Heap => ld_rowa (H := H) (instRows_grid l) (instRows_at hj)
      have hless := less_sp x l[j]
      simp [InstD.row] at hrow hless
      refine kw_block ?_
      refine kw_seq ?_
      refine kw_seq (kw_region (.inl rfl) ?_)
      simp [g0, g3, ha, idx_sl, hj, hrow, h3]
      have tail : ∀ (t : T) (H : Heap) (o : List InstD) (d : Bool), t.g 0 = .c (.f (sl g (instRows l))) → t.g 3 = .c (.ptr 0 0 0) → t.g 7 = vi j → t.g 6 = vb d → H[0]? = some (.box [.f (fi x.day), .f (fi x.fr), .f (fi x.to)] 0) → LB true H 3 (t.g 5) .es (instRows o) →
          o.length ≤ j + 1 → (d = false → o = l.take j ∧ (∀ y ∈ o, y.lt x) ∧ l[j].lt x) → (d = true → (o ++ l.drop j).Pairwise InstD.lt ∧ ∀ y, y ∈ o ↔ y = x ∨ y ∈ l.take j) →
          WP tab.get F_x117 none [.code C_x117_30, .inBlock 1, .code (incC3 7 13 14), .inLoop (roundC3 0 7 12 13 14 [⟨D 9, .mov (R 7), none⟩, ⟨D 10, .mov (R 0), none⟩, ⟨D 11, .len (R 10), none⟩, ⟨D 12, .bin .lss (R 9) (R 11), none⟩] C_x117_16), .inBlock 0, .code C_x117_32] ⟨t, [], H⟩ Q := by
        intro t H o d g0 g3 g7 g6 h3 hB ho hd hd'
        have htk : l.take (j + 1) = l.take j ++ [l[j]] := by rw [List.take_add_one, List.getElem?_eq_getElem hj]; rfl
        have hdr : l.drop j = l[j] :: l.drop (j + 1) := List.drop_eq_getElem_cons hj
        have hlen : (l.take j).length = j := by simp; omega
        have ho' : (o ++ [l[j]]).length ≤ j + 1 + 1 := by simp; omega
        obtain ⟨v', H', e1, e2, e4⟩ := app H (t.g 5) o l[j] (by omega) hB
        refine kw_region (.inl rfl) ?_
        simp [g0, g7, idx_sl, hj, hrow, e1]
        refine kw_inBlock (next _ _ ?_ (by simp [g7]))
        exact ⟨by simp [g0], by simp [g3], e4 _ _ _ h3, d, o ++ [l[j]], by simp [g6], by simpa using e2, ho', fun h => by
          obtain ⟨a1, a2, a3⟩ := hd h
          subst a1
          refine ⟨htk.symm, fun y hy => ?_⟩
          rcases List.mem_append.1 hy with hy | hy
          · exact a2 y hy
          · obtain rfl := List.mem_singleton.1 hy; exact a3, fun h => by
          obtain ⟨a1, a2⟩ := hd' h
          rw [hdr] at a1
          refine ⟨by simpa using a1, fun y => ?_⟩
          rw [htk, List.mem_append, List.mem_append, a2, or_assoc]⟩
      cases hc : (l[j].day == x.day && (l[j].fr == x.fr && l[j].to == x.to))
      · refine kw_cond_f (by simp) (kw_skip ?_)
        refine kw_seq ?_
        refine kw_seq (kw_region (.inl rfl) ?_)
        simp [g6]
        cases d
        · simp [g3, h3, g0, ha, idx_sl, hj, hrow, hless]
          cases hlx : lessB x l[j]
          · refine kw_cond_f (by simp) (kw_skip ?_)
            exact tail _ _ o false (by simp [g0]) (by simp [g3]) (by simp [ha]) (by simp [g6]) h3 (by simpa using hB) (by omega) (fun _ => by
              obtain ⟨a1, a2⟩ := hd rfl
              refine ⟨a1, a2, InstD.lt_tri (x := x) ?_ ?_⟩
              · rw [← lessB_iff, hlx]; simp
              · rintro rfl; simp at hc) (by simp)
          · refine kw_cond_t (by simp) ?_
            obtain ⟨v', H', e1, e2, e4⟩ := app H (t.g 5) o x (by omega) hB
            obtain ⟨a1, a2⟩ := hd rfl
            have hlt := (lessB_iff _ _).1 hlx
            have hol : o.length ≤ j := by rw [a1]; simp; omega
            refine kw_seq (kw_region (.inl rfl) ?_)
            simp [g3, h3, e1]
            refine kw_region (.inl rfl) ?_
            simp
            refine tail _ _ (o ++ [x]) true (by simp [g0]) (by simp [g3]) (by simp [ha]) (by simp) (e4 _ _ _ h3) (by simpa using e2) (by simp; omega) (by simp) fun _ => ⟨?_, fun y => ?_⟩
            · have hsj : (l.take j ++ l.drop j).Pairwise InstD.lt := by rw [List.take_append_drop]; exact hs
              rw [List.pairwise_append] at hsj
              obtain ⟨b1, b2, b3⟩ := hsj
              rw [List.append_assoc, List.pairwise_append, a1]
              refine ⟨b1, ?_, ?_⟩
              · rw [List.singleton_append, List.pairwise_cons]
                refine ⟨fun y hy => ?_, b2⟩
                rw [List.drop_eq_getElem_cons hj] at hy b2
                rcases List.mem_cons.1 hy with rfl | hy
                · exact hlt
                · exact InstD.lt_trans hlt ((List.pairwise_cons.1 b2).1 y hy)
              · intro y hy z hz
                rcases List.mem_append.1 hz with hz | hz
                · obtain rfl := List.mem_singleton.1 hz
                  exact a2 y (a1 ▸ hy)
                · exact b3 y hy z hz
            · rw [List.mem_append, a1, List.mem_singleton, or_comm]
        · simp
          refine kw_cond_f (by simp) (kw_skip ?_)
          exact tail _ _ o true (by simp [g0]) (by simp [g3]) (by simp [ha]) (by simp [g6]) h3 (by simpa using hB) ho (by simp) fun _ => hd' rfl
      · refine kw_cond_t (by simp) ?_
        refine kw_seq (kw_region (.inl rfl) ?_)
        simp [g0]
        refine kw_ret (hQ _ _ _ ⟨g, l, by omega, ⟨hs, fun y => ⟨.inr, ?_⟩⟩, rfl⟩ ?_)
        · rintro (rfl | hy)
          · have : y = l[j] := by
              obtain ⟨a, b, c⟩ := y
              simp only [Bool.and_eq_true, beq_iff_eq] at hc
              cases hlj : l[j] with
              | mk a' b' c' =>
                rw [hlj] at hc
                simp at hc
                obtain ⟨rfl, rfl, rfl⟩ := hc
                rfl
            rw [this]; exact List.getElem_mem hj
          · exact hy
        simp
    · rintro t H ⟨g0, g3, h3, d, o, g6, hB, ho, hd, hd'⟩ ha
      refine kw_seq ?_
      refine kw_seq (kw_region (.inl rfl) ?_)
      simp [g6]
      cases d
      · refine kw_cond_t (by simp) ?_
        obtain ⟨v', H', e1, e2, e4⟩ := app H (t.g 5) o x (by omega) hB
        refine kw_region (.inl rfl) ?_
        simp [g3, h3, e1]
        refine kw_seq (kw_region (.inl rfl) ?_)
        simp
        obtain ⟨cv, hcv, _⟩ := e2.len
        have := e2.fzV (instRows_grid _)
        obtain ⟨a1, a2⟩ := hd rfl
        rw [List.take_length] at a1
        subst a1
        refine kw_ret (hQ _ _ _ ⟨.es, o ++ [x], by simp, ⟨?_, fun y => by rw [List.mem_append, List.mem_singleton, or_comm]⟩, rfl⟩ ?_)
        · rw [List.pairwise_append]
          exact ⟨hs, List.pairwise_singleton _ _, fun y hy z hz => by obtain rfl := List.mem_singleton.1 hz; exact a2 y hy⟩
        rw [hcv] at this
        simp [hcv]
        simpa using this
      · refine kw_cond_f (by simp) (kw_skip ?_)
        refine kw_seq (kw_region (.inl rfl) ?_)
        simp
        obtain ⟨cv, hcv, _⟩ := hB.len
        have := hB.fzV (instRows_grid _)
        obtain ⟨a1, a2⟩ := hd' rfl
        rw [List.take_length] at a2
        rw [List.drop_length, List.append_nil] at a1
        refine kw_ret (hQ _ _ _ ⟨.es, o, ho, ⟨a1, a2⟩, rfl⟩ ?_)
        rw [hcv] at this
        simp [hcv]
        simpa using this
  exact ⟨g', l', hl', hS, Km.Pure.eq h⟩
end Go.Proofs.YthjpdnjmppbokaaGreat
end

section
namespace Go.Proofs.YthjpdnjmppbokaaGreat
open Go Km

structure RawD where
  (m r t z f p c mi le : Int)
  eg : Tg
  ex : List Int
def byteRows (l : List Int) : List (List FC) := l.map fun n => [.int .u8 n]
@[simp] theorem byteRows_len (l : List Int) : (byteRows l).length = l.length := by simp [byteRows]
theorem byteRows_grid (l : List Int) : Grid 1 (byteRows l) := Grid.map fun _ => rfl
theorem ld_byte {j : Nat} {l : List Int} (hj : j < l.length) {H : Heap} : ldV H none (.c (.f (.fp (byteRows l).flatten j))) = some (.c (.f (.int .u8 l[j]))) := by
  have := ld_row0 (H := H) (rows := byteRows l) (j := j) (sz := 1) (row := [.int .u8 l[j]]) (x := .int .u8 l[j]) (byteRows_grid l) (by simp [byteRows, hj]) rfl
  simpa using this
def B8 (n : Int) : Prop := 0 ≤ n ∧ n ≤ 255
def RawD.row (x : RawD) : List FC := [.int .u8 x.m, .int .u8 x.r, .int .u8 x.t, .int .u8 x.z, .int .u8 x.f, .int .u8 x.p, .int .u8 x.c, .int .u8 x.mi, .int .u8 x.le, sl x.eg (byteRows x.ex)]
def RawD.OK (x : RawD) : Prop := B8 x.m ∧ B8 x.r ∧ B8 x.t ∧ B8 x.z ∧ B8 x.f ∧ B8 x.p ∧ B8 x.c ∧ B8 x.mi ∧ B8 x.le ∧ x.ex.length ≤ 9223372036854775807 ∧ ∀ n ∈ x.ex, B8 n
/-- A periodic set as it is made here. -/
def perOf (f p : Int) (l : List Int) : PerD := ⟨.nil, [], f, p, .nil, l⟩
def NumsOK (p : Int) (l : List Int) : Prop := l.Pairwise (· < ·) ∧ (∀ c ∈ l, 0 ≤ c ∧ c < p) ∧ l.length ≤ 7
def ClsOK (cs : List ClassD) : Prop := cs = [] ∨ ∃ f p l mi, cs = [⟨.fs, [⟨.fs, [perOf f p l]⟩], mi⟩] ∧ 0 ≤ f ∧ f ≤ 8 ∧ 1 ≤ p ∧ p ≤ 7 ∧ l ≠ [] ∧ NumsOK p l ∧ 60 ≤ mi ∧ mi ≤ 1245
def InstOK (len : Int) (x : InstD) : Prop := x.to = x.fr + len ∧ 0 ≤ x.day ∧ x.day ≤ 13 ∧ 90 ≤ x.fr ∧ x.fr ≤ 20000
def StreamOK (s : StreamD) : Prop := ClsOK s.cs ∧ 15 ≤ s.len ∧ s.len ≤ 180 ∧ s.xs.length ≤ 3 ∧ s.xs.Pairwise InstD.lt ∧ ∀ x ∈ s.xs, InstOK s.len x
def StandD.Fine (s : StandD) : Prop := 1 ≤ s.meet ∧ s.meet ≤ 6 ∧ 0 ≤ s.room ∧ s.room ≤ 2 ∧ 0 ≤ s.team ∧ s.team ≤ 2 ∧ 1 ≤ s.size ∧ s.size ≤ 12 ∧ StreamOK s.st

theorem eight (i : Nat) (h : i < 8) : ∃ (per : Nat) (rest : List C), [C.f (fi 7), C.f (fi 7), C.f (fi 2), C.f (fi 3), C.f (fi 4), C.f (fi 6), C.f (fi 1), C.f (fi 7)].drop i = C.f (fi per) :: rest ∧ 1 ≤ per ∧ per ≤ 7 := by
  match i, h with
  | 0, _ => exact ⟨7, _, rfl, by omega, by omega⟩
  | 1, _ => exact ⟨7, _, rfl, by omega, by omega⟩
  | 2, _ => exact ⟨2, _, rfl, by omega, by omega⟩
  | 3, _ => exact ⟨3, _, rfl, by omega, by omega⟩
  | 4, _ => exact ⟨4, _, rfl, by omega, by omega⟩
  | 5, _ => exact ⟨6, _, rfl, by omega, by omega⟩
  | 6, _ => exact ⟨1, _, rfl, by omega, by omega⟩
  | 7, _ => exact ⟨7, _, rfl, by omega, by omega⟩

/-- The classes of a stand that is being made: none, or the one. -/
def Cls (H : Heap) (X : C) (f p mi : Int) (l : List Int) : Prop := X = .f .nils ∨ ∃ N c a0 a1 a2, 5 ≤ N ∧ X = .sl (N + 2) 0 1 1 0 2 ∧ H[N]? = some (.box [.f .nils, .f (fi f), .f (fi p), c] a0) ∧ H[N + 1]? = some (.box [.sl N 0 1 1 0 4] a1) ∧
  H[N + 2]? = some (.box [.sl (N + 1) 0 1 1 0 1, .f (fi mi)] a2) ∧ LBj false H c l
theorem Cls.set {H : Heap} {X : C} {f p mi : Int} {l : List Int} (h : Cls H X f p mi l) {b : Nat} {cs cs' : List C} {fl fl' : Nat} (hb : b < 5) (hbx : H[b]? = some (.box cs fl)) : Cls (H.set b (.box cs' fl')) X f p mi l := by
  rcases h with h | ⟨N, c, a0, a1, a2, h5, e, h1, h2, h3, h4⟩
  · exact .inl h
  · exact .inr ⟨N, c, a0, a1, a2, h5, e, by rw [List.getElem?_set_ne (by omega)]; exact h1, by rw [List.getElem?_set_ne (by omega)]; exact h2, by rw [List.getElem?_set_ne (by omega)]; exact h3, h4.set hbx⟩
theorem Cls.ex {H : Heap} {X : C} {f p mi : Int} {l : List Int} (h : Cls H X f p mi l) (hl : l.length ≤ 7) : ∃ cg cs, exC deep H X = some (sl cg (classRows cs)) ∧ (cs = [] ∨ X ≠ .f .nils ∧ cs = [⟨.fs, [⟨.fs, [perOf f p l]⟩], mi⟩]) := by
  rcases h with rfl | ⟨N, c, a0, a1, a2, h5, rfl, h1, h2, h3, h4⟩
  · exact ⟨.nil, [], rfl, .inl rfl⟩
  · refine ⟨.fs, [⟨.fs, [⟨.fs, [perOf f p l]⟩], mi⟩], ?_, .inr ⟨by simp, rfl⟩⟩
    have := h4.ex (n := 60)
    simp [deep, ex_sl, h1, h2, h3, this]
    rfl

set_option maxHeartbeats 4000000 in
theorem made_ex (x : RawD) (hx : x.OK) : ∃ s : StandD, s.Fine ∧ Km.Pure tab.get F_x121 [.a (x.row.map .f)] (.a (s.row.map .f)) := by
  obtain ⟨⟨m1, m2⟩, ⟨r1, r2⟩, ⟨t1, t2⟩, ⟨z1, z2⟩, ⟨f1, f2⟩, ⟨p1, p2⟩, ⟨c1, c2⟩, ⟨i1, i2⟩, ⟨l1, l2⟩, he, hb⟩ := hx
  obtain ⟨r, ⟨s, hs, rfl⟩, h⟩ : ∃ r, (∃ s : StandD, s.Fine ∧ r = .a (s.row.map .f)) ∧ Km.Pure tab.get F_x121 [.a (x.row.map .f)] r := by
    refine pure_ex T_x121 rfl fun Q hQ => ?_
    obtain ⟨i, hi⟩ : ∃ i : Nat, x.p % 8 = i := ⟨(x.p % 8).toNat, by omega⟩
    obtain ⟨per, rest, hper, per1, per7⟩ := eight i (by omega)
    have hix : ∀ (b0 b1 b2 : Blk) (cs : List C) (fl : Nat), indexAV [b0, b1, b2, .box cs fl] 1 none (.c (.sl 3 0 8 8 0 1)) (.c (.f (.int .u8 (i : Int)))) = some (.c (.ptr 3 i 0)) := by
      intro b0 b1 b2 cs fl
      simp [indexAV, intV]
      omega
    have hld : ∀ (b0 b1 b2 : Blk) (fl : Nat), ldV [b0, b1, b2, .box [.f (fi 7), .f (fi 7), .f (fi 2), .f (fi 3), .f (fi 4), .f (fi 6), .f (fi 1), .f (fi 7)] fl] none (.c (.ptr 3 i 0)) = some (vi per) := by
      intro b0 b1 b2 fl
      simp only [ld_ptr, List.getElem?_cons_succ, List.getElem?_cons_zero, hper]
      rfl
    have cont : ∀ t : T, t.g 1 = .c (.ptr 0 0 0) → t.g 2 = .c (.ptr 1 0 0) → t.g 3 = .c (.ptr 2 0 0) → t.g 4 = .c (.ptr 4 0 0) → WP tab.get F_x121 none [.code C_x121_6] ⟨t, [],
        [.box [.f (.int .u8 x.m), .f (.int .u8 x.r), .f (.int .u8 x.t), .f (.int .u8 x.z), .f (.int .u8 x.f), .f (.int .u8 x.p), .f (.int .u8 x.c), .f (.int .u8 x.mi), .f (.int .u8 x.le), .f (sl x.eg (byteRows x.ex))] 0,
          .box [.f (fi 0), .f (fi 0), .f (fi 0), .f (fi 0), .f .nils, .f (fi 0), .f .nils] 0,
          .box [.f (fi (1 + x.m % 6)), .f (fi (x.r % 3)), .f (fi (x.t % 3)), .f (fi (1 + x.z % 12)), .f .nils, .f (fi 0), .f .nils] 0,
          .box [.f (fi 7), .f (fi 7), .f (fi 2), .f (fi 3), .f (fi 4), .f (fi 6), .f (fi 1), .f (fi 7)] 0,
          .box [.f .nils, .f (fi (x.f % 9)), .f (fi per), .f .nils] 0]⟩ Q := by
      intro t g1 g2 g3 g4
      obtain ⟨RAW, hRAW⟩ : ∃ y, y = [C.f (.int .u8 x.m), .f (.int .u8 x.r), .f (.int .u8 x.t), .f (.int .u8 x.z), .f (.int .u8 x.f), .f (.int .u8 x.p), .f (.int .u8 x.c), .f (.int .u8 x.mi), .f (.int .u8 x.le), .f (sl x.eg (byteRows x.ex))] := ⟨_, rfl⟩
      rw [← hRAW]
      have q6 : RAW.drop 6 = [.f (.int .u8 x.c), .f (.int .u8 x.mi), .f (.int .u8 x.le), .f (sl x.eg (byteRows x.ex))] := by rw [hRAW]; rfl
      have q7 : RAW.drop 7 = [.f (.int .u8 x.mi), .f (.int .u8 x.le), .f (sl x.eg (byteRows x.ex))] := by rw [hRAW]; rfl
      have q8 : RAW.drop 8 = [.f (.int .u8 x.le), .f (sl x.eg (byteRows x.ex))] := by rw [hRAW]; rfl
      have q9 : RAW.drop 9 = [.f (sl x.eg (byteRows x.ex))] := by rw [hRAW]; rfl
      have stage2 : ∀ (t : T) (H : Heap) (X : C) (l : List Int), t.g 1 = .c (.ptr 0 0 0) → t.g 2 = .c (.ptr 1 0 0) → t.g 3 = .c (.ptr 2 0 0) → H[0]? = some (.box RAW 0) →
          H[1]? = some (.box [.f (fi 0), .f (fi 0), .f (fi 0), .f (fi 0), .f .nils, .f (fi 0), .f .nils] 0) →
          H[2]? = some (.box [.f (fi (1 + x.m % 6)), .f (fi (x.r % 3)), .f (fi (x.t % 3)), .f (fi (1 + x.z % 12)), X, .f (fi (15 * (1 + x.le % 12))), .f .nils] 0) →
          Cls H X (x.f % 9) per (60 + 15 * (x.mi % 80)) l → NumsOK per l → (X ≠ .f .nils → l ≠ []) → WP tab.get F_x121 none [.code C_x121_33] ⟨t, [], H⟩ Q := by
        intro t H X l g1 g2 g3 h0 h1 h2 hX hl hne
        obtain ⟨LEN, hLEN⟩ : ∃ y, y = 15 * (1 + x.le % 12) := ⟨_, rfl⟩
        have hLEN1 : 0 ≤ LEN := by omega
        have hLEN2 : LEN ≤ 1000 := by omega
        rw [← hLEN] at h2
        have hex3 : 0 ≤ x.ex.length := Nat.zero_le _
        refine kw_seq ?_
        refine kw_seq (kw_region (.inl rfl) ?_)
        simp
        refine kw_cfor (min x.ex.length 3) (fun j t H => t.g 1 = .c (.ptr 0 0 0) ∧ t.g 2 = .c (.ptr 1 0 0) ∧ t.g 3 = .c (.ptr 2 0 0) ∧ H[0]? = some (.box RAW 0) ∧ H[1]? = some (.box [.f (fi 0), .f (fi 0), .f (fi 0), .f (fi 0), .f .nils, .f (fi 0), .f .nils] 0) ∧
          Cls H X (x.f % 9) per (60 + 15 * (x.mi % 80)) l ∧ ∃ eg xs, H[2]? = some (.box [.f (fi (1 + x.m % 6)), .f (fi (x.r % 3)), .f (fi (x.t % 3)), .f (fi (1 + x.z % 12)), X, .f (fi LEN), .f (sl eg (instRows xs))] 0) ∧ xs.length ≤ j ∧ xs.Pairwise InstD.lt ∧ ∀ y ∈ xs, InstOK LEN y) (by omega) rfl (by simp)
          ⟨by simp [g1], by simp [g2], by simp [g3], h0, h1, hX, .nil, [], h2, by simp, by simp, by simp⟩ ?_ ?_ ?_
        · rintro j t H L hj ⟨g1, g2, g3, h0, h1, hX, eg, xs, h2, hxs, hso, hok⟩ ha hL
          simp [ha, g1, h0, q9]
          by_cases k1 : j < x.ex.length
          · simp [k1, ha]
            refine hL _ ⟨by simp [g1], by simp [g2], by simp [g3], h0, h1, hX, eg, xs, h2, hxs, hso, hok⟩ (by simp [ha]) ?_
            simp
            omega
          · simp [k1]
            refine hL _ ⟨by simp [g1], by simp [g2], by simp [g3], h0, h1, hX, eg, xs, h2, hxs, hso, hok⟩ (by simp [ha]) ?_
            simp
            omega
        · rintro j t H hj ⟨g1, g2, g3, h0, h1, hX, eg, xs, h2, hxs, hso, hok⟩ ha next
          have hj' : j < x.ex.length := by omega
          obtain ⟨e1, e2⟩ := hb x.ex[j] (List.getElem_mem hj')
          have hlb := fun H : Heap => ld_byte (H := H) hj'
          generalize x.ex[j] = e at e1 e2 hlb
          have rem14 : binV .rem (.c (.f (.int .u8 e))) (.c (.f (.int .u8 14))) = some (.c (.f (.int .u8 (e % 14)))) := by simp (disch := omega) [bin_rem, Int.tmod_eq_emod_of_nonneg]
          have quo4 : binV .quo (.c (.f (.int .u8 e))) (.c (.f (.int .u8 4))) = some (.c (.f (.int .u8 (e / 4)))) := by simp (disch := omega) [bin_quo, Int.tdiv_eq_ediv_of_nonneg, wrapu8]
          refine kw_block ?_
          refine kw_seq (kw_region (.inl rfl) ?_)
          simp [g1, h0, q9, ha, idx_sl, hj', hlb, rem14, wrap64 (n := e % 14) (by omega) (by omega)]
          refine kw_seq (kw_region (.inl rfl) ?_)
          simp [g1, h0, q9, ha, idx_sl, hj', hlb, quo4, wrap64 (n := e / 4) (by omega) (by omega), wrap64 (n := 15 * (e / 4)) (by omega) (by omega), wrap64 (n := e % 14 * 1440) (by omega) (by omega), wrap64 (n := e % 14 * 1440 + 90) (by omega) (by omega), wrap64 (n := e % 14 * 1440 + 90 + 15 * (e / 4)) (by omega) (by omega)]
          obtain ⟨eg', xs', hx', ⟨hso', hmem⟩, hins⟩ := insert_ex eg xs ⟨e % 14, e % 14 * 1440 + 90 + 15 * (e / 4), e % 14 * 1440 + 90 + 15 * (e / 4) + LEN⟩ (by omega) hso
          have hok' : ∀ y ∈ xs', InstOK LEN y := fun y hy => by
            rcases (hmem y).1 hy with rfl | hy
            · exact ⟨rfl, by show 0 ≤ e % 14; omega, by show e % 14 ≤ 13; omega, by show 90 ≤ e % 14 * 1440 + 90 + 15 * (e / 4); omega, by show e % 14 * 1440 + 90 + 15 * (e / 4) ≤ 20000; omega⟩
            · exact hok y hy
          simp [InstD.row] at hins
          refine kw_region (.inl rfl) ?_
          simp [g3, h2, wrap64 (n := e % 14 * 1440 + 90 + 15 * (e / 4) + LEN) (by omega) (by omega), hins]
          refine kw_inBlock (next _ _ ?_ (by simp [ha]))
          exact ⟨by simp [g1], by simp [g2], by simp [g3], by rw [List.getElem?_set_ne (by decide)]; exact h0, by rw [List.getElem?_set_ne (by decide)]; exact h1, hX.set (by decide) h2, eg', xs', by rw [List.getElem?_set_self (lt_of_get h2)], by omega, hso', hok'⟩
        · rintro t H ⟨g1, g2, g3, h0, h1, hX, eg, xs, h2, hxs, hso, hok⟩ ha
          refine kw_seq (kw_region (.inl rfl) ?_)
          simp [g2, g3, h1, h2]
          have hX' := hX.set (cs' := [.f (fi (1 + x.m % 6)), .f (fi (x.r % 3)), .f (fi (x.t % 3)), .f (fi (1 + x.z % 12)), X, .f (fi LEN), .f (sl eg (instRows xs))]) (fl' := 0) (by decide) h1
          obtain ⟨cg, cs, ex1, ex2⟩ := hX'.ex hl.2.2
          refine kw_ret (hQ _ _ _ ⟨⟨1 + x.m % 6, x.r % 3, x.t % 3, 1 + x.z % 12, ⟨cg, cs, LEN, eg, xs⟩⟩, ⟨by simp; omega, by simp; omega, by simp; omega, by simp; omega, by simp; omega, by simp; omega, by simp; omega, by simp; omega, ?_⟩, rfl⟩ ?_)
          · refine ⟨?_, by simp; omega, by simp; omega, by simp; omega, by simpa using hso, by simpa using hok⟩
            rcases ex2 with rfl | ⟨e, rfl⟩
            · exact .inl rfl
            · exact .inr ⟨_, _, _, _, rfl, by omega, by omega, by omega, by omega, hne e, hl, by omega, by omega⟩
          · simp [g2, lt_of_get h1, StandD.row]
            simp [exV, mapO, ex1]
      have stage1 : ∀ (t : T) (H : Heap) (c : C) (l : List Int), t.g 1 = .c (.ptr 0 0 0) → t.g 2 = .c (.ptr 1 0 0) → t.g 3 = .c (.ptr 2 0 0) → t.g 4 = .c (.ptr 4 0 0) → H[0]? = some (.box RAW 0) →
          H[1]? = some (.box [.f (fi 0), .f (fi 0), .f (fi 0), .f (fi 0), .f .nils, .f (fi 0), .f .nils] 0) →
          H[2]? = some (.box [.f (fi (1 + x.m % 6)), .f (fi (x.r % 3)), .f (fi (x.t % 3)), .f (fi (1 + x.z % 12)), .f .nils, .f (fi 0), .f .nils] 0) →
          H[4]? = some (.box [.f .nils, .f (fi (x.f % 9)), .f (fi per), c] 0) → 5 ≤ H.length → LBj true H c l → NumsOK per l → WP tab.get F_x121 none [.code C_x121_22] ⟨t, [], H⟩ Q := by
        intro t H c l g1 g2 g3 g4 h0 h1 h2 h4 h5 hB hl
        have rem12 : binV .rem (.c (.f (.int .u8 x.le))) (.c (.f (.int .u8 12))) = some (.c (.f (.int .u8 (x.le % 12)))) := by simp (disch := omega) [bin_rem, Int.tmod_eq_emod_of_nonneg]
        have rem80 : binV .rem (.c (.f (.int .u8 x.mi))) (.c (.f (.int .u8 80))) = some (.c (.f (.int .u8 (x.mi % 80)))) := by simp (disch := omega) [bin_rem, Int.tmod_eq_emod_of_nonneg]
        refine kw_seq (kw_region (.inl rfl) ?_)
        simp [g1, g3, h0, h2, q8, rem12, wrap64 (n := x.le % 12) (by omega) (by omega), wrap64 (n := 1 + x.le % 12) (by omega) (by omega), wrap64 (n := 15 * (1 + x.le % 12)) (by omega) (by omega)]
        obtain ⟨H1, hH1⟩ : ∃ H1, H1 = H.set 2 (.box [.f (fi (1 + x.m % 6)), .f (fi (x.r % 3)), .f (fi (x.t % 3)), .f (fi (1 + x.z % 12)), .f .nils, .f (fi (15 * (1 + x.le % 12))), .f .nils] 0) := ⟨_, rfl⟩
        rw [← hH1]
        have a0 : H1[0]? = some (.box RAW 0) := by rw [hH1, List.getElem?_set_ne (by decide)]; exact h0
        have a1 : H1[1]? = some (.box [.f (fi 0), .f (fi 0), .f (fi 0), .f (fi 0), .f .nils, .f (fi 0), .f .nils] 0) := by rw [hH1, List.getElem?_set_ne (by decide)]; exact h1
        have a4 : H1[4]? = some (.box [.f .nils, .f (fi (x.f % 9)), .f (fi per), c] 0) := by rw [hH1, List.getElem?_set_ne (by decide)]; exact h4
        have a2 : H1[2]? = some (.box [.f (fi (1 + x.m % 6)), .f (fi (x.r % 3)), .f (fi (x.t % 3)), .f (fi (1 + x.z % 12)), .f .nils, .f (fi (15 * (1 + x.le % 12))), .f .nils] 0) := by rw [hH1, List.getElem?_set_self (lt_of_get h2)]
        have aB : LBj true H1 c l := by rw [hH1]; exact hB.set h2
        have aL : 5 ≤ H1.length := by rw [hH1, List.length_set]; exact h5
        clear hH1
        refine kw_seq (kw_region (.inl rfl) ?_)
        simp [g1, a0, q7, rem80, wrap64 (n := x.mi % 80) (by omega) (by omega), wrap64 (n := 15 * (x.mi % 80)) (by omega) (by omega), wrap64 (n := 60 + 15 * (x.mi % 80)) (by omega) (by omega)]
        refine kw_seq (kw_region (.inl rfl) ?_)
        have a2g : ∀ (L : Heap) (h : 2 < (H1 ++ L).length), (H1 ++ L)[2] = .box [.f (fi (1 + x.m % 6)), .f (fi (x.r % 3)), .f (fi (x.t % 3)), .f (fi (1 + x.z % 12)), .f .nils, .f (fi (15 * (1 + x.le % 12))), .f .nils] 0 := fun L h => by
          have := List.getElem?_append_left (l₂ := L) (lt_of_get a2)
          rw [a2, List.getElem?_eq_getElem h] at this
          exact Option.some.inj this
        simp [g3, g4, a4, a2g]
        obtain ⟨MI, hMI⟩ : ∃ y, y = 60 + 15 * (x.mi % 80) := ⟨_, rfl⟩
        rw [← hMI] at stage2 ⊢
        obtain ⟨H2, hH2⟩ : ∃ H2, H2 = (H1 ++ [Blk.box [.f .nils, .f (fi (x.f % 9)), .f (fi per), c] 0, .box [.sl H1.length 0 1 1 0 4] 0, .box [.sl (H1.length + 1) 0 1 1 0 1, .f (fi MI)] 0]).set 2
          (.box [.f (fi (1 + x.m % 6)), .f (fi (x.r % 3)), .f (fi (x.t % 3)), .f (fi (1 + x.z % 12)), .sl (H1.length + 2) 0 1 1 0 2, .f (fi (15 * (1 + x.le % 12))), .f .nils] 0) := ⟨_, rfl⟩
        rw [← hH2]
        have up : ∀ (b : Nat) cs fl, b ≠ 2 → H1[b]? = some (.box cs fl) → H2[b]? = some (.box cs fl) := fun b cs fl hb h => by
          rw [hH2, List.getElem?_set_ne (Ne.symm hb), List.getElem?_append_left (lt_of_get h)]; exact h
        have b0 := up _ _ _ (by decide) a0
        have b1 := up _ _ _ (by decide) a1
        have b4 := up _ _ _ (by decide) a4
        have b2 : H2[2]? = some (.box [.f (fi (1 + x.m % 6)), .f (fi (x.r % 3)), .f (fi (x.t % 3)), .f (fi (1 + x.z % 12)), .sl (H1.length + 2) 0 1 1 0 2, .f (fi (15 * (1 + x.le % 12))), .f .nils] 0) := by
          rw [hH2, List.getElem?_set_self (by simp)]
        have bN0 : H2[H1.length]? = some (.box [.f .nils, .f (fi (x.f % 9)), .f (fi per), c] 0) := by rw [hH2, List.getElem?_set_ne (by omega)]; simp
        have bN1 : H2[H1.length + 1]? = some (.box [.sl H1.length 0 1 1 0 4] 0) := by rw [hH2, List.getElem?_set_ne (by omega)]; simp
        have bN2 : H2[H1.length + 2]? = some (.box [.sl (H1.length + 1) 0 1 1 0 1, .f (fi MI)] 0) := by rw [hH2, List.getElem?_set_ne (by omega)]; simp
        have bB : LBj true H2 c l := by
          rw [hH2]
          refine (aB.push _).set (cs := [.f (fi (1 + x.m % 6)), .f (fi (x.r % 3)), .f (fi (x.t % 3)), .f (fi (1 + x.z % 12)), .f .nils, .f (fi (15 * (1 + x.le % 12))), .f .nils]) (fl := 0) ?_
          rw [List.getElem?_append_left (by omega)]; exact a2
        clear hH2
        have hempty := empty_sp ⟨.nil, [], x.f % 9, per, .nil, l⟩ (by have := hl.2.2; simp [PerD.Sm]; omega)
        obtain ⟨be, hbe⟩ : ∃ be, be = (perB ⟨.nil, [], x.f % 9, per, .nil, l⟩ && decide ((([] : List Int).length : Int) + l.length = 0)) := ⟨_, rfl⟩
        simp only [← hbe] at hempty
        have hex : exC deep H2 c = some (sl .nil (ints l)) := bB.ex 63
        obtain ⟨mB, mK⟩ := bB.mk 63
        have hdeep : mkC (63 + 1) c H2 = mkC deep c H2 := rfl
        rw [hdeep] at mB mK
        have hsl0 : sl .nil (ints []) = .nils := rfl
        simp [PerD.row, hsl0] at hempty
        refine kw_seq ?_
        refine kw_seq (kw_region (.inl rfl) ?_)
        simp [g4, b4, hex, hempty]
        have m0 := mK _ _ _ b0
        have m1 := mK _ _ _ b1
        have m2 := mK _ _ _ b2
        have mC : Cls (mkC deep c H2) (.sl (H1.length + 2) 0 1 1 0 2) (x.f % 9) per MI l := .inr ⟨H1.length, c, 0, 0, 0, aL, rfl, mK _ _ _ bN0, mK _ _ _ bN1, mK _ _ _ bN2, mB⟩
        have hperB : perB ⟨.nil, [], x.f % 9, per, .nil, l⟩ = true := by
          have hr : ∀ (l : List Int) (last : Int), l.Pairwise (· < ·) → (∀ c ∈ l, last < c ∧ c < (per : Int)) → risingB per last l = true := by
            intro l
            induction l with
            | nil => intros; rfl
            | cons a l ih =>
              intro last hp hc
              have h1 := hc a List.mem_cons_self
              have h2 := List.pairwise_cons.1 hp
              simp only [risingB, decide_eq_true h1.1, decide_eq_true h1.2, Bool.true_and]
              exact ih a h2.2 fun c hc' => ⟨h2.1 c hc', (hc c (List.mem_cons_of_mem _ hc')).2⟩
          have h3 := hl.2.2
          have h4 := hr l (-1) hl.1 fun c hc => ⟨by have := (hl.2.1 c hc).1; omega, (hl.2.1 c hc).2⟩
          unfold perB
          simp only [h4]
          simp [risingB]
          omega
        rw [hperB] at hbe
        cases be
        · have hlne : l ≠ [] := by rintro rfl; simp at hbe
          refine kw_cond_f (by simp) (kw_skip ?_)
          exact stage2 _ _ _ l (by simp [g1]) (by simp [g2]) (by simp [g3]) m0 m1 m2 mC hl fun _ => hlne
        · refine kw_cond_t (by simp) ?_
          refine kw_region (.inl rfl) ?_
          simp [g3, m2]
          refine stage2 _ _ (.f .nils) l (by simp [g1]) (by simp [g2]) (by simp [g3]) ?_ ?_ ?_ (.inl rfl) hl (by simp)
          · rw [List.getElem?_set_ne (by decide)]; exact m0
          · rw [List.getElem?_set_ne (by decide)]; exact m1
          · rw [List.getElem?_set_self (lt_of_get m2)]
      refine kw_seq ?_
      refine kw_seq (kw_region (.inl rfl) ?_)
      simp
      refine kw_cfor per (fun j t H => t.g 1 = .c (.ptr 0 0 0) ∧ t.g 2 = .c (.ptr 1 0 0) ∧ t.g 3 = .c (.ptr 2 0 0) ∧ t.g 4 = .c (.ptr 4 0 0) ∧ H[0]? = some (.box RAW 0) ∧
        H[1]? = some (.box [.f (fi 0), .f (fi 0), .f (fi 0), .f (fi 0), .f .nils, .f (fi 0), .f .nils] 0) ∧
        H[2]? = some (.box [.f (fi (1 + x.m % 6)), .f (fi (x.r % 3)), .f (fi (x.t % 3)), .f (fi (1 + x.z % 12)), .f .nils, .f (fi 0), .f .nils] 0) ∧ 5 ≤ H.length ∧
        ∃ c l, H[4]? = some (.box [.f .nils, .f (fi (x.f % 9)), .f (fi per), c] 0) ∧ LBj true H c l ∧ l.length ≤ j ∧ l.Pairwise (· < ·) ∧ ∀ c ∈ l, 0 ≤ c ∧ c < (j : Int)) (by omega) rfl (by simp)
        ⟨by simp [g1], by simp [g2], by simp [g3], by simp [g4], rfl, rfl, rfl, by simp, .f .nils, [], rfl, .inl ⟨rfl, rfl⟩, by simp, by simp, by simp⟩ ?_ ?_ ?_
      · rintro j t H L hj ⟨g1, g2, g3, g4, h0, h1, h2, h5, c, l, h4, hB, hl, hp, hc⟩ ha hL
        simp [ha, g4, h4]
        exact hL _ ⟨by simp [g1], by simp [g2], by simp [g3], by simp [g4], h0, h1, h2, h5, c, l, h4, hB, hl, hp, hc⟩ (by simp [ha]) (by simp)
      · rintro j t H hj ⟨g1, g2, g3, g4, h0, h1, h2, h5, c, l, h4, hB, hl, hp, hc⟩ ha next
        obtain ⟨u, hu⟩ : ∃ u, binV .shr (.c (.f (.int .u8 x.c))) (vi (j : Int)) = some (.c (.f (.int .u8 u))) := ⟨_, by simp [binV]; rfl⟩
        obtain ⟨w, hw⟩ : ∃ w, binV .rem (.c (.f (.int .u8 u))) (.c (.f (.int .u8 2))) = some (.c (.f (.int .u8 w))) := ⟨_, by simp [bin_rem]; rfl⟩
        refine kw_block ?_
        refine kw_seq (kw_region (.inl rfl) ?_)
        simp [g1, h0, q6, ha, hu, hw]
        by_cases hw1 : w = 1
        · refine kw_cond_t (by simp [hw1]) ?_
          obtain ⟨v', H', e1, e2, e3, e4⟩ := LB.app (H := H ++ [.box [.f (fi j)] 0]) (row := [fi j]) (bytes := 8) (y := .c (.sl H.length 0 1 1 0 1)) ((hB.i).push _) (ints_grid _) rfl (by decide)
            (added_box (fl := 0) (cs := [.f (fi j)]) (by simp) rfl) (by simp [mapO]) (by simp [roomOK]; omega)
          obtain ⟨c', rfl, _⟩ := e2.len
          have e2 : LBi true H' c' (l ++ [(j : Int)]) := by
            have : ints (l ++ [(j : Int)]) = ints l ++ [[fi j]] := by simp [ints]
            show LB true H' 1 (.c c') .nil (ints (l ++ [(j : Int)]))
            rw [this]; exact e2
          have up : ∀ (b : Nat) cs fl, H[b]? = some (.box cs fl) → H'[b]? = some (.box cs fl) := fun b cs fl hb => e4 _ _ _ (by rw [List.getElem?_append_left (lt_of_get hb)]; exact hb)
          have h4' := up _ _ _ h4
          refine kw_region (.inl rfl) ?_
          simp [g4, h4, ha, e1, h4']
          refine kw_inBlock (next _ _ ?_ (by simp [ha]))
          refine ⟨by simp [g1], by simp [g2], by simp [g3], by simp [g4], by rw [List.getElem?_set_ne (by decide)]; exact up _ _ _ h0, by rw [List.getElem?_set_ne (by decide)]; exact up _ _ _ h1, by rw [List.getElem?_set_ne (by decide)]; exact up _ _ _ h2, by simp at e3 ⊢; omega,
            c', l ++ [(j : Int)], List.getElem?_set_self (lt_of_get h4'), e2.j.set h4', by simp; omega, by
              rw [List.pairwise_append]
              exact ⟨hp, List.pairwise_singleton _ _, fun y hy z hz => by obtain rfl := List.mem_singleton.1 hz; exact (hc y hy).2⟩, fun y hy => by
              rcases List.mem_append.1 hy with hy | hy
              · have := hc y hy; omega
              · obtain rfl := List.mem_singleton.1 hy; omega⟩
        · refine kw_cond_f (by simp [hw1]) ?_
          refine kw_skip (kw_inBlock (next _ _ ?_ (by simp [ha])))
          exact ⟨by simp [g1], by simp [g2], by simp [g3], by simp [g4], h0, h1, h2, h5, c, l, h4, hB, by omega, hp, fun y hy => by have := hc y hy; omega⟩
      · rintro t H ⟨g1, g2, g3, g4, h0, h1, h2, h5, c, l, h4, hB, hl, hp, hc⟩ ha
        exact stage1 t H c l g1 g2 g3 g4 h0 h1 h2 h4 h5 hB ⟨hp, fun y hy => by have := hc y hy; omega, by omega⟩
    refine kw_seq (kw_region (.inl rfl) ?_)
    simp [RawD.row]
    refine kw_seq (kw_region (.inl rfl) ?_)
    simp (disch := omega) [wrap64, wrapu8, Int.tmod_eq_emod_of_nonneg, Int.tdiv_eq_ediv_of_nonneg, bin_rem, bin_quo, List.getElem?_cons_zero, List.getElem?_cons_succ]
    refine kw_seq (kw_region (.inl rfl) ?_)
    have rem9 : binV .rem (.c (.f (.int .u8 x.f))) (.c (.f (.int .u8 9))) = some (.c (.f (.int .u8 (x.f % 9)))) := by simp (disch := omega) [bin_rem, Int.tmod_eq_emod_of_nonneg]
    have rem8 : binV .rem (.c (.f (.int .u8 x.p))) (.c (.f (.int .u8 8))) = some (.c (.f (.int .u8 (i : Int)))) := by simp (disch := omega) [bin_rem, Int.tmod_eq_emod_of_nonneg, hi]
    simp [rem9, rem8, hix, hld, wrap64 (n := x.f % 9) (by omega) (by omega)]
    exact cont _ (by simp) (by simp) (by simp) (by simp)
  exact ⟨s, hs, h⟩
end Go.Proofs.YthjpdnjmppbokaaGreat
end

section
namespace Go.Proofs.YthjpdnjmppbokaaGreat
open Go Km

/-! ### Insertion sort -/
def InstD.le (x y : InstD) : Prop := ¬ y.lt x
theorem InstD.le_trans {x y z : InstD} (h : x.le y) (h' : y.le z) : x.le z := by unfold InstD.le InstD.lt at *; omega
theorem InstD.lt_le {x y : InstD} (h : x.lt y) : x.le y := by unfold InstD.le InstD.lt at *; omega

@[simp] theorem InstD.row_len (x : InstD) : x.row.length = 3 := rfl
theorem lookup_mid {α : Type} (A : List α) (x : α) (B : List α) : (A ++ x :: B)[A.length]? = some x := by simp
theorem set_mid {α : Type} (A : List α) (x y : α) (B : List α) : (A ++ x :: B).set A.length y = A ++ y :: B := by simp
theorem instRows_set (l : List InstD) (j : Nat) (x : InstD) : (instRows l).set j x.row = instRows (l.set j x) := by simp [instRows, List.map_set]
theorem instRows_get {l : List InstD} {j : Nat} {x : InstD} (h : l[j]? = some x) : (instRows l)[j]? = some x.row := by simp [instRows, h]

theorem insertion_ex {H : Heap} {b ep F : Nat} {l : List InstD} (hF : ∀ x y : InstD, Kf tab.get F [.a (x.row.map .f), .a (y.row.map .f)] (vi (ordI x y))) (hl : l.length ≤ 1000000) (hb : RB H b 3 ep (instRows l)) :
    ∃ r H', Ev tab.get (.fn F_x204) [.c (.sl b 0 l.length 0 ep 3), vi 0, vi l.length, .c (.f (.fn F []))] H r H' ∧
      (r = .t [] ∧ Fm b H H' ∧ ∃ l' : List InstD, RB H' b 3 ep (instRows l') ∧ l'.Perm l ∧ l'.Pairwise InstD.le) := by
  refine ev_ex T_x204 rfl fun Q hQ => ?_
  refine kw_seq (kw_region (.inl rfl) ?_)
  simp [wrap64 (n := (1 : Int)) (by omega) (by omega)]
  refine kw_block ?_
  refine kw_loop (fun n s => ∃ (i : Nat) (t : T) (H1 : Heap) (rows : List InstD), s = ⟨t, [], H1⟩ ∧ n = l.length + 1 - i ∧ 1 ≤ i ∧ (i ≤ l.length ∨ i = 1) ∧ t.g 0 = .c (.sl b 0 l.length 0 ep 3) ∧ t.g 1 = vi 0 ∧ t.g 2 = vi l.length ∧ t.g 3 = .c (.f (.fn F [])) ∧ t.g 8 = vi i ∧
    Fm b H H1 ∧ RB H1 b 3 ep (instRows rows) ∧ rows.Perm l ∧ (rows.take i).Pairwise InstD.le) l.length
    ⟨1, _, H, l, rfl, by omega, by omega, .inr rfl, by simp, by simp, by simp, by simp, by simp, Fm.refl H, hb, .refl _, ?_⟩ ?_
  · cases l with
    | nil => simp
    | cons x r => simp
  rintro n s ⟨i, t, H1, rows, rfl, rfl, hi1, hi, g0, g1, g2, g3, g8, hfr, hrb, hperm, hsort⟩ ih
  have hlen := hperm.length_eq
  refine kw_seq ?_
  refine kw_seq (kw_region (.inl rfl) ?_)
  simp [g8, g2]
  by_cases hlt : i < l.length
  case neg =>
    refine kw_cond_f (by simp [hlt]) ?_
    refine kw_exit (k' := []) rfl ?_
    refine kw_nil (hQ _ _ _ rfl rfl ⟨rfl, hfr, rows, hrb, hperm, ?_⟩)
    rwa [List.take_of_length_le (by omega)] at hsort
  refine kw_cond_t (by simp [hlt]) (kw_skip ?_)
  refine kw_seq ?_
  refine kw_block ?_
  refine kw_seq (kw_region (.inl rfl) ?_)
  simp [g8]
  refine kw_block ?_
  -- the element that is moved down
  obtain ⟨S, x, C, hrows, hS⟩ : ∃ S x C, rows = S ++ x :: C ∧ S.length = i := by
    refine ⟨rows.take i, rows[i]'(by omega), rows.drop (i + 1), ?_, by simp; omega⟩
    rw [← List.drop_eq_getElem_cons (by omega), List.take_append_drop]
  have hSs : S.Pairwise InstD.le := by
    rw [hrows, List.take_append_of_le_length (by omega), List.take_of_length_le (by omega)] at hsort
    exact hsort
  refine kw_loop (fun n s => ∃ (t : T) (H2 : Heap) (A B : List InstD), s = ⟨t, [], H2⟩ ∧ n = A.length ∧ S = A ++ B ∧ t.g 0 = .c (.sl b 0 l.length 0 ep 3) ∧ t.g 1 = vi 0 ∧ t.g 2 = vi l.length ∧ t.g 3 = .c (.f (.fn F [])) ∧ t.g 8 = vi i ∧ t.g 9 = vi A.length ∧
    Fm b H H2 ∧ RB H2 b 3 ep (instRows (A ++ x :: B ++ C)) ∧ (∀ y ∈ B, x.le y)) i
    ⟨_, H1, S, [], rfl, hS.symm, by simp, by simp [g0], by simp [g1], by simp [g2], by simp [g3], by simp [g8], by simp [hS], hfr, by rw [hrows] at hrb; simpa using hrb, by simp⟩ ?_
  rintro n s ⟨t, H2, A, B, rfl, rfl, hAB, g0, g1, g2, g3, g8, g9, hfr, hrb, hB⟩ ih2
  -- the end of the inner loop
  have stop : (A ++ x :: B).Pairwise InstD.le → ∀ t : T, t.g 0 = .c (.sl b 0 l.length 0 ep 3) → t.g 1 = vi 0 → t.g 2 = vi l.length → t.g 3 = .c (.f (.fn F [])) → t.g 8 = vi i → ∀ H2, Fm b H H2 → RB H2 b 3 ep (instRows (A ++ x :: B ++ C)) →
      WP tab.get F_x204 none [.inBlock 1, .code C_x204_22, .inLoop C_x204_4, .inBlock 0] ⟨t, [], H2⟩ Q := by
    intro hp t g0 g1 g2 g3 g8 H2 hfr hrb
    refine kw_inBlock (kw_region (.inl rfl) ?_)
    simp [g8, wrap64 (n := (i : Int) + 1) (by omega) (by omega)]
    have hl2 : (A ++ x :: B).length = i + 1 := by rw [← hS, hAB]; simp; omega
    refine ih (l.length + 1 - (i + 1)) _ (by omega) ⟨i + 1, _, H2, A ++ x :: B ++ C, rfl, rfl, by omega, .inl (by omega), by simp [g0], by simp [g1], by simp [g2], by simp [g3], by simp, hfr, hrb, ?_, ?_⟩
    · refine List.Perm.trans ?_ hperm
      rw [hrows, hAB]
      simp only [List.append_assoc, List.cons_append]
      exact List.Perm.append_left A (List.perm_middle.symm)
    · rw [List.take_append_of_le_length (by omega), List.take_of_length_le (by omega)]
      exact hp
  have hnl : l.length = A.length + 1 + B.length + C.length := by rw [← hlen, hrows, hAB]; simp; omega
  have hpS : (A ++ B).Pairwise InstD.le := hAB ▸ hSs
  rw [List.pairwise_append] at hpS
  obtain ⟨p1, p2, p3⟩ := hpS
  rcases List.eq_nil_or_concat A with rfl | ⟨A', y, rfl⟩
  · -- at the front
    refine kw_seq ?_
    refine kw_seq (kw_region (.inl rfl) ?_)
    simp [g9, g1]
    refine kw_cond_f (by simp) ?_
    refine kw_exit (k' := [.inBlock 1, .code C_x204_22, .inLoop C_x204_4, .inBlock 0]) rfl ?_
    refine stop ?_ _ (by simp [g0]) (by simp [g1]) (by simp [g2]) (by simp [g3]) (by simp [g8]) _ hfr hrb
    rw [List.nil_append, List.pairwise_cons]
    exact ⟨hB, p2⟩
  · obtain ⟨m, hm⟩ : ∃ m, m = A'.length := ⟨_, rfl⟩
    have hrb0 := hrb
    have e0 : A' ++ [y] ++ x :: B ++ C = A' ++ y :: x :: (B ++ C) := by simp
    rw [List.concat_eq_append] at *
    rw [e0] at hrb
    have gx : (A' ++ y :: x :: (B ++ C))[m + 1]? = some x := by rw [hm, List.getElem?_append_right (by omega)]; simp
    have gy : (A' ++ y :: x :: (B ++ C))[m]? = some y := by rw [hm]; exact lookup_mid _ _ _
    have g9' : t.g 9 = vi ((m : Int) + 1) := by rw [g9, hm]; simp
    have hA : (A' ++ [y]).length = m + 1 := by rw [hm]; simp
    have i1 := hrb.idx (n := l.length) (c := 0) (k := .i64) (o := 0) (i := (m : Int) + 1) (by omega) (by omega)
    have i0 := hrb.idx (n := l.length) (c := 0) (k := .i64) (o := 0) (i := (m : Int)) (by omega) (by omega)
    have t1 : ((m : Int) + 1).toNat = m + 1 := by omega
    rw [t1, Nat.zero_add] at i1
    rw [Int.toNat_natCast, Nat.zero_add] at i0
    have l1 := hrb.ldr (instRows_grid _) (instRows_get gx)
    have l0 := hrb.ldr (instRows_grid _) (instRows_get gy)
    have he := (hF x y).ev H2
    refine kw_seq ?_
    refine kw_seq (kw_region (.inl rfl) ?_)
    simp [g9', g0, g1, g3, show (0 : Int) < (m : Int) + 1 by omega, i1, i0, l1, l0, he, -ld_ptr, wrap64 (n := (m : Int)) (by omega) (by omega)]
    by_cases hc : ordI x y < 0
    case neg =>
      refine kw_cond_f (by simp [hc]) ?_
      refine kw_exit (k' := [.inBlock 1, .code C_x204_22, .inLoop C_x204_4, .inBlock 0]) rfl ?_
      refine stop ?_ _ (by simp [g0]) (by simp [g1]) (by simp [g2]) (by simp [g3]) (by simp [g8]) _ (hfr.trans (Fm.push _ _)) (hrb0.push _)
      have hyx : y.le x := fun h => hc ((ordI_iff _ _).2 h)
      rw [List.pairwise_append]
      refine ⟨p1, List.pairwise_cons.2 ⟨hB, p2⟩, fun a ha z hz => ?_⟩
      rcases List.mem_cons.1 hz with rfl | hz
      · rcases List.mem_append.1 ha with h | h
        · exact InstD.le_trans ((List.pairwise_append.1 p1).2.2 a h y (by simp)) hyx
        · obtain rfl := List.mem_singleton.1 h; exact hyx
      · exact p3 a ha z hz
    have hxy : x.lt y := (ordI_iff _ _).1 hc
    have hrbJ := hrb.push (junk tab.get F [.a (x.row.map .f), .a (y.row.map .f)] H2)
    obtain ⟨HJ, hHJ⟩ : ∃ HJ, HJ = H2 ++ junk tab.get F [.a (x.row.map .f), .a (y.row.map .f)] H2 := ⟨_, rfl⟩
    rw [← hHJ] at hrbJ ⊢
    have hfrJ : Fm b H HJ := by rw [hHJ]; exact hfr.trans (Fm.push _ _)
    have lx : m + 1 < (instRows (A' ++ y :: x :: (B ++ C))).length := by simp; omega
    have i1 := hrbJ.idx (n := l.length) (c := 0) (k := .i64) (o := 0) (i := (m : Int) + 1) (by omega) (by omega)
    have i0 := hrbJ.idx (n := l.length) (c := 0) (k := .i64) (o := 0) (i := (m : Int)) (by omega) (by omega)
    rw [t1, Nat.zero_add] at i1
    rw [Int.toNat_natCast, Nat.zero_add] at i0
    have l1 := hrbJ.ldr (instRows_grid _) (instRows_get gx)
    have l0 := hrbJ.ldr (instRows_grid _) (instRows_get gy)
    obtain ⟨H3, s1, r1, f1, -⟩ := hrbJ.str (instRows_grid _) lx (row := y.row) rfl
    rw [instRows_set] at r1
    have i0' := r1.idx (n := l.length) (c := 0) (k := .i64) (o := 0) (i := (m : Int)) (by omega) (by omega)
    rw [Int.toNat_natCast, Nat.zero_add] at i0'
    obtain ⟨H4, s2, r2, f2, -⟩ := r1.str (instRows_grid _) (j := m) (by simp; omega) (row := x.row) rfl
    rw [instRows_set] at r2
    have e4 : ((A' ++ y :: x :: (B ++ C)).set (m + 1) y).set m x = A' ++ x :: (y :: B) ++ C := by
      rw [hm, List.set_append_right _ _ (by omega)]
      simp
    rw [e4] at r2
    refine kw_cond_t (by simp [hc]) (kw_skip ?_)
    refine kw_seq ?_
    refine kw_block ?_
    refine kw_region (.inl rfl) ?_
    simp [g9', g0, i1, i0, i0', l1, l0, s1, s2, -ld_ptr, -st_ptr, wrap64 (n := (m : Int)) (by omega) (by omega)]
    refine kw_inBlock ?_
    refine kw_region (.inl rfl) ?_
    simp [g9', wrap64 (n := (m : Int)) (by omega) (by omega)]
    refine ih2 A'.length _ (by simp) ⟨_, H4, A', y :: B, rfl, rfl, by rw [hAB]; simp, by simp [g0], by simp [g1], by simp [g2], by simp [g3], by simp [g8], by simp [hm], hfrJ.trans (f1.trans f2), r2, fun z hz => ?_⟩
    rcases List.mem_cons.1 hz with rfl | hz
    · exact InstD.lt_le hxy
    · exact hB z hz
end Go.Proofs.YthjpdnjmppbokaaGreat
end

section
namespace Go.Proofs.YthjpdnjmppbokaaGreat
open Go Km

theorem len_all : ((List.range 13).all fun n => match (CF tab.get 20 20 (.fn F_x28) [.c (.f (.int .u64 n))] []) with | some (.c (.f (.int .i64 _)), _) => true | _ => false) = true := by kernel_rfl
theorem len_sp {n : Nat} (h : n ≤ 12) : ∃ k : Int, Km.Pure tab.get F_x28 [.c (.f (.int .u64 n))] = Eq (vi k) := by
  have h1 := len_all
  rw [List.all_eq_true] at h1
  have h2 := h1 n (by simp; omega)
  split at h2
  · rename_i k H' e
    exact ⟨k, (pure_closed (m := 20) (d := 20) (by rw [e]; rfl)).eq⟩
  · cases h2

theorem pdq_ex {H : Heap} {b ep F : Nat} {l : List InstD} {k : Int} (hF : ∀ x y : InstD, Kf tab.get F [.a (x.row.map .f), .a (y.row.map .f)] (vi (ordI x y))) (hl : l.length ≤ 12) (hb : RB H b 3 ep (instRows l)) :
    ∃ r H', Ev tab.get (.fn F_x209) [.c (.sl b 0 l.length 0 ep 3), vi 0, vi l.length, vi k, .c (.f (.fn F []))] H r H' ∧
      (r = .t [] ∧ Fm b H H' ∧ ∃ l' : List InstD, RB H' b 3 ep (instRows l') ∧ l'.Perm l ∧ l'.Pairwise InstD.le) := by
  obtain ⟨r, H', he, rfl, h1, l', h2, h3, h4⟩ := insertion_ex hF (by omega) hb
  refine ev_ex T_x209 rfl fun Q hQ => ?_
  refine kw_seq (kw_region (.inl rfl) ?_)
  simp
  refine kw_seq (kw_region (.inl rfl) ?_)
  simp
  refine kw_block ?_
  refine kw_loop (fun _ s => s = ⟨_, [], H⟩) 0 rfl ?_
  rintro _ s rfl -
  refine kw_block ?_
  refine kw_seq (kw_region (.inl rfl) ?_)
  simp [wrap64 (n := (l.length : Int)) (by omega) (by omega)]
  refine kw_seq ?_
  refine kw_seq (kw_region (.inl rfl) ?_)
  simp
  refine kw_cond_t (by simp; omega) ?_
  refine kw_seq (kw_region (.inl rfl) ?_)
  simp [he.eq]
  exact kw_ret (hQ _ _ _ rfl rfl ⟨rfl, h1, l', h2, h3, h4⟩)

theorem sort_ex {H : Heap} {b ep F : Nat} {l : List InstD} (hF : ∀ x y : InstD, Kf tab.get F [.a (x.row.map .f), .a (y.row.map .f)] (vi (ordI x y))) (hl : l.length ≤ 12) (hb : RB H b 3 ep (instRows l)) :
    ∃ r H', Ev tab.get (.fn F_x198) [.c (.sl b 0 l.length 0 ep 3), .c (.f (.fn F []))] H r H' ∧
      (r = .t [] ∧ Fm b H H' ∧ ∃ l' : List InstD, RB H' b 3 ep (instRows l') ∧ l'.Perm l ∧ l'.Pairwise InstD.le) := by
  obtain ⟨k, hk⟩ := len_sp hl
  obtain ⟨r, H', he, rfl, h1, l', h2, h3, h4⟩ := pdq_ex (k := k) hF hl hb
  refine ev_ex T_x198 rfl fun Q hQ => ?_
  refine kw_seq (kw_region (.inl rfl) ?_)
  simp [hb.len]
  refine kw_region (.inl rfl) ?_
  have hw : IntKind.wrap .u64 (l.length : Int) = l.length := by
    show (l.length : Int) % 18446744073709551616 = l.length
    omega
  simp [hw, hk, he.eq]
  exact kw_nil (hQ _ _ _ rfl rfl ⟨rfl, h1, l', h2, h3, h4⟩)
/-! Of nothing. -/
theorem insertion_nil {H : Heap} {F : Nat} : ∃ r H', Ev tab.get (.fn F_x204) [.c (.f .nils), vi 0, vi 0, .c (.f (.fn F []))] H r H' ∧ (r = .t [] ∧ H' = H) := by
  refine ev_ex T_x204 rfl fun Q hQ => ?_
  refine kw_seq (kw_region (.inl rfl) ?_)
  simp [wrap64 (n := (1 : Int)) (by omega) (by omega)]
  refine kw_block ?_
  refine kw_loop (fun _ s => s = ⟨_, [], H⟩) 0 rfl ?_
  rintro _ s rfl -
  refine kw_seq ?_
  refine kw_seq (kw_region (.inl rfl) ?_)
  simp
  refine kw_cond_f (by simp) ?_
  refine kw_exit (k' := []) rfl ?_
  exact kw_nil (hQ _ _ _ rfl rfl ⟨rfl, rfl⟩)
theorem pdq_nil {H : Heap} {F : Nat} {k : Int} : ∃ r H', Ev tab.get (.fn F_x209) [.c (.f .nils), vi 0, vi 0, vi k, .c (.f (.fn F []))] H r H' ∧ (r = .t [] ∧ H' = H) := by
  obtain ⟨r, H', he, rfl, rfl⟩ := insertion_nil (H := H) (F := F)
  refine ev_ex T_x209 rfl fun Q hQ => ?_
  refine kw_seq (kw_region (.inl rfl) ?_)
  simp
  refine kw_seq (kw_region (.inl rfl) ?_)
  simp
  refine kw_block ?_
  refine kw_loop (fun _ s => s = ⟨_, [], _⟩) 0 rfl ?_
  rintro _ s rfl -
  refine kw_block ?_
  refine kw_seq (kw_region (.inl rfl) ?_)
  simp [wrap64 (n := (0 : Int)) (by omega) (by omega)]
  refine kw_seq ?_
  refine kw_seq (kw_region (.inl rfl) ?_)
  simp
  refine kw_cond_t (by simp) ?_
  refine kw_seq (kw_region (.inl rfl) ?_)
  simp [he.eq]
  exact kw_ret (hQ _ _ _ rfl rfl ⟨rfl, rfl⟩)
theorem sort_nil {H : Heap} {F : Nat} : ∃ r H', Ev tab.get (.fn F_x198) [.c (.f .nils), .c (.f (.fn F []))] H r H' ∧ (r = .t [] ∧ H' = H) := by
  obtain ⟨k, hk⟩ := len_sp (n := 0) (by omega)
  obtain ⟨r, H', he, rfl, rfl⟩ := pdq_nil (H := H) (F := F) (k := k)
  refine ev_ex T_x198 rfl fun Q hQ => ?_
  refine kw_seq (kw_region (.inl rfl) ?_)
  simp [slLen]
  refine kw_region (.inl rfl) ?_
  have hw : IntKind.wrap .u64 0 = 0 := rfl
  simp at hk
  simp [hw, hk, he.eq]
  exact kw_nil (hQ _ _ _ rfl rfl ⟨rfl, rfl⟩)
end Go.Proofs.YthjpdnjmppbokaaGreat
end

section
namespace Go.Proofs.YthjpdnjmppbokaaGreat
open Go Km

/-! ### Compact, of a sorted list -/
theorem le_lt {x y : InstD} (h : x.le y) (h' : x ≠ y) : x.lt y := InstD.lt_tri h (Ne.symm h')
def eqB (x y : InstD) : Bool := x.day == y.day && (x.fr == y.fr && x.to == y.to)
theorem eqB_iff {x y : InstD} : eqB x y = true ↔ x = y := by
  obtain ⟨a, b, c⟩ := x
  obtain ⟨a', b', c'⟩ := y
  simp [eqB]
theorem le_at {l : List InstD} (hs : l.Pairwise InstD.le) {i j : Nat} (hij : i < j) (hj : j < l.length) : (l[i]'(by omega)).le l[j] := List.pairwise_iff_getElem.1 hs i j (by omega) hj hij

theorem compact_ex {H : Heap} {b ep : Nat} {l : List InstD} (hl : l.length ≤ 1000000) (hs : l.Pairwise InstD.le) (hb : RB H b 3 ep (instRows l)) :
    ∃ r H', Ev tab.get (.fn F_x171) [.c (.sl b 0 l.length 0 ep 3)] H r H' ∧
      (∃ l' R : List InstD, r = .c (.sl b 0 l'.length 0 ep 3) ∧ Fm b H H' ∧ RB H' b 3 ep (instRows (l' ++ R)) ∧ l'.length ≤ l.length ∧ l'.Pairwise InstD.lt ∧ ∀ x, x ∈ l' ↔ x ∈ l) := by
  refine ev_ex T_x171 rfl fun Q hQ => ?_
  refine kw_seq (kw_region (.inl rfl) ?_)
  simp
  refine kw_seq ?_
  refine kw_seq (kw_region (.inl rfl) ?_)
  simp [hb.len]
  by_cases h2 : l.length < 2
  · refine kw_cond_t (by simp; omega) ?_
    refine kw_seq (kw_region (.inl rfl) ?_)
    simp
    refine kw_ret (hQ _ _ _ rfl (res_one (by simp)) ⟨l, [], rfl, Fm.refl _, by simpa using hb, Nat.le_refl _, ?_, fun _ => Iff.rfl⟩)
    match l, h2 with
    | [], _ => exact List.Pairwise.nil
    | [x], _ => exact List.pairwise_singleton _ _
    | x :: y :: r, h => simp at h; omega
  refine kw_cond_f (by simp; omega) (kw_skip ?_)
  refine kw_seq ?_
  refine kw_seq (kw_region (.inl rfl) ?_)
  simp
  refine kw_block ?_
  refine kw_loop (fun n s => ∃ (k : Nat) (t : T), s = ⟨t, [], H⟩ ∧ n = l.length - k ∧ 1 ≤ k ∧ k ≤ l.length ∧ t.g 0 = .c (.sl b 0 l.length 0 ep 3) ∧ t.g 3 = vi k ∧ (l.take k).Pairwise InstD.lt) (l.length - 1)
    ⟨1, _, rfl, rfl, by omega, by omega, by simp, by simp, ?_⟩ ?_
  · cases l with
    | nil => simp
    | cons x r => simp
  rintro n s ⟨k, t, rfl, rfl, hk1, hkl, g0, g3, hp⟩ ih
  refine kw_seq ?_
  refine kw_seq (kw_region (.inl rfl) ?_)
  simp [g0, g3, hb.len]
  by_cases hlt : k < l.length
  case neg =>
    refine kw_cond_f (by simp [hlt]) ?_
    refine kw_exit (k' := [.code C_x171_47]) rfl ?_
    refine kw_seq (kw_region (.inl rfl) ?_)
    simp [g0]
    refine kw_ret (hQ _ _ _ rfl (res_one (by simp)) ⟨l, [], rfl, Fm.refl _, by simpa using hb, Nat.le_refl _, ?_, fun _ => Iff.rfl⟩)
    rwa [List.take_of_length_le (by omega)] at hp
  refine kw_cond_t (by simp [hlt]) (kw_skip ?_)
  obtain ⟨m, rfl⟩ : ∃ m, k = m + 1 := ⟨k - 1, by omega⟩
  have ix : ∀ {H : Heap} {rows : List (List FC)} (hb : RB H b 3 ep rows) (o n i : Nat) (hi : i < n), indexAV H 3 none (.c (.sl b o n 0 ep 3)) (vi i) = some (.c (.ptr b (o + i * 3) ep)) := by
    intro H rows hb o n i hi
    have := hb.idx (n := n) (c := 0) (k := .i64) (o := o) (i := (i : Int)) (by omega) (by omega)
    rwa [Int.toNat_natCast] at this
  have i1 := ix hb 0 l.length (m + 1) hlt
  have i0 := ix hb 0 l.length m (by omega)
  have l1 := hb.ldr (instRows_grid _) (instRows_at (l := l) (j := m + 1) hlt)
  have l0 := hb.ldr (instRows_grid _) (instRows_at (l := l) (j := m) (by omega))
  rw [Nat.zero_add] at i1 i0
  have c1 : ((m + 1 : Nat) : Int) - 1 = m := by omega
  rw [show ((m + 1 : Nat) : Int) = (m : Int) + 1 by omega] at i1
  have htk : l.take (m + 1 + 1) = l.take (m + 1) ++ [l[m + 1]] := by rw [List.take_add_one, List.getElem?_eq_getElem hlt]; rfl
  refine kw_seq ?_
  refine kw_block ?_
  refine kw_seq (kw_region (.inl rfl) ?_)
  simp [g0, g3, i1, i0, l1, l0, -ld_ptr, wrap64 (n := (m : Int)) (by omega) (by omega), InstD.row]
  cases hc : (l[m + 1].day == l[m].day && (l[m + 1].fr == l[m].fr && l[m + 1].to == l[m].to))
  · -- another one
    refine kw_cond_f (by simp) (kw_skip (kw_inBlock ?_))
    refine kw_region (.inl rfl) ?_
    simp [g3, wrap64 (n := (m : Int) + 1 + 1) (by omega) (by omega)]
    refine ih (l.length - (m + 2)) _ (by omega) ⟨m + 2, _, rfl, rfl, by omega, by omega, by simp [g0], by simp; omega, ?_⟩
    show (l.take (m + 1 + 1)).Pairwise InstD.lt
    have hne : l[m] ≠ l[m + 1] := fun e => by
      have : eqB l[m + 1] l[m] = true := eqB_iff.2 e.symm
      rw [eqB, hc] at this; cases this
    rw [htk, List.pairwise_append]
    refine ⟨hp, List.pairwise_singleton _ _, fun y hy z hz => ?_⟩
    obtain rfl := List.mem_singleton.1 hz
    obtain ⟨i, hi, rfl⟩ := List.getElem_of_mem hy
    have hi' : i < m + 1 := by simp at hi; omega
    rw [List.getElem_take]
    by_cases e : i = m
    · subst e; exact le_lt (le_at hs (by omega) hlt) hne
    · exact InstD.lt_trans (y := l[m]) (by
        have h1 := List.pairwise_iff_getElem.1 hp i m (by simp; omega) (by simp; omega) (by omega)
        simpa using h1) (le_lt (le_at hs (by omega) hlt) hne)
  · -- the first that is equal to the one before it
    have heq : l[m + 1] = l[m] := eqB_iff.1 hc
    have c2 : ((m + 1 : Nat) : Int) = (m : Int) + 1 := by omega
    have hsf := hb.slice_from (k := m + 1) hlt
    rw [c2] at hsf
    refine kw_cond_t (by simp) ?_
    refine kw_seq (kw_region (.inl rfl) ?_)
    simp [g0, g3, hsf]
    refine kw_seq ?_
    refine kw_seq (kw_region (.inl rfl) ?_)
    simp
    refine kw_block ?_
    refine kw_loop (fun n s => ∃ (i : Nat) (t : T) (H2 : Heap) (P R : List InstD), s = ⟨t, [], H2⟩ ∧ n = l.length - (m + 2 + i) ∧ m + 2 + i ≤ l.length ∧ t.g 0 = .c (.sl b 0 l.length 0 ep 3) ∧ t.g 3 = vi P.length ∧ t.g 4 = .c (.sl b ((m + 1) * 3) (l.length - (m + 1)) 0 ep 3) ∧ t.g 5 = vi ((i : Int) + 1) ∧
      Fm b H H2 ∧ RB H2 b 3 ep (instRows (P ++ R)) ∧ (P ++ R).length = l.length ∧ 1 ≤ P.length ∧ P.length ≤ m + 1 + i ∧ (∀ q, m + 1 + i ≤ q → (P ++ R)[q]? = l[q]?) ∧ P.Pairwise InstD.lt ∧ ∀ x, x ∈ P ↔ x ∈ l.take (m + 2 + i)) (l.length - (m + 2))
      ⟨0, _, H, l.take (m + 1), l.drop (m + 1), rfl, rfl, by omega, by simp [g0], by simp [g3]; omega, by simp, by simp, Fm.refl _, by simpa using hb, by simp, by simp; omega, by simp; omega, by simp, hp, fun x => ?_⟩ ?_
    · show x ∈ l.take (m + 1) ↔ x ∈ l.take (m + 1 + 1)
      rw [htk, List.mem_append, List.mem_singleton]
      refine ⟨.inl, fun h => h.elim id fun e => ?_⟩
      rw [e, heq]
      exact List.mem_take_iff_getElem.2 ⟨m, by omega, rfl⟩
    rintro n s ⟨i, t, H2, P, R, rfl, rfl, hi, g0, g3, g4, g5, hfr, hrb, hPR, hP1, hP2, hq, hpp, hmem⟩ ih2
    have hlen4 := hrb.len (o := (m + 1) * 3) (l := l.length - (m + 1)) (c := 0)
    refine kw_seq ?_
    refine kw_seq (kw_region (.inl rfl) ?_)
    simp [g4, g5, hlen4]
    by_cases hlt2 : m + 2 + i < l.length
    case neg =>
      have hend : m + 2 + i = l.length := by omega
      refine kw_cond_f (by simp; omega) ?_
      refine kw_exit (k' := [.code C_x171_42, .inBlock 1, .code C_x171_46, .inLoop C_x171_13, .inBlock 0, .code C_x171_47]) rfl ?_
      have hPl : P.length < l.length := by omega
      obtain ⟨H3, hc3, hr3, hf3⟩ := hrb.clr (instRows_grid _) (zs := [fi 0, fi 0, fi 0]) (by simpa using hPR) hPl rfl
      have hsf := hrb.slice_from hPl
      refine kw_seq (kw_region (.inl rfl) ?_)
      simp [g0, g3, hsf, hc3]
      have hst := hr3.slice_to (n := l.length) (k := P.length) (by omega) (by omega)
      refine kw_seq (kw_region (.inl rfl) ?_)
      simp [g0, g3, hst]
      have e3 : (instRows (P ++ R)).take P.length ++ List.replicate (l.length - P.length) [fi 0, fi 0, fi 0] = instRows (P ++ List.replicate (l.length - P.length) ⟨0, 0, 0⟩) := by
        simp [instRows, InstD.row]
      rw [e3] at hr3
      refine kw_ret (hQ _ _ _ rfl (res_one (by simp)) ⟨P, _, rfl, hfr.trans hf3, hr3, by omega, hpp, fun x => ?_⟩)
      rw [hmem, hend, List.take_length]
    have ha : (P ++ R)[m + 2 + i]? = some l[m + 2 + i] := by rw [hq _ (by omega), List.getElem?_eq_getElem hlt2]
    have hb' : (P ++ R)[m + 1 + i]? = some (l[m + 1 + i]'(by omega)) := by rw [hq _ (by omega), List.getElem?_eq_getElem]
    have j1 := ix hrb ((m + 1) * 3) (l.length - (m + 1)) (i + 1) (by omega)
    have j0 := ix hrb ((m + 1) * 3) (l.length - (m + 1)) i (by omega)
    rw [show (m + 1) * 3 + (i + 1) * 3 = (m + 2 + i) * 3 by omega, show ((i + 1 : Nat) : Int) = (i : Int) + 1 by omega] at j1
    rw [show (m + 1) * 3 + i * 3 = (m + 1 + i) * 3 by omega] at j0
    have d1 := hrb.ldr (instRows_grid _) (instRows_get ha)
    have d0 := hrb.ldr (instRows_grid _) (instRows_get hb')
    refine kw_cond_t (by simp; omega) (kw_skip ?_)
    refine kw_seq ?_
    refine kw_block ?_
    refine kw_seq (kw_region (.inl rfl) ?_)
    simp [g4, g5, j1, j0, d1, d0, -ld_ptr, wrap64 (n := (i : Int)) (by omega) (by omega), InstD.row]
    have htk2 : l.take (m + 2 + (i + 1)) = l.take (m + 2 + i) ++ [l[m + 2 + i]] := by
      rw [show m + 2 + (i + 1) = m + 2 + i + 1 by omega, List.take_add_one, List.getElem?_eq_getElem hlt2]; rfl
    have next : ∀ (t : T) (H2 : Heap) (P R : List InstD), t.g 0 = .c (.sl b 0 l.length 0 ep 3) → t.g 3 = vi P.length → t.g 4 = .c (.sl b ((m + 1) * 3) (l.length - (m + 1)) 0 ep 3) → t.g 5 = vi ((i : Int) + 1) →
        Fm b H H2 → RB H2 b 3 ep (instRows (P ++ R)) → (P ++ R).length = l.length → 1 ≤ P.length → P.length ≤ m + 2 + i → (∀ q, m + 2 + i ≤ q → (P ++ R)[q]? = l[q]?) → P.Pairwise InstD.lt → (∀ x, x ∈ P ↔ x ∈ l.take (m + 2 + (i + 1))) →
        WP tab.get F_x171 none [.inBlock 3, .code C_x171_41, .inLoop C_x171_29, .inBlock 2, .code C_x171_42, .inBlock 1, .code C_x171_46, .inLoop C_x171_13, .inBlock 0, .code C_x171_47] ⟨t, [], H2⟩ Q := by
      intro t H2 P R g0 g3 g4 g5 hfr hrb hPR hP1 hP2 hq hpp hmem
      refine kw_inBlock (kw_region (.inl rfl) ?_)
      simp [g5, wrap64 (n := (i : Int) + 1 + 1) (by omega) (by omega)]
      exact ih2 (l.length - (m + 2 + (i + 1))) _ (by omega) ⟨i + 1, _, H2, P, R, rfl, rfl, by omega, by simp [g0], by simp [g3], by simp [g4], by simp, hfr, hrb, hPR, hP1, by omega, fun q h => hq q (by omega), hpp, hmem⟩
    have hle : (l[m + 1 + i]'(by omega)).le l[m + 2 + i] := le_at hs (by omega) hlt2
    cases hc2 : (l[m + 2 + i].day == l[m + 1 + i].day && (l[m + 2 + i].fr == l[m + 1 + i].fr && l[m + 2 + i].to == l[m + 1 + i].to))
    · have hne : l[m + 1 + i] ≠ l[m + 2 + i] := fun e => by
        have : eqB l[m + 2 + i] l[m + 1 + i] = true := eqB_iff.2 e.symm
        rw [eqB, hc2] at this; cases this
      have hlt3 := le_lt hle hne
      have kx := ix hrb 0 l.length P.length (by omega)
      rw [Nat.zero_add] at kx
      obtain ⟨H3, s3, r3, f3, -⟩ := hrb.str (instRows_grid _) (j := P.length) (by rw [instRows_len, hPR]; omega) (row := (l[m + 2 + i]).row) rfl
      rw [instRows_set] at r3
      obtain ⟨x0, R', rfl⟩ : ∃ x0 R', R = x0 :: R' := by
        cases R with
        | nil => simp at hPR; omega
        | cons x0 R' => exact ⟨_, _, rfl⟩
      rw [set_mid] at r3
      have hn3 : ¬l[m + 2 + i].day = l[m + 1 + i].day ∨ ¬l[m + 2 + i].fr = l[m + 1 + i].fr ∨ ¬l[m + 2 + i].to = l[m + 1 + i].to := by
        simp at hc2
        omega
      refine kw_cond_t (by simpa using hn3) ?_
      refine kw_seq (kw_region (.inl rfl) ?_)
      simp only [InstD.row, List.map_cons, List.map_nil] at s3
      simp [g0, g3, g4, g5, j1, d1, kx, s3, -ld_ptr, -st_ptr, InstD.row]
      refine kw_region (.inl rfl) ?_
      simp [g3, wrap64 (n := (P.length : Int) + 1) (by omega) (by omega)]
      have e5 : P ++ l[m + 2 + i] :: R' = (P ++ [l[m + 2 + i]]) ++ R' := by simp
      rw [e5] at r3
      refine next _ H3 (P ++ [l[m + 2 + i]]) R' (by simp [g0]) (by simp) (by simp [g4]) (by simp [g5]) (hfr.trans f3) r3 (by simpa using hPR) (by simp) (by simp; omega) (fun q h => ?_) ?_ fun x => ?_
      · rw [← e5, ← set_mid P x0, List.getElem?_set_ne (by omega)]
        exact hq q (by omega)
      · rw [List.pairwise_append]
        refine ⟨hpp, List.pairwise_singleton _ _, fun y hy z hz => ?_⟩
        obtain rfl := List.mem_singleton.1 hz
        obtain ⟨q, hq1, rfl⟩ := List.getElem_of_mem ((hmem y).1 hy)
        have hq2 : q < m + 2 + i := by simp at hq1; omega
        rw [List.getElem_take]
        by_cases e : q = m + 1 + i
        · subst e; exact hlt3
        · have h1 := le_at hs (i := q) (j := m + 1 + i) (by omega) (by omega)
          unfold InstD.le InstD.lt at *
          omega
      · rw [htk2, List.mem_append, List.mem_append, hmem]
    · have heq2 : l[m + 2 + i] = l[m + 1 + i] := eqB_iff.1 hc2
      have hn3 : l[m + 2 + i].day = l[m + 1 + i].day ∧ l[m + 2 + i].fr = l[m + 1 + i].fr ∧ l[m + 2 + i].to = l[m + 1 + i].to := by simpa using hc2
      refine kw_cond_f (by simpa using hn3) (kw_skip ?_)
      refine next _ H2 P R (by simp [g0]) (by simp [g3]) (by simp [g4]) (by simp [g5]) hfr hrb hPR hP1 (by omega) (fun q h => hq q (by omega)) hpp fun x => ?_
      rw [htk2, List.mem_append, List.mem_singleton, hmem]
      refine ⟨.inl, fun h => h.elim id fun e => ?_⟩
      rw [e, heq2]
      exact List.mem_take_iff_getElem.2 ⟨m + 1 + i, by omega, rfl⟩
end Go.Proofs.YthjpdnjmppbokaaGreat
end

section
namespace Go.Proofs.YthjpdnjmppbokaaGreat
open Go Km

/-! ### Numbers -/
theorem quo_nn {a b : Int} (h : 0 ≤ a) (hb : 0 < b) (ha : a ≤ 9223372036854775807) : binV .quo (vi a) (vi b) = some (vi (a / b)) := by
  rw [bin_quo (by omega), Int.tdiv_eq_ediv_of_nonneg h, wrap64 (Int.le_trans (by omega) (Int.ediv_nonneg h (by omega))) (Int.le_trans (Int.ediv_le_self _ h) ha)]
theorem rem_nn {a b : Int} (h : 0 ≤ a) (hb : 0 < b) : binV .rem (vi a) (vi b) = some (vi (a % b)) := by
  rw [bin_rem (by omega), Int.tmod_eq_emod_of_nonneg h]
/-- Rounded towards 0, below 0. -/
theorem quo_ng {a b : Int} (h : a ≤ 0) (hb : 0 < b) (ha : -9223372036854775807 ≤ a) : binV .quo (vi a) (vi b) = some (vi (-((-a) / b))) := by
  have h1 : (-a) / b ≤ -a := Int.ediv_le_self _ (by omega)
  have h2 : 0 ≤ (-a) / b := Int.ediv_nonneg (by omega) (by omega)
  have h3 : a.tdiv b = -((-a) / b) := by
    have : a = -(-a) := by omega
    rw [this, Int.neg_tdiv, Int.tdiv_eq_ediv_of_nonneg (by omega)]
    simp
  rw [bin_quo (by omega), h3, wrap64 (by omega) (by omega)]
theorem rem_ng {a b : Int} (h : a ≤ 0) (hb : 0 < b) : binV .rem (vi a) (vi b) = some (vi (-((-a) % b))) := by
  have h3 : a.tmod b = -((-a) % b) := by
    have : a = -(-a) := by omega
    rw [this, Int.neg_tmod, Int.tmod_eq_emod_of_nonneg (by omega)]
    simp
  rw [bin_rem (by omega), h3]

theorem floordiv_sp (a b : Int) (hb : 1 ≤ b) (ha : -4611686018427387904 ≤ a) (ha' : a ≤ 4611686018427387904) : Km.Pure tab.get F_x65 [vi a, vi b] = Eq (.t [vi (a / b), vi 0]) := Km.Pure.eq (by
  refine pure_fn T_x65 rfl fun Q hQ => ?_
  refine kw_seq (kw_region (.inl rfl) ?_)
  simp
  refine kw_seq ?_
  refine kw_seq (kw_region (.inl rfl) ?_)
  simp
  refine kw_cond_f (by simp; omega) (kw_skip ?_)
  by_cases h : 0 ≤ a
  · refine kw_seq (kw_region (.inl rfl) ?_)
    simp [quo_nn h (show 0 < b by omega) (by omega)]
    refine kw_seq ?_
    refine kw_seq (kw_region (.inl rfl) ?_)
    have := Int.emod_nonneg a (show b ≠ 0 by omega)
    simp [rem_nn h (show 0 < b by omega)]
    refine kw_cond_f (by simp; omega) (kw_skip ?_)
    refine kw_seq (kw_region (.inl rfl) ?_)
    simp
    refine kw_ret (hQ _ _ ?_)
    simp
  · refine kw_seq (kw_region (.inl rfl) ?_)
    simp [quo_ng (show a ≤ 0 by omega) (show 0 < b by omega) (by omega)]
    refine kw_seq ?_
    refine kw_seq (kw_region (.inl rfl) ?_)
    have e := Int.emod_nonneg (-a) (show b ≠ 0 by omega)
    have e2 := Int.emod_lt_of_pos (-a) (show 0 < b by omega)
    have h2 : 0 ≤ (-a) / b := Int.ediv_nonneg (by omega) (by omega)
    have h1 : (-a) / b ≤ -a := Int.ediv_le_self _ (by omega)
    have e3 := Int.mul_ediv_add_emod (-a) b
    simp [rem_ng (show a ≤ 0 by omega) (show 0 < b by omega)]
    by_cases h3 : (-a) % b = 0
    · refine kw_cond_f (by simp; omega) (kw_skip ?_)
      refine kw_seq (kw_region (.inl rfl) ?_)
      simp
      refine kw_ret (hQ _ _ ?_)
      have : a / b = -(-a / b) := by
        refine Int.ediv_eq_of_eq_mul_right (by omega) ?_
        rw [Int.mul_neg]; omega
      simp [this]
    · refine kw_cond_t (by simp; omega) ?_
      refine kw_region (.inl rfl) ?_
      simp [wrap64 (n := -(-a / b) - 1) (by omega) (by omega)]
      refine kw_seq (kw_region (.inl rfl) ?_)
      simp
      refine kw_ret (hQ _ _ ?_)
      have : a / b = -(-a / b) - 1 := by
        have h5 := Int.emod_nonneg a (show b ≠ 0 by omega)
        have h6 := Int.emod_lt_of_pos a (show 0 < b by omega)
        have h7 := Int.mul_ediv_add_emod a b
        have h8 : b * (a / b + (-a) / b + 1) = b - a % b - (-a) % b := by rw [Int.mul_add, Int.mul_add]; omega
        have h9 : a / b + (-a) / b + 1 = 0 := by
          rcases Int.lt_trichotomy (a / b + (-a) / b + 1) 0 with h | h | h
          · have : b * (a / b + (-a) / b + 1) ≤ b * (-1) := Int.mul_le_mul_of_nonneg_left (by omega) (by omega)
            omega
          · exact h
          · have : b * 1 ≤ b * (a / b + (-a) / b + 1) := Int.mul_le_mul_of_nonneg_left (by omega) (by omega)
            omega
        omega
      simp [this])
theorem floor_sp (a : Int) (ha : -4611686018427387904 ≤ a) (ha' : a ≤ 4611686018427387904) : Km.Pure tab.get F_x15 [vi a] = Eq (vi (a / 1440)) := Kf.eq (by
  refine kf_fn T_x15 rfl fun H Q hQ => ?_
  refine kw_seq (kw_region (.inl rfl) ?_)
  simp
  refine kw_seq (kw_region (.inl rfl) ?_)
  simp [floordiv_sp a 1440 (by omega) ha ha']
  refine kw_seq (kw_region (.inl rfl) ?_)
  simp
  refine kw_ret (hQ _ _ ?_)
  simp)
theorem week_sp (a : Int) (ha : -4611686018427387904 ≤ a) (ha' : a ≤ 4611686018427387904) : Km.Pure tab.get F_x161 [vi a] = Eq (vi (a / 10080)) := Kf.eq (by
  refine kf_fn T_x161 rfl fun H Q hQ => ?_
  refine kw_seq (kw_region (.inl rfl) ?_)
  simp
  refine kw_seq (kw_region (.inl rfl) ?_)
  simp [floordiv_sp a 10080 (by omega) ha ha']
  refine kw_seq (kw_region (.inl rfl) ?_)
  simp
  refine kw_ret (hQ _ _ ?_)
  simp)

/-! ### Instances -/
def instOf (len mi d : Int) : InstD := ⟨d, d * 1440 + mi, d * 1440 + mi + len⟩
def Near (n : Int) : Prop := -1000000000000000 ≤ n ∧ n ≤ 1000000000000000
theorem einst_sp (c0 c2 d0 : FC) (len mi d : Int) (h1 : Near len) (h2 : Near mi) (h3 : Near d) :
    Km.Pure tab.get F_x17 [.a [.f c0, .f (fi len), .f c2], .a [.f d0, .f (fi mi)], vi d] = Eq (.a ((instOf len mi d).row.map .f)) := Km.Pure.eq (Kf.pure_a (by
  unfold Near at *
  refine kf_fn T_x17 rfl fun H Q hQ => ?_
  refine kw_seq (kw_region (.inl rfl) ?_)
  simp
  refine kw_seq (kw_region (.inl rfl) ?_)
  simp [wrap64 (n := d * 1440) (by omega) (by omega), wrap64 (n := d * 1440 + mi) (by omega) (by omega)]
  refine kw_seq (kw_region (.inl rfl) ?_)
  simp [wrap64 (n := d * 1440 + mi + len) (by omega) (by omega)]
  refine kw_ret (hQ _ _ ?_)
  simp [instOf, InstD.row]))
theorem rinst_sp (c0 c2 d0 : FC) (len mi d : Int) (h1 : Near len) (h2 : Near mi) (h3 : Near d) :
    Km.Pure tab.get F_x149 [.a [.f c0, .f (fi len), .f c2], .a [.f d0, .f (fi mi)], vi d] = Eq (.a ((instOf len mi d).row.map .f)) := Km.Pure.eq (Kf.pure_a (by
  unfold Near at *
  refine kf_fn T_x149 rfl fun H Q hQ => ?_
  refine kw_seq (kw_region (.inl rfl) ?_)
  simp
  refine kw_seq (kw_region (.inl rfl) ?_)
  simp [wrap64 (n := d * 1440) (by omega) (by omega), wrap64 (n := d * 1440 + mi) (by omega) (by omega)]
  refine kw_seq (kw_region (.inl rfl) ?_)
  simp [wrap64 (n := d * 1440 + mi + len) (by omega) (by omega)]
  refine kw_ret (hQ _ _ ?_)
  simp [instOf, InstD.row]))
theorem timely_sp (c0 c2 d0 : FC) (len mi d : Int) (h1 : 0 ≤ len) (h1' : len ≤ 10080) (h2 : 0 ≤ mi) (h2' : mi ≤ 10080) :
    Km.Pure tab.get F_x21 [.a [.f c0, .f (fi len), .f c2], .a [.f d0, .f (fi mi)], vi d] = Eq (vb (decide (d ≤ (2251799813685248 - mi - len) / 1440))) := Kf.eq (by
  refine kf_fn T_x21 rfl fun H Q hQ => ?_
  refine kw_seq (kw_region (.inl rfl) ?_)
  simp
  refine kw_seq (kw_region (.inl rfl) ?_)
  simp [wrap64 (n := 2251799813685248 - mi) (by omega) (by omega), wrap64 (n := 2251799813685248 - mi - len) (by omega) (by omega), quo_nn (a := 2251799813685248 - mi - len) (b := 1440) (by omega) (by omega) (by omega)]
  refine kw_ret (hQ _ _ ?_)
  simp)
def collB (a b c d : Int) : Bool := decide (a < d) && decide (c < b)
theorem coll_sp (a b c d : Int) : Km.Pure tab.get F_x12 [.a [.f (fi a), .f (fi b)], .a [.f (fi c), .f (fi d)]] = Eq (vb (collB a b c d)) := Kf.eq (by
  refine kf_fn T_x12 rfl fun H Q hQ => ?_
  refine kw_seq (kw_region (.inl rfl) ?_)
  simp
  refine kw_seq (kw_region (.inl rfl) ?_)
  by_cases h : a < d
  · simp [h]
    refine kw_ret (hQ _ _ ?_)
    simp [collB, h]
  · simp [h]
    refine kw_ret (hQ _ _ ?_)
    simp [collB, h])
theorem rorder_kf (x y : InstD) : Kf tab.get F_x153 [.a (x.row.map .f), .a (y.row.map .f)] (vi (ordI x y)) := by
  refine kf_fn T_x153 rfl fun H Q hQ => ?_
  have ho := or_sp .fs [cmpI x.fr y.fr, cmpI x.day y.day, cmpI x.to y.to] (by simp)
  simp [ints, sl, Tg.fc] at ho
  refine kw_seq (kw_region (.inl rfl) ?_)
  simp [InstD.row]
  refine kw_seq (kw_region (.inl rfl) ?_)
  simp [compare_sp, deep, ex_sl, mk_sl, ho]
  refine kw_ret (hQ _ _ ?_)
  simp [ordI]
end Go.Proofs.YthjpdnjmppbokaaGreat
end

section
namespace Go.Proofs.YthjpdnjmppbokaaGreat
open Go Km

/-! ### Is a number in a rising list -/
theorem less_int_sp (a b : Int) : Km.Pure tab.get F_x3 [vi a, vi b] = Eq (vb (decide (a < b))) := Kf.eq (by
  refine kf_fn T_x3 rfl fun H Q hQ => ?_
  refine kw_seq (kw_region (.inl rfl) ?_)
  simp
  refine kw_seq (kw_region (.inl rfl) ?_)
  simp [isNaN_sp]
  refine kw_ret (hQ _ _ ?_)
  simp [isNaN_sp])

theorem snan_sp (a : Int) : Km.Pure tab.get F_x208 [vi a] = Eq (vb false) := Kf.eq (by
  refine kf_fn T_x208 rfl fun H Q hQ => ?_
  refine kw_seq (kw_region (.inl rfl) ?_)
  simp
  refine kw_seq (kw_region (.inl rfl) ?_)
  simp
  refine kw_ret (hQ _ _ ?_)
  simp)

theorem bsearch_ex (g : Tg) (l : List Int) (n : Int) (hl : l.length ≤ 1000000000) (hp : l.Pairwise (· < ·)) :
    ∃ i : Nat, i ≤ l.length ∧ (∀ j (hj : j < l.length), j < i → l[j] < n) ∧ (∀ j (hj : j < l.length), i ≤ j → n ≤ l[j]) ∧
      Km.Pure tab.get F_x166 [.c (.f (sl g (ints l))), vi n] = Eq (.t [vi i, vb (decide (n ∈ l))]) := by
  obtain ⟨r, ⟨i, h1, h2, h3, rfl⟩, h⟩ : ∃ r, (∃ i : Nat, i ≤ l.length ∧ (∀ j (hj : j < l.length), j < i → l[j] < n) ∧ (∀ j (hj : j < l.length), i ≤ j → n ≤ l[j]) ∧ r = .t [vi i, vb (decide (n ∈ l))]) ∧
      Km.Pure tab.get F_x166 [.c (.f (sl g (ints l))), vi n] r := by
    refine pure_ex T_x166 rfl fun Q hQ => ?_
    have hat : ∀ i j (hi : i < j) (hj : j < l.length), l[i] < l[j] := fun i j hi hj => List.pairwise_iff_getElem.1 hp i j (by omega) hj hi
    refine kw_seq (kw_region (.inl rfl) ?_)
    simp
    refine kw_seq (kw_region (.inl rfl) ?_)
    simp
    refine kw_seq (kw_region (.inl rfl) ?_)
    simp
    refine kw_seq ?_
    refine kw_block ?_
    refine kw_loop (fun m s => ∃ (lo hi : Nat) (t : T), s = ⟨t, [], []⟩ ∧ m = hi - lo ∧ lo ≤ hi ∧ hi ≤ l.length ∧ t.g 0 = .c (.f (sl g (ints l))) ∧ t.g 1 = vi n ∧ t.g 6 = vi l.length ∧ t.g 7 = vi lo ∧ t.g 8 = vi hi ∧
      (∀ j (hj : j < l.length), j < lo → l[j] < n) ∧ (∀ j (hj : j < l.length), hi ≤ j → n ≤ l[j])) l.length
      ⟨0, l.length, _, rfl, by omega, by omega, by omega, by simp, by simp, by simp, by simp, by simp, by simp, by intros; omega⟩ ?_
    rintro m s ⟨lo, hi, t, rfl, rfl, hlh, hhl, g0, g1, g6, g7, g8, hlo, hhi⟩ next
    refine kw_seq ?_
    refine kw_seq (kw_region (.inl rfl) ?_)
    simp [g7, g8]
    by_cases hlt : lo < hi
    · refine kw_cond_t (by simp [hlt]) (kw_skip ?_)
      obtain ⟨q, hq⟩ : ∃ q, q = (lo + hi) / 2 := ⟨_, rfl⟩
      have hqn : q < l.length := by omega
      have e1 : binV BinOp.shr (V.c (C.f (FC.int IntKind.u64 (IntKind.u64.wrap ((lo : Int) + hi))))) (V.c (C.f (FC.int IntKind.u64 1))) = some (.c (.f (.int .u64 (q : Int)))) := by
        have : IntKind.u64.wrap ((lo : Int) + hi) = (lo : Int) + hi := by
          show ((lo : Int) + hi) % 18446744073709551616 = _
          omega
        rw [this]
        show some (V.c (C.f (FC.int IntKind.u64 (Int.fdiv ((lo : Int) + hi) (2 ^ (min (1 : Int).toNat IntKind.u64.bits)))))) = _
        have h3 : Int.fdiv ((lo : Int) + hi) (2 ^ (min (1 : Int).toNat IntKind.u64.bits)) = q := by
          show Int.fdiv ((lo : Int) + hi) 2 = q
          rw [Int.fdiv_eq_ediv_of_nonneg _ (by omega)]; omega
        rw [h3]
      have hw : IntKind.i64.wrap ((lo : Int) + hi) = (lo : Int) + hi := wrap64 (by omega) (by omega)
      have hwq : IntKind.i64.wrap (q : Int) = q := wrap64 (by omega) (by omega)
      refine kw_block ?_
      refine kw_seq (kw_region (.inl rfl) ?_)
      simp [g7, g8, hw, e1, hwq]
      refine kw_seq (kw_region (.inl rfl) ?_)
      simp [g0, g1, idx_sl, hqn, ld_int, less_int_sp]
      by_cases hc : l[q] < n
      · refine kw_cond_t (by simp [hc]) ?_
        refine kw_region (.inl rfl) ?_
        simp [wrap64 (n := (q : Int) + 1) (by omega) (by omega)]
        refine kw_inBlock (next (hi - (q + 1)) _ (by omega) ⟨q + 1, hi, _, rfl, rfl, by omega, by omega, by simp [g0], by simp [g1], by simp [g6], by simp, by simp [g8], fun j hj h => ?_, hhi⟩)
        by_cases e : j = q
        · subst e; exact hc
        · have := hat j q (by omega) hqn; omega
      · refine kw_cond_f (by simp [hc]) ?_
        refine kw_region (.inl rfl) ?_
        simp
        refine kw_inBlock (next (q - lo) _ (by omega) ⟨lo, q, _, rfl, rfl, by omega, by omega, by simp [g0], by simp [g1], by simp [g6], by simp [g7], by simp, hlo, fun j hj h => ?_⟩)
        by_cases e : j = q
        · subst e; omega
        · have := hat q j (by omega) hj; omega
    · have : lo = hi := by omega
      subst this
      refine kw_cond_f (by simp) ?_
      refine kw_exit rfl ?_
      refine kw_seq (kw_region (.inl rfl) ?_)
      by_cases hin : lo < l.length
      · have h4 := hhi lo hin (by omega)
        by_cases he : l[lo] = n
        · simp [g0, g1, g6, g7, hin, idx_sl, ld_int, he]
          refine kw_ret (hQ _ _ _ ⟨lo, hhl, hlo, hhi, rfl⟩ ?_)
          have : n ∈ l := he ▸ List.getElem_mem hin
          simp [this]
        · have hnm : n ∉ l := fun hm => by
            obtain ⟨j, hj, rfl⟩ := List.getElem_of_mem hm
            rcases Nat.lt_trichotomy j lo with h | h | h
            · have := hlo j hj h; omega
            · subst h; exact he rfl
            · have := hat lo j h hj; omega
          simp [g0, g1, g6, g7, hin, idx_sl, ld_int, he, snan_sp]
          refine kw_ret (hQ _ _ _ ⟨lo, hhl, hlo, hhi, rfl⟩ ?_)
          simp [hnm]
      · have hnm : n ∉ l := fun hm => by
          obtain ⟨j, hj, rfl⟩ := List.getElem_of_mem hm
          have := hlo j hj (by omega); omega
        simp [g0, g1, g6, g7, hin]
        refine kw_ret (hQ _ _ _ ⟨lo, hhl, hlo, hhi, rfl⟩ ?_)
        simp [hnm]
  exact ⟨i, h1, h2, h3, Km.Pure.eq h⟩
end Go.Proofs.YthjpdnjmppbokaaGreat
end

section
namespace Go.Proofs.YthjpdnjmppbokaaGreat
open Go Km

/-! ### Members -/
theorem risingB_spec {limit : Int} : ∀ {l : List Int} {last : Int}, risingB limit last l = true → l.Pairwise (· < ·) ∧ ∀ c ∈ l, last < c ∧ c < limit
  | [], _, _ => ⟨List.Pairwise.nil, by simp⟩
  | a :: l, last, h => by
    simp only [risingB, Bool.and_eq_true, decide_eq_true_eq] at h
    obtain ⟨⟨h1, h2⟩, h3⟩ := h
    obtain ⟨h4, h5⟩ := risingB_spec h3
    refine ⟨List.pairwise_cons.2 ⟨fun c hc => (h5 c hc).1, h4⟩, fun c hc => ?_⟩
    rcases List.mem_cons.1 hc with rfl | hc
    · exact ⟨h1, h2⟩
    · have := h5 c hc; omega
theorem perB_spec {p : PerD} (h : perB p = true) : 0 ≤ p.fr ∧ p.fr ≤ 1099511627776 ∧ 1 ≤ p.per ∧ p.per ≤ 1099511627776 ∧ p.head.length + p.cyc.length ≤ 1048576 ∧ p.head.Pairwise (· < ·) ∧ (∀ c ∈ p.head, -1 < c ∧ c < p.fr) ∧ p.cyc.Pairwise (· < ·) ∧ ∀ c ∈ p.cyc, -1 < c ∧ c < p.per := by
  unfold perB at h
  simp only [Bool.and_eq_true, decide_eq_true_eq] at h
  obtain ⟨⟨⟨⟨⟨⟨h1, h2⟩, h3⟩, h4⟩, h5⟩, h6⟩, h7⟩ := h
  obtain ⟨a1, a2⟩ := risingB_spec h6
  obtain ⟨b1, b2⟩ := risingB_spec h7
  exact ⟨h1, h2, h3, h4, by omega, a1, a2, b1, b2⟩
def memB (p : PerD) (d : Int) : Bool := if p.fr ≤ d then decide ((d - p.fr) % p.per ∈ p.cyc) else decide (d ∈ p.head)
def Day (d : Int) : Prop := d ≤ 2305843009213693952
theorem member_sp (p : PerD) (h : perB p = true) (d : Int) (h0 : 0 ≤ d) (hd : Day d) : Km.Pure tab.get F_x102 [.a (p.row.map .f), vi d] = Eq (vb (memB p d)) := Kf.eq (by
  obtain ⟨h1, h2, h3, h4, h5, h6, h7, h8, h9⟩ := perB_spec h
  unfold Day at hd
  refine kf_fn T_x102 rfl fun H Q hQ => ?_
  have tail : ∀ (t : T) (J : Heap) (g : Tg) (l : List Int) (n : Int), l.length ≤ 1048576 → l.Pairwise (· < ·) → t.g 5 = .c (.f (sl g (ints l))) → t.g 6 = vi n → memB p d = decide (n ∈ l) → WP tab.get F_x102 none [.code C_x102_9] ⟨t, [], H ++ J⟩ Q := by
    intro t J g l n hl hp g5 g6 e
    obtain ⟨i, -, -, -, hs⟩ := bsearch_ex g l n (by omega) hp
    refine kw_seq (kw_region (.inl rfl) ?_)
    simp [g5, g6, hs]
    refine kw_seq (kw_region (.inl rfl) ?_)
    simp
    refine kw_ret (hQ _ _ ?_)
    simp [e]
  refine kw_seq (kw_region (.inl rfl) ?_)
  simp [PerD.row]
  refine kw_seq (kw_region (.inl rfl) ?_)
  simp
  refine kw_seq ?_
  refine kw_seq (kw_region (.inl rfl) ?_)
  simp
  by_cases k : p.fr ≤ d
  · refine kw_cond_t (by simp [k]) ?_
    refine kw_region (.inl rfl) ?_
    simp [wrap64 (n := d - p.fr) (by omega) (by omega), rem_nn (a := d - p.fr) (b := p.per) (by omega) (by omega)]
    exact tail _ _ p.cg p.cyc ((d - p.fr) % p.per) (by omega) h8 (by simp) (by simp) (by simp [memB, k])
  · refine kw_cond_f (by simp [k]) (kw_skip ?_)
    exact tail _ _ p.hg p.head d (by omega) h6 (by simp) (by simp) (by simp [memB, k]))
def hasB (p : PerD) (d : Int) : Bool := decide (0 ≤ d) && memB p d
theorem phas_kf (p : PerD) (h : perB p = true) (d : Int) (hd : Day d) : Kf tab.get F_x92 [.a (p.row.map .f), vi d] (vb (hasB p d)) := by
  refine kf_fn T_x92 rfl fun H Q hQ => ?_
  have hv := per_sp p (perB_sm h)
  rw [h] at hv
  refine kw_seq (kw_region (.inl rfl) ?_)
  simp [PerD.row] at hv ⊢
  refine kw_seq (kw_region (.inl rfl) ?_)
  by_cases k : 0 ≤ d
  · have hm := member_sp p h d k hd
    simp [PerD.row] at hm
    simp [hv, k, hm]
    refine kw_ret (hQ _ _ ?_)
    simp [hasB, k]
  · simp [hv, k]
    refine kw_ret (hQ _ _ ?_)
    simp [hasB, k]
theorem nothas_kf (p : PerD) (h : perB p = true) (d : Int) (hd : Day d) : Kf tab.get F_x51 [.a (p.row.map .f), .c (.f (.fp [fi d] 0))] (vb (!hasB p d)) := by
  refine kf_fn T_x51 rfl fun H Q hQ => ?_
  have hv := (phas_kf p h d hd).eq
  simp [PerD.row] at hv
  have hl : ∀ H : Heap, ldV H none (.c (.f (.fp [fi d] 0))) = some (vi d) := fun H => by simp [ldV, cellsAt]
  refine kw_seq (kw_region (.inl rfl) ?_)
  simp [PerD.row]
  refine kw_seq (kw_region (.inl rfl) ?_)
  simp [hl, hv]
  refine kw_ret (hQ _ _ ?_)
  simp
def inB (l : List PerD) (d : Int) : Bool := l.all fun p => hasB p d
theorem in_kf (g : Tg) (l : List PerD) (hl : l.length ≤ 9223372036854775807) (h : ∀ p ∈ l, perB p = true) (d : Int) (hd : Day d) : Kf tab.get F_x50 [.c (.f (sl g (perRows l))), vi d] (vb (inB l d)) := by
  refine kf_fn T_x50 rfl fun H Q hQ => ?_
  have hc := (contains_kf T_x177 (indexf_kf T_x190 l PerD.row (fun r => .a (r.row.map .f)) (fun p => !hasB p d) g F_x51 [.fp [fi d] 0] hl
    (fun j hj H => ld_rowa (perRows_grid l) (perRows_at hj)) (fun p hp => nothas_kf p (h p hp) d hd))).eq
  have e : (!l.any fun p => !hasB p d) = inB l d := by
    rw [inB, Bool.eq_iff_iff]
    simp [List.any_eq_false, List.all_eq_true]
  refine kw_seq (kw_region (.inl rfl) ?_)
  simp
  refine kw_seq (kw_region (.inl rfl) ?_)
  have hc' : Km.Pure tab.get F_x177 [.c (.f (sl g (perRows l))), .c (.f (.fn F_x51 [.fp [fi d] 0]))] = Eq (vb (l.any fun p => !hasB p d)) := hc
  simp [deep, mk_cl, mk_ptr, hc', e]
  refine kw_ret (hQ _ _ ?_)
  simp
theorem inf_kf (t : TermD) (hl : t.fs.length ≤ 9223372036854775807) (h : ∀ p ∈ t.fs, perB p = true) (d : Int) (hd : Day d) : Kf tab.get F_x37 [.c (.f (sl t.tg (perRows t.fs))), .c (.f (.fp [fi d] 0))] (vb (inB t.fs d)) := by
  refine kf_fn T_x37 rfl fun H Q hQ => ?_
  have hld : ∀ H : Heap, ldV H none (.c (.f (.fp [fi d] 0))) = some (vi d) := fun H => by simp [ldV, cellsAt]
  refine kw_seq (kw_region (.inl rfl) ?_)
  simp
  refine kw_seq (kw_region (.inl rfl) ?_)
  simp [hld, (in_kf t.tg t.fs hl h d hd).eq]
  refine kw_ret (hQ _ _ ?_)
  simp
def mhasB (l : List TermD) (d : Int) : Bool := mixB l && l.any fun t => inB t.fs d
theorem termB_spec {t : TermD} (h : termB t = true) : 1 ≤ t.fs.length ∧ t.fs.length ≤ 4 ∧ ∀ p ∈ t.fs, perB p = true := by
  unfold termB at h
  simp only [Bool.and_eq_true, decide_eq_true_eq, List.all_eq_true] at h
  exact ⟨by omega, by omega, h.2⟩
theorem mixB_spec {l : List TermD} (h : mixB l = true) : l.length ≤ 64 ∧ ∀ t ∈ l, termB t = true := by
  unfold mixB at h
  simp only [Bool.and_eq_true, decide_eq_true_eq, List.all_eq_true] at h
  exact ⟨by omega, h.2⟩
theorem mhas_sp (g : Tg) (l : List TermD) (h : mixB l = true) (d : Int) (hd : Day d) : Km.Pure tab.get F_x36 [.a [.f (sl g (termRows l))], vi d] = Eq (vb (mhasB l d)) := Kf.eq (by
  obtain ⟨h1, h2⟩ := mixB_spec h
  have hm := mix_sp g l (by omega) (fun t ht => ⟨by have := (termB_spec (h2 t ht)).2.1; omega, fun p hp => perB_sm ((termB_spec (h2 t ht)).2.2 p hp)⟩)
  have hc := (contains_kf T_x178 (indexf_kf T_x191 l TermD.row (fun t => .c (.f (sl t.tg (perRows t.fs)))) (fun t => inB t.fs d) g F_x37 [.fp [fi d] 0] (by omega)
    (fun j hj H => ld_row0 (termRows_grid l) (termRows_at hj) rfl) (fun t ht => inf_kf t (by have := (termB_spec (h2 t ht)).2.1; omega) (termB_spec (h2 t ht)).2.2 d hd))).eq
  have hc' : Km.Pure tab.get F_x178 [.c (.f (sl g (termRows l))), .c (.f (.fn F_x37 [.fp [fi d] 0]))] = Eq (vb (l.any fun t => inB t.fs d)) := hc
  rw [h] at hm
  refine kf_fn T_x36 rfl fun H Q hQ => ?_
  refine kw_seq (kw_region (.inl rfl) ?_)
  simp
  refine kw_seq (kw_region (.inl rfl) ?_)
  simp [hm, deep, mk_cl, mk_ptr, hc']
  refine kw_ret (hQ _ _ ?_)
  simp [mhasB, h])
end Go.Proofs.YthjpdnjmppbokaaGreat
end

section
namespace Go.Proofs.YthjpdnjmppbokaaGreat
open Go Km

/-! ### The parts of Next, for a term of one small set without a head -/
/-- A periodic set as it is made here. -/
structure Few (p : PerD) : Prop where
  hd : p.head = []
  fr0 : 0 ≤ p.fr
  fr1 : p.fr ≤ 1000
  per0 : 1 ≤ p.per
  per1 : p.per ≤ 7
  cyc : p.cyc ≠ []
  len : p.cyc.length ≤ 7
  ris : p.cyc.Pairwise (· < ·)
  mem : ∀ c ∈ p.cyc, 0 ≤ c ∧ c < p.per
def resI (p : PerD) (c : Int) : Int := (p.fr % p.per + c) % p.per
theorem residue_sp (p : PerD) (h : Few p) (c : Int) (h0 : 0 ≤ c) (h1 : c < p.per) : Km.Pure tab.get F_x62 [.a (p.row.map .f), vi c] = Eq (vi (resI p c)) := Kf.eq (by
  obtain ⟨_, f0, f1, p0, p1, _, _, _, _⟩ := h
  have m0 := Int.emod_nonneg p.fr (show p.per ≠ 0 by omega)
  have m1 := Int.emod_lt_of_pos p.fr (show 0 < p.per by omega)
  refine kf_fn T_x62 rfl fun H Q hQ => ?_
  refine kw_seq (kw_region (.inl rfl) ?_)
  simp [PerD.row]
  refine kw_seq (kw_region (.inl rfl) ?_)
  simp [rem_nn (a := p.fr) (b := p.per) f0 (by omega), wrap64 (n := p.fr % p.per + c) (by omega) (by omega), rem_nn (a := p.fr % p.per + c) (b := p.per) (by omega) (by omega)]
  refine kw_ret (hQ _ _ ?_)
  simp [resI])
theorem start_sp (g : Tg) (p : PerD) (h : Few p) : Km.Pure tab.get F_x63 [.c (.f (sl g (perRows [p])))] = Eq (vi p.fr) := Kf.eq (by
  refine kf_fn T_x63 rfl fun H Q hQ => ?_
  have hrow := fun H : Heap => ld_rowa (H := H) (perRows_grid [p]) (perRows_at (l := [p]) (j := 0) (by simp))
  have hidx := fun H : Heap => idx_sl (H := H) (g := g) (rows := perRows [p]) (sz := 4) (k := .i64) (i := 0) (by omega) (by simp)
  simp [PerD.row] at hrow hidx
  refine kw_seq (kw_region (.inl rfl) ?_)
  simp
  refine kw_seq (kw_region (.inl rfl) ?_)
  simp
  refine kw_seq ?_
  refine kw_seq (kw_region (.inl rfl) ?_)
  simp
  refine kw_for 1 (fun j t H' => (∃ J, H' = H ++ J) ∧ t.g 6 = .c (.f (sl g (perRows [p]))) ∧ (j = 0 → t.g 3 = vi 0) ∧ (j = 1 → t.g 3 = vi p.fr)) (by omega) (by decide) (by decide) (by simp) (by simp) ⟨by simp, by simp, by simp, by simp⟩ ?_ ?_
  · rintro j t _ hj ⟨⟨J, rfl⟩, g6, g3, -⟩ ha hb next
    have : j = 0 := by omega
    subst this
    have g3 := g3 rfl
    simp at ha
    refine kw_block ?_
    refine kw_seq (kw_region (.inl rfl) ?_)
    simp [g6, ha, hidx, hrow]
    refine kw_region (.inl rfl) ?_
    have hmx : max 0 p.fr = p.fr := by have := h.fr0; omega
    simp [g3, hmx]
    refine kw_inBlock (next _ _ ?_ (by simp [ha]) (by simp [hb]))
    exact ⟨⟨_, rfl⟩, by simp [g6], by simp, by simp⟩
  · rintro t _ ⟨⟨J, rfl⟩, g6, -, g3⟩ ha hb
    have g3 := g3 rfl
    refine kw_seq (kw_region (.inl rfl) ?_)
    simp [g3]
    refine kw_ret (hQ _ _ ?_)
    simp)
theorem early_sp (g : Tg) (p : PerD) (h : Few p) (n : Int) : Km.Pure tab.get F_x49 [.c (.f (sl g (perRows [p]))), vi n] = Eq (.t [vi 0, vb false]) := Km.Pure.eq (by
  refine pure_fn T_x49 rfl fun Q hQ => ?_
  have hrow := fun H : Heap => ld_rowa (H := H) (perRows_grid [p]) (perRows_at (l := [p]) (j := 0) (by simp))
  have hidx := fun H : Heap => idx_sl (H := H) (g := g) (rows := perRows [p]) (sz := 4) (k := .i64) (i := 0) (by omega) (by simp)
  simp [PerD.row, h.hd] at hrow hidx
  refine kw_seq (kw_region (.inl rfl) ?_)
  simp
  refine kw_seq (kw_region (.inl rfl) ?_)
  simp
  refine kw_seq ?_
  refine kw_seq (kw_region (.inl rfl) ?_)
  simp
  refine kw_for 1 (fun j t H' => t.g 12 = .c (.f (sl g (perRows [p]))) ∧ t.g 6 = vi 0 ∧ t.g 7 = vb false) (by omega) (by decide) (by decide) (by simp) (by simp) ⟨by simp, by simp, by simp⟩ ?_ ?_
  · rintro j t H hj ⟨g12, g6, g7⟩ ha hb next
    have : j = 0 := by omega
    subst this
    simp at ha
    refine kw_block ?_
    refine kw_seq (kw_region (.inl rfl) ?_)
    simp [g12, ha, hidx, hrow]
    refine kw_seq (kw_region (.inl rfl) ?_)
    have hl : (slLen (H ++ [Blk.box [C.f (sl p.hg []), C.f (fi p.fr), C.f (fi p.per), C.f (sl p.cg (ints p.cyc))] 0]) (C.f (sl p.hg (ints [])))) = some 0 := by simp
    simp [ints] at hl
    simp [hl]
    refine kw_for 0 (fun j t H' => t.g 12 = .c (.f (sl g (perRows [p]))) ∧ t.g 6 = vi 0 ∧ t.g 7 = vb false ∧ t.g 14 = vi 0 ∧ t.g 13 = vi 1) (by omega) (by decide) (by decide) (by simp) (by simp) ⟨by simp [g12], by simp [g6], by simp [g7], by simp [ha], by simp [hb]⟩ ?_ ?_
    · intro j t H hj; omega
    · rintro t H' ⟨g12, g6, g7, ha, hb⟩ - -
      refine kw_inBlock (next _ _ ?_ (by simp [ha]) (by simp [hb]))
      exact ⟨by simp [g12], by simp [g6], by simp [g7]⟩
  · rintro t H ⟨g12, g6, g7⟩ ha hb
    refine kw_seq (kw_region (.inl rfl) ?_)
    simp [g6, g7]
    refine kw_ret (hQ _ _ ?_)
    simp)
def meetOK (per r : Nat) : Option (V × Heap) → Bool
  | some (.t [.a [.f (.int .i64 a), .f (.int .i64 b)], .c (.f (.bool true))], _) => a == r && b == per
  | _ => false
theorem meet_all : ((List.range 8).all fun per => (List.range per).all fun r => meetOK per r (CF tab.get 60 20 (.fn F_x47) [.a [.f (fi 0), .f (fi 1)], vi r, vi per] [])) = true := by kernel_rfl
theorem meet_sp (per r : Int) (h : per ≤ 7) (h0 : 0 ≤ r) (h1 : r < per) : Km.Pure tab.get F_x47 [.a [.f (fi 0), .f (fi 1)], vi r, vi per] = Eq (.t [.a [.f (fi r), .f (fi per)], vb true]) := Km.Pure.eq (by
  have ha := meet_all
  simp only [List.all_eq_true, List.mem_range] at ha
  have h2 := ha per.toNat (by omega) r.toNat (by omega)
  rw [Int.toNat_of_nonneg h0, Int.toNat_of_nonneg (show 0 ≤ per by omega)] at h2
  unfold meetOK at h2
  split at h2
  · rename_i a b H' e
    simp at h2
    obtain ⟨rfl, rfl⟩ := h2
    refine ⟨_, H', ⟨60, 20, e⟩, ?_⟩
    have e1 : max r 0 = r := by omega
    have e2 : max per 0 = per := by omega
    simp [exV, exV1, mapO, e1, e2]
  · cases h2)
end Go.Proofs.YthjpdnjmppbokaaGreat
end

section
namespace Go.Proofs.YthjpdnjmppbokaaGreat
open Go Km

/-! ### A term of one such set recurs -/
theorem rec1 (g : Tg) (p : PerD) (H : Heap) (x y : V) (fl : Nat) (h0 : H[0]? = some (.box [.f (sl g (perRows [p]))] fl)) :
    ∃ r H', Ev tab.get (.fn F_x61) [vi 1, .c (.ptr 0 0 0), x, y] H r H' ∧ (r = vb true ∧ H' = H) := by
  refine ev_ex T_x61 rfl fun Q hQ => ?_
  refine kw_seq (kw_region (.inl rfl) ?_)
  simp
  refine kw_scope ?_
  refine kw_seq ?_
  refine kw_seq (kw_region (.inl rfl) ?_)
  simp [h0]
  refine kw_cond_t (by simp) ?_
  refine kw_seq (kw_region (.inl rfl) ?_)
  simp
  exact kw_ret (hQ _ _ _ rfl (res_one (by simp)) ⟨rfl, rfl⟩)
theorem recurs_sp (g : Tg) (p : PerD) (h : Few p) : Km.Pure tab.get F_x60 [.c (.f (sl g (perRows [p])))] = Eq (vb true) := by
  have key : ∃ r, (r = vb true) ∧ Km.Pure tab.get F_x60 [.c (.f (sl g (perRows [p])))] r := by
    refine pure_ex T_x60 rfl fun Q hQ => ?_
    have hrow := fun H : Heap => ld_rowa (H := H) (perRows_grid [p]) (perRows_at (l := [p]) (j := 0) (by simp))
    have hcell := fun H : Heap => ld_row (H := H) (k := 3) (perRows_grid [p]) (perRows_at (l := [p]) (j := 0) (by simp)) rfl
    have hidx := fun H : Heap => idx_sl (H := H) (g := g) (rows := perRows [p]) (sz := 4) (k := .i64) (i := 0) (by omega) (by simp)
    simp [PerD.row] at hrow hidx hcell
    -- the inner call
    have inner : ∃ r H', Ev tab.get (.fn F_x61) [vi 0, .c (.ptr 0 0 0), .c (.ptr 2 0 0), .c (.ptr 3 0 0)] [.box [.f (sl g (perRows [p]))] 0, .box [.f (fi 0)] 0, .box [.sl 1 0 1 1 0 1] 0, .box [.cl F_x61 [.ptr 0 0 0, .ptr 2 0 0, .ptr 3 0 0]] 0] r H' ∧ (r = vb true ∧ True) := by
      refine ev_ex T_x61 rfl fun Q hQ => ?_
      refine kw_seq (kw_region (.inl rfl) ?_)
      simp
      refine kw_scope ?_
      refine kw_seq ?_
      refine kw_seq (kw_region (.inl rfl) ?_)
      simp
      refine kw_cond_f (by simp) (kw_skip ?_)
      refine kw_seq (kw_label ?_)
      refine kw_seq ?_
      refine kw_seq (kw_region (.inl rfl) ?_)
      simp [hidx, hcell]
      have hN : 0 < p.cyc.length := List.length_pos_iff.2 h.cyc
      have hlen := h.len
      refine kw_for p.cyc.length (fun j t H' => j = 0 ∧ t.g 0 = vi 0 ∧ t.g 1 = .c (.ptr 0 0 0) ∧ t.g 2 = .c (.ptr 2 0 0) ∧ t.g 3 = .c (.ptr 3 0 0) ∧ t.g 18 = .c (.f (sl p.cg (ints p.cyc))) ∧
        H' = [.box [.f (sl g (perRows [p]))] 0, .box [.f (fi 0)] 0, .box [.sl 1 0 1 1 0 1] 0, .box [.cl F_x61 [.ptr 0 0 0, .ptr 2 0 0, .ptr 3 0 0]] 0]) (by omega) (by decide) (by decide) (by simp) (by simp) ⟨rfl, by simp, by simp, by simp, by simp, by simp, rfl⟩ ?_ ?_
      · rintro j t _ hj ⟨rfl, g0, g1, g2, g3, g18, rfl⟩ ha hb next
        simp at ha
        have hc := h.mem p.cyc[0] (List.getElem_mem hN)
        have hix := fun H : Heap => idx_sl (H := H) (g := p.cg) (rows := ints p.cyc) (sz := 1) (k := .i64) (i := 0) (by omega) (by simpa using hN)
        have hli := fun H : Heap => ld_int (H := H) hN
        have hres := residue_sp p h p.cyc[0] hc.1 hc.2
        simp at hix hli
        simp [PerD.row] at hres
        obtain ⟨r, H', he, rfl, rfl⟩ := rec1 g p [.box [.f (sl g (perRows [p]))] 0, .box [.f (fi (resI p p.cyc[0]))] 0, .box [.sl 1 0 1 1 0 1] 0, .box [.cl F_x61 [.ptr 0 0 0, .ptr 2 0 0, .ptr 3 0 0]] 0] (.c (.ptr 2 0 0)) (.c (.ptr 3 0 0)) 0 rfl
        refine kw_block ?_
        refine kw_seq (kw_region (.inl rfl) ?_)
        simp [ha, g18, hix, hli]
        refine kw_seq (kw_region (.inl rfl) ?_)
        simp [g0, g1, hidx, hrow, hres]
        refine kw_seq ?_
        refine kw_seq (kw_region (.inl rfl) ?_)
        simp [g0]
        refine kw_for 0 (fun j t H' => t.g 0 = vi 0 ∧ t.g 1 = .c (.ptr 0 0 0) ∧ t.g 2 = .c (.ptr 2 0 0) ∧ t.g 3 = .c (.ptr 3 0 0) ∧ t.g 8 = vi (resI p p.cyc[0]) ∧
          H' = [.box [.f (sl g (perRows [p]))] 0, .box [.f (fi 0)] 0, .box [.sl 1 0 1 1 0 1] 0, .box [.cl F_x61 [.ptr 0 0 0, .ptr 2 0 0, .ptr 3 0 0]] 0]) (by omega) (by decide) (by decide) (by simp) (by simp) ⟨by simp [g0], by simp [g1], by simp [g2], by simp [g3], by simp, rfl⟩ ?_ ?_
        · intro j t H hj; omega
        · rintro t _ ⟨g0, g1, g2, g3, g8, rfl⟩ - -
          refine kw_seq (kw_region (.inl rfl) ?_)
          simp [g0, g2, g8, indexAV, intV]
          refine kw_seq (kw_region (.inl rfl) ?_)
          simp [g0, g3, wrap64 (n := 1) (by omega) (by omega), he.eq, calleeV]
          refine kw_cond_t (by simp) ?_
          refine kw_seq (kw_region (.inl rfl) ?_)
          simp
          exact kw_ret (hQ _ _ _ rfl (res_one (by simp)) ⟨rfl, trivial⟩)
      · rintro t H' ⟨h, -⟩ - -
        omega
    obtain ⟨r, H', he, rfl, -⟩ := inner
    refine kw_seq (kw_region (.inl rfl) ?_)
    simp
    have hmk : ∀ (t : T) (H : Heap), t.g 6 = vi 1 → xOp t H (.mkslice 1 8 [.int .i64 0] (R 6) (R 6)) = some (.c (.sl H.length 0 1 1 0 1), H ++ [.box [.f (fi 0)] 0]) := by
      intro t H h
      simp only [xOp, R_ev, h]
      rfl
    refine kw_seq (kw_region (.inl rfl) ?_)
    simp [hmk]
    refine kw_seq (kw_region (.inl rfl) ?_)
    simp
    refine kw_seq (kw_region (.inl rfl) ?_)
    simp
    refine kw_seq (kw_region (.inl rfl) ?_)
    simp [calleeV, he.eq]
    refine kw_ret (hQ _ _ _ rfl ?_)
    simp
  obtain ⟨r, rfl, h⟩ := key
  exact h.eq
end Go.Proofs.YthjpdnjmppbokaaGreat
end

section
namespace Go.Proofs.YthjpdnjmppbokaaGreat
open Go Km

/-! ### The least member from a day on -/
def upI (n r per : Int) : Int := if r < n then r + (n - r + per - 1) / per * per else r
theorem up_spec {n r per : Int} (h0 : 0 ≤ r) (h1 : r < per) (h2 : per ≤ 7) (hn : 0 ≤ n) : n ≤ upI n r per ∧ upI n r per % per = r ∧ upI n r per ≤ n + 7 ∧ ∀ d, n ≤ d → d % per = r → upI n r per ≤ d := by
  have hp : per = 1 ∨ per = 2 ∨ per = 3 ∨ per = 4 ∨ per = 5 ∨ per = 6 ∨ per = 7 := by omega
  unfold upI
  rcases hp with rfl | rfl | rfl | rfl | rfl | rfl | rfl <;> (split <;> (refine ⟨by omega, by omega, by omega, fun d h3 h4 => by omega⟩))
theorem res_spec {p : PerD} (h : Few p) {c d : Int} (h0 : 0 ≤ c) (h1 : c < p.per) : 0 ≤ resI p c ∧ resI p c < p.per ∧ ((d - p.fr) % p.per = c ↔ d % p.per = resI p c) := by
  obtain ⟨_, f0, f1, p0, p1, _, _, _, _⟩ := h
  unfold resI
  generalize p.per = per at *
  generalize p.fr = fr at *
  have hp : per = 1 ∨ per = 2 ∨ per = 3 ∨ per = 4 ∨ per = 5 ∨ per = 6 ∨ per = 7 := by omega
  rcases hp with rfl | rfl | rfl | rfl | rfl | rfl | rfl <;> omega
theorem few_mem {p : PerD} (h : Few p) {d : Int} (hd : p.fr ≤ d) : memB p d = true ↔ ∃ c ∈ p.cyc, d % p.per = resI p c := by
  unfold memB
  rw [if_pos hd, decide_eq_true_eq]
  constructor
  · intro hm
    obtain ⟨a, b⟩ := h.mem _ hm
    exact ⟨_, hm, ((res_spec h a b (d := d)).2.2).1 rfl⟩
  · rintro ⟨c, hc, e⟩
    obtain ⟨a, b⟩ := h.mem _ hc
    rw [((res_spec h a b (d := d)).2.2).2 e]
    exact hc
theorem few_perB {p : PerD} (h : Few p) : perB p = true := by
  have hr : ∀ (l : List Int) (last : Int), l.Pairwise (· < ·) → (∀ c ∈ l, last < c ∧ c < p.per) → risingB p.per last l = true := by
    intro l
    induction l with
    | nil => intros; rfl
    | cons a l ih =>
      intro last hp hc
      have h1 := hc a List.mem_cons_self
      have h2 := List.pairwise_cons.1 hp
      simp only [risingB, decide_eq_true h1.1, decide_eq_true h1.2, Bool.true_and]
      exact ih a h2.2 fun c hc' => ⟨h2.1 c hc', (hc c (List.mem_cons_of_mem _ hc')).2⟩
  have h4 := hr p.cyc (-1) h.ris fun c hc => ⟨by have := (h.mem c hc).1; omega, (h.mem c hc).2⟩
  obtain ⟨h0, f0, f1, p0, p1, _, h7, _, _⟩ := h
  unfold perB
  rw [h4, h0]
  simp [risingB]
  omega

/-- The heap of the search. -/
def LH (H : Heap) (g : Tg) (p : PerD) (n least : Int) (found : Bool) : Prop := (∃ a, H[0]? = some (.box [.f (sl g (perRows [p]))] a)) ∧ H[1]? = some (.box [.f (fi n)] 0) ∧ H[2]? = some (.box [.f (fi least)] 0) ∧ H[3]? = some (.box [.f (.bool found)] 0) ∧
  H[4]? = some (.box [.cl F_x54 [.ptr 0 0 0, .ptr 4 0 0, .ptr 1 0 0, .ptr 2 0 0, .ptr 3 0 0]] 0)
theorem LH.push {H : Heap} {g : Tg} {p : PerD} {n least : Int} {found : Bool} (h : LH H g p n least found) (J : Heap) : LH (H ++ J) g p n least found := by
  obtain ⟨⟨a, h0⟩, h1, h2, h3, h4⟩ := h
  refine ⟨⟨a, ?_⟩, ?_, ?_, ?_, ?_⟩
  · rw [List.getElem?_append_left (lt_of_get h0)]; exact h0
  · rw [List.getElem?_append_left (lt_of_get h1)]; exact h1
  · rw [List.getElem?_append_left (lt_of_get h2)]; exact h2
  · rw [List.getElem?_append_left (lt_of_get h3)]; exact h3
  · rw [List.getElem?_append_left (lt_of_get h4)]; exact h4

theorem late1 (g : Tg) (p : PerD) (H : Heap) (n least : Int) (found : Bool) (r : Int) (hH : LH H g p n least found) (h0 : 0 ≤ r) (h1 : r < p.per) (h2 : p.per ≤ 7) (hn : 0 ≤ n) (hn' : n ≤ 1000000) :
    ∃ v H', Ev tab.get (.fn F_x54) [vi 1, .a [.f (fi r), .f (fi p.per)], .c (.ptr 0 0 0), .c (.ptr 4 0 0), .c (.ptr 1 0 0), .c (.ptr 2 0 0), .c (.ptr 3 0 0)] H v H' ∧
      (v = .t [] ∧ LH H' g p n (if upI n r p.per ≤ least then upI n r p.per else least) (found || decide (upI n r p.per ≤ least)) ∧ ∀ i : Nat, 5 ≤ i → i < H.length → H'[i]? = H[i]?) := by
  obtain ⟨⟨a0, g0⟩, g1, g2, g3, g4⟩ := hH
  obtain ⟨u1, u2, u3, -⟩ := up_spec h0 h1 h2 hn
  have l4 := lt_of_get g4
  refine ev_ex T_x54 rfl fun Q hQ => ?_
  have tail : ∀ (t : T) (HH : Heap) (at' : Int), at' = upI n r p.per → t.g 8 = .c (.ptr H.length 0 0) → t.g 4 = .c (.ptr 1 0 0) → t.g 5 = .c (.ptr 2 0 0) → t.g 6 = .c (.ptr 3 0 0) → LH HH g p n least found → HH[H.length]? = some (.box [.f (fi at'), .f (fi p.per)] 0) → (∀ i : Nat, 5 ≤ i → i < H.length → HH[i]? = H[i]?) →
      WP tab.get F_x54 none [.code C_x54_31] ⟨t, [], HH⟩ Q := by
    rintro t HH _ rfl e8 e4 e5 e6 hLH q8 hkeep
    have q1 := hLH.2.1
    have q2 := hLH.2.2.1
    have q3 := hLH.2.2.2.1
    refine kw_seq (kw_region (.inl rfl) ?_)
    simp [e8, e4, e5, q8, q1, q2, u1]
    by_cases k : upI n r p.per ≤ least
    · refine kw_cond_t (by simp [k]) ?_
      have q3' : (HH.set 2 (.box [.f (fi (upI n r p.per))] 0))[3]? = some (.box [.f (.bool found)] 0) := by rw [List.getElem?_set_ne (by decide)]; exact q3
      refine kw_region (.inl rfl) ?_
      simp [e8, e5, e6, q8, q2, q3']
      refine kw_nil (hQ _ _ _ rfl rfl ⟨rfl, ?_, fun i hi hl => by rw [List.getElem?_set_ne (by omega), List.getElem?_set_ne (by omega)]; exact hkeep i hi hl⟩)
      obtain ⟨⟨a0, h0⟩, h1, h2, h3, h4⟩ := hLH
      refine ⟨⟨a0, ?_⟩, ?_, ?_, ?_, ?_⟩
      · rw [List.getElem?_set_ne (by decide), List.getElem?_set_ne (by decide)]; exact h0
      · rw [List.getElem?_set_ne (by decide), List.getElem?_set_ne (by decide)]; exact h1
      · rw [List.getElem?_set_ne (by decide), List.getElem?_set_self (lt_of_get h2)]; simp [k]
      · rw [List.getElem?_set_self (by rw [List.length_set]; exact lt_of_get h3)]; simp [k]
      · rw [List.getElem?_set_ne (by decide), List.getElem?_set_ne (by decide)]; exact h4
    · refine kw_cond_f (by simp [k]) (kw_skip ?_)
      refine kw_nil (hQ _ _ _ rfl rfl ⟨rfl, ?_, hkeep⟩)
      simpa [k] using hLH
  refine kw_seq (kw_region (.inl rfl) ?_)
  simp
  have hHH := LH.push (H := H) (g := g) (p := p) (n := n) (least := least) (found := found) ⟨⟨a0, g0⟩, g1, g2, g3, g4⟩ [.box [.f (fi r), .f (fi p.per)] 0]
  have h8 : (H ++ [Blk.box [.f (fi r), .f (fi p.per)] 0])[H.length]? = some (.box [.f (fi r), .f (fi p.per)] 0) := by simp
  have hkp : ∀ i : Nat, 5 ≤ i → i < H.length → (H ++ [Blk.box [.f (fi r), .f (fi p.per)] 0])[i]? = H[i]? := fun i _ hl => List.getElem?_append_left hl
  generalize H ++ [Blk.box [.f (fi r), .f (fi p.per)] 0] = HH at hHH h8 hkp ⊢
  obtain ⟨a1, r0⟩ := hHH.1
  have r1 := hHH.2.1
  refine kw_seq ?_
  refine kw_seq (kw_region (.inl rfl) ?_)
  simp [r0]
  refine kw_cond_f (by simp) (kw_skip ?_)
  refine kw_seq ?_
  refine kw_seq (kw_region (.inl rfl) ?_)
  by_cases k : r < n
  · simp [r1, h8, k, show 0 < p.per by omega]
    refine kw_cond_t (by simp) ?_
    have hup : upI n r p.per = r + (n - r + p.per - 1) / p.per * p.per := by unfold upI; rw [if_pos k]
    have hq := quo_nn (a := n - r + p.per - 1) (b := p.per) (by omega) (by omega) (by omega)
    have b1 : (n - r + p.per - 1) / p.per * p.per = upI n r p.per - r := by omega
    refine kw_region (.inl rfl) ?_
    simp [r1, h8, wrap64 (n := n - r) (by omega) (by omega), wrap64 (n := n - r + p.per) (by omega) (by omega), wrap64 (n := n - r + p.per - 1) (by omega) (by omega), hq, b1, wrap64 (n := upI n r p.per - r) (by omega) (by omega), wrap64 (n := r + (upI n r p.per - r)) (by omega) (by omega)]
    refine tail _ _ _ (show r + (upI n r p.per - r) = _ by omega) (by simp) (by simp) (by simp) (by simp) ?_ (List.getElem?_set_self (lt_of_get h8)) fun i hi hl => by rw [List.getElem?_set_ne (by omega)]; exact hkp i hi hl
    obtain ⟨⟨a1, h0⟩, h1, h2, h3, h4⟩ := hHH
    refine ⟨⟨a1, ?_⟩, ?_, ?_, ?_, ?_⟩
    all_goals (rw [List.getElem?_set_ne (by omega)]; assumption)
  · simp [r1, h8, k]
    refine kw_cond_f (by simp) (kw_skip ?_)
    exact tail _ _ r (by unfold upI; rw [if_neg k]) (by simp) (by simp) (by simp) (by simp) hHH h8 hkp
end Go.Proofs.YthjpdnjmppbokaaGreat
end

section
namespace Go.Proofs.YthjpdnjmppbokaaGreat
open Go Km

/-- The search over the residues. -/
theorem late0 (g : Tg) (p : PerD) (hp : Few p) (H : Heap) (n : Int) (hH : LH H g p n 1152921504606846976 false) (hn : 0 ≤ n) (hn' : n ≤ 1000000) :
    ∃ v H', Ev tab.get (.fn F_x54) [vi 0, .a [.f (fi 0), .f (fi 1)], .c (.ptr 0 0 0), .c (.ptr 4 0 0), .c (.ptr 1 0 0), .c (.ptr 2 0 0), .c (.ptr 3 0 0)] H v H' ∧
      (v = .t [] ∧ ∃ d, LH H' g p n d true ∧ (∃ c ∈ p.cyc, d = upI n (resI p c) p.per) ∧ ∀ c ∈ p.cyc, d ≤ upI n (resI p c) p.per) := by
  refine ev_ex T_x54 rfl fun Q hQ => ?_
  have hrow := fun H : Heap => ld_rowa (H := H) (perRows_grid [p]) (perRows_at (l := [p]) (j := 0) (by simp))
  have hcell := fun H : Heap => ld_row (H := H) (k := 3) (perRows_grid [p]) (perRows_at (l := [p]) (j := 0) (by simp)) rfl
  have hper := fun H : Heap => ld_row (H := H) (k := 2) (perRows_grid [p]) (perRows_at (l := [p]) (j := 0) (by simp)) rfl
  have hidx := fun H : Heap => idx_sl (H := H) (g := g) (rows := perRows [p]) (sz := 4) (k := .i64) (i := 0) (by omega) (by simp)
  simp [PerD.row] at hrow hidx hcell hper
  have l4 := lt_of_get hH.2.2.2.2
  have hlen := hp.len
  refine kw_seq (kw_region (.inl rfl) ?_)
  simp
  have hHH := hH.push [.box [.f (fi 0), .f (fi 1)] 0]
  have h8 : (H ++ [Blk.box [.f (fi 0), .f (fi 1)] 0])[H.length]? = some (.box [.f (fi 0), .f (fi 1)] 0) := by simp
  obtain ⟨b8, hb8⟩ : ∃ b8, b8 = H.length := ⟨_, rfl⟩
  rw [← hb8] at h8 ⊢
  generalize H ++ [Blk.box [.f (fi 0), .f (fi 1)] 0] = HH at hHH h8 ⊢
  obtain ⟨a0, q0⟩ := hHH.1
  refine kw_seq ?_
  refine kw_seq (kw_region (.inl rfl) ?_)
  simp [q0]
  refine kw_cond_t (by simp) ?_
  refine kw_seq ?_
  refine kw_seq (kw_region (.inl rfl) ?_)
  simp [q0, hidx, hcell]
  refine kw_for p.cyc.length (fun j t H' => t.g 0 = vi 0 ∧ t.g 2 = .c (.ptr 0 0 0) ∧ t.g 3 = .c (.ptr 4 0 0) ∧ t.g 8 = .c (.ptr b8 0 0) ∧ t.g 21 = .c (.f (sl p.cg (ints p.cyc))) ∧ H'[b8]? = some (.box [.f (fi 0), .f (fi 1)] 0) ∧
    ((j = 0 ∧ LH H' g p n 1152921504606846976 false) ∨ (0 < j ∧ ∃ d, LH H' g p n d true ∧ (∃ c ∈ p.cyc.take j, d = upI n (resI p c) p.per) ∧ ∀ c ∈ p.cyc.take j, d ≤ upI n (resI p c) p.per))) (by omega) (by decide) (by decide) (by simp) (by simp)
    ⟨by simp, by simp, by simp, by simp, by simp, h8, .inl ⟨rfl, hHH⟩⟩ ?_ ?_
  · rintro j t H' hj ⟨g0, g2, g3, g8, g21, h8, hI⟩ ha hb next
    obtain ⟨least, found, hLH, hcase⟩ : ∃ least found, LH H' g p n least found ∧ ((j = 0 ∧ least = 1152921504606846976 ∧ found = false) ∨ (0 < j ∧ found = true ∧ (∃ c ∈ p.cyc.take j, least = upI n (resI p c) p.per) ∧ ∀ c ∈ p.cyc.take j, least ≤ upI n (resI p c) p.per)) := by
      rcases hI with ⟨h, h'⟩ | ⟨h, d, h1, h2, h3⟩
      · exact ⟨_, _, h', .inl ⟨h, rfl, rfl⟩⟩
      · exact ⟨_, _, h1, .inr ⟨h, rfl, h2, h3⟩⟩
    have hm := hp.mem p.cyc[j] (List.getElem_mem hj)
    have hrs := res_spec hp hm.1 hm.2 (d := 0)
    have hres := residue_sp p hp p.cyc[j] hm.1 hm.2
    have hmeet := meet_sp p.per (resI p p.cyc[j]) hp.per1 hrs.1 hrs.2.1
    obtain ⟨u1, u2, u3, -⟩ := up_spec hrs.1 hrs.2.1 hp.per1 hn
    simp [PerD.row] at hres
    have htk : p.cyc.take (j + 1) = p.cyc.take j ++ [p.cyc[j]] := by rw [List.take_add_one, List.getElem?_eq_getElem hj]; rfl
    obtain ⟨a1, e0⟩ := hLH.1
    have e4 := hLH.2.2.2.2
    obtain ⟨v, H2, hev, rfl, hL2, hk2⟩ := late1 g p (H' ++ [.box [.f (fi (resI p p.cyc[j])), .f (fi p.per)] 0]) n least found (resI p p.cyc[j]) (hLH.push _) hrs.1 hrs.2.1 hp.per1 hn hn'
    have hev := hev.eq
    have k4 : (H' ++ [Blk.box [.f (fi (resI p p.cyc[j])), .f (fi p.per)] 0])[4]? = some (.box [.cl F_x54 [.ptr 0 0 0, .ptr 4 0 0, .ptr 1 0 0, .ptr 2 0 0, .ptr 3 0 0]] 0) := by rw [List.getElem?_append_left (lt_of_get e4)]; exact e4
    have kN : (H' ++ [Blk.box [.f (fi (resI p p.cyc[j])), .f (fi p.per)] 0])[H'.length]? = some (.box [.f (fi (resI p p.cyc[j])), .f (fi p.per)] 0) := by simp
    have kl : (H' ++ [Blk.box [.f (fi (resI p p.cyc[j])), .f (fi p.per)] 0]).length = H'.length + 1 := by simp
    have kb : (H' ++ [Blk.box [.f (fi (resI p p.cyc[j])), .f (fi p.per)] 0])[b8]? = some (.box [.f (fi 0), .f (fi 1)] 0) := by rw [List.getElem?_append_left (lt_of_get h8)]; exact h8
    refine kw_block ?_
    refine kw_seq (kw_region (.inl rfl) ?_)
    simp [ha, g21, idx_sl, hj, ld_int]
    refine kw_seq (kw_region (.inl rfl) ?_)
    simp [g0, g2, g8, h8, e0, hidx, hrow, hper, hres, hmeet]
    refine kw_seq ?_
    refine kw_region (.inl rfl) ?_
    simp
    generalize H' ++ [Blk.box [.f (fi (resI p p.cyc[j])), .f (fi p.per)] 0] = HA at hev k4 kN kl kb hk2 ⊢
    refine kw_cond_t (by simp) ?_
    refine kw_region (.inl rfl) ?_
    simp [g0, g3, k4, kN, wrap64 (n := 1) (by omega) (by omega), calleeV, hev]
    refine kw_inBlock (next _ _ ?_ (by simp [ha]) (by simp [hb]))
    have hb5 : 5 ≤ b8 := by omega
    refine ⟨by simp [g0], by simp [g2], by simp [g3], by simp [g8], by simp [g21], ?_, .inr ⟨by omega, (if upI n (resI p p.cyc[j]) p.per ≤ least then upI n (resI p p.cyc[j]) p.per else least), ?_, ?_, ?_⟩⟩
    · rw [hk2 b8 hb5 (by rw [kl]; have := lt_of_get h8; omega)]; exact kb
    · have hf : (found || decide (upI n (resI p p.cyc[j]) p.per ≤ least)) = true := by
        rcases hcase with ⟨_, rfl, rfl⟩ | ⟨_, rfl, _⟩
        · simp; omega
        · simp
      rw [hf] at hL2
      exact hL2
    · rw [htk]
      rcases hcase with ⟨rfl, rfl, rfl⟩ | ⟨_, rfl, ⟨c, hc, e⟩, h⟩
      · exact ⟨p.cyc[0], by simp, by rw [if_pos (by omega)]⟩
      · split
        · exact ⟨p.cyc[j], List.mem_append_right _ (List.mem_singleton.2 rfl), rfl⟩
        · exact ⟨c, List.mem_append_left _ hc, e⟩
    · intro c hc
      rw [htk, List.mem_append, List.mem_singleton] at hc
      rcases hcase with ⟨rfl, rfl, rfl⟩ | ⟨_, rfl, _, h⟩
      · rw [if_pos (by omega)]
        rcases hc with hc | rfl
        · simp at hc
        · exact Int.le_refl _
      · rcases hc with hc | rfl
        · have := h c hc
          split <;> omega
        · split <;> omega
  · rintro t H' ⟨g0, g2, g3, g8, g21, h8, hI⟩ - -
    have hN : 0 < p.cyc.length := List.length_pos_iff.2 hp.cyc
    rcases hI with ⟨h, _⟩ | ⟨_, d, h1, h2, h3⟩
    · omega
    · rw [List.take_length] at h2 h3
      exact kw_ret (hQ _ _ _ rfl rfl ⟨rfl, d, h1, h2, h3⟩)

theorem late_sp (g : Tg) (p : PerD) (hp : Few p) (n : Int) (hn : 0 ≤ n) (hn' : n ≤ 100000) : ∃ d, (n ≤ d ∧ p.fr ≤ d ∧ memB p d = true ∧ d ≤ 1000007 ∧ ∀ d', n ≤ d' → p.fr ≤ d' → memB p d' = true → d ≤ d') ∧
    Km.Pure tab.get F_x53 [.c (.f (sl g (perRows [p]))), vi n] = Eq (.t [vi d, vb true]) := by
  have key : ∃ r, (∃ d, (n ≤ d ∧ p.fr ≤ d ∧ memB p d = true ∧ d ≤ 1000007 ∧ ∀ d', n ≤ d' → p.fr ≤ d' → memB p d' = true → d ≤ d') ∧ r = .t [vi d, vb true]) ∧ Km.Pure tab.get F_x53 [.c (.f (sl g (perRows [p]))), vi n] r := by
    refine pure_ex T_x53 rfl fun Q hQ => ?_
    have hst := start_sp g p hp
    have f0 := hp.fr0
    have f1 := hp.fr1
    obtain ⟨m, hm⟩ : ∃ m, m = max n p.fr := ⟨_, rfl⟩
    obtain ⟨v, H', hev, rfl, d, hL, ⟨c, hc, hd⟩, hmin⟩ := late0 g p hp [.box [.f (sl g (perRows [p]))] 0, .box [.f (fi m)] 0, .box [.f (fi 1152921504606846976)] 0, .box [.f (.bool false)] 0, .box [.cl F_x54 [.ptr 0 0 0, .ptr 4 0 0, .ptr 1 0 0, .ptr 2 0 0, .ptr 3 0 0]] 0] m
      ⟨⟨0, rfl⟩, rfl, rfl, rfl, rfl⟩ (by omega) (by omega)
    refine kw_seq (kw_region (.inl rfl) ?_)
    simp
    refine kw_seq (kw_region (.inl rfl) ?_)
    simp [hst, ← hm]
    refine kw_seq (kw_region (.inl rfl) ?_)
    simp
    refine kw_seq (kw_region (.inl rfl) ?_)
    simp
    refine kw_seq (kw_region (.inl rfl) ?_)
    simp
    refine kw_seq (kw_region (.inl rfl) ?_)
    simp [calleeV, hev.eq]
    refine kw_seq ?_
    refine kw_seq (kw_region (.inl rfl) ?_)
    simp [hL.2.2.2.1]
    refine kw_cond_f (by simp) (kw_skip ?_)
    refine kw_seq (kw_region (.inl rfl) ?_)
    simp [hL.2.2.1]
    have hmc := hp.mem c hc
    have hrs := fun d => res_spec hp hmc.1 hmc.2 (d := d)
    obtain ⟨u1, u2, u3, u4⟩ := up_spec (hrs 0).1 (hrs 0).2.1 hp.per1 (show 0 ≤ m by omega)
    rw [← hd] at u1 u2 u3 u4
    refine kw_ret (hQ _ _ _ ⟨d, ⟨by omega, by omega, (few_mem hp (by omega)).2 ⟨c, hc, u2⟩, by omega, fun d' h1 h2 h3 => ?_⟩, rfl⟩ ?_)
    · obtain ⟨c', hc', e⟩ := (few_mem hp h2).1 h3
      have hmc' := hp.mem c' hc'
      have hrs' := res_spec hp hmc'.1 hmc'.2 (d := 0)
      obtain ⟨-, -, -, w4⟩ := up_spec hrs'.1 hrs'.2.1 hp.per1 (show 0 ≤ m by omega)
      have := hmin c' hc'
      have := w4 d' (by omega) e
      omega
    · simp
  obtain ⟨r, ⟨d, hd, rfl⟩, h⟩ := key
  exact ⟨d, hd, Km.Pure.eq h⟩
end Go.Proofs.YthjpdnjmppbokaaGreat
end

section
namespace Go.Proofs.YthjpdnjmppbokaaGreat
open Go Km

/-! ### The least member of a set of one term -/
theorem values_sp (x : FC) : Km.Pure tab.get F_x202 [.c (.f x)] = Eq (.c (.f (.fn F_x203 [.fp [x] 0]))) := by
  refine Km.Pure.eq (pure_fn T_x202 rfl fun Q hQ => ?_)
  refine kw_seq (kw_region (.inl rfl) ?_)
  simp
  refine kw_seq (kw_region (.inl rfl) ?_)
  simp
  refine kw_ret (hQ _ _ ?_)
  simp [deep]

theorem values1 {b : Nat} {H H' : Heap} (g : Tg) (t : TermD) (hy : Ev tab.get (.yield b) [.c (.f (sl t.tg (perRows t.fs)))] H (vb true) H') :
    ∃ r H2, Ev tab.get (.fn F_x203) [.c (.yl b), .c (.f (.fp [sl g (termRows [t])] 0))] H r H2 ∧ (r = .t [] ∧ H2 = H') := by
  refine ev_ex T_x203 rfl fun Q hQ => ?_
  have hrow := fun H : Heap => ld_row0 (H := H) (termRows_grid [t]) (termRows_at (l := [t]) (j := 0) (by simp)) rfl
  have hidx := fun H : Heap => idx_sl (H := H) (g := g) (rows := termRows [t]) (sz := 1) (k := .i64) (i := 0) (by omega) (by simp)
  simp at hrow hidx
  refine kw_seq (kw_region (.inl rfl) ?_)
  simp [ld_fp]
  refine kw_for 1 (fun j s J => t = t ∧ s.g 0 = .c (.yl b) ∧ s.g 5 = .c (.f (sl g (termRows [t]))) ∧ (j = 0 → J = H) ∧ (j = 1 → J = H')) (by omega) (by decide) (by decide) (by simp) (by simp) ⟨rfl, by simp, by simp, by simp, by simp⟩ ?_ ?_
  · rintro j s J hj ⟨-, g0, g5, hJ, -⟩ ha hb next
    have : j = 0 := by omega
    subst this
    obtain rfl := hJ rfl
    simp at ha
    refine kw_block ?_
    refine kw_seq (kw_region (.inl rfl) ?_)
    simp [g5, ha, hidx, hrow]
    refine kw_seq (kw_region (.inl rfl) ?_)
    simp [g0, hy.eq]
    refine kw_cond_f (by simp) (kw_skip ?_)
    refine kw_inBlock (next _ _ ?_ (by simp [ha]) (by simp [hb]))
    exact ⟨rfl, by simp [g0], by simp [g5], by simp, by simp⟩
  · rintro s J ⟨-, g0, g5, -, hJ⟩ ha hb
    obtain rfl := hJ rfl
    exact kw_nil (hQ _ _ _ rfl rfl ⟨rfl, rfl⟩)

def IsLeast (p : PerD) (n d : Int) : Prop := n ≤ d ∧ p.fr ≤ d ∧ memB p d = true ∧ d ≤ 1000007 ∧ ∀ d', n ≤ d' → p.fr ≤ d' → memB p d' = true → d ≤ d'
theorem least_sp (g : Tg) (t : TermD) (p : PerD) (ht : t.fs = [p]) (hp : Few p) (n : Int) (hn : 0 ≤ n) (hn' : n ≤ 100000) : ∃ d, IsLeast p n d ∧
    Km.Pure tab.get F_x55 [.c (.f (.fn F_x203 [.fp [sl g (termRows [t])] 0])), vi n] = Eq (.t [vi d, vb true]) := by
  obtain ⟨d, hd, hlate⟩ := late_sp t.tg p hp n hn hn'
  refine ⟨d, hd, ?_⟩
  have key : ∃ r, (r = .t [vi d, vb true]) ∧ Km.Pure tab.get F_x55 [.c (.f (.fn F_x203 [.fp [sl g (termRows [t])] 0])), vi n] r := by
    refine pure_exC T_x55 rfl fun Q hQ => ?_
    have hearly := early_sp t.tg p hp n
    have hrec := recurs_sp t.tg p hp
    have fin : ∀ s : T, s.g 3 = .c (.ptr 0 0 0) → s.g 6 = .c (.ptr 1 0 0) → s.g 7 = .c (.ptr 2 0 0) → s.g 11 = .c (.f (.fn F_x203 [.fp [sl g (termRows [t])] 0])) →
        WP tab.get F_x55 none [.code C_x55_8, .inBlock 0, .code C_x55_22] ⟨s, [], [.box [.f (fi n)] 0, .box [.f (fi 0)] 0, .box [.f (.bool false)] 0]⟩ Q := by
      intro s g3 g6 g7 g11
      obtain ⟨r, H', hy, rfl, q1, q2, q3, f2, tm, ps, aa, bd, q4⟩ := ev_yield_ex (tab := tab.get) (b := 4) (args := [.c (.f (sl t.tg (perRows t.fs)))])
        (H := [.box [.f (fi n)] 0, .box [.f (fi 0)] 0, .box [.f (.bool false)] 0, .dfr true, .lp F_x55 s [P.nat 12] C_x55_9 C_x55_10 .ready none 3])
        (C := fun r H' => r = vb true ∧ H'[1]? = some (.box [.f (fi d)] 0) ∧ H'[2]? = some (.box [.f (.bool true)] 0) ∧ H'[3]? = some (.dfr true) ∧ ∃ f2 tm ps aa bd, H'[4]? = some (.lp f2 tm ps aa bd .ready none 3)) rfl rfl fun Q' hQ' => by
          rw [ht]
          refine kw_region (.inr rfl) ?_
          simp
          refine kw_begR rfl ?_
          simp
          refine kw_block ?_
          refine kw_seq (kw_region (.inr rfl) ?_)
          simp [g3, hearly]
          refine kw_seq ?_
          refine kw_seq (kw_region (.inr rfl) ?_)
          simp [g3, hrec, show n ≤ 1152921504606846976 by omega]
          refine kw_cond_t (by simp) ?_
          refine kw_region (.inr rfl) ?_
          simp [g3, hlate]
          refine kw_seq ?_
          refine kw_region (.inr rfl) ?_
          simp [g7]
          refine kw_cond_t (by simp) ?_
          refine kw_region (.inr rfl) ?_
          simp [g6, g7]
          refine kw_inBlock (kw_nil (hQ' _ _ _ _ _ _ _ _ _ _ rfl rfl ?_))
          exact ⟨rfl, rfl, rfl, rfl, _, _, _, _, _, rfl⟩
      obtain ⟨r, H2, e1, rfl, rfl⟩ := values1 g t hy
      refine kw_rangeF (g := F_x203) (by rw [R_ev, g11]; simp [calleeV]) e1 ?_
      refine kw_endRF q4 (by decide) ?_
      refine kw_inBlock ?_
      refine kw_seq (kw_region (.inl rfl) ?_)
      have w1 : (H2.set 4 (.lp f2 tm ps aa bd .exhausted none 3))[1]? = some (.box [.f (fi d)] 0) := by rw [List.getElem?_set_ne (by decide)]; exact q1
      have w2 : (H2.set 4 (.lp f2 tm ps aa bd .exhausted none 3))[2]? = some (.box [.f (.bool true)] 0) := by rw [List.getElem?_set_ne (by decide)]; exact q2
      have w3 : (H2.set 4 (.lp f2 tm ps aa bd .exhausted none 3))[3]? = some (.dfr true) := by rw [List.getElem?_set_ne (by decide)]; exact q3
      simp [g6, g7, w1, w2]
      refine kw_ret (hQ _ _ _ rfl (.inr ⟨3, rfl, w3, .t [vi d, vb true], ?_, by simp [exV, exV1, mapO]⟩))
      simp [Km.results, resOne, mapO]
    refine kw_seq (kw_region (.inl rfl) ?_)
    simp
    refine kw_seq (kw_region (.inl rfl) ?_)
    simp
    refine kw_seq ?_
    refine kw_seq (kw_region (.inl rfl) ?_)
    simp
    refine kw_block ?_
    exact fin _ (by simp) (by simp) (by simp) (by simp)
  obtain ⟨r, rfl, h⟩ := key
  exact h.eq
theorem next_sp (g : Tg) (t : TermD) (p : PerD) (ht : t.fs = [p]) (hp : Few p) (n : Int) (hn : 0 ≤ n) (hn' : n ≤ 100000) : ∃ d, IsLeast p n d ∧
    Km.Pure tab.get F_x40 [.a [.f (sl g (termRows [t]))], vi n] = Eq (.t [vi d, vb true]) := by
  obtain ⟨d, hd, hl⟩ := least_sp g t p ht hp n hn hn'
  refine ⟨d, hd, Km.Pure.eq (pure_fn T_x40 rfl fun Q hQ => ?_)⟩
  have hpb := few_perB hp
  have hmx : mixB [t] = true := by simp [mixB, termB, ht, hpb]
  have hm := mix_sp g [t] (by simp) (by simp [TermD.Sm, ht]; exact perB_sm hpb)
  rw [hmx] at hm
  have hv := values_sp (sl g (termRows [t]))
  have hx : max n 0 = n := by omega
  refine kw_seq (kw_region (.inl rfl) ?_)
  simp
  refine kw_seq ?_
  refine kw_seq (kw_region (.inl rfl) ?_)
  simp [hm]
  refine kw_cond_f (by simp) (kw_skip ?_)
  refine kw_seq (kw_region (.inl rfl) ?_)
  simp [hv, hx, hl]
  refine kw_ret (hQ _ _ ?_)
  simp
end Go.Proofs.YthjpdnjmppbokaaGreat
end

section
namespace Go.Proofs.YthjpdnjmppbokaaGreat
open Go Km

/-! ### The days of a class -/
theorem inc_len : ∀ (l : List Int) (a k : Int), l.Pairwise (· < ·) → (∀ x ∈ l, a ≤ x ∧ x < a + k) → (l.length : Int) ≤ max k 0
  | [], _, _, _, _ => by simp; omega
  | x :: l, a, k, hp, h => by
    have h1 := h x List.mem_cons_self
    have h2 := List.pairwise_cons.1 hp
    have := inc_len l (x + 1) (a + k - x - 1) h2.2 fun y hy => ⟨by have := h2.1 y hy; omega, by have := h y (List.mem_cons_of_mem _ hy); omega⟩
    simp only [List.length_cons]
    omega
theorem days_sp (s0 s2 c0 : FC) (len mi wf wt : Int) : Km.Pure tab.get F_x13 [.a [.f s0, .f (fi len), .f s2], .a [.f c0, .f (fi mi)], .a [.f (fi wf), .f (fi wt)]] =
    Eq (.c (.f (.fn F_x14 [.fp [fi wf, fi wt] 0, .fp [s0, fi len, s2] 0, .fp [c0, fi mi] 0]))) := by
  refine Km.Pure.eq (pure_fn T_x13 rfl fun Q hQ => ?_)
  refine kw_seq (kw_region (.inl rfl) ?_)
  simp
  refine kw_seq (kw_region (.inl rfl) ?_)
  simp
  refine kw_ret (hQ _ _ ?_)
  simp [deep]

def DayIn (p : PerD) (n0 mi wt d : Int) : Prop := n0 ≤ d ∧ p.fr ≤ d ∧ memB p d = true ∧ d * 1440 + mi < wt
theorem days_ex {b : Nat} {H : Heap} {PP : List Int → Heap → Prop} (g : Tg) (t : TermD) (p : PerD) (ht : t.fs = [p]) (hp : Few p) (s0 s2 : FC) (len mi wf wt : Int) (hl0 : 0 ≤ len) (hl1 : len ≤ 180) (hm0 : 0 ≤ mi) (hm1 : mi ≤ 1440)
    (hf0 : 0 ≤ wf) (hw : wt ≤ 1000000) (hfw : wf ≤ wt) (n0 : Int) (hn : n0 = max 0 ((wf - len - mi) / 1440 + 1)) (h0 : PP [] H)
    (hy : ∀ ds d H, PP ds H → 0 ≤ d → d ≤ 1000 → (ds.length : Int) ≤ d → ∃ H', Ev tab.get (.yield b) [vi d] H (vb true) H' ∧ PP (ds ++ [d]) H') :
    ∃ r H', Ev tab.get (.fn F_x14) [.c (.yl b), .c (.f (.fp [fi wf, fi wt] 0)), .c (.f (.fp [s0, fi len, s2] 0)), .c (.f (.fp [sl g (termRows [t]), fi mi] 0))] H r H' ∧
      (r = .t [] ∧ ∃ ds, PP ds H' ∧ ds.Pairwise (· < ·) ∧ ∀ d, d ∈ ds ↔ DayIn p n0 mi wt d) := by
  refine ev_ex T_x14 rfl fun Q hQ => ?_
  have hfl := floor_sp (wf - len - mi) (by omega) (by omega)
  have htim := fun d => timely_sp s0 s2 (sl g (termRows [t])) len mi d (by omega) (by omega) (by omega) (by omega)
  refine kw_seq (kw_region (.inl rfl) ?_)
  simp [ld_fp, wrap64 (n := wf - len) (by omega) (by omega), wrap64 (n := wf - len - mi) (by omega) (by omega), hfl, wrap64 (n := (wf - len - mi) / 1440 + 1) (by omega) (by omega), ← hn]
  refine kw_block ?_
  refine kw_loop (fun m s => ∃ (cur : Int) (T0 : T) (J : Heap) (ds : List Int), s = ⟨T0, [], J⟩ ∧ (m : Int) = 1100 - cur ∧ n0 ≤ cur ∧ cur ≤ 1000 ∧ T0.g 0 = .c (.yl b) ∧ T0.g 1 = .c (.f (.fp [fi wf, fi wt] 0)) ∧ T0.g 2 = .c (.f (.fp [s0, fi len, s2] 0)) ∧ T0.g 3 = .c (.f (.fp [sl g (termRows [t]), fi mi] 0)) ∧ T0.g 5 = vi cur ∧
    PP ds J ∧ ds.Pairwise (· < ·) ∧ (∀ d ∈ ds, d < cur) ∧ (ds.length : Int) ≤ cur ∧ ∀ d, d < cur → (d ∈ ds ↔ DayIn p n0 mi wt d)) (1100 - n0).toNat
    ⟨n0, _, H, [], rfl, by omega, by omega, by omega, by simp, by simp, by simp, by simp, by simp, h0, by simp, by simp, by simp; omega, fun d hd => by simp [DayIn]; omega⟩ ?_
  rintro m s ⟨cur, T0, J, ds, rfl, hm, hc0, hc1, g0, g1, g2, g3, g5, hPP, hpw, hlt, hdl, hmem⟩ ih
  obtain ⟨d, ⟨d1, d2, d3, d4, d5⟩, hnx⟩ := next_sp g t p ht hp cur (by omega) (by omega)
  have htk : d ≤ (2251799813685248 - mi - len) / 1440 := by omega
  refine kw_block ?_
  refine kw_seq (kw_region (.inl rfl) ?_)
  simp [g3, g5, ld_fp, hnx]
  refine kw_seq ?_
  by_cases k : wt ≤ d * 1440 + mi
  · refine kw_seq (kw_region (.inl rfl) ?_)
    simp [g1, g2, g3, ld_fp, htim, htk, wrap64 (n := d * 1440) (by omega) (by omega), wrap64 (n := d * 1440 + mi) (by omega) (by omega), k]
    refine kw_cond_t (by simp) ?_
    refine kw_ret (hQ _ _ _ rfl rfl ⟨rfl, ds, hPP, hpw, fun e => ?_⟩)
    by_cases he : e < cur
    · exact hmem e he
    · refine ⟨fun h => absurd (hlt e h) he, fun ⟨e1, e2, e3, e4⟩ => ?_⟩
      have := d5 e (by omega) e2 e3
      omega
  · obtain ⟨J', hev, hPP'⟩ := hy ds d J hPP (by omega) (by omega) (by omega)
    refine kw_seq (kw_region (.inl rfl) ?_)
    simp [g0, g1, g2, g3, ld_fp, htim, htk, wrap64 (n := d * 1440) (by omega) (by omega), wrap64 (n := d * 1440 + mi) (by omega) (by omega), k, hev.eq]
    refine kw_cond_f (by simp) (kw_skip ?_)
    refine kw_region (.inl rfl) ?_
    simp [wrap64 (n := d + 1) (by omega) (by omega)]
    refine kw_inBlock (ih (1100 - (d + 1)).toNat _ (by omega) ⟨d + 1, _, J', ds ++ [d], rfl, by omega, by omega, by omega, by simp [g0], by simp [g1], by simp [g2], by simp [g3], by simp, hPP', ?_, fun e he => ?_, by simp; omega, fun e he => ?_⟩)
    · rw [List.pairwise_append]
      exact ⟨hpw, List.pairwise_singleton _ _, fun x hx y hy => by obtain rfl := List.mem_singleton.1 hy; have := hlt x hx; omega⟩
    · rcases List.mem_append.1 he with he | he
      · have := hlt e he; omega
      · obtain rfl := List.mem_singleton.1 he; omega
    · rw [List.mem_append, List.mem_singleton]
      by_cases hc : e < cur
      · rw [hmem e hc]
        exact ⟨fun h => h.elim id fun h => absurd h (by omega), .inl⟩
      · refine ⟨fun h => ?_, fun ⟨e1, e2, e3, e4⟩ => .inr ?_⟩
        · rcases h with h | rfl
          · exact absurd (hlt e h) hc
          · exact ⟨by omega, d2, d3, by omega⟩
        · have := d5 e (by omega) e2 e3
          omega
end Go.Proofs.YthjpdnjmppbokaaGreat
end

section
namespace Go.Proofs.YthjpdnjmppbokaaGreat
open Go Km

/-! ### Lists of instances in the making -/
def notOpn : Blk → Bool
  | .opn _ _ _ _ _ => false
  | _ => true
def LI (H : Heap) (c : C) (o : List InstD) : Prop := (o = [] ∧ c = .f .nils) ∨ (o ≠ [] ∧ ∃ b ep, c = .sl b 0 o.length 0 ep 3 ∧ RB H b 3 ep (instRows o))
theorem LI.push {H : Heap} {c : C} {o : List InstD} (h : LI H c o) (J : Heap) : LI (H ++ J) c o := by
  rcases h with h | ⟨h, b, ep, h1, h2⟩
  · exact .inl h
  · exact .inr ⟨h, b, ep, h1, h2.push J⟩
theorem LI.set {H : Heap} {c : C} {o : List InstD} (h : LI H c o) {i : Nat} {x : Blk} (hi : H[i]? = some x) (hx : notOpn x = true) (y : Blk) : LI (H.set i y) c o := by
  rcases h with h | ⟨h, b, ep, h1, h2⟩
  · exact .inl h
  · refine .inr ⟨h, b, ep, h1, ?_⟩
    unfold RB at h2 ⊢
    have : i ≠ b := by rintro rfl; rw [h2] at hi; cases hi; cases hx
    rw [List.getElem?_set_ne this]; exact h2
theorem instRows_flat (o : List InstD) (x : InstD) : (instRows (o ++ [x])).flatten = (instRows o).flatten ++ x.row := by simp [instRows]
theorem LI.app {H : Heap} {c : C} {o : List InstD} (h : LI H c o) (hl : o.length ≤ 1000000) {b1 fl : Nat} {x : InstD} (hb1 : H[b1]? = some (.box (x.row.map .f) fl)) :
    ∃ c' H', appendV H 3 24 (.c c) (.c (.sl b1 0 1 1 0 3)) = some (.c c', H') ∧ LI H' c' (o ++ [x]) ∧ H.length ≤ H'.length ∧ ∀ (i : Nat) y, H[i]? = some y → notOpn y = true → H'[i]? = some y := by
  have hadd : addedV H 3 (.c (.sl b1 0 1 1 0 3)) = some (1, x.row.map .f) := added_box hb1 (by rfl)
  rcases h with ⟨rfl, rfl⟩ | ⟨hne, b, ep, rfl, h2⟩
  · have hroom : roomOK 1 24 = true := by simp [roomOK]
    refine ⟨.sl H.length 0 1 0 0 3, H ++ [.opn 3 (x.row.map .f) 0 0 .loc], ?_, .inr ⟨by simp, H.length, 0, by simp, ?_⟩, by simp, fun i y hy _ => by rw [List.getElem?_append_left (lt_of_get hy)]; exact hy⟩
    · simp [appendV, hadd, hroom]
    · unfold RB; simp [instRows]
  · have hroom : roomOK (o.length + 1) 24 = true := by simp [roomOK]; omega
    have hlen : o.length * 3 = (instRows o).flatten.length := by rw [flatten_len (instRows_grid o), instRows_len]
    unfold RB at h2
    refine ⟨.sl b 0 (o.length + 1) 0 (ep + 1) 3, H.set b (.opn 3 ((instRows o).flatten.map .f ++ x.row.map .f) 0 (ep + 1) .loc), ?_, .inr ⟨by simp, b, ep + 1, by simp, ?_⟩, by simp, fun i y hy hn => ?_⟩
    · have h30 : (3 : Nat) ≠ 0 := by decide
      simp only [appendV, hadd, h30, if_false, h2, and_self, if_true]
      simp only [Nat.add_one_ne_zero, if_false]
      rw [if_pos ⟨trivial, by rw [List.length_map]; exact hlen, by omega⟩, hroom]
      simp
    · unfold RB
      rw [List.getElem?_set_self (lt_of_get h2), instRows_flat, List.map_append]
    · have : b ≠ i := by rintro rfl; rw [h2] at hy; cases hy; cases hn
      rw [List.getElem?_set_ne this]; exact hy
theorem LI.len {H : Heap} {c : C} {o : List InstD} (h : LI H c o) : slLen H c = some o.length := by
  rcases h with ⟨rfl, rfl⟩ | ⟨h, b, ep, rfl, h2⟩
  · rfl
  · exact h2.len
theorem RB_ex {H : Heap} {b ep n : Nat} {l R : List InstD} (h : RB H b 3 ep (instRows (l ++ R))) : exC (n + 1) H (.sl b 0 l.length 0 ep 3) = some (sl .fs (instRows l)) := by
  unfold RB at h
  have hl : l.length * 3 = (instRows l).flatten.length := by rw [flatten_len (instRows_grid l), instRows_len]
  have e : (instRows (l ++ R)).flatten = (instRows l).flatten ++ (instRows R).flatten := by simp [instRows]
  simp only [ex_sl, h]
  rw [if_pos ⟨trivial, trivial, by rw [List.length_map, e, List.length_append]; omega⟩, e, List.drop_zero, List.map_append, List.take_append_of_le_length (by rw [List.length_map]; omega), List.take_of_length_le (by rw [List.length_map]; omega)]
  rw [mapO_f]
  cases l with
  | nil => simp [sl, instRows, Tg.fc]
  | cons x l => simp [sl, instRows]
theorem compact_nil {H : Heap} : ∃ r H', Ev tab.get (.fn F_x171) [.c (.f .nils)] H r H' ∧ (r = .c (.f .nils) ∧ H' = H) := by
  refine ev_ex T_x171 rfl fun Q hQ => ?_
  refine kw_seq (kw_region (.inl rfl) ?_)
  simp
  refine kw_seq ?_
  refine kw_seq (kw_region (.inl rfl) ?_)
  simp [slLen]
  refine kw_cond_t (by simp) ?_
  refine kw_seq (kw_region (.inl rfl) ?_)
  simp
  exact kw_ret (hQ _ _ _ rfl (res_one (by simp)) ⟨rfl, rfl⟩)

/-! ### Streams as they are made -/
theorem few_of {f p : Int} {l : List Int} (h0 : 0 ≤ f) (h1 : f ≤ 8) (h2 : 1 ≤ p) (h3 : p ≤ 7) (h4 : l ≠ []) (h5 : NumsOK p l) : Few (perOf f p l) :=
  ⟨rfl, h0, by show f ≤ 1000; omega, h2, h3, h4, h5.2.2, h5.1, h5.2.1⟩
theorem streamOK_sm {s : StreamD} (h : StreamOK s) : s.Sm := by
  obtain ⟨hc, _, _, hx, _, _⟩ := h
  refine ⟨?_, by omega, ?_⟩
  · rcases hc with e | ⟨_, _, _, _, e, _⟩ <;> rw [e] <;> simp
  · rcases hc with e | ⟨f, p, l, mi, e, h0, h1, h2, h3, h4, h5, _⟩
    · rw [e]; simp
    · rw [e]
      intro c hc
      simp at hc
      subst hc
      simp [TermD.Sm]
      exact perB_sm (few_perB (few_of h0 h1 h2 h3 h4 h5))
theorem streamOK_B {s : StreamD} (h : StreamOK s) : streamB s = true := by
  obtain ⟨hc, h1, h2, hx, hp, hi⟩ := h
  have hcl : classesB none s.cs = true := by
    rcases hc with e | ⟨f, p, l, mi, e, h0, h1, h2, h3, h4, h5, h6, h7⟩
    · rw [e]; rfl
    · have hb := few_perB (few_of h0 h1 h2 h3 h4 h5)
      rw [e]
      simp [classesB, mixB, termB, hb, withinB]
      omega
  have hxs : ∀ (xs : List InstD) (prev : Option InstD), xs.Pairwise InstD.lt → (∀ x ∈ xs, InstOK s.len x) → (∀ m, prev = some m → ∀ x ∈ xs, m.lt x) → extraB prev xs = true := by
    intro xs
    induction xs with
    | nil => intros; rfl
    | cons x xs ih =>
      intro prev hp hi hpr
      have hp' := List.pairwise_cons.1 hp
      obtain ⟨i1, i2, i3, i4, i5⟩ := hi x List.mem_cons_self
      have hg : goodB x = true := by
        simp [goodB, withinB]
        omega
      have hq : (prev.all fun m => decide (ordI m x < 0)) = true := by
        cases prev with
        | none => rfl
        | some m =>
          have := (ordI_iff _ _).2 (hpr m rfl x List.mem_cons_self)
          simp [this]
      simp only [extraB, hg, hq, Bool.true_and]
      exact ih (some x) hp'.2 (fun y hy => hi y (List.mem_cons_of_mem _ hy)) fun m hm y hy => by cases hm; exact hp'.1 y hy
  have hx2 := hxs s.xs none hp hi (by simp)
  have hcl1 : (s.cs.length : Int) ≤ 64 := by
    rcases hc with e | ⟨f, p, l, mi, e, _⟩ <;> rw [e] <;> simp
  unfold streamB
  rw [hcl, hx2]
  simp [withinB, hcl1]
  omega
end Go.Proofs.YthjpdnjmppbokaaGreat
end

section
namespace Go.Proofs.YthjpdnjmppbokaaGreat
open Go Km

/-! ### endless.List -/
def n0I (len mi wf : Int) : Int := max 0 ((wf - len - mi) / 1440 + 1)
/-- An instance of the one class. -/
def ClsIn (s : StreamD) (wf wt : Int) (x : InstD) : Prop := ∃ f p l mi d, s.cs = [⟨.fs, [⟨.fs, [perOf f p l]⟩], mi⟩] ∧ x = instOf s.len mi d ∧ DayIn (perOf f p l) (n0I s.len mi wf) mi wt d
def LMem (s : StreamD) (wf wt : Int) (x : InstD) : Prop := ClsIn s wf wt x ∨ (x ∈ s.xs ∧ collB x.fr x.to wf wt = true)

theorem list_ex (s : StreamD) (hs : StreamOK s) (wf : Int) (hw0 : 0 ≤ wf) (hw1 : wf ≤ 100000) :
    ∃ g L, (L.Pairwise InstD.lt ∧ ∀ x, x ∈ L ↔ LMem s wf (wf + 10080) x) ∧ L.length ≤ 12 ∧ Km.Pure tab.get F_x8 [.a (s.row.map .f), .a [.f (fi wf), .f (fi (wf + 10080))]] = Eq (.t [.c (.f (sl g (instRows L))), vi 0]) := by
  have key : ∃ r, (∃ g L, (L.Pairwise InstD.lt ∧ ∀ x, x ∈ L ↔ LMem s wf (wf + 10080) x) ∧ L.length ≤ 12 ∧ r = .t [.c (.f (sl g (instRows L))), vi 0]) ∧ Km.Pure tab.get F_x8 [.a (s.row.map .f), .a [.f (fi wf), .f (fi (wf + 10080))]] r := by
    refine pure_exC T_x8 rfl fun Q hQ => ?_
    have hval := stream_sp s (streamOK_sm hs)
    rw [streamOK_B hs] at hval
    simp [StreamD.row] at hval
    have hF : ∀ x y : InstD, Kf tab.get F_x18 [.a (x.row.map .f), .a (y.row.map .f)] (vi (ordI x y)) := order_kf
    obtain ⟨hcs, hlen1, hlen2, hxl, hxp, hxi⟩ := hs
    obtain ⟨wt, hwt⟩ : ∃ wt, wt = wf + 10080 := ⟨_, rfl⟩
    simp only [← hwt] at hQ ⊢
    -- the end: sort, compact
    have fin : ∀ (t : T) (ds : List ADef) (H : Heap) (c : C) (o : List InstD), t.g 6 = .c (.ptr 2 0 0) → H[2]? = some (.box [c] 0) → LI H c o → o.length ≤ 12 → (ds = [] ∨ ∃ b, ds = [.coll b] ∧ H[b]? = some (.dfr true)) → (∀ x, x ∈ o ↔ LMem s wf wt x) →
        WP tab.get F_x8 none [.code C_x8_61] ⟨t, ds, H⟩ Q := by
      intro t ds H c o g6 h2 hLI hol hds hmem
      rcases hLI with ⟨rfl, rfl⟩ | ⟨hne, b, ep, rfl, hRB⟩
      · obtain ⟨r1, H1, e1, rfl, rfl⟩ := sort_nil (H := H) (F := F_x18)
        obtain ⟨r2, H2, e2, rfl, rfl⟩ := compact_nil (H := H1)
        refine kw_seq (kw_region (.inl rfl) ?_)
        simp [g6, h2, e1.eq]
        refine kw_seq (kw_region (.inl rfl) ?_)
        simp [g6, h2, e2.eq]
        have k2 : (H2.set 2 (.box [.f .nils] 0))[2]? = some (.box [.f .nils] 0) := List.getElem?_set_self (lt_of_get h2)
        refine kw_seq ?_
        refine kw_seq (kw_region (.inl rfl) ?_)
        simp [g6, k2, slLen]
        refine kw_cond_f (by simp) (kw_skip ?_)
        refine kw_seq (kw_region (.inl rfl) ?_)
        simp [g6, k2]
        refine kw_ret (hQ _ _ _ ⟨.nil, [], ⟨by simp, hmem⟩, by simp, rfl⟩ ?_)
        rcases hds with rfl | ⟨b, rfl, hb⟩
        · exact .inl (by simp [sl, instRows, Tg.fc])
        · have hb2 : b ≠ 2 := by rintro rfl; rw [h2] at hb; cases hb
          exact .inr ⟨b, rfl, by rw [List.getElem?_set_ne (Ne.symm hb2)]; exact hb, .t [.c (.f .nils), vi 0], by simp [Km.results, resOne, mapO], by simp [exV, exV1, mapO, sl, instRows, Tg.fc]⟩
      · have hb2 : (2 : Nat) ≠ b := by rintro rfl; unfold RB at hRB; rw [h2] at hRB; cases hRB
        obtain ⟨r1, H1, e1, rfl, f1, l1, q1, q2, q3⟩ := sort_ex hF hol hRB
        have ll := q2.length_eq
        rw [← ll] at e1 h2
        have k2 := f1.get h2 hb2
        obtain ⟨r2, H2, e2, l2, R2, rfl, f2, w1, w2, w3, w4⟩ := compact_ex (by omega) q3 q1
        have k2' := f2.get k2 hb2
        refine kw_seq (kw_region (.inl rfl) ?_)
        simp [g6, h2, e1.eq]
        refine kw_seq (kw_region (.inl rfl) ?_)
        simp [g6, k2, e2.eq, k2']
        have k3 : (H2.set 2 (.box [.sl b 0 l2.length 0 ep 3] 0))[2]? = some (.box [.sl b 0 l2.length 0 ep 3] 0) := List.getElem?_set_self (lt_of_get k2')
        have w1' : RB (H2.set 2 (.box [.sl b 0 l2.length 0 ep 3] 0)) b 3 ep (instRows (l2 ++ R2)) := by
          unfold RB at w1 ⊢
          rw [List.getElem?_set_ne hb2]; exact w1
        refine kw_seq ?_
        refine kw_seq (kw_region (.inl rfl) ?_)
        simp [g6, k3, w1'.len]
        refine kw_cond_f (by simp; omega) (kw_skip ?_)
        refine kw_seq (kw_region (.inl rfl) ?_)
        simp [g6, k3]
        refine kw_ret (hQ _ _ _ ⟨.fs, l2, ⟨w3, fun x => by rw [w4, q2.mem_iff, hmem]⟩, by omega, rfl⟩ ?_)
        rcases hds with rfl | ⟨b', rfl, hb'⟩
        · left
          have := RB_ex (n := 63) w1'
          simp [deep, exV, exV1, mapO, this]
        · have hbb : b' ≠ b := by rintro rfl; unfold RB at hRB; rw [hb'] at hRB; cases hRB
          have hb2' : b' ≠ 2 := by rintro rfl; rw [h2] at hb'; cases hb'
          have d1 := f2.get (f1.get hb' hbb) hbb
          have w1'' : RB ((H2.set 2 (.box [.sl b 0 l2.length 0 ep 3] 0)).set b' (.dfr false)) b 3 ep (instRows (l2 ++ R2)) := by
            unfold RB at w1' ⊢
            rw [List.getElem?_set_ne hbb]; exact w1'
          have := RB_ex (n := 63) w1''
          exact .inr ⟨b', rfl, by rw [List.getElem?_set_ne (Ne.symm hb2')]; exact d1, .t [.c (.sl b 0 l2.length 0 ep 3), vi 0], by simp [Km.results, resOne, mapO], by simp [deep, exV, exV1, mapO, this]⟩
    -- the other instances
    have extras : ∀ (t : T) (ds : List ADef) (H : Heap) (c : C) (o : List InstD), t.g 2 = .c (.ptr 0 0 0) → t.g 3 = .c (.ptr 1 0 0) → t.g 6 = .c (.ptr 2 0 0) → H[0]? = some (.box [C.f (sl s.cg (classRows s.cs)), C.f (fi s.len), C.f (sl s.xg (instRows s.xs))] 0) → H[1]? = some (.box [.f (fi wf), .f (fi wt)] 0) → H[2]? = some (.box [c] 0) → LI H c o → o.length ≤ 8 →
        (ds = [] ∨ ∃ b, ds = [.coll b] ∧ H[b]? = some (.dfr true)) → (∀ x, x ∈ o ↔ ClsIn s wf wt x) → WP tab.get F_x8 none [.code C_x8_43] ⟨t, ds, H⟩ Q := by
      intro t ds H c o g2 g3 g6 h0 h1 h2 hLI hol hds hmem
      refine kw_seq ?_
      refine kw_seq (kw_region (.inl rfl) ?_)
      simp [g2, h0]
      refine kw_for s.xs.length (fun j t H' => t.g 2 = .c (.ptr 0 0 0) ∧ t.g 3 = .c (.ptr 1 0 0) ∧ t.g 6 = .c (.ptr 2 0 0) ∧ t.g 64 = .c (.f (sl s.xg (instRows s.xs))) ∧ H'[1]? = some (.box [.f (fi wf), .f (fi wt)] 0) ∧ (∀ b : Nat, H[b]? = some (Blk.dfr true) → H'[b]? = some (Blk.dfr true)) ∧
        ∃ c o', H'[2]? = some (.box [c] 0) ∧ LI H' c o' ∧ o'.length ≤ 8 + j ∧ ∀ x, x ∈ o' ↔ ClsIn s wf wt x ∨ (x ∈ s.xs.take j ∧ collB x.fr x.to wf wt = true)) (by omega) (by decide) (by decide) (by simp) (by simp)
        ⟨by simp [g2], by simp [g3], by simp [g6], by simp, h1, fun b h => h, c, o, h2, hLI, by omega, by simpa using hmem⟩ ?_ ?_
      · rintro j t H' hj ⟨g2, g3, g6, g64, h1, hkd, c, o', h2, hLI, hol, hmem⟩ ha hb next
        have hrow := fun H : Heap => ld_rowa (H := H) (instRows_grid s.xs) (instRows_at hj)
        have hcoll := coll_sp s.xs[j].fr s.xs[j].to wf wt
        have htk : s.xs.take (j + 1) = s.xs.take j ++ [s.xs[j]] := by rw [List.take_add_one, List.getElem?_eq_getElem hj]; rfl
        simp [InstD.row] at hrow
        refine kw_block ?_
        refine kw_seq (kw_region (.inl rfl) ?_)
        simp [g64, ha, idx_sl, hj, hrow]
        have kN : (H' ++ [Blk.box [.f (fi s.xs[j].day), .f (fi s.xs[j].fr), .f (fi s.xs[j].to)] 0])[H'.length]? = some (.box [.f (fi s.xs[j].day), .f (fi s.xs[j].fr), .f (fi s.xs[j].to)] 0) := by simp
        have k1 : (H' ++ [Blk.box [.f (fi s.xs[j].day), .f (fi s.xs[j].fr), .f (fi s.xs[j].to)] 0])[1]? = some (.box [.f (fi wf), .f (fi wt)] 0) := by rw [List.getElem?_append_left (lt_of_get h1)]; exact h1
        have k2 : (H' ++ [Blk.box [.f (fi s.xs[j].day), .f (fi s.xs[j].fr), .f (fi s.xs[j].to)] 0])[2]? = some (.box [c] 0) := by rw [List.getElem?_append_left (lt_of_get h2)]; exact h2
        have kL := hLI.push [Blk.box [.f (fi s.xs[j].day), .f (fi s.xs[j].fr), .f (fi s.xs[j].to)] 0]
        have kd : ∀ b : Nat, H[b]? = some (Blk.dfr true) → (H' ++ [Blk.box [.f (fi s.xs[j].day), .f (fi s.xs[j].fr), .f (fi s.xs[j].to)] 0])[b]? = some (.dfr true) := fun b hb' => by
          have := hkd b hb'
          rw [List.getElem?_append_left (lt_of_get this)]; exact this
        generalize hHA : H' ++ [Blk.box [.f (fi s.xs[j].day), .f (fi s.xs[j].fr), .f (fi s.xs[j].to)] 0] = HA at kN k1 k2 kL kd ⊢
        refine kw_seq (kw_region (.inl rfl) ?_)
        simp [g3, kN, k1, hcoll]
        cases hc : collB s.xs[j].fr s.xs[j].to wf wt
        · refine kw_cond_f (by simp) (kw_skip (kw_inBlock (next _ _ ?_ (by simp [ha]) (by simp [hb]))))
          refine ⟨by simp [g2], by simp [g3], by simp [g6], by simp [g64], k1, kd, c, o', k2, kL, by omega, fun x => ?_⟩
          rw [hmem, htk, List.mem_append, List.mem_singleton]
          refine ⟨fun h => h.elim .inl fun h => .inr ⟨.inl h.1, h.2⟩, fun h => h.elim .inl fun h => ?_⟩
          rcases h.1 with h' | rfl
          · exact .inr ⟨h', h.2⟩
          · rw [hc] at h; cases h.2
        · obtain ⟨c', H2, e1, e2, e3, e4⟩ := (kL.push [.box [.f (fi s.xs[j].day), .f (fi s.xs[j].fr), .f (fi s.xs[j].to)] 0]).app (by omega) (b1 := HA.length) (fl := 0) (x := s.xs[j]) (by simp [InstD.row])
          have p1 := e4 _ _ (show (HA ++ [Blk.box [.f (fi s.xs[j].day), .f (fi s.xs[j].fr), .f (fi s.xs[j].to)] 0])[1]? = _ by rw [List.getElem?_append_left (lt_of_get k1)]; exact k1) rfl
          have p2 := e4 _ _ (show (HA ++ [Blk.box [.f (fi s.xs[j].day), .f (fi s.xs[j].fr), .f (fi s.xs[j].to)] 0])[2]? = _ by rw [List.getElem?_append_left (lt_of_get k2)]; exact k2) rfl
          refine kw_cond_t (by simp) ?_
          refine kw_region (.inl rfl) ?_
          simp [g6, kN, k2, e1, p2]
          refine kw_inBlock (next _ _ ?_ (by simp [ha]) (by simp [hb]))
          refine ⟨by simp [g2], by simp [g3], by simp [g6], by simp [g64], by rw [List.getElem?_set_ne (by decide)]; exact p1, fun b hb' => ?_, c', o' ++ [s.xs[j]], List.getElem?_set_self (lt_of_get p2), e2.set p2 rfl _, by simp; omega, fun x => ?_⟩
          · have q := kd b hb'
            have hb2 : (2 : Nat) ≠ b := by rintro rfl; rw [k2] at q; cases q
            rw [List.getElem?_set_ne hb2]
            exact e4 _ _ (by rw [List.getElem?_append_left (lt_of_get q)]; exact q) rfl
          · rw [List.mem_append, List.mem_singleton, hmem, htk, List.mem_append, List.mem_singleton]
            constructor
            · rintro ((h | h) | rfl)
              · exact .inl h
              · exact .inr ⟨.inl h.1, h.2⟩
              · exact .inr ⟨.inr rfl, hc⟩
            · rintro (h | ⟨h | h, h'⟩)
              · exact .inl (.inl h)
              · exact .inl (.inr ⟨h, h'⟩)
              · exact .inr h
      · rintro t H' ⟨g2, g3, g6, g64, h1, hkd, c, o', h2, hLI, hol, hmem⟩ - -
        rw [List.take_length] at hmem
        refine fin _ ds H' c o' (by simp [g6]) h2 hLI (by omega) ?_ fun x => hmem x
        rcases hds with h | ⟨b, h, hb⟩
        · exact .inl h
        · exact .inr ⟨b, h, hkd b hb⟩
    -- the classes
    have classes : ∀ t : T, t.g 2 = .c (.ptr 0 0 0) → t.g 3 = .c (.ptr 1 0 0) → t.g 6 = .c (.ptr 2 0 0) → WP tab.get F_x8 none [.code C_x8_22] ⟨t, [], [.box [C.f (sl s.cg (classRows s.cs)), C.f (fi s.len), C.f (sl s.xg (instRows s.xs))] 0, .box [.f (fi wf), .f (fi wt)] 0, .box [.f .nils] 0]⟩ Q := by
      intro t g2 g3 g6
      refine kw_seq ?_
      refine kw_seq (kw_region (.inl rfl) ?_)
      simp [g2]
      refine kw_block ?_
      rcases hcs with e | ⟨f, p, l, mi, e, f0, f1, p0, p1, ln, lo, m0, m1⟩
      · refine kw_loop (fun _ st => st = ⟨_, [], _⟩) 0 rfl ?_
        rintro _ st rfl -
        refine kw_seq (kw_region (.inl rfl) ?_)
        simp [e]
        refine kw_seq (kw_cond_f (by simp) ?_)
        refine kw_exit (k' := [.code C_x8_43]) rfl ?_
        refine extras _ [] _ (.f .nils) [] (by simp [g2]) (by simp [g3]) (by simp [g6]) (by simp [e]) rfl rfl (.inl ⟨rfl, rfl⟩) (by simp) (.inl rfl) fun x => ?_
        refine ⟨fun h => by simp at h, fun ⟨f, p, l, mi, d, e', _⟩ => ?_⟩
        rw [e] at e'; cases e'
      have hfew := few_of f0 f1 p0 p1 ln lo
      have hrow := fun H : Heap => ld_rowa (H := H) (classRows_grid s.cs) (classRows_at (l := s.cs) (j := 0) (by rw [e]; simp))
      have hidx := fun H : Heap => idx_sl (H := H) (g := s.cg) (rows := classRows s.cs) (sz := 2) (k := .i64) (i := 0) (by omega) (by rw [e]; simp)
      have hc0 : s.cs[0]'(by rw [e]; simp) = ⟨.fs, [⟨.fs, [perOf f p l]⟩], mi⟩ := by simp [e]
      have hcl : s.cs.length = 1 := by rw [e]; rfl
      rw [hc0] at hrow
      simp [ClassD.row] at hrow hidx
      have hdays := days_sp (sl s.cg (classRows s.cs)) (sl s.xg (instRows s.xs)) (sl .fs (termRows [⟨.fs, [perOf f p l]⟩])) s.len mi wf wt
      have hinst := fun d (h : Near d) => einst_sp (sl s.cg (classRows s.cs)) (sl s.xg (instRows s.xs)) (sl .fs (termRows [⟨.fs, [perOf f p l]⟩])) s.len mi d (by unfold Near; omega) (by unfold Near; omega) h
      -- behind the one class
      have behind : ∀ (t : T) (H : Heap) (c : C) (ds : List Int), t.g 2 = .c (.ptr 0 0 0) → t.g 3 = .c (.ptr 1 0 0) → t.g 6 = .c (.ptr 2 0 0) → t.g 45 = vi 1 → t.g 46 = vi 1 → H[0]? = some (.box [C.f (sl s.cg (classRows s.cs)), C.f (fi s.len), C.f (sl s.xg (instRows s.xs))] 0) → H[1]? = some (.box [.f (fi wf), .f (fi wt)] 0) → H[2]? = some (.box [c] 0) →
          H[4]? = some (.dfr true) → LI H c (ds.map (instOf s.len mi)) → ds.Pairwise (· < ·) → (∀ d, d ∈ ds ↔ DayIn (perOf f p l) (n0I s.len mi wf) mi wt d) → WP tab.get F_x8 none [.code C_x8_27, .inLoop C_x8_27, .inBlock 0, .code C_x8_43] ⟨t, [.coll 4], H⟩ Q := by
        intro t H c ds g2 g3 g6 g45 g46 h0 h1 h2 h4 hLI hpw hmem
        refine kw_seq (kw_region (.inl rfl) ?_)
        simp [g45, g46]
        refine kw_seq (kw_cond_f (by simp) ?_)
        refine kw_exit (k' := [.code C_x8_43]) rfl ?_
        have hdl := inc_len ds (n0I s.len mi wf) 8 hpw fun d hd => by
          obtain ⟨a1, a2, a3, a4⟩ := (hmem d).1 hd
          refine ⟨a1, ?_⟩
          unfold n0I
          omega
        refine extras _ _ H c _ (by simp [g2]) (by simp [g3]) (by simp [g6]) h0 h1 h2 hLI (by simp; omega) (.inr ⟨4, rfl, h4⟩) fun x => ?_
        rw [List.mem_map]
        constructor
        · rintro ⟨d, hd, rfl⟩
          exact ⟨f, p, l, mi, d, e, rfl, (hmem d).1 hd⟩
        · rintro ⟨f', p', l', mi', d, e', rfl, hd⟩
          rw [e] at e'
          simp [perOf] at e'
          obtain ⟨⟨rfl, rfl, rfl⟩, rfl⟩ := e'
          exact ⟨d, (hmem d).2 hd, rfl⟩
      -- the range over the days
      have range : ∀ (t : T), t.g 2 = .c (.ptr 0 0 0) → t.g 3 = .c (.ptr 1 0 0) → t.g 6 = .c (.ptr 2 0 0) → t.g 8 = .c (.ptr 3 0 0) → t.g 45 = vi 1 → t.g 46 = vi 0 →
          t.g 53 = .c (.f (.fn F_x14 [.fp [fi wf, fi wt] 0, .fp [sl s.cg (classRows s.cs), fi s.len, sl s.xg (instRows s.xs)] 0, .fp [sl .fs (termRows [⟨.fs, [perOf f p l]⟩]), fi mi] 0])) →
          (∀ (t' : T) (H : Heap) (c : C) (ds : List Int), t'.g 2 = .c (.ptr 0 0 0) → t'.g 3 = .c (.ptr 1 0 0) → t'.g 6 = .c (.ptr 2 0 0) → t'.g 45 = vi 1 → t'.g 46 = vi 1 → H[0]? = some (.box [C.f (sl s.cg (classRows s.cs)), C.f (fi s.len), C.f (sl s.xg (instRows s.xs))] 0) → H[1]? = some (.box [.f (fi wf), .f (fi wt)] 0) → H[2]? = some (.box [c] 0) →
            H[4]? = some (.dfr true) → LI H c (ds.map (instOf s.len mi)) → ds.Pairwise (· < ·) → (∀ d, d ∈ ds ↔ DayIn (perOf f p l) (n0I s.len mi wf) mi wt d) → WP tab.get F_x8 none [.inLoop C_x8_27, .inBlock 0, .code C_x8_43] ⟨t', [.coll 4], H⟩ Q) →
          WP tab.get F_x8 none [.code C_x8_38, .inBlock 2, .inBlock 1, .code C_x8_42, .inLoop C_x8_27, .inBlock 0, .code C_x8_43] ⟨t, [], [.box [C.f (sl s.cg (classRows s.cs)), C.f (fi s.len), C.f (sl s.xg (instRows s.xs))] 0, .box [.f (fi wf), .f (fi wt)] 0, .box [.f .nils] 0, .box [.f (sl .fs (termRows [⟨.fs, [perOf f p l]⟩])), .f (fi mi)] 0]⟩ Q := by
        intro t g2 g3 g6 g8 g45 g46 g53 next
        obtain ⟨PP, hPP⟩ : ∃ PP : List Int → Heap → Prop, PP = fun ds H => H[0]? = some (.box [C.f (sl s.cg (classRows s.cs)), C.f (fi s.len), C.f (sl s.xg (instRows s.xs))] 0) ∧ H[1]? = some (.box [.f (fi wf), .f (fi wt)] 0) ∧ (∃ c, H[2]? = some (.box [c] 0) ∧ LI H c (ds.map (instOf s.len mi))) ∧
          H[3]? = some (.box [.f (sl .fs (termRows [⟨.fs, [perOf f p l]⟩])), .f (fi mi)] 0) ∧ H[4]? = some (.dfr true) ∧ H[5]? = some (.lp F_x8 t [P.nat 54] C_x8_39 C_x8_40 .ready none 4) := ⟨_, rfl⟩
        obtain ⟨r, H', he, rfl, ds, hp, hpw, hmem⟩ := days_ex (b := 5) (H := [.box [C.f (sl s.cg (classRows s.cs)), C.f (fi s.len), C.f (sl s.xg (instRows s.xs))] 0, .box [.f (fi wf), .f (fi wt)] 0, .box [.f .nils] 0, .box [.f (sl .fs (termRows [⟨.fs, [perOf f p l]⟩])), .f (fi mi)] 0, .dfr true, .lp F_x8 t [P.nat 54] C_x8_39 C_x8_40 .ready none 4])
          (PP := PP) .fs ⟨.fs, [perOf f p l]⟩ (perOf f p l) rfl hfew (sl s.cg (classRows s.cs)) (sl s.xg (instRows s.xs)) s.len mi wf wt (by omega) (by omega) (by omega) (by omega) (by omega) (by omega) (by omega) (n0I s.len mi wf) rfl
          (by rw [hPP]; exact ⟨rfl, rfl, ⟨.f .nils, rfl, .inl ⟨rfl, rfl⟩⟩, rfl, rfl, rfl⟩) (by
            intro ds d H hp hd0 hd1 hdl
            rw [hPP] at hp
            obtain ⟨h0, h1, ⟨c, h2, hLI⟩, h3, h4, h5⟩ := hp
            have hin := hinst d (by unfold Near; omega)
            simp [instOf, InstD.row] at hin
            obtain ⟨r, H', e1, rfl, e2⟩ := ev_yield_ex (tab := tab.get) (b := 5) (args := [vi d]) (H := H) (C := fun r H' => r = vb true ∧ PP (ds ++ [d]) H') h5 rfl fun Q' hQ' => by
              refine kw_region (.inr rfl) ?_
              simp
              refine kw_begR h5 ?_
              have b0 : (H.set 5 (.lp F_x8 t [P.nat 54] C_x8_39 C_x8_40 .busy none 4))[0]? = some (.box [C.f (sl s.cg (classRows s.cs)), C.f (fi s.len), C.f (sl s.xg (instRows s.xs))] 0) := by rw [List.getElem?_set_ne (by decide)]; exact h0
              have b1 : (H.set 5 (.lp F_x8 t [P.nat 54] C_x8_39 C_x8_40 .busy none 4))[1]? = some (.box [.f (fi wf), .f (fi wt)] 0) := by rw [List.getElem?_set_ne (by decide)]; exact h1
              have b2 : (H.set 5 (.lp F_x8 t [P.nat 54] C_x8_39 C_x8_40 .busy none 4))[2]? = some (.box [c] 0) := by rw [List.getElem?_set_ne (by decide)]; exact h2
              have b3 : (H.set 5 (.lp F_x8 t [P.nat 54] C_x8_39 C_x8_40 .busy none 4))[3]? = some (.box [.f (sl .fs (termRows [⟨.fs, [perOf f p l]⟩])), .f (fi mi)] 0) := by rw [List.getElem?_set_ne (by decide)]; exact h3
              have b4 : (H.set 5 (.lp F_x8 t [P.nat 54] C_x8_39 C_x8_40 .busy none 4))[4]? = some (.dfr true) := by rw [List.getElem?_set_ne (by decide)]; exact h4
              have b5 : (H.set 5 (.lp F_x8 t [P.nat 54] C_x8_39 C_x8_40 .busy none 4))[5]? = some (.lp F_x8 t [P.nat 54] C_x8_39 C_x8_40 .busy none 4) := List.getElem?_set_self (lt_of_get h5)
              have bL := hLI.set h5 rfl (.lp F_x8 t [P.nat 54] C_x8_39 C_x8_40 .busy none 4)
              generalize H.set 5 (.lp F_x8 t [P.nat 54] C_x8_39 C_x8_40 .busy none 4) = HB at b0 b1 b2 b3 b4 b5 bL ⊢
              obtain ⟨c', H2, a1, a2, a3, a4⟩ := (bL.push [.box [.f (fi d), .f (fi (d * 1440 + mi)), .f (fi (d * 1440 + mi + s.len))] 0]).app (by simp; omega) (b1 := HB.length) (fl := 0) (x := instOf s.len mi d) (by simp [InstD.row, instOf])
              have up : ∀ (i : Nat) y, HB[i]? = some y → notOpn y = true → H2[i]? = some y := fun i y hy hn => a4 i y (by rw [List.getElem?_append_left (lt_of_get hy)]; exact hy) hn
              have p2 := up _ _ b2 rfl
              refine kw_block ?_
              refine kw_region (.inr rfl) ?_
              simp [g2, g6, g8, b0, b2, b3, hin, a1, p2]
              refine kw_inBlock (kw_nil (hQ' _ _ _ _ _ _ _ _ _ _ rfl (show (H2.set 2 _)[5]? = some _ by rw [List.getElem?_set_ne (by decide)]; exact up _ _ b5 rfl) ?_))
              refine ⟨rfl, ?_⟩
              rw [hPP]
              have s5 : (H2.set 2 (.box [c'] 0))[5]? = some (.lp F_x8 t [P.nat 54] C_x8_39 C_x8_40 .busy none 4) := by rw [List.getElem?_set_ne (by decide)]; exact up _ _ b5 rfl
              refine ⟨?_, ?_, ⟨c', ?_, ?_⟩, ?_, ?_, ?_⟩
              · rw [List.getElem?_set_ne (by decide), List.getElem?_set_ne (by decide)]; exact up _ _ b0 rfl
              · rw [List.getElem?_set_ne (by decide), List.getElem?_set_ne (by decide)]; exact up _ _ b1 rfl
              · rw [List.getElem?_set_ne (by decide)]; exact List.getElem?_set_self (lt_of_get p2)
              · rw [List.map_append]
                exact (a2.set p2 rfl _).set s5 rfl _
              · rw [List.getElem?_set_ne (by decide), List.getElem?_set_ne (by decide)]; exact up _ _ b3 rfl
              · rw [List.getElem?_set_ne (by decide), List.getElem?_set_ne (by decide)]; exact up _ _ b4 rfl
              · exact List.getElem?_set_self (lt_of_get s5)
            exact ⟨H', e1, e2⟩)
        rw [hPP] at hp
        obtain ⟨h0, h1, ⟨c, h2, hLI⟩, h3, h4, h5⟩ := hp
        refine kw_rangeF (g := F_x14) (by rw [R_ev, g53]; simp [calleeV]) he ?_
        refine kw_endRF h5 (by decide) ?_
        refine kw_inBlock (kw_inBlock (kw_region (.inl rfl) ?_))
        simp [g46, wrap64 (n := 1) (by omega) (by omega)]
        refine next _ _ c ds (by simp [g2]) (by simp [g3]) (by simp [g6]) (by simp [g45]) (by simp) ?_ ?_ ?_ ?_ (hLI.set h5 rfl _) hpw hmem
        · rw [List.getElem?_set_ne (by decide)]; exact h0
        · rw [List.getElem?_set_ne (by decide)]; exact h1
        · rw [List.getElem?_set_ne (by decide)]; exact h2
        · rw [List.getElem?_set_ne (by decide)]; exact h4
      refine kw_loop (fun n st => (n = 1 ∧ ∃ t, st = ⟨t, [], [.box [C.f (sl s.cg (classRows s.cs)), C.f (fi s.len), C.f (sl s.xg (instRows s.xs))] 0, .box [.f (fi wf), .f (fi wt)] 0, .box [.f .nils] 0]⟩ ∧ t.g 2 = .c (.ptr 0 0 0) ∧ t.g 3 = .c (.ptr 1 0 0) ∧ t.g 6 = .c (.ptr 2 0 0) ∧ t.g 44 = .c (.f (sl s.cg (classRows s.cs))) ∧ t.g 45 = vi 1 ∧ t.g 46 = vi 0) ∨
        (n = 0 ∧ ∃ (t : T) (H : Heap) (c : C) (ds : List Int), st = ⟨t, [.coll 4], H⟩ ∧ t.g 2 = .c (.ptr 0 0 0) ∧ t.g 3 = .c (.ptr 1 0 0) ∧ t.g 6 = .c (.ptr 2 0 0) ∧ t.g 45 = vi 1 ∧ t.g 46 = vi 1 ∧ H[0]? = some (.box [C.f (sl s.cg (classRows s.cs)), C.f (fi s.len), C.f (sl s.xg (instRows s.xs))] 0) ∧ H[1]? = some (.box [.f (fi wf), .f (fi wt)] 0) ∧ H[2]? = some (.box [c] 0) ∧
          H[4]? = some (.dfr true) ∧ LI H c (ds.map (instOf s.len mi)) ∧ ds.Pairwise (· < ·) ∧ (∀ d, d ∈ ds ↔ DayIn (perOf f p l) (n0I s.len mi wf) mi wt d))) 1 (.inl ⟨rfl, _, rfl, by simp [g2], by simp [g3], by simp [g6], by simp, by simp [hcl], by simp⟩) ?_
      rintro n st (⟨rfl, t, rfl, g2, g3, g6, g44, g45, g46⟩ | ⟨rfl, t, H, c, ds, rfl, g2, g3, g6, g45, g46, h0, h1, h2, h4, hLI, hpw, hmem⟩) ih
      case inr => exact behind t H c ds g2 g3 g6 g45 g46 h0 h1 h2 h4 hLI hpw hmem
      refine kw_seq (kw_region (.inl rfl) ?_)
      simp [g45, g46]
      refine kw_seq (kw_cond_t (by simp) (kw_skip ?_))
      refine kw_seq ?_
      refine kw_block ?_
      refine kw_seq (kw_region (.inl rfl) ?_)
      simp [g44, g46, hidx, hrow]
      refine kw_seq (kw_region (.inl rfl) ?_)
      simp [g2, g3, hdays]
      refine kw_block ?_
      exact range _ (by simp [g2]) (by simp [g3]) (by simp [g6]) (by simp) (by simp [g45]) (by simp [g46]) (by simp) fun t' H c ds q2 q3 q6 q45 q46 h0 h1 h2 h4 hLI hpw hmem =>
        ih 0 _ (by omega) (.inr ⟨rfl, t', H, c, ds, rfl, q2, q3, q6, q45, q46, h0, h1, h2, h4, hLI, hpw, hmem⟩)
    refine kw_seq (kw_region (.inl rfl) ?_)
    simp [StreamD.row]
    refine kw_seq ?_
    refine kw_seq (kw_region (.inl rfl) ?_)
    simp [hval, show ¬ wf < -2251799813685248 by omega, show ¬ 2251799813685248 < wt by omega, show ¬ wt < wf by omega]
    refine kw_cond_f (by simp) (kw_skip ?_)
    refine kw_seq ?_
    refine kw_seq (kw_region (.inl rfl) ?_)
    simp [wrap64 (n := wt - wf) (by omega) (by omega), show ¬ 5760000 < wt - wf by omega]
    refine kw_cond_f (by simp) (kw_skip ?_)
    refine kw_seq (kw_region (.inl rfl) ?_)
    simp
    refine kw_seq ?_
    refine kw_seq (kw_region (.inl rfl) ?_)
    simp [show ¬ wf = wt by omega]
    refine kw_cond_f (by simp) (kw_skip ?_)
    exact classes _ (by simp) (by simp) (by simp)
  obtain ⟨r, ⟨g, L, h1, h2, rfl⟩, h⟩ := key
  exact ⟨g, L, h1, h2, Km.Pure.eq h⟩
end Go.Proofs.YthjpdnjmppbokaaGreat
end

section
namespace Go.Proofs.YthjpdnjmppbokaaGreat
open Go Km

/-! ### Minutes -/
def sumM : List InstD → Int
  | [] => 0
  | x :: r => x.to - x.fr + sumM r
theorem sumM_app (a b : List InstD) : sumM (a ++ b) = sumM a + sumM b := by
  induction a with
  | nil => simp [sumM]
  | cons x a ih => simp only [List.cons_append, sumM, ih]; omega
theorem minutes_sp (g : Tg) (L : List InstD) (hl : L.length ≤ 1000) (hb : ∀ x ∈ L, 0 ≤ x.fr ∧ x.fr ≤ x.to ∧ x.to ≤ 1000000) : Km.Pure tab.get F_x151 [.c (.f (sl g (instRows L)))] = Eq (vi (sumM L)) := Kf.eq (by
  refine kf_fn T_x151 rfl fun H Q hQ => ?_
  refine kw_seq (kw_region (.inl rfl) ?_)
  simp
  refine kw_seq (kw_region (.inl rfl) ?_)
  simp
  refine kw_seq ?_
  refine kw_seq (kw_region (.inl rfl) ?_)
  simp
  refine kw_for L.length (fun j t H' => (∃ J, H' = H ++ J) ∧ t.g 6 = .c (.f (sl g (instRows L))) ∧ t.g 3 = vi (sumM (L.take j)) ∧ 0 ≤ sumM (L.take j) ∧ sumM (L.take j) ≤ j * 1000000) (by omega) (by decide) (by decide) (by simp) (by simp) ⟨⟨[], by simp⟩, by simp, by simp [sumM], by simp [sumM], by simp [sumM]⟩ ?_ ?_
  · rintro j t _ hj ⟨⟨J, rfl⟩, g6, g3, s0, s1⟩ ha hb' next
    have hrow := fun H : Heap => ld_rowa (H := H) (instRows_grid L) (instRows_at hj)
    have htk : L.take (j + 1) = L.take j ++ [L[j]] := by rw [List.take_add_one, List.getElem?_eq_getElem hj]; rfl
    have hs : sumM (L.take (j + 1)) = sumM (L.take j) + (L[j].to - L[j].fr) := by rw [htk, sumM_app]; simp [sumM]
    obtain ⟨b1, b2, b3⟩ := hb L[j] (List.getElem_mem hj)
    simp [InstD.row] at hrow
    refine kw_block ?_
    refine kw_seq (kw_region (.inl rfl) ?_)
    simp [g6, ha, idx_sl, hj, hrow]
    refine kw_region (.inl rfl) ?_
    simp [g3, wrap64 (n := L[j].to - L[j].fr) (by omega) (by omega), wrap64 (n := sumM (L.take j) + (L[j].to - L[j].fr)) (by omega) (by omega)]
    refine kw_inBlock (next _ _ ?_ (by simp [ha]) (by simp [hb']))
    exact ⟨⟨_, rfl⟩, by simp [g6], by simp [hs], by omega, by rw [hs]; omega⟩
  · rintro t _ ⟨⟨J, rfl⟩, g6, g3, s0, s1⟩ - -
    rw [List.take_length] at g3
    refine kw_seq (kw_region (.inl rfl) ?_)
    simp [g3]
    refine kw_ret (hQ _ _ ?_)
    simp)

/-! ### room.begins -/
def fstI (q mi : Int) : Int := (q * 10080 - mi + 1440 - 1) / 1440
def BCls (s : StreamD) (q : Int) (x : InstD) : Prop := ∃ f p l mi d, s.cs = [⟨.fs, [⟨.fs, [perOf f p l]⟩], mi⟩] ∧ x = instOf s.len mi d ∧ max (fstI q mi) 0 ≤ d ∧ d < fstI q mi + 7 ∧ memB (perOf f p l) d = true
def BMem (s : StreamD) (q : Int) (x : InstD) : Prop := BCls s q x ∨ (x ∈ s.xs ∧ x.fr / 10080 = q)

theorem begins_ex (s : StreamD) (hs : StreamOK s) (q : Int) (hq0 : 0 ≤ q) (hq1 : q ≤ 9) :
    ∃ g L, (L.Pairwise InstD.lt ∧ ∀ x, x ∈ L ↔ BMem s q x) ∧ L.length ≤ 10 ∧ Km.Pure tab.get F_x134 [.a (s.row.map .f), vi q] = Eq (.c (.f (sl g (instRows L)))) := by
  have key : ∃ r, (∃ g L, (L.Pairwise InstD.lt ∧ ∀ x, x ∈ L ↔ BMem s q x) ∧ L.length ≤ 10 ∧ r = .c (.f (sl g (instRows L)))) ∧ Km.Pure tab.get F_x134 [.a (s.row.map .f), vi q] r := by
    refine pure_ex T_x134 rfl fun Q hQ => ?_
    have hF : ∀ x y : InstD, Kf tab.get F_x153 [.a (x.row.map .f), .a (y.row.map .f)] (vi (ordI x y)) := rorder_kf
    obtain ⟨hcs, hlen1, hlen2, hxl, hxp, hxi⟩ := hs
    -- the end: sort, compact
    have fin : ∀ (t : T) (H : Heap) (c : C) (o : List InstD), t.g 5 = .c c → LI H c o → o.length ≤ 10 → (∀ x, x ∈ o ↔ BMem s q x) → WP tab.get F_x134 none [.code C_x134_53] ⟨t, [], H⟩ Q := by
      intro t H c o g5 hLI hol hmem
      rcases hLI with ⟨rfl, rfl⟩ | ⟨hne, b, ep, rfl, hRB⟩
      · obtain ⟨r1, H1, e1, rfl, rfl⟩ := sort_nil (H := H) (F := F_x153)
        obtain ⟨r2, H2, e2, rfl, rfl⟩ := compact_nil (H := H1)
        refine kw_seq (kw_region (.inl rfl) ?_)
        simp [g5, e1.eq]
        refine kw_seq (kw_region (.inl rfl) ?_)
        simp [g5, e2.eq]
        refine kw_ret (hQ _ _ _ ⟨.nil, [], ⟨by simp, hmem⟩, by simp, rfl⟩ ?_)
        simp [sl, instRows, Tg.fc]
      · obtain ⟨r1, H1, e1, rfl, f1, l1, q1, q2, q3⟩ := sort_ex hF (by omega) hRB
        have ll := q2.length_eq
        rw [← ll] at e1 g5
        obtain ⟨r2, H2, e2, l2, R2, rfl, f2, w1, w2, w3, w4⟩ := compact_ex (by omega) q3 q1
        refine kw_seq (kw_region (.inl rfl) ?_)
        simp [g5, e1.eq]
        refine kw_seq (kw_region (.inl rfl) ?_)
        simp [g5, e2.eq]
        refine kw_ret (hQ _ _ _ ⟨.fs, l2, ⟨w3, fun x => by rw [w4, q2.mem_iff, hmem]⟩, by omega, rfl⟩ ?_)
        have := RB_ex (n := 63) w1
        simp [deep, this]
    -- the other instances
    have extras : ∀ (t : T) (H : Heap) (c : C) (o : List InstD), t.g 1 = vi q → t.g 2 = .c (.ptr 0 0 0) → t.g 5 = .c c → H[0]? = some (.box [C.f (sl s.cg (classRows s.cs)), C.f (fi s.len), C.f (sl s.xg (instRows s.xs))] 0) → LI H c o → o.length ≤ 7 → (∀ x, x ∈ o ↔ BCls s q x) →
        WP tab.get F_x134 none [.code C_x134_35] ⟨t, [], H⟩ Q := by
      intro t H c o g1 g2 g5 h0 hLI hol hmem
      refine kw_seq ?_
      refine kw_seq (kw_region (.inl rfl) ?_)
      simp [g2, h0]
      refine kw_for s.xs.length (fun j t H' => t.g 1 = vi q ∧ t.g 52 = .c (.f (sl s.xg (instRows s.xs))) ∧ ∃ c o', t.g 5 = .c c ∧ LI H' c o' ∧ o'.length ≤ 7 + j ∧ ∀ x, x ∈ o' ↔ BCls s q x ∨ (x ∈ s.xs.take j ∧ x.fr / 10080 = q)) (by omega) (by decide) (by decide) (by simp) (by simp)
        ⟨by simp [g1], by simp, c, o, by simp [g5], hLI, by omega, by simpa using hmem⟩ ?_ ?_
      · rintro j t H' hj ⟨g1, g52, c, o', g5, hLI, hol, hmem⟩ ha hb next
        have hrow := fun H : Heap => ld_rowa (H := H) (instRows_grid s.xs) (instRows_at hj)
        obtain ⟨i1, i2, i3, i4, i5⟩ := hxi s.xs[j] (List.getElem_mem hj)
        have hwk := week_sp s.xs[j].fr (by omega) (by omega)
        have htk : s.xs.take (j + 1) = s.xs.take j ++ [s.xs[j]] := by rw [List.take_add_one, List.getElem?_eq_getElem hj]; rfl
        simp [InstD.row] at hrow
        refine kw_block ?_
        refine kw_seq (kw_region (.inl rfl) ?_)
        simp [g52, ha, idx_sl, hj, hrow]
        have kN : (H' ++ [Blk.box [.f (fi s.xs[j].day), .f (fi s.xs[j].fr), .f (fi s.xs[j].to)] 0])[H'.length]? = some (.box [.f (fi s.xs[j].day), .f (fi s.xs[j].fr), .f (fi s.xs[j].to)] 0) := by simp
        have kL := hLI.push [Blk.box [.f (fi s.xs[j].day), .f (fi s.xs[j].fr), .f (fi s.xs[j].to)] 0]
        generalize hHA : H' ++ [Blk.box [.f (fi s.xs[j].day), .f (fi s.xs[j].fr), .f (fi s.xs[j].to)] 0] = HA at kN kL ⊢
        refine kw_seq (kw_region (.inl rfl) ?_)
        simp [g1, kN, hwk]
        by_cases hc : s.xs[j].fr / 10080 = q
        · obtain ⟨c', H2, e1, e2, e3, e4⟩ := (kL.push [.box [.f (fi s.xs[j].day), .f (fi s.xs[j].fr), .f (fi s.xs[j].to)] 0]).app (by omega) (b1 := HA.length) (fl := 0) (x := s.xs[j]) (by simp [InstD.row])
          refine kw_cond_t (by simp [hc]) ?_
          refine kw_region (.inl rfl) ?_
          simp [g5, kN, e1]
          refine kw_inBlock (next _ _ ?_ (by simp [ha]) (by simp [hb]))
          refine ⟨by simp [g1], by simp [g52], c', o' ++ [s.xs[j]], by simp, e2, by simp; omega, fun x => ?_⟩
          rw [List.mem_append, List.mem_singleton, hmem, htk, List.mem_append, List.mem_singleton]
          constructor
          · rintro ((h | h) | rfl)
            · exact .inl h
            · exact .inr ⟨.inl h.1, h.2⟩
            · exact .inr ⟨.inr rfl, hc⟩
          · rintro (h | ⟨h | h, h'⟩)
            · exact .inl (.inl h)
            · exact .inl (.inr ⟨h, h'⟩)
            · exact .inr h
        · refine kw_cond_f (by simp [hc]) (kw_skip (kw_inBlock (next _ _ ?_ (by simp [ha]) (by simp [hb]))))
          refine ⟨by simp [g1], by simp [g52], c, o', by simp [g5], kL, by omega, fun x => ?_⟩
          rw [hmem, htk, List.mem_append, List.mem_singleton]
          refine ⟨fun h => h.elim .inl fun h => .inr ⟨.inl h.1, h.2⟩, fun h => h.elim .inl fun h => ?_⟩
          rcases h.1 with h' | rfl
          · exact .inr ⟨h', h.2⟩
          · exact absurd h.2 hc
      · rintro t H' ⟨g1, g52, c, o', g5, hLI, hol, hmem⟩ - -
        rw [List.take_length] at hmem
        exact fin _ H' c o' (by simp [g5]) hLI (by omega) fun x => hmem x
    refine kw_seq (kw_region (.inl rfl) ?_)
    simp [StreamD.row]
    refine kw_seq (kw_region (.inl rfl) ?_)
    simp
    refine kw_seq ?_
    refine kw_seq (kw_region (.inl rfl) ?_)
    simp
    have hcl : s.cs.length ≤ 1 := by rcases hcs with e | ⟨f, p, l, mi, e, _⟩ <;> rw [e] <;> simp
    refine kw_for s.cs.length (fun j t H' => t.g 1 = vi q ∧ t.g 2 = .c (.ptr 0 0 0) ∧ t.g 14 = .c (.f (sl s.cg (classRows s.cs))) ∧ H'[0]? = some (.box [C.f (sl s.cg (classRows s.cs)), C.f (fi s.len), C.f (sl s.xg (instRows s.xs))] 0) ∧ ∃ c o, t.g 5 = .c c ∧ LI H' c o ∧ o.length ≤ 7 ∧ (j = 0 → o = [] ∧ c = .f .nils) ∧ (j = 1 → ∀ x, x ∈ o ↔ BCls s q x)) (by omega) (by decide) (by decide) (by simp) (by simp)
      ⟨by simp, by simp, by simp, by simp, .f .nils, [], by simp, .inl ⟨rfl, rfl⟩, by simp, by simp, by omega⟩ ?_ ?_
    · rintro j t H' hj ⟨g1, g2, g14, h0, c, o, g5, hLI, hol, hj0, -⟩ ha hb next
      have hj' : j = 0 := by omega
      subst hj'
      obtain ⟨rfl, rfl⟩ := hj0 rfl
      simp at ha
      rcases hcs with e | ⟨f, p, l, mi, e, f0, f1, p0, p1, ln, lo, m0, m1⟩
      · rw [e] at hj; simp at hj
      have hfew := few_of f0 f1 p0 p1 ln lo
      have hrow := fun H : Heap => ld_rowa (H := H) (classRows_grid s.cs) (classRows_at (l := s.cs) (j := 0) (by rw [e]; simp))
      have hidx := fun H : Heap => idx_sl (H := H) (g := s.cg) (rows := classRows s.cs) (sz := 2) (k := .i64) (i := 0) (by omega) (by rw [e]; simp)
      have hc0 : s.cs[0]'(by rw [e]; simp) = ⟨.fs, [⟨.fs, [perOf f p l]⟩], mi⟩ := by simp [e]
      rw [hc0] at hrow
      simp [ClassD.row] at hrow hidx
      have hfd := floordiv_sp (q * 10080 - mi + 1440 - 1) 1440 (by omega) (by omega) (by omega)
      obtain ⟨fst, hfst⟩ : ∃ fst, fst = fstI q mi := ⟨_, rfl⟩
      have hfst' : (q * 10080 - mi + 1440 - 1) / 1440 = fst := by rw [hfst]; rfl
      have hmx : mixB [⟨.fs, [perOf f p l]⟩] = true := by simp [mixB, termB, few_perB hfew]
      have hhas : ∀ d, 0 ≤ d → d ≤ 1000 → Km.Pure tab.get F_x36 [.a [.f (sl .fs (termRows [⟨.fs, [perOf f p l]⟩]))], vi d] = Eq (vb (memB (perOf f p l) d)) := fun d h0 h1 => by
        have := mhas_sp .fs [⟨.fs, [perOf f p l]⟩] hmx d (by unfold Day; omega)
        rw [this]
        simp [mhasB, hmx, inB, hasB, h0]
      have hinst := fun d (h : Near d) => rinst_sp (sl s.cg (classRows s.cs)) (sl s.xg (instRows s.xs)) (sl .fs (termRows [⟨.fs, [perOf f p l]⟩])) s.len mi d (by unfold Near; omega) (by unfold Near; omega) h
      refine kw_block ?_
      refine kw_seq (kw_region (.inl rfl) ?_)
      simp [g14, ha, hidx, hrow]
      have kN : (H' ++ [Blk.box [.f (sl .fs (termRows [⟨.fs, [perOf f p l]⟩])), .f (fi mi)] 0])[H'.length]? = some (.box [.f (sl .fs (termRows [⟨.fs, [perOf f p l]⟩])), .f (fi mi)] 0) := by simp
      have k0 : (H' ++ [Blk.box [.f (sl .fs (termRows [⟨.fs, [perOf f p l]⟩])), .f (fi mi)] 0])[0]? = some (.box [C.f (sl s.cg (classRows s.cs)), C.f (fi s.len), C.f (sl s.xg (instRows s.xs))] 0) := by rw [List.getElem?_append_left (lt_of_get h0)]; exact h0
      generalize H' ++ [Blk.box [.f (sl .fs (termRows [⟨.fs, [perOf f p l]⟩])), .f (fi mi)] 0] = HA at kN k0 ⊢
      obtain ⟨bN, hbN⟩ : ∃ bN, bN = H'.length := ⟨_, rfl⟩
      rw [← hbN] at kN ⊢
      refine kw_seq (kw_region (.inl rfl) ?_)
      simp [g1, kN, wrap64 (n := q * 10080) (by omega) (by omega), wrap64 (n := q * 10080 - mi) (by omega) (by omega), wrap64 (n := q * 10080 - mi + 1440) (by omega) (by omega), wrap64 (n := q * 10080 - mi + 1440 - 1) (by omega) (by omega), hfd, hfst']
      refine kw_seq (kw_region (.inl rfl) ?_)
      simp
      have fb : -1 ≤ fst ∧ fst ≤ 70 := by omega
      refine kw_block ?_
      refine kw_loop (fun m st => ∃ (cur : Int) (t : T) (H : Heap) (c : C) (o : List InstD), st = ⟨t, [], H⟩ ∧ (m : Int) = fst + 7 - cur ∧ max fst 0 ≤ cur ∧ cur ≤ fst + 7 ∧ t.g 1 = vi q ∧ t.g 2 = .c (.ptr 0 0 0) ∧ t.g 7 = .c (.ptr bN 0 0) ∧ t.g 8 = vi fst ∧ t.g 10 = vi cur ∧ t.g 14 = .c (.f (sl s.cg (classRows s.cs))) ∧ t.g 15 = vi (s.cs.length : Nat) ∧ t.g 16 = vi 0 ∧ t.g 5 = .c c ∧
        H[0]? = some (.box [C.f (sl s.cg (classRows s.cs)), C.f (fi s.len), C.f (sl s.xg (instRows s.xs))] 0) ∧ H[bN]? = some (.box [.f (sl .fs (termRows [⟨.fs, [perOf f p l]⟩])), .f (fi mi)] 0) ∧ LI H c o ∧ (o.length : Int) ≤ cur - max fst 0 ∧ ∀ x, x ∈ o ↔ ∃ d, x = instOf s.len mi d ∧ max fst 0 ≤ d ∧ d < cur ∧ memB (perOf f p l) d = true) (fst + 7 - max fst 0).toNat
        ⟨max fst 0, _, HA, .f .nils, [], rfl, by omega, by omega, by omega, by simp [g1], by simp [g2], by simp, by simp, by simp, by simp [g14], by simpa using hb, by simp [ha], by simp [g5], k0, kN, .inl ⟨rfl, rfl⟩, by simp, fun x => by simp; intros; omega⟩ ?_
      rintro m st ⟨cur, t, H, c, o, rfl, hm, c0, c1, g1, g2, g7, g8, g10, g14, g15, g16, g5, h0, hN, hLI, hol, hmem⟩ ih
      refine kw_seq ?_
      refine kw_seq (kw_region (.inl rfl) ?_)
      simp [g8, g10, wrap64 (n := fst + 7) (by omega) (by omega)]
      by_cases hlt : cur < fst + 7
      · refine kw_cond_t (by simp [hlt]) (kw_skip ?_)
        refine kw_seq ?_
        refine kw_block ?_
        have go : ∀ (t : T) (H : Heap) (c : C) (o : List InstD), t.g 1 = vi q → t.g 2 = .c (.ptr 0 0 0) → t.g 7 = .c (.ptr bN 0 0) → t.g 8 = vi fst → t.g 10 = vi cur → t.g 14 = .c (.f (sl s.cg (classRows s.cs))) → t.g 15 = vi (s.cs.length : Nat) → t.g 16 = vi 0 → t.g 5 = .c c →
            H[0]? = some (.box [C.f (sl s.cg (classRows s.cs)), C.f (fi s.len), C.f (sl s.xg (instRows s.xs))] 0) → H[bN]? = some (.box [.f (sl .fs (termRows [⟨.fs, [perOf f p l]⟩])), .f (fi mi)] 0) → LI H c o → (o.length : Int) ≤ cur + 1 - max fst 0 → (∀ x, x ∈ o ↔ ∃ d, x = instOf s.len mi d ∧ max fst 0 ≤ d ∧ d < cur + 1 ∧ memB (perOf f p l) d = true) →
            WP tab.get F_x134 none [.inBlock 3, .code C_x134_33, .inLoop C_x134_23, .inBlock 2, .inBlock 1, .code (incC 16 50), .inLoop (roundC 0 16 15 17 50 C_x134_14), .inBlock 0, .code C_x134_35] ⟨t, [], H⟩ Q := by
          intro t H c o g1 g2 g7 g8 g10 g14 g15 g16 g5 h0 hN hLI hol hmem
          refine kw_inBlock (kw_region (.inl rfl) ?_)
          simp [g10, wrap64 (n := cur + 1) (by omega) (by omega)]
          exact ih (fst + 7 - (cur + 1)).toNat _ (by omega) ⟨cur + 1, _, H, c, o, rfl, by omega, by omega, by omega, by simp [g1], by simp [g2], by simp [g7], by simp [g8], by simp, by simp [g14], by simp [g15], by simp [g16], by simp [g5], h0, hN, hLI, by omega, hmem⟩
        refine kw_seq (kw_region (.inl rfl) ?_)
        simp [g7, g10, hN, hhas cur (by omega) (by omega)]
        cases hc : memB (perOf f p l) cur
        · refine kw_cond_f (by simp) (kw_skip ?_)
          refine go _ H c o (by simp [g1]) (by simp [g2]) (by simp [g7]) (by simp [g8]) (by simp [g10]) (by simp [g14]) (by simp [g15]) (by simp [g16]) (by simp [g5]) h0 hN hLI (by omega) fun x => ?_
          rw [hmem]
          constructor
          · rintro ⟨d, h1, h2, h3, h4⟩
            exact ⟨d, h1, h2, by omega, h4⟩
          · rintro ⟨d, h1, h2, h3, h4⟩
            by_cases hd : d = cur
            · subst hd; rw [hc] at h4; cases h4
            · exact ⟨d, h1, h2, by omega, h4⟩
        · have hin := hinst cur (by unfold Near; omega)
          simp [instOf, InstD.row] at hin
          obtain ⟨c', H2, e1, e2, e3, e4⟩ := (hLI.push [.box [.f (fi cur), .f (fi (cur * 1440 + mi)), .f (fi (cur * 1440 + mi + s.len))] 0]).app (by omega) (b1 := H.length) (fl := 0) (x := instOf s.len mi cur) (by simp [InstD.row, instOf])
          have p0 := e4 _ _ (show (H ++ [Blk.box [.f (fi cur), .f (fi (cur * 1440 + mi)), .f (fi (cur * 1440 + mi + s.len))] 0])[0]? = _ by rw [List.getElem?_append_left (lt_of_get h0)]; exact h0) rfl
          have pN := e4 _ _ (show (H ++ [Blk.box [.f (fi cur), .f (fi (cur * 1440 + mi)), .f (fi (cur * 1440 + mi + s.len))] 0])[bN]? = _ by rw [List.getElem?_append_left (lt_of_get hN)]; exact hN) rfl
          refine kw_cond_t (by simp) ?_
          refine kw_region (.inl rfl) ?_
          simp [g2, g5, g7, g10, h0, hN, hin, e1]
          refine go _ H2 c' (o ++ [instOf s.len mi cur]) (by simp [g1]) (by simp [g2]) (by simp [g7]) (by simp [g8]) (by simp [g10]) (by simp [g14]) (by simp [g15]) (by simp [g16]) (by simp) p0 pN e2 (by simp; omega) fun x => ?_
          rw [List.mem_append, List.mem_singleton, hmem]
          constructor
          · rintro (⟨d, h1, h2, h3, h4⟩ | rfl)
            · exact ⟨d, h1, h2, by omega, h4⟩
            · exact ⟨cur, rfl, by omega, by omega, hc⟩
          · rintro ⟨d, h1, h2, h3, h4⟩
            by_cases hd : d = cur
            · subst hd; exact .inr h1
            · exact .inl ⟨d, h1, h2, by omega, h4⟩
      · have : cur = fst + 7 := by omega
        subst this
        refine kw_cond_f (by simp) ?_
        refine kw_exit (k' := [.inBlock 1, .code (incC 16 50), .inLoop (roundC 0 16 15 17 50 C_x134_14), .inBlock 0, .code C_x134_35]) rfl ?_
        refine kw_inBlock (next _ _ ?_ (by simp [g16]) (by simp [g15]))
        refine ⟨by simp [g1], by simp [g2], by simp [g14], h0, c, o, by simp [g5], hLI, by omega, by omega, fun _ x => ?_⟩
        rw [hmem]
        constructor
        · rintro ⟨d, h1, h2, h3, h4⟩
          exact ⟨f, p, l, mi, d, e, h1, by rw [← hfst]; omega, by rw [← hfst]; omega, h4⟩
        · rintro ⟨f', p', l', mi', d, e', h1, h2, h3, h4⟩
          rw [e] at e'
          simp [perOf] at e'
          obtain ⟨⟨rfl, rfl, rfl⟩, rfl⟩ := e'
          exact ⟨d, h1, by omega, by omega, h4⟩
    · rintro t H' ⟨g1, g2, g14, h0, c, o, g5, hLI, hol, hj0, hj1⟩ - -
      refine extras _ H' c o (by simp [g1]) (by simp [g2]) (by simp [g5]) h0 hLI hol fun x => ?_
      rcases hcs with e | ⟨f, p, l, mi, e, _⟩
      · obtain ⟨rfl, rfl⟩ := hj0 (by rw [e]; rfl)
        refine ⟨fun h => by simp at h, fun ⟨f, p, l, mi, d, e', _⟩ => ?_⟩
        rw [e] at e'; cases e'
      · exact hj1 (by rw [e]; rfl) x
  obtain ⟨r, ⟨g, L, h1, h2, rfl⟩, h⟩ := key
  exact ⟨g, L, h1, h2, Km.Pure.eq h⟩
end Go.Proofs.YthjpdnjmppbokaaGreat
end

section
namespace Go.Proofs.YthjpdnjmppbokaaGreat
open Go Km

/-! ### What a stream uses in a week -/
theorem lt_ext : ∀ {a b : List InstD}, a.Pairwise InstD.lt → b.Pairwise InstD.lt → (∀ x, x ∈ a ↔ x ∈ b) → a = b
  | [], [], _, _, _ => rfl
  | [], y :: b, _, _, h => absurd ((h y).2 List.mem_cons_self) (by simp)
  | x :: a, [], _, _, h => absurd ((h x).1 List.mem_cons_self) (by simp)
  | x :: a, y :: b, ha, hb, h => by
    have a1 := List.pairwise_cons.1 ha
    have b1 := List.pairwise_cons.1 hb
    have e : x = y := by
      rcases List.mem_cons.1 ((h x).1 List.mem_cons_self) with e | h1
      · exact e
      · rcases List.mem_cons.1 ((h y).2 List.mem_cons_self) with e | h2
        · exact e.symm
        · exact absurd (InstD.lt_trans (a1.1 y h2) (b1.1 x h1)) InstD.lt_irr
    subst e
    rw [lt_ext a1.2 b1.2 fun z => ?_]
    have h1 := h z
    simp only [List.mem_cons] at h1
    constructor
    · intro hz
      rcases h1.1 (.inr hz) with rfl | h2
      · exact absurd (a1.1 z hz) InstD.lt_irr
      · exact h2
    · intro hz
      rcases h1.2 (.inr hz) with rfl | h2
      · exact absurd (b1.1 z hz) InstD.lt_irr
      · exact h2
def MinsIs (s : StreamD) (q n : Int) : Prop := ∃ L : List InstD, L.Pairwise InstD.lt ∧ (∀ x, x ∈ L ↔ BMem s q x) ∧ n = sumM L
theorem MinsIs.det {s : StreamD} {q n m : Int} (h : MinsIs s q n) (h' : MinsIs s q m) : n = m := by
  obtain ⟨L, h1, h2, rfl⟩ := h
  obtain ⟨L', h1', h2', rfl⟩ := h'
  rw [lt_ext h1 h1' fun x => (h2 x).trans (h2' x).symm]
noncomputable def mins (s : StreamD) (q : Int) : Int := Classical.epsilon fun n => MinsIs s q n
theorem mins_eq {s : StreamD} {q n : Int} (h : MinsIs s q n) : mins s q = n := (Classical.epsilon_spec (p := fun n => MinsIs s q n) ⟨n, h⟩ : MinsIs s q (mins s q)).det h

theorem instOf_ok {s : StreamD} {f p mi d : Int} {l : List Int} (hs : StreamOK s) (e : s.cs = [⟨.fs, [⟨.fs, [perOf f p l]⟩], mi⟩]) : 60 ≤ mi ∧ mi ≤ 1245 := by
  rcases hs.1 with e' | ⟨f', p', l', mi', e', _, _, _, _, _, _, h⟩
  · rw [e] at e'; cases e'
  · rw [e] at e'
    simp at e'
    obtain ⟨_, rfl⟩ := e'
    exact h
/-- Where the instances of a week lie. -/
theorem bmem_ok {s : StreamD} (hs : StreamOK s) {q : Int} (hq : 0 ≤ q) (hq1 : q ≤ 9) {x : InstD} (h : BMem s q x) : 0 ≤ x.fr ∧ x.to = x.fr + s.len ∧ x.fr ≤ 200000 := by
  rcases h with ⟨f, p, l, mi, d, e, rfl, h1, h2, h3⟩ | ⟨h, h'⟩
  · obtain ⟨m0, m1⟩ := instOf_ok (d := d) hs e
    unfold fstI at h1 h2
    refine ⟨?_, rfl, ?_⟩
    · show 0 ≤ d * 1440 + mi
      omega
    · show d * 1440 + mi ≤ 200000
      omega
  · obtain ⟨i1, i2, i3, i4, i5⟩ := hs.2.2.2.2.2 x h
    omega
theorem sum_bound (s : StreamD) (hl : 0 ≤ s.len) (hl' : s.len ≤ 180) : ∀ (L : List InstD), (∀ x ∈ L, x.to = x.fr + s.len) → 0 ≤ sumM L ∧ sumM L ≤ L.length * 180
  | [], _ => by simp [sumM]
  | x :: L, h => by
    have := sum_bound s hl hl' L fun y hy => h y (List.mem_cons_of_mem _ hy)
    have := h x List.mem_cons_self
    simp only [sumM, List.length_cons]
    omega
theorem week_ex (s : StreamD) (hs : StreamOK s) (q : Int) (hq0 : 0 ≤ q) (hq1 : q ≤ 9) : 0 ≤ mins s q ∧ mins s q ≤ 1800 ∧ ∃ v, Km.Pure tab.get F_x134 [.a (s.row.map .f), vi q] = Eq (.c (.f v)) ∧ Km.Pure tab.get F_x151 [.c (.f v)] = Eq (vi (mins s q)) := by
  obtain ⟨g, L, ⟨h1, h2⟩, h3, h4⟩ := begins_ex s hs q hq0 hq1
  have hm : mins s q = sumM L := mins_eq ⟨L, h1, h2, rfl⟩
  have hb := fun x (hx : x ∈ L) => bmem_ok hs hq0 hq1 ((h2 x).1 hx)
  have hl := hs.2.1
  have hl' := hs.2.2.1
  have hs' := sum_bound s (by omega) hl' L fun x hx => (hb x hx).2.1
  rw [hm]
  refine ⟨hs'.1, by omega, _, h4, minutes_sp g L (by omega) fun x hx => ?_⟩
  have := hb x hx
  omega
/-- Of the instances of a window, those that begin in it, are those of the week. -/
theorem list_mins (s : StreamD) (hs : StreamOK s) (q : Int) (hq0 : 0 ≤ q) (hq1 : q ≤ 9) {L : List InstD} (hp : L.Pairwise InstD.lt) (hm : ∀ x, x ∈ L ↔ LMem s (10080 * q) (10080 * q + 10080) x) :
    sumM (L.filter fun x => decide (10080 * q ≤ x.fr)) = mins s q := by
  refine (mins_eq ⟨_, hp.filter _, fun x => ?_, rfl⟩).symm
  obtain ⟨_, l1, l2, _, _, hxi⟩ := id hs
  rw [List.mem_filter, hm, decide_eq_true_eq]
  constructor
  · rintro ⟨⟨f, p, l, mi, d, e, rfl, h1, h2, h3, h4⟩ | ⟨h, h'⟩, hge⟩
    · obtain ⟨m0, m1⟩ := instOf_ok (d := d) hs e
      unfold n0I at h1
      simp only [instOf] at hge
      refine .inl ⟨f, p, l, mi, d, e, rfl, ?_, ?_, h3⟩
      · unfold fstI; omega
      · unfold fstI; omega
    · obtain ⟨i1, i2, i3, i4, i5⟩ := hxi x h
      simp [collB] at h'
      exact .inr ⟨h, by omega⟩
  · rintro (⟨f, p, l, mi, d, e, rfl, h1, h2, h3⟩ | ⟨h, h'⟩)
    · obtain ⟨m0, m1⟩ := instOf_ok (d := d) hs e
      unfold fstI at h1 h2
      have hfr : (perOf f p l).fr ≤ d := by
        by_cases k : (perOf f p l).fr ≤ d
        · exact k
        · exfalso; unfold memB at h3; rw [if_neg k] at h3; simp [perOf] at h3
      refine ⟨.inl ⟨f, p, l, mi, d, e, rfl, ?_, hfr, h3, by omega⟩, ?_⟩
      · unfold n0I; omega
      · simp only [instOf]; omega
    · obtain ⟨i1, i2, i3, i4, i5⟩ := hxi x h
      refine ⟨.inr ⟨h, ?_⟩, by omega⟩
      simp [collB]
      omega

/-! ### room.team, room.Used -/
def streamRows (l : List StreamD) : List (List FC) := l.map StreamD.row
@[simp] theorem streamRows_len (l : List StreamD) : (streamRows l).length = l.length := by simp [streamRows]
theorem streamRows_grid (l : List StreamD) : Grid 3 (streamRows l) := Grid.map fun _ => rfl
theorem streamRows_at {l : List StreamD} {j : Nat} (hj : j < l.length) : (streamRows l)[j]? = some l[j].row := by simp [streamRows, hj]
def ofTeam (k tm : Int) (l : List StandD) : List StreamD := (l.filter fun s => decide (s.room = k) && decide (s.team = tm)).map StandD.st
theorem ofTeam_app (k tm : Int) (a b : List StandD) : ofTeam k tm (a ++ b) = ofTeam k tm a ++ ofTeam k tm b := by simp [ofTeam]
theorem team_ex (g : Tg) (l : List StandD) (k tm : Int) (hl : l.length ≤ 1000) : ∃ g', Km.Pure tab.get F_x160 [.c (.f (sl g (standRows l))), vi k, vi tm] = Eq (.c (.f (sl g' (streamRows (ofTeam k tm l))))) := by
  refine ⟨.nil, Km.Pure.eq (pure_fn T_x160 rfl fun Q hQ => ?_)⟩
  refine kw_seq (kw_region (.inl rfl) ?_)
  simp
  refine kw_seq (kw_region (.inl rfl) ?_)
  simp
  refine kw_seq ?_
  refine kw_seq (kw_region (.inl rfl) ?_)
  simp
  refine kw_for l.length (fun j t H => t.g 10 = .c (.f (sl g (standRows l))) ∧ t.g 1 = vi k ∧ t.g 2 = vi tm ∧ LB true H 3 (t.g 7) .nil (streamRows (ofTeam k tm (l.take j))) ∧ (ofTeam k tm (l.take j)).length ≤ j) (by omega) (by decide) (by decide) (by simp) (by simp)
    ⟨by simp, by simp, by simp, by simpa [ofTeam, streamRows, Tg.fc] using LB.nil0 (g := .nil) (by decide), by simp [ofTeam]⟩ ?_ ?_
  · rintro j t H hj ⟨g10, g1, g2, hB, hjl⟩ ha hb next
    have hrow := fun H : Heap => ld_rowa (H := H) (standRows_grid l) (standRows_at hj)
    have htk : l.take (j + 1) = l.take j ++ [l[j]] := by rw [List.take_add_one, List.getElem?_eq_getElem hj]; rfl
    simp [StandD.row] at hrow
    refine kw_block ?_
    refine kw_seq (kw_region (.inl rfl) ?_)
    simp [g10, ha, idx_sl, hj, hrow]
    have skip : (decide (l[j].room = k) && decide (l[j].team = tm)) = false → ofTeam k tm (l.take (j + 1)) = ofTeam k tm (l.take j) := fun h => by
      rw [htk, ofTeam_app]; simp [ofTeam, h]
    refine kw_seq (kw_region (.inl rfl) ?_)
    by_cases k1 : l[j].room = k
    · by_cases k2 : l[j].team = tm
      · have more : ofTeam k tm (l.take (j + 1)) = ofTeam k tm (l.take j) ++ [l[j].st] := by rw [htk, ofTeam_app]; simp [ofTeam, k1, k2]
        simp [g1, g2, k1, k2]
        refine kw_cond_t (by simp) ?_
        obtain ⟨v', H', e1, e2, -, -⟩ := LB.app (H := H ++ [Blk.box (l[j].row.map .f) 0] ++ [Blk.box (l[j].st.row.map .f) 0]) (row := l[j].st.row) (bytes := 56) (y := .c (.sl (H ++ [Blk.box (l[j].row.map .f) 0]).length 0 1 1 0 3)) ((hB.push _).push _) (streamRows_grid _) rfl (by decide)
          (added_box (fl := 0) (cs := l[j].st.row.map .f) (by simp [StreamD.row]) (by simp [StreamD.row])) (mapO_exB _) (by simp [roomOK]; omega)
        simp [StandD.row, StreamD.row, k1, k2] at e1
        refine kw_region (.inl rfl) ?_
        simp [k1, k2, e1]
        refine kw_inBlock (next _ _ ?_ (by simp [ha]) (by simp [hb]))
        refine ⟨by simp [g10], by simp [g1], by simp [g2], ?_, by rw [more]; simp; omega⟩
        rw [more]
        simpa [streamRows] using e2
      · simp [g1, g2, k1, k2]
        refine kw_cond_f (by simp) (kw_skip (kw_inBlock (next _ _ ?_ (by simp [ha]) (by simp [hb]))))
        refine ⟨by simp [g10], by simp [g1], by simp [g2], ?_, by rw [skip (by simp [k2])]; omega⟩
        rw [skip (by simp [k2])]
        simpa using hB.push _
    · simp [g1, k1]
      refine kw_cond_f (by simp) (kw_skip (kw_inBlock (next _ _ ?_ (by simp [ha]) (by simp [hb]))))
      refine ⟨by simp [g10], by simp [g1], by simp [g2], ?_, by rw [skip (by simp [k1])]; omega⟩
      rw [skip (by simp [k1])]
      simpa using hB.push _
  · rintro t H ⟨g10, g1, g2, hB, hjl⟩ - -
    rw [List.take_length] at hB
    refine kw_seq (kw_region (.inl rfl) ?_)
    simp
    obtain ⟨c, hc, -⟩ := hB.len
    have hf := hB.fzV (streamRows_grid _)
    refine kw_ret (hQ _ _ ?_)
    rw [hc] at hf
    simp [hc]
    simpa using hf

theorem usedf_kf (s : StandD) (h : s.st.Sm) : Kf tab.get F_x131 [.a (s.row.map .f)] (vb (!streamB s.st)) := by
  refine kf_fn T_x131 rfl fun H Q hQ => ?_
  have hv := stream_sp s.st h
  simp [StreamD.row] at hv
  refine kw_seq (kw_region (.inl rfl) ?_)
  simp [StandD.row]
  refine kw_seq (kw_region (.inl rfl) ?_)
  simp [hv]
  refine kw_ret (hQ _ _ ?_)
  simp
def sumI : List Int → Int
  | [] => 0
  | n :: r => n + sumI r
theorem sumI_app (a b : List Int) : sumI (a ++ b) = sumI a + sumI b := by
  induction a with
  | nil => simp [sumI]
  | cons x a ih => simp only [List.cons_append, sumI, ih]; omega
noncomputable def usedI (l : List StandD) (k tm q : Int) : Int := sumI ((ofTeam k tm l).map fun s => mins s q)
theorem used_sp (g : Tg) (l : List StandD) (hl : l.length ≤ 100) (hf : ∀ s ∈ l, s.Fine) (k tm day : Int) (hd0 : 0 ≤ day) (hd1 : day ≤ 60) :
    Km.Pure tab.get F_x130 [.c (.f (sl g (standRows l))), vi k, vi tm, vi day] = Eq (.t [vi (usedI l k tm (day / 7)), vi 0]) := by
  have hok : ∀ s ∈ l, StreamOK s.st := fun s hs => (hf s hs).2.2.2.2.2.2.2.2
  obtain ⟨g', ht⟩ := team_ex g l k tm (by omega)
  have hc := (contains_kf T_x181 (indexf_kf T_x194 l StandD.row (fun s => .a (s.row.map .f)) (fun s => !streamB s.st) g F_x131 [] (by omega)
    (fun j hj H => ld_rowa (standRows_grid l) (standRows_at hj)) (fun s hs => usedf_kf s (streamOK_sm (hok s hs))))).eq
  have hany : (l.any fun s => !streamB s.st) = false := by
    rw [List.any_eq_false]
    intro s hs
    simp [streamOK_B (hok s hs)]
  rw [hany] at hc
  have hc' : Km.Pure tab.get F_x181 [.c (.f (sl g (standRows l))), .c (.f (.fn F_x131 []))] = Eq (vb false) := hc
  have hto : ∀ s ∈ ofTeam k tm l, StreamOK s := fun s hs => by
    obtain ⟨x, hx, rfl⟩ := List.mem_map.1 hs
    exact hok x (List.mem_filter.1 hx).1
  have htl : (ofTeam k tm l).length ≤ 100 := by
    unfold ofTeam
    have := List.length_filter_le (fun s : StandD => decide (s.room = k) && decide (s.team = tm)) l
    simp only [List.length_map]
    omega
  unfold usedI
  generalize ofTeam k tm l = S at ht hto htl
  obtain ⟨q, hq⟩ : ∃ q, q = day / 7 := ⟨_, rfl⟩
  rw [← hq]
  obtain ⟨σ, σ0, σ1, σ2⟩ : ∃ σ : Nat → Int, σ 0 = 0 ∧ (∀ (j : Nat) (hj : j < S.length), σ (j + 1) = σ j + mins S[j] q) ∧ σ S.length = sumI (S.map fun s => mins s q) := by
    refine ⟨fun j => sumI ((S.take j).map fun s => mins s q), by simp [sumI], fun j hj => ?_, by simp only [List.take_length]⟩
    have htk : S.take (j + 1) = S.take j ++ [S[j]] := by rw [List.take_add_one, List.getElem?_eq_getElem hj]; rfl
    show sumI ((S.take (j + 1)).map _) = sumI ((S.take j).map _) + _
    rw [htk, List.map_append, sumI_app]
    simp [sumI]
  have hqd := quo_nn (a := day) (b := 7) hd0 (by omega) (by omega)
  rw [← hq] at hqd
  refine Km.Pure.eq (pure_fn T_x130 rfl fun Q hQ => ?_)
  refine kw_seq (kw_region (.inl rfl) ?_)
  simp
  refine kw_seq ?_
  refine kw_seq (kw_region (.inl rfl) ?_)
  have hwi : withinB day 0 1099511627776 = true := by simp [withinB]; omega
  simp [hwi, hc']
  refine kw_cond_f (by simp) (kw_skip ?_)
  refine kw_seq (kw_region (.inl rfl) ?_)
  simp
  refine kw_seq ?_
  refine kw_seq (kw_region (.inl rfl) ?_)
  simp [ht]
  refine kw_for S.length (fun j t H => t.g 3 = vi day ∧ t.g 26 = .c (.f (sl g' (streamRows S))) ∧ t.g 10 = vi (σ j) ∧ 0 ≤ σ j ∧ σ j ≤ j * 1800) (by omega) (by decide) (by decide) (by simp) (by simp)
    ⟨by simp, by simp, by simp [σ0], by simp [σ0], by simp [σ0]⟩ ?_ ?_
  · rintro j t H hj ⟨g3, g26, g10, s0, s1⟩ ha hb next
    have hrow := fun H : Heap => ld_rowa (H := H) (streamRows_grid S) (streamRows_at hj)
    have htk : S.take (j + 1) = S.take j ++ [S[j]] := by rw [List.take_add_one, List.getElem?_eq_getElem hj]; rfl
    have hS := hto S[j] (List.getElem_mem hj)
    obtain ⟨w0, w1, v, hbg, hmi⟩ := week_ex S[j] hS q (by omega) (by omega)
    obtain ⟨gL, L, -, -, hli⟩ := list_ex S[j] hS (q * 10080) (by omega) (by omega)
    simp [StreamD.row] at hrow hbg hli
    have hsum := σ1 j hj
    refine kw_block ?_
    refine kw_seq (kw_region (.inl rfl) ?_)
    simp [g26, ha, idx_sl, hj, hrow]
    refine kw_seq (kw_region (.inl rfl) ?_)
    simp [g3, hqd, wrap64 (n := q * 10080) (by omega) (by omega)]
    refine kw_seq ?_
    refine kw_seq (kw_region (.inl rfl) ?_)
    simp [wrap64 (n := q * 10080 + 10080) (by omega) (by omega), hli]
    refine kw_seq (kw_region (.inl rfl) ?_)
    simp
    refine kw_cond_f (by simp) (kw_skip ?_)
    refine kw_region (.inl rfl) ?_
    simp [g3, g10, hqd, hbg, hmi, wrap64 (n := σ j + mins S[j] q) (by omega) (by omega)]
    refine kw_inBlock (next _ _ ?_ (by simp [ha]) (by simp [hb]))
    exact ⟨by simp [g3], by simp [g26], by simp [hsum], by omega, by rw [hsum]; omega⟩
  · rintro t H ⟨g3, g26, g10, s0, s1⟩ - -
    rw [σ2] at g10
    refine kw_seq (kw_region (.inl rfl) ?_)
    simp [g10]
    refine kw_ret (hQ _ _ ?_)
    simp
end Go.Proofs.YthjpdnjmppbokaaGreat
end

section
namespace Go.Proofs.YthjpdnjmppbokaaGreat
open Go Km

/-! ### Lists of stands in the making -/
theorem earlier_ex (x y : StandD) : ∃ b, Km.Pure tab.get F_x124 [.a (x.row.map .f), .a (y.row.map .f)] = Eq (vb b) := by
  refine ⟨decide (x.meet < y.meet) || (decide (x.meet = y.meet) && decide (x.room < y.room)), Kf.eq (kf_fn T_x124 rfl fun H Q hQ => ?_)⟩
  refine kw_seq (kw_region (.inl rfl) ?_)
  simp [StandD.row]
  refine kw_seq (kw_region (.inl rfl) ?_)
  by_cases k1 : x.meet < y.meet
  · simp [k1]
    refine kw_ret (hQ _ _ ?_)
    simp [k1]
  · by_cases k2 : x.meet = y.meet
    · simp [k1, k2]
      refine kw_ret (hQ _ _ ?_)
      simp [k1, k2]
    · simp [k1, k2]
      refine kw_ret (hQ _ _ ?_)
      simp [k1, k2]
theorem listed_ex (g : Tg) (l : List StandD) (s : StandD) (hl : l.length ≤ 1000) : ∃ b, Km.Pure tab.get F_x125 [.c (.f (sl g (standRows l))), .a (s.row.map .f)] = Eq (vb b) := by
  have key : ∃ r, (∃ b, r = vb b) ∧ Km.Pure tab.get F_x125 [.c (.f (sl g (standRows l))), .a (s.row.map .f)] r := by
    refine pure_ex T_x125 rfl fun Q hQ => ?_
    refine kw_seq (kw_region (.inl rfl) ?_)
    simp [StandD.row]
    refine kw_seq ?_
    refine kw_seq (kw_region (.inl rfl) ?_)
    simp
    refine kw_cfor l.length (fun j t H => t.g 0 = .c (.f (sl g (standRows l))) ∧ t.g 3 = .c (.ptr 0 0 0) ∧ H[0]? = some (.box [.f (fi s.meet), .f (fi s.room), .f (fi s.team), .f (fi s.size), .f (sl s.st.cg (classRows s.st.cs)), .f (fi s.st.len), .f (sl s.st.xg (instRows s.st.xs))] 0)) (by omega) rfl (by simp) ⟨by simp, by simp, rfl⟩ ?_ ?_ ?_
    · rintro j t H L hj ⟨g0, g3, h0⟩ ha hL
      simp [ha, g0]
      exact hL _ ⟨by simp [g0], by simp [g3], h0⟩ (by simp [ha]) (by simp)
    · rintro j t H hj ⟨g0, g3, h0⟩ ha next
      have hm := fun H : Heap => ld_row (H := H) (k := 0) (standRows_grid l) (standRows_at hj) rfl
      have hr := fun H : Heap => ld_row (H := H) (k := 1) (standRows_grid l) (standRows_at hj) rfl
      simp [StandD.row] at hm hr
      refine kw_block ?_
      refine kw_seq (kw_region (.inl rfl) ?_)
      by_cases k1 : l[j].meet = s.meet
      · by_cases k2 : l[j].room = s.room
        · simp [g0, g3, ha, h0, idx_sl, hj, hm, hr, k1, k2]
          refine kw_cond_t (by simp) ?_
          refine kw_seq (kw_region (.inl rfl) ?_)
          simp
          refine kw_ret (hQ _ _ _ ⟨true, rfl⟩ ?_)
          simp
        · simp [g0, g3, ha, h0, idx_sl, hj, hm, hr, k1, k2]
          refine kw_cond_f (by simp) (kw_skip (kw_inBlock (next _ _ ?_ (by simp [ha]))))
          exact ⟨by simp [g0], by simp [g3], h0⟩
      · simp [g0, g3, ha, h0, idx_sl, hj, hm, k1]
        refine kw_cond_f (by simp) (kw_skip (kw_inBlock (next _ _ ?_ (by simp [ha]))))
        exact ⟨by simp [g0], by simp [g3], h0⟩
    · rintro t H ⟨g0, g3, h0⟩ ha
      refine kw_seq (kw_region (.inl rfl) ?_)
      simp
      refine kw_ret (hQ _ _ _ ⟨false, rfl⟩ ?_)
      simp
  obtain ⟨r, ⟨b, rfl⟩, h⟩ := key
  exact ⟨b, h.eq⟩

def blkOf : C → Option Nat
  | .sl b _ _ _ _ _ => some b
  | _ => none
def LS (H : Heap) (c : C) (ss : List StandD) : Prop := (ss = [] ∧ c = .f .es) ∨ (ss ≠ [] ∧ ∃ b ep fl, c = .sl b 0 ss.length 0 ep 7 ∧ H[b]? = some (.opn 7 ((standRows ss).flatten.map .f) fl ep .loc) ∧ fl ≤ (standRows ss).flatten.length)
theorem LS.keep {H H' : Heap} {c : C} {ss : List StandD} (h : LS H c ss) (hk : ∀ i y, H[i]? = some y → blkOf c = some i → H'[i]? = some y) : LS H' c ss := by
  rcases h with h | ⟨h, b, ep, fl, rfl, h2, h3⟩
  · exact .inl h
  · exact .inr ⟨h, b, ep, fl, rfl, hk b _ h2 rfl, h3⟩
theorem LS.push {H : Heap} {c : C} {ss : List StandD} (h : LS H c ss) (J : Heap) : LS (H ++ J) c ss := h.keep fun i y hy _ => by rw [List.getElem?_append_left (lt_of_get hy)]; exact hy
theorem LS.lt {H : Heap} {c : C} {ss : List StandD} (h : LS H c ss) {i : Nat} (hi : blkOf c = some i) : i < H.length := by
  rcases h with ⟨_, rfl⟩ | ⟨h, b, ep, fl, rfl, h2, h3⟩
  · cases hi
  · cases hi; exact lt_of_get h2
theorem LS.notBox {H : Heap} {c : C} {ss : List StandD} (h : LS H c ss) {i : Nat} {x : Blk} (hx : H[i]? = some x) (hn : notOpn x = true) : blkOf c ≠ some i := by
  rcases h with ⟨_, rfl⟩ | ⟨h, b, ep, fl, rfl, h2, h3⟩
  · simp [blkOf]
  · intro e
    cases e
    rw [h2] at hx; cases hx; cases hn
theorem standRows_flat (ss : List StandD) (x : StandD) : (standRows (ss ++ [x])).flatten = (standRows ss).flatten ++ x.row := by simp [standRows]
theorem LS.app {H : Heap} {c : C} {ss : List StandD} (h : LS H c ss) (hl : ss.length ≤ 1000) {b1 fl1 : Nat} {x : StandD} (hb1 : H[b1]? = some (.box (x.row.map .f) fl1)) :
    ∃ c' H', appendV H 7 88 (.c c) (.c (.sl b1 0 1 1 0 7)) = some (.c c', H') ∧ LS H' c' (ss ++ [x]) ∧ H.length ≤ H'.length ∧ (∀ (i : Nat) y, H[i]? = some y → blkOf c ≠ some i → H'[i]? = some y) ∧ (blkOf c' = blkOf c ∨ blkOf c' = some H.length) := by
  have hadd : addedV H 7 (.c (.sl b1 0 1 1 0 7)) = some (1, x.row.map .f) := added_box hb1 (by rfl)
  rcases h with ⟨rfl, rfl⟩ | ⟨hne, b, ep, fl, rfl, h2, h3⟩
  · have hroom : roomOK 1 88 = true := by simp [roomOK]
    refine ⟨.sl H.length 0 1 0 0 7, H ++ [.opn 7 (x.row.map .f) 0 0 .loc], ?_, .inr ⟨by simp, H.length, 0, 0, by simp, ?_, by simp⟩, by simp, fun i y hy _ => by rw [List.getElem?_append_left (lt_of_get hy)]; exact hy, .inr rfl⟩
    · simp [appendV, hadd, hroom]
    · simp [standRows]
  · have hroom : roomOK (ss.length + 1) 88 = true := by simp [roomOK]; omega
    have hlen : ss.length * 7 = (standRows ss).flatten.length := by rw [flatten_len (standRows_grid ss), standRows_len]
    refine ⟨.sl b 0 (ss.length + 1) 0 (ep + 1) 7, H.set b (.opn 7 ((standRows ss).flatten.map .f ++ x.row.map .f) fl (ep + 1) .loc), ?_, .inr ⟨by simp, b, ep + 1, fl, by simp, ?_, ?_⟩, by simp, fun i y hy hn => ?_, .inl rfl⟩
    · have h70 : (7 : Nat) ≠ 0 := by decide
      simp only [appendV, hadd, h70, if_false, h2, and_self, if_true]
      simp only [Nat.add_one_ne_zero, if_false]
      rw [if_pos ⟨trivial, by rw [List.length_map]; exact hlen, by rw [List.length_map]; exact h3⟩, hroom]
      simp
    · rw [List.getElem?_set_self (lt_of_get h2), standRows_flat, List.map_append]
    · rw [standRows_flat, List.length_append]; omega
    · have : b ≠ i := by rintro rfl; exact hn rfl
      rw [List.getElem?_set_ne this]; exact hy
theorem LS.len {H : Heap} {c : C} {ss : List StandD} (h : LS H c ss) : slLen H c = some ss.length := by
  rcases h with ⟨rfl, rfl⟩ | ⟨h, b, ep, fl, rfl, h2, h3⟩
  · rfl
  · simp [slLen, h2]
theorem LS.at {H : Heap} {c : C} {ss : List StandD} (h : LS H c ss) {j : Nat} (hj : j < ss.length) : ∃ b ep, indexAV H 7 none (.c c) (vi j) = some (.c (.ptr b (j * 7) ep)) ∧ ldV H (some 7) (.c (.ptr b (j * 7) ep)) = some (.a (ss[j].row.map .f)) := by
  rcases h with ⟨rfl, rfl⟩ | ⟨h, b, ep, fl, rfl, h2, h3⟩
  · simp at hj
  · refine ⟨b, ep, ?_, ?_⟩
    · have : (j : Int) < ss.length := by omega
      simp [indexAV, intV, h2, this]
    · have hd := drop_row (k := 0) (standRows_grid ss) (standRows_at hj) (by omega)
      rw [Nat.add_zero] at hd
      simp only [ld_ptr, h2, if_true]
      rw [← List.map_drop, hd]
      simp [StandD.row]
/-- By value. -/
theorem LS.ex {H : Heap} {c : C} {ss : List StandD} (h : LS H c ss) (n : Nat) : ∃ g, exC (n + 1) H c = some (sl g (standRows ss)) := by
  rcases h with ⟨rfl, rfl⟩ | ⟨h, b, ep, fl, rfl, h2, h3⟩
  · exact ⟨.es, rfl⟩
  · refine ⟨.fs, ?_⟩
    have hl : ss.length * 7 = (standRows ss).flatten.length := by rw [flatten_len (standRows_grid ss), standRows_len]
    simp only [ex_sl, h2]
    rw [if_pos ⟨trivial, trivial, by rw [List.length_map, Nat.zero_add, hl]; exact Nat.le_refl _⟩, List.drop_zero, List.take_of_length_le (by rw [List.length_map]; omega), mapO_f]
    cases ss with
    | nil => exact absurd rfl h
    | cons x l => simp [sl, standRows]
/-- Passed by value. -/
theorem LS.mk {H : Heap} {c : C} {ss : List StandD} (h : LS H c ss) (n : Nat) : LS (mkC (n + 1) c H) c ss ∧ (mkC (n + 1) c H).length = H.length ∧ ∀ (i : Nat) y, H[i]? = some y → blkOf c ≠ some i → (mkC (n + 1) c H)[i]? = some y := by
  rcases h with ⟨rfl, rfl⟩ | ⟨h, b, ep, fl, rfl, h2, h3⟩
  · exact ⟨.inl ⟨rfl, rfl⟩, rfl, fun i y hy _ => hy⟩
  · have hl : ss.length * 7 = (standRows ss).flatten.length := by rw [flatten_len (standRows_grid ss), standRows_len]
    have e : mkC (n + 1) (.sl b 0 ss.length 0 ep 7) H = H.set b (.opn 7 ((standRows ss).flatten.map .f) (Nat.max fl (0 + ss.length * 7)) ep .loc) := by
      simp only [mk_sl, h2]
      rw [foldl_f]
      intro x hx
      have hx := List.mem_of_mem_drop (List.mem_of_mem_take hx)
      obtain ⟨m, _, rfl⟩ := List.mem_map.1 hx
      exact ⟨_, rfl⟩
    rw [e]
    refine ⟨.inr ⟨h, b, ep, _, rfl, List.getElem?_set_self (lt_of_get h2), Nat.max_le.2 ⟨h3, by omega⟩⟩, by simp, fun i y hy hn => ?_⟩
    have : b ≠ i := by rintro rfl; exact hn rfl
    rw [List.getElem?_set_ne this]; exact hy
end Go.Proofs.YthjpdnjmppbokaaGreat
end

