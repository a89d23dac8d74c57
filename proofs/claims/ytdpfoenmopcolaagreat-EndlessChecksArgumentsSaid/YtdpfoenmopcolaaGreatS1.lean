/-
  What the program's functions and the reference's answer, for all arguments of their kind, in the small machine: part 1.
-/
import Derived.Test.YtdpfoenmopcolaaGreatTabB
import Derived.Test.YtdpfoenmopcolaaGreatK4
import Derived.KernelRfl
import Derived.Test.YtdpfoenmopcolaaGreatProg
import Derived.Test.YtdpfoenmopcolaaGreatTie
import Derived.Test.YtdpfoenmopcolaaGreatEv

set_option linter.unusedVariables false
set_option linter.unusedSimpArgs false
set_option linter.unusedSectionVars false

section
namespace Go.Proofs.YtdpfoenmopcolaaGreat
open Go Km

def withinB (n lo hi : Int) : Bool := decide (lo ≤ n) && decide (n ≤ hi)
theorem withinB_t {n lo hi : Int} (h : withinB n lo hi = true) : lo ≤ n ∧ n ≤ hi := by simpa [withinB] using h
end Go.Proofs.YtdpfoenmopcolaaGreat
end

section
namespace Go.Proofs.YtdpfoenmopcolaaGreat
open Go Km

/-- A periodic set. -/
structure PerD where
  hg : Tg
  head : List Int
  fr : Int
  per : Int
  cg : Tg
  cyc : List Int
def PerD.row (p : PerD) : List FC := [sl p.hg (ints p.head), fi p.fr, fi p.per, sl p.cg (ints p.cyc)]
def perRows (l : List PerD) : List (List FC) := l.map PerD.row
@[simp] theorem perRows_len (l : List PerD) : (perRows l).length = l.length := by simp [perRows]
theorem perRows_grid (l : List PerD) : Grid 4 (perRows l) := Grid.map fun _ => rfl
theorem perRows_at {l : List PerD} {j : Nat} (hj : j < l.length) : (perRows l)[j]? = some l[j].row := by simp [perRows, hj]

/-- The numbers rise, from last on, below a limit. -/
def risingB (limit last : Int) : List Int → Bool
  | [] => true
  | n :: r => decide (last < n) && decide (n < limit) && risingB limit n r
theorem risingB_drop {limit last : Int} {l : List Int} {j : Nat} (hj : j < l.length) : risingB limit last (l.drop j) = (decide (last < l[j]) && decide (l[j] < limit) && risingB limit l[j] (l.drop (j + 1))) := by
  rw [List.drop_eq_getElem_cons hj]; rfl
def perB (p : PerD) : Bool := decide (0 ≤ p.fr) && decide (p.fr ≤ 1099511627776) && decide (1 ≤ p.per) && decide (p.per ≤ 1099511627776) &&
  decide ((p.head.length : Int) + p.cyc.length ≤ 1048576) && risingB p.fr (-1) p.head && risingB p.per (-1) p.cyc

theorem rising_kf (g : Tg) (l : List Int) (limit : Int) (hl : l.length ≤ 9223372036854775807) : Kf tab.get F_x99 [.c (.f (sl g (ints l))), vi limit] (vb (risingB limit (-1) l)) := by
  refine kf_fn T_x99 rfl fun H Q hQ => ?_
  refine kw_seq (kw_region (.inl rfl) ?_)
  simp
  refine kw_seq (kw_region (.inl rfl) ?_)
  simp
  refine kw_seq ?_
  refine kw_seq (kw_region (.inl rfl) ?_)
  simp
  refine kw_for l.length (fun j t H' => t.g 1 = vi limit ∧ t.g 8 = .c (.f (sl g (ints l))) ∧ H = H' ∧ ∃ last, t.g 5 = vi last ∧ risingB limit (-1) l = risingB limit last (l.drop j)) hl (by decide) (by decide) (by simp) (by simp) (by simp) ?_ ?_
  · rintro j t _ hj ⟨g1, g8, rfl, last, g5, hB⟩ ha hb next
    rw [risingB_drop hj] at hB
    refine kw_block ?_
    refine kw_seq (kw_region (.inl rfl) ?_)
    simp [ha, g8, idx_sl, hj, ld_int]
    refine kw_seq ?_
    refine kw_seq (kw_region (.inl rfl) ?_)
    simp [g5, g1]
    by_cases k1 : l[j] ≤ last
    · simp [k1]
      refine kw_cond_t (by simp) ?_
      refine kw_seq (kw_region (.inl rfl) ?_)
      simp
      refine kw_ret (hQ _ _ ?_)
      simp [hB, show ¬ last < l[j] by omega]
    simp [k1, g1]
    by_cases k2 : limit ≤ l[j]
    · simp [k2]
      refine kw_cond_t (by simp) ?_
      refine kw_seq (kw_region (.inl rfl) ?_)
      simp
      refine kw_ret (hQ _ _ ?_)
      simp [hB, show ¬ l[j] < limit by omega]
    simp [k2]
    refine kw_cond_f (by simp) ?_
    refine kw_skip ?_
    refine kw_region (.inl rfl) ?_
    simp
    refine kw_inBlock (next _ _ ?_ (by simp [ha]) (by simp [hb]))
    rw [decide_eq_true (by omega), decide_eq_true (by omega)] at hB
    exact ⟨by simp [g1], by simp [g8], rfl, l[j], by simp, by simpa using hB⟩
  · rintro t _ ⟨g1, g8, rfl, last, g5, hB⟩ ha hb
    refine kw_seq (kw_region (.inl rfl) ?_)
    simp
    refine kw_ret (hQ _ _ ?_)
    simp [hB, risingB]
theorem rising_sp (g : Tg) (l : List Int) (limit : Int) (hl : l.length ≤ 9223372036854775807) :
    Km.Pure tab.get F_x99 [.c (.f (sl g (ints l))), vi limit] = Eq (vb (risingB limit (-1) l)) := (rising_kf g l limit hl).eq

theorem wrap_over {n : Int} (h1 : 9223372036854775807 < n) (h2 : n ≤ 18446744073709551615) : IntKind.wrap .i64 n = n - 18446744073709551616 := by
  simp only [IntKind.wrap, IntKind.bits, IntKind.signed]
  simp
  omega
/-- Numbers that rise below a limit are not many. -/
theorem rising_len : ∀ (l : List Int) (limit last : Int), risingB limit last l = true → l.length = 0 ∨ last + l.length < limit
  | [], _, _, _ => .inl rfl
  | n :: r, limit, last, h => by
    simp [risingB] at h
    have := rising_len r limit n h.2
    simp
    omega
theorem per_kf (p : PerD) (h1 : p.head.length ≤ 9223372036854775807) (h2 : p.cyc.length ≤ 9223372036854775807) :
    Kf tab.get F_x85 [.a (p.row.map .f)] (vb (perB p)) := by
  refine kf_fn T_x85 rfl fun H Q hQ => ?_
  refine kw_seq (kw_region (.inl rfl) ?_)
  simp [PerD.row]
  refine kw_seq (kw_region (.inl rfl) ?_)
  simp
  by_cases k1 : 0 ≤ p.fr
  case neg =>
    simp [k1]
    refine kw_ret (hQ _ _ ?_)
    simp [perB, k1]
  simp [k1]
  by_cases k2 : p.fr ≤ 1099511627776
  case neg =>
    simp [k2]
    refine kw_ret (hQ _ _ ?_)
    simp [perB, k2]
  simp [k2]
  by_cases k3 : 1 ≤ p.per
  case neg =>
    simp [k3]
    refine kw_ret (hQ _ _ ?_)
    simp [perB, k3]
  simp [k3]
  by_cases k4 : p.per ≤ 1099511627776
  case neg =>
    simp [k4]
    refine kw_ret (hQ _ _ ?_)
    simp [perB, k4]
  by_cases ov : p.head.length + p.cyc.length ≤ 9223372036854775807
  case neg =>
    have e : IntKind.wrap .i64 ((p.head.length : Int) + p.cyc.length) = (p.head.length : Int) + p.cyc.length - 18446744073709551616 := wrap_over (by omega) (by omega)
    simp [k4, e, show (p.head.length : Int) + p.cyc.length - 18446744073709551616 ≤ 1048576 by omega, rising_sp p.hg p.head p.fr h1]
    cases k6 : risingB p.fr (-1) p.head
    · simp
      refine kw_ret (hQ _ _ ?_)
      simp [perB, k6]
    simp [rising_sp p.cg p.cyc p.per h2]
    have k7 : risingB p.per (-1) p.cyc = false := by
      have a := rising_len _ _ _ k6
      cases k7 : risingB p.per (-1) p.cyc
      · rfl
      · have b := rising_len _ _ _ k7
        omega
    refine kw_ret (hQ _ _ ?_)
    simp [perB, k7]
  simp [k4, wrap64 (n := (p.head.length : Int) + p.cyc.length) (by omega) (by omega)]
  by_cases k5 : (p.head.length : Int) + p.cyc.length ≤ 1048576
  case neg =>
    simp [k5]
    refine kw_ret (hQ _ _ ?_)
    simp [perB, k5]
  simp [k5, rising_sp p.hg p.head p.fr h1]
  cases k6 : risingB p.fr (-1) p.head
  · simp
    refine kw_ret (hQ _ _ ?_)
    simp [perB, k6]
  simp [rising_sp p.cg p.cyc p.per h2]
  refine kw_ret (hQ _ _ ?_)
  simp [perB, k1, k2, k3, k4, k5, k6]
end Go.Proofs.YtdpfoenmopcolaaGreat
end

section
namespace Go.Proofs.YtdpfoenmopcolaaGreat
open Go Km

def PerD.Sm (p : PerD) : Prop := p.head.length ≤ 9223372036854775807 ∧ p.cyc.length ≤ 9223372036854775807
theorem per_sp (p : PerD) (h : p.Sm) : Km.Pure tab.get F_x85 [.a (p.row.map .f)] = Eq (vb (perB p)) := (per_kf p h.1 h.2).eq
theorem perB_sm {p : PerD} (h : perB p = true) : p.Sm := by
  simp [perB] at h
  exact ⟨by omega, by omega⟩

/-- A term. -/
structure TermD where
  tg : Tg
  fs : List PerD
def TermD.row (t : TermD) : List FC := [sl t.tg (perRows t.fs)]
def termRows (l : List TermD) : List (List FC) := l.map TermD.row
@[simp] theorem termRows_len (l : List TermD) : (termRows l).length = l.length := by simp [termRows]
theorem termRows_grid (l : List TermD) : Grid 1 (termRows l) := Grid.map fun _ => rfl
theorem termRows_at {l : List TermD} {j : Nat} (hj : j < l.length) : (termRows l)[j]? = some l[j].row := by simp [termRows, hj]
def TermD.Sm (t : TermD) : Prop := t.fs.length ≤ 9223372036854775807 ∧ ∀ p ∈ t.fs, p.Sm
def termB (t : TermD) : Bool := decide (1 ≤ (t.fs.length : Int)) && decide ((t.fs.length : Int) ≤ 4) && t.fs.all perB
def mixB (l : List TermD) : Bool := decide ((l.length : Int) ≤ 64) && l.all termB
theorem all_drop {α : Type} {l : List α} {p : α → Bool} {j : Nat} (hj : j < l.length) : (l.drop j).all p = (p l[j] && (l.drop (j + 1)).all p) := by
  rw [List.drop_eq_getElem_cons hj, List.all_cons]

theorem bad_kf (p : PerD) (h : p.Sm) : Kf tab.get F_x54 [.a (p.row.map .f)] (vb (!perB p)) := by
  refine kf_fn T_x54 rfl fun H Q hQ => ?_
  have hv := per_sp p h
  simp [PerD.row] at hv
  refine kw_seq (kw_region (.inl rfl) ?_)
  simp [PerD.row]
  refine kw_seq (kw_region (.inl rfl) ?_)
  simp [hv]
  refine kw_ret (hQ _ _ ?_)
  simp
theorem anybad_sp (g : Tg) (l : List PerD) (hl : l.length ≤ 9223372036854775807) (h : ∀ p ∈ l, p.Sm) :
    Km.Pure tab.get F_x119 [.c (.f (sl g (perRows l))), .c (.f (.fn F_x54 []))] = Eq (vb (l.any fun p => !perB p)) :=
  (contains_kf T_x119 (indexf_kf T_x125 l PerD.row (fun r => .a (r.row.map .f)) (fun p => !perB p) g F_x54 [] hl
    (fun j hj H => ld_rowa (perRows_grid l) (perRows_at hj)) (fun p hp => bad_kf p (h p hp)))).eq

theorem mix_kf (g : Tg) (l : List TermD) (hl : l.length ≤ 9223372036854775807) (h : ∀ t ∈ l, t.Sm) : Kf tab.get F_x53 [.a [.f (sl g (termRows l))]] (vb (mixB l)) := by
  refine kf_fn T_x53 rfl fun H Q hQ => ?_
  refine kw_seq (kw_region (.inl rfl) ?_)
  simp
  refine kw_seq ?_
  refine kw_seq (kw_region (.inl rfl) ?_)
  simp
  by_cases k1 : (64 : Int) < l.length
  · simp [k1]
    refine kw_cond_t (by simp) ?_
    refine kw_seq (kw_region (.inl rfl) ?_)
    simp
    refine kw_ret (hQ _ _ ?_)
    simp [mixB, show ¬ (l.length : Int) ≤ 64 by omega]
  simp [k1]
  refine kw_cond_f (by simp) ?_
  refine kw_skip ?_
  refine kw_seq ?_
  refine kw_seq (kw_region (.inl rfl) ?_)
  simp
  refine kw_for l.length (fun j t H' => t.g 10 = .c (.f (sl g (termRows l))) ∧ (∃ J, H' = H ++ J) ∧ l.all termB = (l.drop j).all termB) hl (by decide) (by decide) (by simp) (by simp) (by simp) ?_ ?_
  · rintro j t _ hj ⟨g10, ⟨J, rfl⟩, hB⟩ ha hb next
    rw [all_drop hj] at hB
    have hs := h l[j] (List.getElem_mem hj)
    have hrow := ld_row (H := H ++ J) (k := 0) (termRows_grid l) (termRows_at hj) rfl
    refine kw_block ?_
    refine kw_seq (kw_region (.inl rfl) ?_)
    simp at hrow
    simp [ha, g10, idx_sl, hj, hrow]
    have bad : termB l[j] = false → ∀ (t : T) (J : Heap) k, WP tab.get F_x53 none (.code (.region [⟨D 2, .mov (.k (.c (.f (.bool false)))), none⟩] []) :: .code .ret :: k) ⟨t, [], H ++ J⟩ Q := by
      intro hf t J k
      refine kw_region (.inl rfl) ?_
      simp
      refine kw_ret (hQ _ _ ?_)
      simp [mixB, hB, hf]
    refine kw_seq (kw_region (.inl rfl) ?_)
    simp
    by_cases k2 : (l[j].fs.length : Int) < 1
    · simp [k2]
      exact kw_cond_t (by simp) (kw_seq (bad (by simp [termB, show ¬ 1 ≤ (l[j].fs.length : Int) by omega]) _ _ _))
    simp [k2]
    by_cases k3 : (4 : Int) < l[j].fs.length
    · simp [k3]
      exact kw_cond_t (by simp) (kw_seq (bad (by simp [termB, show ¬ (l[j].fs.length : Int) ≤ 4 by omega]) _ _ _))
    simp [k3, anybad_sp l[j].tg l[j].fs hs.1 hs.2]
    cases k4 : l[j].fs.any fun p => !perB p
    · have : termB l[j] = true := by
        simp [termB] at k4 ⊢
        exact ⟨⟨by omega, by omega⟩, k4⟩
      refine kw_cond_f (by simp) ?_
      refine kw_skip (kw_inBlock (next _ _ ?_ (by simp [ha]) (by simp [hb])))
      rw [this, Bool.true_and] at hB
      exact ⟨by simp [g10], ⟨_, rfl⟩, hB⟩
    · exact kw_cond_t (by simp) (kw_seq (bad (by simp [termB] at k4 ⊢; intro _ _; exact k4) _ _ _))
  · rintro t _ ⟨g10, ⟨J, rfl⟩, hB⟩ ha hb
    refine kw_seq (kw_region (.inl rfl) ?_)
    simp
    refine kw_ret (hQ _ _ ?_)
    simp [mixB, hB, show (l.length : Int) ≤ 64 by omega]
end Go.Proofs.YtdpfoenmopcolaaGreat
end

section
namespace Go.Proofs.YtdpfoenmopcolaaGreat
open Go Km

/-! ### Comparing -/
theorem isNaN_sp (a : Int) : Km.Pure tab.get F_x5 [vi a] = Eq (vb false) := (show Kf tab.get F_x5 [vi a] (vb false) by
  refine kf_fn T_x5 rfl fun H Q hQ => ?_
  refine kw_seq (kw_region (.inl rfl) ?_)
  simp
  refine kw_seq (kw_region (.inl rfl) ?_)
  simp
  refine kw_ret (hQ _ _ ?_)
  simp).eq

def cmpI (a b : Int) : Int := if a < b then -1 else if b < a then 1 else 0
theorem compare_kf (a b : Int) : Kf tab.get F_x2 [vi a, vi b] (vi (cmpI a b)) := by
  refine kf_fn T_x2 rfl fun H Q hQ => ?_
  refine kw_seq (kw_region (.inl rfl) ?_)
  simp
  refine kw_seq (kw_region (.inl rfl) ?_)
  simp [isNaN_sp]
  refine kw_seq (kw_region (.inl rfl) ?_)
  simp [isNaN_sp]
  refine kw_seq ?_
  refine kw_seq (kw_region (.inl rfl) ?_)
  simp
  refine kw_cond_f (by simp) (kw_skip ?_)
  refine kw_seq ?_
  refine kw_seq (kw_region (.inl rfl) ?_)
  simp
  refine kw_cond_f (by simp) (kw_skip ?_)
  refine kw_seq ?_
  refine kw_seq (kw_region (.inl rfl) ?_)
  simp
  by_cases h : a < b
  · refine kw_cond_t (by simp [h]) ?_
    refine kw_seq (kw_region (.inl rfl) ?_)
    simp
    refine kw_ret (hQ _ _ ?_)
    simp [cmpI, h]
  refine kw_cond_f (by simp [h]) (kw_skip ?_)
  refine kw_seq ?_
  refine kw_seq (kw_region (.inl rfl) ?_)
  simp
  by_cases h' : b < a
  · refine kw_cond_t (by simp [h']) ?_
    refine kw_seq (kw_region (.inl rfl) ?_)
    simp
    refine kw_ret (hQ _ _ ?_)
    simp [cmpI, h, h']
  refine kw_cond_f (by simp [h']) (kw_skip ?_)
  refine kw_seq (kw_region (.inl rfl) ?_)
  simp
  refine kw_ret (hQ _ _ ?_)
  simp [cmpI, h, h']
theorem compare_sp (a b : Int) : Km.Pure tab.get F_x2 [vi a, vi b] = Eq (vi (cmpI a b)) := (compare_kf a b).eq

/-- The first that is not 0. -/
def orI : List Int → Int
  | [] => 0
  | a :: r => if a = 0 then orI r else a
theorem orI_drop {l : List Int} {j : Nat} (hj : j < l.length) : orI (l.drop j) = if l[j] = 0 then orI (l.drop (j + 1)) else l[j] := by
  rw [List.drop_eq_getElem_cons hj]; rfl
theorem or_kf (g : Tg) (l : List Int) (hl : l.length ≤ 9223372036854775807) : Kf tab.get F_x4 [.c (.f (sl g (ints l)))] (vi (orI l)) := by
  refine kf_fn T_x4 rfl fun H Q hQ => ?_
  refine kw_seq (kw_region (.inl rfl) ?_)
  simp
  refine kw_seq (kw_region (.inl rfl) ?_)
  simp
  refine kw_seq ?_
  refine kw_seq (kw_region (.inl rfl) ?_)
  simp
  refine kw_for l.length (fun j t H' => t.g 3 = vi 0 ∧ t.g 6 = .c (.f (sl g (ints l))) ∧ H = H' ∧ orI l = orI (l.drop j)) hl (by decide) (by decide) (by simp) (by simp) (by simp) ?_ ?_
  · rintro j t _ hj ⟨g3, g6, rfl, hB⟩ ha hb next
    rw [orI_drop hj] at hB
    refine kw_block ?_
    refine kw_seq (kw_region (.inl rfl) ?_)
    simp [ha, g6, idx_sl, hj, ld_int]
    refine kw_seq (kw_region (.inl rfl) ?_)
    simp [g3]
    by_cases h : l[j] = 0
    · refine kw_cond_f (by simp [h]) ?_
      refine kw_skip (kw_inBlock (next _ _ ?_ (by simp [ha]) (by simp [hb])))
      rw [if_pos h] at hB
      exact ⟨by simp [g3], by simp [g6], rfl, hB⟩
    · refine kw_cond_t (by simp [h]) ?_
      refine kw_seq (kw_region (.inl rfl) ?_)
      simp
      refine kw_ret (hQ _ _ ?_)
      simp [hB, h]
  · rintro t _ ⟨g3, g6, rfl, hB⟩ ha hb
    refine kw_seq (kw_region (.inl rfl) ?_)
    simp [g3]
    refine kw_ret (hQ _ _ ?_)
    simp [hB, orI]
theorem or_sp (g : Tg) (l : List Int) (hl : l.length ≤ 9223372036854775807) : Km.Pure tab.get F_x4 [.c (.f (sl g (ints l)))] = Eq (vi (orI l)) := (or_kf g l hl).eq

theorem ein_kf (n lo hi : Int) : Kf tab.get F_x21 [vi n, vi lo, vi hi] (vb (withinB n lo hi)) := by
  refine kf_fn T_x21 rfl fun H Q hQ => ?_
  refine kw_seq (kw_region (.inl rfl) ?_)
  simp
  refine kw_seq (kw_region (.inl rfl) ?_)
  by_cases h : lo ≤ n
  · simp [h]
    refine kw_ret (hQ _ _ ?_)
    simp [withinB, h]
  · simp [h]
    refine kw_ret (hQ _ _ ?_)
    simp [withinB, h]
@[simp] theorem ein_sp (n lo hi : Int) : Km.Pure tab.get F_x21 [vi n, vi lo, vi hi] = Eq (vb (withinB n lo hi)) := (ein_kf n lo hi).eq

/-! ### Instances, streams -/
structure InstD where
  day : Int
  fr : Int
  to : Int
deriving DecidableEq
def InstD.row (x : InstD) : List FC := [fi x.day, fi x.fr, fi x.to]
def instRows (l : List InstD) : List (List FC) := l.map InstD.row
@[simp] theorem instRows_len (l : List InstD) : (instRows l).length = l.length := by simp [instRows]
theorem instRows_grid (l : List InstD) : Grid 3 (instRows l) := Grid.map fun _ => rfl
theorem instRows_at {l : List InstD} {j : Nat} (hj : j < l.length) : (instRows l)[j]? = some l[j].row := by simp [instRows, hj]
def ordI (x y : InstD) : Int := orI [cmpI x.fr y.fr, cmpI x.day y.day, cmpI x.to y.to]
theorem order_kf (x y : InstD) : Kf tab.get F_x27 [.a (x.row.map .f), .a (y.row.map .f)] (vi (ordI x y)) := by
  refine kf_fn T_x27 rfl fun H Q hQ => ?_
  have ho := or_sp .fs [cmpI x.fr y.fr, cmpI x.day y.day, cmpI x.to y.to] (by simp)
  simp [ints, sl, Tg.fc] at ho
  refine kw_seq (kw_region (.inl rfl) ?_)
  simp [InstD.row]
  refine kw_seq (kw_region (.inl rfl) ?_)
  simp [compare_sp, deep, ex_sl, mk_sl, ho]
  refine kw_ret (hQ _ _ ?_)
  simp [ordI]
end Go.Proofs.YtdpfoenmopcolaaGreat
end

section
namespace Go.Proofs.YtdpfoenmopcolaaGreat
open Go Km

theorem order_sp (x y : InstD) : Km.Pure tab.get F_x27 [.a (x.row.map .f), .a (y.row.map .f)] = Eq (vi (ordI x y)) := (order_kf x y).eq
theorem mix_sp (g : Tg) (l : List TermD) (hl : l.length ≤ 9223372036854775807) (h : ∀ t ∈ l, t.Sm) : Km.Pure tab.get F_x53 [.a [.f (sl g (termRows l))]] = Eq (vb (mixB l)) := (mix_kf g l hl h).eq

structure ClassD where
  mg : Tg
  ts : List TermD
  min : Int
def ClassD.row (c : ClassD) : List FC := [sl c.mg (termRows c.ts), fi c.min]
def classRows (l : List ClassD) : List (List FC) := l.map ClassD.row
@[simp] theorem classRows_len (l : List ClassD) : (classRows l).length = l.length := by simp [classRows]
theorem classRows_grid (l : List ClassD) : Grid 2 (classRows l) := Grid.map fun _ => rfl
theorem classRows_at {l : List ClassD} {j : Nat} (hj : j < l.length) : (classRows l)[j]? = some l[j].row := by simp [classRows, hj]
structure StreamD where
  cg : Tg
  cs : List ClassD
  len : Int
  xg : Tg
  xs : List InstD
def StreamD.row (s : StreamD) : List FC := [sl s.cg (classRows s.cs), fi s.len, sl s.xg (instRows s.xs)]
/-- No list is longer than an int says. -/
def StreamD.Sm (s : StreamD) : Prop := s.cs.length ≤ 9223372036854775807 ∧ s.xs.length ≤ 9223372036854775807 ∧ ∀ c ∈ s.cs, c.ts.length ≤ 9223372036854775807 ∧ ∀ t ∈ c.ts, t.Sm

def classesB : Option Int → List ClassD → Bool
  | _, [] => true
  | prev, c :: r => mixB c.ts && withinB c.min (-4320) 4320 && (prev.all fun m => decide (m < c.min)) && classesB (some c.min) r
def goodB (x : InstD) : Bool := withinB x.day 0 1099511627776 && withinB x.fr (-2251799813685248) 1583296743997439 && withinB x.to (x.fr + 1) (x.fr + 10080)
def extraB : Option InstD → List InstD → Bool
  | _, [] => true
  | prev, x :: r => goodB x && (prev.all fun m => decide (ordI m x < 0)) && extraB (some x) r
def streamB (s : StreamD) : Bool := decide ((s.cs.length : Int) ≤ 64) && withinB s.len 1 10080 && decide ((s.xs.length : Int) ≤ 4096) && classesB none s.cs && extraB none s.xs
theorem classesB_drop {p : Option Int} {l : List ClassD} {j : Nat} (hj : j < l.length) : classesB p (l.drop j) = (mixB l[j].ts && withinB l[j].min (-4320) 4320 && (p.all fun m => decide (m < l[j].min)) && classesB (some l[j].min) (l.drop (j + 1))) := by
  rw [List.drop_eq_getElem_cons hj]; rfl
theorem extraB_drop {p : Option InstD} {l : List InstD} {j : Nat} (hj : j < l.length) : extraB p (l.drop j) = (goodB l[j] && (p.all fun m => decide (ordI m l[j] < 0)) && extraB (some l[j]) (l.drop (j + 1))) := by
  rw [List.drop_eq_getElem_cons hj]; rfl

theorem stream_kf (s : StreamD) (h : s.Sm) : Kf tab.get F_x16 [.a (s.row.map .f)] (vb (streamB s)) := by
  obtain ⟨hc, hx, hts⟩ := h
  refine kf_fn T_x16 rfl fun H Q hQ => ?_
  have bad : streamB s = false → ∀ (t : T) (J : Heap) k, WP tab.get F_x16 none (.code (.region [⟨D 2, .mov (.k (.c (.f (.bool false)))), none⟩] []) :: .code .ret :: k) ⟨t, [], H ++ J⟩ Q := by
    intro hf t J k
    refine kw_region (.inl rfl) ?_
    simp
    refine kw_ret (hQ _ _ ?_)
    simp [hf]
  refine kw_seq (kw_region (.inl rfl) ?_)
  simp [StreamD.row]
  refine kw_seq ?_
  refine kw_seq (kw_region (.inl rfl) ?_)
  simp
  by_cases k1 : (64 : Int) < s.cs.length
  · simp [k1]
    exact kw_cond_t (by simp) (kw_seq (bad (by simp [streamB, show ¬ (s.cs.length : Int) ≤ 64 by omega]) _ _ _))
  simp [k1]
  cases k2 : withinB s.len 1 10080
  · simp
    exact kw_cond_t (by simp) (kw_seq (bad (by simp [streamB, k2]) _ _ _))
  simp
  by_cases k3 : (4096 : Int) < s.xs.length
  · simp [k3]
    exact kw_cond_t (by simp) (kw_seq (bad (by simp [streamB, show ¬ (s.xs.length : Int) ≤ 4096 by omega]) _ _ _))
  simp [k3]
  have hS : streamB s = (classesB none s.cs && extraB none s.xs) := by simp [streamB, k2, show (s.cs.length : Int) ≤ 64 by omega, show (s.xs.length : Int) ≤ 4096 by omega]
  rw [hS] at bad
  refine kw_cond_f (by simp) ?_
  refine kw_skip ?_
  refine kw_seq ?_
  refine kw_seq (kw_region (.inl rfl) ?_)
  simp
  obtain ⟨ROW, hROW⟩ : ∃ x, x = [C.f (sl s.cg (classRows s.cs)), C.f (fi s.len), C.f (sl s.xg (instRows s.xs))] := ⟨_, rfl⟩
  rw [← hROW]
  have hr0 : ROW.drop 0 = [C.f (sl s.cg (classRows s.cs)), C.f (fi s.len), C.f (sl s.xg (instRows s.xs))] := by rw [hROW]; rfl
  have hr2 : ROW.drop 2 = [C.f (sl s.xg (instRows s.xs))] := by rw [hROW]; rfl
  have hr3 : ROW = C.f (sl s.cg (classRows s.cs)) :: [C.f (fi s.len), C.f (sl s.xg (instRows s.xs))] := hROW
  refine kw_for s.cs.length (fun j t H' => t.g 1 = .c (.ptr H.length 0 0) ∧ t.g 25 = .c (.f (sl s.cg (classRows s.cs))) ∧ (∃ J, H' = H ++ (.box ROW 0 :: J)) ∧
    ∃ prev, (∀ m, j = m + 1 → ∀ h : m < s.cs.length, prev = some (s.cs[m]'h).min) ∧ (j = 0 → prev = none) ∧ classesB none s.cs = classesB prev (s.cs.drop j)) hc (by decide) (by decide) (by simp) (by simp)
      ⟨by simp, by simp, ⟨[], by simp⟩, none, by omega, by simp, by simp⟩ ?_ ?_
  · rintro j t _ hj ⟨g1, g25, ⟨J, rfl⟩, prev, l1, l2, hB⟩ ha hb next
    rw [classesB_drop hj] at hB
    have hld := ld_rowa (H := H ++ (.box ROW 0 :: J)) (classRows_grid s.cs) (classRows_at hj)
    have hm := mix_sp s.cs[j].mg s.cs[j].ts (hts _ (List.getElem_mem hj)).1 (hts _ (List.getElem_mem hj)).2
    refine kw_block ?_
    refine kw_seq (kw_region (.inl rfl) ?_)
    simp [ha, g25, idx_sl, hj, hld, ClassD.row]
    refine kw_seq (kw_region (.inl rfl) ?_)
    simp [hm]
    cases k4 : mixB s.cs[j].ts
    · simp
      exact kw_cond_t (by simp) (kw_seq (bad (by simp [hB, k4]) _ _ _))
    simp
    cases k5 : withinB s.cs[j].min (-4320) 4320
    · simp
      exact kw_cond_t (by simp) (kw_seq (bad (by simp [hB, k5]) _ _ _))
    simp
    have go : (prev.all fun m => decide (m < s.cs[j].min)) = true → ∃ prev', (∀ m, j + 1 = m + 1 → ∀ h : m < s.cs.length, prev' = some (s.cs[m]'h).min) ∧ (j + 1 = 0 → prev' = none) ∧ classesB none s.cs = classesB prev' (s.cs.drop (j + 1)) := by
      intro hp
      rw [k4, k5, hp, Bool.true_and, Bool.true_and, Bool.true_and] at hB
      refine ⟨some s.cs[j].min, fun m hm h => ?_, by omega, hB⟩
      have : m = j := by omega
      subst this; rfl
    cases j with
    | zero =>
      simp
      refine kw_cond_f (by simp) ?_
      refine kw_skip (kw_inBlock (next _ _ ?_ (by simp [ha]) (by simp [hb])))
      exact ⟨by simp [g1], by simp [g25], ⟨_, rfl⟩, go (by rw [l2 rfl]; rfl)⟩
    | succ m =>
      have hm : m < s.cs.length := by omega
      have hl1 := l1 m rfl hm
      have e1 : ((m + 1 : Nat) : Int) - 1 = m := by omega
      have hrow := ld_row (H := H ++ (Blk.box ROW 0 :: (J ++ [Blk.box [C.f (sl s.cs[m + 1].mg (termRows s.cs[m + 1].ts)), C.f (fi s.cs[m + 1].min)] 0]))) (k := 1) (classRows_grid s.cs) (classRows_at hm) rfl
      rw [hr3] at hrow
      simp [show 0 < m + 1 by omega, g1, hr3, wrap64 (n := (m : Int)) (by omega) (by omega), idx_sl, hm, hrow]
      by_cases k6 : s.cs[m + 1].min ≤ s.cs[m].min
      · simp [k6]
        have b := bad (by simp [hB, hl1, show ¬ s.cs[m].min < s.cs[m + 1].min by omega])
        refine kw_cond_t (by simp) ?_
        exact kw_seq (b _ _ _)
      · simp [k6]
        refine kw_cond_f (by simp) ?_
        refine kw_skip (kw_inBlock (next _ _ ?_ (by simp [ha]) (by simp [hb])))
        exact ⟨by simp [g1], by simp [g25], ⟨_, by rw [hr3]⟩, go (by rw [hl1]; simp; omega)⟩
  · rintro t _ ⟨g1, g25, ⟨J, rfl⟩, prev, l1, l2, hB⟩ ha hb
    have hC : classesB none s.cs = true := by rw [hB]; simp [classesB]
    rw [hC, Bool.true_and] at bad hS
    refine kw_seq ?_
    refine kw_seq (kw_region (.inl rfl) ?_)
    simp [g1, hr2]
    refine kw_for s.xs.length (fun j t H' => t.g 1 = .c (.ptr H.length 0 0) ∧ t.g 60 = .c (.f (sl s.xg (instRows s.xs))) ∧ (∃ J, H' = H ++ (.box ROW 0 :: J)) ∧
      ∃ prev, (∀ m, j = m + 1 → ∀ h : m < s.xs.length, prev = some (s.xs[m]'h)) ∧ (j = 0 → prev = none) ∧ extraB none s.xs = extraB prev (s.xs.drop j)) hx (by decide) (by decide) (by simp) (by simp)
        ⟨by simp [g1], by simp, ⟨J, by simp⟩, none, by omega, by simp, by simp⟩ ?_ ?_
    · rintro j t _ hj ⟨g1, g60, ⟨J, rfl⟩, prev, l1, l2, hB⟩ ha hb next
      rw [extraB_drop hj] at hB
      have hld := ld_rowa (H := H ++ (.box ROW 0 :: J)) (instRows_grid s.xs) (instRows_at hj)
      refine kw_block ?_
      refine kw_seq (kw_region (.inl rfl) ?_)
      simp [ha, g60, idx_sl, hj, hld, InstD.row]
      have off : goodB s.xs[j] = false → ∀ (t : T) (J : Heap) k, t.g 7 = vb false → WP tab.get F_x16 none (.code C_x16_42 :: k) ⟨t, [], H ++ J⟩ Q := by
        intro hf t J k g7
        refine kw_seq (kw_region (.inl rfl) ?_)
        simp [g7]
        exact kw_cond_t (by simp) (kw_seq (bad (by simp [hB, hf]) _ _ _))
      have go : goodB s.xs[j] = true → (prev.all fun m => decide (ordI m s.xs[j] < 0)) = true → ∃ prev', (∀ m, j + 1 = m + 1 → ∀ h : m < s.xs.length, prev' = some (s.xs[m]'h)) ∧ (j + 1 = 0 → prev' = none) ∧ extraB none s.xs = extraB prev' (s.xs.drop (j + 1)) := by
        intro hg hp
        rw [hg, hp, Bool.true_and, Bool.true_and] at hB
        refine ⟨some s.xs[j], fun m hm h => ?_, by omega, hB⟩
        have : m = j := by omega
        subst this; rfl
      refine kw_seq (kw_region (.inl rfl) ?_)
      simp
      cases k4 : withinB s.xs[j].day 0 1099511627776
      · simp
        exact off (by simp [goodB, k4]) _ _ _ (by simp)
      simp
      cases k5 : withinB s.xs[j].fr (-2251799813685248) 1583296743997439
      · simp
        exact off (by simp [goodB, k5]) _ _ _ (by simp)
      have w5 := withinB_t k5
      simp [wrap64 (n := s.xs[j].fr + 1) (by omega) (by omega), wrap64 (n := s.xs[j].fr + 10080) (by omega) (by omega)]
      cases k6 : withinB s.xs[j].to (s.xs[j].fr + 1) (s.xs[j].fr + 10080)
      · exact off (by simp [goodB, k6]) _ _ _ (by simp)
      have hg : goodB s.xs[j] = true := by simp [goodB, k4, k5, k6]
      refine kw_seq (kw_region (.inl rfl) ?_)
      simp
      cases j with
      | zero =>
        simp
        refine kw_cond_f (by simp) ?_
        refine kw_skip (kw_inBlock (next _ _ ?_ (by simp [ha]) (by simp [hb])))
        exact ⟨by simp [g1], by simp [g60], ⟨_, rfl⟩, go hg (by rw [l2 rfl]; rfl)⟩
      | succ m =>
        have hm : m < s.xs.length := by omega
        have hl1 := l1 m rfl hm
        have e1 : ((m + 1 : Nat) : Int) - 1 = m := by omega
        have hrow := ld_rowa (H := H ++ (.box ROW 0 :: (J ++ [Blk.box [C.f (fi s.xs[m + 1].day), C.f (fi s.xs[m + 1].fr), C.f (fi s.xs[m + 1].to)] 0]))) (instRows_grid s.xs) (instRows_at hm)
        have hord := order_sp s.xs[m] s.xs[m + 1]
        simp [InstD.row] at hord hrow
        simp [show 0 < m + 1 by omega, g1, hr2, wrap64 (n := (m : Int)) (by omega) (by omega), idx_sl, hm, hrow, hord]
        by_cases k7 : 0 ≤ ordI s.xs[m] s.xs[m + 1]
        · simp [k7]
          have b := bad (by simp [hB, hl1, show ¬ ordI s.xs[m] s.xs[m + 1] < 0 by omega])
          refine kw_cond_t (by simp) ?_
          exact kw_seq (b _ _ _)
        · simp [k7]
          refine kw_cond_f (by simp) ?_
          refine kw_skip (kw_inBlock (next _ _ ?_ (by simp [ha]) (by simp [hb])))
          exact ⟨by simp [g1], by simp [g60], ⟨_, rfl⟩, go hg (by rw [hl1]; simp; omega)⟩
    · rintro t _ ⟨g1, g60, ⟨J, rfl⟩, prev, l1, l2, hB⟩ ha hb
      have hX : extraB none s.xs = true := by rw [hB]; simp [extraB]
      refine kw_seq (kw_region (.inl rfl) ?_)
      simp
      refine kw_ret (hQ _ _ ?_)
      simp [hS, hX]
end Go.Proofs.YtdpfoenmopcolaaGreat
end

section
namespace Go.Proofs.YtdpfoenmopcolaaGreat
open Go Km

theorem rrising_kf (g : Tg) (l : List Int) (limit : Int) (hl : l.length ≤ 9223372036854775807) : Kf tab.get F_x102 [.c (.f (sl g (ints l))), vi limit] (vb (risingB limit (-1) l)) := by
  refine kf_fn T_x102 rfl fun H Q hQ => ?_
  have bad : risingB limit (-1) l = false → ∀ (t : T) k, WP tab.get F_x102 none (.code (.region [⟨D 4, .mov (.k (.c (.f (.bool false)))), none⟩] []) :: .code .ret :: k) ⟨t, [], H⟩ Q := by
    intro hf t k
    refine kw_region (.inl rfl) ?_
    simp
    refine kw_ret (hQ _ _ ?_)
    simp [hf]
  refine kw_seq (kw_region (.inl rfl) ?_)
  simp
  refine kw_seq ?_
  refine kw_seq (kw_region (.inl rfl) ?_)
  simp
  refine kw_cfor l.length (fun j t H' => t.g 0 = .c (.f (sl g (ints l))) ∧ t.g 1 = vi limit ∧ H = H' ∧ ∃ last, -1 ≤ last ∧ (∀ m, j = m + 1 → ∀ h : m < l.length, last = (l[m]'h)) ∧ (j = 0 → last = -1) ∧ risingB limit (-1) l = risingB limit last (l.drop j)) hl rfl (by simp)
    ⟨by simp, by simp, rfl, -1, by omega, by omega, by simp, by simp⟩ ?_ ?_ ?_
  · rintro j t _ L hj ⟨g0, g1, rfl, h⟩ ha hL
    simp [ha, g0]
    exact hL _ ⟨by simp [g0], by simp [g1], rfl, h⟩ (by simp [ha]) (by simp)
  · rintro j t _ hj ⟨g0, g1, rfl, last, l0, l1, l2, hB⟩ ha next
    rw [risingB_drop hj] at hB
    refine kw_block ?_
    refine kw_seq (kw_region (.inl rfl) ?_)
    simp [g0, g1, ha, idx_sl, hj, ld_int]
    by_cases k1 : l[j] < 0
    · simp [k1]
      refine kw_cond_t (by simp) (kw_seq (bad ?_ _ _))
      rw [hB, decide_eq_false (show ¬ last < l[j] by omega)]; rfl
    simp [k1, g0, g1, ha, idx_sl, hj, ld_int]
    by_cases k2 : limit ≤ l[j]
    · simp [k2]
      refine kw_cond_t (by simp) (kw_seq (bad ?_ _ _))
      rw [hB, decide_eq_false (show ¬ l[j] < limit by omega)]; simp
    simp [k2, ha]
    have go : last < l[j] → ∃ last', -1 ≤ last' ∧ (∀ m, j + 1 = m + 1 → ∀ h : m < l.length, last' = (l[m]'h)) ∧ (j + 1 = 0 → last' = -1) ∧ risingB limit (-1) l = risingB limit last' (l.drop (j + 1)) := by
      intro h
      rw [decide_eq_true h, decide_eq_true (show l[j] < limit by omega), Bool.true_and, Bool.true_and] at hB
      refine ⟨l[j], by omega, fun m hm h => ?_, by omega, hB⟩
      have : m = j := by omega
      subst this; rfl
    cases j with
    | zero =>
      simp
      refine kw_cond_f (by simp) ?_
      refine kw_skip (kw_inBlock (next _ _ ?_ (by simp [ha])))
      exact ⟨by simp [g0], by simp [g1], rfl, go (by have := l2 rfl; omega)⟩
    | succ m =>
      have hm : m < l.length := by omega
      have hl1 := l1 m rfl hm
      have e1 : ((m + 1 : Nat) : Int) - 1 = m := by omega
      have hidx : ∀ H : Heap, indexAV H 1 none (.c (.f (sl g (ints l)))) (vi ((m : Int) + 1)) = some (.c (.f (.fp (ints l).flatten (m + 1)))) := fun H => by
        have := idx_sl (H := H) (g := g) (rows := ints l) (sz := 1) (k := .i64) (i := (m : Int) + 1) (by omega) (by simp; omega)
        rwa [show ((m : Int) + 1).toNat = m + 1 by omega, Nat.mul_one] at this
      simp [show 0 < m + 1 by omega, hidx, g0, ha, e1, wrap64 (n := (m : Int)) (by omega) (by omega), idx_sl, hj, hm, ld_int]
      by_cases k3 : l[m + 1] ≤ l[m]
      · simp [k3]
        refine kw_cond_t (by simp) (kw_seq (bad ?_ _ _))
        rw [hB, decide_eq_false (show ¬ last < l[m + 1] by omega)]; rfl
      · simp [k3]
        refine kw_cond_f (by simp) ?_
        refine kw_skip (kw_inBlock (next _ _ ?_ (by simp [ha])))
        exact ⟨by simp [g0], by simp [g1], rfl, go (by omega)⟩
  · rintro t _ ⟨g0, g1, rfl, last, l0, l1, l2, hB⟩ ha
    refine kw_seq (kw_region (.inl rfl) ?_)
    simp
    refine kw_ret (hQ _ _ ?_)
    simp [hB, risingB]
theorem rrising_sp (g : Tg) (l : List Int) (limit : Int) (hl : l.length ≤ 9223372036854775807) :
    Km.Pure tab.get F_x102 [.c (.f (sl g (ints l))), vi limit] = Eq (vb (risingB limit (-1) l)) := (rrising_kf g l limit hl).eq

theorem rper_kf (p : PerD) (h : p.Sm) : Kf tab.get F_x101 [.a (p.row.map .f)] (vb (perB p)) := by
  obtain ⟨h1, h2⟩ : p.head.length ≤ 9223372036854775807 ∧ p.cyc.length ≤ 9223372036854775807 := h
  refine kf_fn T_x101 rfl fun H Q hQ => ?_
  have bad : perB p = false → ∀ (t : T) (J : Heap) k, WP tab.get F_x101 none (.code (.region [⟨D 2, .mov (.k (.c (.f (.bool false)))), none⟩] []) :: .code .ret :: k) ⟨t, [], H ++ J⟩ Q := by
    intro hf t J k
    refine kw_region (.inl rfl) ?_
    simp
    refine kw_ret (hQ _ _ ?_)
    simp [hf]
  refine kw_seq (kw_region (.inl rfl) ?_)
  simp [PerD.row]
  refine kw_seq ?_
  refine kw_seq (kw_region (.inl rfl) ?_)
  simp
  by_cases k1 : p.fr < 0
  · simp [k1]
    exact kw_cond_t (by simp) (kw_seq (bad (by simp [perB, show ¬ 0 ≤ p.fr by omega]) _ _ _))
  simp [k1]
  by_cases k2 : 1099511627776 < p.fr
  · simp [k2]
    exact kw_cond_t (by simp) (kw_seq (bad (by simp [perB, show ¬ p.fr ≤ 1099511627776 by omega]) _ _ _))
  simp [k2]
  by_cases k3 : p.per < 1
  · simp [k3]
    exact kw_cond_t (by simp) (kw_seq (bad (by simp [perB, show ¬ 1 ≤ p.per by omega]) _ _ _))
  simp [k3]
  by_cases k4 : 1099511627776 < p.per
  · simp [k4]
    exact kw_cond_t (by simp) (kw_seq (bad (by simp [perB, show ¬ p.per ≤ 1099511627776 by omega]) _ _ _))
  simp [k4]
  refine kw_cond_f (by simp) (kw_skip ?_)
  refine kw_seq ?_
  refine kw_seq (kw_region (.inl rfl) ?_)
  simp
  by_cases k5 : (1048576 : Int) < p.head.length
  · simp [k5]
    exact kw_cond_t (by simp) (kw_seq (bad (by simp [perB, show ¬ (p.head.length : Int) + p.cyc.length ≤ 1048576 by omega]) _ _ _))
  simp [k5]
  by_cases k6 : (1048576 : Int) < p.cyc.length
  · simp [k6]
    exact kw_cond_t (by simp) (kw_seq (bad (by simp [perB, show ¬ (p.head.length : Int) + p.cyc.length ≤ 1048576 by omega]) _ _ _))
  simp [k6, wrap64 (n := (p.head.length : Int) + p.cyc.length) (by omega) (by omega)]
  by_cases k7 : (1048576 : Int) < p.head.length + p.cyc.length
  · simp [k7]
    exact kw_cond_t (by simp) (kw_seq (bad (by simp [perB, show ¬ (p.head.length : Int) + p.cyc.length ≤ 1048576 by omega]) _ _ _))
  simp [k7]
  refine kw_cond_f (by simp) (kw_skip ?_)
  refine kw_seq (kw_region (.inl rfl) ?_)
  simp [rrising_sp p.hg p.head p.fr (by omega)]
  have hp : perB p = (risingB p.fr (-1) p.head && risingB p.per (-1) p.cyc) := by
    simp [perB, show 0 ≤ p.fr by omega, show p.fr ≤ 1099511627776 by omega, show 1 ≤ p.per by omega, show p.per ≤ 1099511627776 by omega, show (p.head.length : Int) + p.cyc.length ≤ 1048576 by omega]
  cases k8 : risingB p.fr (-1) p.head
  · simp
    refine kw_ret (hQ _ _ ?_)
    simp [hp, k8]
  simp [rrising_sp p.cg p.cyc p.per (by omega)]
  refine kw_ret (hQ _ _ ?_)
  simp [hp, k8]
theorem rper_sp (p : PerD) (h : p.Sm) : Km.Pure tab.get F_x101 [.a (p.row.map .f)] = Eq (vb (perB p)) := (rper_kf p h).eq

end Go.Proofs.YtdpfoenmopcolaaGreat
end

section
namespace Go.Proofs.YtdpfoenmopcolaaGreat
open Go Km

def lessB (x y : InstD) : Bool := if x.fr = y.fr then (if x.day = y.day then decide (x.to < y.to) else decide (x.day < y.day)) else decide (x.fr < y.fr)
theorem less_sp (x y : InstD) : Km.Pure tab.get F_x104 [.a (x.row.map .f), .a (y.row.map .f)] = Eq (vb (lessB x y)) := by
  refine Kf.eq (kf_fn T_x104 rfl fun H Q hQ => ?_)
  refine kw_seq (kw_region (.inl rfl) ?_)
  simp [InstD.row]
  refine kw_seq ?_
  refine kw_seq (kw_region (.inl rfl) ?_)
  simp
  by_cases k1 : x.fr = y.fr
  · refine kw_cond_f (by simp [k1]) (kw_skip ?_)
    refine kw_seq ?_
    refine kw_seq (kw_region (.inl rfl) ?_)
    simp
    by_cases k2 : x.day = y.day
    · refine kw_cond_f (by simp [k2]) (kw_skip ?_)
      refine kw_seq (kw_region (.inl rfl) ?_)
      simp
      refine kw_ret (hQ _ _ ?_)
      simp [lessB, k1, k2]
    · refine kw_cond_t (by simp [k2]) ?_
      refine kw_seq (kw_region (.inl rfl) ?_)
      simp
      refine kw_ret (hQ _ _ ?_)
      simp [lessB, k1, k2]
  · refine kw_cond_t (by simp [k1]) ?_
    refine kw_seq (kw_region (.inl rfl) ?_)
    simp
    refine kw_ret (hQ _ _ ?_)
    simp [lessB, k1]

/-! Order of instances. -/
def InstD.lt (x y : InstD) : Prop := x.fr < y.fr ∨ x.fr = y.fr ∧ (x.day < y.day ∨ x.day = y.day ∧ x.to < y.to)
theorem lessB_iff (x y : InstD) : lessB x y = true ↔ x.lt y := by
  unfold lessB InstD.lt
  by_cases k1 : x.fr = y.fr
  · by_cases k2 : x.day = y.day
    · simp [k1, k2]
    · simp [k1, k2]
  · simp [k1]
theorem ordI_iff (x y : InstD) : ordI x y < 0 ↔ x.lt y := by
  unfold ordI InstD.lt
  simp only [orI, cmpI]
  repeat' split
  all_goals omega
theorem InstD.lt_trans {x y z : InstD} (h : x.lt y) (h' : y.lt z) : x.lt z := by unfold InstD.lt at *; omega
theorem InstD.lt_tri {x y : InstD} (h : ¬ x.lt y) (h' : x ≠ y) : y.lt x := by
  obtain ⟨a, b, c⟩ := x
  obtain ⟨a', b', c'⟩ := y
  unfold InstD.lt at *
  simp only [ne_eq, InstD.mk.injEq] at h'
  simp only at h ⊢
  omega
theorem InstD.lt_irr {x : InstD} : ¬ x.lt x := by unfold InstD.lt; omega

end Go.Proofs.YtdpfoenmopcolaaGreat
end

section
namespace Go.Proofs.YtdpfoenmopcolaaGreat
open Go Km

/-! ### The reference's validity -/
theorem rin_sp (n lo hi : Int) : Km.Pure tab.get F_x109 [vi n, vi lo, vi hi] = Eq (vb (withinB n lo hi)) := Kf.eq (by
  refine kf_fn T_x109 rfl fun H Q hQ => ?_
  refine kw_seq (kw_region (.inl rfl) ?_)
  simp
  refine kw_seq (kw_region (.inl rfl) ?_)
  by_cases h : lo ≤ n
  · simp [h]
    refine kw_ret (hQ _ _ ?_)
    simp [withinB, h]
  · simp [h]
    refine kw_ret (hQ _ _ ?_)
    simp [withinB, h])
theorem good_sp (x : InstD) : Km.Pure tab.get F_x107 [.a (x.row.map .f)] = Eq (vb (goodB x)) := Kf.eq (by
  refine kf_fn T_x107 rfl fun H Q hQ => ?_
  refine kw_seq (kw_region (.inl rfl) ?_)
  simp [InstD.row]
  refine kw_seq (kw_region (.inl rfl) ?_)
  cases k1 : withinB x.day 0 1099511627776
  · simp [rin_sp, k1]
    refine kw_ret (hQ _ _ ?_)
    simp [goodB, k1]
  cases k2 : withinB x.fr (-2251799813685248) 1583296743997439
  · simp [rin_sp, k1, k2]
    refine kw_ret (hQ _ _ ?_)
    simp [goodB, k1, k2]
  have w5 := withinB_t k2
  simp [rin_sp, k1, k2, wrap64 (n := x.fr + 1) (by omega) (by omega), wrap64 (n := x.fr + 10080) (by omega) (by omega)]
  refine kw_ret (hQ _ _ ?_)
  simp [goodB, k1, k2])

theorem rmix_sp (g : Tg) (l : List TermD) (hl : l.length ≤ 9223372036854775807) (h : ∀ t ∈ l, t.Sm) : Km.Pure tab.get F_x103 [.a [.f (sl g (termRows l))]] = Eq (vb (mixB l)) := Kf.eq (by
  refine kf_fn T_x103 rfl fun H Q hQ => ?_
  refine kw_seq (kw_region (.inl rfl) ?_)
  simp
  refine kw_seq ?_
  refine kw_seq (kw_region (.inl rfl) ?_)
  simp
  by_cases k1 : (64 : Int) < l.length
  · refine kw_cond_t (by simp [k1]) ?_
    refine kw_seq (kw_region (.inl rfl) ?_)
    simp
    refine kw_ret (hQ _ _ ?_)
    simp [mixB, show ¬ (l.length : Int) ≤ 64 by omega]
  refine kw_cond_f (by simp [k1]) (kw_skip ?_)
  have hM : mixB l = l.all termB := by simp [mixB, show (l.length : Int) ≤ 64 by omega]
  rw [hM] at hQ
  refine kw_seq ?_
  refine kw_seq (kw_region (.inl rfl) ?_)
  simp
  refine kw_cfor l.length (fun j t H' => t.g 1 = .c (.ptr H.length 0 0) ∧ (∃ J, H' = H ++ (.box [.f (sl g (termRows l))] 0 :: J)) ∧ l.all termB = (l.drop j).all termB) (by omega) rfl (by simp) ⟨by simp, ⟨[], by simp⟩, by simp⟩ ?_ ?_ ?_
  · rintro j t _ L hj ⟨g1, ⟨J, rfl⟩, hB⟩ ha hL
    simp [ha, g1]
    exact hL _ ⟨by simp [g1], ⟨J, rfl⟩, hB⟩ (by simp [ha]) (by simp)
  · rintro j t _ hj ⟨g1, ⟨J, rfl⟩, hB⟩ ha next
    rw [all_drop hj] at hB
    have hrow := fun H : Heap => ld_row0 (H := H) (termRows_grid l) (termRows_at hj) rfl
    simp at hrow
    obtain ⟨ts, tp⟩ := h l[j] (List.getElem_mem hj)
    refine kw_block ?_
    refine kw_seq (kw_region (.inl rfl) ?_)
    simp [g1, ha, idx_sl, hj, hrow]
    refine kw_seq ?_
    refine kw_seq (kw_region (.inl rfl) ?_)
    have bad : termB l[j] = false → ∀ (t : T) (J : Heap) k, WP tab.get F_x103 none (.code (.seq (.region [⟨D 2, .mov (.k (.c (.f (.bool false)))), none⟩] []) .ret) :: k) ⟨t, [], H ++ J⟩ Q := by
      intro hf t J k
      refine kw_seq (kw_region (.inl rfl) ?_)
      simp
      refine kw_ret (hQ _ _ ?_)
      simp [hB, hf]
    by_cases k2 : (l[j].fs.length : Int) < 1
    · simp [k2]
      exact kw_cond_t (by simp) (bad (by simp [termB]; omega) _ _ _)
    by_cases k3 : (4 : Int) < l[j].fs.length
    · simp [k2, k3]
      exact kw_cond_t (by simp) (bad (by simp [termB]; omega) _ _ _)
    simp [k2, k3]
    refine kw_cond_f (by simp) (kw_skip ?_)
    have hT : termB l[j] = l[j].fs.all perB := by simp [termB, show 1 ≤ (l[j].fs.length : Int) by omega, show (l[j].fs.length : Int) ≤ 4 by omega]
    refine kw_seq ?_
    refine kw_region (.inl rfl) ?_
    simp
    refine kw_cfor l[j].fs.length (fun i t H' => t.g 1 = .c (.ptr H.length 0 0) ∧ t.g 3 = vi j ∧ t.g 4 = .c (.f (sl l[j].tg (perRows l[j].fs))) ∧ (∃ J, H' = H ++ (.box [.f (sl g (termRows l))] 0 :: J)) ∧ l[j].fs.all perB = (l[j].fs.drop i).all perB) (by omega) rfl (by simp)
      ⟨by simp [g1], by simp [ha], by simp, ⟨_, rfl⟩, by simp⟩ ?_ ?_ ?_
    · rintro i t _ L hi ⟨g1, g3, g4, ⟨J, rfl⟩, hP⟩ ha hL
      simp [ha, g4]
      exact hL _ ⟨by simp [g1], by simp [g3], by simp [g4], ⟨J, rfl⟩, hP⟩ (by simp [ha]) (by simp)
    · rintro i t _ hi ⟨g1, g3, g4, ⟨J, rfl⟩, hP⟩ ha next2
      rw [all_drop hi] at hP
      have hrow := fun H : Heap => ld_rowa (H := H) (perRows_grid l[j].fs) (perRows_at hi)
      have hper := rper_sp l[j].fs[i] (tp _ (List.getElem_mem hi))
      simp [PerD.row] at hrow hper
      refine kw_block ?_
      refine kw_seq (kw_region (.inl rfl) ?_)
      simp [g4, ha, idx_sl, hi, hrow, hper]
      cases k4 : perB l[j].fs[i]
      · refine kw_cond_t (by simp) (bad (by rw [hT, hP, k4]; rfl) _ _ _)
      · rw [k4, Bool.true_and] at hP
        refine kw_cond_f (by simp) (kw_skip (kw_inBlock (next2 _ _ ?_ (by simp [ha]))))
        exact ⟨by simp [g1], by simp [g3], by simp [g4], ⟨_, rfl⟩, hP⟩
    · rintro t _ ⟨g1, g3, g4, ⟨J, rfl⟩, hP⟩ ha2
      rw [List.drop_length] at hP
      rw [hT, hP, List.all_nil, Bool.true_and] at hB
      refine kw_inBlock (next _ _ ?_ (by simp [g3]))
      exact ⟨by simp [g1], ⟨_, rfl⟩, hB⟩
  · rintro t _ ⟨g1, ⟨J, rfl⟩, hB⟩ ha
    rw [List.drop_length, List.all_nil] at hB
    refine kw_seq (kw_region (.inl rfl) ?_)
    simp
    refine kw_ret (hQ _ _ ?_)
    simp [hB])
end Go.Proofs.YtdpfoenmopcolaaGreat
end

section
namespace Go.Proofs.YtdpfoenmopcolaaGreat
open Go Km

theorem lessB_ord (x y : InstD) : lessB x y = decide (ordI x y < 0) := by
  rw [Bool.eq_iff_iff, lessB_iff, decide_eq_true_eq, ordI_iff]
theorem rstream_sp (s : StreamD) (h : s.Sm) : Km.Pure tab.get F_x106 [.a (s.row.map .f)] = Eq (vb (streamB s)) := Kf.eq (by
  obtain ⟨hc, hx, hts⟩ := h
  refine kf_fn T_x106 rfl fun H Q hQ => ?_
  have bad : streamB s = false → ∀ (t : T) (J : Heap) k, WP tab.get F_x106 none (.code (.seq (.region [⟨D 2, .mov (.k (.c (.f (.bool false)))), none⟩] []) .ret) :: k) ⟨t, [], H ++ J⟩ Q := by
    intro hf t J k
    refine kw_seq (kw_region (.inl rfl) ?_)
    simp
    refine kw_ret (hQ _ _ ?_)
    simp [hf]
  refine kw_seq (kw_region (.inl rfl) ?_)
  simp [StreamD.row]
  refine kw_seq ?_
  refine kw_seq (kw_region (.inl rfl) ?_)
  simp
  by_cases k1 : (64 : Int) < s.cs.length
  · simp [k1]
    exact kw_cond_t (by simp) (bad (by simp [streamB, show ¬ (s.cs.length : Int) ≤ 64 by omega]) _ _ _)
  simp [k1]
  cases k2 : withinB s.len 1 10080
  · simp [rin_sp, k2]
    exact kw_cond_t (by simp) (bad (by simp [streamB, k2]) _ _ _)
  simp [rin_sp, k2]
  by_cases k3 : (4096 : Int) < s.xs.length
  · simp [k3]
    exact kw_cond_t (by simp) (bad (by simp [streamB, show ¬ (s.xs.length : Int) ≤ 4096 by omega]) _ _ _)
  simp [k3]
  have hS : streamB s = (classesB none s.cs && extraB none s.xs) := by simp [streamB, k2, show (s.cs.length : Int) ≤ 64 by omega, show (s.xs.length : Int) ≤ 4096 by omega]
  rw [hS] at bad
  refine kw_cond_f (by simp) (kw_skip ?_)
  refine kw_seq ?_
  refine kw_seq (kw_region (.inl rfl) ?_)
  simp
  refine kw_cfor s.cs.length (fun j t H' => t.g 1 = .c (.ptr H.length 0 0) ∧ (∃ J, H' = H ++ (.box [C.f (sl s.cg (classRows s.cs)), C.f (fi s.len), C.f (sl s.xg (instRows s.xs))] 0 :: J)) ∧
    ∃ prev, (∀ m, j = m + 1 → ∀ h : m < s.cs.length, prev = some (s.cs[m]'h).min) ∧ (j = 0 → prev = none) ∧ classesB none s.cs = classesB prev (s.cs.drop j)) (by omega) rfl (by simp)
      ⟨by simp, ⟨[], by simp⟩, none, by omega, by simp, by simp⟩ ?_ ?_ ?_
  · rintro j t _ L hj ⟨g1, ⟨J, rfl⟩, prev, l1, l2, hB⟩ ha hL
    simp [ha, g1]
    exact hL _ ⟨by simp [g1], ⟨J, rfl⟩, prev, l1, l2, hB⟩ (by simp [ha]) (by simp)
  · rintro j t _ hj ⟨g1, ⟨J, rfl⟩, prev, l1, l2, hB⟩ ha next
    rw [classesB_drop hj] at hB
    have hld := fun H : Heap => ld_rowa (H := H) (classRows_grid s.cs) (classRows_at hj)
    have hm := rmix_sp s.cs[j].mg s.cs[j].ts (hts _ (List.getElem_mem hj)).1 (hts _ (List.getElem_mem hj)).2
    refine kw_block ?_
    refine kw_seq (kw_region (.inl rfl) ?_)
    simp [ClassD.row] at hld
    simp [ha, g1, idx_sl, hj, hld]
    refine kw_seq (kw_region (.inl rfl) ?_)
    simp [hm]
    cases k4 : mixB s.cs[j].ts
    · simp
      exact kw_cond_t (by simp) (bad (by simp [hB, k4]) _ _ _)
    simp
    cases k5 : withinB s.cs[j].min (-4320) 4320
    · simp [rin_sp, k5]
      exact kw_cond_t (by simp) (bad (by simp [hB, k5]) _ _ _)
    simp [rin_sp, k5]
    have go : (prev.all fun m => decide (m < s.cs[j].min)) = true → ∃ prev', (∀ m, j + 1 = m + 1 → ∀ h : m < s.cs.length, prev' = some (s.cs[m]'h).min) ∧ (j + 1 = 0 → prev' = none) ∧ classesB none s.cs = classesB prev' (s.cs.drop (j + 1)) := by
      intro hp
      rw [k4, k5, hp, Bool.true_and, Bool.true_and, Bool.true_and] at hB
      refine ⟨some s.cs[j].min, fun m hm h => ?_, by omega, hB⟩
      have : m = j := by omega
      subst this; rfl
    cases j with
    | zero =>
      simp at ha
      simp [ha]
      refine kw_cond_f (by simp) (kw_skip (kw_inBlock (next _ _ ?_ (by simp [ha]))))
      exact ⟨by simp [g1], ⟨_, rfl⟩, go (by rw [l2 rfl]; rfl)⟩
    | succ m =>
      have hm : m < s.cs.length := by omega
      have hl1 := l1 m rfl hm
      have hmin := fun H : Heap => ld_row (H := H) (k := 1) (classRows_grid s.cs) (classRows_at hm) rfl
      try simp [ClassD.row] at hmin
      simp [ha, show (0 : Int) < (m : Int) + 1 by omega, g1, wrap64 (n := (m : Int)) (by omega) (by omega), idx_sl, hm, hmin]
      by_cases k6 : s.cs[m + 1].min ≤ s.cs[m].min
      · simp [k6]
        exact kw_cond_t (by simp) (bad (by simp [hB, hl1, show ¬ s.cs[m].min < s.cs[m + 1].min by omega]) _ _ _)
      · simp [k6]
        refine kw_cond_f (by simp) (kw_skip (kw_inBlock (next _ _ ?_ (by simp [ha]))))
        exact ⟨by simp [g1], ⟨_, rfl⟩, go (by rw [hl1]; simp; omega)⟩
  · rintro t _ ⟨g1, ⟨J, rfl⟩, prev, l1, l2, hB⟩ ha
    have hC : classesB none s.cs = true := by rw [hB]; simp [classesB]
    rw [hC, Bool.true_and] at bad hS
    refine kw_seq ?_
    refine kw_seq (kw_region (.inl rfl) ?_)
    simp
    refine kw_cfor s.xs.length (fun j t H' => t.g 1 = .c (.ptr H.length 0 0) ∧ (∃ J, H' = H ++ (.box [C.f (sl s.cg (classRows s.cs)), C.f (fi s.len), C.f (sl s.xg (instRows s.xs))] 0 :: J)) ∧
      ∃ prev, (∀ m, j = m + 1 → ∀ h : m < s.xs.length, prev = some (s.xs[m]'h)) ∧ (j = 0 → prev = none) ∧ extraB none s.xs = extraB prev (s.xs.drop j)) (by omega) rfl (by simp)
        ⟨by simp [g1], ⟨J, by simp⟩, none, by omega, by simp, by simp⟩ ?_ ?_ ?_
    · rintro j t _ L hj ⟨g1, ⟨J, rfl⟩, prev, l1, l2, hB⟩ ha hL
      simp [ha, g1]
      exact hL _ ⟨by simp [g1], ⟨J, rfl⟩, prev, l1, l2, hB⟩ (by simp [ha]) (by simp)
    · rintro j t _ hj ⟨g1, ⟨J, rfl⟩, prev, l1, l2, hB⟩ ha next
      rw [extraB_drop hj] at hB
      have hld := fun H : Heap => ld_rowa (H := H) (instRows_grid s.xs) (instRows_at hj)
      have hgood := good_sp s.xs[j]
      simp [InstD.row] at hld hgood
      refine kw_block ?_
      refine kw_seq (kw_region (.inl rfl) ?_)
      simp [ha, g1, idx_sl, hj, hld, hgood]
      cases k4 : goodB s.xs[j]
      · simp
        exact kw_cond_t (by simp) (bad (by simp [hB, k4]) _ _ _)
      simp
      have go : (prev.all fun m => decide (ordI m s.xs[j] < 0)) = true → ∃ prev', (∀ m, j + 1 = m + 1 → ∀ h : m < s.xs.length, prev' = some (s.xs[m]'h)) ∧ (j + 1 = 0 → prev' = none) ∧ extraB none s.xs = extraB prev' (s.xs.drop (j + 1)) := by
        intro hp
        rw [k4, hp, Bool.true_and, Bool.true_and] at hB
        refine ⟨some s.xs[j], fun m hm h => ?_, by omega, hB⟩
        have : m = j := by omega
        subst this; rfl
      cases j with
      | zero =>
        simp at ha
        simp [ha]
        refine kw_cond_f (by simp) (kw_skip (kw_inBlock (next _ _ ?_ (by simp [ha]))))
        exact ⟨by simp [g1], ⟨_, rfl⟩, go (by rw [l2 rfl]; rfl)⟩
      | succ m =>
        have hm : m < s.xs.length := by omega
        have hl1 := l1 m rfl hm
        have hrow := fun H : Heap => ld_rowa (H := H) (instRows_grid s.xs) (instRows_at hm)
        have hless := less_sp s.xs[m] s.xs[m + 1]
        rw [lessB_ord] at hless
        simp [InstD.row] at hrow hless
        have c1 : ((m + 1 : Nat) : Int) = (m : Int) + 1 := by omega
        have hix := fun H : Heap => idx_sl (H := H) (g := s.xg) (rows := instRows s.xs) (sz := 3) (k := .i64) (i := (m : Int) + 1) (by omega) (by simp; omega)
        have t1 : ((m : Int) + 1).toNat = m + 1 := by omega
        rw [t1] at hix
        simp [ha, show (0 : Int) < (m : Int) + 1 by omega, g1, wrap64 (n := (m : Int)) (by omega) (by omega), idx_sl, hm, hrow, hix, hld, hless]
        by_cases k7 : ordI s.xs[m] s.xs[m + 1] < 0
        · simp [show ¬ 0 ≤ ordI s.xs[m] s.xs[m + 1] by omega, k7]
          refine kw_cond_f (by simp) (kw_skip (kw_inBlock (next _ _ ?_ (by simp [ha]))))
          exact ⟨by simp [g1], ⟨_, rfl⟩, go (by rw [hl1]; simp; omega)⟩
        · simp [show 0 ≤ ordI s.xs[m] s.xs[m + 1] by omega, k7]
          exact kw_cond_t (by simp) (bad (by simp [hB, hl1]; omega) _ _ _)
    · rintro t _ ⟨g1, ⟨J, rfl⟩, prev, l1, l2, hB⟩ ha
      have hX : extraB none s.xs = true := by rw [hB]; simp [extraB]
      refine kw_seq (kw_region (.inl rfl) ?_)
      simp
      refine kw_ret (hQ _ _ ?_)
      simp [hS, hX])
end Go.Proofs.YtdpfoenmopcolaaGreat
end

section
namespace Go.Proofs.YtdpfoenmopcolaaGreat
open Go Km

structure MoveD where
  day : Int
  drop : Bool
  td : Int
  min : Int
  len : Int
def MoveD.row (x : MoveD) : List FC := [fi x.day, .bool x.drop, fi x.td, fi x.min, fi x.len]
def moveRows (l : List MoveD) : List (List FC) := l.map MoveD.row
@[simp] theorem moveRows_len (l : List MoveD) : (moveRows l).length = l.length := by simp [moveRows]
theorem moveRows_grid (l : List MoveD) : Grid 5 (moveRows l) := Grid.map fun _ => rfl
theorem moveRows_at {l : List MoveD} {j : Nat} (hj : j < l.length) : (moveRows l)[j]? = some l[j].row := by simp [moveRows, hj]
structure SerD where
  rule : FC
  min : Int
  len : Int
  zone : FC
  gap : Int
  fold : Int
  mg : Tg
  ms : List MoveD
def SerD.row (s : SerD) : List FC := [s.rule, fi s.min, fi s.len, s.zone, fi s.gap, fi s.fold, sl s.mg (moveRows s.ms)]
def fitsB (m : MoveD) : Bool := if m.drop then decide (m.td = 0) && decide (m.min = 0) && decide (m.len = 0) else withinB m.td 0 1099511627776 && withinB m.min 0 1439 && withinB m.len 1 10080
def moveB (m : MoveD) : Bool := fitsB m && withinB m.day 0 1099511627776
def movesB : Option Int → List MoveD → Bool
  | _, [] => true
  | prev, x :: r => moveB x && (prev.all fun m => decide (m < x.day)) && movesB (some x.day) r
theorem movesB_drop {p : Option Int} {l : List MoveD} {j : Nat} (hj : j < l.length) : movesB p (l.drop j) = (moveB l[j] && (p.all fun m => decide (m < l[j].day)) && movesB (some l[j].day) (l.drop (j + 1))) := by
  rw [List.drop_eq_getElem_cons hj]; rfl
def properB (s : SerD) : Bool := withinB s.min 0 1439 && withinB s.len 1 10080 && withinB s.gap 0 2 && withinB s.fold 0 2 && decide ((s.ms.length : Int) ≤ 64) && movesB none s.ms

theorem gmove_sp (m : MoveD) : Km.Pure tab.get F_x108 [.a (m.row.map .f)] = Eq (vb (moveB m)) := Kf.eq (by
  refine kf_fn T_x108 rfl fun H Q hQ => ?_
  refine kw_seq (kw_region (.inl rfl) ?_)
  simp [MoveD.row]
  refine kw_seq ?_
  refine kw_seq (kw_region (.inl rfl) ?_)
  simp
  cases hd : m.drop
  · refine kw_cond_f (by simp [hd]) (kw_skip ?_)
    refine kw_seq (kw_region (.inl rfl) ?_)
    cases k1 : withinB m.day 0 1099511627776
    · simp [rin_sp, k1]
      refine kw_ret (hQ _ _ ?_)
      simp [moveB, k1]
    cases k2 : withinB m.td 0 1099511627776
    · simp [rin_sp, k1, k2]
      refine kw_ret (hQ _ _ ?_)
      simp [moveB, fitsB, hd, k1, k2]
    cases k3 : withinB m.min 0 1439
    · simp [rin_sp, k1, k2, k3]
      refine kw_ret (hQ _ _ ?_)
      simp [moveB, fitsB, hd, k1, k2, k3]
    simp [rin_sp, k1, k2, k3]
    refine kw_ret (hQ _ _ ?_)
    simp [moveB, fitsB, hd, k1, k2, k3]
  · refine kw_cond_t (by simp [hd]) ?_
    refine kw_seq (kw_region (.inl rfl) ?_)
    cases k1 : withinB m.day 0 1099511627776
    · simp [rin_sp, k1]
      refine kw_ret (hQ _ _ ?_)
      simp [moveB, k1]
    by_cases k2 : m.td = 0
    · by_cases k3 : m.min = 0
      · simp [rin_sp, k1, k2, k3]
        refine kw_ret (hQ _ _ ?_)
        simp [moveB, fitsB, hd, k1, k2, k3]
      · simp [rin_sp, k1, k2, k3]
        refine kw_ret (hQ _ _ ?_)
        simp [moveB, fitsB, hd, k1, k2, k3]
    · simp [rin_sp, k1, k2]
      refine kw_ret (hQ _ _ ?_)
      simp [moveB, fitsB, hd, k1, k2])

theorem rproper_sp (s : SerD) (hs : s.ms.length ≤ 9223372036854775807) : Km.Pure tab.get F_x105 [.a (s.row.map .f)] = Eq (vb (properB s)) := Kf.eq (by
  refine kf_fn T_x105 rfl fun H Q hQ => ?_
  have bad : properB s = false → ∀ (t : T) (J : Heap) k, WP tab.get F_x105 none (.code (.seq (.region [⟨D 2, .mov (.k (.c (.f (.bool false)))), none⟩] []) .ret) :: k) ⟨t, [], H ++ J⟩ Q := by
    intro hf t J k
    refine kw_seq (kw_region (.inl rfl) ?_)
    simp
    refine kw_ret (hQ _ _ ?_)
    simp [hf]
  refine kw_seq (kw_region (.inl rfl) ?_)
  simp [SerD.row]
  refine kw_seq ?_
  refine kw_seq (kw_region (.inl rfl) ?_)
  simp
  cases k1 : withinB s.min 0 1439
  · simp [rin_sp, k1]
    exact kw_cond_t (by simp) (bad (by simp [properB, k1]) _ _ _)
  simp [rin_sp, k1]
  cases k2 : withinB s.len 1 10080
  · simp [rin_sp, k2]
    exact kw_cond_t (by simp) (bad (by simp [properB, k2]) _ _ _)
  simp [rin_sp, k2]
  cases k3 : withinB s.gap 0 2
  · simp [rin_sp, k3]
    exact kw_cond_t (by simp) (bad (by simp [properB, k3]) _ _ _)
  simp [rin_sp, k3]
  cases k4 : withinB s.fold 0 2
  · simp [rin_sp, k4]
    exact kw_cond_t (by simp) (bad (by simp [properB, k4]) _ _ _)
  simp [rin_sp, k4]
  by_cases k5 : (64 : Int) < s.ms.length
  · simp [k5]
    exact kw_cond_t (by simp) (bad (by simp [properB, show ¬ (s.ms.length : Int) ≤ 64 by omega]) _ _ _)
  simp [k5]
  have hS : properB s = movesB none s.ms := by simp [properB, k1, k2, k3, k4, show (s.ms.length : Int) ≤ 64 by omega]
  rw [hS] at bad
  refine kw_cond_f (by simp) (kw_skip ?_)
  refine kw_seq ?_
  refine kw_seq (kw_region (.inl rfl) ?_)
  simp
  refine kw_cfor s.ms.length (fun j t H' => t.g 1 = .c (.ptr H.length 0 0) ∧ (∃ J, H' = H ++ (.box [C.f s.rule, C.f (fi s.min), C.f (fi s.len), C.f s.zone, C.f (fi s.gap), C.f (fi s.fold), C.f (sl s.mg (moveRows s.ms))] 0 :: J)) ∧
    ∃ prev, (∀ m, j = m + 1 → ∀ h : m < s.ms.length, prev = some (s.ms[m]'h).day) ∧ (j = 0 → prev = none) ∧ movesB none s.ms = movesB prev (s.ms.drop j)) (by omega) rfl (by simp)
      ⟨by simp, ⟨[], by simp⟩, none, by omega, by simp, by simp⟩ ?_ ?_ ?_
  · rintro j t _ L hj ⟨g1, ⟨J, rfl⟩, prev, l1, l2, hB⟩ ha hL
    simp [ha, g1]
    exact hL _ ⟨by simp [g1], ⟨J, rfl⟩, prev, l1, l2, hB⟩ (by simp [ha]) (by simp)
  · rintro j t _ hj ⟨g1, ⟨J, rfl⟩, prev, l1, l2, hB⟩ ha next
    rw [movesB_drop hj] at hB
    have hld := fun H : Heap => ld_rowa (H := H) (moveRows_grid s.ms) (moveRows_at hj)
    have hday := fun H : Heap => ld_row0 (H := H) (moveRows_grid s.ms) (moveRows_at hj) rfl
    have hgood := gmove_sp s.ms[j]
    simp [MoveD.row] at hld hgood hday
    refine kw_block ?_
    refine kw_seq (kw_region (.inl rfl) ?_)
    simp [ha, g1, idx_sl, hj, hld, hgood]
    cases k6 : moveB s.ms[j]
    · simp
      exact kw_cond_t (by simp) (bad (by simp [hB, k6]) _ _ _)
    simp
    have go : (prev.all fun m => decide (m < s.ms[j].day)) = true → ∃ prev', (∀ m, j + 1 = m + 1 → ∀ h : m < s.ms.length, prev' = some (s.ms[m]'h).day) ∧ (j + 1 = 0 → prev' = none) ∧ movesB none s.ms = movesB prev' (s.ms.drop (j + 1)) := by
      intro hp
      rw [k6, hp, Bool.true_and, Bool.true_and] at hB
      refine ⟨some s.ms[j].day, fun m hm h => ?_, by omega, hB⟩
      have : m = j := by omega
      subst this; rfl
    cases j with
    | zero =>
      simp at ha
      simp [ha]
      refine kw_cond_f (by simp) (kw_skip (kw_inBlock (next _ _ ?_ (by simp [ha]))))
      exact ⟨by simp [g1], ⟨_, rfl⟩, go (by rw [l2 rfl]; rfl)⟩
    | succ m =>
      have hm : m < s.ms.length := by omega
      have hl1 := l1 m rfl hm
      have hmin := fun H : Heap => ld_row0 (H := H) (moveRows_grid s.ms) (moveRows_at hm) rfl
      try simp [MoveD.row] at hmin
      have c1 : ((m + 1 : Nat) : Int) = (m : Int) + 1 := by omega
      have hix := fun H : Heap => idx_sl (H := H) (g := s.mg) (rows := moveRows s.ms) (sz := 5) (k := .i64) (i := (m : Int) + 1) (by omega) (by simp; omega)
      have t1 : ((m : Int) + 1).toNat = m + 1 := by omega
      rw [t1] at hix
      simp [ha, show (0 : Int) < (m : Int) + 1 by omega, g1, wrap64 (n := (m : Int)) (by omega) (by omega), idx_sl, hm, hmin, hix, hday]
      by_cases k7 : s.ms[m + 1].day ≤ s.ms[m].day
      · simp [k7]
        exact kw_cond_t (by simp) (bad (by simp [hB, hl1, show ¬ s.ms[m].day < s.ms[m + 1].day by omega]) _ _ _)
      · simp [k7]
        refine kw_cond_f (by simp) (kw_skip (kw_inBlock (next _ _ ?_ (by simp [ha]))))
        exact ⟨by simp [g1], ⟨_, rfl⟩, go (by rw [hl1]; simp; omega)⟩
  · rintro t _ ⟨g1, ⟨J, rfl⟩, prev, l1, l2, hB⟩ ha
    have hC : movesB none s.ms = true := by rw [hB]; simp [movesB]
    refine kw_seq (kw_region (.inl rfl) ?_)
    simp
    refine kw_ret (hQ _ _ ?_)
    simp [hS, hC])
end Go.Proofs.YtdpfoenmopcolaaGreat
end

section
namespace Go.Proofs.YtdpfoenmopcolaaGreat
open Go Km

theorem proper_sp (s : SerD) (hs : s.ms.length ≤ 9223372036854775807) : Km.Pure tab.get F_x30 [.a (s.row.map .f)] = Eq (vb (properB s)) := Kf.eq (by
  refine kf_fn T_x30 rfl fun H Q hQ => ?_
  have bad : properB s = false → ∀ (t : T) (J : Heap) k, WP tab.get F_x30 none (.code (.seq (.region [⟨D 2, .mov (.k (.c (.f (.bool false)))), none⟩] []) .ret) :: k) ⟨t, [], H ++ J⟩ Q := by
    intro hf t J k
    refine kw_seq (kw_region (.inl rfl) ?_)
    simp
    refine kw_ret (hQ _ _ ?_)
    simp [hf]
  refine kw_seq (kw_region (.inl rfl) ?_)
  simp [SerD.row]
  refine kw_seq ?_
  refine kw_seq (kw_region (.inl rfl) ?_)
  simp
  cases k1 : withinB s.min 0 1439
  · simp [k1]
    exact kw_cond_t (by simp) (bad (by simp [properB, k1]) _ _ _)
  simp [k1]
  cases k2 : withinB s.len 1 10080
  · simp [k2]
    exact kw_cond_t (by simp) (bad (by simp [properB, k2]) _ _ _)
  simp [k2]
  cases k3 : withinB s.gap 0 2
  · simp [k3]
    exact kw_cond_t (by simp) (bad (by simp [properB, k3]) _ _ _)
  simp [k3]
  cases k4 : withinB s.fold 0 2
  · simp [k4]
    exact kw_cond_t (by simp) (bad (by simp [properB, k4]) _ _ _)
  simp [k4]
  by_cases k5 : (64 : Int) < s.ms.length
  · simp [k5]
    exact kw_cond_t (by simp) (bad (by simp [properB, show ¬ (s.ms.length : Int) ≤ 64 by omega]) _ _ _)
  simp [k5]
  have hS : properB s = movesB none s.ms := by simp [properB, k1, k2, k3, k4, show (s.ms.length : Int) ≤ 64 by omega]
  rw [hS] at bad
  refine kw_cond_f (by simp) (kw_skip ?_)
  refine kw_seq ?_
  refine kw_seq (kw_region (.inl rfl) ?_)
  simp
  obtain ⟨ROW, hROW⟩ : ∃ x, x = [C.f s.rule, C.f (fi s.min), C.f (fi s.len), C.f s.zone, C.f (fi s.gap), C.f (fi s.fold), C.f (sl s.mg (moveRows s.ms))] := ⟨_, rfl⟩
  rw [← hROW]
  have hr6 : ROW.drop 6 = [C.f (sl s.mg (moveRows s.ms))] := by rw [hROW]; rfl
  refine kw_for s.ms.length (fun j t H' => t.g 1 = .c (.ptr H.length 0 0) ∧ t.g 35 = .c (.f (sl s.mg (moveRows s.ms))) ∧ (∃ J, H' = H ++ (.box ROW 0 :: J)) ∧
    ∃ prev, (∀ m, j = m + 1 → ∀ h : m < s.ms.length, prev = some (s.ms[m]'h).day) ∧ (j = 0 → prev = none) ∧ movesB none s.ms = movesB prev (s.ms.drop j)) (by omega) (by decide) (by decide) (by simp) (by simp)
      ⟨by simp, by simp, ⟨[], by simp⟩, none, by omega, by simp, by simp⟩ ?_ ?_
  · rintro j t _ hj ⟨g1, g35, ⟨J, rfl⟩, prev, l1, l2, hB⟩ ha hb next
    rw [movesB_drop hj] at hB
    have hld := fun H : Heap => ld_rowa (H := H) (moveRows_grid s.ms) (moveRows_at hj)
    simp [MoveD.row] at hld
    refine kw_block ?_
    refine kw_seq (kw_region (.inl rfl) ?_)
    simp [ha, g35, idx_sl, hj, hld]
    obtain ⟨BOX, hBOX⟩ : ∃ x, x = [C.f (fi s.ms[j].day), C.f (.bool s.ms[j].drop), C.f (fi s.ms[j].td), C.f (fi s.ms[j].min), C.f (fi s.ms[j].len)] := ⟨_, rfl⟩
    have b1 : BOX.drop 1 = [C.f (.bool s.ms[j].drop), C.f (fi s.ms[j].td), C.f (fi s.ms[j].min), C.f (fi s.ms[j].len)] := by rw [hBOX]; rfl
    have b2 : BOX.drop 2 = [C.f (fi s.ms[j].td), C.f (fi s.ms[j].min), C.f (fi s.ms[j].len)] := by rw [hBOX]; rfl
    have b3 : BOX.drop 3 = [C.f (fi s.ms[j].min), C.f (fi s.ms[j].len)] := by rw [hBOX]; rfl
    have b4 : BOX.drop 4 = [C.f (fi s.ms[j].len)] := by rw [hBOX]; rfl
    have bt : BOX.tail = [C.f (.bool s.ms[j].drop), C.f (fi s.ms[j].td), C.f (fi s.ms[j].min), C.f (fi s.ms[j].len)] := by rw [hBOX]; rfl
    have b0 : BOX.drop 0 = [C.f (fi s.ms[j].day), C.f (.bool s.ms[j].drop), C.f (fi s.ms[j].td), C.f (fi s.ms[j].min), C.f (fi s.ms[j].len)] := by rw [hBOX]; rfl
    have rest : ∀ t, t.g 1 = .c (.ptr H.length 0 0) → t.g 3 = vi j → t.g 4 = .c (.ptr (H.length + (J.length + 1)) 0 0) → t.g 5 = vb (fitsB s.ms[j]) → t.g 37 = vi j → t.g 36 = vi s.ms.length →
        t.g 35 = .c (.f (sl s.mg (moveRows s.ms))) →
        WP tab.get F_x30 none (.code C_x30_23 :: .inBlock 1 :: .code (incC 37 103) :: .inLoop (roundC 0 37 36 38 103 C_x30_18) :: .inBlock 0 :: .code C_x30_29 :: []) ⟨t, [], H ++ (.box ROW 0 :: (J ++ [.box BOX 0]))⟩ Q := by
      intro t g1 g3 g4 g5 ha hb g35
      refine kw_seq (kw_region (.inl rfl) ?_)
      simp [g5, g4, hBOX]
      cases k6 : fitsB s.ms[j]
      · simp
        exact kw_cond_t (by simp) (bad (by simp [hB, moveB, k6]) _ _ _)
      simp [g4]
      cases k7 : withinB s.ms[j].day 0 1099511627776
      · simp
        exact kw_cond_t (by simp) (bad (by simp [hB, moveB, k7]) _ _ _)
      simp
      have k67 : moveB s.ms[j] = true := by simp [moveB, k6, k7]
      have go : (prev.all fun m => decide (m < s.ms[j].day)) = true → ∃ prev', (∀ m, j + 1 = m + 1 → ∀ h : m < s.ms.length, prev' = some (s.ms[m]'h).day) ∧ (j + 1 = 0 → prev' = none) ∧ movesB none s.ms = movesB prev' (s.ms.drop (j + 1)) := by
        intro hp
        rw [k67, hp, Bool.true_and, Bool.true_and] at hB
        refine ⟨some s.ms[j].day, fun m hm h => ?_, by omega, hB⟩
        have : m = j := by omega
        subst this; rfl
      cases j with
      | zero =>
        simp at ha g3
        simp [g3]
        refine kw_cond_f (by simp) (kw_skip (kw_inBlock (next _ _ ?_ (by simp [ha]) (by simp [hb]))))
        exact ⟨by simp [g1], by simp [g35], ⟨_, rfl⟩, go (by rw [l2 rfl]; rfl)⟩
      | succ m =>
        have hm : m < s.ms.length := by omega
        have hl1 := l1 m rfl hm
        have hmin := fun H : Heap => ld_row0 (H := H) (moveRows_grid s.ms) (moveRows_at hm) rfl
        try simp [MoveD.row] at hmin
        simp [g3, show (0 : Int) < (m : Int) + 1 by omega, g1, g4, hr6, wrap64 (n := (m : Int)) (by omega) (by omega), idx_sl, hm, hmin]
        by_cases k8 : s.ms[m + 1].day ≤ s.ms[m].day
        · simp [k8]
          exact kw_cond_t (by simp) (bad (by simp [hB, hl1, show ¬ s.ms[m].day < s.ms[m + 1].day by omega]) _ _ _)
        · simp [k8]
          refine kw_cond_f (by simp) (kw_skip (kw_inBlock (next _ _ ?_ (by simp [ha]) (by simp [hb]))))
          exact ⟨by simp [g1], by simp [g35], ⟨_, rfl⟩, go (by rw [hl1]; simp; omega)⟩
    rw [← hBOX]
    refine kw_seq (kw_region (.inl rfl) ?_)
    simp [b1, bt, b2, b3, b4]
    cases hd : s.ms[j].drop
    · cases k2 : withinB s.ms[j].td 0 1099511627776
      · simp [bt, b2, b3, b4, hd, k2]
        exact rest _ (by simp [g1]) (by simp) (by simp) (by simp [fitsB, hd, k2]) (by simp [ha]) (by simp [hb]) (by simp [g35])
      cases k3 : withinB s.ms[j].min 0 1439
      · simp [bt, b2, b3, b4, hd, k2, k3]
        exact rest _ (by simp [g1]) (by simp) (by simp) (by simp [fitsB, hd, k2, k3]) (by simp [ha]) (by simp [hb]) (by simp [g35])
      simp [bt, b2, b3, b4, hd, k2, k3]
      exact rest _ (by simp [g1]) (by simp) (by simp) (by simp [fitsB, hd, k2, k3]) (by simp [ha]) (by simp [hb]) (by simp [g35])
    · by_cases k2 : s.ms[j].td = 0
      · by_cases k3 : s.ms[j].min = 0
        · by_cases k4 : s.ms[j].len = 0
          · simp [bt, b2, b3, b4, hd, k2, k3, k4]
            exact rest _ (by simp [g1]) (by simp) (by simp) (by simp [fitsB, hd, k2, k3, k4]) (by simp [ha]) (by simp [hb]) (by simp [g35])
          · simp [bt, b2, b3, b4, hd, k2, k3, k4]
            exact rest _ (by simp [g1]) (by simp) (by simp) (by simp [fitsB, hd, k2, k3, k4]) (by simp [ha]) (by simp [hb]) (by simp [g35])
        · simp [bt, b2, b3, b4, hd, k2, k3]
          exact rest _ (by simp [g1]) (by simp) (by simp) (by simp [fitsB, hd, k2, k3]) (by simp [ha]) (by simp [hb]) (by simp [g35])
      · simp [bt, b2, b3, b4, hd, k2]
        exact rest _ (by simp [g1]) (by simp) (by simp) (by simp [fitsB, hd, k2]) (by simp [ha]) (by simp [hb]) (by simp [g35])
  · rintro t _ ⟨g1, g35, ⟨J, rfl⟩, prev, l1, l2, hB⟩ ha hb
    have hC : movesB none s.ms = true := by rw [hB]; simp [movesB]
    refine kw_seq (kw_region (.inl rfl) ?_)
    simp
    refine kw_ret (hQ _ _ ?_)
    simp [hS, hC])
end Go.Proofs.YtdpfoenmopcolaaGreat
end

section
namespace Go.Proofs.YtdpfoenmopcolaaGreat
open Go Km

/-! ### Numbers -/
theorem quo_nn {a b : Int} (h : 0 ≤ a) (hb : 0 < b) (ha : a ≤ 9223372036854775807) : binV .quo (vi a) (vi b) = some (vi (a / b)) := by
  rw [bin_quo (by omega), Int.tdiv_eq_ediv_of_nonneg h, wrap64 (Int.le_trans (by omega) (Int.ediv_nonneg h (by omega))) (Int.le_trans (Int.ediv_le_self _ h) ha)]
theorem rem_nn {a b : Int} (h : 0 ≤ a) (hb : 0 < b) : binV .rem (vi a) (vi b) = some (vi (a % b)) := by
  rw [bin_rem (by omega), Int.tmod_eq_emod_of_nonneg h]
/-- Rounded towards 0, below 0. -/
theorem quo_ng {a b : Int} (h : a ≤ 0) (hb : 0 < b) (ha : -9223372036854775807 ≤ a) : binV .quo (vi a) (vi b) = some (vi (-((-a) / b))) := by
  have h1 : (-a) / b ≤ -a := Int.ediv_le_self _ (by omega)
  have h2 : 0 ≤ (-a) / b := Int.ediv_nonneg (by omega) (by omega)
  have h3 : a.tdiv b = -((-a) / b) := by
    have : a = -(-a) := by omega
    rw [this, Int.neg_tdiv, Int.tdiv_eq_ediv_of_nonneg (by omega)]
    simp
  rw [bin_quo (by omega), h3, wrap64 (by omega) (by omega)]
theorem rem_ng {a b : Int} (h : a ≤ 0) (hb : 0 < b) : binV .rem (vi a) (vi b) = some (vi (-((-a) % b))) := by
  have h3 : a.tmod b = -((-a) % b) := by
    have : a = -(-a) := by omega
    rw [this, Int.neg_tmod, Int.tmod_eq_emod_of_nonneg (by omega)]
    simp
  rw [bin_rem (by omega), h3]

theorem floordiv_sp (a b : Int) (hb : 1 ≤ b) (ha : -4611686018427387904 ≤ a) (ha' : a ≤ 4611686018427387904) : Km.Pure tab.get F_x71 [vi a, vi b] = Eq (.t [vi (a / b), vi 0]) := Km.Pure.eq (by
  refine pure_fn T_x71 rfl fun Q hQ => ?_
  refine kw_seq (kw_region (.inl rfl) ?_)
  simp
  refine kw_seq ?_
  refine kw_seq (kw_region (.inl rfl) ?_)
  simp
  refine kw_cond_f (by simp; omega) (kw_skip ?_)
  by_cases h : 0 ≤ a
  · refine kw_seq (kw_region (.inl rfl) ?_)
    simp [quo_nn h (show 0 < b by omega) (by omega)]
    refine kw_seq ?_
    refine kw_seq (kw_region (.inl rfl) ?_)
    have := Int.emod_nonneg a (show b ≠ 0 by omega)
    simp [rem_nn h (show 0 < b by omega)]
    refine kw_cond_f (by simp; omega) (kw_skip ?_)
    refine kw_seq (kw_region (.inl rfl) ?_)
    simp
    refine kw_ret (hQ _ _ ?_)
    simp
  · refine kw_seq (kw_region (.inl rfl) ?_)
    simp [quo_ng (show a ≤ 0 by omega) (show 0 < b by omega) (by omega)]
    refine kw_seq ?_
    refine kw_seq (kw_region (.inl rfl) ?_)
    have e := Int.emod_nonneg (-a) (show b ≠ 0 by omega)
    have e2 := Int.emod_lt_of_pos (-a) (show 0 < b by omega)
    have h2 : 0 ≤ (-a) / b := Int.ediv_nonneg (by omega) (by omega)
    have h1 : (-a) / b ≤ -a := Int.ediv_le_self _ (by omega)
    have e3 := Int.mul_ediv_add_emod (-a) b
    simp [rem_ng (show a ≤ 0 by omega) (show 0 < b by omega)]
    by_cases h3 : (-a) % b = 0
    · refine kw_cond_f (by simp; omega) (kw_skip ?_)
      refine kw_seq (kw_region (.inl rfl) ?_)
      simp
      refine kw_ret (hQ _ _ ?_)
      have : a / b = -(-a / b) := by
        refine Int.ediv_eq_of_eq_mul_right (by omega) ?_
        rw [Int.mul_neg]; omega
      simp [this]
    · refine kw_cond_t (by simp; omega) ?_
      refine kw_region (.inl rfl) ?_
      simp [wrap64 (n := -(-a / b) - 1) (by omega) (by omega)]
      refine kw_seq (kw_region (.inl rfl) ?_)
      simp
      refine kw_ret (hQ _ _ ?_)
      have : a / b = -(-a / b) - 1 := by
        have h5 := Int.emod_nonneg a (show b ≠ 0 by omega)
        have h6 := Int.emod_lt_of_pos a (show 0 < b by omega)
        have h7 := Int.mul_ediv_add_emod a b
        have h8 : b * (a / b + (-a) / b + 1) = b - a % b - (-a) % b := by rw [Int.mul_add, Int.mul_add]; omega
        have h9 : a / b + (-a) / b + 1 = 0 := by
          rcases Int.lt_trichotomy (a / b + (-a) / b + 1) 0 with h | h | h
          · have : b * (a / b + (-a) / b + 1) ≤ b * (-1) := Int.mul_le_mul_of_nonneg_left (by omega) (by omega)
            omega
          · exact h
          · have : b * 1 ≤ b * (a / b + (-a) / b + 1) := Int.mul_le_mul_of_nonneg_left (by omega) (by omega)
            omega
        omega
      simp [this])

/-! ### The zone without transitions -/
def fixZ : List C := [.f (fi 0), .f (.fs [fi 7] 1), .f (fi (-1)), .f .nils, .f (fi 0), .f .nils, .f (fi 0), .f .nils]
def clkF : List FC := [fi 0, .fs [fi 7] 1, fi (-1), .nils, fi 0, .nils, fi 0, .nils, .nils, fi 1]
def clkV : FC := .fp clkF 0
def pieceV : List C := [.f (fi 0), .f (fi (-9007199254740992)), .f (fi 9007199254740992), .f (fi (-9007199254740992)), .f (fi 9007199254740992)]

@[simp] theorem len_nils (H : Heap) : slLen H (.f .nils) = some 0 := rfl
theorem zfrom_f1 {H : Heap} {y a b : Nat} (ha : H[a]? = some (.box [.f clkV] 0)) : ∃ r H', Ev tab.get (.fn F_x142) [.c (.yl y), .c (.ptr a 0 0), .c (.ptr b 0 0)] H r H' ∧ (r = .t [] ∧ H' = H) := by
  refine ev_ex T_x142 rfl fun Q hQ => ?_
  refine kw_seq ?_
  refine kw_seq (kw_region (.inl rfl) ?_)
  simp [ha, clkV, clkF, ld_fp]
  refine kw_for 0 (fun j t H' => H' = H ∧ t.g 1 = .c (.ptr a 0 0)) (by omega) (by decide) (by decide) (by simp) (by simp) ⟨rfl, by simp⟩ ?_ ?_
  · intro j t H' hj
    omega
  · rintro t H' ⟨rfl, g1⟩ - -
    refine kw_seq ?_
    refine kw_seq (kw_region (.inl rfl) ?_)
    simp [ha, g1, clkV, clkF, ld_fp]
    refine kw_cond_t (by simp) ?_
    exact kw_ret (hQ _ _ _ rfl rfl ⟨rfl, rfl⟩)

theorem zfrom_ev (H : Heap) (lo : Int) : ∃ r H', Ev tab.get (.fn F_x141) [.c (.f clkV), vi lo] H r H' ∧ (r = .c (.cl F_x142 [.ptr H.length 0 0, .ptr (H.length + 1) 0 0]) ∧ H' = H ++ [.box [.f clkV] 0, .box [.f (fi lo)] 0]) := by
  refine ev_ex T_x141 rfl fun Q hQ => ?_
  refine kw_seq (kw_region (.inl rfl) ?_)
  simp
  refine kw_seq (kw_region (.inl rfl) ?_)
  simp
  refine kw_ret (hQ _ _ _ rfl rfl ?_)
  simp
end Go.Proofs.YtdpfoenmopcolaaGreat
end

section
namespace Go.Proofs.YtdpfoenmopcolaaGreat
open Go Km

/-- A call's end with one range over a function behind it, whatever the heap is then. -/
theorem ev_exC {tab : Nat → Option AFunc} {f : Nat} {args : List V} {H : Heap} {C : V → Heap → Prop} {ps : List P} {res : List ARes} {body : ACode} (ht : tab f = some ⟨ps, res, body⟩) (hl : args.length = ps.length)
    (h : ∀ Q : Option ACode → St → Prop, (∀ j s r b, s.defs = [.coll b] → s.heap[b]? = some (.dfr true) → Km.results s.regs (s.heap.set b (.dfr false)) res = some r → C r (s.heap.set b (.dfr false)) → Q j s) → WP tab f none [.code body] ⟨setAll ps args .e, [], H⟩ Q) : ∃ r H', Ev tab (.fn f) args H r H' ∧ C r H' := by
  have h' := h (fun j s => ∃ r b, s.defs = [.coll b] ∧ s.heap[b]? = some (.dfr true) ∧ Km.results s.regs (s.heap.set b (.dfr false)) res = some r ∧ C r (s.heap.set b (.dfr false))) fun _ _ r b h1 h2 h3 h4 => ⟨r, b, h1, h2, h3, h4⟩
  obtain ⟨n, m, d, j, s, h1, r, b, hd, hb, h2, h3⟩ := h'
  exact ⟨r, _, ev_fn ht hl ⟨n, m, d, j, s, h1, 0, 0, _, by rw [hd]; simp only [runDefs, hb], h2, rfl⟩, h3⟩

theorem pieces_ev {H H2 J1 : Heap} {y : Nat} (e : Int) (hy : ∀ J : Heap, J.length = 6 → Ev tab.get (.yield y) [.a pieceV] (H ++ J) (vb true) (H2 ++ J ++ J1)) (hl : H2.length = H.length) :
    ∃ r H', Ev tab.get (.fn F_x144) [.c (.yl y), .c (.f (.fp [clkV] 0)), .c (.f (.fp [fi e] 0))] H r H' ∧ (r = .t [] ∧ ∃ a b c d e f, H' = H2 ++ [a, b, c, d, e, f] ++ J1) := by
  refine ev_exC T_x144 rfl fun Q hQ => ?_
  refine kw_seq (kw_region (.inl rfl) ?_)
  simp
  refine kw_seq (kw_region (.inl rfl) ?_)
  simp [clkV, clkF, ld_fp]
  obtain ⟨r, H', hev, rfl, rfl⟩ := zfrom_ev (H ++ [Blk.box [C.yl y] 0, Blk.box [C.f (fi 0), C.f (fi (-9007199254740992)), C.f (fi 0), C.f (fi (-9007199254740992)), C.f (fi 0)] 0]) (-2251799813685248)
  have hev := hev.eq
  simp [clkV, clkF] at hev
  refine kw_seq ?_
  refine kw_seq (kw_region (.inl rfl) ?_)
  simp [ld_fp, hev]
  refine kw_block ?_
  obtain ⟨H4, hH4⟩ : ∃ H4, H4 = H ++ [Blk.box [C.yl y] 0, Blk.box [C.f (fi 0), C.f (fi (-9007199254740992)), C.f (fi 0), C.f (fi (-9007199254740992)), C.f (fi 0)] 0, Blk.box [C.f clkV] 0, Blk.box [C.f (fi (-2251799813685248))] 0] := ⟨_, rfl⟩
  have hf : ∀ (y : Nat) (J : Heap), Ev tab.get (.fn F_x142) [.c (.yl y), .c (.ptr (H.length + 2) 0 0), .c (.ptr (H.length + 3) 0 0)] (H4 ++ J) (.t []) (H4 ++ J) := by
    intro y J
    obtain ⟨r, H', hf, rfl, rfl⟩ := zfrom_f1 (y := y) (a := H.length + 2) (b := H.length + 3) (H := H4 ++ J) (by simp [hH4, List.append_assoc])
    exact hf
  simp [clkV, clkF] at hH4
  rw [← hH4]
  refine kw_rangeF (by simp [calleeV]; rfl) (hf _ _) ?_
  have hg : ∀ x y : Blk, (H4 ++ [x, y])[H4.length + 1]? = some y := by simp
  refine kw_endRF (hg _ _) (by decide) ?_
  have hs : ∀ x y z : Blk, (H4 ++ [x, y]).set (H4.length + 1) z = H4 ++ [x, z] := by simp
  rw [hs]
  refine kw_inBlock ?_
  have hl4 : H4.length = H.length + 4 := by simp [hH4]
  rw [hl4, hH4]
  generalize hLP : Blk.lp _ _ _ _ _ _ _ _ = LP
  clear hLP hs hg hf hH4 hl4
  simp only [List.append_assoc, List.cons_append, List.nil_append]
  refine kw_seq (kw_region (.inl rfl) ?_)
  simp
  have hy := hy [Blk.box [C.yl y] 0, Blk.box pieceV 0, Blk.box [C.f clkV] 0, Blk.box [C.f (fi (-2251799813685248))] 0, .dfr true, LP] rfl
  have hy := hy.eq
  simp [pieceV, clkV, clkF] at hy
  refine kw_region (.inl rfl) ?_
  simp [hy]
  refine kw_nil (hQ _ _ (.t []) (H.length + 4) rfl ?_ rfl ⟨rfl, ?_⟩)
  · simp [← hl]
  · simp [← hl]
end Go.Proofs.YtdpfoenmopcolaaGreat
end

section
namespace Go.Proofs.YtdpfoenmopcolaaGreat
open Go Km

theorem x_mkmap {t : T} {H : Heap} : xOp t H .mkmap = some (.c (.mp H.length), H ++ [.map []]) := rfl
theorem x_lookup {t : T} {H : Heap} (ck : CK) (z : FC) (m k : Arg) : xOp t H (.lookup ck z m k) = (lookupV H ck z (m.ev t) (k.ev t)).map (·, H) := rfl
theorem x_mapup {t : T} {H : Heap} (ck : CK) (m k v : Arg) : xOp t H (.mapup ck m k v) = (match m.ev t, k.ev t, cellM (v.ev t) with
    | .c (.mp b), .c (.f k), some v => match H[b]? with
      | some (.map es) => if isKey ck k then (mpPut ck k v es).map fun es => (.top, H.set b (.map es)) else none
      | _ => none
    | _, _, _ => none) := rfl
theorem zopen_sp : Km.Pure tab.get F_x147 [.a fixZ] = Eq (.t [.c (.f clkV), vb true]) := Km.Pure.eq (pure_closedv (m := 3000) (d := 60) (by kernel_rfl))
theorem zsettled_sp : Km.Pure tab.get F_x145 [.c (.f clkV)] = Eq (vi 0) := Km.Pure.eq (pure_closedv (m := 3000) (d := 60) (by kernel_rfl))
theorem zpieces_sp : Km.Pure tab.get F_x143 [.c (.f clkV), vi 10080] = Eq (.c (.f (.fn F_x144 [.fp [clkV] 0, .fp [fi 10080] 0]))) := Km.Pure.eq (pure_closedv (m := 3000) (d := 60) (by kernel_rfl))
theorem zspans_ev (H : Heap) : ∃ r H', Ev tab.get (.fn F_x139) [.a pieceV] H r H' ∧ (r = .a [.f (fi (-9007199254740992)), .f (fi 9007199254740992)] ∧ H' = H ++ [.box pieceV 0, .box [.f (fi (-9007199254740992)), .f (fi 9007199254740992)] 0]) := by
  refine ev_ex T_x139 rfl fun Q hQ => ?_
  refine kw_seq (kw_region (.inl rfl) ?_)
  simp [pieceV]
  refine kw_seq (kw_region (.inl rfl) ?_)
  simp
  refine kw_ret (hQ _ _ (.a [.f (fi (-9007199254740992)), .f (fi 9007199254740992)]) rfl (res_one (by simp)) ?_)
  simp [pieceV]

def zpre (m : Int) (es : List (FC × C)) (t : T) (st : LoopSt) : Heap := [.box fixZ 0, .box [.f (fi m)] 0, .box [.f (.fn F_x139 [])] 0, .box [.f (fi 4)] 0, .map es, .box [.mp 4] 0, .dfr true,
  .lp F_x146 t [P.nat 69] C_x146_29 C_x146_30 st none 6]
def zspan : List C := [.f (fi (-9007199254740992)), .f (fi 9007199254740992)]
def zJ1 : Heap := [.box pieceV 0, .box pieceV 0, .box zspan 0, .box zspan 0, .box [.f (fi 0), .f (fi 4)] 0, .opn 2 [.f (fi 0), .f (fi 4)] 0 0 .loc]

theorem zround (m : Int) (h0 : 0 ≤ m) (h1 : m ≤ 1439) (t : T) (g4 : t.g 4 = .c (.ptr 1 0 0)) (g5 : t.g 5 = .c (.ptr 2 0 0)) (g13 : t.g 13 = .c (.ptr 3 0 0)) (g14 : t.g 14 = .c (.ptr 5 0 0)) (a b c d e f : Blk) :
    Ev tab.get (.yield 7) [.a pieceV] (zpre m [] t .ready ++ [a, b, c, d, e, f]) (vb true) (zpre m [(fi 0, .sl 19 0 1 0 0 2)] t .ready ++ [a, b, c, d, e, f] ++ zJ1) := by
  refine ev_yield (b := 7) rfl rfl ?_
  refine kw_region (.inr rfl) ?_
  simp [zpre, pieceV]
  refine kw_begR rfl ?_
  simp
  refine kw_block ?_
  obtain ⟨r, H', hev, rfl, rfl⟩ := zspans_ev [.box fixZ 0, .box [.f (fi m)] 0, .box [.f (.fn F_x139 [])] 0, .box [.f (fi 4)] 0, .map [], .box [.mp 4] 0, .dfr true,
    .lp F_x146 t [P.nat 69] C_x146_29 C_x146_30 .busy none 6, a, b, c, d, e, f, .box pieceV 0]
  have hev := hev.eq
  simp [pieceV, fixZ] at hev
  refine kw_seq (kw_region (.inr rfl) ?_)
  simp [g5, calleeV, fixZ, hev]
  have hf1 := floordiv_sp (-9007199254740992 - m + 1440 - 1) 1440 (by omega) (by omega) (by omega)
  have hf2 := floordiv_sp (9007199254740992 - m + 1440 - 1) 1440 (by omega) (by omega) (by omega)
  obtain ⟨q1, hq1⟩ : ∃ q, q = (-9007199254740992 - m + 1440 - 1) / 1440 := ⟨_, rfl⟩
  obtain ⟨q2, hq2⟩ : ∃ q, q = (9007199254740992 - m + 1440 - 1) / 1440 := ⟨_, rfl⟩
  rw [← hq1] at hf1
  rw [← hq2] at hf2
  have m1 : max q1 0 = 0 := by omega
  have m2 : min q2 4 = 4 := by omega
  refine kw_seq (kw_region (.inr rfl) ?_)
  simp [g4, wrap64 (n := -9007199254740992 - m) (by omega) (by omega), wrap64 (n := -9007199254740992 - m + 1440) (by omega) (by omega), wrap64 (n := -9007199254740992 - m + 1440 - 1) (by omega) (by omega), hf1]
  refine kw_seq (kw_region (.inr rfl) ?_)
  simp [g4, wrap64 (n := 9007199254740992 - m) (by omega) (by omega), wrap64 (n := 9007199254740992 - m + 1440) (by omega) (by omega), wrap64 (n := 9007199254740992 - m + 1440 - 1) (by omega) (by omega), hf2]
  refine kw_seq (kw_region (.inr rfl) ?_)
  simp [g13, m1, m2]
  refine kw_seq ?_
  refine kw_region (.inr rfl) ?_
  simp
  refine kw_cond_t (by simp) ?_
  have k1 : ∀ k : FC, mpFind .int k [] = some none := fun _ => rfl
  have k2 : ∀ n : Int, isKey .int (fi n) = true := fun _ => rfl
  have k3 : ∀ (k : FC) (v : C), mpPut .int k v [] = some [(k, v)] := fun _ _ => rfl
  have k4 : lkR .nils none = .c (.f .nils) := rfl
  have k5 : ∀ b o l c e z : Nat, cellM (.c (.sl b o l c e z)) = some (.sl b o l c e z) := fun _ _ _ _ _ _ => rfl
  have k6 : roomOK 1 16 = true := rfl
  refine kw_regionk (.inr rfl) ?_ ?_
  · simp [g14, x_lookup, x_mapup, lookupV, k1, k2, k3, k4, k5, k6, appendV, addedV, slLen, slCells]
    refine kw_inBlock (kw_nil ?_)
    refine ⟨rfl, _, _, _, _, _, _, _, _, rfl, rfl, ?_⟩
    simp [zJ1, fixZ, pieceV, zspan]
  · intro c hc
    simp at hc
    rcases hc with rfl | rfl
    · refine ⟨by decide, _, rfl, .inl ⟨by decide, ?_⟩⟩
      simp [g14, x_lookup, x_mapup, lookupV, k1, k2, k3, k4, k5, k6, appendV, addedV, slLen, slCells, SameV]
      rfl
    · refine ⟨by decide, _, rfl, .inl ⟨by decide, ?_⟩⟩
      simp [g14, x_lookup, x_mapup, lookupV, k1, k2, k3, k4, k5, k6, appendV, addedV, slLen, slCells, SameV]
      rfl

/-- The rest of a closed run, reckoned. -/
def finC (res : List ARes) (b : Nat) (s : St) : Option V := match s.defs, s.heap[b]? with
  | [.coll c], some (.dfr true) => if c = b then (Km.results s.regs (s.heap.set b (.dfr false)) res).bind (exV deep (s.heap.set b (.dfr false))) else none
  | _, _ => none
theorem wp_reckoned {tab : Nat → Option AFunc} {fn : Nat} {ro : Option Nat} {todo : List AItem} {s : St} {Q : Option ACode → St → Prop} {res : List ARes} {r : V} (b n m d : Nat)
    (h : ((run (CF tab m d) fn n ro todo s).bind fun p => finC res b p.2) = some r) (hQ : ∀ j s, FinC res r s → Q j s) : WP tab fn ro todo s Q := by
  rw [Option.bind_eq_some_iff] at h
  obtain ⟨⟨j, s'⟩, h1, h2⟩ := h
  refine ⟨n, m, d, j, s', h1, hQ _ _ ?_⟩
  simp only [finC] at h2
  split at h2
  · rename_i c hd hb
    split at h2
    · rename_i hc
      subst hc
      rw [Option.bind_eq_some_iff] at h2
      obtain ⟨r0, h3, h4⟩ := h2
      exact ⟨c, hd, hb, r0, h3, h4⟩
    · simp at h2
  · simp at h2

theorem zdays_sp (m : Int) (h0 : 0 ≤ m) (h1 : m ≤ 1439) : ∃ r, r = .t [.c (.f (.fs [fi 0, .es, fi 0, fi 1, .fs [fi 0] 1] 1)), vi 0] ∧ Km.Pure tab.get F_x146 [.a fixZ, vi m, .c (.f (.fn F_x139 []))] r := by
  refine pure_exC T_x146 rfl fun Q hQ => ?_
  have hop := zopen_sp
  have hse := zsettled_sp
  have hpi := zpieces_sp
  have hfd := floordiv_sp 0 1440 (by omega) (by omega) (by omega)
  simp [fixZ, clkV, clkF] at hop hse hpi hfd
  refine kw_seq (kw_region (.inl rfl) ?_)
  simp [fixZ]
  refine kw_seq (kw_region (.inl rfl) ?_)
  simp [hop]
  refine kw_seq ?_
  refine kw_seq (kw_region (.inl rfl) ?_)
  simp [show ¬ m < 0 by omega, show ¬ 1440 ≤ m by omega]
  refine kw_cond_f (by simp) (kw_skip ?_)
  refine kw_seq (kw_region (.inl rfl) ?_)
  simp [hse, hfd]
  refine kw_seq (kw_region (.inl rfl) ?_)
  simp [wrap64 (n := 3) (by omega) (by omega), show max (3 : Int) 0 = 3 from rfl]
  refine kw_seq ?_
  refine kw_seq (kw_region (.inl rfl) ?_)
  simp
  refine kw_cond_f (by simp) (kw_skip ?_)
  refine kw_seq (kw_region (.inl rfl) ?_)
  simp [ld_fp, wrap64 (n := 4) (by omega) (by omega)]
  refine kw_seq (kw_region (.inl rfl) ?_)
  simp [x_mkmap]
  refine kw_seq ?_
  refine kw_seq (kw_region (.inl rfl) ?_)
  simp [wrap64 (n := 7) (by omega) (by omega), wrap64 (n := 10080) (by omega) (by omega), hpi]
  refine kw_block ?_
  have hp := fun t g4 g5 g13 g14 => pieces_ev (H := zpre m [] t .ready) (H2 := zpre m [(fi 0, .sl 19 0 1 0 0 2)] t .ready) (J1 := zJ1) (y := 7) 10080 (fun J hJ => by
    match J, hJ with
    | [a, b, c, d, e, f], _ => exact zround m h0 h1 t g4 g5 g13 g14 a b c d e f) rfl
  generalize hT : (T.s _ 68 _) = t0
  obtain ⟨r, H', hev, rfl, a, b, c, d, e, f, rfl⟩ := hp t0 (by rw [← hT]; simp) (by rw [← hT]; simp) (by rw [← hT]; simp) (by rw [← hT]; simp)
  have h68 : t0.g 68 = .c (.f (.fn F_x144 [.fp [clkV] 0, .fp [fi 10080] 0])) := by rw [← hT]; simp [clkV, clkF]
  simp only [zpre, fixZ] at hev
  refine kw_rangeF (by simp [h68, calleeV]) hev ?_
  refine kw_endRF rfl (by decide) ?_
  rw [← hT]
  refine wp_reckoned 6 3000 3000 60 (by kernel_rfl) fun j s h => hQ _ _ _ rfl (.inr h)
end Go.Proofs.YtdpfoenmopcolaaGreat
end

section
namespace Go.Proofs.YtdpfoenmopcolaaGreat
open Go Km

/-! ### A finite set of days as a mixed one -/
theorem eq_fs_nil {H : Heap} {cs : List FC} {n : Nat} : eqV H .sl (.c (.f (.fs cs n))) (.c (.f .nils)) = some false := rfl
theorem eq_nil_nil {H : Heap} : eqV H .sl (.c (.f .nils)) (.c (.f .nils)) = some true := rfl
theorem ints_flat : ∀ l : List Int, (ints l).flatten = l.map fi
  | [] => rfl
  | x :: l => by rw [List.map_cons, ← ints_flat l]; rfl
theorem sl_ne {g : Tg} {l : List Int} (h : l ≠ []) : sl g (ints l) = .fs (l.map fi) l.length := by
  cases l with
  | nil => exact absurd rfl h
  | cons x l => rw [← ints_flat]; simp [sl, ints]
theorem room_le {n bytes : Nat} (h : n ≤ 100) (hb : bytes ≤ 100) : roomOK n bytes = true := by
  simp only [roomOK, Bool.and_eq_true, decide_eq_true_eq]
  have : (2 * n + 768) * bytes ≤ 1000 * 100 := Nat.mul_le_mul (by omega) hb
  omega
theorem clone_ints {l : List Int} (hne : l ≠ []) (hl : l.length ≤ 64) (H : Heap) : Ev tab.get (.fn F_x113) [.c (.f (.fs (l.map fi) l.length))] H = E2 (.c (.sl H.length 0 l.length 0 0 1)) (H ++ [.opn 1 ((l.map fi).map .f) 0 0 .loc]) := by
  obtain ⟨r, H', h, e1, e2⟩ : ∃ r H', Ev tab.get (.fn F_x113) [.c (.f (.fs (l.map fi) l.length))] H r H' ∧ r = .c (.sl H.length 0 l.length 0 0 1) ∧ H' = H ++ [.opn 1 ((l.map fi).map .f) 0 0 .loc] := by
    refine ev_ex (args := [.c (.f (.fs (l.map fi) l.length))]) (H := H) (C := fun r H' => r = .c (.sl H.length 0 l.length 0 0 1) ∧ H' = H ++ [.opn 1 ((l.map fi).map .f) 0 0 .loc]) T_x113 rfl fun Q hQ => ?_
    have ha : addedV H 1 (.c (.f (.fs (l.map fi) l.length))) = some (l.length, (l.map fi).map .f) := by simp [addedV, slLen, slCells]
    have hroom : roomOK l.length 8 = true := room_le (by omega) (by omega)
    refine kw_seq (kw_region (.inl rfl) ?_)
    simp
    refine kw_seq ?_
    refine kw_seq (kw_region (.inl rfl) ?_)
    simp [eq_fs_nil]
    refine kw_cond_f (by simp) (kw_skip ?_)
    refine kw_seq (kw_region (.inl rfl) ?_)
    simp only [List.map_map] at ha
    simp [appendV, ha, hroom, hne]
    refine kw_ret (hQ _ _ _ (by simp) (by simp; rfl) ⟨rfl, ?_⟩)
    simp
  subst e1 e2
  exact h.eq
theorem clone_nil (H : Heap) : Ev tab.get (.fn F_x113) [.c (.f .nils)] H = E2 (.c (.f .nils)) H := by
  obtain ⟨r, H', h, e1, e2⟩ : ∃ r H', Ev tab.get (.fn F_x113) [.c (.f .nils)] H r H' ∧ r = .c (.f .nils) ∧ H' = H := by
    refine ev_ex (args := [.c (.f .nils)]) (H := H) (C := fun r H' => r = .c (.f .nils) ∧ H' = H) T_x113 rfl fun Q hQ => ?_
    refine kw_seq (kw_region (.inl rfl) ?_)
    simp
    refine kw_seq ?_
    refine kw_seq (kw_region (.inl rfl) ?_)
    simp [eq_nil_nil]
    refine kw_cond_t (by simp) ?_
    refine kw_seq (kw_region (.inl rfl) ?_)
    simp
    refine kw_ret (hQ _ _ _ (by simp) (by simp; rfl) ⟨rfl, rfl⟩)
  subst e1 e2
  exact h.eq

theorem canon_sp {l : List Int} (hne : l ≠ []) (hl : l.length ≤ 64) (last fr : Int) (hlast : l[l.length - 1]? = some last) (h0 : 0 ≤ last) (h1 : last ≤ 1099511627776) :
    Km.Pure tab.get F_x87 [.a [.f (.fs (l.map fi) l.length), .f (fi fr), .f (fi 1), .f .nils]] = Eq (.a [.f (.fs (l.map fi) l.length), .f (fi (last + 1)), .f (fi 1), .f .nils]) := Km.Pure.eq (by
  refine pure_fn T_x87 rfl fun Q hQ => ?_
  have hpos : 0 < l.length := List.length_pos_iff.2 hne
  refine kw_seq (kw_region (.inl rfl) ?_)
  simp
  refine kw_scope ?_
  refine kw_seq (kw_region (.inl rfl) ?_)
  simp
  refine kw_seq ?_
  refine kw_seq (kw_region (.inl rfl) ?_)
  simp
  refine kw_cond_t (by simp) ?_
  refine kw_seq (kw_region (.inl rfl) ?_)
  simp [clone_ints hne hl]
  have hidx : ∀ H : Heap, indexAV H 1 none (.c (.f (.fs (l.map fi) l.length))) (vi ((l.length : Int) - 1)) = some (.c (.f (.fp (l.map fi) (l.length - 1)))) := by
    intro H
    have := idx_sl (H := H) (g := .fs) (rows := ints l) (sz := 1) (k := .i64) (i := (l.length : Int) - 1) (by omega) (by simp; omega)
    rw [sl_ne hne, ints_flat, show ((l.length : Int) - 1).toNat * 1 = l.length - 1 by omega] at this
    exact this
  have hld : ∀ H : Heap, ldV H none (.c (.f (.fp (l.map fi) (l.length - 1)))) = some (vi last) := by
    intro H
    have := ld_ints (H := H) hlast
    rw [show (l.map fun n => [fi n]).flatten = (ints l).flatten from rfl, ints_flat, Nat.mul_one] at this
    exact this
  have hlen : ∀ H : Heap, slLen H (.f (.fs (l.map fi) l.length)) = some l.length := fun _ => rfl
  refine kw_seq ?_
  refine kw_seq (kw_region (.inl rfl) ?_)
  simp [hlen]
  refine kw_cond_t (by simp; omega) ?_
  refine kw_region (.inl rfl) ?_
  simp [hlen, wrap64 (n := (l.length : Int) - 1) (by omega) (by omega), hidx, hld, wrap64 (n := last + 1) (by omega) (by omega)]
  refine kw_seq (kw_region (.inl rfl) ?_)
  simp
  refine kw_ret (hQ _ _ ?_)
  have hm : ∀ (n : Nat) (H : Heap), mapO (exC n H) (l.map (C.f ∘ fi)) = some (l.map fi) := fun n H => by rw [← List.map_map]; exact mapO_f _
  simp [deep, exV, exV1, ex_sl]
  rw [List.take_of_length_le (by simp), hm]
  rfl)
end Go.Proofs.YtdpfoenmopcolaaGreat
end

section
namespace Go.Proofs.YtdpfoenmopcolaaGreat
open Go Km

/-- A finite set: its days, which rise. -/
structure Fin0 (l : List Int) (last : Int) : Prop where
  ne : l ≠ []
  len : l.length ≤ 64
  lst : l[l.length - 1]? = some last
  lo : 0 ≤ last
  hi : last + 1 ≤ 1099511627776
  up : risingB (last + 1) (-1) l = true
def finP (l : List Int) (last : Int) : PerD := ⟨.fs, l, last + 1, 1, .nil, []⟩
theorem Fin0.per {l : List Int} {last : Int} (h : Fin0 l last) : perB (finP l last) = true := by
  have := h.len
  have := h.lo
  have := h.hi
  have e := h.up
  have e2 : ((List.length l : Int) + (([] : List Int).length : Int) ≤ 1048576) := by simp; omega
  have e3 : (0 : Int) ≤ last + 1 := by omega
  simp only [perB, finP, e, risingB, e2, e3, h.hi, decide_true, Bool.and_self]
  rfl
def finC0 (l : List Int) (last : Int) : List C := [.f (.fs (l.map fi) l.length), .f (fi (last + 1)), .f (fi 1), .f .nils]
theorem finP_row {l : List Int} {last : Int} (h : Fin0 l last) : (finP l last).row.map C.f = finC0 l last := by
  simp [PerD.row, finP, finC0, sl_ne h.ne]
  rfl
theorem finValid_sp {l : List Int} {last : Int} (h : Fin0 l last) : Km.Pure tab.get F_x85 [.a (finC0 l last)] = Eq (vb true) := by
  rw [← finP_row h, per_sp _ (perB_sm h.per), h.per]
theorem finCanon_sp {l : List Int} {last : Int} (h : Fin0 l last) : Km.Pure tab.get F_x80 [.a (finC0 l last)] = Eq (.t [.a (finC0 l last), vi 0]) := Km.Pure.eq (by
  have hv := finValid_sp h
  have hc := canon_sp h.ne h.len last (last + 1) h.lst h.lo (by have := h.hi; omega)
  simp only [finC0] at hv ⊢
  refine pure_fn T_x80 rfl fun Q hQ => ?_
  refine kw_seq (kw_region (.inl rfl) ?_)
  simp
  refine kw_seq ?_
  refine kw_seq (kw_region (.inl rfl) ?_)
  simp [hv]
  refine kw_cond_f (by simp) (kw_skip ?_)
  refine kw_seq (kw_region (.inl rfl) ?_)
  simp [hc]
  refine kw_ret (hQ _ _ ?_)
  simp [deep, exV, exV1])
theorem finEmpty_sp {l : List Int} {last : Int} (h : Fin0 l last) : Km.Pure tab.get F_x81 [.a (finC0 l last)] = Eq (vb false) := Kf.eq (by
  have hv := finValid_sp h
  have hf : Km.Pure tab.get F_x82 [.a (finC0 l last)] = Eq (vb true) := Kf.eq (by
    simp only [finC0] at hv ⊢
    refine kf_fn T_x82 rfl fun H Q hQ => ?_
    refine kw_seq (kw_region (.inl rfl) ?_)
    simp
    refine kw_seq (kw_region (.inl rfl) ?_)
    simp [hv]
    refine kw_ret (hQ _ _ ?_)
    simp)
  have hlen : ∀ H : Heap, slLen H (.f (.fs (l.map fi) l.length)) = some l.length := fun _ => rfl
  have := List.length_pos_iff.2 h.ne
  simp only [finC0] at hf ⊢
  refine kf_fn T_x81 rfl fun H Q hQ => ?_
  refine kw_seq (kw_region (.inl rfl) ?_)
  simp
  refine kw_seq (kw_region (.inl rfl) ?_)
  simp [hf, hlen]
  refine kw_ret (hQ _ _ ?_)
  simp [h.ne])
def finT (l : List Int) (last : Int) : List TermD := [⟨.fs, [finP l last]⟩]
theorem finOf_sp {l : List Int} {last : Int} (h : Fin0 l last) : Km.Pure tab.get F_x51 [.a (finC0 l last)] = Eq (.a [.f (sl .fs (termRows (finT l last)))]) := Km.Pure.eq (by
  have hc := finCanon_sp h
  have he := finEmpty_sp h
  have hr : sl .fs (termRows (finT l last)) = .fs [.fs [.fs (l.map fi) l.length, fi (last + 1), fi 1, .nils] 1] 1 := by
    have := finP_row h
    simp [finC0] at this
    simp [finT, termRows, TermD.row, perRows, sl]
    simpa [PerD.row] using this
  rw [hr]
  simp only [finC0] at hc he ⊢
  refine pure_fn T_x51 rfl fun Q hQ => ?_
  refine kw_seq (kw_region (.inl rfl) ?_)
  simp
  refine kw_seq (kw_region (.inl rfl) ?_)
  simp [hc]
  refine kw_seq ?_
  refine kw_seq (kw_region (.inl rfl) ?_)
  simp [he]
  refine kw_cond_f (by simp) (kw_skip ?_)
  refine kw_seq (kw_region (.inl rfl) ?_)
  simp
  refine kw_ret (hQ _ _ ?_)
  simp [deep, exV, exV1, ex_sl])
theorem noneOf_sp : Km.Pure tab.get F_x51 [.a [.f .nils, .f (fi 0), .f (fi 1), .f .nils]] = Eq (.a [.f .nils]) := Km.Pure.eq (pure_closedv (m := 3000) (d := 60) (by kernel_rfl))
theorem fin_mix {l : List Int} {last : Int} (h : Fin0 l last) : mixB (finT l last) = true := by simp [mixB, finT, termB, h.per]

/-! ### Nothing without something -/
theorem vals_sp : Km.Pure tab.get F_x130 [.c (.f .nils)] = Eq (.c (.f (.fn F_x131 [.fp [.nils] 0]))) := Km.Pure.eq (pure_closedv (m := 3000) (d := 60) (by kernel_rfl))
theorem normal_sp : Km.Pure tab.get F_x64 [.c (.f (.fn F_x131 [.fp [.nils] 0]))] = Eq (.t [.a [.f .nils], vi 0]) := Km.Pure.eq (pure_closedv (m := 3000) (d := 60) (by kernel_rfl))
theorem nomix_sp : Km.Pure tab.get F_x53 [.a [.f .nils]] = Eq (vb true) := Km.Pure.eq (pure_closedv (m := 3000) (d := 60) (by kernel_rfl))
theorem minus_sp (g : Tg) (l : List TermD) (hl : l.length ≤ 9223372036854775807) (h : ∀ t ∈ l, t.Sm) (hB : mixB l = true) :
    Km.Pure tab.get F_x49 [.a [.f .nils], .a [.f (sl g (termRows l))]] = Eq (.t [.a [.f .nils], vi 0]) := Km.Pure.eq (by
  refine pure_fn T_x49 rfl fun Q hQ => ?_
  refine kw_seq (kw_region (.inl rfl) ?_)
  simp
  refine kw_seq ?_
  refine kw_seq (kw_region (.inl rfl) ?_)
  simp [nomix_sp, mix_sp g l hl h, hB]
  refine kw_cond_f (by simp) (kw_skip ?_)
  refine kw_seq (kw_region (.inl rfl) ?_)
  simp [vals_sp, normal_sp]
  refine kw_seq ?_
  refine kw_seq (kw_region (.inl rfl) ?_)
  simp
  refine kw_for l.length (fun j t H' => t.g 4 = .c (.ptr 2 0 0) ∧ t.g 6 = .c (.ptr 3 0 0) ∧ t.g 7 = vi 0 ∧ t.g 34 = .c (.f (sl g (termRows l))) ∧ H' = [.box [.f .nils] 0, .box [.f (sl g (termRows l))] 0, .box [.f .nils] 0, .box [.f .nils] 0]) hl (by decide) (by decide) (by simp) (by simp) ⟨by simp, by simp, by simp, by simp, rfl⟩ ?_ ?_
  · rintro j t _ hj ⟨g4, g6, g7, g34, rfl⟩ ha hb next
    have hld := fun H : Heap => ld_row0 (H := H) (termRows_grid l) (termRows_at hj) rfl
    simp at hld
    refine kw_block ?_
    refine kw_seq (kw_region (.inl rfl) ?_)
    simp [ha, g34, idx_sl, hj, hld]
    refine kw_seq ?_
    refine kw_seq (kw_region (.inl rfl) ?_)
    simp [g7]
    refine kw_cond_f (by simp) (kw_skip ?_)
    refine kw_seq (kw_region (.inl rfl) ?_)
    simp
    refine kw_seq ?_
    refine kw_seq (kw_region (.inl rfl) ?_)
    simp [g6]
    refine kw_for 0 (fun _ t' H' => t'.g 4 = .c (.ptr 2 0 0) ∧ t'.g 6 = .c (.ptr 3 0 0) ∧ t'.g 10 = .c (.f .nils) ∧ t'.g 34 = .c (.f (sl g (termRows l))) ∧ t'.g 36 = vi j ∧ t'.g 35 = vi l.length ∧ H' = [.box [.f .nils] 0, .box [.f (sl g (termRows l))] 0, .box [.f .nils] 0, .box [.f .nils] 0]) (by omega) (by decide) (by decide) (by simp) (by simp) ⟨by simp [g4], by simp [g6], by simp, by simp [g34], by simp [ha], by simp [hb], rfl⟩ (fun _ _ _ h => absurd h (by omega)) ?_
    rintro t _ ⟨g4, g6, g10, g34, ha, hb, rfl⟩ - -
    refine kw_region (.inl rfl) ?_
    simp [g10, g6, vals_sp, normal_sp]
    refine kw_inBlock (next _ _ ?_ (by simp [ha]) (by simp [hb]))
    exact ⟨by simp [g4], by simp [g6], by simp, by simp [g34], rfl⟩
  · rintro t _ ⟨g4, g6, g7, g34, rfl⟩ ha hb
    refine kw_seq (kw_region (.inl rfl) ?_)
    simp [g6, g7, g4]
    refine kw_ret (hQ _ _ ?_)
    simp [deep, exV, exV1, g4])
end Go.Proofs.YtdpfoenmopcolaaGreat
end

section
namespace Go.Proofs.YtdpfoenmopcolaaGreat
open Go Km

/-! ### The maker -/
theorem or0_sp : Km.Pure tab.get F_x52 [.a [.f .nils], .a [.f .nils]] = Eq (.t [.a [.f .nils], vi 0]) := Km.Pure.eq (pure_closedv (m := 3000) (d := 60) (by kernel_rfl))
def makC (s : SerD) (mins : C) : List C := [.f s.rule, .f (fi s.min), .f (fi s.len), .f s.zone, .f (fi s.gap), .f (fi s.fold), .f (sl s.mg (moveRows s.ms)),
  .f (fi 0), .f (.fs [fi 7] 1), .f (fi (-1)), .f .nils, .f (fi 0), .f .nils, .f (fi 0), .f .nils, mins, .mp 4, .f .nils]

theorem add_ev (s : SerD) (m : Int) (b0 b1 b2 b3 b6 : Blk) (J : Heap) : ∃ r H', Ev tab.get (.fn F_x23) [.c (.ptr 5 0 0), vi m, .a [.f .nils]] (b0 :: b1 :: b2 :: b3 :: .map [] :: .box (makC s (.f .nils)) 0 :: b6 :: J) r H' ∧
    (r = vi 0 ∧ H' = b0 :: b1 :: b2 :: b3 :: .map [(fi m, .cl aggM [.f .nils])] :: .box (makC s (.sl (J.length + 1 + 1 + 1 + 1 + 1 + 1 + 1 + 3) 0 1 0 0 1)) 0 :: b6 :: (J ++ [.box [.f .nils] 0, .box [.f .nils] 0, .box [.f (fi m)] 0, .opn 1 [.f (fi m)] 0 0 .loc, .box [.f .nils] 0])) := by
  refine ev_ex T_x23 rfl fun Q hQ => ?_
  have k1 : ∀ k : FC, mpFind .int k [] = some none := fun _ => rfl
  have k2 : ∀ n : Int, isKey .int (fi n) = true := fun _ => rfl
  have k3 : ∀ (k : FC) (v : C), mpPut .int k v [] = some [(k, v)] := fun _ _ => rfl
  have k4 : lkR (.fp [.fn 1000000007 [.nils]] 77) none = .t [.a [.f .nils], .c (.f (.bool false))] := rfl
  have k5 : cellM (.a [.f .nils]) = some (.cl aggM [.f .nils]) := rfl
  have k6 : roomOK 1 8 = true := rfl
  refine kw_seq (kw_region (.inl rfl) ?_)
  simp [makC]
  refine kw_seq (kw_region (.inl rfl) ?_)
  simp [x_lookup, lookupV, k1, k2, k4]
  refine kw_seq ?_
  refine kw_seq (kw_region (.inl rfl) ?_)
  simp
  refine kw_cond_t (by simp) ?_
  refine kw_region (.inl rfl) ?_
  simp [appendV, addedV, slLen, slCells, k6]
  refine kw_seq (kw_region (.inl rfl) ?_)
  simp [or0_sp]
  refine kw_seq (kw_region (.inl rfl) ?_)
  simp [x_mapup, k2, k3, k5]
  refine kw_seq (kw_region (.inl rfl) ?_)
  simp
  refine kw_ret (hQ _ _ _ rfl (res_one (by simp)) ⟨rfl, ?_⟩)
  rfl

theorem zoneDays_sp (m : Int) (h0 : 0 ≤ m) (h1 : m ≤ 1439) : Km.Pure tab.get F_x138 [.a fixZ, vi m] = Eq (.t [.c (.f (.fs [fi 0, .es, fi 0, fi 1, .fs [fi 0] 1] 1)), vi 0]) := Km.Pure.eq (by
  obtain ⟨r, rfl, hz⟩ := zdays_sp m h0 h1
  have hz := hz.eq
  simp only [fixZ] at hz ⊢
  refine pure_fn T_x138 rfl fun Q hQ => ?_
  refine kw_seq (kw_region (.inl rfl) ?_)
  simp
  refine kw_seq (kw_region (.inl rfl) ?_)
  simp [hz]
  refine kw_ret (hQ _ _ ?_)
  simp)
theorem ofAll_sp : Km.Pure tab.get F_x51 [.a [.f .es, .f (fi 0), .f (fi 1), .f (.fs [fi 0] 1)]] = Eq (.a [.f (.fs [.fs [.es, fi 0, fi 1, .fs [fi 0] 1] 1] 1)]) := Km.Pure.eq (pure_closedv (m := 3000) (d := 60) (by kernel_rfl))
theorem and0_sp : Km.Pure tab.get F_x43 [.a [.f .nils], .a [.f (.fs [.fs [.es, fi 0, fi 1, .fs [fi 0] 1] 1] 1)]] = Eq (.t [.a [.f .nils], vi 0]) := Km.Pure.eq (pure_closedv (m := 3000) (d := 60) (by kernel_rfl))
theorem minus0_sp : Km.Pure tab.get F_x83 [.a [.f .nils, .f (fi 0), .f (fi 1), .f (.fs [fi 0] 1)], .a [.f .es, .f (fi 0), .f (fi 1), .f (.fs [fi 0] 1)]] = Eq (.t [.a [.f .nils, .f (fi 0), .f (fi 1), .f .nils], vi 0]) := Km.Pure.eq (pure_closedv (m := 3000) (d := 60) (by kernel_rfl))

theorem plain_ev (s : SerD) (h0 : 0 ≤ s.min) (h1 : s.min ≤ 1439) (b0 b1 b2 b3 b6 : Blk) (J : Heap) : ∃ r H', Ev tab.get (.fn F_x25) [.c (.ptr 5 0 0), .a [.f .nils]] (b0 :: b1 :: b2 :: b3 :: .map [] :: .box (makC s (.f .nils)) 0 :: b6 :: J) r H' ∧
    (r = .t [.a [.f .nils, .f (fi 0), .f (fi 1), .f .nils], vi 0] ∧ ∃ k J', H' = b0 :: b1 :: b2 :: b3 :: .map [(fi s.min, .cl aggM [.f .nils])] :: .box (makC s (.sl (k + 7) 0 1 0 0 1)) 0 :: b6 :: J' ∧ J'[k]? = some (.opn 1 [.f (fi s.min)] 0 0 .loc) ∧ ∀ i, i < J.length → J'[i]? = J[i]?) := by
  refine ev_ex T_x25 rfl fun Q hQ => ?_
  have hz := zoneDays_sp s.min h0 h1
  have ha : ∀ J : Heap, Ev tab.get (.fn F_x23) [.c (.ptr 5 0 0), vi s.min, .a [.f .nils]] (b0 :: b1 :: b2 :: b3 :: .map [] :: .box (makC s (.f .nils)) 0 :: b6 :: J) = E2 (vi 0)
      (b0 :: b1 :: b2 :: b3 :: .map [(fi s.min, .cl aggM [.f .nils])] :: .box (makC s (.sl (J.length + 1 + 1 + 1 + 1 + 1 + 1 + 1 + 3) 0 1 0 0 1)) 0 :: b6 :: (J ++ [.box [.f .nils] 0, .box [.f .nils] 0, .box [.f (fi s.min)] 0, .opn 1 [.f (fi s.min)] 0 0 .loc, .box [.f .nils] 0])) := fun J => by
    obtain ⟨r, H', h, rfl, rfl⟩ := add_ev s s.min b0 b1 b2 b3 b6 J
    exact h.eq
  simp only [fixZ, makC] at hz ha ⊢
  refine kw_seq (kw_region (.inl rfl) ?_)
  simp
  refine kw_seq (kw_region (.inl rfl) ?_)
  simp
  refine kw_seq (kw_region (.inl rfl) ?_)
  simp [hz]
  refine kw_seq ?_
  refine kw_seq (kw_region (.inl rfl) ?_)
  simp
  refine kw_cond_f (by simp) (kw_skip ?_)
  refine kw_seq ?_
  refine kw_seq (kw_region (.inl rfl) ?_)
  simp [show ∀ H : Heap, slLen H (.f (.fs [fi 0, .es, fi 0, fi 1, .fs [fi 0] 1] 1)) = some 1 from fun _ => rfl]
  generalize hT : (T.s _ 35 _) = t0
  obtain ⟨n3, hn3⟩ : ∃ n, n = J.length + 1 + 1 + 1 + 1 + 1 + 1 + 1 := ⟨_, rfl⟩
  refine kw_for 1 (fun j t H' => t.g 0 = .c (.ptr 5 0 0) ∧ t.g 3 = .c (.ptr n3 0 0) ∧ t.g 4 = .c (.ptr (n3 + 1) 0 0) ∧ t.g 6 = .c (.ptr (n3 + 3) 0 0) ∧ t.g 33 = .c (.f (.fs [fi 0, .es, fi 0, fi 1, .fs [fi 0] 1] 1)) ∧
    (j = 0 → H' = b0 :: b1 :: b2 :: b3 :: .map [] :: .box (makC s (.f .nils)) 0 :: b6 :: (J ++ [.box [.f .nils] 0, .box [.f .nils, .f (fi 0), .f (fi 0), .f .nils] 0, .box [.f (fi 0)] 0, .box [.f .nils, .f (fi 0), .f (fi 1), .sl (n3 + 2) 0 1 1 0 1] 0])) ∧
    (j = 1 → ∃ k J', H' = b0 :: b1 :: b2 :: b3 :: .map [(fi s.min, .cl aggM [.f .nils])] :: .box (makC s (.sl (k + 7) 0 1 0 0 1)) 0 :: b6 :: J' ∧ J'[k]? = some (.opn 1 [.f (fi s.min)] 0 0 .loc) ∧ H'[n3 + 1]? = some (.box [.f .nils, .f (fi 0), .f (fi 0), .f .nils] 0) ∧ H'[n3 + 3]? = some (.box [.f .nils, .f (fi 0), .f (fi 1), .f .nils] 0) ∧ ∀ i, i < J.length → J'[i]? = J[i]?))
    (by omega) (by decide) (by decide) (by rw [← hT]; simp) (by rw [← hT]; simp) ?_ ?_ ?_
  · rw [← hT]
    simp [hn3, makC]
  · rintro j t H' hj ⟨g0, g3, g4, g6, g33, hI, -⟩ ha' hb' next
    obtain rfl : j = 0 := by omega
    obtain rfl := hI rfl
    clear hI
    subst hn3
    refine kw_block ?_
    refine kw_seq (kw_region (.inl rfl) ?_)
    have hidx : ∀ H : Heap, indexAV H 5 none (.c (.f (.fs [fi 0, .es, fi 0, fi 1, .fs [fi 0] 1] 1))) (vi 0) = some (.c (.f (.fp [fi 0, .es, fi 0, fi 1, .fs [fi 0] 1] 0))) := fun _ => rfl
    simp [makC, ha', g33, hidx, ld_fp]
    refine kw_seq (kw_region (.inl rfl) ?_)
    simp [g3, ofAll_sp, and0_sp]
    refine kw_seq ?_
    refine kw_seq (kw_region (.inl rfl) ?_)
    simp
    refine kw_cond_f (by simp) (kw_skip ?_)
    refine kw_seq ?_
    refine kw_seq (kw_region (.inl rfl) ?_)
    simp [g0, wrap64 (n := s.min) (by omega) (by omega), ha]
    refine kw_seq ?_
    refine kw_region (.inl rfl) ?_
    simp
    refine kw_cond_f (by simp) (kw_skip ?_)
    refine kw_seq (kw_region (.inl rfl) ?_)
    simp [g6, minus0_sp, deep, ex_sl, mk_sl]
    refine kw_seq ?_
    refine kw_region (.inl rfl) ?_
    simp
    refine kw_cond_f (by simp) (kw_skip (kw_inBlock (next _ _ ?_ (by simp [ha']) (by simp [hb']))))
    refine ⟨by simp [g0], by simp [g3], by simp [g4], by simp [g6], by simp [g33], by omega, fun _ => ⟨J.length + 9, J ++ [.box [.f .nils] 0, .box [.f .nils, .f (fi 0), .f (fi 0), .f .nils] 0, .box [.f (fi 0)] 1, .box [.f .nils, .f (fi 0), .f (fi 1), .f .nils] 0, .box [.f (fi 0), .f .es, .f (fi 0), .f (fi 1), .f (.fs [fi 0] 1)] 0, .box [.f .nils] 0, .box [.f .nils] 0, .box [.f .nils] 0, .box [.f (fi s.min)] 0, .opn 1 [.f (fi s.min)] 0 0 .loc, .box [.f .nils] 0], ?_, ?_, ?_, ?_, ?_⟩⟩
    · simp [makC]
    · simp
    · simp
    · simp
    · intro i hi
      rw [List.getElem?_append_left hi]
  · rintro t H' ⟨g0, g3, g4, g6, g33, -, hI⟩ - -
    obtain ⟨k, J', rfl, hk, h4, h6, hkeep⟩ := hI rfl
    subst hn3
    simp at h4 h6
    have hne : k ≠ J.length + 1 := fun e => by rw [e, h4] at hk; simp at hk
    refine kw_seq (kw_region (.inl rfl) ?_)
    simp [g4, g6, h4, h6]
    refine kw_ret (hQ _ _ _ rfl ?_ ⟨rfl, k, _, rfl, ?_, fun i hi => ?_⟩)
    · have hl := lt_of_get h4
      simp [Km.results, g4, List.getElem?_set_self hl]
    · rw [List.getElem?_set_ne (Ne.symm hne)]
      exact hk
    · rw [List.getElem?_set_ne (by omega)]
      exact hkeep i hi
end Go.Proofs.YtdpfoenmopcolaaGreat
end

section
namespace Go.Proofs.YtdpfoenmopcolaaGreat
open Go Km

theorem kw_enter {tab : Nat → Option AFunc} {fn : Nat} {ro : Option Nat} {k : List AItem} {s : St} {Q : Option ACode → St → Prop} {a : ACode} (h : WP tab fn ro (.code a :: .inLoop a :: k) s Q) : WP tab fn ro (.code (.loop a) :: k) s Q := kw_of h fun _ _ _ => rfl
theorem start0_sp : Km.Pure tab.get F_x31 [.a fixZ] = Eq (.t [vi 3, vi 1]) := Km.Pure.eq (pure_closedv (m := 3000) (d := 60) (by kernel_rfl))
theorem next0_sp : Km.Pure tab.get F_x84 [.a [.f .nils, .f (fi 0), .f (fi 1), .f .nils], vi 0] = Eq (.t [vi 0, vb false]) := Km.Pure.eq (pure_closedv (m := 3000) (d := 60) (by kernel_rfl))

theorem odd_ev (s : SerD) (mins : C) (H : Heap) (h5 : H[5]? = some (.box (makC s mins) 0)) : ∃ r H', Ev tab.get (.fn F_x24) [.c (.ptr 5 0 0), .a [.f .nils], .a [.f .nils, .f (fi 0), .f (fi 1), .f .nils]] H r H' ∧ (r = vi 0 ∧ ∃ J, H' = H ++ J) := by
  refine ev_ex T_x24 rfl fun Q hQ => ?_
  have l5 := lt_of_get h5
  have hs := start0_sp
  simp only [fixZ, makC] at hs h5
  refine kw_seq (kw_region (.inl rfl) ?_)
  simp
  refine kw_scope ?_
  refine kw_seq (kw_region (.inl rfl) ?_)
  simp [List.getElem?_append_left l5, h5, hs]
  refine kw_seq (kw_region (.inl rfl) ?_)
  simp [x_mkmap]
  refine kw_seq (kw_region (.inl rfl) ?_)
  simp
  refine kw_seq (kw_label ?_)
  refine kw_seq ?_
  refine kw_seq (kw_region (.inl rfl) ?_)
  simp
  refine kw_block (kw_enter (kw_seq (kw_block ?_)))
  refine kw_seq (kw_region (.inl rfl) ?_)
  simp [next0_sp]
  refine kw_seq ?_
  refine kw_seq (kw_region (.inl rfl) ?_)
  simp
  refine kw_cond_t (by simp) ?_
  refine kw_exit rfl ?_
  refine kw_seq ?_
  refine kw_seq (kw_region (.inl rfl) ?_)
  simp
  refine kw_block (kw_enter (kw_seq (kw_region (.inl rfl) ?_)))
  simp
  refine kw_seq (kw_cond_f (by simp) ?_)
  refine kw_exit rfl ?_
  refine kw_seq (kw_region (.inl rfl) ?_)
  simp
  exact kw_ret (hQ _ _ _ rfl (res_one (by simp)) ⟨rfl, _, rfl⟩)

/-! ### Sorting what needs no sorting -/
theorem len1_sp : Km.Pure tab.get F_x39 [.c (.f (.int .u64 1))] = Eq (vi 1) := Km.Pure.eq (pure_closedv (m := 3000) (d := 60) (by kernel_rfl))
theorem len0_sp : Km.Pure tab.get F_x39 [.c (.f (.int .u64 0))] = Eq (vi 0) := Km.Pure.eq (pure_closedv (m := 3000) (d := 60) (by kernel_rfl))
theorem ins1_ev (x : C) (H : Heap) : ∃ r H', Ev tab.get (.fn F_x134) [.c x, vi 0, vi 1] H r H' ∧ (r = .t [] ∧ H' = H) := by
  refine ev_ex T_x134 rfl fun Q hQ => ?_
  refine kw_seq (kw_region (.inl rfl) ?_)
  simp [wrap64 (n := 1) (by omega) (by omega)]
  refine kw_block (kw_enter (kw_seq (kw_seq (kw_region (.inl rfl) ?_))))
  simp
  refine kw_cond_f (by simp) ?_
  refine kw_exit rfl ?_
  exact kw_nil (hQ _ _ _ rfl rfl ⟨rfl, rfl⟩)
theorem pdq1_ev (x : C) (H : Heap) : ∃ r H', Ev tab.get (.fn F_x137) [.c x, vi 0, vi 1, vi 1] H r H' ∧ (r = .t [] ∧ H' = H) := by
  refine ev_ex T_x137 rfl fun Q hQ => ?_
  have hi : ∀ H, Ev tab.get (.fn F_x134) [.c x, vi 0, vi 1] H = E2 (.t []) H := fun H => by
    obtain ⟨r, H', h, rfl, rfl⟩ := ins1_ev x H
    exact h.eq
  refine kw_seq (kw_region (.inl rfl) ?_)
  simp
  refine kw_seq (kw_region (.inl rfl) ?_)
  simp
  refine kw_block (kw_enter (kw_block ?_))
  refine kw_seq (kw_region (.inl rfl) ?_)
  simp [wrap64 (n := 1) (by omega) (by omega)]
  refine kw_seq ?_
  refine kw_seq (kw_region (.inl rfl) ?_)
  simp
  refine kw_cond_t (by simp) ?_
  refine kw_seq (kw_region (.inl rfl) ?_)
  simp [hi]
  exact kw_ret (hQ _ _ _ rfl rfl ⟨rfl, rfl⟩)
theorem sort1_ev (x : C) (H : Heap) (hx : slLen H x = some 1) : ∃ r H', Ev tab.get (.fn F_x129) [.c x] H r H' ∧ (r = .t [] ∧ H' = H) := by
  refine ev_ex T_x129 rfl fun Q hQ => ?_
  have hi : ∀ H, Ev tab.get (.fn F_x137) [.c x, vi 0, vi 1, vi 1] H = E2 (.t []) H := fun H => by
    obtain ⟨r, H', h, rfl, rfl⟩ := pdq1_ev x H
    exact h.eq
  refine kw_seq (kw_region (.inl rfl) ?_)
  simp [hx]
  refine kw_region (.inl rfl) ?_
  simp [show IntKind.u64.wrap 1 = 1 from rfl, len1_sp, hi]
  exact kw_nil (hQ _ _ _ rfl rfl ⟨rfl, rfl⟩)
theorem ins0_ev (H : Heap) : ∃ r H', Ev tab.get (.fn F_x132) [.c (.f .nils), vi 0, vi 0, .c (.f (.fn F_x27 []))] H r H' ∧ (r = .t [] ∧ H' = H) := by
  refine ev_ex T_x132 rfl fun Q hQ => ?_
  refine kw_seq (kw_region (.inl rfl) ?_)
  simp [wrap64 (n := 1) (by omega) (by omega)]
  refine kw_block (kw_enter (kw_seq (kw_seq (kw_region (.inl rfl) ?_))))
  simp
  refine kw_cond_f (by simp) ?_
  refine kw_exit rfl ?_
  exact kw_nil (hQ _ _ _ rfl rfl ⟨rfl, rfl⟩)
theorem pdq0_ev (H : Heap) : ∃ r H', Ev tab.get (.fn F_x135) [.c (.f .nils), vi 0, vi 0, vi 0, .c (.f (.fn F_x27 []))] H r H' ∧ (r = .t [] ∧ H' = H) := by
  refine ev_ex T_x135 rfl fun Q hQ => ?_
  have hi : ∀ H, Ev tab.get (.fn F_x132) [.c (.f .nils), vi 0, vi 0, .c (.f (.fn F_x27 []))] H = E2 (.t []) H := fun H => by
    obtain ⟨r, H', h, rfl, rfl⟩ := ins0_ev H
    exact h.eq
  refine kw_seq (kw_region (.inl rfl) ?_)
  simp
  refine kw_seq (kw_region (.inl rfl) ?_)
  simp
  refine kw_block (kw_enter (kw_block ?_))
  refine kw_seq (kw_region (.inl rfl) ?_)
  simp [wrap64 (n := 0) (by omega) (by omega)]
  refine kw_seq ?_
  refine kw_seq (kw_region (.inl rfl) ?_)
  simp
  refine kw_cond_t (by simp) ?_
  refine kw_seq (kw_region (.inl rfl) ?_)
  simp [hi]
  exact kw_ret (hQ _ _ _ rfl rfl ⟨rfl, rfl⟩)
theorem sort0_ev (H : Heap) : ∃ r H', Ev tab.get (.fn F_x127) [.c (.f .nils), .c (.f (.fn F_x27 []))] H r H' ∧ (r = .t [] ∧ H' = H) := by
  refine ev_ex T_x127 rfl fun Q hQ => ?_
  have hi : ∀ H, Ev tab.get (.fn F_x135) [.c (.f .nils), vi 0, vi 0, vi 0, .c (.f (.fn F_x27 []))] H = E2 (.t []) H := fun H => by
    obtain ⟨r, H', h, rfl, rfl⟩ := pdq0_ev H
    exact h.eq
  refine kw_seq (kw_region (.inl rfl) ?_)
  simp
  refine kw_region (.inl rfl) ?_
  simp [show IntKind.u64.wrap 0 = 0 from rfl, len0_sp, hi]
  exact kw_nil (hQ _ _ _ rfl rfl ⟨rfl, rfl⟩)
theorem compact0_ev (H : Heap) : ∃ r H', Ev tab.get (.fn F_x114) [.c (.f .nils)] H r H' ∧ (r = .c (.f .nils) ∧ H' = H) := by
  refine ev_ex T_x114 rfl fun Q hQ => ?_
  refine kw_seq (kw_region (.inl rfl) ?_)
  simp
  refine kw_seq ?_
  refine kw_seq (kw_region (.inl rfl) ?_)
  simp
  refine kw_cond_t (by simp) ?_
  refine kw_seq (kw_region (.inl rfl) ?_)
  simp
  exact kw_ret (hQ _ _ _ rfl (res_one (by simp)) ⟨rfl, rfl⟩)
end Go.Proofs.YtdpfoenmopcolaaGreat
end

section
namespace Go.Proofs.YtdpfoenmopcolaaGreat
open Go Km

theorem empty0_sp : Km.Pure tab.get F_x44 [.a [.f .nils]] = Eq (vb true) := Km.Pure.eq (pure_closedv (m := 3000) (d := 60) (by kernel_rfl))
theorem stream_ev (s : SerD) (k : Nat) (b0 b1 b2 b3 b6 : Blk) (J : Heap) (hk : J[k]? = some (.opn 1 [.f (fi s.min)] 0 0 .loc)) :
    ∃ r H', Ev tab.get (.fn F_x26) [.c (.ptr 5 0 0)] (b0 :: b1 :: b2 :: b3 :: .map [(fi s.min, .cl aggM [.f .nils])] :: .box (makC s (.sl (k + 7) 0 1 0 0 1)) 0 :: b6 :: J) r H' ∧
    (r = .t [.a [.f .nils, .f (fi s.len), .f .nils], vi 0] ∧ ∃ J', H' = b0 :: b1 :: b2 :: b3 :: .map [(fi s.min, .cl aggM [.f .nils])] :: .box (makC s (.sl (k + 7) 0 1 0 0 1)) 0 :: b6 :: (J ++ J')) := by
  refine ev_ex T_x26 rfl fun Q hQ => ?_
  have k1 : ∀ c : C, mpFind .int (fi s.min) [(fi s.min, c)] = some (some c) := fun c => by simp [mpFind, eqK]
  have k2 : ∀ n : Int, isKey .int (fi n) = true := fun _ => rfl
  have k4 : lkR (.fn 1000000007 [.nils]) (some (.cl aggM [.f .nils])) = .a [.f .nils] := rfl
  have lk := lt_of_get hk
  have hj : ∀ L : Heap, (J ++ L)[k]? = some (.opn 1 [.f (fi s.min)] 0 0 .loc) := fun L => by rw [List.getElem?_append_left lk, hk]
  have hsort : ∀ (x : C) (H : Heap), slLen H x = some 1 → Ev tab.get (.fn F_x129) [.c x] H = E2 (.t []) H := fun x H h => by
    obtain ⟨r, H', h, rfl, rfl⟩ := sort1_ev x H h
    exact h.eq
  have hsort0 : ∀ (H : Heap), Ev tab.get (.fn F_x127) [.c (.f .nils), .c (.f (.fn F_x27 []))] H = E2 (.t []) H := fun H => by
    obtain ⟨r, H', h, rfl, rfl⟩ := sort0_ev H
    exact h.eq
  have hcomp : ∀ (H : Heap), Ev tab.get (.fn F_x114) [.c (.f .nils)] H = E2 (.c (.f .nils)) H := fun H => by
    obtain ⟨r, H', h, rfl, rfl⟩ := compact0_ev H
    exact h.eq
  simp only [makC]
  refine kw_seq (kw_region (.inl rfl) ?_)
  simp
  refine kw_seq (kw_region (.inl rfl) ?_)
  simp
  generalize hPRE : Blk.box [C.f s.rule, _, _, _, _, _, _, _, _, _, _, _, _, _, _, _, _, _] 0 = B5
  have hln : ∀ (B : Blk) (L : Heap), slLen (b0 :: b1 :: b2 :: b3 :: .map [(fi s.min, .cl aggM [.f .nils])] :: B :: b6 :: (J ++ L)) (.sl (k + 7) 0 1 0 0 1) = some 1 := fun B L => by
    simp [slLen, hj]
  rw [← hPRE]
  refine kw_seq (kw_region (.inl rfl) ?_)
  simp [hsort, hln]
  refine kw_seq ?_
  refine kw_seq (kw_region (.inl rfl) ?_)
  simp [hln]
  refine kw_block (kw_enter (kw_seq (kw_region (.inl rfl) ?_)))
  simp
  refine kw_seq (kw_cond_t (by simp) (kw_skip (kw_seq (kw_block ?_))))
  refine kw_seq (kw_region (.inl rfl) ?_)
  simp [indexAV, intV, hj]
  refine kw_seq ?_
  refine kw_region (.inl rfl) ?_
  simp [x_lookup, lookupV, k1, k2, k4, empty0_sp]
  refine kw_cond_f (by simp) (kw_skip (kw_inBlock ?_))
  refine kw_region (.inl rfl) ?_
  simp [wrap64 (n := 1) (by omega) (by omega)]
  refine kw_inLoop (kw_seq (kw_region (.inl rfl) ?_))
  simp
  refine kw_seq (kw_cond_f (by simp) ?_)
  refine kw_exit rfl ?_
  refine kw_seq (kw_region (.inl rfl) ?_)
  simp [hsort0]
  refine kw_seq (kw_region (.inl rfl) ?_)
  simp [hcomp]
  refine kw_seq ?_
  refine kw_seq (kw_region (.inl rfl) ?_)
  simp
  refine kw_cond_f (by simp) (kw_skip ?_)
  refine kw_seq (kw_region (.inl rfl) ?_)
  simp
  refine kw_ret (hQ _ _ _ rfl ?_ ⟨rfl, _, rfl⟩)
  simp [Km.results]
end Go.Proofs.YtdpfoenmopcolaaGreat
end

section
namespace Go.Proofs.YtdpfoenmopcolaaGreat
open Go Km

theorem zvalid_sp : Km.Pure tab.get F_x140 [.a fixZ] = Eq (vi 0) := Km.Pure.eq (pure_closedv (m := 3000) (d := 60) (by kernel_rfl))
theorem has0_sp (d : Int) : Km.Pure tab.get F_x48 [.a [.f .nils], vi d] = Eq (vb false) := Km.Pure.eq (pure_closedv (m := 3000) (d := 60) (by kernel_rfl))
def daysOf (l : List MoveD) : List Int := l.map MoveD.day
/-- The days of the moves rise. -/
theorem moves_up : ∀ (p : Option Int) (l : List MoveD) (last lo : Int), movesB p l = true → (∀ m ∈ l, m.day ≤ last) → (∀ x, p = some x → lo ≤ x) → (p = none → lo = -1) → (∀ x, p = some x → lo = x) → risingB (last + 1) lo (daysOf l) = true
  | _, [], _, _, _, _, _, _, _ => rfl
  | p, m :: l, last, lo, h, hle, h1, h2, h3 => by
    simp only [movesB, Bool.and_eq_true] at h
    obtain ⟨⟨hm, hp⟩, hr⟩ := h
    have hd : lo < m.day := by
      cases p with
      | none =>
        have := withinB_t (by simpa [moveB] using (Bool.and_eq_true _ _ ▸ hm : fitsB m = true ∧ withinB m.day 0 1099511627776 = true).2)
        have := h2 rfl
        omega
      | some x =>
        have := h3 x rfl
        simp at hp
        omega
    have hl := hle m List.mem_cons_self
    simp only [daysOf, List.map_cons, risingB, Bool.and_eq_true, decide_eq_true_eq]
    exact ⟨⟨hd, by omega⟩, moves_up (some m.day) l last m.day hr (fun x hx => hle x (List.mem_cons_of_mem _ hx)) (fun x hx => by cases hx; omega) (fun h => by cases h) (fun x hx => by cases hx; rfl)⟩
theorem moves_le : ∀ (p : Option Int) (l : List MoveD), movesB p l = true → l.Pairwise (fun a b => a.day < b.day) ∧ (∀ x, p = some x → ∀ m ∈ l, x < m.day) ∧ ∀ m ∈ l, 0 ≤ m.day ∧ m.day ≤ 1099511627776
  | _, [], _ => by simp
  | p, m :: l, h => by
    simp only [movesB, Bool.and_eq_true] at h
    obtain ⟨⟨hm, hp⟩, hr⟩ := h
    obtain ⟨i1, i2, i3⟩ := moves_le (some m.day) l hr
    have hw : 0 ≤ m.day ∧ m.day ≤ 1099511627776 := by
      simp only [moveB, Bool.and_eq_true] at hm
      exact withinB_t hm.2
    refine ⟨List.pairwise_cons.2 ⟨fun x hx => i2 _ rfl x hx, i1⟩, fun x hx y hy => ?_, fun y hy => ?_⟩
    · subst hx
      simp at hp
      rcases List.mem_cons.1 hy with rfl | hy
      · exact hp
      · have := i2 _ rfl y hy
        omega
    · rcases List.mem_cons.1 hy with rfl | hy
      · exact hw
      · exact i3 y hy
theorem moves_fin {l : List MoveD} (h : movesB none l = true) (hn : l ≠ []) (hl : l.length ≤ 64) {m : MoveD} (hm : l[l.length - 1]? = some m) (hd : m.day ≠ 1099511627776) : Fin0 (daysOf l) m.day := by
  obtain ⟨h1, -, h3⟩ := moves_le none l h
  have hmem : m ∈ l := List.mem_of_getElem? hm
  have hw := h3 m hmem
  have hle : ∀ x ∈ l, x.day ≤ m.day := by
    intro x hx
    obtain ⟨i, hi, rfl⟩ := List.mem_iff_getElem.1 hx
    obtain ⟨hj, e⟩ := List.getElem?_eq_some_iff.1 hm
    by_cases hij : i = l.length - 1
    · subst hij; rw [e]; omega
    · have := List.pairwise_iff_getElem.1 h1 i (l.length - 1) hi hj (by omega)
      rw [e] at this
      omega
  refine ⟨by simpa [daysOf] using hn, by simpa [daysOf] using hl, by simp [daysOf, hm], hw.1, by omega, moves_up none l m.day (-1) h hle (fun x hx => by cases hx) (fun _ => rfl) (fun x hx => by cases hx)⟩
end Go.Proofs.YtdpfoenmopcolaaGreat
end

section
namespace Go.Proofs.YtdpfoenmopcolaaGreat
open Go Km

/-- The list of days in the making, behind seven blocks. -/
def MV (l : List Int) (v : C) (J : Heap) : Prop := (l = [] ∧ v = .f .nils) ∨ (l ≠ [] ∧ ∃ k ep, v = .sl (k + 7) 0 l.length 0 ep 1 ∧ J[k]? = some (.opn 1 (l.map fun d => .f (fi d)) 0 ep .loc))
theorem MV.push {l : List Int} {v : C} {J : Heap} (h : MV l v J) (L : Heap) : MV l v (J ++ L) := by
  rcases h with h | ⟨hn, k, ep, h1, h2⟩
  · exact .inl h
  · exact .inr ⟨hn, k, ep, h1, by rw [List.getElem?_append_left (lt_of_get h2), h2]⟩
theorem mv_app {b0 b1 b2 b3 b4 b5 b6 : Blk} {J : Heap} {l : List Int} {v : C} (d : Int) (hv : MV l v J) (hl : l.length ≤ 64) (q : Nat) (hq : (b0 :: b1 :: b2 :: b3 :: b4 :: b5 :: b6 :: J)[q]? = some (.box [.f (fi d)] 0)) :
    ∃ v' J', appendV (b0 :: b1 :: b2 :: b3 :: b4 :: b5 :: b6 :: J) 1 8 (.c v) (.c (.sl q 0 1 1 0 1)) = some (.c v', b0 :: b1 :: b2 :: b3 :: b4 :: b5 :: b6 :: J') ∧ MV (l ++ [d]) v' J' ∧ ∀ (i : Nat) (cs : List C) (fl : Nat), J[i]? = some (.box cs fl) → J'[i]? = some (.box cs fl) := by
  have ha : addedV (b0 :: b1 :: b2 :: b3 :: b4 :: b5 :: b6 :: J) 1 (.c (.sl q 0 1 1 0 1)) = some (1, [.f (fi d)]) := by simp [addedV, slLen, slCells, hq]
  rcases hv with ⟨rfl, rfl⟩ | ⟨hn, k, ep, rfl, hk⟩
  · have hr : roomOK 1 8 = true := rfl
    refine ⟨.sl (J.length + 7) 0 1 0 0 1, J ++ [.opn 1 [.f (fi d)] 0 0 .loc], ?_, .inr ⟨by simp, J.length, 0, by simp, by simp⟩, fun i cs fl h => by rw [List.getElem?_append_left (lt_of_get h), h]⟩
    simp [appendV, ha, hr]
  · have hr : roomOK (l.length + 1) 8 = true := room_le (by omega) (by omega)
    have hk' : (b0 :: b1 :: b2 :: b3 :: b4 :: b5 :: b6 :: J)[k + 7]? = some (.opn 1 (l.map fun d => .f (fi d)) 0 ep .loc) := hk
    refine ⟨.sl (k + 7) 0 (l.length + 1) 0 (ep + 1) 1, J.set k (.opn 1 ((l.map fun d => .f (fi d)) ++ [.f (fi d)]) 0 (ep + 1) .loc), ?_, .inr ⟨by simp, k, ep + 1, by simp, by rw [List.getElem?_set_self (lt_of_get hk)]; simp⟩, fun i cs fl h => by rw [List.getElem?_set_ne (fun e => by rw [e, h] at hk; simp at hk), h]⟩
    simp only [appendV, ha, hk']
    simp [hr]
/-- Frozen. -/
theorem MV.fz {b0 b1 b2 b3 b4 b5 b6 : Blk} {J : Heap} {l : List Int} {v : C} (hv : MV l v J) (hn : l ≠ []) (n : Nat) : exC (n + 1) (b0 :: b1 :: b2 :: b3 :: b4 :: b5 :: b6 :: J) v = some (.fs (l.map fi) l.length) := by
  rcases hv with ⟨rfl, _⟩ | ⟨hn, k, ep, rfl, hk⟩
  · exact absurd rfl hn
  · have hk' : (b0 :: b1 :: b2 :: b3 :: b4 :: b5 :: b6 :: J)[k + 7]? = some (.opn 1 (l.map fun d => .f (fi d)) 0 ep .loc) := hk
    have hm : mapO (exC n (b0 :: b1 :: b2 :: b3 :: b4 :: b5 :: b6 :: J)) (l.map fun d => .f (fi d)) = some (l.map fi) := by
      have := mapO_f (n := n) (H := b0 :: b1 :: b2 :: b3 :: b4 :: b5 :: b6 :: J) (l.map fi)
      rwa [List.map_map] at this
    simp only [ex_sl, hk']
    simp only [Nat.zero_add, Nat.mul_one, List.drop_zero, List.length_map, Nat.le_refl, and_self, if_true]
    rw [List.take_of_length_le (by simp), hm]
    rfl
theorem foldl_mkf {n : Nat} : ∀ (l : List FC) (H : Heap), (l.map C.f).foldl (fun H x => mkC n x H) H = H
  | [], _ => rfl
  | x :: l, H => by simp only [List.map_cons, List.foldl_cons, mkC_f]; exact foldl_mkf l H
theorem MV.mk {b0 b1 b2 b3 b4 b5 b6 : Blk} {J : Heap} {l : List Int} {v : C} (hv : MV l v J) (n : Nat) : ∃ J', mkC (n + 1) v (b0 :: b1 :: b2 :: b3 :: b4 :: b5 :: b6 :: J) = b0 :: b1 :: b2 :: b3 :: b4 :: b5 :: b6 :: J' := by
  rcases hv with ⟨rfl, rfl⟩ | ⟨hn, k, ep, rfl, hk⟩
  · exact ⟨J, by simp⟩
  · have hk' : (b0 :: b1 :: b2 :: b3 :: b4 :: b5 :: b6 :: J)[k + 7]? = some (.opn 1 (l.map fun d => .f (fi d)) 0 ep .loc) := hk
    refine ⟨J.set k (.opn 1 (l.map fun d => .f (fi d)) (Nat.max 0 (0 + l.length * 1)) ep .loc), ?_⟩
    simp only [mk_sl, hk']
    rw [show (l.map fun d => C.f (fi d)) = (l.map fi).map C.f by rw [List.map_map]; rfl, ← List.map_drop, ← List.map_take, foldl_mkf]
    rfl
end Go.Proofs.YtdpfoenmopcolaaGreat
end

section
namespace Go.Proofs.YtdpfoenmopcolaaGreat
open Go Km

def ofP (s : SerD) (e : Int) : Prop := e = 1 ↔ properB s = false
theorem of_ex (s : SerD) (hs : s.ms.length ≤ 9223372036854775807) : ∃ r, (∃ (xs : List FC) (e : Int), xs.length = 3 ∧ r = .t [.a (xs.map .f), vi e] ∧ ofP s e) ∧ Km.Pure tab.get F_x14 [.a (s.row.map .f), .a [.f .nils], .a fixZ] r := by
  refine pure_ex T_x14 rfl fun Q hQ => ?_
  have hpr := proper_sp s hs
  have hzv := zvalid_sp
  simp only [fixZ] at hzv ⊢
  simp [SerD.row] at hpr
  refine kw_seq (kw_region (.inl rfl) ?_)
  simp [SerD.row]
  refine kw_seq ?_
  refine kw_seq (kw_region (.inl rfl) ?_)
  simp [hpr, nomix_sp, hzv]
  cases hB : properB s
  · simp
    refine kw_cond_t (by simp) ?_
    refine kw_seq (kw_region (.inl rfl) ?_)
    simp
    refine kw_ret (hQ _ _ (.t [.a ([FC.nils, fi 0, .nils].map .f), vi 1]) ⟨_, _, rfl, rfl, by simp [ofP, hB]⟩ ?_)
    simp [deep, exV, exV1]
  simp [nomix_sp, hzv]
  have hms : movesB none s.ms = true ∧ (s.ms.length : Int) ≤ 64 ∧ 0 ≤ s.min ∧ s.min ≤ 1439 := by
    simp only [properB, Bool.and_eq_true, decide_eq_true_eq] at hB
    obtain ⟨⟨⟨⟨⟨h1, h2⟩, h3⟩, h4⟩, h5⟩, h6⟩ := hB
    have := withinB_t h1
    exact ⟨h6, h5, this.1, this.2⟩
  obtain ⟨hmv, h64, hm0, hm1⟩ := hms
  refine kw_cond_f (by simp) (kw_skip ?_)
  refine kw_seq (kw_region (.inl rfl) ?_)
  simp [x_mkmap]
  refine kw_seq (kw_region (.inl rfl) ?_)
  simp
  refine kw_seq ?_
  refine kw_seq (kw_region (.inl rfl) ?_)
  simp
  generalize hT : (T.s _ 42 _) = t0
  generalize hb0 : Blk.box [C.f s.rule, C.f (fi s.min), C.f (fi s.len), C.f s.zone, C.f (fi s.gap), C.f (fi s.fold), C.f (sl s.mg (moveRows s.ms))] 0 = b0
  generalize hb2 : Blk.box [C.f (fi 0), C.f (FC.fs [fi 7] 1), C.f (fi (-1)), C.f FC.nils, C.f (fi 0), C.f FC.nils, C.f (fi 0), C.f FC.nils] 0 = b2
  generalize hb3 : Blk.box [C.f FC.nils, C.f (FC.int IntKind.i64 0), C.f FC.nils] 0 = b3
  generalize hb5 : Blk.box [C.f s.rule, C.f (fi s.min), C.f (fi s.len), C.f s.zone, C.f (fi s.gap), C.f (fi s.fold), C.f (sl s.mg (moveRows s.ms)), _, _, _, _, _, _, _, _, _, _, _] 0 = b5
  have hd0 : ∀ m : MoveD, m ∈ s.ms → 0 ≤ m.day ∧ m.day ≤ 1099511627776 := (moves_le none s.ms hmv).2.2
  refine kw_for s.ms.length (fun j t H' => t.g 3 = .c (.ptr 0 0 0) ∧ t.g 4 = .c (.ptr 1 0 0) ∧ t.g 6 = .c (.ptr 3 0 0) ∧ t.g 8 = .c (.ptr 5 0 0) ∧ t.g 9 = .c (.ptr 6 0 0) ∧ t.g 40 = .c (.f (sl s.mg (moveRows s.ms))) ∧
      ∃ v fr J, H' = b0 :: .box [.f .nils] 0 :: b2 :: b3 :: .map [] :: b5 :: .box [v, .f (fi fr), .f (fi 1), .f .nils] 0 :: J ∧ MV ((daysOf s.ms).take j) v J ∧ (j = 0 → fr = 0) ∧ (∀ m, j = m + 1 → ∀ h : m < s.ms.length, fr = s.ms[m].day + 1 ∧ s.ms[m].day ≠ 1099511627776))
    (by omega) (by decide) (by decide) (by rw [← hT]; simp) (by rw [← hT]; simp) ?_ ?_ ?_
  · rw [← hT]
    simp
    exact ⟨_, _, _, ⟨⟨rfl, rfl⟩, rfl⟩, .inl ⟨rfl, rfl⟩, rfl⟩
  · rintro j t _ hj ⟨g3, g4, g6, g8, g9, g40, v, fr, J, rfl, hMV, hz, hfr⟩ ha hb next
    have hld := fun H : Heap => ld_rowa (H := H) (moveRows_grid s.ms) (moveRows_at hj)
    simp [MoveD.row] at hld
    have hday := hd0 s.ms[j] (List.getElem_mem hj)
    refine kw_block ?_
    refine kw_seq (kw_region (.inl rfl) ?_)
    simp [ha, g40, idx_sl, hj, hld]
    refine kw_seq ?_
    refine kw_seq (kw_region (.inl rfl) ?_)
    simp
    by_cases hk : s.ms[j].day = 1099511627776
    · refine kw_cond_t (by simp [hk]) ?_
      refine kw_seq (kw_region (.inl rfl) ?_)
      simp [g6, ← hb3]
      refine kw_ret (hQ _ _ (.t [.a ([FC.nils, fi 0, .nils].map .f), vi 2]) ⟨_, _, rfl, rfl, by simp [ofP, hB]⟩ ?_)
      simp [deep, exV, exV1, g6]
    · refine kw_cond_f (by simp [hk]) (kw_skip ?_)
      have htl : ((daysOf s.ms).take j).length ≤ 64 := by
        have : ((daysOf s.ms).take j).length ≤ j := by simp; omega
        omega
      obtain ⟨v', J', hap, hMV', hbx⟩ := mv_app (b0 := b0) (b1 := .box [.f .nils] 0) (b2 := b2) (b3 := b3) (b4 := .map []) (b5 := b5) (b6 := .box [v, .f (fi fr), .f (fi 1), .f .nils] 0) s.ms[j].day
        (hMV.push [.box [.f (fi s.ms[j].day), .f (.bool s.ms[j].drop), .f (fi s.ms[j].td), .f (fi s.ms[j].min), .f (fi s.ms[j].len)] 0, .box [.f (fi s.ms[j].day)] 0]) htl (J.length + 1 + 1 + 1 + 1 + 1 + 1 + 1 + 1) (by simp)
      refine kw_seq (kw_region (.inl rfl) ?_)
      simp [g9, hap]
      refine kw_region (.inl rfl) ?_
      have hh : J'[J.length]? = some (.box [.f (fi s.ms[j].day), .f (.bool s.ms[j].drop), .f (fi s.ms[j].td), .f (fi s.ms[j].min), .f (fi s.ms[j].len)] 0) := by
        exact hbx _ _ _ (by simp)
      simp [g9, hh, wrap64 (n := s.ms[j].day + 1) (by omega) (by omega)]
      refine kw_inBlock (next _ _ ?_ (by simp [ha]) (by simp [hb]))
      refine ⟨by simp [g3], by simp [g4], by simp [g6], by simp [g8], by simp [g9], by simp [g40], _, _, _, rfl, ?_, by omega, fun m hm h => ?_⟩
      · have : (daysOf s.ms).take (j + 1) = (daysOf s.ms).take j ++ [s.ms[j].day] := by
          rw [List.take_add_one, List.getElem?_eq_getElem (by simpa [daysOf] using hj)]
          simp [daysOf]
        rw [this]
        exact hMV'
      · obtain rfl : m = j := by omega
        exact ⟨rfl, hk⟩
  · rintro t _ ⟨g3, g4, g6, g8, g9, -, v, fr, J, rfl, hMV, hz, hfr⟩ - -
    have hfull : (daysOf s.ms).take s.ms.length = daysOf s.ms := List.take_of_length_le (by simp [daysOf])
    rw [hfull] at hMV
    obtain ⟨J1, hmk⟩ := hMV.mk (b0 := b0) (b1 := .box [.f .nils] 0) (b2 := b2) (b3 := b3) (b4 := .map []) (b5 := b5) (b6 := .box [v, .f (fi fr), .f (fi 1), .f .nils] 0) 63
    obtain ⟨x, x0, hcs, hx0, hx1⟩ : ∃ x x0 : FC, exC 64 (b0 :: .box [.f .nils] 0 :: b2 :: b3 :: .map [] :: b5 :: .box [v, .f (fi fr), .f (fi 1), .f .nils] 0 :: J) v = some x ∧
        Km.Pure tab.get F_x51 [.a [.f x, .f (fi fr), .f (fi 1), .f .nils]] = Eq (.a [.f x0]) ∧ Km.Pure tab.get F_x49 [.a [.f .nils], .a [.f x0]] = Eq (.t [.a [.f .nils], vi 0]) := by
      by_cases hn : s.ms = []
      · have hd : daysOf s.ms = [] := by rw [hn]; rfl
        rw [hd] at hMV
        rcases hMV with ⟨-, rfl⟩ | ⟨h, _⟩
        · obtain rfl := hz (by rw [hn]; rfl)
          have := minus_sp .nil [] (by simp) (by simp) (by simp [mixB])
          exact ⟨.nils, .nils, rfl, noneOf_sp, this⟩
        · exact absurd rfl h
      · have hpos : 0 < s.ms.length := List.length_pos_iff.2 hn
        obtain ⟨e1, e2⟩ := hfr (s.ms.length - 1) (by omega) (by omega)
        have hF := moves_fin hmv hn (by omega) (List.getElem?_eq_getElem (by omega)) e2
        have hne : daysOf s.ms ≠ [] := by simpa [daysOf] using hn
        have h1 := hMV.fz (b0 := b0) (b1 := .box [.f .nils] 0) (b2 := b2) (b3 := b3) (b4 := .map []) (b5 := b5) (b6 := .box [v, .f (fi fr), .f (fi 1), .f .nils] 0) hne 63
        have h2 := finOf_sp hF
        have h3 := minus_sp .fs (finT (daysOf s.ms) (s.ms[s.ms.length - 1]'(by omega)).day) (by simp [finT]) (by
          intro t ht
          simp [finT] at ht
          subst ht
          exact ⟨by simp, fun p hp => by simp at hp; subst hp; exact perB_sm hF.per⟩) (fin_mix hF)
        rw [finC0, ← e1] at h2
        exact ⟨_, _, h1, h2, h3⟩
    refine kw_seq (kw_region (.inl rfl) ?_)
    simp [g4, g9, hcs, hmk, hx0, hx1, deep]
    have hb5' : b5 = .box (makC s (.f .nils)) 0 := hb5.symm
    obtain ⟨r1, H1, hpl, rfl, k, J3, rfl, hk3, hkeep⟩ := plain_ev s hm0 hm1 b0 (.box [.f .nils] 0) b2 b3 (.box [v, .f (fi fr), .f (fi 1), .f .nils] 0) (J1 ++ [.box [.f .nils] 0])
    rw [← hb5'] at hpl
    have hpl := hpl.eq
    generalize hB5 : Blk.box (makC s (.sl (k + 7) 0 1 0 0 1)) 0 = B5 at hpl
    generalize Blk.box [v, .f (fi fr), .f (fi 1), .f .nils] 0 = b6 at hpl ⊢
    have h12 : J3[J1.length]? = some (.box [.f .nils] 0) := by
      rw [hkeep _ (by simp)]
      simp
    refine kw_seq ?_
    refine kw_seq (kw_region (.inl rfl) ?_)
    simp
    refine kw_cond_f (by simp) (kw_skip ?_)
    refine kw_seq (kw_region (.inl rfl) ?_)
    simp [g8, hpl]
    refine kw_seq ?_
    refine kw_seq (kw_region (.inl rfl) ?_)
    simp
    refine kw_cond_f (by simp) (kw_skip ?_)
    have hodd : ∀ L : Heap, ∃ J', Ev tab.get (.fn F_x24) [.c (.ptr 5 0 0), .a [.f .nils], .a [.f .nils, .f (fi 0), .f (fi 1), .f .nils]] (b0 :: .box [.f .nils] 0 :: b2 :: b3 :: .map [(fi s.min, .cl aggM [.f .nils])] :: B5 :: b6 :: L) =
        E2 (vi 0) (b0 :: .box [.f .nils] 0 :: b2 :: b3 :: .map [(fi s.min, .cl aggM [.f .nils])] :: B5 :: b6 :: (L ++ J')) := fun L => by
      obtain ⟨r, H', h, rfl, J', rfl⟩ := odd_ev s (.sl (k + 7) 0 1 0 0 1) (b0 :: .box [.f .nils] 0 :: b2 :: b3 :: .map [(fi s.min, .cl aggM [.f .nils])] :: B5 :: b6 :: L) (by rw [← hB5]; rfl)
      exact ⟨J', h.eq⟩
    obtain ⟨J5, hodd⟩ := hodd (J3 ++ [.box [.f .nils, .f (fi 0), .f (fi 1), .f .nils] 0])
    refine kw_seq ?_
    refine kw_seq (kw_region (.inl rfl) ?_)
    simp [g8, h12, List.getElem?_append_left (lt_of_get h12), hodd]
    refine kw_seq ?_
    refine kw_region (.inl rfl) ?_
    simp
    refine kw_cond_f (by simp) (kw_skip ?_)
    refine kw_seq ?_
    refine kw_seq (kw_region (.inl rfl) ?_)
    simp [g3, ← hb0]
    rw [hb0]
    generalize hT2 : (T.s _ 94 _) = t2
    refine kw_for s.ms.length (fun j t H' => t.g 4 = .c (.ptr 1 0 0) ∧ t.g 6 = .c (.ptr 3 0 0) ∧ t.g 8 = .c (.ptr 5 0 0) ∧ t.g 92 = .c (.f (sl s.mg (moveRows s.ms))) ∧
        ∃ J, H' = b0 :: .box [.f .nils] 0 :: b2 :: b3 :: .map [(fi s.min, .cl aggM [.f .nils])] :: B5 :: b6 :: J ∧ J[k]? = some (.opn 1 [.f (fi s.min)] 0 0 .loc))
      (by omega) (by decide) (by decide) (by rw [← hT2]; simp) (by rw [← hT2]; simp) ?_ ?_ ?_
    · rw [← hT2]
      simp [g4, g6, g8]
      rw [List.getElem?_append_left (lt_of_get hk3), hk3]
    · rintro j t _ hj ⟨g4, g6, g8, g92, J, rfl, hJ⟩ ha hb next
      have hld := fun H : Heap => ld_rowa (H := H) (moveRows_grid s.ms) (moveRows_at hj)
      simp [MoveD.row] at hld
      refine kw_block ?_
      refine kw_seq (kw_region (.inl rfl) ?_)
      simp [ha, g92, idx_sl, hj, hld]
      refine kw_seq ?_
      have go : ∀ t : T, t.g 4 = .c (.ptr 1 0 0) → t.g 6 = .c (.ptr 3 0 0) → t.g 8 = .c (.ptr 5 0 0) → t.g 92 = .c (.f (sl s.mg (moveRows s.ms))) → t.g 94 = vi j → t.g 93 = vi s.ms.length → t.g 106 = vb true → ∀ L : Heap,
          WP tab.get F_x14 none (.code C_x14_75 :: .code C_x14_76 :: .inBlock 3 :: .code (incC 94 123) :: .inLoop (roundC 2 94 93 95 123 C_x14_69) :: .inBlock 2 :: .code C_x14_84 :: [])
            ⟨t, [], b0 :: .box [.f .nils] 0 :: b2 :: b3 :: .map [(fi s.min, .cl aggM [.f .nils])] :: B5 :: b6 :: (J ++ L)⟩ Q := by
        intro t g4 g6 g8 g92 ha hb g106 L
        refine kw_cond_t (by simp [g106]) (kw_exit rfl ?_)
        refine next _ _ ?_ ha hb
        exact ⟨by simp [g4], by simp [g6], by simp [g8], by simp [g92], _, rfl, by rw [List.getElem?_append_left (lt_of_get hJ), hJ]⟩
      refine kw_seq (kw_region (.inl rfl) ?_)
      cases hdr : s.ms[j].drop
      · simp [hdr, g4, has0_sp]
        exact go _ (by simp [g4]) (by simp [g6]) (by simp [g8]) (by simp [g92]) (by simp [ha]) (by simp [hb]) (by simp) _
      · simp [hdr]
        exact go _ (by simp [g4]) (by simp [g6]) (by simp [g8]) (by simp [g92]) (by simp [ha]) (by simp [hb]) (by simp) _
    · rintro t _ ⟨g4, g6, g8, -, J, rfl, hJ⟩ - -
      obtain ⟨r, H', hst, rfl, J', rfl⟩ := stream_ev s k b0 (.box [.f .nils] 0) b2 b3 b6 J hJ
      rw [hB5] at hst
      have hst := hst.eq
      refine kw_seq (kw_region (.inl rfl) ?_)
      simp [g8, hst, g6]
      simp [← hb3]
      refine kw_ret (hQ _ _ (.t [.a ([FC.nils, fi s.len, .nils].map .f), vi 0]) ⟨_, _, rfl, rfl, by simp [ofP, hB]⟩ ?_)
      simp [deep, exV, exV1, g6]
end Go.Proofs.YtdpfoenmopcolaaGreat
end

section
namespace Go.Proofs.YtdpfoenmopcolaaGreat
open Go Km

/-! ### What an invalid stream comes to -/
def srow (s : StreamD) : V := .a (s.row.map .f)
theorem list_bad (s : StreamD) (h : s.Sm) (hB : streamB s = false) (a b : Int) : Km.Pure tab.get F_x10 [.a (s.row.map .f), .a [.f (fi a), .f (fi b)]] = Eq (.t [.c (.f .nils), vi 1]) := Km.Pure.eq (by
  have hv := (stream_kf s h).eq
  simp [StreamD.row, hB] at hv
  refine pure_fn T_x10 rfl fun Q hQ => ?_
  refine kw_seq (kw_region (.inl rfl) ?_)
  simp [StreamD.row]
  refine kw_seq ?_
  refine kw_seq (kw_region (.inl rfl) ?_)
  simp [hv]
  refine kw_cond_t (by simp) ?_
  refine kw_seq (kw_region (.inl rfl) ?_)
  simp
  refine kw_ret (hQ _ _ ?_)
  simp)
theorem meet_bad (s : StreamD) (h : s.Sm) (hB : streamB s = false) (x : List FC) (hx : x.length = 3) : Km.Pure tab.get F_x11 [.a (s.row.map .f), .a (x.map .f)] = Eq (.t [vb false, vi 1]) := Km.Pure.eq (by
  have hv := (stream_kf s h).eq
  simp [StreamD.row, hB] at hv
  match x, hx with
  | [x0, x1, x2], _ => ?_
  refine pure_fn T_x11 rfl fun Q hQ => ?_
  refine kw_seq (kw_region (.inl rfl) ?_)
  simp [StreamD.row]
  refine kw_seq ?_
  refine kw_seq (kw_region (.inl rfl) ?_)
  simp [hv]
  refine kw_cond_t (by simp) ?_
  refine kw_seq (kw_region (.inl rfl) ?_)
  simp
  refine kw_ret (hQ _ _ ?_)
  simp)
theorem finite_bad (s y : StreamD) (h : s.Sm) (hy : y.Sm) (hB : streamB s = false) : Km.Pure tab.get F_x6 [.a (y.row.map .f), .a (s.row.map .f)] = Eq (.t [vb false, vi 1]) := Km.Pure.eq (by
  have hv := (stream_kf s h).eq
  have hw := (stream_kf y hy).eq
  simp [StreamD.row, hB] at hv hw
  refine pure_fn T_x6 rfl fun Q hQ => ?_
  refine kw_seq (kw_region (.inl rfl) ?_)
  simp [StreamD.row]
  refine kw_seq ?_
  refine kw_seq (kw_region (.inl rfl) ?_)
  simp [hv, hw]
  cases hY : streamB y <;> simp [hv, hY]
  all_goals
    refine kw_cond_t (by simp) ?_
    refine kw_seq (kw_region (.inl rfl) ?_)
    simp
    refine kw_ret (hQ _ _ ?_)
    simp)
theorem same_bad (s y : StreamD) (h : s.Sm) (hy : y.Sm) (hB : streamB s = false) : Km.Pure tab.get F_x15 [.a (y.row.map .f), .a (s.row.map .f)] = Eq (.t [vb false, vi 1]) := Km.Pure.eq (by
  have hv := (stream_kf s h).eq
  have hw := (stream_kf y hy).eq
  simp [StreamD.row, hB] at hv hw
  refine pure_fn T_x15 rfl fun Q hQ => ?_
  refine kw_seq (kw_region (.inl rfl) ?_)
  simp [StreamD.row]
  refine kw_seq ?_
  refine kw_seq (kw_region (.inl rfl) ?_)
  simp [hv, hw]
  cases hY : streamB y <;> simp [hv, hY]
  all_goals
    refine kw_cond_t (by simp) ?_
    refine kw_seq (kw_region (.inl rfl) ?_)
    simp
    refine kw_ret (hQ _ _ ?_)
    simp)
theorem first_bad (s : StreamD) (h : s.Sm) (hB : streamB s = false) (x : List FC) (hx : x.length = 3) (t : Int) : Km.Pure tab.get F_x7 [.a (s.row.map .f), .a (x.map .f), vi t] = Eq (.t [.a [.f (fi 0), .f (fi 0), .f (fi 0)], .a [.f (fi 0), .f (fi 0), .f (fi 0)], vb false]) := Km.Pure.eq (by
  have hv := (stream_kf s h).eq
  simp [StreamD.row, hB] at hv
  match x, hx with
  | [x0, x1, x2], _ => ?_
  refine pure_fn T_x7 rfl fun Q hQ => ?_
  refine kw_seq (kw_region (.inl rfl) ?_)
  simp [StreamD.row]
  refine kw_seq ?_
  refine kw_seq (kw_region (.inl rfl) ?_)
  simp [hv]
  refine kw_cond_t (by simp) ?_
  refine kw_seq (kw_region (.inl rfl) ?_)
  simp
  refine kw_ret (hQ _ _ ?_)
  simp [deep, exV, exV1, FinP, Km.results])
theorem next_bad (s : StreamD) (h : s.Sm) (hB : streamB s = false) (t : Int) : Km.Pure tab.get F_x12 [.a (s.row.map .f), vi t] = Eq (.t [.a [.f (fi 0), .f (fi 0), .f (fi 0)], vb false]) := Km.Pure.eq (by
  have hv := (stream_kf s h).eq
  simp [StreamD.row, hB] at hv
  refine pure_fn T_x12 rfl fun Q hQ => ?_
  refine kw_seq (kw_region (.inl rfl) ?_)
  simp [StreamD.row]
  refine kw_seq ?_
  refine kw_seq (kw_region (.inl rfl) ?_)
  simp [hv]
  refine kw_cond_t (by simp) ?_
  refine kw_seq (kw_region (.inl rfl) ?_)
  simp
  refine kw_ret (hQ _ _ ?_)
  simp [deep, exV, exV1])
theorem has_bad (s : StreamD) (h : s.Sm) (hB : streamB s = false) (t : Int) : Km.Pure tab.get F_x9 [.a (s.row.map .f), vi t] = Eq (vb false) := Km.Pure.eq (by
  have hv := (stream_kf s h).eq
  simp [StreamD.row, hB] at hv
  refine pure_fn T_x9 rfl fun Q hQ => ?_
  refine kw_seq (kw_region (.inl rfl) ?_)
  simp [StreamD.row]
  refine kw_seq ?_
  refine kw_seq (kw_region (.inl rfl) ?_)
  simp [hv]
  refine kw_cond_t (by simp) ?_
  refine kw_seq (kw_region (.inl rfl) ?_)
  simp
  refine kw_ret (hQ _ _ ?_)
  simp)
end Go.Proofs.YtdpfoenmopcolaaGreat
end

section
namespace Go.Proofs.YtdpfoenmopcolaaGreat
open Go Km

theorem fixed0_sp : Km.Pure tab.get F_x35 [vi 0] = Eq (.a fixZ) := Km.Pure.eq (pure_closedv (m := 3000) (d := 60) (by kernel_rfl))
theorem every_sp : Km.Pure tab.get F_x34 [vi 2, vi 0] = Eq (.a [.f (.fs [.fs [.nils, fi 0, fi 2, .fs [fi 0] 1] 1] 1)]) := Km.Pure.eq (pure_closedv (m := 3000) (d := 60) (by kernel_rfl))
def goodF : List FC := [.fs [.fs [.fs [.nils, fi 0, fi 2, .fs [fi 0] 1] 1] 1, fi 0] 1, fi 60, .nils]
theorem one_sp : Km.Pure tab.get F_x36 [.a [.f (.fs [.fs [.nils, fi 0, fi 2, .fs [fi 0] 1] 1] 1)], vi 0, vi 60] = Eq (.a (goodF.map .f)) := Km.Pure.eq (pure_closedv (m := 3000) (d := 60) (by kernel_rfl))
def goodS : StreamD := ⟨.fs, [⟨.fs, [⟨.fs, [⟨.nil, [], 0, 2, .fs, [0]⟩]⟩], 0⟩], 60, .nil, []⟩
theorem goodS_row : goodS.row = goodF := rfl
theorem goodS_sm : goodS.Sm := by
  refine ⟨by simp [goodS], by simp [goodS], fun c hc => ?_⟩
  simp [goodS] at hc
  subst hc
  refine ⟨by simp, fun t ht => ?_⟩
  simp at ht
  subst ht
  refine ⟨by simp, fun p hp => ?_⟩
  simp at hp
  subst hp
  exact ⟨by simp, by simp⟩

theorem ends_km (hsan : Km.Pure tab.get F_x37 [] (vb true)) (s : StreamD) (p : SerD) (n : Int) (hs : s.Sm) (hp : p.ms.length ≤ 9223372036854775807) :
    Km.Pure tab.get F_x33 [.a (s.row.map .f), .a (p.row.map .f), vi n] (vb true) := by
  refine pure_fn T_x33 rfl fun Q hQ => ?_
  have hsan := hsan.eq
  have up : ∀ (t : T) (H : Heap) (k : List AItem) (d : ACode), t.g 6 = vb true → WP tab.get F_x33 none (.code .ret :: k) ⟨t, [], H⟩ Q := by
    intro t H k d g6
    refine kw_ret (hQ _ _ ?_)
    simp [g6]
  refine kw_seq (kw_region (.inl rfl) ?_)
  simp [StreamD.row, SerD.row]
  refine kw_seq (kw_region (.inl rfl) ?_)
  simp [hsan]
  refine kw_seq ?_
  refine kw_seq (kw_region (.inl rfl) ?_)
  simp
  by_cases k1 : (70 : Int) < s.cs.length
  · simp [k1]
    refine kw_cond_t (by simp) (kw_seq (kw_region (.inl rfl) ?_))
    simp
    exact up _ _ _ .skip (by simp)
  simp [k1]
  by_cases k2 : (40 : Int) < s.xs.length
  · simp [k2]
    refine kw_cond_t (by simp) (kw_seq (kw_region (.inl rfl) ?_))
    simp
    exact up _ _ _ .skip (by simp)
  simp [k2]
  by_cases k3 : (70 : Int) < p.ms.length
  · simp [k3]
    refine kw_cond_t (by simp) (kw_seq (kw_region (.inl rfl) ?_))
    simp
    exact up _ _ _ .skip (by simp)
  simp [k3]
  refine kw_cond_f (by simp) (kw_skip ?_)
  obtain ⟨SR, hSR⟩ : ∃ x, x = [C.f (sl s.cg (classRows s.cs)), C.f (fi s.len), C.f (sl s.xg (instRows s.xs))] := ⟨_, rfl⟩
  obtain ⟨PR, hPR⟩ : ∃ x, x = [C.f p.rule, C.f (fi p.min), C.f (fi p.len), C.f p.zone, C.f (fi p.gap), C.f (fi p.fold), C.f (sl p.mg (moveRows p.ms))] := ⟨_, rfl⟩
  have hs0 : SR.drop 0 = [C.f (sl s.cg (classRows s.cs)), C.f (fi s.len), C.f (sl s.xg (instRows s.xs))] := by rw [hSR]; rfl
  refine kw_seq ?_
  refine kw_seq (kw_region (.inl rfl) ?_)
  simp
  rw [← hSR, ← hPR]
  refine kw_cfor s.cs.length (fun j t H' => t.g 2 = vi n ∧ t.g 3 = .c (.ptr 0 0 0) ∧ t.g 4 = .c (.ptr 1 0 0) ∧ t.g 7 = vb true ∧ H' = [.box SR 0, .box PR 0]) hs.1 rfl (by simp) ⟨by simp, by simp, by simp, by simp, rfl⟩ ?_ ?_ ?_
  · rintro j t _ L hj ⟨g2, g3, g4, g7, rfl⟩ ha hL
    simp [ha, g3, hSR]
    rw [← hSR]
    exact hL _ ⟨by simp [g2], by simp [g3], by simp [g4], by simp [g7], rfl⟩ (by simp [ha]) (by simp)
  · rintro j t _ hj ⟨g2, g3, g4, g7, rfl⟩ ha next
    have hld := fun H : Heap => ld_row0 (H := H) (classRows_grid s.cs) (classRows_at hj) rfl
    obtain ⟨hts, htm⟩ := hs.2.2 _ (List.getElem_mem hj)
    try simp at hld
    refine kw_block ?_
    refine kw_seq ?_
    refine kw_seq (kw_region (.inl rfl) ?_)
    simp [ha, g3, hSR, idx_sl, hj, hld]
    rw [← hSR]
    by_cases k4 : (3 : Int) < s.cs[j].ts.length
    · refine kw_cond_t (by simp [k4]) (kw_seq (kw_region (.inl rfl) ?_))
      simp [g7]
      exact up _ _ _ .skip (by simp)
    refine kw_cond_f (by simp [k4]) (kw_skip ?_)
    refine kw_seq (kw_region (.inl rfl) ?_)
    simp
    refine kw_cfor s.cs[j].ts.length (fun i t H' => t.g 2 = vi n ∧ t.g 3 = .c (.ptr 0 0 0) ∧ t.g 4 = .c (.ptr 1 0 0) ∧ t.g 7 = vb true ∧ t.g 8 = vi j ∧ H' = [.box SR 0, .box PR 0]) hts rfl (by simp) ⟨by simp [g2], by simp [g3], by simp [g4], by simp [g7], by simp [ha], rfl⟩ ?_ ?_ ?_
    · rintro i t _ L hi ⟨g2, g3, g4, g7, g8, rfl⟩ ha hL
      simp [ha, g3, g8, hSR, idx_sl, hj, hld]
      rw [← hSR]
      exact hL _ ⟨by simp [g2], by simp [g3], by simp [g4], by simp [g7], by simp [g8], rfl⟩ (by simp [ha]) (by simp)
    · rintro i t _ hi ⟨g2, g3, g4, g7, g8, rfl⟩ ha next2
      have hld2 := fun H : Heap => ld_row0 (H := H) (termRows_grid s.cs[j].ts) (termRows_at hi) rfl
      obtain ⟨hfs, hfm⟩ := htm _ (List.getElem_mem hi)
      try simp at hld2
      refine kw_block ?_
      refine kw_seq (kw_region (.inl rfl) ?_)
      simp [ha, g3, g8, hSR, idx_sl, hj, hld, hi, hld2]
      rw [← hSR]
      refine kw_seq ?_
      refine kw_seq (kw_region (.inl rfl) ?_)
      simp
      by_cases k5 : (3 : Int) < s.cs[j].ts[i].fs.length
      · refine kw_cond_t (by simp [k5]) (kw_seq (kw_region (.inl rfl) ?_))
        simp [g7]
        exact up _ _ _ .skip (by simp)
      refine kw_cond_f (by simp [k5]) (kw_skip ?_)
      refine kw_seq (kw_region (.inl rfl) ?_)
      simp
      refine kw_cfor s.cs[j].ts[i].fs.length (fun q t H' => t.g 2 = vi n ∧ t.g 3 = .c (.ptr 0 0 0) ∧ t.g 4 = .c (.ptr 1 0 0) ∧ t.g 7 = vb true ∧ t.g 8 = vi j ∧ t.g 9 = vi i ∧ t.g 10 = .c (.f (sl s.cs[j].ts[i].tg (perRows s.cs[j].ts[i].fs))) ∧ H' = [.box SR 0, .box PR 0]) hfs rfl (by simp)
        ⟨by simp [g2], by simp [g3], by simp [g4], by simp [g7], by simp [g8], by simp [ha], by simp, rfl⟩ ?_ ?_ ?_
      · rintro q t _ L hq ⟨g2, g3, g4, g7, g8, g9, g10, rfl⟩ ha hL
        simp [ha, g10]
        exact hL _ ⟨by simp [g2], by simp [g3], by simp [g4], by simp [g7], by simp [g8], by simp [g9], by simp [g10], rfl⟩ (by simp [ha]) (by simp)
      · rintro q t _ hq ⟨g2, g3, g4, g7, g8, g9, g10, rfl⟩ ha next3
        have hh := fun H : Heap => ld_row0 (H := H) (perRows_grid s.cs[j].ts[i].fs) (perRows_at hq) rfl
        have hc := fun H : Heap => ld_row (H := H) (k := 3) (perRows_grid s.cs[j].ts[i].fs) (perRows_at hq) rfl
        obtain ⟨sm, hsm⟩ : ∃ x, IntKind.wrap .i64 ((s.cs[j].ts[i].fs[q].head.length : Int) + s.cs[j].ts[i].fs[q].cyc.length) = x := ⟨_, rfl⟩
        refine kw_block ?_
        refine kw_seq (kw_region (.inl rfl) ?_)
        simp [ha, g10, idx_sl, hq, hh, hc, hsm]
        by_cases k6 : (20 : Int) < sm
        · refine kw_cond_t (by simp [k6]) (kw_seq (kw_region (.inl rfl) ?_))
          simp [g7]
          exact up _ _ _ .skip (by simp)
        refine kw_cond_f (by simp [k6]) (kw_skip (kw_inBlock (next3 _ _ ?_ (by simp [ha]))))
        exact ⟨by simp [g2], by simp [g3], by simp [g4], by simp [g7], by simp [g8], by simp [g9], by simp [g10], rfl⟩
      · rintro t _ ⟨g2, g3, g4, g7, g8, g9, g10, rfl⟩ -
        refine kw_inBlock (next2 _ _ ?_ (by simp [g9]))
        exact ⟨by simp [g2], by simp [g3], by simp [g4], by simp [g7], by simp [g8], rfl⟩
    · rintro t _ ⟨g2, g3, g4, g7, g8, rfl⟩ -
      refine kw_inBlock (next _ _ ?_ (by simp [g8]))
      exact ⟨by simp [g2], by simp [g3], by simp [g4], by simp [g7], rfl⟩
  · rintro t _ ⟨g2, g3, g4, g7, rfl⟩ -
    have hrv := rstream_sp s hs
    have hev := (stream_kf s hs).eq
    have hrp := rproper_sp p hp
    obtain ⟨r, ⟨xs, e, hxs, rfl, hP⟩, hof⟩ := of_ex p hp
    have hof := hof.eq
    match xs, hxs with
    | [x0, x1, x2], _ => ?_
    have hfx := fixed0_sp
    have hon := one_sp
    have b1 := list_bad s hs
    have b2 := meet_bad s hs
    have b3 := finite_bad s goodS hs goodS_sm
    have b4 := same_bad s goodS hs goodS_sm
    have b5 := first_bad s hs
    have b6 := next_bad s hs
    have b7 := has_bad s hs
    rw [goodS_row] at b3 b4
    have b2 := fun h => b2 h goodF rfl
    have b5 := fun h t => b5 h goodF rfl t
    simp only [fixZ] at hfx hof
    simp only [goodF] at hon b2 b3 b4 b5
    simp [StreamD.row] at hrv hev b1 b2 b3 b4 b5 b6 b7
    simp [SerD.row] at hrp hof
    simp at hon
    rw [hSR, hPR]
    clear hSR hPR
    have hPd : decide (e = 1) = !properB p := by
      rw [Bool.eq_iff_iff]
      simp [hP]
      exact hP
    refine kw_seq (kw_region (.inl rfl) ?_)
    simp [g3, hrv]
    refine kw_seq ?_
    refine kw_seq (kw_region (.inl rfl) ?_)
    simp [g3, hev]
    refine kw_cond_f (by simp) (kw_skip ?_)
    refine kw_seq (kw_region (.inl rfl) ?_)
    simp [g4, hfx, hof]
    refine kw_seq ?_
    refine kw_seq (kw_region (.inl rfl) ?_)
    simp [g4, hrp, hPd]
    refine kw_cond_f (by simp) (kw_skip ?_)
    refine kw_seq ?_
    refine kw_seq (kw_region (.inl rfl) ?_)
    simp
    cases hB : streamB s
    case true =>
      refine kw_cond_t (by simp) (kw_seq (kw_region (.inl rfl) ?_))
      simp [g7]
      exact up _ _ _ .skip (by simp)
    have b1 := b1 hB
    have b2 := b2 hB
    have b3 := b3 hB
    have b4 := b4 hB
    have b5 := b5 hB
    have b6 := b6 hB
    have b7 := b7 hB
    refine kw_cond_f (by simp) (kw_skip ?_)
    refine kw_seq (kw_region (.inl rfl) ?_)
    simp [every_sp, hon]
    refine kw_seq (kw_region (.inl rfl) ?_)
    simp [g2, g3, b1]
    refine kw_seq (kw_region (.inl rfl) ?_)
    simp [g3, b2]
    refine kw_seq (kw_region (.inl rfl) ?_)
    simp [g3, b3]
    refine kw_seq (kw_region (.inl rfl) ?_)
    simp [g3, b4]
    refine kw_seq (kw_region (.inl rfl) ?_)
    simp [g2, g3, b5]
    refine kw_seq (kw_region (.inl rfl) ?_)
    simp [g2, g3, b6]
    refine kw_seq (kw_region (.inl rfl) ?_)
    simp [g2, g3, g7, b7]
    exact up _ _ _ .skip (by simp)
end Go.Proofs.YtdpfoenmopcolaaGreat
end

section
namespace Go.Proofs.YtdpfoenmopcolaaGreat
open Go Km
set_option maxRecDepth 100000

theorem sane : Km.Pure tab.get F_x37 [] (vb true) := pure_reckoned (reckoned ev)

/-! ### What the arguments read as -/
theorem per_of {x : List FC} (h : Shp Tryz.prog 34 40 x) : ∃ p : PerD, x = p.row ∧ p.Sm := by
  obtain ⟨_, q1, rfl, h1, k1⟩ := shp_cons (shp_struct (ts := [38, 3, 3, 38]) Tryz.underlying40 rfl h)
  obtain ⟨g, l, rfl, hl, _⟩ := shp_ints Tryz.underlying38 Tryz.underlying3 h1
  obtain ⟨_, q2, rfl, h1, k2⟩ := shp_cons k1
  obtain ⟨a, rfl, _⟩ := shp_int Tryz.underlying3 h1
  obtain ⟨_, q3, rfl, h1, k3⟩ := shp_cons k2
  obtain ⟨b, rfl, _⟩ := shp_int Tryz.underlying3 h1
  obtain ⟨_, q4, rfl, h1, k4⟩ := shp_cons k3
  obtain ⟨g2, l2, rfl, hl2, _⟩ := shp_ints Tryz.underlying38 Tryz.underlying3 h1
  obtain rfl : q4 = [] := k4
  exact ⟨⟨g, l, a, b, g2, l2⟩, rfl, by simpa [maxLen] using hl, by simpa [maxLen] using hl2⟩
theorem term_of {x : List FC} (h : Shp Tryz.prog 35 37 x) : ∃ t : TermD, x = t.row ∧ t.Sm := by
  obtain ⟨g, rows, rfl, _, hl, hr⟩ := shp_slice Tryz.underlying37 h
  obtain ⟨l, rfl, hp⟩ := rows_of (enc := PerD.row) (p := PerD.Sm) fun r hr' => per_of (hr r hr')
  exact ⟨⟨g, l⟩, rfl, by simpa [maxLen] using hl, hp⟩
theorem class_of {x : List FC} (h : Shp Tryz.prog 38 36 x) : ∃ c : ClassD, x = c.row ∧ (c.ts.length ≤ 9223372036854775807 ∧ ∀ t ∈ c.ts, t.Sm) := by
  obtain ⟨_, q1, rfl, h1, k1⟩ := shp_cons (shp_struct (ts := [34, 3]) Tryz.underlying36 rfl h)
  obtain ⟨_, q3, rfl, h3, k3⟩ := shp_cons (shp_struct (ts := [32]) Tryz.underlying34 rfl h1)
  obtain rfl : q3 = [] := k3
  obtain ⟨g, rows, rfl, _, hl, hr⟩ := shp_slice Tryz.underlying32 h3
  obtain ⟨l, rfl, hp⟩ := rows_of (enc := TermD.row) (p := TermD.Sm) fun r hr' => term_of (hr r hr')
  obtain ⟨_, q2, rfl, h1, k2⟩ := shp_cons k1
  obtain ⟨a, rfl, _⟩ := shp_int Tryz.underlying3 h1
  obtain rfl : q2 = [] := k2
  exact ⟨⟨g, l, a⟩, rfl, by simpa [maxLen] using hl, hp⟩
theorem inst_of {x : List FC} (h : Shp Tryz.prog 38 63 x) : ∃ i : InstD, x = i.row ∧ True := by
  obtain ⟨_, q1, rfl, h1, k1⟩ := shp_cons (shp_struct (ts := [3, 59]) Tryz.underlying63 rfl h)
  obtain ⟨a, rfl, _⟩ := shp_int Tryz.underlying3 h1
  obtain ⟨_, q2, rfl, h1, k2⟩ := shp_cons k1
  obtain rfl : q2 = [] := k2
  obtain ⟨_, q5, rfl, h5, k5⟩ := shp_cons (shp_struct (ts := [3, 3]) Tryz.underlying59 rfl h1)
  obtain ⟨b, rfl, _⟩ := shp_int Tryz.underlying3 h5
  obtain ⟨_, q6, rfl, h6, k6⟩ := shp_cons k5
  obtain ⟨c, rfl, _⟩ := shp_int Tryz.underlying3 h6
  obtain rfl : q6 = [] := k6
  exact ⟨⟨a, b, c⟩, rfl, trivial⟩
theorem stream_of {x : List FC} (h : Shp Tryz.prog 40 25 x) : ∃ s : StreamD, x = s.row ∧ s.Sm := by
  obtain ⟨_, q1, rfl, h1, k1⟩ := shp_cons (shp_struct (ts := [22, 3, 23]) Tryz.underlying25 rfl h)
  obtain ⟨g, rows, rfl, _, hl, hr⟩ := shp_slice Tryz.underlying22 h1
  obtain ⟨l, rfl, hp⟩ := rows_of (enc := ClassD.row) (p := fun c => c.ts.length ≤ 9223372036854775807 ∧ ∀ t ∈ c.ts, t.Sm) fun r hr' => class_of (hr r hr')
  obtain ⟨_, q2, rfl, h1, k2⟩ := shp_cons k1
  obtain ⟨a, rfl, _⟩ := shp_int Tryz.underlying3 h1
  obtain ⟨_, q3, rfl, h1, k3⟩ := shp_cons k2
  obtain rfl : q3 = [] := k3
  obtain ⟨g2, rows, rfl, _, hl2, hr⟩ := shp_slice Tryz.underlying23 h1
  obtain ⟨l2, rfl, _⟩ := rows_of (enc := InstD.row) (p := fun _ => True) fun r hr' => inst_of (hr r hr')
  exact ⟨⟨g, l, a, g2, l2⟩, rfl, by simpa [maxLen] using hl, by simpa [maxLen] using hl2, hp⟩
theorem move_of {x : List FC} (h : Shp Tryz.prog 38 81 x) : ∃ i : MoveD, x = i.row ∧ True := by
  obtain ⟨_, q1, rfl, h1, k1⟩ := shp_cons (shp_struct (ts := [3, 4, 3, 3, 3]) Tryz.underlying81 rfl h)
  obtain ⟨a, rfl, _⟩ := shp_int Tryz.underlying3 h1
  obtain ⟨_, q2, rfl, h1, k2⟩ := shp_cons k1
  obtain ⟨b, rfl⟩ := shp_bool Tryz.underlying4 h1
  obtain ⟨_, q3, rfl, h1, k3⟩ := shp_cons k2
  obtain ⟨c, rfl, _⟩ := shp_int Tryz.underlying3 h1
  obtain ⟨_, q4, rfl, h1, k4⟩ := shp_cons k3
  obtain ⟨d, rfl, _⟩ := shp_int Tryz.underlying3 h1
  obtain ⟨_, q5, rfl, h1, k5⟩ := shp_cons k4
  obtain ⟨e, rfl, _⟩ := shp_int Tryz.underlying3 h1
  obtain rfl : q5 = [] := k5
  exact ⟨⟨a, b, c, d, e⟩, rfl, trivial⟩
theorem series_of {x : List FC} (h : Shp Tryz.prog 40 30 x) : ∃ s : SerD, x = s.row ∧ s.ms.length ≤ 9223372036854775807 := by
  obtain ⟨_, q1, rfl, h1, k1⟩ := shp_cons (shp_struct (ts := [27, 3, 3, 9, 3, 3, 28]) Tryz.underlying30 rfl h)
  obtain ⟨g0, rows0, rfl, _⟩ := shp_slice Tryz.underlying27 h1
  obtain ⟨_, q2, rfl, h1, k2⟩ := shp_cons k1
  obtain ⟨a, rfl, _⟩ := shp_int Tryz.underlying3 h1
  obtain ⟨_, q3, rfl, h1, k3⟩ := shp_cons k2
  obtain ⟨b, rfl, _⟩ := shp_int Tryz.underlying3 h1
  obtain ⟨_, q4, rfl, h1, k4⟩ := shp_cons k3
  obtain ⟨z, rfl, _⟩ := shp_str Tryz.underlying9 h1
  obtain ⟨_, q5, rfl, h1, k5⟩ := shp_cons k4
  obtain ⟨c, rfl, _⟩ := shp_int Tryz.underlying3 h1
  obtain ⟨_, q6, rfl, h1, k6⟩ := shp_cons k5
  obtain ⟨d, rfl, _⟩ := shp_int Tryz.underlying3 h1
  obtain ⟨_, q7, rfl, h1, k7⟩ := shp_cons k6
  obtain rfl : q7 = [] := k7
  obtain ⟨g2, rows, rfl, _, hl2, hr⟩ := shp_slice Tryz.underlying28 h1
  obtain ⟨l2, rfl, _⟩ := rows_of (enc := MoveD.row) (p := fun _ => True) fun r hr' => move_of (hr r hr')
  exact ⟨⟨_, a, b, _, c, d, g2, l2⟩, rfl, by simpa [maxLen] using hl2⟩

set_option maxRecDepth 100000 in
theorem ends_args {ar : List V} (h : ArgsShp Tryz.prog [25, 30, 3] ar) : ∃ (s : StreamD) (p : SerD) (n : Int), ar = [.a (s.row.map .f), .a (p.row.map .f), vi n] ∧ s.Sm ∧ p.ms.length ≤ 9223372036854775807 := by
  obtain ⟨a0, _, rfl, h0, a1, _, rfl, h1, a2, _, rfl, h2, rfl⟩ := h
  have e0 : ∃ xs, a0 = .a (xs.map .f) ∧ Shp Tryz.prog 40 25 xs := by
    rcases h0 with ⟨xs, rfl, hs, _⟩ | ⟨x, rfl, hs⟩
    · exact ⟨xs, rfl, hs⟩
    · exfalso
      obtain ⟨s, e, _⟩ := stream_of hs
      simp [StreamD.row] at e
  have e1 : ∃ xs, a1 = .a (xs.map .f) ∧ Shp Tryz.prog 40 30 xs := by
    rcases h1 with ⟨xs, rfl, hs, _⟩ | ⟨x, rfl, hs⟩
    · exact ⟨xs, rfl, hs⟩
    · exfalso
      obtain ⟨s, e, _⟩ := series_of hs
      simp [SerD.row] at e
  rcases h2 with ⟨xs, _, _, d, hd, hd'⟩ | ⟨z, rfl, h2⟩
  · rw [Tryz.underlying3] at hd; cases hd; rcases hd' with ⟨_, e⟩ | ⟨_, _, e⟩ <;> cases e
  obtain ⟨n, e2, _⟩ := shp_int Tryz.underlying3 h2
  obtain ⟨xs, rfl, hs⟩ := e0
  obtain ⟨ys, rfl, hy⟩ := e1
  obtain ⟨s, rfl, hsm⟩ := stream_of hs
  obtain ⟨p, rfl, hpm⟩ := series_of hy
  cases e2
  exact ⟨s, p, n, rfl, hsm, hpm⟩

theorem ends_true (ar : List V) (h : ArgsShp Tryz.prog [25, 30, 3] ar) : Km.Pure tab.get F_x33 ar (vb true) := by
  obtain ⟨s, p, n, rfl, hs, hp⟩ := ends_args h
  exact ends_km sane s p n hs hp
end Go.Proofs.YtdpfoenmopcolaaGreat
end

