/-
  What the program's functions and the reference's answer, for all arguments of their kind, in the small machine: part 1.
-/
import Derived.Test.YtdkmkodemmidjaaGreatTabB
import Derived.Test.YtdkmkodemmidjaaGreatK4
import Derived.KernelRfl
import Derived.Test.YtdkmkodemmidjaaGreatProg
import Derived.Test.YtdkmkodemmidjaaGreatTie
import Derived.Test.YtdkmkodemmidjaaGreatEv

set_option linter.unusedVariables false
set_option linter.unusedSimpArgs false
set_option linter.unusedSectionVars false

section
namespace Go.Proofs.YtdkmkodemmidjaaGreat
open Go Km

def withinB (n lo hi : Int) : Bool := decide (lo ≤ n) && decide (n ≤ hi)
theorem withinB_t {n lo hi : Int} (h : withinB n lo hi = true) : lo ≤ n ∧ n ≤ hi := by simpa [withinB] using h

theorem within_kf (n lo hi : Int) : Kf tab.get F_room_within [vi n, vi lo, vi hi] (vb (withinB n lo hi)) := by
  refine kf_fn T_room_within rfl fun H Q hQ => ?_
  refine kw_seq ?_
  refine kw_region (.inl rfl) ?_
  simp
  refine kw_seq ?_
  refine kw_region (.inl rfl) ?_
  by_cases h : lo ≤ n
  · simp [h]
    refine kw_ret (hQ _ _ ?_)
    simp [withinB, h]
  · simp [h]
    refine kw_ret (hQ _ _ ?_)
    simp [withinB, h]
@[simp] theorem within_sp (n lo hi : Int) : Km.Pure tab.get F_room_within [vi n, vi lo, vi hi] = Eq (vb (withinB n lo hi)) := (within_kf n lo hi).eq

theorem contains_int_kf (g : Tg) (l : List Int) (v : Int) (hl : l.length ≤ 9223372036854775807) :
    Kf tab.get F_slices_Contains_int [.c (.f (sl g (ints l))), vi v] (vb (l.any (· == v))) :=
  contains_kf T_slices_Contains_int (index_int_kf T_slices_Index_int g l v hl)

/-- A room. -/
structure RoomD where
  cap : Int
  bef : Int
  aft : Int
  (o0 o1 o2 o3 o4 o5 o6 o7 o8 o9 : FC)
  qg : Tg
  q : List (Int × Int)
  pg : Tg
  p : List Int
def pairs (l : List (Int × Int)) : List (List FC) := l.map fun x => [fi x.1, fi x.2]
@[simp] theorem pairs_len (l : List (Int × Int)) : (pairs l).length = l.length := by simp [pairs]
theorem pairs_grid (l : List (Int × Int)) : Grid 2 (pairs l) := Grid.map fun _ => rfl
theorem pairs_at {l : List (Int × Int)} {j : Nat} (hj : j < l.length) : (pairs l)[j]? = some [fi l[j].1, fi l[j].2] := by simp [pairs, hj]
def RoomD.op (r : RoomD) : List C := [.f r.o0, .f r.o1, .f r.o2, .f r.o3, .f r.o4, .f r.o5, .f r.o6, .f r.o7, .f r.o8, .f r.o9]
def RoomD.row (r : RoomD) : List FC := [fi r.cap, fi r.bef, fi r.aft, r.o0, r.o1, r.o2, r.o3, r.o4, r.o5, r.o6, r.o7, r.o8, r.o9, sl r.qg (pairs r.q), sl r.pg (ints r.p)]
def rows (l : List RoomD) : List (List FC) := l.map RoomD.row
@[simp] theorem rows_len (l : List RoomD) : (rows l).length = l.length := by simp [rows]
theorem rows_grid (l : List RoomD) : Grid 15 (rows l) := Grid.map fun _ => rfl
theorem rows_at {l : List RoomD} {j : Nat} (hj : j < l.length) : (rows l)[j]? = some l[j].row := by simp [rows, hj]

/-- Its opening hours are valid, says the program. -/
def OpenOK (r : RoomD) : Prop := Km.Pure tab.get F_opening_Valid [.a r.op] (vi 0)
/-- Too many quotas or parts. -/
def bigB (r : RoomD) : Bool := decide (64 < (r.q.length : Int)) || decide (64 < (r.p.length : Int))
/-- How many parts room p has. -/
def plen (l : List RoomD) (p : Int) : Nat := ((l[p.toNat]?).map (·.p.length)).getD 0
theorem plen_at {l : List RoomD} {p : Int} (h0 : 0 ≤ p) (h1 : p.toNat < l.length) : plen l p = (l[p.toNat]).p.length := by simp [plen, h1]
/-- The quotas rise. -/
def quotasB (last : Int) : List (Int × Int) → Bool
  | [] => true
  | x :: r => withinB x.1 (last + 1) 63 && withinB x.2 0 10080 && quotasB x.1 r
/-- The parts rise, none is the room itself or has parts. -/
def partsB (l : List RoomD) (i last : Int) : List Int → Bool
  | [] => true
  | p :: r => withinB p (last + 1) ((l.length : Int) - 1) && !decide (p = i) && decide (plen l p = 0) && partsB l i p r
def properB (l : List RoomD) (i : Nat) (r : RoomD) : Bool :=
  withinB r.cap 1 512 && withinB r.bef 0 1440 && withinB r.aft 0 1440 && quotasB (-1) r.q && partsB l i (-1) r.p
def allProper (l : List RoomD) : Nat → List RoomD → Bool
  | _, [] => true
  | i, r :: rs => properB l i r && allProper l (i + 1) rs
/-- What Valid answers for at most 256 rooms. -/
def validI (l : List RoomD) : Int := if l.any bigB then 2 else if allProper l 0 l then 0 else 1

theorem big_kf (r : RoomD) (ho : OpenOK r) : Kf tab.get F_room_Valid_f1 [.a (r.row.map .f)] (vb (bigB r)) := by
  refine kf_fn T_room_Valid_f1 rfl fun H Q hQ => ?_
  have hv := Km.Pure.eq ho
  simp only [RoomD.op] at hv
  refine kw_seq ?_
  refine kw_region (.inl rfl) ?_
  simp [RoomD.row]
  refine kw_seq ?_
  refine kw_region (.inl rfl) ?_
  simp
  refine grd_not (fun h => ?_) (fun h => ?_)
  · simp [h]
    refine grd_not (fun h' => ?_) (fun h' => ?_)
    · simp [h', hv]
      refine kw_ret (hQ _ _ ?_)
      simp [bigB, h, h']
    · simp [h']
      refine kw_ret (hQ _ _ ?_)
      simp [bigB, h, h']
  · simp [h]
    refine kw_ret (hQ _ _ ?_)
    simp [bigB, h]

theorem anybig_kf (g : Tg) (l : List RoomD) (hl : l.length ≤ 6) (ho : ∀ r ∈ l, OpenOK r) :
    Kf tab.get F_slices_ContainsFunc_api_Room [.c (.f (sl g (rows l))), .c (.f (.fn F_room_Valid_f1 []))] (vb (l.any bigB)) :=
  contains_kf T_slices_ContainsFunc_api_Room (indexf_kf T_slices_IndexFunc_api_Room l RoomD.row (fun r => .a (r.row.map .f)) bigB g F_room_Valid_f1 [] (by omega)
    (fun j hj H => ld_rowa (rows_grid l) (rows_at hj)) (fun r hr => big_kf r (ho r hr)))
end Go.Proofs.YtdkmkodemmidjaaGreat
end

section
namespace Go.Proofs.YtdkmkodemmidjaaGreat
open Go Km

theorem quotasB_drop {last : Int} {q : List (Int × Int)} {j : Nat} (hj : j < q.length) : quotasB last (q.drop j) = (withinB q[j].1 (last + 1) 63 && withinB q[j].2 0 10080 && quotasB q[j].1 (q.drop (j + 1))) := by
  rw [List.drop_eq_getElem_cons hj]; rfl
theorem partsB_drop {l : List RoomD} {i last : Int} {p : List Int} {j : Nat} (hj : j < p.length) :
    partsB l i last (p.drop j) = (withinB p[j] (last + 1) ((l.length : Int) - 1) && !decide (p[j] = i) && decide (plen l p[j] = 0) && partsB l i p[j] (p.drop (j + 1))) := by
  rw [List.drop_eq_getElem_cons hj]; rfl

theorem proper_kf (g : Tg) (l : List RoomD) (i : Nat) (hi : i < l.length) (hl : l.length ≤ 6) (ho : ∀ r ∈ l, OpenOK r) (hq : l[i].q.length ≤ 64) (hp : l[i].p.length ≤ 64) :
    Kf tab.get F_room_proper [.c (.f (sl g (rows l))), vi i] (vb (properB l i l[i])) := by
  refine kf_fn T_room_proper rfl fun H Q hQ => ?_
  obtain ⟨r, hr⟩ : ∃ r, r = l[i] := ⟨_, rfl⟩
  have hv := Km.Pure.eq (ho _ (List.getElem_mem hi))
  rw [← hr] at hv hq hp hQ
  simp only [RoomD.op] at hv
  have hld := ld_rowa (H := H) (rows_grid l) (rows_at hi)
  rw [← hr] at hld
  refine kw_seq ?_
  refine kw_region (.inl rfl) ?_
  simp
  refine kw_seq ?_
  refine kw_region (.inl rfl) ?_
  simp [idx_sl, hi, hld, RoomD.row]
  refine kw_seq ?_
  refine kw_seq ?_
  refine kw_region (.inl rfl) ?_
  simp
  cases h1 : withinB r.cap 1 512
  case false =>
    simp
    refine kw_cond_t (by simp) ?_
    refine kw_seq (kw_region (.inl rfl) ?_)
    simp
    refine kw_ret (hQ _ _ ?_)
    simp [properB, h1]
  simp
  cases h2 : withinB r.bef 0 1440
  case false =>
    simp
    refine kw_cond_t (by simp) ?_
    refine kw_seq (kw_region (.inl rfl) ?_)
    simp
    refine kw_ret (hQ _ _ ?_)
    simp [properB, h2]
  simp
  cases h3 : withinB r.aft 0 1440
  case false =>
    simp
    refine kw_cond_t (by simp) ?_
    refine kw_seq (kw_region (.inl rfl) ?_)
    simp
    refine kw_ret (hQ _ _ ?_)
    simp [properB, h3]
  simp [hv]
  refine kw_cond_f (by simp) ?_
  refine kw_skip ?_
  refine kw_seq (kw_region (.inl rfl) ?_)
  simp
  refine kw_seq ?_
  refine kw_seq ?_
  refine kw_region (.inl rfl) ?_
  simp
  obtain ⟨ROW, hROW⟩ : ∃ x, x = [C.f (fi r.cap), C.f (fi r.bef), C.f (fi r.aft), C.f r.o0, C.f r.o1, C.f r.o2, C.f r.o3, C.f r.o4, C.f r.o5, C.f r.o6, C.f r.o7, C.f r.o8, C.f r.o9, C.f (sl r.qg (pairs r.q)), C.f (sl r.pg (ints r.p))] := ⟨_, rfl⟩
  rw [← hROW]
  have hr14 : ROW.drop 14 = [C.f (sl r.pg (ints r.p))] := by rw [hROW]; rfl
  refine kw_for r.q.length (fun j t H' => t.g 0 = .c (.f (sl g (rows l))) ∧ t.g 1 = vi i ∧ t.g 5 = .c (.ptr H.length 0 0) ∧ t.g 38 = .c (.f (sl r.qg (pairs r.q))) ∧ (∃ J, H' = H ++ (.box ROW 0 :: J)) ∧
    ∃ last, t.g 6 = vi last ∧ -1 ≤ last ∧ last ≤ 63 ∧ quotasB (-1) r.q = quotasB last (r.q.drop j)) (by omega) (by decide) (by decide) (by simp) (by simp) (by simp) ?_ ?_
  · rintro j t _ hj ⟨h0, g1, g5, g38, ⟨J, rfl⟩, last, g6, l1, l2, hB⟩ ha hb next
    rw [quotasB_drop hj] at hB
    refine kw_block ?_
    refine kw_seq (kw_region (.inl rfl) ?_)
    simp [ha, g38, idx_sl, hj, ld_rowa (pairs_grid r.q) (pairs_at hj)]
    refine kw_seq ?_
    refine kw_seq (kw_region (.inl rfl) ?_)
    simp [g6, wrap64 (n := last + 1) (by omega) (by omega)]
    cases h4 : withinB r.q[j].1 (last + 1) 63
    case false =>
      simp
      refine kw_cond_t (by simp) ?_
      refine kw_seq (kw_region (.inl rfl) ?_)
      simp
      refine kw_ret (hQ _ _ ?_)
      simp [properB, hB, h4]
    simp
    cases h5 : withinB r.q[j].2 0 10080
    case false =>
      simp
      refine kw_cond_t (by simp) ?_
      refine kw_seq (kw_region (.inl rfl) ?_)
      simp
      refine kw_ret (hQ _ _ ?_)
      simp [properB, hB, h5]
    simp
    refine kw_cond_f (by simp) ?_
    refine kw_skip ?_
    refine kw_region (.inl rfl) ?_
    simp [g6]
    refine kw_inBlock (next _ _ ?_ (by simp [ha]) (by simp [hb]))
    have hw := withinB_t h4
    simp [h4, h5] at hB
    exact ⟨by simp [h0], by simp [g1], by simp [g5], by simp [g38], ⟨_, rfl⟩, r.q[j].1, by simp, by omega, by omega, hB⟩
  · rintro t _ ⟨h0, g1, g5, g38, ⟨J, rfl⟩, last, g6, l1, l2, hB⟩ ha hb
    have hQ' : quotasB (-1) r.q = true := by rw [hB]; simp [quotasB]
    refine kw_seq (kw_region (.inl rfl) ?_)
    simp
    refine kw_seq ?_
    refine kw_seq ?_
    refine kw_region (.inl rfl) ?_
    simp [g5, hr14]
    refine kw_for r.p.length (fun j t H' => t.g 0 = .c (.f (sl g (rows l))) ∧ t.g 1 = vi i ∧ t.g 60 = .c (.f (sl r.pg (ints r.p))) ∧ (∃ J, H' = H ++ J) ∧
      ∃ last, t.g 6 = vi last ∧ -1 ≤ last ∧ last ≤ 6 ∧ partsB l i (-1) r.p = partsB l i last (r.p.drop j)) (by omega) (by decide) (by decide) (by simp) (by simp) (by simp [h0, g1]) ?_ ?_
    · rintro j t _ hj ⟨h0, g1, g60, ⟨J, rfl⟩, last, g6, l1, l2, hB⟩ ha hb next
      rw [partsB_drop hj] at hB
      refine kw_block ?_
      refine kw_seq (kw_region (.inl rfl) ?_)
      simp [ha, g60, idx_sl, hj, ld_int]
      refine kw_seq ?_
      refine kw_seq (kw_region (.inl rfl) ?_)
      simp [g6, h0, wrap64 (n := last + 1) (by omega) (by omega), wrap64 (n := (l.length : Int) - 1) (by omega) (by omega)]
      cases h4 : withinB r.p[j] (last + 1) ((l.length : Int) - 1)
      case false =>
        simp
        refine kw_cond_t (by simp) ?_
        refine kw_seq (kw_region (.inl rfl) ?_)
        simp
        refine kw_ret (hQ _ _ ?_)
        simp [properB, hB, h4]
      have hw := withinB_t h4
      simp [g1]
      by_cases h5 : r.p[j] = i
      · simp [h5]
        refine kw_cond_t (by simp) ?_
        refine kw_seq (kw_region (.inl rfl) ?_)
        simp
        refine kw_ret (hQ _ _ ?_)
        simp [properB, hB, h5]
      have hk : r.p[j].toNat < l.length := by omega
      have hrow := ld_row (H := H ++ J) (k := 14) (rows_grid l) (rows_at hk) rfl
      simp [h5, h0, idx_sl (g := g) (rows := rows l) (sz := 15) (k := .i64) (i := r.p[j]) (by omega) (by simp; omega), hrow]
      have hpl := plen_at (l := l) (p := r.p[j]) (by omega) hk
      by_cases h6 : plen l r.p[j] = 0
      · have h6' : l[r.p[j].toNat].p = [] := List.eq_nil_of_length_eq_zero (by rw [← hpl]; exact h6)
        simp [h6']
        refine kw_cond_f (by simp) ?_
        refine kw_skip ?_
        refine kw_region (.inl rfl) ?_
        simp
        refine kw_inBlock (next _ _ ?_ (by simp [ha]) (by simp [hb]))
        simp [h4, h5, h6] at hB
        exact ⟨by simp [h0], by simp [g1], by simp [g60], ⟨_, rfl⟩, r.p[j], by simp, by omega, by omega, hB⟩
      · have h6' : 0 < l[r.p[j].toNat].p.length := by rw [← hpl]; omega
        simp [h6']
        refine kw_cond_t (by simp) ?_
        refine kw_seq (kw_region (.inl rfl) ?_)
        simp
        refine kw_ret (hQ _ _ ?_)
        simp [properB, hB, h6]
    · rintro t _ ⟨h0, g1, g60, ⟨J, rfl⟩, last, g6, l1, l2, hB⟩ ha hb
      have hP' : partsB l i (-1) r.p = true := by rw [hB]; simp [partsB]
      refine kw_seq (kw_region (.inl rfl) ?_)
      simp
      refine kw_ret (hQ _ _ ?_)
      simp [properB, h1, h2, h3, hQ', hP']
end Go.Proofs.YtdkmkodemmidjaaGreat
end

section
namespace Go.Proofs.YtdkmkodemmidjaaGreat
open Go Km

theorem proper_sp (g : Tg) (l : List RoomD) (i : Nat) (hi : i < l.length) (hl : l.length ≤ 6) (ho : ∀ r ∈ l, OpenOK r) (hq : l[i].q.length ≤ 64) (hp : l[i].p.length ≤ 64) :
    Km.Pure tab.get F_room_proper [.c (.f (sl g (rows l))), vi i] = Eq (vb (properB l i l[i])) := (proper_kf g l i hi hl ho hq hp).eq
theorem anybig_sp (g : Tg) (l : List RoomD) (hl : l.length ≤ 6) (ho : ∀ r ∈ l, OpenOK r) :
    Km.Pure tab.get F_slices_ContainsFunc_api_Room [.c (.f (sl g (rows l))), .c (.f (.fn F_room_Valid_f1 []))] = Eq (vb (l.any bigB)) := (anybig_kf g l hl ho).eq

theorem allProper_drop {l : List RoomD} {j : Nat} (hj : j < l.length) : allProper l j (l.drop j) = (properB l j l[j] && allProper l (j + 1) (l.drop (j + 1))) := by
  rw [List.drop_eq_getElem_cons hj]; rfl

theorem valid_kf (g : Tg) (l : List RoomD) (hl : l.length ≤ 6) (ho : ∀ r ∈ l, OpenOK r) : Kf tab.get F_room_Valid [.c (.f (sl g (rows l)))] (vi (validI l)) := by
  refine kf_fn T_room_Valid rfl fun H Q hQ => ?_
  refine kw_seq (kw_region (.inl rfl) ?_)
  simp
  refine kw_seq (kw_region (.inl rfl) ?_)
  simp
  refine kw_seq ?_
  refine kw_seq (kw_region (.inl rfl) ?_)
  have h256 : ¬ (256 : Int) < l.length := by omega
  simp [h256, anybig_sp g l hl ho]
  cases hb : l.any bigB
  case true =>
    refine kw_cond_t (by simp) ?_
    refine kw_seq (kw_region (.inl rfl) ?_)
    simp
    refine kw_ret (hQ _ _ ?_)
    simp [validI, hb]
  refine kw_cond_f (by simp) ?_
  refine kw_skip ?_
  refine kw_seq ?_
  refine kw_seq (kw_region (.inl rfl) ?_)
  simp
  refine kw_for l.length (fun j t H' => t.g 0 = .c (.f (sl g (rows l))) ∧ (∃ J, H' = H ++ J) ∧ allProper l 0 l = allProper l j (l.drop j)) (by omega) (by decide) (by decide) (by simp) (by simp) (by simp) ?_ ?_
  · rintro j t _ hj ⟨h0, ⟨J, rfl⟩, hB⟩ ha hb' next
    rw [allProper_drop hj] at hB
    have hnb : bigB l[j] = false := by
      have := List.any_eq_false.1 hb l[j] (List.getElem_mem hj)
      simpa using this
    simp only [bigB, Bool.or_eq_false_iff, decide_eq_false_iff_not] at hnb
    refine kw_block ?_
    refine kw_seq (kw_region (.inl rfl) ?_)
    simp [ha]
    refine kw_seq (kw_region (.inl rfl) ?_)
    simp [h0, proper_sp g l j hj hl ho (by omega) (by omega)]
    cases hp : properB l j l[j]
    · refine kw_cond_t (by simp) ?_
      refine kw_seq (kw_region (.inl rfl) ?_)
      simp
      refine kw_ret (hQ _ _ ?_)
      simp [validI, hb, hB, hp]
    · refine kw_cond_f (by simp) ?_
      refine kw_skip (kw_inBlock (next _ _ ?_ (by simp [ha]) (by simp [hb'])))
      simp [hp] at hB
      exact ⟨by simp [h0], ⟨_, rfl⟩, hB⟩
  · rintro t _ ⟨h0, ⟨J, rfl⟩, hB⟩ ha hb'
    refine kw_seq (kw_region (.inl rfl) ?_)
    simp
    refine kw_ret (hQ _ _ ?_)
    simp [validI, hb, hB, allProper]
theorem valid_sp (g : Tg) (l : List RoomD) (hl : l.length ≤ 6) (ho : ∀ r ∈ l, OpenOK r) : Km.Pure tab.get F_room_Valid [.c (.f (sl g (rows l)))] = Eq (vi (validI l)) := (valid_kf g l hl ho).eq
end Go.Proofs.YtdkmkodemmidjaaGreat
end

section
namespace Go.Proofs.YtdkmkodemmidjaaGreat
open Go Km

theorem contains_int_sp (g : Tg) (l : List Int) (v : Int) (hl : l.length ≤ 9223372036854775807) :
    Km.Pure tab.get F_slices_Contains_int [.c (.f (sl g (ints l))), vi v] = Eq (vb (l.any (· == v))) := (contains_int_kf g l v hl).eq

theorem common_kf (g : Tg) (q : List Int) (x : Int) (hq : q.length ≤ 9223372036854775807) : Kf tab.get F_room_shares_f1 [vi x, .c (.f (.fp [sl g (ints q)] 0))] (vb (q.any (· == x))) := by
  refine kf_fn T_room_shares_f1 rfl fun H Q hQ => ?_
  refine kw_seq (kw_region (.inl rfl) ?_)
  simp
  refine kw_seq (kw_region (.inl rfl) ?_)
  simp [ld_fp, contains_int_sp g q x hq]
  refine kw_ret (hQ _ _ ?_)
  simp

theorem anycommon_sp (g g' : Tg) (p q : List Int) (hp : p.length ≤ 9223372036854775807) (hq : q.length ≤ 9223372036854775807) :
    Km.Pure tab.get F_slices_ContainsFunc_int [.c (.f (sl g (ints p))), .c (.f (.fn F_room_shares_f1 [.fp [sl g' (ints q)] 0]))] = Eq (vb (p.any fun x => q.any (· == x))) :=
  (contains_kf T_slices_ContainsFunc_int (indexf_kf T_slices_IndexFunc_int p (fun n => [fi n]) vi (fun x => q.any (· == x)) g F_room_shares_f1 [.fp [sl g' (ints q)] 0] hp
    (fun j hj H => by have := ld_int (H := H) hj; simpa [ints] using this) (fun x _ => by have := common_kf g' q x hq; simpa using this))).eq

/-- Do two rooms share? -/
def sharesB (a b : Nat) (ra rb : RoomD) : Bool := decide (a = b) || ra.p.any (· == (b : Int)) || rb.p.any (· == (a : Int)) || ra.p.any fun x => rb.p.any (· == x)

theorem shares_kf (g : Tg) (l : List RoomD) (a b : Nat) (ha : a < l.length) (hb : b < l.length) (hp : l[a].p.length ≤ 64) (hq : l[b].p.length ≤ 64) :
    Kf tab.get F_room_shares [.c (.f (sl g (rows l))), vi a, vi b] (vb (sharesB a b l[a] l[b])) := by
  refine kf_fn T_room_shares rfl fun H Q hQ => ?_
  have h1 := ld_row (H := H) (k := 14) (rows_grid l) (rows_at ha) rfl
  have h2 := ld_row (H := H) (k := 14) (rows_grid l) (rows_at hb) rfl
  refine kw_seq (kw_region (.inl rfl) ?_)
  simp
  refine kw_seq (kw_region (.inl rfl) ?_)
  simp [idx_sl, ha, hb, h1, h2]
  refine kw_seq (kw_region (.inl rfl) ?_)
  simp
  by_cases e1 : a = b
  · simp [e1]
    refine kw_ret (hQ _ _ ?_)
    simp [sharesB, e1]
  simp [e1, contains_int_sp _ l[a].p _ (by omega)]
  cases e2 : l[a].p.any (· == (b : Int))
  case true =>
    simp
    refine kw_ret (hQ _ _ ?_)
    simp [sharesB, e2]
  simp [contains_int_sp _ l[b].p _ (by omega)]
  cases e3 : l[b].p.any (· == (a : Int))
  case true =>
    simp
    refine kw_ret (hQ _ _ ?_)
    simp [sharesB, e3]
  simp [deep, mk_cl, mk_ptr, anycommon_sp l[a].pg l[b].pg l[a].p l[b].p (by omega) (by omega)]
  refine kw_ret (hQ _ _ ?_)
  simp [sharesB, e1, e2, e3]
end Go.Proofs.YtdkmkodemmidjaaGreat
end

section
namespace Go.Proofs.YtdkmkodemmidjaaGreat
open Go Km

theorem validI_small {l : List RoomD} (h : validI l = 0) {i : Nat} (hi : i < l.length) : l[i].q.length ≤ 64 ∧ l[i].p.length ≤ 64 := by
  have hb : l.any bigB = false := by
    cases hb : l.any bigB
    · rfl
    · simp [validI, hb] at h
  have := List.any_eq_false.1 hb l[i] (List.getElem_mem hi)
  simp [bigB] at this
  omega
theorem shares_sp (g : Tg) (l : List RoomD) (a b : Nat) (ha : a < l.length) (hb : b < l.length) (hp : l[a].p.length ≤ 64) (hq : l[b].p.length ≤ 64) :
    Km.Pure tab.get F_room_shares [.c (.f (sl g (rows l))), vi a, vi b] = Eq (vb (sharesB a b l[a] l[b])) := (shares_kf g l a b ha hb hp hq).eq
theorem withinB_f {n lo hi : Int} (h : n < lo ∨ hi < n) : withinB n lo hi = false := by
  simp [withinB]; omega
theorem withinB_y {n lo hi : Int} (h : lo ≤ n) (h' : n ≤ hi) : withinB n lo hi = true := by
  simp [withinB]; omega
def flatZ : List C := [.f (fi 0), .f (.fs [fi 7] 1), .f (fi (-1)), .f .nils, .f (fi 0), .f .nils, .f (fi 0), .f .nils]
theorem flat_sp0 : ((CF tab.get 300 60 (.fn F_ref18_Flat) [] []).bind fun p => exV deep p.2 p.1) = some (.a flatZ) := by kernel_rfl
theorem flat_sp : Km.Pure tab.get F_ref18_Flat [] = Eq (.a flatZ) := (pure_closedv flat_sp0).eq
def hoursC (a b : Nat) : FC := .fs [.fs [.fs [.nils, fi 0, fi 1, .fs [fi 0] 1] 1] 1, fi (60 * (a : Int)), fi (1440 - 60 * (b : Int))] 1
def closedC (c : Nat) : FC := if c < 20 then .fs [fi (c : Int)] 1 else .nils
def okI : Option (V × Heap) → Bool
  | some (.c (.f (.int .i64 0)), _) => true
  | _ => false
theorem okI_pure {f : Nat} {args : List V} {m d : Nat} (h : okI (CF tab.get m d (.fn f) args []) = true) : Km.Pure tab.get f args (vi 0) := by
  refine pure_closed (m := m) (d := d) ?_
  unfold okI at h
  split at h
  · rename_i h'; rw [h']; rfl
  · cases h
theorem open_all : ((List.range 3).all fun a => (List.range 3).all fun b => (List.range 21).all fun c => okI (CF tab.get 300 60 (.fn F_opening_Valid) [.a (flatZ ++ [.f (hoursC a b), .f (closedC c)])] [])) = true := by kernel_rfl
theorem all_sp0 : ((CF tab.get 300 60 (.fn F_ref18_All) [] []).bind fun p => exV deep p.2 p.1) = some (.a [.f (.fs [.fs [.nils, fi 0, fi 1, .fs [fi 0] 1] 1] 1)]) := by kernel_rfl
theorem all_sp : Km.Pure tab.get F_ref18_All [] = Eq (.a [.f (.fs [.fs [.nils, fi 0, fi 1, .fs [fi 0] 1] 1] 1)]) := (pure_closedv all_sp0).eq
def madeD (a b c : Nat) (cap bef aft : Int) (qg : Tg) (q : List (Int × Int)) : RoomD := ⟨cap, bef, aft, fi 0, .fs [fi 7] 1, fi (-1), .nils, fi 0, .nils, fi 0, .nils, hoursC a b, closedC c, qg, q, .nil, []⟩
/-- As R.Rooms makes them, but for the parts. -/
def Good (r : RoomD) : Prop := ∃ a b c cap bef aft qg q, r = madeD a b c cap bef aft qg q ∧ a < 3 ∧ b < 3 ∧ c < 21 ∧ 6 ≤ cap ∧ cap ≤ 11 ∧ 0 ≤ bef ∧ bef ≤ 20 ∧ 0 ≤ aft ∧ aft ≤ 20 ∧
  (q = [] ∨ ∃ t m, q = [(t, m), (2, 600)] ∧ 0 ≤ t ∧ t ≤ 1 ∧ 0 ≤ m ∧ m ≤ 900)
theorem good_open {r : RoomD} (h : Good r) : OpenOK r := by
  obtain ⟨a, b, c, cap, bef, aft, qg, q, rfl, ha, hb, hc, _⟩ := h
  have h1 := open_all
  simp only [List.all_eq_true, List.mem_range] at h1
  exact okI_pure (h1 a ha b hb c hc)
def bytesC (B : List (List Int)) : List (List FC) := B.map fun r => r.map fun n => .int .u8 n
end Go.Proofs.YtdkmkodemmidjaaGreat
end

section
namespace Go.Proofs.YtdkmkodemmidjaaGreat
open Go Km

/-- Three rooms: the last has no parts, or the first two. -/
def Trio (l : List RoomD) (h : Bool) : Prop := ∃ a b c : RoomD, Good a ∧ Good b ∧ Good c ∧ l = [a, b, if h then { c with pg := .fs, p := [0, 1] } else c]
/-- The boxes are kept. -/
def Keep (H H' : Heap) : Prop := ∀ (b : Nat) cs fl, H[b]? = some (.box cs fl) → H'[b]? = some (.box cs fl)
theorem Keep.push {H H' : Heap} (h : Keep H H') (L : Heap) : Keep H (H' ++ L) := fun b cs fl hb => by
  have := h b cs fl hb
  rw [List.getElem?_append_left (lt_of_get this)]; exact this
theorem Keep.trans {H H' H'' : Heap} (h : Keep H H') (h' : Keep H' H'') : Keep H H'' := fun b cs fl hb => h' b cs fl (h b cs fl hb)

def csD (x0 x1 x2 : Int) (o8 o9 q : C) : List C := [.f (fi x0), .f (fi x1), .f (fi x2), .f (fi 0), .f (.fs [fi 7] 1), .f (fi (-1)), .f .nils, .f (fi 0), .f .nils, .f (fi 0), .f .nils, o8, o9, q, .f .nils]

theorem rooms_h (H0 : Heap) (B : List (List Int)) (hB : B.length = 3) (hr : ∀ r ∈ B, r.length = 5 ∧ ∀ n ∈ r, 0 ≤ n ∧ n ≤ 255) :
    ∃ r H', Ev tab.get (.fn F_ref18_Rooms) [.a ((bytesC B).flatten.map .f)] H0 r H' ∧ (∃ l h, Trio l h ∧ LB true H' 15 r .es (rows l)) ∧ Keep H0 H' := by
  refine ev_ex (args := [.a ((bytesC B).flatten.map .f)]) (H := H0) (C := fun r H' => (∃ l h, Trio l h ∧ LB true H' 15 r .es (rows l)) ∧ Keep H0 H') T_ref18_Rooms rfl fun Q hQ => ?_
  obtain ⟨xs, hxs⟩ : ∃ xs, xs = (bytesC B).flatten := ⟨_, rfl⟩
  rw [← hxs]
  refine kw_seq (kw_region (.inl rfl) ?_)
  simp
  refine kw_seq (kw_region (.inl rfl) ?_)
  simp
  refine kw_seq ?_
  refine kw_seq (kw_region (.inl rfl) ?_)
  simp
  refine kw_cfor 3 (fun j t H => t.g 1 = .c (.ptr H0.length 0 0) ∧ (H[H0.length]? = some (.box (xs.map .f) 0) ∧ Keep H0 H) ∧ ∃ l, LB true H 15 (t.g 3) .es (rows l) ∧ l.length = j ∧ ∀ r ∈ l, Good r) (by decide) rfl (by simp)
    ⟨by simp, ⟨by simp, Keep.push (H := H0) (H' := H0) (fun _ _ _ hb => hb) _⟩, [], by simpa [rows] using LB.es0, rfl, by simp⟩ ?_ ?_ ?_
  · rintro j t H L hj ⟨g1, ⟨hx, hK⟩, l, hl, hlen, hG⟩ ha hL
    simp [ha]
    exact hL _ ⟨by simp [g1], ⟨hx, hK⟩, l, by simpa using hl, hlen, hG⟩ (by simp [ha]) (by simp)
  · rintro j t H hj ⟨g1, ⟨hx, hK⟩, l, hl, hlen, hG⟩ ha next
    have hjB : j < B.length := by omega
    obtain ⟨h5, hbyte⟩ := hr B[j] (List.getElem_mem hjB)
    obtain ⟨n0, n1, n2, n3, n4, hBj⟩ : ∃ n0 n1 n2 n3 n4, B[j] = [n0, n1, n2, n3, n4] := by
      match hm : B[j], h5 with
      | [a, b, c, d, e], _ => exact ⟨a, b, c, d, e, rfl⟩
    rw [hBj] at hbyte
    simp only [List.mem_cons, List.not_mem_nil, or_false, forall_eq_or_imp, forall_eq] at hbyte
    obtain ⟨b0, b1, b2, b3, b4⟩ := hbyte
    have hrow : ((xs.map C.f).drop (j * 5)).take 5 = [.f (.int .u8 n0), .f (.int .u8 n1), .f (.int .u8 n2), .f (.int .u8 n3), .f (.int .u8 n4)] := by
      have hg : Grid 5 (bytesC B) := fun r hm => by
        obtain ⟨r', hm', rfl⟩ := List.mem_map.1 hm
        rw [List.length_map]; exact (hr r' hm').1
      have hat : (bytesC B)[j]? = some [.int .u8 n0, .int .u8 n1, .int .u8 n2, .int .u8 n3, .int .u8 n4] := by simp [bytesC, hjB, hBj]
      have := drop_row (sz := 5) (k := 0) hg hat (by omega)
      rw [hxs, ← List.map_drop, show j * 5 = j * 5 + 0 from rfl, this]
      rfl
    have hlen5 : 5 ≤ xs.length - j * 5 := by
      have := congrArg List.length hrow
      simp only [List.length_take, List.length_drop, List.length_map, List.length_cons, List.length_nil] at this
      omega
    have fin : ∀ (t : T) (H1 : Heap) (cs : List C) (r : RoomD) (k fl : Nat), Good r → t.g 1 = .c (.ptr H0.length 0 0) → H1[H0.length]? = some (.box (xs.map .f) 0) ∧ Keep H0 H1 → LB true H1 15 (t.g 3) .es (rows l) → t.g 4 = vi j →
        t.g 6 = .c (.ptr k 0 0) → H1[k]? = some (.box cs fl) → cs.length = 15 → mapO (exB 60 H1) cs = some r.row →
        WP tab.get F_ref18_Rooms none [.code C_ref18_Rooms_33, .inBlock 1, .code (incC3 4 11 12), .inLoop (roundC3 0 4 10 11 12 [⟨D 9, .mov (R 4), none⟩, ⟨D 10, .bin .lss (R 9) (.k (.c (.f (.int .i64 3)))), none⟩] C_ref18_Rooms_14), .inBlock 0, .code C_ref18_Rooms_35] ⟨t, [], H1⟩ Q := by
      intro t H1 cs r k fl hg g1 ⟨hx, hK⟩ hl ha g6 hk hcs hfz
      obtain ⟨v', H', e1, e2, -, e4⟩ := LB.app (H := H1 ++ [.box cs 0]) (row := r.row) (bytes := 248) (y := .c (.sl H1.length 0 1 1 0 15)) (hl.push _) (rows_grid _) rfl (by decide)
        (added_box (fl := 0) (cs := cs) (by simp) hcs) (mapO_imp (fun x y _ => exB_push _) hfz) (by simp [roomOK]; omega)
      have htk : cs.take 15 = cs := List.take_of_length_le (by omega)
      refine kw_region (.inl rfl) ?_
      simp [g6, hk, hcs, htk, e1]
      refine kw_inBlock (next _ _ ?_ (by simp [ha]))
      refine ⟨by simp [g1], ⟨e4 _ _ _ (by rw [List.getElem?_append_left (lt_of_get hx)]; exact hx), fun b cs fl hb => e4 _ _ _ (hK.push _ _ _ _ hb)⟩, l ++ [r], by simpa [rows] using e2, by simp [hlen], ?_⟩
      intro r' hr'
      rcases List.mem_append.1 hr' with h | h
      · exact hG r' h
      · simp at h; subst h; exact hg
    refine kw_block ?_
    refine kw_seq (kw_region (.inl rfl) ?_)
    simp [ha, g1, idx_ptr (i := (j : Int)) (n := 3) (by omega) (by omega), hx, hrow, hlen5]
    refine kw_seq (kw_region (.inl rfl) ?_)
    simp (disch := omega) [wrap64, Int.tmod_eq_emod_of_nonneg, bin_rem, idx_ptr, List.getElem?_cons_zero, List.getElem?_cons_succ]
    refine kw_seq (kw_region (.inl rfl) ?_)
    simp (disch := omega) [wrap64, wrapu8, Int.tmod_eq_emod_of_nonneg, Int.tdiv_eq_ediv_of_nonneg, bin_rem, bin_quo, idx_ptr, List.getElem?_cons_zero, List.getElem?_cons_succ, all_sp]
    refine kw_seq (kw_region (.inl rfl) ?_)
    simp (disch := omega) [idx_ptr, List.getElem?_cons_zero, List.getElem?_cons_succ, flat_sp, flatZ]
    refine kw_seq ?_
    refine kw_seq (kw_region (.inl rfl) ?_)
    simp (disch := omega) [wrap64, wrapu8, Int.tmod_eq_emod_of_nonneg, Int.tdiv_eq_ediv_of_nonneg, bin_rem, bin_quo, idx_ptr, List.getElem?_cons_zero, List.getElem?_cons_succ]
    obtain ⟨a, ea⟩ : ∃ a : Nat, n3 % 3 = (a : Int) := ⟨(n3 % 3).toNat, by omega⟩
    obtain ⟨b, eb⟩ : ∃ b : Nat, n3 / 4 % 3 = (b : Int) := ⟨(n3 / 4 % 3).toNat, by omega⟩
    obtain ⟨c, ec⟩ : ∃ c : Nat, n4 % 20 = (c : Int) := ⟨(n4 % 20).toNat, by omega⟩
    simp only [ea, eb]
    have good : ∀ c qg q, c < 21 → (q = [] ∨ ∃ t m, q = [(t, m), ((2 : Int), (600 : Int))] ∧ 0 ≤ t ∧ t ≤ 1 ∧ 0 ≤ m ∧ m ≤ 900) → Good (madeD a b c (6 + n0 % 6) (5 * (n1 % 5)) (5 * (n2 % 5)) qg q) :=
      fun c qg q hc hq => ⟨a, b, c, _, _, _, _, _, rfl, by omega, by omega, hc, by omega, by omega, by omega, by omega, by omega, by omega, hq⟩
    have hq0 : ([] : List (Int × Int)) = [] ∨ ∃ t m, ([] : List (Int × Int)) = [(t, m), ((2 : Int), (600 : Int))] ∧ 0 ≤ t ∧ t ≤ 1 ∧ 0 ≤ m ∧ m ≤ 900 := .inl rfl
    have hq1 : [(n4 % 2, 60 * (n4 / 16)), ((2 : Int), (600 : Int))] = [] ∨ ∃ t m, [(n4 % 2, 60 * (n4 / 16)), ((2 : Int), (600 : Int))] = [(t, m), ((2 : Int), (600 : Int))] ∧ 0 ≤ t ∧ t ≤ 1 ∧ 0 ≤ m ∧ m ≤ 900 :=
      .inr ⟨_, _, rfl, by omega, by omega, by omega, by omega⟩
    have hp := fun L => hl.push L
    by_cases c1 : n3 / 16 % 4 = 0
    · refine kw_cond_t (by simp [c1]) ?_
      have hc20 : c < 20 := by omega
      refine kw_region (.inl rfl) ?_
      simp (disch := omega) [wrap64, wrapu8, Int.tmod_eq_emod_of_nonneg, Int.tdiv_eq_ediv_of_nonneg, bin_rem, bin_quo, idx_ptr, List.getElem?_cons_zero, List.getElem?_cons_succ]
      simp only [ec]
      refine kw_seq ?_
      refine kw_seq (kw_region (.inl rfl) ?_)
      simp (disch := omega) [wrap64, wrapu8, Int.tmod_eq_emod_of_nonneg, Int.tdiv_eq_ediv_of_nonneg, bin_rem, bin_quo, idx_ptr, List.getElem?_cons_zero, List.getElem?_cons_succ]
      by_cases c2 : n0 / 8 % 2 = 1
      · refine kw_cond_t (by simp [c2]) ?_
        refine kw_region (.inl rfl) ?_
        simp (disch := omega) [wrap64, wrapu8, Int.tmod_eq_emod_of_nonneg, Int.tdiv_eq_ediv_of_nonneg, bin_rem, bin_quo, idx_ptr, List.getElem?_cons_zero, List.getElem?_cons_succ]
        exact fin _ _ (csD (6 + n0 % 6) (5 * (n1 % 5)) (5 * (n2 % 5)) (.sl (H.length + 3) 0 1 1 0 3) (.sl (H.length + 4) 0 1 1 0 1) (.sl (H.length + 5) 0 2 2 0 2)) _ (H.length + 1) 0 (good c .fs _ (by omega) hq1) (by simp [g1]) ⟨by rw [List.getElem?_append_left (lt_of_get hx)]; exact hx, hK.push _⟩ (by simpa using hp _) (by simp [ha]) (by simp) (by simp; rfl) rfl
          (by simp [csD, exB_sl, exB_f, madeD, RoomD.row, hoursC, closedC, hc20, sl, Tg.fc, pairs, ints])
      · refine kw_cond_f (by simp [c2]) ?_
        refine kw_skip ?_
        exact fin _ _ (csD (6 + n0 % 6) (5 * (n1 % 5)) (5 * (n2 % 5)) (.sl (H.length + 3) 0 1 1 0 3) (.sl (H.length + 4) 0 1 1 0 1) (.f .nils)) _ (H.length + 1) 0 (good c .nil _ (by omega) hq0) (by simp [g1]) ⟨by rw [List.getElem?_append_left (lt_of_get hx)]; exact hx, hK.push _⟩ (by simpa using hp _) (by simp [ha]) (by simp) (by simp; rfl) rfl
          (by simp [csD, exB_sl, exB_f, madeD, RoomD.row, hoursC, closedC, hc20, sl, Tg.fc, pairs, ints])
    · refine kw_cond_f (by simp [c1]) ?_
      have hc20 : ¬ 20 < 20 := by omega
      refine kw_skip ?_
      refine kw_seq ?_
      refine kw_seq (kw_region (.inl rfl) ?_)
      simp (disch := omega) [wrap64, wrapu8, Int.tmod_eq_emod_of_nonneg, Int.tdiv_eq_ediv_of_nonneg, bin_rem, bin_quo, idx_ptr, List.getElem?_cons_zero, List.getElem?_cons_succ]
      by_cases c2 : n0 / 8 % 2 = 1
      · refine kw_cond_t (by simp [c2]) ?_
        refine kw_region (.inl rfl) ?_
        simp (disch := omega) [wrap64, wrapu8, Int.tmod_eq_emod_of_nonneg, Int.tdiv_eq_ediv_of_nonneg, bin_rem, bin_quo, idx_ptr, List.getElem?_cons_zero, List.getElem?_cons_succ]
        exact fin _ _ (csD (6 + n0 % 6) (5 * (n1 % 5)) (5 * (n2 % 5)) (.sl (H.length + 3) 0 1 1 0 3) (.f .nils) (.sl (H.length + 4) 0 2 2 0 2)) _ (H.length + 1) 0 (good 20 .fs _ (by omega) hq1) (by simp [g1]) ⟨by rw [List.getElem?_append_left (lt_of_get hx)]; exact hx, hK.push _⟩ (by simpa using hp _) (by simp [ha]) (by simp) (by simp; rfl) rfl
          (by simp [csD, exB_sl, exB_f, madeD, RoomD.row, hoursC, closedC, hc20, sl, Tg.fc, pairs, ints])
      · refine kw_cond_f (by simp [c2]) ?_
        refine kw_skip ?_
        exact fin _ _ (csD (6 + n0 % 6) (5 * (n1 % 5)) (5 * (n2 % 5)) (.sl (H.length + 3) 0 1 1 0 3) (.f .nils) (.f .nils)) _ (H.length + 1) 0 (good 20 .nil _ (by omega) hq0) (by simp [g1]) ⟨by rw [List.getElem?_append_left (lt_of_get hx)]; exact hx, hK.push _⟩ (by simpa using hp _) (by simp [ha]) (by simp) (by simp; rfl) rfl
          (by simp [csD, exB_sl, exB_f, madeD, RoomD.row, hoursC, closedC, hc20, sl, Tg.fc, pairs, ints])
  · rintro t H ⟨g1, ⟨hx, hK⟩, l, hl, hlen, hG⟩ ha
    obtain ⟨a, b, c, rfl⟩ : ∃ a b c, l = [a, b, c] := by
      match l, hlen with
      | [a, b, c], _ => exact ⟨a, b, c, rfl⟩
    have ga := hG a (by simp)
    have gb := hG b (by simp)
    have gc := hG c (by simp)
    have h2B : 2 < B.length := by omega
    obtain ⟨h5, hbyte⟩ := hr B[2] (List.getElem_mem h2B)
    obtain ⟨n0, n1, n2, n3, n4, hBj⟩ : ∃ n0 n1 n2 n3 n4, B[2] = [n0, n1, n2, n3, n4] := by
      match hm : B[2], h5 with
      | [a, b, c, d, e], _ => exact ⟨a, b, c, d, e, rfl⟩
    rw [hBj] at hbyte
    have b1 := hbyte n1 (by simp)
    have hd : (xs.map C.f).drop 11 = .f (.int .u8 n1) :: ([.f (.int .u8 n2), .f (.int .u8 n3), .f (.int .u8 n4)] ++ ((bytesC B).drop 3).flatten.map C.f) := by
      have hg : Grid 5 (bytesC B) := fun r hm => by
        obtain ⟨r', hm', rfl⟩ := List.mem_map.1 hm
        rw [List.length_map]; exact (hr r' hm').1
      have hat : (bytesC B)[2]? = some [.int .u8 n0, .int .u8 n1, .int .u8 n2, .int .u8 n3, .int .u8 n4] := by simp [bytesC, h2B, hBj]
      have := drop_row (sz := 5) (k := 1) hg hat (by omega)
      rw [hxs, ← List.map_drop, show 11 = 2 * 5 + 1 from rfl, this]
      simp
    refine kw_seq ?_
    refine kw_seq (kw_region (.inl rfl) ?_)
    simp (disch := omega) [g1, hx, hd, wrapu8, Int.tmod_eq_emod_of_nonneg, Int.tdiv_eq_ediv_of_nonneg, bin_rem, bin_quo, idx_ptr]
    by_cases c1 : 0 < n1 / 8 % 4
    · refine kw_cond_t (by simp [c1]) ?_
      refine kw_region (.inl rfl) ?_
      obtain ⟨bb, ep, H', e1, e2, e3, e4⟩ := LB.st1 (H := H ++ [.box [.f (fi 0), .f (fi 1)] 0]) (row := c.row) (j := 2) (k := 14) (c := .sl H.length 0 2 2 0 1) (x := .fs [fi 0, fi 1] 2) (hl.push _) (rows_grid _) (by simp [rows]) (by decide) (by simp [exB_sl])
      simp at e1 e2
      simp [e1, e2]
      refine kw_seq (kw_region (.inl rfl) ?_)
      simp
      have hrows : (rows [a, b, c]).set 2 (c.row.set 14 (.fs [fi 0, fi 1] 2)) = rows [a, b, { c with pg := .fs, p := [0, 1] }] := rfl
      rw [hrows] at e3
      obtain ⟨cv, hcv, _⟩ := e3.len
      rw [hcv] at e3
      refine kw_ret (hQ _ _ (.c cv) (by simp) (by simp [Km.results, mapO, hcv]) ⟨⟨_, true, ⟨a, b, c, ga, gb, gc, rfl⟩, by simpa using e3⟩, fun b cs fl hb => e4 _ _ _ (hK.push _ _ _ _ hb)⟩)
    · refine kw_cond_f (by simp [c1]) ?_
      refine kw_skip ?_
      refine kw_seq (kw_region (.inl rfl) ?_)
      simp
      obtain ⟨cv, hcv, _⟩ := hl.len
      rw [hcv] at hl
      refine kw_ret (hQ _ _ (.c cv) (by simp) (by simp [Km.results, mapO, hcv]) ⟨⟨_, false, ⟨a, b, c, ga, gb, gc, rfl⟩, by simpa using hl⟩, hK⟩)
end Go.Proofs.YtdkmkodemmidjaaGreat
end

section
namespace Go.Proofs.YtdkmkodemmidjaaGreat
open Go Km

/-- A periodic set. -/
structure PerD where
  hg : Tg
  head : List Int
  fr : Int
  per : Int
  cg : Tg
  cyc : List Int
def PerD.row (p : PerD) : List FC := [sl p.hg (ints p.head), fi p.fr, fi p.per, sl p.cg (ints p.cyc)]
def perRows (l : List PerD) : List (List FC) := l.map PerD.row
@[simp] theorem perRows_len (l : List PerD) : (perRows l).length = l.length := by simp [perRows]
theorem perRows_grid (l : List PerD) : Grid 4 (perRows l) := Grid.map fun _ => rfl
theorem perRows_at {l : List PerD} {j : Nat} (hj : j < l.length) : (perRows l)[j]? = some l[j].row := by simp [perRows, hj]

/-- The numbers rise, from last on, below a limit. -/
def risingB (limit last : Int) : List Int → Bool
  | [] => true
  | n :: r => decide (last < n) && decide (n < limit) && risingB limit n r
theorem risingB_drop {limit last : Int} {l : List Int} {j : Nat} (hj : j < l.length) : risingB limit last (l.drop j) = (decide (last < l[j]) && decide (l[j] < limit) && risingB limit l[j] (l.drop (j + 1))) := by
  rw [List.drop_eq_getElem_cons hj]; rfl
def perB (p : PerD) : Bool := decide (0 ≤ p.fr) && decide (p.fr ≤ 1099511627776) && decide (1 ≤ p.per) && decide (p.per ≤ 1099511627776) &&
  decide ((p.head.length : Int) + p.cyc.length ≤ 1048576) && risingB p.fr (-1) p.head && risingB p.per (-1) p.cyc

theorem rising_kf (g : Tg) (l : List Int) (limit : Int) (hl : l.length ≤ 9223372036854775807) : Kf tab.get F_periodic_rising [.c (.f (sl g (ints l))), vi limit] (vb (risingB limit (-1) l)) := by
  refine kf_fn T_periodic_rising rfl fun H Q hQ => ?_
  refine kw_seq (kw_region (.inl rfl) ?_)
  simp
  refine kw_seq (kw_region (.inl rfl) ?_)
  simp
  refine kw_seq ?_
  refine kw_seq (kw_region (.inl rfl) ?_)
  simp
  refine kw_for l.length (fun j t H' => t.g 1 = vi limit ∧ t.g 8 = .c (.f (sl g (ints l))) ∧ H = H' ∧ ∃ last, t.g 5 = vi last ∧ risingB limit (-1) l = risingB limit last (l.drop j)) hl (by decide) (by decide) (by simp) (by simp) (by simp) ?_ ?_
  · rintro j t _ hj ⟨g1, g8, rfl, last, g5, hB⟩ ha hb next
    rw [risingB_drop hj] at hB
    refine kw_block ?_
    refine kw_seq (kw_region (.inl rfl) ?_)
    simp [ha, g8, idx_sl, hj, ld_int]
    refine kw_seq ?_
    refine kw_seq (kw_region (.inl rfl) ?_)
    simp [g5, g1]
    by_cases k1 : l[j] ≤ last
    · simp [k1]
      refine kw_cond_t (by simp) ?_
      refine kw_seq (kw_region (.inl rfl) ?_)
      simp
      refine kw_ret (hQ _ _ ?_)
      simp [hB, show ¬ last < l[j] by omega]
    simp [k1, g1]
    by_cases k2 : limit ≤ l[j]
    · simp [k2]
      refine kw_cond_t (by simp) ?_
      refine kw_seq (kw_region (.inl rfl) ?_)
      simp
      refine kw_ret (hQ _ _ ?_)
      simp [hB, show ¬ l[j] < limit by omega]
    simp [k2]
    refine kw_cond_f (by simp) ?_
    refine kw_skip ?_
    refine kw_region (.inl rfl) ?_
    simp
    refine kw_inBlock (next _ _ ?_ (by simp [ha]) (by simp [hb]))
    rw [decide_eq_true (by omega), decide_eq_true (by omega)] at hB
    exact ⟨by simp [g1], by simp [g8], rfl, l[j], by simp, by simpa using hB⟩
  · rintro t _ ⟨g1, g8, rfl, last, g5, hB⟩ ha hb
    refine kw_seq (kw_region (.inl rfl) ?_)
    simp
    refine kw_ret (hQ _ _ ?_)
    simp [hB, risingB]
theorem rising_sp (g : Tg) (l : List Int) (limit : Int) (hl : l.length ≤ 9223372036854775807) :
    Km.Pure tab.get F_periodic_rising [.c (.f (sl g (ints l))), vi limit] = Eq (vb (risingB limit (-1) l)) := (rising_kf g l limit hl).eq

theorem per_kf (p : PerD) (h1 : p.head.length ≤ 9223372036854775807) (h2 : p.cyc.length ≤ 9223372036854775807) (h : p.head.length + p.cyc.length ≤ 9223372036854775807) :
    Kf tab.get F_periodic_Valid [.a (p.row.map .f)] (vb (perB p)) := by
  refine kf_fn T_periodic_Valid rfl fun H Q hQ => ?_
  refine kw_seq (kw_region (.inl rfl) ?_)
  simp [PerD.row]
  refine kw_seq (kw_region (.inl rfl) ?_)
  simp
  by_cases k1 : 0 ≤ p.fr
  case neg =>
    simp [k1]
    refine kw_ret (hQ _ _ ?_)
    simp [perB, k1]
  simp [k1]
  by_cases k2 : p.fr ≤ 1099511627776
  case neg =>
    simp [k2]
    refine kw_ret (hQ _ _ ?_)
    simp [perB, k2]
  simp [k2]
  by_cases k3 : 1 ≤ p.per
  case neg =>
    simp [k3]
    refine kw_ret (hQ _ _ ?_)
    simp [perB, k3]
  simp [k3]
  by_cases k4 : p.per ≤ 1099511627776
  case neg =>
    simp [k4]
    refine kw_ret (hQ _ _ ?_)
    simp [perB, k4]
  simp [k4, wrap64 (n := (p.head.length : Int) + p.cyc.length) (by omega) (by omega)]
  by_cases k5 : (p.head.length : Int) + p.cyc.length ≤ 1048576
  case neg =>
    simp [k5]
    refine kw_ret (hQ _ _ ?_)
    simp [perB, k5]
  simp [k5, rising_sp p.hg p.head p.fr h1]
  cases k6 : risingB p.fr (-1) p.head
  · simp
    refine kw_ret (hQ _ _ ?_)
    simp [perB, k6]
  simp [rising_sp p.cg p.cyc p.per h2]
  refine kw_ret (hQ _ _ ?_)
  simp [perB, k1, k2, k3, k4, k5, k6]
end Go.Proofs.YtdkmkodemmidjaaGreat
end

section
namespace Go.Proofs.YtdkmkodemmidjaaGreat
open Go Km

def PerD.Sm (p : PerD) : Prop := p.head.length + p.cyc.length ≤ 9223372036854775807
theorem per_sp (p : PerD) (h : p.Sm) : Km.Pure tab.get F_periodic_Valid [.a (p.row.map .f)] = Eq (vb (perB p)) := by
  have h : p.head.length + p.cyc.length ≤ 9223372036854775807 := h
  exact (per_kf p (by omega) (by omega) h).eq
theorem perB_sm {p : PerD} (h : perB p = true) : p.Sm := by
  simp [perB] at h
  show p.head.length + p.cyc.length ≤ 9223372036854775807
  omega

/-- A term. -/
structure TermD where
  tg : Tg
  fs : List PerD
def TermD.row (t : TermD) : List FC := [sl t.tg (perRows t.fs)]
def termRows (l : List TermD) : List (List FC) := l.map TermD.row
@[simp] theorem termRows_len (l : List TermD) : (termRows l).length = l.length := by simp [termRows]
theorem termRows_grid (l : List TermD) : Grid 1 (termRows l) := Grid.map fun _ => rfl
theorem termRows_at {l : List TermD} {j : Nat} (hj : j < l.length) : (termRows l)[j]? = some l[j].row := by simp [termRows, hj]
def TermD.Sm (t : TermD) : Prop := t.fs.length ≤ 9223372036854775807 ∧ ∀ p ∈ t.fs, p.Sm
def termB (t : TermD) : Bool := decide (1 ≤ (t.fs.length : Int)) && decide ((t.fs.length : Int) ≤ 4) && t.fs.all perB
def mixB (l : List TermD) : Bool := decide ((l.length : Int) ≤ 64) && l.all termB
theorem all_drop {α : Type} {l : List α} {p : α → Bool} {j : Nat} (hj : j < l.length) : (l.drop j).all p = (p l[j] && (l.drop (j + 1)).all p) := by
  rw [List.drop_eq_getElem_cons hj, List.all_cons]

theorem bad_kf (p : PerD) (h : p.Sm) : Kf tab.get F_mixed_Valid_f1 [.a (p.row.map .f)] (vb (!perB p)) := by
  refine kf_fn T_mixed_Valid_f1 rfl fun H Q hQ => ?_
  have hv := per_sp p h
  simp [PerD.row] at hv
  refine kw_seq (kw_region (.inl rfl) ?_)
  simp [PerD.row]
  refine kw_seq (kw_region (.inl rfl) ?_)
  simp [hv]
  refine kw_ret (hQ _ _ ?_)
  simp
theorem anybad_sp (g : Tg) (l : List PerD) (hl : l.length ≤ 9223372036854775807) (h : ∀ p ∈ l, p.Sm) :
    Km.Pure tab.get F_slices_ContainsFunc_api_Periodic [.c (.f (sl g (perRows l))), .c (.f (.fn F_mixed_Valid_f1 []))] = Eq (vb (l.any fun p => !perB p)) :=
  (contains_kf T_slices_ContainsFunc_api_Periodic (indexf_kf T_slices_IndexFunc_api_Periodic l PerD.row (fun r => .a (r.row.map .f)) (fun p => !perB p) g F_mixed_Valid_f1 [] hl
    (fun j hj H => ld_rowa (perRows_grid l) (perRows_at hj)) (fun p hp => bad_kf p (h p hp)))).eq

theorem mix_kf (g : Tg) (l : List TermD) (hl : l.length ≤ 9223372036854775807) (h : ∀ t ∈ l, t.Sm) : Kf tab.get F_mixed_Valid [.a [.f (sl g (termRows l))]] (vb (mixB l)) := by
  refine kf_fn T_mixed_Valid rfl fun H Q hQ => ?_
  refine kw_seq (kw_region (.inl rfl) ?_)
  simp
  refine kw_seq ?_
  refine kw_seq (kw_region (.inl rfl) ?_)
  simp
  by_cases k1 : (64 : Int) < l.length
  · simp [k1]
    refine kw_cond_t (by simp) ?_
    refine kw_seq (kw_region (.inl rfl) ?_)
    simp
    refine kw_ret (hQ _ _ ?_)
    simp [mixB, show ¬ (l.length : Int) ≤ 64 by omega]
  simp [k1]
  refine kw_cond_f (by simp) ?_
  refine kw_skip ?_
  refine kw_seq ?_
  refine kw_seq (kw_region (.inl rfl) ?_)
  simp
  refine kw_for l.length (fun j t H' => t.g 10 = .c (.f (sl g (termRows l))) ∧ (∃ J, H' = H ++ J) ∧ l.all termB = (l.drop j).all termB) hl (by decide) (by decide) (by simp) (by simp) (by simp) ?_ ?_
  · rintro j t _ hj ⟨g10, ⟨J, rfl⟩, hB⟩ ha hb next
    rw [all_drop hj] at hB
    have hs := h l[j] (List.getElem_mem hj)
    have hrow := ld_row (H := H ++ J) (k := 0) (termRows_grid l) (termRows_at hj) rfl
    refine kw_block ?_
    refine kw_seq (kw_region (.inl rfl) ?_)
    simp at hrow
    simp [ha, g10, idx_sl, hj, hrow]
    have bad : termB l[j] = false → ∀ (t : T) (J : Heap) k, WP tab.get F_mixed_Valid none (.code (.region [⟨D 2, .mov (.k (.c (.f (.bool false)))), none⟩] []) :: .code .ret :: k) ⟨t, [], H ++ J⟩ Q := by
      intro hf t J k
      refine kw_region (.inl rfl) ?_
      simp
      refine kw_ret (hQ _ _ ?_)
      simp [mixB, hB, hf]
    refine kw_seq (kw_region (.inl rfl) ?_)
    simp
    by_cases k2 : (l[j].fs.length : Int) < 1
    · simp [k2]
      exact kw_cond_t (by simp) (kw_seq (bad (by simp [termB, show ¬ 1 ≤ (l[j].fs.length : Int) by omega]) _ _ _))
    simp [k2]
    by_cases k3 : (4 : Int) < l[j].fs.length
    · simp [k3]
      exact kw_cond_t (by simp) (kw_seq (bad (by simp [termB, show ¬ (l[j].fs.length : Int) ≤ 4 by omega]) _ _ _))
    simp [k3, anybad_sp l[j].tg l[j].fs hs.1 hs.2]
    cases k4 : l[j].fs.any fun p => !perB p
    · have : termB l[j] = true := by
        simp [termB] at k4 ⊢
        exact ⟨⟨by omega, by omega⟩, k4⟩
      refine kw_cond_f (by simp) ?_
      refine kw_skip (kw_inBlock (next _ _ ?_ (by simp [ha]) (by simp [hb])))
      rw [this, Bool.true_and] at hB
      exact ⟨by simp [g10], ⟨_, rfl⟩, hB⟩
    · exact kw_cond_t (by simp) (kw_seq (bad (by simp [termB] at k4 ⊢; intro _ _; exact k4) _ _ _))
  · rintro t _ ⟨g10, ⟨J, rfl⟩, hB⟩ ha hb
    refine kw_seq (kw_region (.inl rfl) ?_)
    simp
    refine kw_ret (hQ _ _ ?_)
    simp [mixB, hB, show (l.length : Int) ≤ 64 by omega]
end Go.Proofs.YtdkmkodemmidjaaGreat
end

section
namespace Go.Proofs.YtdkmkodemmidjaaGreat
open Go Km

/-! ### Comparing -/
theorem isNaN_sp (a : Int) : Km.Pure tab.get F_cmp_isNaN_int [vi a] = Eq (vb false) := (show Kf tab.get F_cmp_isNaN_int [vi a] (vb false) by
  refine kf_fn T_cmp_isNaN_int rfl fun H Q hQ => ?_
  refine kw_seq (kw_region (.inl rfl) ?_)
  simp
  refine kw_seq (kw_region (.inl rfl) ?_)
  simp
  refine kw_ret (hQ _ _ ?_)
  simp).eq

def cmpI (a b : Int) : Int := if a < b then -1 else if b < a then 1 else 0
theorem compare_kf (a b : Int) : Kf tab.get F_cmp_Compare_int [vi a, vi b] (vi (cmpI a b)) := by
  refine kf_fn T_cmp_Compare_int rfl fun H Q hQ => ?_
  refine kw_seq (kw_region (.inl rfl) ?_)
  simp
  refine kw_seq (kw_region (.inl rfl) ?_)
  simp [isNaN_sp]
  refine kw_seq (kw_region (.inl rfl) ?_)
  simp [isNaN_sp]
  refine kw_seq ?_
  refine kw_seq (kw_region (.inl rfl) ?_)
  simp
  refine kw_cond_f (by simp) (kw_skip ?_)
  refine kw_seq ?_
  refine kw_seq (kw_region (.inl rfl) ?_)
  simp
  refine kw_cond_f (by simp) (kw_skip ?_)
  refine kw_seq ?_
  refine kw_seq (kw_region (.inl rfl) ?_)
  simp
  by_cases h : a < b
  · refine kw_cond_t (by simp [h]) ?_
    refine kw_seq (kw_region (.inl rfl) ?_)
    simp
    refine kw_ret (hQ _ _ ?_)
    simp [cmpI, h]
  refine kw_cond_f (by simp [h]) (kw_skip ?_)
  refine kw_seq ?_
  refine kw_seq (kw_region (.inl rfl) ?_)
  simp
  by_cases h' : b < a
  · refine kw_cond_t (by simp [h']) ?_
    refine kw_seq (kw_region (.inl rfl) ?_)
    simp
    refine kw_ret (hQ _ _ ?_)
    simp [cmpI, h, h']
  refine kw_cond_f (by simp [h']) (kw_skip ?_)
  refine kw_seq (kw_region (.inl rfl) ?_)
  simp
  refine kw_ret (hQ _ _ ?_)
  simp [cmpI, h, h']
theorem compare_sp (a b : Int) : Km.Pure tab.get F_cmp_Compare_int [vi a, vi b] = Eq (vi (cmpI a b)) := (compare_kf a b).eq

/-- The first that is not 0. -/
def orI : List Int → Int
  | [] => 0
  | a :: r => if a = 0 then orI r else a
theorem orI_drop {l : List Int} {j : Nat} (hj : j < l.length) : orI (l.drop j) = if l[j] = 0 then orI (l.drop (j + 1)) else l[j] := by
  rw [List.drop_eq_getElem_cons hj]; rfl
theorem or_kf (g : Tg) (l : List Int) (hl : l.length ≤ 9223372036854775807) : Kf tab.get F_cmp_Or_int [.c (.f (sl g (ints l)))] (vi (orI l)) := by
  refine kf_fn T_cmp_Or_int rfl fun H Q hQ => ?_
  refine kw_seq (kw_region (.inl rfl) ?_)
  simp
  refine kw_seq (kw_region (.inl rfl) ?_)
  simp
  refine kw_seq ?_
  refine kw_seq (kw_region (.inl rfl) ?_)
  simp
  refine kw_for l.length (fun j t H' => t.g 3 = vi 0 ∧ t.g 6 = .c (.f (sl g (ints l))) ∧ H = H' ∧ orI l = orI (l.drop j)) hl (by decide) (by decide) (by simp) (by simp) (by simp) ?_ ?_
  · rintro j t _ hj ⟨g3, g6, rfl, hB⟩ ha hb next
    rw [orI_drop hj] at hB
    refine kw_block ?_
    refine kw_seq (kw_region (.inl rfl) ?_)
    simp [ha, g6, idx_sl, hj, ld_int]
    refine kw_seq (kw_region (.inl rfl) ?_)
    simp [g3]
    by_cases h : l[j] = 0
    · refine kw_cond_f (by simp [h]) ?_
      refine kw_skip (kw_inBlock (next _ _ ?_ (by simp [ha]) (by simp [hb])))
      rw [if_pos h] at hB
      exact ⟨by simp [g3], by simp [g6], rfl, hB⟩
    · refine kw_cond_t (by simp [h]) ?_
      refine kw_seq (kw_region (.inl rfl) ?_)
      simp
      refine kw_ret (hQ _ _ ?_)
      simp [hB, h]
  · rintro t _ ⟨g3, g6, rfl, hB⟩ ha hb
    refine kw_seq (kw_region (.inl rfl) ?_)
    simp [g3]
    refine kw_ret (hQ _ _ ?_)
    simp [hB, orI]
theorem or_sp (g : Tg) (l : List Int) (hl : l.length ≤ 9223372036854775807) : Km.Pure tab.get F_cmp_Or_int [.c (.f (sl g (ints l)))] = Eq (vi (orI l)) := (or_kf g l hl).eq

theorem ein_kf (n lo hi : Int) : Kf tab.get F_endless_in [vi n, vi lo, vi hi] (vb (withinB n lo hi)) := by
  refine kf_fn T_endless_in rfl fun H Q hQ => ?_
  refine kw_seq (kw_region (.inl rfl) ?_)
  simp
  refine kw_seq (kw_region (.inl rfl) ?_)
  by_cases h : lo ≤ n
  · simp [h]
    refine kw_ret (hQ _ _ ?_)
    simp [withinB, h]
  · simp [h]
    refine kw_ret (hQ _ _ ?_)
    simp [withinB, h]
@[simp] theorem ein_sp (n lo hi : Int) : Km.Pure tab.get F_endless_in [vi n, vi lo, vi hi] = Eq (vb (withinB n lo hi)) := (ein_kf n lo hi).eq

/-! ### Instances, streams -/
structure InstD where
  day : Int
  fr : Int
  to : Int
deriving DecidableEq
def InstD.row (x : InstD) : List FC := [fi x.day, fi x.fr, fi x.to]
def instRows (l : List InstD) : List (List FC) := l.map InstD.row
@[simp] theorem instRows_len (l : List InstD) : (instRows l).length = l.length := by simp [instRows]
theorem instRows_grid (l : List InstD) : Grid 3 (instRows l) := Grid.map fun _ => rfl
theorem instRows_at {l : List InstD} {j : Nat} (hj : j < l.length) : (instRows l)[j]? = some l[j].row := by simp [instRows, hj]
def ordI (x y : InstD) : Int := orI [cmpI x.fr y.fr, cmpI x.day y.day, cmpI x.to y.to]
theorem order_kf (x y : InstD) : Kf tab.get F_endless_order [.a (x.row.map .f), .a (y.row.map .f)] (vi (ordI x y)) := by
  refine kf_fn T_endless_order rfl fun H Q hQ => ?_
  have ho := or_sp .fs [cmpI x.fr y.fr, cmpI x.day y.day, cmpI x.to y.to] (by simp)
  simp [ints, sl, Tg.fc] at ho
  refine kw_seq (kw_region (.inl rfl) ?_)
  simp [InstD.row]
  refine kw_seq (kw_region (.inl rfl) ?_)
  simp [compare_sp, deep, ex_sl, mk_sl, ho]
  refine kw_ret (hQ _ _ ?_)
  simp [ordI]
end Go.Proofs.YtdkmkodemmidjaaGreat
end

section
namespace Go.Proofs.YtdkmkodemmidjaaGreat
open Go Km

theorem order_sp (x y : InstD) : Km.Pure tab.get F_endless_order [.a (x.row.map .f), .a (y.row.map .f)] = Eq (vi (ordI x y)) := (order_kf x y).eq
theorem mix_sp (g : Tg) (l : List TermD) (hl : l.length ≤ 9223372036854775807) (h : ∀ t ∈ l, t.Sm) : Km.Pure tab.get F_mixed_Valid [.a [.f (sl g (termRows l))]] = Eq (vb (mixB l)) := (mix_kf g l hl h).eq

structure ClassD where
  mg : Tg
  ts : List TermD
  min : Int
def ClassD.row (c : ClassD) : List FC := [sl c.mg (termRows c.ts), fi c.min]
def classRows (l : List ClassD) : List (List FC) := l.map ClassD.row
@[simp] theorem classRows_len (l : List ClassD) : (classRows l).length = l.length := by simp [classRows]
theorem classRows_grid (l : List ClassD) : Grid 2 (classRows l) := Grid.map fun _ => rfl
theorem classRows_at {l : List ClassD} {j : Nat} (hj : j < l.length) : (classRows l)[j]? = some l[j].row := by simp [classRows, hj]
structure StreamD where
  cg : Tg
  cs : List ClassD
  len : Int
  xg : Tg
  xs : List InstD
def StreamD.row (s : StreamD) : List FC := [sl s.cg (classRows s.cs), fi s.len, sl s.xg (instRows s.xs)]
/-- No list is longer than an int says. -/
def StreamD.Sm (s : StreamD) : Prop := s.cs.length ≤ 9223372036854775807 ∧ s.xs.length ≤ 9223372036854775807 ∧ ∀ c ∈ s.cs, c.ts.length ≤ 9223372036854775807 ∧ ∀ t ∈ c.ts, t.Sm

def classesB : Option Int → List ClassD → Bool
  | _, [] => true
  | prev, c :: r => mixB c.ts && withinB c.min (-4320) 4320 && (prev.all fun m => decide (m < c.min)) && classesB (some c.min) r
def goodB (x : InstD) : Bool := withinB x.day 0 1099511627776 && withinB x.fr (-2251799813685248) 1583296743997439 && withinB x.to (x.fr + 1) (x.fr + 10080)
def extraB : Option InstD → List InstD → Bool
  | _, [] => true
  | prev, x :: r => goodB x && (prev.all fun m => decide (ordI m x < 0)) && extraB (some x) r
def streamB (s : StreamD) : Bool := decide ((s.cs.length : Int) ≤ 64) && withinB s.len 1 10080 && decide ((s.xs.length : Int) ≤ 4096) && classesB none s.cs && extraB none s.xs
theorem classesB_drop {p : Option Int} {l : List ClassD} {j : Nat} (hj : j < l.length) : classesB p (l.drop j) = (mixB l[j].ts && withinB l[j].min (-4320) 4320 && (p.all fun m => decide (m < l[j].min)) && classesB (some l[j].min) (l.drop (j + 1))) := by
  rw [List.drop_eq_getElem_cons hj]; rfl
theorem extraB_drop {p : Option InstD} {l : List InstD} {j : Nat} (hj : j < l.length) : extraB p (l.drop j) = (goodB l[j] && (p.all fun m => decide (ordI m l[j] < 0)) && extraB (some l[j]) (l.drop (j + 1))) := by
  rw [List.drop_eq_getElem_cons hj]; rfl

theorem stream_kf (s : StreamD) (h : s.Sm) : Kf tab.get F_endless_Valid [.a (s.row.map .f)] (vb (streamB s)) := by
  obtain ⟨hc, hx, hts⟩ := h
  refine kf_fn T_endless_Valid rfl fun H Q hQ => ?_
  have bad : streamB s = false → ∀ (t : T) (J : Heap) k, WP tab.get F_endless_Valid none (.code (.region [⟨D 2, .mov (.k (.c (.f (.bool false)))), none⟩] []) :: .code .ret :: k) ⟨t, [], H ++ J⟩ Q := by
    intro hf t J k
    refine kw_region (.inl rfl) ?_
    simp
    refine kw_ret (hQ _ _ ?_)
    simp [hf]
  refine kw_seq (kw_region (.inl rfl) ?_)
  simp [StreamD.row]
  refine kw_seq ?_
  refine kw_seq (kw_region (.inl rfl) ?_)
  simp
  by_cases k1 : (64 : Int) < s.cs.length
  · simp [k1]
    exact kw_cond_t (by simp) (kw_seq (bad (by simp [streamB, show ¬ (s.cs.length : Int) ≤ 64 by omega]) _ _ _))
  simp [k1]
  cases k2 : withinB s.len 1 10080
  · simp
    exact kw_cond_t (by simp) (kw_seq (bad (by simp [streamB, k2]) _ _ _))
  simp
  by_cases k3 : (4096 : Int) < s.xs.length
  · simp [k3]
    exact kw_cond_t (by simp) (kw_seq (bad (by simp [streamB, show ¬ (s.xs.length : Int) ≤ 4096 by omega]) _ _ _))
  simp [k3]
  have hS : streamB s = (classesB none s.cs && extraB none s.xs) := by simp [streamB, k2, show (s.cs.length : Int) ≤ 64 by omega, show (s.xs.length : Int) ≤ 4096 by omega]
  rw [hS] at bad
  refine kw_cond_f (by simp) ?_
  refine kw_skip ?_
  refine kw_seq ?_
  refine kw_seq (kw_region (.inl rfl) ?_)
  simp
  obtain ⟨ROW, hROW⟩ : ∃ x, x = [C.f (sl s.cg (classRows s.cs)), C.f (fi s.len), C.f (sl s.xg (instRows s.xs))] := ⟨_, rfl⟩
  rw [← hROW]
  have hr0 : ROW.drop 0 = [C.f (sl s.cg (classRows s.cs)), C.f (fi s.len), C.f (sl s.xg (instRows s.xs))] := by rw [hROW]; rfl
  have hr2 : ROW.drop 2 = [C.f (sl s.xg (instRows s.xs))] := by rw [hROW]; rfl
  have hr3 : ROW = C.f (sl s.cg (classRows s.cs)) :: [C.f (fi s.len), C.f (sl s.xg (instRows s.xs))] := hROW
  refine kw_for s.cs.length (fun j t H' => t.g 1 = .c (.ptr H.length 0 0) ∧ t.g 25 = .c (.f (sl s.cg (classRows s.cs))) ∧ (∃ J, H' = H ++ (.box ROW 0 :: J)) ∧
    ∃ prev, (∀ m, j = m + 1 → ∀ h : m < s.cs.length, prev = some (s.cs[m]'h).min) ∧ (j = 0 → prev = none) ∧ classesB none s.cs = classesB prev (s.cs.drop j)) hc (by decide) (by decide) (by simp) (by simp)
      ⟨by simp, by simp, ⟨[], by simp⟩, none, by omega, by simp, by simp⟩ ?_ ?_
  · rintro j t _ hj ⟨g1, g25, ⟨J, rfl⟩, prev, l1, l2, hB⟩ ha hb next
    rw [classesB_drop hj] at hB
    have hld := ld_rowa (H := H ++ (.box ROW 0 :: J)) (classRows_grid s.cs) (classRows_at hj)
    have hm := mix_sp s.cs[j].mg s.cs[j].ts (hts _ (List.getElem_mem hj)).1 (hts _ (List.getElem_mem hj)).2
    refine kw_block ?_
    refine kw_seq (kw_region (.inl rfl) ?_)
    simp [ha, g25, idx_sl, hj, hld, ClassD.row]
    refine kw_seq (kw_region (.inl rfl) ?_)
    simp [hm]
    cases k4 : mixB s.cs[j].ts
    · simp
      exact kw_cond_t (by simp) (kw_seq (bad (by simp [hB, k4]) _ _ _))
    simp
    cases k5 : withinB s.cs[j].min (-4320) 4320
    · simp
      exact kw_cond_t (by simp) (kw_seq (bad (by simp [hB, k5]) _ _ _))
    simp
    have go : (prev.all fun m => decide (m < s.cs[j].min)) = true → ∃ prev', (∀ m, j + 1 = m + 1 → ∀ h : m < s.cs.length, prev' = some (s.cs[m]'h).min) ∧ (j + 1 = 0 → prev' = none) ∧ classesB none s.cs = classesB prev' (s.cs.drop (j + 1)) := by
      intro hp
      rw [k4, k5, hp, Bool.true_and, Bool.true_and, Bool.true_and] at hB
      refine ⟨some s.cs[j].min, fun m hm h => ?_, by omega, hB⟩
      have : m = j := by omega
      subst this; rfl
    cases j with
    | zero =>
      simp
      refine kw_cond_f (by simp) ?_
      refine kw_skip (kw_inBlock (next _ _ ?_ (by simp [ha]) (by simp [hb])))
      exact ⟨by simp [g1], by simp [g25], ⟨_, rfl⟩, go (by rw [l2 rfl]; rfl)⟩
    | succ m =>
      have hm : m < s.cs.length := by omega
      have hl1 := l1 m rfl hm
      have e1 : ((m + 1 : Nat) : Int) - 1 = m := by omega
      have hrow := ld_row (H := H ++ (Blk.box ROW 0 :: (J ++ [Blk.box [C.f (sl s.cs[m + 1].mg (termRows s.cs[m + 1].ts)), C.f (fi s.cs[m + 1].min)] 0]))) (k := 1) (classRows_grid s.cs) (classRows_at hm) rfl
      rw [hr3] at hrow
      simp [show 0 < m + 1 by omega, g1, hr3, wrap64 (n := (m : Int)) (by omega) (by omega), idx_sl, hm, hrow]
      by_cases k6 : s.cs[m + 1].min ≤ s.cs[m].min
      · simp [k6]
        have b := bad (by simp [hB, hl1, show ¬ s.cs[m].min < s.cs[m + 1].min by omega])
        refine kw_cond_t (by simp) ?_
        exact kw_seq (b _ _ _)
      · simp [k6]
        refine kw_cond_f (by simp) ?_
        refine kw_skip (kw_inBlock (next _ _ ?_ (by simp [ha]) (by simp [hb])))
        exact ⟨by simp [g1], by simp [g25], ⟨_, by rw [hr3]⟩, go (by rw [hl1]; simp; omega)⟩
  · rintro t _ ⟨g1, g25, ⟨J, rfl⟩, prev, l1, l2, hB⟩ ha hb
    have hC : classesB none s.cs = true := by rw [hB]; simp [classesB]
    rw [hC, Bool.true_and] at bad hS
    refine kw_seq ?_
    refine kw_seq (kw_region (.inl rfl) ?_)
    simp [g1, hr2]
    refine kw_for s.xs.length (fun j t H' => t.g 1 = .c (.ptr H.length 0 0) ∧ t.g 60 = .c (.f (sl s.xg (instRows s.xs))) ∧ (∃ J, H' = H ++ (.box ROW 0 :: J)) ∧
      ∃ prev, (∀ m, j = m + 1 → ∀ h : m < s.xs.length, prev = some (s.xs[m]'h)) ∧ (j = 0 → prev = none) ∧ extraB none s.xs = extraB prev (s.xs.drop j)) hx (by decide) (by decide) (by simp) (by simp)
        ⟨by simp [g1], by simp, ⟨J, by simp⟩, none, by omega, by simp, by simp⟩ ?_ ?_
    · rintro j t _ hj ⟨g1, g60, ⟨J, rfl⟩, prev, l1, l2, hB⟩ ha hb next
      rw [extraB_drop hj] at hB
      have hld := ld_rowa (H := H ++ (.box ROW 0 :: J)) (instRows_grid s.xs) (instRows_at hj)
      refine kw_block ?_
      refine kw_seq (kw_region (.inl rfl) ?_)
      simp [ha, g60, idx_sl, hj, hld, InstD.row]
      have off : goodB s.xs[j] = false → ∀ (t : T) (J : Heap) k, t.g 7 = vb false → WP tab.get F_endless_Valid none (.code C_endless_Valid_42 :: k) ⟨t, [], H ++ J⟩ Q := by
        intro hf t J k g7
        refine kw_seq (kw_region (.inl rfl) ?_)
        simp [g7]
        exact kw_cond_t (by simp) (kw_seq (bad (by simp [hB, hf]) _ _ _))
      have go : goodB s.xs[j] = true → (prev.all fun m => decide (ordI m s.xs[j] < 0)) = true → ∃ prev', (∀ m, j + 1 = m + 1 → ∀ h : m < s.xs.length, prev' = some (s.xs[m]'h)) ∧ (j + 1 = 0 → prev' = none) ∧ extraB none s.xs = extraB prev' (s.xs.drop (j + 1)) := by
        intro hg hp
        rw [hg, hp, Bool.true_and, Bool.true_and] at hB
        refine ⟨some s.xs[j], fun m hm h => ?_, by omega, hB⟩
        have : m = j := by omega
        subst this; rfl
      refine kw_seq (kw_region (.inl rfl) ?_)
      simp
      cases k4 : withinB s.xs[j].day 0 1099511627776
      · simp
        exact off (by simp [goodB, k4]) _ _ _ (by simp)
      simp
      cases k5 : withinB s.xs[j].fr (-2251799813685248) 1583296743997439
      · simp
        exact off (by simp [goodB, k5]) _ _ _ (by simp)
      have w5 := withinB_t k5
      simp [wrap64 (n := s.xs[j].fr + 1) (by omega) (by omega), wrap64 (n := s.xs[j].fr + 10080) (by omega) (by omega)]
      cases k6 : withinB s.xs[j].to (s.xs[j].fr + 1) (s.xs[j].fr + 10080)
      · exact off (by simp [goodB, k6]) _ _ _ (by simp)
      have hg : goodB s.xs[j] = true := by simp [goodB, k4, k5, k6]
      refine kw_seq (kw_region (.inl rfl) ?_)
      simp
      cases j with
      | zero =>
        simp
        refine kw_cond_f (by simp) ?_
        refine kw_skip (kw_inBlock (next _ _ ?_ (by simp [ha]) (by simp [hb])))
        exact ⟨by simp [g1], by simp [g60], ⟨_, rfl⟩, go hg (by rw [l2 rfl]; rfl)⟩
      | succ m =>
        have hm : m < s.xs.length := by omega
        have hl1 := l1 m rfl hm
        have e1 : ((m + 1 : Nat) : Int) - 1 = m := by omega
        have hrow := ld_rowa (H := H ++ (.box ROW 0 :: (J ++ [Blk.box [C.f (fi s.xs[m + 1].day), C.f (fi s.xs[m + 1].fr), C.f (fi s.xs[m + 1].to)] 0]))) (instRows_grid s.xs) (instRows_at hm)
        have hord := order_sp s.xs[m] s.xs[m + 1]
        simp [InstD.row] at hord hrow
        simp [show 0 < m + 1 by omega, g1, hr2, wrap64 (n := (m : Int)) (by omega) (by omega), idx_sl, hm, hrow, hord]
        by_cases k7 : 0 ≤ ordI s.xs[m] s.xs[m + 1]
        · simp [k7]
          have b := bad (by simp [hB, hl1, show ¬ ordI s.xs[m] s.xs[m + 1] < 0 by omega])
          refine kw_cond_t (by simp) ?_
          exact kw_seq (b _ _ _)
        · simp [k7]
          refine kw_cond_f (by simp) ?_
          refine kw_skip (kw_inBlock (next _ _ ?_ (by simp [ha]) (by simp [hb])))
          exact ⟨by simp [g1], by simp [g60], ⟨_, rfl⟩, go hg (by rw [hl1]; simp; omega)⟩
    · rintro t _ ⟨g1, g60, ⟨J, rfl⟩, prev, l1, l2, hB⟩ ha hb
      have hX : extraB none s.xs = true := by rw [hB]; simp [extraB]
      refine kw_seq (kw_region (.inl rfl) ?_)
      simp
      refine kw_ret (hQ _ _ ?_)
      simp [hS, hX]
end Go.Proofs.YtdkmkodemmidjaaGreat
end

section
namespace Go.Proofs.YtdkmkodemmidjaaGreat
open Go Km

theorem stream_sp (s : StreamD) (h : s.Sm) : Km.Pure tab.get F_endless_Valid [.a (s.row.map .f)] = Eq (vb (streamB s)) := (stream_kf s h).eq

/-- A stand. -/
structure StandD where
  meet : Int
  room : Int
  team : Int
  size : Int
  st : StreamD
def StandD.row (s : StandD) : List FC := [fi s.meet, fi s.room, fi s.team, fi s.size, sl s.st.cg (classRows s.st.cs), fi s.st.len, sl s.st.xg (instRows s.st.xs)]
def standRows (l : List StandD) : List (List FC) := l.map StandD.row
@[simp] theorem standRows_len (l : List StandD) : (standRows l).length = l.length := by simp [standRows]
theorem standRows_grid (l : List StandD) : Grid 7 (standRows l) := Grid.map fun _ => rfl
theorem standRows_at {l : List StandD} {j : Nat} (hj : j < l.length) : (standRows l)[j]? = some l[j].row := by simp [standRows, hj]
def cmpS (x y : StandD) : Int := orI [cmpI x.meet y.meet, cmpI x.room y.room]
def standB (n : Nat) (s : StandD) : Bool := decide (1 ≤ s.meet) && withinB s.room 0 ((n : Int) - 1) && withinB s.team 0 63 && withinB s.size 1 512 && streamB s.st
def standsB (n : Nat) : Option StandD → List StandD → Bool
  | _, [] => true
  | prev, s :: r => standB n s && (prev.all fun m => decide (cmpS m s < 0)) && standsB n (some s) r
theorem standsB_drop {n : Nat} {p : Option StandD} {l : List StandD} {j : Nat} (hj : j < l.length) : standsB n p (l.drop j) = (standB n l[j] && (p.all fun m => decide (cmpS m l[j] < 0)) && standsB n (some l[j]) (l.drop (j + 1))) := by
  rw [List.drop_eq_getElem_cons hj]; rfl
def listB (rs : List RoomD) (l : List StandD) : Bool := decide (validI rs = 0) && decide ((l.length : Int) ≤ 4096) && standsB rs.length none l

theorem cmpS_kf (x y : StandD) : Kf tab.get F_room_compare [.a (x.row.map .f), .a (y.row.map .f)] (vi (cmpS x y)) := by
  refine kf_fn T_room_compare rfl fun H Q hQ => ?_
  have ho := or_sp .fs [cmpI x.meet y.meet, cmpI x.room y.room] (by simp)
  simp [ints, sl, Tg.fc] at ho
  refine kw_seq (kw_region (.inl rfl) ?_)
  simp [StandD.row]
  refine kw_seq (kw_region (.inl rfl) ?_)
  simp [compare_sp, deep, ex_sl, mk_sl, ho]
  refine kw_ret (hQ _ _ ?_)
  simp [cmpS]
theorem cmpS_sp (x y : StandD) : Km.Pure tab.get F_room_compare [.a (x.row.map .f), .a (y.row.map .f)] = Eq (vi (cmpS x y)) := (cmpS_kf x y).eq

theorem stand_kf (g : Tg) (rs : List RoomD) (s : StandD) (hr : rs.length ≤ 6) (h : s.st.Sm) : Kf tab.get F_room_standOK [.c (.f (sl g (rows rs))), .a (s.row.map .f)] (vb (standB rs.length s)) := by
  refine kf_fn T_room_standOK rfl fun H Q hQ => ?_
  have hv := stream_sp s.st h
  simp [StreamD.row] at hv
  refine kw_seq (kw_region (.inl rfl) ?_)
  simp [StandD.row]
  refine kw_seq (kw_region (.inl rfl) ?_)
  simp
  by_cases k1 : 1 ≤ s.meet
  case neg =>
    simp [k1]
    refine kw_ret (hQ _ _ ?_)
    simp [standB, k1]
  simp [k1, wrap64 (n := (rs.length : Int) - 1) (by omega) (by omega)]
  cases k2 : withinB s.room 0 ((rs.length : Int) - 1)
  · simp
    refine kw_ret (hQ _ _ ?_)
    simp [standB, k2]
  simp
  cases k3 : withinB s.team 0 63
  · simp
    refine kw_ret (hQ _ _ ?_)
    simp [standB, k3]
  simp
  cases k4 : withinB s.size 1 512
  · simp
    refine kw_ret (hQ _ _ ?_)
    simp [standB, k4]
  simp [hv]
  refine kw_ret (hQ _ _ ?_)
  simp [standB, k1, k2, k3, k4]
theorem stand_sp (g : Tg) (rs : List RoomD) (s : StandD) (hr : rs.length ≤ 6) (h : s.st.Sm) : Km.Pure tab.get F_room_standOK [.c (.f (sl g (rows rs))), .a (s.row.map .f)] = Eq (vb (standB rs.length s)) := (stand_kf g rs s hr h).eq

theorem list_kf (g g' : Tg) (rs : List RoomD) (l : List StandD) (hr : rs.length ≤ 6) (ho : ∀ r ∈ rs, OpenOK r) (hl : l.length ≤ 9223372036854775807) (h : ∀ s ∈ l, s.st.Sm) :
    Kf tab.get F_room_listOK [.c (.f (sl g (rows rs))), .c (.f (sl g' (standRows l)))] (vb (listB rs l)) := by
  refine kf_fn T_room_listOK rfl fun H Q hQ => ?_
  have bad : listB rs l = false → ∀ (t : T) (J : Heap) k, WP tab.get F_room_listOK none (.code (.region [⟨D 4, .mov (.k (.c (.f (.bool false)))), none⟩] []) :: .code .ret :: k) ⟨t, [], H ++ J⟩ Q := by
    intro hf t J k
    refine kw_region (.inl rfl) ?_
    simp
    refine kw_ret (hQ _ _ ?_)
    simp [hf]
  refine kw_seq (kw_region (.inl rfl) ?_)
  simp
  refine kw_seq ?_
  refine kw_seq (kw_region (.inl rfl) ?_)
  simp [valid_sp g rs hr ho]
  by_cases k1 : validI rs = 0
  case neg =>
    simp [k1]
    have b := fun t k => bad (by simp [listB, k1]) t [] k
    simp only [List.append_nil] at b
    refine kw_cond_t (by simp) ?_
    exact kw_seq (b _ _)
  simp [k1]
  by_cases k2 : (4096 : Int) < l.length
  · simp [k2]
    have b := fun t k => bad (by simp [listB, show ¬ (l.length : Int) ≤ 4096 by omega]) t [] k
    simp only [List.append_nil] at b
    refine kw_cond_t (by simp) ?_
    exact kw_seq (b _ _)
  simp [k2]
  have hS : listB rs l = standsB rs.length none l := by simp [listB, k1, show (l.length : Int) ≤ 4096 by omega]
  rw [hS] at bad
  refine kw_cond_f (by simp) ?_
  refine kw_skip ?_
  refine kw_seq ?_
  refine kw_seq (kw_region (.inl rfl) ?_)
  simp
  refine kw_for l.length (fun j t H' => t.g 0 = .c (.f (sl g (rows rs))) ∧ t.g 1 = .c (.f (sl g' (standRows l))) ∧ t.g 15 = .c (.f (sl g' (standRows l))) ∧ (∃ J, H' = H ++ J) ∧
    ∃ prev, (∀ m, j = m + 1 → ∀ h : m < l.length, prev = some (l[m]'h)) ∧ (j = 0 → prev = none) ∧ standsB rs.length none l = standsB rs.length prev (l.drop j)) hl (by decide) (by decide) (by simp) (by simp)
      ⟨by simp, by simp, by simp, ⟨[], by simp⟩, none, by omega, by simp, by simp⟩ ?_ ?_
  · rintro j t _ hj ⟨g0, g1, g15, ⟨J, rfl⟩, prev, l1, l2, hB⟩ ha hb next
    rw [standsB_drop hj] at hB
    have hld := ld_rowa (H := H ++ J) (standRows_grid l) (standRows_at hj)
    have hst := stand_sp g rs l[j] hr (h _ (List.getElem_mem hj))
    simp [StandD.row] at hst
    refine kw_block ?_
    refine kw_seq (kw_region (.inl rfl) ?_)
    simp [ha, g15, idx_sl, hj, hld, StandD.row]
    refine kw_seq (kw_region (.inl rfl) ?_)
    simp [g0, hst]
    cases k4 : standB rs.length l[j]
    · simp
      exact kw_cond_t (by simp) (kw_seq (bad (by simp [hB, k4]) _ _ _))
    simp
    have go : (prev.all fun m => decide (cmpS m l[j] < 0)) = true → ∃ prev', (∀ m, j + 1 = m + 1 → ∀ h : m < l.length, prev' = some (l[m]'h)) ∧ (j + 1 = 0 → prev' = none) ∧ standsB rs.length none l = standsB rs.length prev' (l.drop (j + 1)) := by
      intro hp
      rw [k4, hp, Bool.true_and, Bool.true_and] at hB
      refine ⟨some l[j], fun m hm h => ?_, by omega, hB⟩
      have : m = j := by omega
      subst this; rfl
    cases j with
    | zero =>
      simp
      refine kw_cond_f (by simp) ?_
      refine kw_skip (kw_inBlock (next _ _ ?_ (by simp [ha]) (by simp [hb])))
      exact ⟨by simp [g0], by simp [g1], by simp [g15], ⟨_, rfl⟩, go (by rw [l2 rfl]; rfl)⟩
    | succ m =>
      have hm : m < l.length := by omega
      have hl1 := l1 m rfl hm
      have e1 : ((m + 1 : Nat) : Int) - 1 = m := by omega
      have hrow := fun H : Heap => ld_rowa (H := H) (standRows_grid l) (standRows_at hm)
      have hord := cmpS_sp l[m] l[m + 1]
      simp [StandD.row] at hord hrow
      simp [show 0 < m + 1 by omega, g1, wrap64 (n := (m : Int)) (by omega) (by omega), idx_sl, hm, hrow, hord]
      by_cases k7 : 0 ≤ cmpS l[m] l[m + 1]
      · simp [k7]
        have b := bad (by simp [hB, hl1, show ¬ cmpS l[m] l[m + 1] < 0 by omega])
        refine kw_cond_t (by simp) ?_
        exact kw_seq (b _ _ _)
      · simp [k7]
        refine kw_cond_f (by simp) ?_
        refine kw_skip (kw_inBlock (next _ _ ?_ (by simp [ha]) (by simp [hb])))
        exact ⟨by simp [g0], by simp [g1], by simp [g15], ⟨_, rfl⟩, go (by rw [hl1]; simp; omega)⟩
  · rintro t _ ⟨g0, g1, g15, ⟨J, rfl⟩, prev, l1, l2, hB⟩ ha hb
    have hX : standsB rs.length none l = true := by rw [hB]; simp [standsB]
    refine kw_seq (kw_region (.inl rfl) ?_)
    simp
    refine kw_ret (hQ _ _ ?_)
    simp [hS, hX]
end Go.Proofs.YtdkmkodemmidjaaGreat
end

section
namespace Go.Proofs.YtdkmkodemmidjaaGreat
open Go Km

theorem list_sp (g g' : Tg) (rs : List RoomD) (l : List StandD) (hr : rs.length ≤ 6) (ho : ∀ r ∈ rs, OpenOK r) (hl : l.length ≤ 9223372036854775807) (h : ∀ s ∈ l, s.st.Sm) :
    Km.Pure tab.get F_room_listOK [.c (.f (sl g (rows rs))), .c (.f (sl g' (standRows l)))] = Eq (vb (listB rs l)) := (list_kf g g' rs l hr ho hl h).eq

/-- A stand is sought in a list of one that is equal to it. -/
theorem search1 (g : Tg) (s x : StandD) (h : cmpS s x = 0) :
    Km.Pure tab.get F_slices_BinarySearchFunc_api_Stand [.c (.f (sl g (standRows [s]))), .a (x.row.map .f), .c (.f (.fn F_room_compare []))] (.t [vi 0, vb true]) := by
  refine pure_fn T_slices_BinarySearchFunc_api_Stand rfl fun Q hQ => ?_
  have hk := fun H => (cmpS_kf s x).ev H
  have hrow := fun H : Heap => ld_rowa (H := H) (standRows_grid [s]) (standRows_at (l := [s]) (j := 0) (by simp))
  have hidx := fun H : Heap => idx_sl (H := H) (g := g) (rows := standRows [s]) (sz := 7) (k := .i64) (i := 0) (by omega) (by simp)
  simp [StandD.row, h] at hk hrow hidx
  refine kw_seq (kw_region (.inl rfl) ?_)
  simp [StandD.row]
  refine kw_seq (kw_region (.inl rfl) ?_)
  simp
  refine kw_seq (kw_region (.inl rfl) ?_)
  simp
  refine kw_seq ?_
  refine kw_block ?_
  refine kw_loop (fun n st => ∃ t J, st = ⟨t, [], .box [.f (fi x.meet), .f (fi x.room), .f (fi x.team), .f (fi x.size), .f (sl x.st.cg (classRows x.st.cs)), .f (fi x.st.len), .f (sl x.st.xg (instRows x.st.xs))] 0 :: J⟩ ∧ n ≤ 1 ∧
    t.g 0 = .c (.f (sl g (standRows [s]))) ∧ t.g 2 = .c (.f (.fn F_room_compare [])) ∧ t.g 4 = .c (.ptr 0 0 0) ∧ t.g 8 = vi 1 ∧ t.g 9 = vi 0 ∧ t.g 10 = vi n) 1 ⟨_, [], rfl, by simp⟩ ?_
  rintro n _ ⟨t, J, rfl, hn, g0, g2, g4, g8, g9, g10⟩ next
  refine kw_seq ?_
  refine kw_seq (kw_region (.inl rfl) ?_)
  simp [g9, g10]
  match n, hn with
  | 0, _ =>
    simp
    refine kw_cond_f (by simp) (kw_exit rfl ?_)
    refine kw_seq (kw_region (.inl rfl) ?_)
    simp [g0, g2, g4, g8, g9, hidx, hrow, hk]
    refine kw_ret (hQ _ _ ?_)
    simp
  | 1, _ =>
    simp
    refine kw_cond_t (by simp) (kw_skip ?_)
    refine kw_block ?_
    refine kw_seq (kw_region (.inl rfl) ?_)
    have e1 : binV BinOp.shr (V.c (C.f (FC.int IntKind.u64 (IntKind.u64.wrap (IntKind.i64.wrap 1))))) (V.c (C.f (FC.int IntKind.u64 1))) = some (.c (.f (.int .u64 0))) := by rfl
    have e2 : IntKind.i64.wrap 0 = 0 := by rfl
    simp [g9, g10, e1, e2]
    refine kw_seq (kw_region (.inl rfl) ?_)
    simp [g0, g2, g4, hidx, hrow, hk]
    refine kw_cond_f (by simp) ?_
    refine kw_region (.inl rfl) ?_
    simp
    exact kw_inBlock (next 0 _ (by omega) ⟨_, _, rfl, by omega, by simp [g0], by simp [g2], by simp [g4], by simp [g8], by simp [g9], by simp⟩)

theorem candidate_no (g : Tg) (rs : List RoomD) (s x : StandD) (hr : rs.length ≤ 6) (ho : ∀ r ∈ rs, OpenOK r) (hs : s.st.Sm) (hx : x.st.Sm) (h : listB rs [s] = true → standB rs.length x = true → cmpS s x = 0) :
    ∃ p, Km.Pure tab.get F_room_candidateOK [.c (.f (sl g (rows rs))), .c (.f (sl .fs (standRows [s]))), .a (x.row.map .f)] (.t [.c (.f p), vb false]) := by
  have key : ∃ r, (∃ p, r = .t [.c (.f p), vb false]) ∧ Km.Pure tab.get F_room_candidateOK [.c (.f (sl g (rows rs))), .c (.f (sl .fs (standRows [s]))), .a (x.row.map .f)] r := by
    refine pure_ex T_room_candidateOK rfl fun Q hQ => ?_
    have hl := list_sp g .fs rs [s] hr ho (by simp) (by simpa using hs)
    have hst := stand_sp g rs x hr hx
    simp [StandD.row] at hst
    have bad : ∀ (t : T) (H : Heap) k, WP tab.get F_room_candidateOK none (.code (.region [⟨D 6, .mov (.k (.c (.f .nilp))), none⟩, ⟨D 7, .mov (.k (.c (.f (.bool false)))), none⟩] []) :: .code .ret :: k) ⟨t, [], H⟩ Q := by
      intro t H k
      refine kw_region (.inl rfl) ?_
      simp
      refine kw_ret (hQ _ _ (.t [.c (.f .nilp), vb false]) ⟨_, rfl⟩ ?_)
      simp
    refine kw_seq (kw_region (.inl rfl) ?_)
    simp [StandD.row]
    refine kw_seq ?_
    refine kw_seq (kw_region (.inl rfl) ?_)
    simp [hl]
    cases k1 : listB rs [s]
    · simp
      exact kw_cond_t (by simp) (kw_seq (bad _ _ _))
    simp [hst]
    cases k2 : standB rs.length x
    · simp
      exact kw_cond_t (by simp) (kw_seq (bad _ _ _))
    have hb := (search1 .fs s x (h k1 k2)).eq
    simp [StandD.row] at hb
    refine kw_cond_f (by simp) (kw_skip ?_)
    refine kw_seq (kw_region (.inl rfl) ?_)
    simp [hb]
    refine kw_seq (kw_region (.inl rfl) ?_)
    simp
    refine kw_ret (hQ _ _ (.t [.c (.f (.fp [sl g (rows rs), sl .fs (standRows [s]), fi x.meet, fi x.room, fi x.team, fi x.size, sl x.st.cg (classRows x.st.cs), fi x.st.len, sl x.st.xg (instRows x.st.xs)] 0)), vb false]) ⟨_, rfl⟩ ?_)
    simp [deep]
  obtain ⟨r, ⟨p, rfl⟩, h⟩ := key
  exact ⟨p, h⟩
end Go.Proofs.YtdkmkodemmidjaaGreat
end

section
namespace Go.Proofs.YtdkmkodemmidjaaGreat
open Go Km

theorem sharing_sp (a b : FC) (r : Int) : Km.Pure tab.get F_room_sharing [.c (.f a), .c (.f b), vi r] = Eq (.c (.f (.fn F_room_sharing_f1 [.fp [b] 0, .fp [a] 0, .fp [fi r] 0]))) := by
  refine Km.Pure.eq (pure_fn T_room_sharing rfl fun Q hQ => ?_)
  refine kw_seq (kw_region (.inl rfl) ?_)
  simp
  refine kw_seq (kw_region (.inl rfl) ?_)
  simp
  refine kw_ret (hQ _ _ ?_)
  simp [deep]

/-- The round is asked about the one stand, and then it is over. -/
theorem sharing1 {b : Nat} {H : Heap} {PP : Heap → Prop} (g g' : Tg) (rs : List RoomD) (x : StandD) (k : Nat) (hx : x.room = k) (hk : k < rs.length) (hp : rs[k].p.length ≤ 64)
    (hy : ∀ J, ∃ H', Ev tab.get (.yield b) [.a (x.row.map .f)] (H ++ J) (vb false) H' ∧ PP H') :
    ∃ r H', Ev tab.get (.fn F_room_sharing_f1) [.c (.yl b), .c (.f (.fp [sl g' (standRows [x])] 0)), .c (.f (.fp [sl g (rows rs)] 0)), .c (.f (.fp [fi k] 0))] H r H' ∧ PP H' := by
  refine ev_ex T_room_sharing_f1 rfl fun Q hQ => ?_
  have hs := shares_sp g rs k k hk hk hp hp
  have hrow := fun H : Heap => ld_rowa (H := H) (standRows_grid [x]) (standRows_at (l := [x]) (j := 0) (by simp))
  have hidx := fun H : Heap => idx_sl (H := H) (g := g') (rows := standRows [x]) (sz := 7) (k := .i64) (i := 0) (by omega) (by simp)
  simp [StandD.row, hx] at hrow hidx
  refine kw_seq (kw_region (.inl rfl) ?_)
  simp [ld_fp]
  refine kw_for 1 (fun j t H' => H = H' ∧ t.g 0 = .c (.yl b) ∧ t.g 1 = .c (.f (.fp [sl g' (standRows [x])] 0)) ∧ t.g 2 = .c (.f (.fp [sl g (rows rs)] 0)) ∧ t.g 3 = .c (.f (.fp [fi k] 0)) ∧ t.g 7 = .c (.f (sl g' (standRows [x]))) ∧ j = 0) (by omega) (by decide) (by decide) (by simp) (by simp) (by simp) ?_ ?_
  · rintro j t _ hj ⟨rfl, g0, g1, g2, g3, g7, rfl⟩ ha hb next
    refine kw_block ?_
    refine kw_seq (kw_region (.inl rfl) ?_)
    simp at ha
    simp [g7, ha, hidx, hrow]
    refine kw_seq (kw_region (.inl rfl) ?_)
    obtain ⟨H1, e1, e2⟩ := hy [.box [.f (fi x.meet), .f (fi k), .f (fi x.team), .f (fi x.size), .f (sl x.st.cg (classRows x.st.cs)), .f (fi x.st.len), .f (sl x.st.xg (instRows x.st.xs))] 0]
    have e1 := e1.eq
    simp [StandD.row, hx] at e1
    simp [g2, g3, ld_fp, hs, sharesB, g0, e1]
    refine kw_cond_t (by simp) ?_
    refine kw_ret (hQ _ _ _ (by simp) rfl e2)
  · rintro t _ ⟨rfl, g0, g1, g2, g3, g7, h⟩ ha hb
    omega
end Go.Proofs.YtdkmkodemmidjaaGreat
end

section
namespace Go.Proofs.YtdkmkodemmidjaaGreat
open Go Km

theorem eq_fs_nil {H : Heap} {cs : List FC} {n : Nat} : eqV H .sl (.c (.f (.fs cs n))) (.c (.f .nils)) = some false := rfl
theorem eq_nil_nil {H : Heap} : eqV H .sl (.c (.f .nils)) (.c (.f .nils)) = some true := rfl
theorem clone_class {row : List FC} (hr : row.length = 2) (H : Heap) : Ev tab.get (.fn F_slices_Clone_api_Class) [.c (.f (.fs row 1))] H = E2 (.c (.sl H.length 0 1 0 0 2)) (H ++ [.opn 2 (row.map .f) 0 0 .loc]) := by
  obtain ⟨r, H', h, e1, e2⟩ : ∃ r H', Ev tab.get (.fn F_slices_Clone_api_Class) [.c (.f (.fs row 1))] H r H' ∧ r = .c (.sl H.length 0 1 0 0 2) ∧ H' = H ++ [.opn 2 (row.map .f) 0 0 .loc] := by
    refine ev_ex (args := [.c (.f (.fs row 1))]) (H := H) (C := fun r H' => r = .c (.sl H.length 0 1 0 0 2) ∧ H' = H ++ [.opn 2 (row.map .f) 0 0 .loc]) T_slices_Clone_api_Class rfl fun Q hQ => ?_
    have ha : addedV H 2 (.c (.f (.fs row 1))) = some (1, row.map .f) := by simp [addedV, slLen, slCells, hr]
    have hroom : roomOK 1 32 = true := by decide
    refine kw_seq (kw_region (.inl rfl) ?_)
    simp
    refine kw_seq ?_
    refine kw_seq (kw_region (.inl rfl) ?_)
    simp [eq_fs_nil]
    refine kw_cond_f (by simp) (kw_skip ?_)
    refine kw_seq (kw_region (.inl rfl) ?_)
    simp [appendV, ha, hroom]
    refine kw_ret (hQ _ _ _ (by simp) (by simp; rfl) ⟨rfl, rfl⟩)
  subst e1 e2
  exact h.eq

theorem clone_inst (H : Heap) : Ev tab.get (.fn F_slices_Clone_api_Instance) [.c (.f .nils)] H = E2 (.c (.f .nils)) H := by
  obtain ⟨r, H', h, e1, e2⟩ : ∃ r H', Ev tab.get (.fn F_slices_Clone_api_Instance) [.c (.f .nils)] H r H' ∧ r = .c (.f .nils) ∧ H' = H := by
    refine ev_ex (args := [.c (.f .nils)]) (H := H) (C := fun r H' => r = .c (.f .nils) ∧ H' = H) T_slices_Clone_api_Instance rfl fun Q hQ => ?_
    refine kw_seq (kw_region (.inl rfl) ?_)
    simp
    refine kw_seq ?_
    refine kw_seq (kw_region (.inl rfl) ?_)
    simp [eq_nil_nil]
    refine kw_cond_t (by simp) ?_
    refine kw_seq (kw_region (.inl rfl) ?_)
    simp
    refine kw_ret (hQ _ _ _ (by simp) (by simp; rfl) ⟨rfl, rfl⟩)
  subst e1 e2
  exact h.eq
theorem beq_int {k : IntKind} {n : Int} : (V.c (C.f (.int k n))).beq (V.c (C.f (.int k n))) = true := by simp [V.beq, C.beq, FC.beq]
theorem beq_nils : (V.c (C.f .nils)).beq (V.c (C.f .nils)) = true := rfl

def allT : List TermD := [⟨.fs, [⟨.nil, [], 0, 1, .fs, [0]⟩]⟩]
/-- All days, at midnight, of a length. -/
def longS : StreamD := ⟨.fs, [⟨.fs, allT, 0⟩], 10000, .nil, []⟩

theorem occupied_no (g : Tg) (rs : List RoomD) (x : StandD) (k : Nat) (hk : k < rs.length) (hx : x.room = k) (hst : x.st = longS) (hb : rs[k].bef = 100) (ha : 0 ≤ rs[k].aft) (ha' : rs[k].aft ≤ 20) :
    ∃ s : List FC, s.length = 3 ∧ Km.Pure tab.get F_room_occupied [.c (.f (sl g (rows rs))), .a (x.row.map .f)] (.t [.a (s.map .f), vb false]) := by
  have key : ∃ r, (∃ s : List FC, s.length = 3 ∧ r = .t [.a (s.map .f), vb false]) ∧ Km.Pure tab.get F_room_occupied [.c (.f (sl g (rows rs))), .a (x.row.map .f)] r := by
    refine pure_ex T_room_occupied rfl fun Q hQ => ?_
    have hld := fun H : Heap => ld_rowa (H := H) (rows_grid rs) (rows_at hk)
    have hidx := fun H : Heap => idx_sl (H := H) (g := g) (rows := rows rs) (sz := 15) (k := .i64) (i := (k : Int)) (by omega) (by simpa using hk)
    have hcl := fun H => clone_class (row := [.fs [.fs [.nils, fi 0, fi 1, .fs [fi 0] 1] 1] 1, fi 0]) rfl H
    have w1 : IntKind.i64.wrap 10100 = 10100 := rfl
    have w2 : IntKind.i64.wrap (-100) = -100 := rfl
    simp at hidx
    simp only [RoomD.row, hb] at hld
    have hrow : x.row = [fi x.meet, fi (k : Int), fi x.team, fi x.size, .fs [.fs [.fs [.nils, fi 0, fi 1, .fs [fi 0] 1] 1] 1, fi 0] 1, fi 10000, .nils] := by
      simp only [StandD.row, hst, hx]; rfl
    rw [hrow]
    generalize rs[k] = R at *
    refine kw_seq (kw_region (.inl rfl) ?_)
    simp
    refine kw_seq (kw_region (.inl rfl) ?_)
    simp [hidx, hld]
    have hno : Km.Pure tab.get F_endless_Valid [.a [.f (.fs [.fs [.fs [.nils, fi 0, fi 1, .fs [fi 0] 1] 1] 1, fi (-100)] 1), .f (fi (10100 + R.aft)), .f .nils]] = Eq (vb false) := by
      have := stream_sp ⟨.fs, [⟨.fs, allT, -100⟩], 10100 + R.aft, .nil, []⟩ (by simp [StreamD.Sm, TermD.Sm, PerD.Sm, allT])
      have e : streamB ⟨.fs, [⟨.fs, allT, -100⟩], 10100 + R.aft, .nil, []⟩ = false := by
        simp [streamB, withinB_f (n := 10100 + R.aft) (lo := 1) (hi := 10080) (by omega)]
      rw [e] at this
      exact this
    have fin : ∀ t : T, t.g 3 = .c (.ptr 0 0 0) → t.g 4 = .c (.ptr 1 0 0) → t.g 6 = .c (.ptr 2 0 0) → t.g 7 = .c (.ptr 4 0 0) → WP tab.get F_room_occupied none [.code C_room_occupied_6]
        ⟨t, [], [.box [.f (fi x.meet), .f (fi k), .f (fi x.team), .f (fi x.size), .f (.fs [.fs [.fs [.nils, fi 0, fi 1, .fs [fi 0] 1] 1] 1, fi 0] 1), .f (fi 10000), .f .nils] 0,
          .box [.f .nils, .f (fi 0), .f .nils] 0,
          .box [.f (fi R.cap), .f (fi 100), .f (fi R.aft), .f R.o0, .f R.o1, .f R.o2, .f R.o3, .f R.o4, .f R.o5, .f R.o6, .f R.o7, .f R.o8, .f R.o9, .f (sl R.qg (pairs R.q)), .f (sl R.pg (ints R.p))] 0,
          .opn 2 [.f (.fs [.fs [.nils, fi 0, fi 1, .fs [fi 0] 1] 1] 1), .f (fi 0)] 0 0 .loc,
          .box [.sl 3 0 1 0 0 2, .f (fi (10100 + R.aft)), .f .nils] 0]⟩ Q := by
      intro t g3 g4 g6 g7
      refine kw_seq ?_
      refine kw_seq (kw_region (.inl rfl) ?_)
      simp [g7, slLen]
      refine kw_for 1 (fun j t H' => t.g 3 = .c (.ptr 0 0 0) ∧ t.g 4 = .c (.ptr 1 0 0) ∧ t.g 6 = .c (.ptr 2 0 0) ∧ t.g 7 = .c (.ptr 4 0 0) ∧ H' = [.box [.f (fi x.meet), .f (fi k), .f (fi x.team), .f (fi x.size), .f (.fs [.fs [.fs [.nils, fi 0, fi 1, .fs [fi 0] 1] 1] 1, fi 0] 1), .f (fi 10000), .f .nils] 0,
          .box [.f .nils, .f (fi 0), .f .nils] 0,
          .box [.f (fi R.cap), .f (fi 100), .f (fi R.aft), .f R.o0, .f R.o1, .f R.o2, .f R.o3, .f R.o4, .f R.o5, .f R.o6, .f R.o7, .f R.o8, .f R.o9, .f (sl R.qg (pairs R.q)), .f (sl R.pg (ints R.p))] 0,
          .opn 2 [.f (.fs [.fs [.nils, fi 0, fi 1, .fs [fi 0] 1] 1] 1), .f (fi (if j = 0 then 0 else -100))] 0 0 .loc,
          .box [.sl 3 0 1 0 0 2, .f (fi (10100 + R.aft)), .f .nils] 0]) (by omega) (by decide) (by decide) (by simp) (by simp) (by simp [g3, g4, g6, g7]) ?_ ?_
      · rintro j t _ hj ⟨g3, g4, g6, g7, rfl⟩ ha hb next
        obtain rfl : j = 0 := by omega
        simp at ha hb
        refine kw_block ?_
        refine kw_seq (kw_region (.inl rfl) ?_)
        simp [ha]
        refine kw_region (.inl rfl) ?_
        simp [g6, g7, indexAV, intV, w2]
        refine kw_inBlock (next _ _ ?_ (by simp [ha]) (by simp [hb]))
        simp [g3, g4, g6, g7]
      · rintro t _ ⟨g3, g4, g6, g7, rfl⟩ ha hb
        refine kw_seq ?_
        refine kw_seq (kw_region (.inl rfl) ?_)
        simp [g7, slLen]
        refine kw_for 0 (fun j t H' => t.g 4 = .c (.ptr 1 0 0) ∧ t.g 7 = .c (.ptr 4 0 0) ∧ H' = [.box [.f (fi x.meet), .f (fi k), .f (fi x.team), .f (fi x.size), .f (.fs [.fs [.fs [.nils, fi 0, fi 1, .fs [fi 0] 1] 1] 1, fi 0] 1), .f (fi 10000), .f .nils] 0,
          .box [.f .nils, .f (fi 0), .f .nils] 0,
          .box [.f (fi R.cap), .f (fi 100), .f (fi R.aft), .f R.o0, .f R.o1, .f R.o2, .f R.o3, .f R.o4, .f R.o5, .f R.o6, .f R.o7, .f R.o8, .f R.o9, .f (sl R.qg (pairs R.q)), .f (sl R.pg (ints R.p))] 0,
          .opn 2 [.f (.fs [.fs [.nils, fi 0, fi 1, .fs [fi 0] 1] 1] 1), .f (fi (-100))] 0 0 .loc,
          .box [.sl 3 0 1 0 0 2, .f (fi (10100 + R.aft)), .f .nils] 0]) (by omega) (by decide) (by decide) (by simp) (by simp) (by simp [g4, g7]) ?_ ?_
        · rintro j t _ hj
          omega
        · rintro t _ ⟨g4, g7, rfl⟩ ha hb
          refine kw_seq (kw_region (.inl rfl) ?_)
          simp [g4, g7, deep, ex_sl, mk_sl, hno]
          refine kw_ret (hQ _ _ _ ⟨[.fs [.fs [.fs [.nils, fi 0, fi 1, .fs [fi 0] 1] 1] 1, fi (-100)] 1, fi (10100 + R.aft), .nils], rfl, rfl⟩ ?_)
          simp [g4, deep, ex_sl]
    refine kw_seq (kw_regionk (.inl rfl) ?_ ?_)
    · simp [hcl, clone_inst, w1, wrap64 (n := 10100 + R.aft) (by omega) (by omega)]
      exact fin _ (by simp) (by simp) (by simp) (by simp)
    · intro c hc
      simp only [List.mem_cons, List.not_mem_nil, or_false] at hc
      rcases hc with rfl | rfl | rfl | rfl | rfl | rfl | rfl
      iterate 6
        · refine ⟨by decide, _, rfl, .inl ⟨by decide, ?_⟩⟩
          simp [hcl, clone_inst, SameV, beq_int]
      · refine ⟨by decide, _, rfl, .inr ⟨by decide, ?_⟩⟩
        simp [hcl, clone_inst, SameV, beq_nils]
  obtain ⟨r, ⟨p, hp, rfl⟩, h⟩ := key
  exact ⟨p, hp, h⟩
end Go.Proofs.YtdkmkodemmidjaaGreat
end

section
namespace Go.Proofs.YtdkmkodemmidjaaGreat
open Go Km

def RefZ : V := .a [.f (fi 0), .f (fi 0), .f (fi 0), .f (fi 0), .f (fi 0), .f (fi 0), .f (fi 0), .f (fi 0)]

theorem admit_no (g : Tg) (rs : List RoomD) (s x : StandD) (hr : rs.length ≤ 6) (ho : ∀ r ∈ rs, OpenOK r) (hs : s.st.Sm) (hx : x.st.Sm) (h : listB rs [s] = true → standB rs.length x = true → cmpS s x = 0) :
    Km.Pure tab.get F_room_Admit [.c (.f (sl g (rows rs))), .c (.f (sl .fs (standRows [s]))), .a (x.row.map .f)] = Eq (.t [RefZ, vi 1]) := by
  obtain ⟨p, hp⟩ := candidate_no g rs s x hr ho hs hx h
  have hp := Km.Pure.eq hp
  simp [StandD.row] at hp
  refine Km.Pure.eq (pure_fn T_room_Admit rfl fun Q hQ => ?_)
  refine kw_seq (kw_region (.inl rfl) ?_)
  simp [StandD.row]
  refine kw_seq (kw_region (.inl rfl) ?_)
  simp [hp]
  refine kw_seq ?_
  refine kw_seq (kw_region (.inl rfl) ?_)
  simp
  refine kw_cond_t (by simp) ?_
  refine kw_seq (kw_region (.inl rfl) ?_)
  simp
  refine kw_ret (hQ _ _ ?_)
  simp [RefZ]

theorem check_no (g : Tg) (rs : List RoomD) (s x : StandD) (e : Int) (hr : rs.length ≤ 6) (ho : ∀ r ∈ rs, OpenOK r) (hs : s.st.Sm) (hx : x.st.Sm) (h : listB rs [s] = true → standB rs.length x = true → cmpS s x = 0) :
    Km.Pure tab.get F_room_Check [.c (.f (sl g (rows rs))), .c (.f (sl .fs (standRows [s]))), .a (x.row.map .f), .a [.f (fi e), .f (fi 0), .f (fi 0), .f (fi 0), .f (fi 0), .f (fi 0), .f (fi 0), .f (fi 0)]] = Eq (vi 1) := by
  obtain ⟨p, hp⟩ := candidate_no g rs s x hr ho hs hx h
  have hp := Km.Pure.eq hp
  simp [StandD.row] at hp
  refine Km.Pure.eq (pure_fn T_room_Check rfl fun Q hQ => ?_)
  refine kw_seq (kw_region (.inl rfl) ?_)
  simp [StandD.row]
  refine kw_seq (kw_region (.inl rfl) ?_)
  simp [hp]
  refine kw_seq ?_
  refine kw_seq (kw_region (.inl rfl) ?_)
  simp
  refine kw_cond_t (by simp) ?_
  refine kw_seq (kw_region (.inl rfl) ?_)
  simp
  refine kw_ret (hQ _ _ ?_)
  simp

theorem sound_no (g g' : Tg) (rs : List RoomD) (l : List StandD) (hr : rs.length ≤ 6) (ho : ∀ r ∈ rs, OpenOK r) (hl : l.length ≤ 9223372036854775807) (hs : ∀ s ∈ l, s.st.Sm) (h : listB rs l = false) :
    Km.Pure tab.get F_room_Sound [.c (.f (sl g (rows rs))), .c (.f (sl g' (standRows l)))] = Eq (.t [vb false, vi 1]) := by
  have hp := list_sp g g' rs l hr ho hl hs
  refine Km.Pure.eq (pure_fn T_room_Sound rfl fun Q hQ => ?_)
  refine kw_seq (kw_region (.inl rfl) ?_)
  simp
  refine kw_seq ?_
  refine kw_seq (kw_region (.inl rfl) ?_)
  simp [hp, h]
  refine kw_cond_t (by simp) ?_
  refine kw_seq (kw_region (.inl rfl) ?_)
  simp
  refine kw_ret (hQ _ _ ?_)
  simp

theorem busy_no (g g' : Tg) (rs : List RoomD) (l : List StandD) (a b c : Int) (hr : rs.length ≤ 6) (ho : ∀ r ∈ rs, OpenOK r) (hl : l.length ≤ 9223372036854775807) (hs : ∀ s ∈ l, s.st.Sm) (h : listB rs l = false) :
    Km.Pure tab.get F_room_Busy [.c (.f (sl g (rows rs))), .c (.f (sl g' (standRows l))), vi a, .a [.f (fi b), .f (fi c)]] = Eq (.t [.c (.f .nils), vi 1]) := by
  have hp := list_sp g g' rs l hr ho hl hs
  refine Km.Pure.eq (pure_fn T_room_Busy rfl fun Q hQ => ?_)
  refine kw_seq (kw_region (.inl rfl) ?_)
  simp
  refine kw_seq ?_
  refine kw_seq (kw_region (.inl rfl) ?_)
  simp [hp, h]
  refine kw_cond_t (by simp) ?_
  refine kw_seq (kw_region (.inl rfl) ?_)
  simp
  refine kw_ret (hQ _ _ ?_)
  simp
end Go.Proofs.YtdkmkodemmidjaaGreat
end

section
namespace Go.Proofs.YtdkmkodemmidjaaGreat
open Go Km

theorem busy_big (g : Tg) (rs : List RoomD) (x : StandD) (k : Nat) (hr : rs.length ≤ 6) (ho : ∀ r ∈ rs, OpenOK r) (hk : k < rs.length) (hx : x.room = k) (hst : x.st = longS) (hb : rs[k].bef = 100) (ha : 0 ≤ rs[k].aft) (ha' : rs[k].aft ≤ 20)
    (hp : rs[k].p.length ≤ 64) (hl : listB rs [x] = true) :
    Km.Pure tab.get F_room_Busy [.c (.f (sl g (rows rs))), .c (.f (sl .fs (standRows [x]))), vi k, .a [.f (fi 0), .f (fi 0)]] = Eq (.t [.c (.f .nils), vi 2]) := by
  have hsm : ∀ s ∈ [x], s.st.Sm := by
    intro s hs
    simp at hs
    subst hs
    rw [hst]
    simp [longS, StreamD.Sm, TermD.Sm, PerD.Sm, allT]
  have hlp := list_sp g .fs rs [x] hr ho (by simp) hsm
  have hsh := sharing_sp (sl g (rows rs)) (sl .fs (standRows [x])) k
  obtain ⟨so, hso, hoc⟩ := occupied_no g rs x k hk hx hst hb ha ha'
  have hoc := Km.Pure.eq hoc
  simp [StandD.row] at hoc
  have key : ∃ r, (r = .t [.c (.f .nils), vi 2]) ∧ Km.Pure tab.get F_room_Busy [.c (.f (sl g (rows rs))), .c (.f (sl .fs (standRows [x]))), vi k, .a [.f (fi 0), .f (fi 0)]] r := by
    refine pure_exC T_room_Busy rfl fun Q hQ => ?_
    have fin : ∀ t : T, t.g 4 = .c (.ptr 0 0 0) → t.g 8 = .c (.ptr 2 0 0) → t.g 9 = .c (.ptr 3 0 0) → t.g 50 = .c (.f (.fn F_room_sharing_f1 [.fp [sl .fs (standRows [x])] 0, .fp [sl g (rows rs)] 0, .fp [fi (k : Int)] 0])) →
        WP tab.get F_room_Busy none [.code C_room_Busy_14, .inBlock 0, .code C_room_Busy_47] ⟨t, [], [.box [.f (sl g (rows rs))] 0, .box [.f (fi 0), .f (fi 0)] 0, .box [.f .nils] 0, .box [.f (fi 0)] 0, .box [.f .nils] 0]⟩ Q := by
      intro t g4 g8 g9 g50
      obtain ⟨HH, hHH⟩ : ∃ HH : Heap, HH = [.box [.f (sl g (rows rs))] 0, .box [.f (fi 0), .f (fi 0)] 0, .box [.f .nils] 0, .box [.f (fi 0)] 0, .box [.f .nils] 0] := ⟨_, rfl⟩
      have hlen : HH.length = 5 := by rw [hHH]; rfl
      obtain ⟨r, H', e1, p2, p3, p5, f2, tm, ps, aa, bd, p6⟩ := sharing1 (b := 6) (H := HH ++ [.dfr true, .lp F_room_Busy t [P.nat 51] C_room_Busy_15 C_room_Busy_16 .ready none HH.length])
        (PP := fun H' => H'[2]? = some (.box [.f .nils] 0) ∧ H'[3]? = some (.box [.f (fi 2)] 0) ∧ H'[5]? = some (.dfr true) ∧ ∃ f2 tm ps aa bd, H'[6]? = some (.lp f2 tm ps aa bd .done (some .ret) 5)) g .fs rs x k hx hk hp fun J => by
          obtain ⟨r, H', e, rfl, hPP⟩ := ev_yield_ex (tab := tab.get) (b := 6) (args := [.a (x.row.map .f)]) (H := HH ++ [.dfr true, .lp F_room_Busy t [P.nat 51] C_room_Busy_15 C_room_Busy_16 .ready none HH.length] ++ J)
            (C := fun r H' => r = vb false ∧ H'[2]? = some (.box [.f .nils] 0) ∧ H'[3]? = some (.box [.f (fi 2)] 0) ∧ H'[5]? = some (.dfr true) ∧ ∃ f2 tm ps aa bd, H'[6]? = some (.lp f2 tm ps aa bd .done (some .ret) 5)) (by rw [hHH]; rfl) rfl fun Q' hQ' => by
              subst hHH
              simp only [StandD.row]
              refine kw_region (.inr rfl) ?_
              simp [StandD.row]
              refine kw_begR rfl ?_
              simp
              refine kw_block ?_
              refine kw_seq (kw_region (.inr rfl) ?_)
              simp [g4, hoc, hso]
              refine kw_seq ?_
              refine kw_seq (kw_region (.inr rfl) ?_)
              simp
              refine kw_cond_t (by simp) ?_
              refine kw_seq (kw_region (.inr rfl) ?_)
              simp [g8, g9]
              refine kw_ret (hQ' _ _ _ _ _ _ _ _ _ _ rfl rfl ?_)
              exact ⟨rfl, rfl, rfl, rfl, _, _, _, _, _, rfl⟩
          exact ⟨H', e, hPP⟩
      rw [← hHH]
      refine kw_rangeF (g := F_room_sharing_f1) (by rw [R_ev, g50]; simp [calleeV, hlen]) e1 ?_
      rw [hlen]
      refine kw_endRF_ret p6 (by decide) ?_
      refine kw_ret (hQ _ _ _ rfl (.inr ⟨5, ?_⟩))
      have q5 : (H'.set 6 (.lp f2 tm ps aa bd .exhausted (some .ret) 5))[5]? = some (.dfr true) := by rw [List.getElem?_set_ne (by decide)]; exact p5
      have q2 : ((H'.set 6 (.lp f2 tm ps aa bd .exhausted (some .ret) 5)).set 5 (.dfr false))[2]? = some (.box [.f .nils] 0) := by rw [List.getElem?_set_ne (by decide), List.getElem?_set_ne (by decide)]; exact p2
      have q3 : ((H'.set 6 (.lp f2 tm ps aa bd .exhausted (some .ret) 5)).set 5 (.dfr false))[3]? = some (.box [.f (fi 2)] 0) := by rw [List.getElem?_set_ne (by decide), List.getElem?_set_ne (by decide)]; exact p3
      refine ⟨rfl, q5, .t [.c (.f .nils), vi 2], ?_, by simp [exV, exV1, mapO]⟩
      simp [Km.results, resOne, mapO, g8, g9, q2, q3]
    refine kw_seq (kw_region (.inl rfl) ?_)
    simp
    refine kw_seq ?_
    refine kw_seq (kw_region (.inl rfl) ?_)
    simp [hlp, hl, wrap64 (n := (rs.length : Int) - 1) (by omega) (by omega), withinB_y (n := (k : Int)) (lo := 0) (hi := (rs.length : Int) - 1) (by omega) (by omega)]
    refine kw_cond_f (by simp) (kw_skip ?_)
    refine kw_seq (kw_region (.inl rfl) ?_)
    simp
    refine kw_seq ?_
    refine kw_seq (kw_region (.inl rfl) ?_)
    simp [hsh]
    refine kw_block ?_
    exact fin _ (by simp) (by simp) (by simp) (by simp)
  obtain ⟨r, rfl, h⟩ := key
  exact h.eq
end Go.Proofs.YtdkmkodemmidjaaGreat
end

section
namespace Go.Proofs.YtdkmkodemmidjaaGreat
open Go Km

theorem rrising_kf (g : Tg) (l : List Int) (limit : Int) (hl : l.length ≤ 9223372036854775807) : Kf tab.get F_ref04_rising [.c (.f (sl g (ints l))), vi limit] (vb (risingB limit (-1) l)) := by
  refine kf_fn T_ref04_rising rfl fun H Q hQ => ?_
  have bad : risingB limit (-1) l = false → ∀ (t : T) k, WP tab.get F_ref04_rising none (.code (.region [⟨D 4, .mov (.k (.c (.f (.bool false)))), none⟩] []) :: .code .ret :: k) ⟨t, [], H⟩ Q := by
    intro hf t k
    refine kw_region (.inl rfl) ?_
    simp
    refine kw_ret (hQ _ _ ?_)
    simp [hf]
  refine kw_seq (kw_region (.inl rfl) ?_)
  simp
  refine kw_seq ?_
  refine kw_seq (kw_region (.inl rfl) ?_)
  simp
  refine kw_cfor l.length (fun j t H' => t.g 0 = .c (.f (sl g (ints l))) ∧ t.g 1 = vi limit ∧ H = H' ∧ ∃ last, -1 ≤ last ∧ (∀ m, j = m + 1 → ∀ h : m < l.length, last = (l[m]'h)) ∧ (j = 0 → last = -1) ∧ risingB limit (-1) l = risingB limit last (l.drop j)) hl rfl (by simp)
    ⟨by simp, by simp, rfl, -1, by omega, by omega, by simp, by simp⟩ ?_ ?_ ?_
  · rintro j t _ L hj ⟨g0, g1, rfl, h⟩ ha hL
    simp [ha, g0]
    exact hL _ ⟨by simp [g0], by simp [g1], rfl, h⟩ (by simp [ha]) (by simp)
  · rintro j t _ hj ⟨g0, g1, rfl, last, l0, l1, l2, hB⟩ ha next
    rw [risingB_drop hj] at hB
    refine kw_block ?_
    refine kw_seq (kw_region (.inl rfl) ?_)
    simp [g0, g1, ha, idx_sl, hj, ld_int]
    by_cases k1 : l[j] < 0
    · simp [k1]
      refine kw_cond_t (by simp) (kw_seq (bad ?_ _ _))
      rw [hB, decide_eq_false (show ¬ last < l[j] by omega)]; rfl
    simp [k1, g0, g1, ha, idx_sl, hj, ld_int]
    by_cases k2 : limit ≤ l[j]
    · simp [k2]
      refine kw_cond_t (by simp) (kw_seq (bad ?_ _ _))
      rw [hB, decide_eq_false (show ¬ l[j] < limit by omega)]; simp
    simp [k2, ha]
    have go : last < l[j] → ∃ last', -1 ≤ last' ∧ (∀ m, j + 1 = m + 1 → ∀ h : m < l.length, last' = (l[m]'h)) ∧ (j + 1 = 0 → last' = -1) ∧ risingB limit (-1) l = risingB limit last' (l.drop (j + 1)) := by
      intro h
      rw [decide_eq_true h, decide_eq_true (show l[j] < limit by omega), Bool.true_and, Bool.true_and] at hB
      refine ⟨l[j], by omega, fun m hm h => ?_, by omega, hB⟩
      have : m = j := by omega
      subst this; rfl
    cases j with
    | zero =>
      simp
      refine kw_cond_f (by simp) ?_
      refine kw_skip (kw_inBlock (next _ _ ?_ (by simp [ha])))
      exact ⟨by simp [g0], by simp [g1], rfl, go (by have := l2 rfl; omega)⟩
    | succ m =>
      have hm : m < l.length := by omega
      have hl1 := l1 m rfl hm
      have e1 : ((m + 1 : Nat) : Int) - 1 = m := by omega
      have hidx : ∀ H : Heap, indexAV H 1 none (.c (.f (sl g (ints l)))) (vi ((m : Int) + 1)) = some (.c (.f (.fp (ints l).flatten (m + 1)))) := fun H => by
        have := idx_sl (H := H) (g := g) (rows := ints l) (sz := 1) (k := .i64) (i := (m : Int) + 1) (by omega) (by simp; omega)
        rwa [show ((m : Int) + 1).toNat = m + 1 by omega, Nat.mul_one] at this
      simp [show 0 < m + 1 by omega, hidx, g0, ha, e1, wrap64 (n := (m : Int)) (by omega) (by omega), idx_sl, hj, hm, ld_int]
      by_cases k3 : l[m + 1] ≤ l[m]
      · simp [k3]
        refine kw_cond_t (by simp) (kw_seq (bad ?_ _ _))
        rw [hB, decide_eq_false (show ¬ last < l[m + 1] by omega)]; rfl
      · simp [k3]
        refine kw_cond_f (by simp) ?_
        refine kw_skip (kw_inBlock (next _ _ ?_ (by simp [ha])))
        exact ⟨by simp [g0], by simp [g1], rfl, go (by omega)⟩
  · rintro t _ ⟨g0, g1, rfl, last, l0, l1, l2, hB⟩ ha
    refine kw_seq (kw_region (.inl rfl) ?_)
    simp
    refine kw_ret (hQ _ _ ?_)
    simp [hB, risingB]
theorem rrising_sp (g : Tg) (l : List Int) (limit : Int) (hl : l.length ≤ 9223372036854775807) :
    Km.Pure tab.get F_ref04_rising [.c (.f (sl g (ints l))), vi limit] = Eq (vb (risingB limit (-1) l)) := (rrising_kf g l limit hl).eq

theorem rper_kf (p : PerD) (h : p.Sm) : Kf tab.get F_ref04_Valid [.a (p.row.map .f)] (vb (perB p)) := by
  have h : p.head.length + p.cyc.length ≤ 9223372036854775807 := h
  refine kf_fn T_ref04_Valid rfl fun H Q hQ => ?_
  have bad : perB p = false → ∀ (t : T) (J : Heap) k, WP tab.get F_ref04_Valid none (.code (.region [⟨D 2, .mov (.k (.c (.f (.bool false)))), none⟩] []) :: .code .ret :: k) ⟨t, [], H ++ J⟩ Q := by
    intro hf t J k
    refine kw_region (.inl rfl) ?_
    simp
    refine kw_ret (hQ _ _ ?_)
    simp [hf]
  refine kw_seq (kw_region (.inl rfl) ?_)
  simp [PerD.row]
  refine kw_seq ?_
  refine kw_seq (kw_region (.inl rfl) ?_)
  simp
  by_cases k1 : p.fr < 0
  · simp [k1]
    exact kw_cond_t (by simp) (kw_seq (bad (by simp [perB, show ¬ 0 ≤ p.fr by omega]) _ _ _))
  simp [k1]
  by_cases k2 : 1099511627776 < p.fr
  · simp [k2]
    exact kw_cond_t (by simp) (kw_seq (bad (by simp [perB, show ¬ p.fr ≤ 1099511627776 by omega]) _ _ _))
  simp [k2]
  by_cases k3 : p.per < 1
  · simp [k3]
    exact kw_cond_t (by simp) (kw_seq (bad (by simp [perB, show ¬ 1 ≤ p.per by omega]) _ _ _))
  simp [k3]
  by_cases k4 : 1099511627776 < p.per
  · simp [k4]
    exact kw_cond_t (by simp) (kw_seq (bad (by simp [perB, show ¬ p.per ≤ 1099511627776 by omega]) _ _ _))
  simp [k4]
  refine kw_cond_f (by simp) (kw_skip ?_)
  refine kw_seq ?_
  refine kw_seq (kw_region (.inl rfl) ?_)
  simp
  by_cases k5 : (1048576 : Int) < p.head.length
  · simp [k5]
    exact kw_cond_t (by simp) (kw_seq (bad (by simp [perB, show ¬ (p.head.length : Int) + p.cyc.length ≤ 1048576 by omega]) _ _ _))
  simp [k5]
  by_cases k6 : (1048576 : Int) < p.cyc.length
  · simp [k6]
    exact kw_cond_t (by simp) (kw_seq (bad (by simp [perB, show ¬ (p.head.length : Int) + p.cyc.length ≤ 1048576 by omega]) _ _ _))
  simp [k6, wrap64 (n := (p.head.length : Int) + p.cyc.length) (by omega) (by omega)]
  by_cases k7 : (1048576 : Int) < p.head.length + p.cyc.length
  · simp [k7]
    exact kw_cond_t (by simp) (kw_seq (bad (by simp [perB, show ¬ (p.head.length : Int) + p.cyc.length ≤ 1048576 by omega]) _ _ _))
  simp [k7]
  refine kw_cond_f (by simp) (kw_skip ?_)
  refine kw_seq (kw_region (.inl rfl) ?_)
  simp [rrising_sp p.hg p.head p.fr (by omega)]
  have hp : perB p = (risingB p.fr (-1) p.head && risingB p.per (-1) p.cyc) := by
    simp [perB, show 0 ≤ p.fr by omega, show p.fr ≤ 1099511627776 by omega, show 1 ≤ p.per by omega, show p.per ≤ 1099511627776 by omega, show (p.head.length : Int) + p.cyc.length ≤ 1048576 by omega]
  cases k8 : risingB p.fr (-1) p.head
  · simp
    refine kw_ret (hQ _ _ ?_)
    simp [hp, k8]
  simp [rrising_sp p.cg p.cyc p.per (by omega)]
  refine kw_ret (hQ _ _ ?_)
  simp [hp, k8]
theorem rper_sp (p : PerD) (h : p.Sm) : Km.Pure tab.get F_ref04_Valid [.a (p.row.map .f)] = Eq (vb (perB p)) := (rper_kf p h).eq

theorem empty_sp (p : PerD) (h : p.Sm) : Km.Pure tab.get F_ref04_Empty [.a (p.row.map .f)] = Eq (vb (perB p && decide ((p.head.length : Int) + p.cyc.length = 0))) := by
  have h' : p.head.length + p.cyc.length ≤ 9223372036854775807 := h
  refine Kf.eq (kf_fn T_ref04_Empty rfl fun H Q hQ => ?_)
  have hv := rper_sp p h
  simp [PerD.row] at hv
  refine kw_seq (kw_region (.inl rfl) ?_)
  simp [PerD.row]
  refine kw_seq (kw_region (.inl rfl) ?_)
  simp [hv]
  cases k : perB p
  · simp
    refine kw_ret (hQ _ _ ?_)
    simp [k]
  simp [wrap64 (n := (p.head.length : Int) + p.cyc.length) (by omega) (by omega)]
  refine kw_ret (hQ _ _ ?_)
  simp [k]
end Go.Proofs.YtdkmkodemmidjaaGreat
end

section
namespace Go.Proofs.YtdkmkodemmidjaaGreat
open Go Km

def lessB (x y : InstD) : Bool := if x.fr = y.fr then (if x.day = y.day then decide (x.to < y.to) else decide (x.day < y.day)) else decide (x.fr < y.fr)
theorem less_sp (x y : InstD) : Km.Pure tab.get F_ref16_Less [.a (x.row.map .f), .a (y.row.map .f)] = Eq (vb (lessB x y)) := by
  refine Kf.eq (kf_fn T_ref16_Less rfl fun H Q hQ => ?_)
  refine kw_seq (kw_region (.inl rfl) ?_)
  simp [InstD.row]
  refine kw_seq ?_
  refine kw_seq (kw_region (.inl rfl) ?_)
  simp
  by_cases k1 : x.fr = y.fr
  · refine kw_cond_f (by simp [k1]) (kw_skip ?_)
    refine kw_seq ?_
    refine kw_seq (kw_region (.inl rfl) ?_)
    simp
    by_cases k2 : x.day = y.day
    · refine kw_cond_f (by simp [k2]) (kw_skip ?_)
      refine kw_seq (kw_region (.inl rfl) ?_)
      simp
      refine kw_ret (hQ _ _ ?_)
      simp [lessB, k1, k2]
    · refine kw_cond_t (by simp [k2]) ?_
      refine kw_seq (kw_region (.inl rfl) ?_)
      simp
      refine kw_ret (hQ _ _ ?_)
      simp [lessB, k1, k2]
  · refine kw_cond_t (by simp [k1]) ?_
    refine kw_seq (kw_region (.inl rfl) ?_)
    simp
    refine kw_ret (hQ _ _ ?_)
    simp [lessB, k1]

theorem insert_ex (g : Tg) (l : List InstD) (x : InstD) (hl : l.length ≤ 10) : ∃ g' l', l'.length ≤ l.length + 1 ∧ Km.Pure tab.get F_ref16_Insert [.c (.f (sl g (instRows l))), .a (x.row.map .f)] = Eq (.c (.f (sl g' (instRows l')))) := by
  obtain ⟨r, ⟨g', l', hl', rfl⟩, h⟩ : ∃ r, (∃ g' l', l'.length ≤ l.length + 1 ∧ r = .c (.f (sl g' (instRows l')))) ∧ Km.Pure tab.get F_ref16_Insert [.c (.f (sl g (instRows l))), .a (x.row.map .f)] r := by
    refine pure_ex T_ref16_Insert rfl fun Q hQ => ?_
    refine kw_seq (kw_region (.inl rfl) ?_)
    simp [InstD.row]
    refine kw_seq (kw_region (.inl rfl) ?_)
    simp
    refine kw_seq (kw_region (.inl rfl) ?_)
    simp
    refine kw_seq ?_
    refine kw_seq (kw_region (.inl rfl) ?_)
    simp
    -- one row more
    have app : ∀ (H : Heap) (v : V) (o : List InstD) (y : InstD), o.length ≤ 30 → LB true H 3 v .es (instRows o) → ∃ v' H', appendV (H ++ [.box [.f (fi y.day), .f (fi y.fr), .f (fi y.to)] 0]) 3 24 v (.c (.sl H.length 0 1 1 0 3)) = some (v', H') ∧ LB true H' 3 v' .es (instRows (o ++ [y])) ∧ (∀ (b : Nat) cs fl, H[b]? = some (.box cs fl) → H'[b]? = some (.box cs fl)) := by
      intro H v o y ho hB
      obtain ⟨v', H', e1, e2, -, e4⟩ := LB.app (H := H ++ [.box [.f (fi y.day), .f (fi y.fr), .f (fi y.to)] 0]) (row := y.row) (bytes := 24) (y := .c (.sl H.length 0 1 1 0 3)) (hB.push _) (instRows_grid _) rfl (by decide)
        (added_box (fl := 0) (cs := y.row.map .f) (by simp [InstD.row]) rfl) (mapO_exB _) (by simp [roomOK]; omega)
      refine ⟨v', H', e1, by simpa [instRows] using e2, fun b cs fl hb => e4 _ _ _ ?_⟩
      rw [List.getElem?_append_left (lt_of_get hb)]; exact hb
    refine kw_cfor l.length (fun j t H => t.g 0 = .c (.f (sl g (instRows l))) ∧ t.g 3 = .c (.ptr 0 0 0) ∧ H[0]? = some (.box [.f (fi x.day), .f (fi x.fr), .f (fi x.to)] 0) ∧ ∃ d o, t.g 6 = vb d ∧ LB true H 3 (t.g 5) .es (instRows o) ∧ o.length ≤ j + 1 ∧ (d = false → o.length ≤ j)) (by omega) rfl (by simp)
      ⟨by simp, by simp, by simp, false, [], by simp, by simpa [instRows] using LB.es0, by simp, by simp⟩ ?_ ?_ ?_
    · rintro j t H L hj ⟨g0, g3, h3, d, o, g6, hB, ho, hd⟩ ha hL
      simp [ha, g0]
      exact hL _ ⟨by simp [g0], by simp [g3], h3, d, o, by simp [g6], by simpa using hB, ho, hd⟩ (by simp [ha]) (by simp)
    · rintro j t H hj ⟨g0, g3, h3, d, o, g6, hB, ho, hd⟩ ha next
      have hrow := fun H : Heap => ld_rowa (H := H) (instRows_grid l) (instRows_at hj)
      have hless := less_sp x l[j]
      simp [InstD.row] at hrow hless
      refine kw_block ?_
      refine kw_seq ?_
      refine kw_seq (kw_region (.inl rfl) ?_)
      simp [g0, g3, ha, idx_sl, hj, hrow, h3]
      have tail : ∀ (t : T) (H : Heap) (o : List InstD) (d : Bool), t.g 0 = .c (.f (sl g (instRows l))) → t.g 3 = .c (.ptr 0 0 0) → t.g 7 = vi j → t.g 6 = vb d → H[0]? = some (.box [.f (fi x.day), .f (fi x.fr), .f (fi x.to)] 0) → LB true H 3 (t.g 5) .es (instRows o) →
          o.length ≤ j + 1 → (d = false → o.length ≤ j) →
          WP tab.get F_ref16_Insert none [.code C_ref16_Insert_30, .inBlock 1, .code (incC3 7 13 14), .inLoop (roundC3 0 7 12 13 14 [⟨D 9, .mov (R 7), none⟩, ⟨D 10, .mov (R 0), none⟩, ⟨D 11, .len (R 10), none⟩, ⟨D 12, .bin .lss (R 9) (R 11), none⟩] C_ref16_Insert_16), .inBlock 0, .code C_ref16_Insert_32] ⟨t, [], H⟩ Q := by
        intro t H o d g0 g3 g7 g6 h3 hB ho hd
        obtain ⟨v', H', e1, e2, e4⟩ := app H (t.g 5) o l[j] (by omega) hB
        refine kw_region (.inl rfl) ?_
        simp [g0, g7, idx_sl, hj, hrow, e1]
        refine kw_inBlock (next _ _ ?_ (by simp [g7]))
        exact ⟨by simp [g0], by simp [g3], e4 _ _ _ h3, d, o ++ [l[j]], by simp [g6], by simpa using e2, by simp; omega, fun h => by have := hd h; simp; omega⟩
      cases hc : (l[j].day == x.day && (l[j].fr == x.fr && l[j].to == x.to))
      · refine kw_cond_f (by simp) (kw_skip ?_)
        refine kw_seq ?_
        refine kw_seq (kw_region (.inl rfl) ?_)
        simp [g6]
        cases d
        · simp [g3, h3, g0, ha, idx_sl, hj, hrow, hless]
          cases hlx : lessB x l[j]
          · refine kw_cond_f (by simp) (kw_skip ?_)
            exact tail _ _ o false (by simp [g0]) (by simp [g3]) (by simp [ha]) (by simp [g6]) h3 (by simpa using hB) (by omega) hd
          · refine kw_cond_t (by simp) ?_
            obtain ⟨v', H', e1, e2, e4⟩ := app H (t.g 5) o x (by omega) hB
            have := hd rfl
            refine kw_seq (kw_region (.inl rfl) ?_)
            simp [g3, h3, e1]
            refine kw_region (.inl rfl) ?_
            simp
            exact tail _ _ (o ++ [x]) true (by simp [g0]) (by simp [g3]) (by simp [ha]) (by simp) (e4 _ _ _ h3) (by simpa using e2) (by simp; omega) (by simp)
        · simp
          refine kw_cond_f (by simp) (kw_skip ?_)
          exact tail _ _ o true (by simp [g0]) (by simp [g3]) (by simp [ha]) (by simp [g6]) h3 (by simpa using hB) ho (by simp)
      · refine kw_cond_t (by simp) ?_
        refine kw_seq (kw_region (.inl rfl) ?_)
        simp [g0]
        refine kw_ret (hQ _ _ _ ⟨g, l, by omega, rfl⟩ ?_)
        simp
    · rintro t H ⟨g0, g3, h3, d, o, g6, hB, ho, hd⟩ ha
      refine kw_seq ?_
      refine kw_seq (kw_region (.inl rfl) ?_)
      simp [g6]
      cases d
      · refine kw_cond_t (by simp) ?_
        obtain ⟨v', H', e1, e2, e4⟩ := app H (t.g 5) o x (by omega) hB
        refine kw_region (.inl rfl) ?_
        simp [g3, h3, e1]
        refine kw_seq (kw_region (.inl rfl) ?_)
        simp
        obtain ⟨cv, hcv, _⟩ := e2.len
        have := e2.fzV (instRows_grid _)
        refine kw_ret (hQ _ _ _ ⟨.es, o ++ [x], by simp; have := hd rfl; omega, rfl⟩ ?_)
        rw [hcv] at this
        simp [hcv]
        simpa using this
      · refine kw_cond_f (by simp) (kw_skip ?_)
        refine kw_seq (kw_region (.inl rfl) ?_)
        simp
        obtain ⟨cv, hcv, _⟩ := hB.len
        have := hB.fzV (instRows_grid _)
        refine kw_ret (hQ _ _ _ ⟨.es, o, ho, rfl⟩ ?_)
        rw [hcv] at this
        simp [hcv]
        simpa using this
  exact ⟨g', l', hl', Km.Pure.eq h⟩
end Go.Proofs.YtdkmkodemmidjaaGreat
end

section
namespace Go.Proofs.YtdkmkodemmidjaaGreat
open Go Km

structure RawD where
  (m r t z f p c mi le : Int)
  eg : Tg
  ex : List Int
def byteRows (l : List Int) : List (List FC) := l.map fun n => [.int .u8 n]
@[simp] theorem byteRows_len (l : List Int) : (byteRows l).length = l.length := by simp [byteRows]
theorem byteRows_grid (l : List Int) : Grid 1 (byteRows l) := Grid.map fun _ => rfl
theorem ld_byte {j : Nat} {l : List Int} (hj : j < l.length) {H : Heap} : ldV H none (.c (.f (.fp (byteRows l).flatten j))) = some (.c (.f (.int .u8 l[j]))) := by
  have := ld_row0 (H := H) (rows := byteRows l) (j := j) (sz := 1) (row := [.int .u8 l[j]]) (x := .int .u8 l[j]) (byteRows_grid l) (by simp [byteRows, hj]) rfl
  simpa using this
def B8 (n : Int) : Prop := 0 ≤ n ∧ n ≤ 255
def RawD.row (x : RawD) : List FC := [.int .u8 x.m, .int .u8 x.r, .int .u8 x.t, .int .u8 x.z, .int .u8 x.f, .int .u8 x.p, .int .u8 x.c, .int .u8 x.mi, .int .u8 x.le, sl x.eg (byteRows x.ex)]
def RawD.OK (x : RawD) : Prop := B8 x.m ∧ B8 x.r ∧ B8 x.t ∧ B8 x.z ∧ B8 x.f ∧ B8 x.p ∧ B8 x.c ∧ B8 x.mi ∧ B8 x.le ∧ x.ex.length ≤ 9223372036854775807 ∧ ∀ n ∈ x.ex, B8 n
def StandD.Fine (s : StandD) : Prop := 1 ≤ s.meet ∧ s.meet ≤ 6 ∧ 0 ≤ s.room ∧ s.room ≤ 2 ∧ 0 ≤ s.team ∧ s.team ≤ 2 ∧ 1 ≤ s.size ∧ s.size ≤ 12 ∧ s.st.Sm

theorem eight (i : Nat) (h : i < 8) : ∃ (per : Nat) (rest : List C), [C.f (fi 7), C.f (fi 7), C.f (fi 2), C.f (fi 3), C.f (fi 4), C.f (fi 6), C.f (fi 1), C.f (fi 7)].drop i = C.f (fi per) :: rest ∧ 1 ≤ per ∧ per ≤ 7 := by
  match i, h with
  | 0, _ => exact ⟨7, _, rfl, by omega, by omega⟩
  | 1, _ => exact ⟨7, _, rfl, by omega, by omega⟩
  | 2, _ => exact ⟨2, _, rfl, by omega, by omega⟩
  | 3, _ => exact ⟨3, _, rfl, by omega, by omega⟩
  | 4, _ => exact ⟨4, _, rfl, by omega, by omega⟩
  | 5, _ => exact ⟨6, _, rfl, by omega, by omega⟩
  | 6, _ => exact ⟨1, _, rfl, by omega, by omega⟩
  | 7, _ => exact ⟨7, _, rfl, by omega, by omega⟩

/-- The classes of a stand that is being made: none, or the one. -/
def Cls (H : Heap) (X : C) (f p mi : Int) (l : List Int) : Prop := X = .f .nils ∨ ∃ N c a0 a1 a2, 5 ≤ N ∧ X = .sl (N + 2) 0 1 1 0 2 ∧ H[N]? = some (.box [.f .nils, .f (fi f), .f (fi p), c] a0) ∧ H[N + 1]? = some (.box [.sl N 0 1 1 0 4] a1) ∧
  H[N + 2]? = some (.box [.sl (N + 1) 0 1 1 0 1, .f (fi mi)] a2) ∧ LBj false H c l
theorem Cls.set {H : Heap} {X : C} {f p mi : Int} {l : List Int} (h : Cls H X f p mi l) {b : Nat} {cs cs' : List C} {fl fl' : Nat} (hb : b < 5) (hbx : H[b]? = some (.box cs fl)) : Cls (H.set b (.box cs' fl')) X f p mi l := by
  rcases h with h | ⟨N, c, a0, a1, a2, h5, e, h1, h2, h3, h4⟩
  · exact .inl h
  · exact .inr ⟨N, c, a0, a1, a2, h5, e, by rw [List.getElem?_set_ne (by omega)]; exact h1, by rw [List.getElem?_set_ne (by omega)]; exact h2, by rw [List.getElem?_set_ne (by omega)]; exact h3, h4.set hbx⟩
theorem Cls.ex {H : Heap} {X : C} {f p mi : Int} {l : List Int} (h : Cls H X f p mi l) (hl : l.length ≤ 7) : ∃ cg cs, exC deep H X = some (sl cg (classRows cs)) ∧ cs.length ≤ 1 ∧ ∀ c ∈ cs, c.ts.length ≤ 1 ∧ ∀ t ∈ c.ts, t.Sm := by
  rcases h with rfl | ⟨N, c, a0, a1, a2, h5, rfl, h1, h2, h3, h4⟩
  · exact ⟨.nil, [], rfl, by simp, by simp⟩
  · refine ⟨.fs, [⟨.fs, [⟨.fs, [⟨.nil, [], f, p, .nil, l⟩]⟩], mi⟩], ?_, by simp, ?_⟩
    · have := h4.ex (n := 60)
      simp [deep, ex_sl, h1, h2, h3, this]
      rfl
    · intro c hc
      simp at hc
      subst hc
      simp [TermD.Sm, PerD.Sm]
      omega

set_option maxHeartbeats 4000000 in
theorem made_ex (x : RawD) (hx : x.OK) : ∃ s : StandD, s.Fine ∧ Km.Pure tab.get F_ref18_MadeStand [.a (x.row.map .f)] (.a (s.row.map .f)) := by
  obtain ⟨⟨m1, m2⟩, ⟨r1, r2⟩, ⟨t1, t2⟩, ⟨z1, z2⟩, ⟨f1, f2⟩, ⟨p1, p2⟩, ⟨c1, c2⟩, ⟨i1, i2⟩, ⟨l1, l2⟩, he, hb⟩ := hx
  obtain ⟨r, ⟨s, hs, rfl⟩, h⟩ : ∃ r, (∃ s : StandD, s.Fine ∧ r = .a (s.row.map .f)) ∧ Km.Pure tab.get F_ref18_MadeStand [.a (x.row.map .f)] r := by
    refine pure_ex T_ref18_MadeStand rfl fun Q hQ => ?_
    obtain ⟨i, hi⟩ : ∃ i : Nat, x.p % 8 = i := ⟨(x.p % 8).toNat, by omega⟩
    obtain ⟨per, rest, hper, per1, per7⟩ := eight i (by omega)
    have hix : ∀ (b0 b1 b2 : Blk) (cs : List C) (fl : Nat), indexAV [b0, b1, b2, .box cs fl] 1 none (.c (.sl 3 0 8 8 0 1)) (.c (.f (.int .u8 (i : Int)))) = some (.c (.ptr 3 i 0)) := by
      intro b0 b1 b2 cs fl
      simp [indexAV, intV]
      omega
    have hld : ∀ (b0 b1 b2 : Blk) (fl : Nat), ldV [b0, b1, b2, .box [.f (fi 7), .f (fi 7), .f (fi 2), .f (fi 3), .f (fi 4), .f (fi 6), .f (fi 1), .f (fi 7)] fl] none (.c (.ptr 3 i 0)) = some (vi per) := by
      intro b0 b1 b2 fl
      simp only [ld_ptr, List.getElem?_cons_succ, List.getElem?_cons_zero, hper]
      rfl
    have cont : ∀ t : T, t.g 1 = .c (.ptr 0 0 0) → t.g 2 = .c (.ptr 1 0 0) → t.g 3 = .c (.ptr 2 0 0) → t.g 4 = .c (.ptr 4 0 0) → WP tab.get F_ref18_MadeStand none [.code C_ref18_MadeStand_6] ⟨t, [],
        [.box [.f (.int .u8 x.m), .f (.int .u8 x.r), .f (.int .u8 x.t), .f (.int .u8 x.z), .f (.int .u8 x.f), .f (.int .u8 x.p), .f (.int .u8 x.c), .f (.int .u8 x.mi), .f (.int .u8 x.le), .f (sl x.eg (byteRows x.ex))] 0,
          .box [.f (fi 0), .f (fi 0), .f (fi 0), .f (fi 0), .f .nils, .f (fi 0), .f .nils] 0,
          .box [.f (fi (1 + x.m % 6)), .f (fi (x.r % 3)), .f (fi (x.t % 3)), .f (fi (1 + x.z % 12)), .f .nils, .f (fi 0), .f .nils] 0,
          .box [.f (fi 7), .f (fi 7), .f (fi 2), .f (fi 3), .f (fi 4), .f (fi 6), .f (fi 1), .f (fi 7)] 0,
          .box [.f .nils, .f (fi (x.f % 9)), .f (fi per), .f .nils] 0]⟩ Q := by
      intro t g1 g2 g3 g4
      obtain ⟨RAW, hRAW⟩ : ∃ y, y = [C.f (.int .u8 x.m), .f (.int .u8 x.r), .f (.int .u8 x.t), .f (.int .u8 x.z), .f (.int .u8 x.f), .f (.int .u8 x.p), .f (.int .u8 x.c), .f (.int .u8 x.mi), .f (.int .u8 x.le), .f (sl x.eg (byteRows x.ex))] := ⟨_, rfl⟩
      rw [← hRAW]
      have q6 : RAW.drop 6 = [.f (.int .u8 x.c), .f (.int .u8 x.mi), .f (.int .u8 x.le), .f (sl x.eg (byteRows x.ex))] := by rw [hRAW]; rfl
      have q7 : RAW.drop 7 = [.f (.int .u8 x.mi), .f (.int .u8 x.le), .f (sl x.eg (byteRows x.ex))] := by rw [hRAW]; rfl
      have q8 : RAW.drop 8 = [.f (.int .u8 x.le), .f (sl x.eg (byteRows x.ex))] := by rw [hRAW]; rfl
      have q9 : RAW.drop 9 = [.f (sl x.eg (byteRows x.ex))] := by rw [hRAW]; rfl
      have stage2 : ∀ (t : T) (H : Heap) (X : C) (l : List Int), t.g 1 = .c (.ptr 0 0 0) → t.g 2 = .c (.ptr 1 0 0) → t.g 3 = .c (.ptr 2 0 0) → H[0]? = some (.box RAW 0) →
          H[1]? = some (.box [.f (fi 0), .f (fi 0), .f (fi 0), .f (fi 0), .f .nils, .f (fi 0), .f .nils] 0) →
          H[2]? = some (.box [.f (fi (1 + x.m % 6)), .f (fi (x.r % 3)), .f (fi (x.t % 3)), .f (fi (1 + x.z % 12)), X, .f (fi (15 * (1 + x.le % 12))), .f .nils] 0) →
          Cls H X (x.f % 9) per (60 + 15 * (x.mi % 80)) l → l.length ≤ 7 → WP tab.get F_ref18_MadeStand none [.code C_ref18_MadeStand_33] ⟨t, [], H⟩ Q := by
        intro t H X l g1 g2 g3 h0 h1 h2 hX hl
        obtain ⟨LEN, hLEN⟩ : ∃ y, y = 15 * (1 + x.le % 12) := ⟨_, rfl⟩
        have hLEN1 : 0 ≤ LEN := by omega
        have hLEN2 : LEN ≤ 1000 := by omega
        rw [← hLEN] at h2
        have hex3 : 0 ≤ x.ex.length := Nat.zero_le _
        refine kw_seq ?_
        refine kw_seq (kw_region (.inl rfl) ?_)
        simp
        refine kw_cfor (min x.ex.length 3) (fun j t H => t.g 1 = .c (.ptr 0 0 0) ∧ t.g 2 = .c (.ptr 1 0 0) ∧ t.g 3 = .c (.ptr 2 0 0) ∧ H[0]? = some (.box RAW 0) ∧ H[1]? = some (.box [.f (fi 0), .f (fi 0), .f (fi 0), .f (fi 0), .f .nils, .f (fi 0), .f .nils] 0) ∧
          Cls H X (x.f % 9) per (60 + 15 * (x.mi % 80)) l ∧ ∃ eg xs, H[2]? = some (.box [.f (fi (1 + x.m % 6)), .f (fi (x.r % 3)), .f (fi (x.t % 3)), .f (fi (1 + x.z % 12)), X, .f (fi LEN), .f (sl eg (instRows xs))] 0) ∧ xs.length ≤ j) (by omega) rfl (by simp)
          ⟨by simp [g1], by simp [g2], by simp [g3], h0, h1, hX, .nil, [], h2, by simp⟩ ?_ ?_ ?_
        · rintro j t H L hj ⟨g1, g2, g3, h0, h1, hX, eg, xs, h2, hxs⟩ ha hL
          simp [ha, g1, h0, q9]
          by_cases k1 : j < x.ex.length
          · simp [k1, ha]
            refine hL _ ⟨by simp [g1], by simp [g2], by simp [g3], h0, h1, hX, eg, xs, h2, hxs⟩ (by simp [ha]) ?_
            simp
            omega
          · simp [k1]
            refine hL _ ⟨by simp [g1], by simp [g2], by simp [g3], h0, h1, hX, eg, xs, h2, hxs⟩ (by simp [ha]) ?_
            simp
            omega
        · rintro j t H hj ⟨g1, g2, g3, h0, h1, hX, eg, xs, h2, hxs⟩ ha next
          have hj' : j < x.ex.length := by omega
          obtain ⟨e1, e2⟩ := hb x.ex[j] (List.getElem_mem hj')
          have hlb := fun H : Heap => ld_byte (H := H) hj'
          generalize x.ex[j] = e at e1 e2 hlb
          have rem14 : binV .rem (.c (.f (.int .u8 e))) (.c (.f (.int .u8 14))) = some (.c (.f (.int .u8 (e % 14)))) := by simp (disch := omega) [bin_rem, Int.tmod_eq_emod_of_nonneg]
          have quo4 : binV .quo (.c (.f (.int .u8 e))) (.c (.f (.int .u8 4))) = some (.c (.f (.int .u8 (e / 4)))) := by simp (disch := omega) [bin_quo, Int.tdiv_eq_ediv_of_nonneg, wrapu8]
          refine kw_block ?_
          refine kw_seq (kw_region (.inl rfl) ?_)
          simp [g1, h0, q9, ha, idx_sl, hj', hlb, rem14, wrap64 (n := e % 14) (by omega) (by omega)]
          refine kw_seq (kw_region (.inl rfl) ?_)
          simp [g1, h0, q9, ha, idx_sl, hj', hlb, quo4, wrap64 (n := e / 4) (by omega) (by omega), wrap64 (n := 15 * (e / 4)) (by omega) (by omega), wrap64 (n := e % 14 * 1440) (by omega) (by omega), wrap64 (n := e % 14 * 1440 + 90) (by omega) (by omega), wrap64 (n := e % 14 * 1440 + 90 + 15 * (e / 4)) (by omega) (by omega)]
          obtain ⟨eg', xs', hx', hins⟩ := insert_ex eg xs ⟨e % 14, e % 14 * 1440 + 90 + 15 * (e / 4), e % 14 * 1440 + 90 + 15 * (e / 4) + LEN⟩ (by omega)
          simp [InstD.row] at hins
          refine kw_region (.inl rfl) ?_
          simp [g3, h2, wrap64 (n := e % 14 * 1440 + 90 + 15 * (e / 4) + LEN) (by omega) (by omega), hins]
          refine kw_inBlock (next _ _ ?_ (by simp [ha]))
          exact ⟨by simp [g1], by simp [g2], by simp [g3], by rw [List.getElem?_set_ne (by decide)]; exact h0, by rw [List.getElem?_set_ne (by decide)]; exact h1, hX.set (by decide) h2, eg', xs', by rw [List.getElem?_set_self (lt_of_get h2)], by omega⟩
        · rintro t H ⟨g1, g2, g3, h0, h1, hX, eg, xs, h2, hxs⟩ ha
          refine kw_seq (kw_region (.inl rfl) ?_)
          simp [g2, g3, h1, h2]
          have hX' := hX.set (cs' := [.f (fi (1 + x.m % 6)), .f (fi (x.r % 3)), .f (fi (x.t % 3)), .f (fi (1 + x.z % 12)), X, .f (fi LEN), .f (sl eg (instRows xs))]) (fl' := 0) (by decide) h1
          obtain ⟨cg, cs, ex1, ex2, ex3⟩ := hX'.ex hl
          refine kw_ret (hQ _ _ _ ⟨⟨1 + x.m % 6, x.r % 3, x.t % 3, 1 + x.z % 12, ⟨cg, cs, LEN, eg, xs⟩⟩, ⟨by simp; omega, by simp; omega, by simp; omega, by simp; omega, by simp; omega, by simp; omega, by simp; omega, by simp; omega, ?_⟩, rfl⟩ ?_)
          · refine ⟨by simp; omega, by simp; omega, fun c hc => ⟨by have := (ex3 c hc).1; omega, (ex3 c hc).2⟩⟩
          · simp [g2, lt_of_get h1, StandD.row]
            simp [exV, mapO, ex1]
      have stage1 : ∀ (t : T) (H : Heap) (c : C) (l : List Int), t.g 1 = .c (.ptr 0 0 0) → t.g 2 = .c (.ptr 1 0 0) → t.g 3 = .c (.ptr 2 0 0) → t.g 4 = .c (.ptr 4 0 0) → H[0]? = some (.box RAW 0) →
          H[1]? = some (.box [.f (fi 0), .f (fi 0), .f (fi 0), .f (fi 0), .f .nils, .f (fi 0), .f .nils] 0) →
          H[2]? = some (.box [.f (fi (1 + x.m % 6)), .f (fi (x.r % 3)), .f (fi (x.t % 3)), .f (fi (1 + x.z % 12)), .f .nils, .f (fi 0), .f .nils] 0) →
          H[4]? = some (.box [.f .nils, .f (fi (x.f % 9)), .f (fi per), c] 0) → 5 ≤ H.length → LBj true H c l → l.length ≤ 7 → WP tab.get F_ref18_MadeStand none [.code C_ref18_MadeStand_22] ⟨t, [], H⟩ Q := by
        intro t H c l g1 g2 g3 g4 h0 h1 h2 h4 h5 hB hl
        have rem12 : binV .rem (.c (.f (.int .u8 x.le))) (.c (.f (.int .u8 12))) = some (.c (.f (.int .u8 (x.le % 12)))) := by simp (disch := omega) [bin_rem, Int.tmod_eq_emod_of_nonneg]
        have rem80 : binV .rem (.c (.f (.int .u8 x.mi))) (.c (.f (.int .u8 80))) = some (.c (.f (.int .u8 (x.mi % 80)))) := by simp (disch := omega) [bin_rem, Int.tmod_eq_emod_of_nonneg]
        refine kw_seq (kw_region (.inl rfl) ?_)
        simp [g1, g3, h0, h2, q8, rem12, wrap64 (n := x.le % 12) (by omega) (by omega), wrap64 (n := 1 + x.le % 12) (by omega) (by omega), wrap64 (n := 15 * (1 + x.le % 12)) (by omega) (by omega)]
        obtain ⟨H1, hH1⟩ : ∃ H1, H1 = H.set 2 (.box [.f (fi (1 + x.m % 6)), .f (fi (x.r % 3)), .f (fi (x.t % 3)), .f (fi (1 + x.z % 12)), .f .nils, .f (fi (15 * (1 + x.le % 12))), .f .nils] 0) := ⟨_, rfl⟩
        rw [← hH1]
        have a0 : H1[0]? = some (.box RAW 0) := by rw [hH1, List.getElem?_set_ne (by decide)]; exact h0
        have a1 : H1[1]? = some (.box [.f (fi 0), .f (fi 0), .f (fi 0), .f (fi 0), .f .nils, .f (fi 0), .f .nils] 0) := by rw [hH1, List.getElem?_set_ne (by decide)]; exact h1
        have a4 : H1[4]? = some (.box [.f .nils, .f (fi (x.f % 9)), .f (fi per), c] 0) := by rw [hH1, List.getElem?_set_ne (by decide)]; exact h4
        have a2 : H1[2]? = some (.box [.f (fi (1 + x.m % 6)), .f (fi (x.r % 3)), .f (fi (x.t % 3)), .f (fi (1 + x.z % 12)), .f .nils, .f (fi (15 * (1 + x.le % 12))), .f .nils] 0) := by rw [hH1, List.getElem?_set_self (lt_of_get h2)]
        have aB : LBj true H1 c l := by rw [hH1]; exact hB.set h2
        have aL : 5 ≤ H1.length := by rw [hH1, List.length_set]; exact h5
        clear hH1
        refine kw_seq (kw_region (.inl rfl) ?_)
        simp [g1, a0, q7, rem80, wrap64 (n := x.mi % 80) (by omega) (by omega), wrap64 (n := 15 * (x.mi % 80)) (by omega) (by omega), wrap64 (n := 60 + 15 * (x.mi % 80)) (by omega) (by omega)]
        refine kw_seq (kw_region (.inl rfl) ?_)
        have a2g : ∀ (L : Heap) (h : 2 < (H1 ++ L).length), (H1 ++ L)[2] = .box [.f (fi (1 + x.m % 6)), .f (fi (x.r % 3)), .f (fi (x.t % 3)), .f (fi (1 + x.z % 12)), .f .nils, .f (fi (15 * (1 + x.le % 12))), .f .nils] 0 := fun L h => by
          have := List.getElem?_append_left (l₂ := L) (lt_of_get a2)
          rw [a2, List.getElem?_eq_getElem h] at this
          exact Option.some.inj this
        simp [g3, g4, a4, a2g]
        obtain ⟨MI, hMI⟩ : ∃ y, y = 60 + 15 * (x.mi % 80) := ⟨_, rfl⟩
        rw [← hMI] at stage2 ⊢
        obtain ⟨H2, hH2⟩ : ∃ H2, H2 = (H1 ++ [Blk.box [.f .nils, .f (fi (x.f % 9)), .f (fi per), c] 0, .box [.sl H1.length 0 1 1 0 4] 0, .box [.sl (H1.length + 1) 0 1 1 0 1, .f (fi MI)] 0]).set 2
          (.box [.f (fi (1 + x.m % 6)), .f (fi (x.r % 3)), .f (fi (x.t % 3)), .f (fi (1 + x.z % 12)), .sl (H1.length + 2) 0 1 1 0 2, .f (fi (15 * (1 + x.le % 12))), .f .nils] 0) := ⟨_, rfl⟩
        rw [← hH2]
        have up : ∀ (b : Nat) cs fl, b ≠ 2 → H1[b]? = some (.box cs fl) → H2[b]? = some (.box cs fl) := fun b cs fl hb h => by
          rw [hH2, List.getElem?_set_ne (Ne.symm hb), List.getElem?_append_left (lt_of_get h)]; exact h
        have b0 := up _ _ _ (by decide) a0
        have b1 := up _ _ _ (by decide) a1
        have b4 := up _ _ _ (by decide) a4
        have b2 : H2[2]? = some (.box [.f (fi (1 + x.m % 6)), .f (fi (x.r % 3)), .f (fi (x.t % 3)), .f (fi (1 + x.z % 12)), .sl (H1.length + 2) 0 1 1 0 2, .f (fi (15 * (1 + x.le % 12))), .f .nils] 0) := by
          rw [hH2, List.getElem?_set_self (by simp)]
        have bN0 : H2[H1.length]? = some (.box [.f .nils, .f (fi (x.f % 9)), .f (fi per), c] 0) := by rw [hH2, List.getElem?_set_ne (by omega)]; simp
        have bN1 : H2[H1.length + 1]? = some (.box [.sl H1.length 0 1 1 0 4] 0) := by rw [hH2, List.getElem?_set_ne (by omega)]; simp
        have bN2 : H2[H1.length + 2]? = some (.box [.sl (H1.length + 1) 0 1 1 0 1, .f (fi MI)] 0) := by rw [hH2, List.getElem?_set_ne (by omega)]; simp
        have bB : LBj true H2 c l := by
          rw [hH2]
          refine (aB.push _).set (cs := [.f (fi (1 + x.m % 6)), .f (fi (x.r % 3)), .f (fi (x.t % 3)), .f (fi (1 + x.z % 12)), .f .nils, .f (fi (15 * (1 + x.le % 12))), .f .nils]) (fl := 0) ?_
          rw [List.getElem?_append_left (by omega)]; exact a2
        clear hH2
        have hempty := empty_sp ⟨.nil, [], x.f % 9, per, .nil, l⟩ (by simp [PerD.Sm]; omega)
        obtain ⟨be, hbe⟩ : ∃ be, be = (perB ⟨.nil, [], x.f % 9, per, .nil, l⟩ && decide ((([] : List Int).length : Int) + l.length = 0)) := ⟨_, rfl⟩
        simp only [← hbe] at hempty
        have hex : exC deep H2 c = some (sl .nil (ints l)) := bB.ex 63
        obtain ⟨mB, mK⟩ := bB.mk 63
        have hdeep : mkC (63 + 1) c H2 = mkC deep c H2 := rfl
        rw [hdeep] at mB mK
        have hsl0 : sl .nil (ints []) = .nils := rfl
        simp [PerD.row, hsl0] at hempty
        refine kw_seq ?_
        refine kw_seq (kw_region (.inl rfl) ?_)
        simp [g4, b4, hex, hempty]
        have m0 := mK _ _ _ b0
        have m1 := mK _ _ _ b1
        have m2 := mK _ _ _ b2
        have mC : Cls (mkC deep c H2) (.sl (H1.length + 2) 0 1 1 0 2) (x.f % 9) per MI l := .inr ⟨H1.length, c, 0, 0, 0, aL, rfl, mK _ _ _ bN0, mK _ _ _ bN1, mK _ _ _ bN2, mB⟩
        cases be
        · refine kw_cond_f (by simp) (kw_skip ?_)
          exact stage2 _ _ _ l (by simp [g1]) (by simp [g2]) (by simp [g3]) m0 m1 m2 mC hl
        · refine kw_cond_t (by simp) ?_
          refine kw_region (.inl rfl) ?_
          simp [g3, m2]
          refine stage2 _ _ (.f .nils) l (by simp [g1]) (by simp [g2]) (by simp [g3]) ?_ ?_ ?_ (.inl rfl) hl
          · rw [List.getElem?_set_ne (by decide)]; exact m0
          · rw [List.getElem?_set_ne (by decide)]; exact m1
          · rw [List.getElem?_set_self (lt_of_get m2)]
      refine kw_seq ?_
      refine kw_seq (kw_region (.inl rfl) ?_)
      simp
      refine kw_cfor per (fun j t H => t.g 1 = .c (.ptr 0 0 0) ∧ t.g 2 = .c (.ptr 1 0 0) ∧ t.g 3 = .c (.ptr 2 0 0) ∧ t.g 4 = .c (.ptr 4 0 0) ∧ H[0]? = some (.box RAW 0) ∧
        H[1]? = some (.box [.f (fi 0), .f (fi 0), .f (fi 0), .f (fi 0), .f .nils, .f (fi 0), .f .nils] 0) ∧
        H[2]? = some (.box [.f (fi (1 + x.m % 6)), .f (fi (x.r % 3)), .f (fi (x.t % 3)), .f (fi (1 + x.z % 12)), .f .nils, .f (fi 0), .f .nils] 0) ∧ 5 ≤ H.length ∧
        ∃ c l, H[4]? = some (.box [.f .nils, .f (fi (x.f % 9)), .f (fi per), c] 0) ∧ LBj true H c l ∧ l.length ≤ j) (by omega) rfl (by simp)
        ⟨by simp [g1], by simp [g2], by simp [g3], by simp [g4], rfl, rfl, rfl, by simp, .f .nils, [], rfl, .inl ⟨rfl, rfl⟩, by simp⟩ ?_ ?_ ?_
      · rintro j t H L hj ⟨g1, g2, g3, g4, h0, h1, h2, h5, c, l, h4, hB, hl⟩ ha hL
        simp [ha, g4, h4]
        exact hL _ ⟨by simp [g1], by simp [g2], by simp [g3], by simp [g4], h0, h1, h2, h5, c, l, h4, hB, hl⟩ (by simp [ha]) (by simp)
      · rintro j t H hj ⟨g1, g2, g3, g4, h0, h1, h2, h5, c, l, h4, hB, hl⟩ ha next
        obtain ⟨u, hu⟩ : ∃ u, binV .shr (.c (.f (.int .u8 x.c))) (vi (j : Int)) = some (.c (.f (.int .u8 u))) := ⟨_, by simp [binV]; rfl⟩
        obtain ⟨w, hw⟩ : ∃ w, binV .rem (.c (.f (.int .u8 u))) (.c (.f (.int .u8 2))) = some (.c (.f (.int .u8 w))) := ⟨_, by simp [bin_rem]; rfl⟩
        refine kw_block ?_
        refine kw_seq (kw_region (.inl rfl) ?_)
        simp [g1, h0, q6, ha, hu, hw]
        by_cases hw1 : w = 1
        · refine kw_cond_t (by simp [hw1]) ?_
          obtain ⟨v', H', e1, e2, e3, e4⟩ := LB.app (H := H ++ [.box [.f (fi j)] 0]) (row := [fi j]) (bytes := 8) (y := .c (.sl H.length 0 1 1 0 1)) ((hB.i).push _) (ints_grid _) rfl (by decide)
            (added_box (fl := 0) (cs := [.f (fi j)]) (by simp) rfl) (by simp [mapO]) (by simp [roomOK]; omega)
          obtain ⟨c', rfl, _⟩ := e2.len
          have e2 : LBi true H' c' (l ++ [(j : Int)]) := by
            have : ints (l ++ [(j : Int)]) = ints l ++ [[fi j]] := by simp [ints]
            show LB true H' 1 (.c c') .nil (ints (l ++ [(j : Int)]))
            rw [this]; exact e2
          have up : ∀ (b : Nat) cs fl, H[b]? = some (.box cs fl) → H'[b]? = some (.box cs fl) := fun b cs fl hb => e4 _ _ _ (by rw [List.getElem?_append_left (lt_of_get hb)]; exact hb)
          have h4' := up _ _ _ h4
          refine kw_region (.inl rfl) ?_
          simp [g4, h4, ha, e1, h4']
          refine kw_inBlock (next _ _ ?_ (by simp [ha]))
          refine ⟨by simp [g1], by simp [g2], by simp [g3], by simp [g4], by rw [List.getElem?_set_ne (by decide)]; exact up _ _ _ h0, by rw [List.getElem?_set_ne (by decide)]; exact up _ _ _ h1, by rw [List.getElem?_set_ne (by decide)]; exact up _ _ _ h2, by simp at e3 ⊢; omega,
            c', l ++ [(j : Int)], List.getElem?_set_self (lt_of_get h4'), e2.j.set h4', by simp; omega⟩
        · refine kw_cond_f (by simp [hw1]) ?_
          refine kw_skip (kw_inBlock (next _ _ ?_ (by simp [ha])))
          exact ⟨by simp [g1], by simp [g2], by simp [g3], by simp [g4], h0, h1, h2, h5, c, l, h4, hB, by omega⟩
      · rintro t H ⟨g1, g2, g3, g4, h0, h1, h2, h5, c, l, h4, hB, hl⟩ ha
        exact stage1 t H c l g1 g2 g3 g4 h0 h1 h2 h4 h5 hB (by omega)
    refine kw_seq (kw_region (.inl rfl) ?_)
    simp [RawD.row]
    refine kw_seq (kw_region (.inl rfl) ?_)
    simp (disch := omega) [wrap64, wrapu8, Int.tmod_eq_emod_of_nonneg, Int.tdiv_eq_ediv_of_nonneg, bin_rem, bin_quo, List.getElem?_cons_zero, List.getElem?_cons_succ]
    refine kw_seq (kw_region (.inl rfl) ?_)
    have rem9 : binV .rem (.c (.f (.int .u8 x.f))) (.c (.f (.int .u8 9))) = some (.c (.f (.int .u8 (x.f % 9)))) := by simp (disch := omega) [bin_rem, Int.tmod_eq_emod_of_nonneg]
    have rem8 : binV .rem (.c (.f (.int .u8 x.p))) (.c (.f (.int .u8 8))) = some (.c (.f (.int .u8 (i : Int)))) := by simp (disch := omega) [bin_rem, Int.tmod_eq_emod_of_nonneg, hi]
    simp [rem9, rem8, hix, hld, wrap64 (n := x.f % 9) (by omega) (by omega)]
    exact cont _ (by simp) (by simp) (by simp) (by simp)
  exact ⟨s, hs, h⟩
end Go.Proofs.YtdkmkodemmidjaaGreat
end

section
namespace Go.Proofs.YtdkmkodemmidjaaGreat
open Go Km

theorem rowsne {a b c : RoomD} : rows [a, b, c] ≠ [] := by simp [rows]

/-- What stays while arguments are passed by value. -/
def Inv (z : Bool) (B : List (List Int)) (rs : List RoomD) (s bad : StandD) (n : Nat) (cv : C) (H : Heap) : Prop := LB z H 15 (.c cv) .es (rows rs) ∧ (∃ fl, H[0]? = some (.box ((bytesC B).flatten.map .f) fl)) ∧ (∃ fl, H[n]? = some (.box (s.row.map .f) fl)) ∧
  (∃ fl, H[n + 1]? = some (.box (s.row.map .f) fl)) ∧ ∃ fl, H[n + 2]? = some (.box (bad.row.map .f) fl)
theorem Inv.push {z : Bool} {B : List (List Int)} {rs : List RoomD} {s bad : StandD} {n : Nat} {cv : C} {H : Heap} (h : Inv z B rs s bad n cv H) (L : Heap) : Inv z B rs s bad n cv (H ++ L) := by
  have up : ∀ {b : Nat} {cs : List C}, (∃ fl, H[b]? = some (.box cs fl)) → ∃ fl, (H ++ L)[b]? = some (.box cs fl) := fun ⟨fl, h⟩ => ⟨fl, by rw [List.getElem?_append_left (lt_of_get h)]; exact h⟩
  obtain ⟨h1, h2, h3, h4, h5⟩ := h
  exact ⟨h1.push L, up h2, up h3, up h4, up h5⟩
theorem Inv.marked {z : Bool} {B : List (List Int)} {rs : List RoomD} {s bad : StandD} {n : Nat} {cv : C} {H H' : Heap} (h : Inv z B rs s bad n cv H) (hne : rows rs ≠ []) (hm : Marks H H') : Inv false B rs s bad n cv H' := by
  have up : ∀ {b : Nat} {cs : List C}, (∃ fl, H[b]? = some (.box cs fl)) → ∃ fl, H'[b]? = some (.box cs fl) := fun ⟨fl, h⟩ => hm.box h
  obtain ⟨h1, h2, h3, h4, h5⟩ := h
  exact ⟨h1.marked hne hm, up h2, up h3, up h4, up h5⟩
theorem Inv.exl {z : Bool} {B : List (List Int)} {rs : List RoomD} {s bad : StandD} {n : Nat} {cv : C} {H : Heap} (h : Inv z B rs s bad n cv H) : exC deep H (.sl (n + 1) 0 1 1 0 7) = some (sl .fs (standRows [s])) := by
  obtain ⟨-, -, -, ⟨fl, h⟩, -⟩ := h
  simp only [deep, ex_sl, h]
  rw [if_pos (by simp [StandD.row]), List.drop_zero, List.take_of_length_le (by simp [StandD.row]), mapO_f]
  simp [sl, standRows]
theorem Inv.mk2 {z : Bool} {B : List (List Int)} {rs : List RoomD} {s bad : StandD} {n : Nat} {cv : C} {H : Heap} (h : Inv z B rs s bad n cv H) (hne : rows rs ≠ []) : Inv false B rs s bad n cv (mkC deep (.sl (n + 1) 0 1 1 0 7) (mkC deep cv H)) := by
  have h1 := h.marked hne (h.1.marks (rows_grid rs))
  have h1' := h1
  obtain ⟨-, -, -, ⟨fl, h4⟩, -⟩ := h1'
  exact h1.marked hne (marks_sl h4)

theorem Inv.mm {z : Bool} {B : List (List Int)} {rs : List RoomD} {s bad : StandD} {n : Nat} {cv : C} {H : Heap} (h : Inv z B rs s bad n cv H) (hne : rows rs ≠ []) : Marks H (mkC deep (.sl (n + 1) 0 1 1 0 7) (mkC deep cv H)) := by
  have m1 := h.1.marks (rows_grid rs)
  have h1 := h.marked hne m1
  obtain ⟨-, -, -, ⟨fl, h4⟩, -⟩ := h1
  exact m1.trans (marks_sl h4)
theorem list_two (rs : List RoomD) (s : StandD) : listB rs [s, s] = false := by
  have : cmpS s s = 0 := by simp [cmpS, cmpI, orI]
  simp [listB, standsB, this]

theorem evalid0 : (CF tab.get 300 60 (.fn F_ref16_Valid) [.a [.f (.fs [.fs [.fs [.nils, fi 0, fi 1, .fs [fi 0] 1] 1] 1, fi 0] 1), .f (fi 10000), .f .nils]] []).map (·.1) = some (vb true) := by kernel_rfl
theorem evalid : Km.Pure tab.get F_ref16_Valid [.a [.f (.fs [.fs [.fs [.nils, fi 0, fi 1, .fs [fi 0] 1] 1] 1, fi 0] 1), .f (fi 10000), .f .nils]] = Eq (vb true) := (pure_closed evalid0).eq
def RoomD.b100 (r : RoomD) : RoomD := { r with bef := 100 }
theorem rows_set (l : List RoomD) (i : Nat) (hi : i < l.length) : (rows l).set i (l[i].row.set 1 (fi 100)) = rows (l.set i l[i].b100) := by
  simp only [rows, List.map_set]
  rfl
theorem good_b {r : RoomD} (h : Good r) : bigB r.b100 = false ∧ r.b100.p = [] ∧ (withinB r.b100.cap 1 512 && withinB r.b100.bef 0 1440 && withinB r.b100.aft 0 1440 && quotasB (-1) r.b100.q) = true := by
  obtain ⟨a, b, c, cap, bef, aft, qg, q, rfl, _, _, _, h1, h2, h3, h4, h5, h6, hq⟩ := h
  refine ⟨?_, rfl, ?_⟩
  · rcases hq with rfl | ⟨t, m, rfl, _⟩ <;> simp [bigB, madeD, RoomD.b100]
  · simp only [madeD, RoomD.b100]
    rw [withinB_y (by omega) (by omega), withinB_y (by omega) (by omega), withinB_y (by omega) (by omega)]
    rcases hq with rfl | ⟨t, m, rfl, t1, t2, m1, m2⟩
    · rfl
    · simp only [quotasB]
      rw [withinB_y (by omega) (by omega), withinB_y (by omega) (by omega), withinB_y (by omega) (by omega), withinB_y (by omega) (by omega)]
      rfl
theorem good_facts {r : RoomD} (h : Good r) : bigB r = false ∧ r.p = [] ∧ (withinB r.cap 1 512 && withinB r.bef 0 1440 && withinB r.aft 0 1440 && quotasB (-1) r.q) = true ∧ 0 ≤ r.aft ∧ r.aft ≤ 20 := by
  obtain ⟨a, b, c, cap, bef, aft, qg, q, rfl, _, _, _, h1, h2, h3, h4, h5, h6, hq⟩ := h
  refine ⟨?_, rfl, ?_, h5, h6⟩
  · rcases hq with rfl | ⟨t, m, rfl, _⟩ <;> simp [bigB, madeD]
  · simp only [madeD]
    rw [withinB_y (by omega) (by omega), withinB_y (by omega) (by omega), withinB_y (by omega) (by omega)]
    rcases hq with rfl | ⟨t, m, rfl, t1, t2, m1, m2⟩
    · rfl
    · simp only [quotasB]
      rw [withinB_y (by omega) (by omega), withinB_y (by omega) (by omega), withinB_y (by omega) (by omega), withinB_y (by omega) (by omega)]
      rfl
/-- Three rooms in order are valid. -/
theorem three_valid (a b c : RoomD) (h : Bool) (ha : bigB a = false ∧ a.p = [] ∧ (withinB a.cap 1 512 && withinB a.bef 0 1440 && withinB a.aft 0 1440 && quotasB (-1) a.q) = true)
    (hb : bigB b = false ∧ b.p = [] ∧ (withinB b.cap 1 512 && withinB b.bef 0 1440 && withinB b.aft 0 1440 && quotasB (-1) b.q) = true)
    (hc : bigB c = false ∧ c.p = [] ∧ (withinB c.cap 1 512 && withinB c.bef 0 1440 && withinB c.aft 0 1440 && quotasB (-1) c.q) = true) :
    validI [a, b, if h then { c with pg := .fs, p := [0, 1] } else c] = 0 := by
  obtain ⟨a1, a2, a3⟩ := ha
  obtain ⟨b1, b2, b3⟩ := hb
  obtain ⟨c1, c2, c3⟩ := hc
  cases h
  · have hb : [a, b, c].any bigB = false := by simp [a1, b1, c1]
    have hp : allProper [a, b, c] 0 [a, b, c] = true := by simp [allProper, properB, a2, b2, c2, partsB, a3, b3, c3]
    simp [validI, hb, hp]
  · have c1' : bigB { c with pg := .fs, p := [0, 1] } = false := by
      simp [bigB] at c1 ⊢
      exact c1.1
    have hb : [a, b, { c with pg := .fs, p := [0, 1] }].any bigB = false := by simp [a1, b1, c1']
    have hp : allProper [a, b, { c with pg := .fs, p := [0, 1] }] 0 [a, b, { c with pg := .fs, p := [0, 1] }] = true := by
      simp [withinB] at a3 b3 c3
      simp [allProper, properB, a2, b2, partsB, a3, b3, c3, plen, withinB]
    simp [validI, hb, hp]
theorem long_valid : streamB longS = true := by decide
theorem trio_long {lg : List RoomD} {h : Bool} (ht : Trio lg h) {i : Nat} (hi : i < lg.length) (s : StandD) (hs : s.Fine) (hr : s.room = i) : (∀ r ∈ lg.set i lg[i].b100, OpenOK r) ∧ listB (lg.set i lg[i].b100) [{ s with st := longS }] = true ∧ 0 ≤ lg[i].aft ∧ lg[i].aft ≤ 20 ∧ lg[i].p.length ≤ 64 := by
  obtain ⟨a, b, c, ga, gb, gc, rfl⟩ := ht
  have fa := good_facts ga
  have fb := good_facts gb
  have fc := good_facts gc
  have oa := good_open ga
  have ob := good_open gb
  have oc := good_open gc
  have ta : _ ∧ _ ∧ _ := ⟨fa.1, fa.2.1, fa.2.2.1⟩
  have tb : _ ∧ _ ∧ _ := ⟨fb.1, fb.2.1, fb.2.2.1⟩
  have tc : _ ∧ _ ∧ _ := ⟨fc.1, fc.2.1, fc.2.2.1⟩
  have ls : ∀ rs : List RoomD, rs.length = 3 → validI rs = 0 → listB rs [{ s with st := longS }] = true := by
    intro rs h3 hv
    obtain ⟨s1, s2, s3, s4, s5, s6, s7, s8, _⟩ := hs
    simp only [listB, standsB, standB, h3, hv, long_valid]
    rw [withinB_y (n := s.room) (by omega) (by omega), withinB_y (n := s.team) (by omega) (by omega), withinB_y (n := s.size) (by omega) (by omega), decide_eq_true s1]
    rfl
  have hi' : i < 3 := by simpa using hi
  match i, hi' with
  | 0, _ =>
    refine ⟨?_, ls _ rfl (three_valid a.b100 b c h (good_b ga) tb tc), fa.2.2.2.1, fa.2.2.2.2, by simp [fa.2.1]⟩
    intro r hr
    simp at hr
    rcases hr with rfl | rfl | rfl
    · exact oa
    · exact ob
    · cases h <;> exact oc
  | 1, _ =>
    refine ⟨?_, ls _ rfl (three_valid a b.b100 c h ta (good_b gb) tc), fb.2.2.2.1, fb.2.2.2.2, by simp [fb.2.1]⟩
    intro r hr
    simp at hr
    rcases hr with rfl | rfl | rfl
    · exact oa
    · exact ob
    · cases h <;> exact oc
  | 2, _ =>
    have e : [a, b, if h then { c with pg := .fs, p := [0, 1] } else c].set 2 (if h then { c with pg := .fs, p := [0, 1] } else c : RoomD).b100 = [a, b, if h then { c.b100 with pg := .fs, p := [0, 1] } else c.b100] := by cases h <;> rfl
    refine ⟨?_, ?_, ?_⟩
    · intro r hr
      have hr : r ∈ [a, b, if h then { c.b100 with pg := .fs, p := [0, 1] } else c.b100] := e ▸ hr
      simp at hr
      rcases hr with rfl | rfl | rfl
      · exact oa
      · exact ob
      · cases h <;> exact oc
    · have := ls _ rfl (three_valid a b c.b100 h ta tb (good_b gc))
      rw [← e] at this
      exact this
    · cases h
      · exact ⟨fc.2.2.2.1, fc.2.2.2.2, by simp [fc.2.1]⟩
      · exact ⟨fc.2.2.2.1, fc.2.2.2.2, by simp⟩

/-- The law's end: from the calls with what is spoiled. -/
theorem rest_wp (hsan : Km.Pure tab.get F_law18_sanity [] (vb true)) (B : List (List Int)) (hBl : B.length = 3) (hBr : ∀ r ∈ B, r.length = 5 ∧ ∀ n ∈ r, 0 ≤ n ∧ n ≤ 255) (x : RawD) (s bad : StandD) (hs : s.Fine) (hbad : bad.st.Sm)
    (rs : List RoomD) (hrs : rs.length = 3) (ho : ∀ r ∈ rs, OpenOK r) (hno : listB rs [s] = true → standB rs.length bad = true → cmpS s bad = 0) (n : Nat) (hn : 2 ≤ n) {Q : Option ACode → St → Prop}
    (hQ : ∀ j s, FinP [.tmp (P.nat 6)] (vb true) s → Q j s) (t : T) (H : Heap) (cv : C) (g3 : t.g 3 = .c (.ptr 0 0 0)) (g7 : t.g 7 = vb true) (g8 : t.g 8 = .c cv) (g9 : t.g 9 = .c (.ptr n 0 0)) (g11 : t.g 11 = .c (.sl (n + 1) 0 1 1 0 7)) (g12 : t.g 12 = .c (.ptr (n + 2) 0 0))
    (hI : Inv true B rs s bad n cv H) :
    WP tab.get F_law18_RoomRejectsInvalid none [.code C_law18_RoomRejectsInvalid_52] ⟨t, [], H⟩ Q := by
  have hRne : rows rs ≠ [] := by intro h; have := congrArg List.length h; simp [hrs] at this
  have had := admit_no .es rs s bad (by omega) ho hs.2.2.2.2.2.2.2.2 hbad hno
  have hck := check_no .es rs s bad 14 (by omega) ho hs.2.2.2.2.2.2.2.2 hbad hno
  simp only [StandD.row, List.map_cons, List.map_nil] at had hck
  have fz := hI.1.fz (rows_grid rs)
  have exl := hI.exl
  have hI2 := hI.mk2 hRne
  obtain ⟨-, -, -, -, fl2, hn2⟩ := hI
  simp only [StandD.row, List.map_cons, List.map_nil] at hn2
  refine kw_seq (kw_region (.inl rfl) ?_)
  simp at fz
  simp [g8, g11, g12, hn2, fz, exl, had, RefZ]
  have hI3 := hI2.push [.box [.f (fi 0), .f (fi 0), .f (fi 0), .f (fi 0), .f (fi 0), .f (fi 0), .f (fi 0), .f (fi 0)] 0]
  have hz : (mkC deep (.sl (n + 1) 0 1 1 0 7) (mkC deep cv H) ++ [.box [.f (fi 0), .f (fi 0), .f (fi 0), .f (fi 0), .f (fi 0), .f (fi 0), .f (fi 0), .f (fi 0)] 0])[(mkC deep (.sl (n + 1) 0 1 1 0 7) (mkC deep cv H)).length]? = some (Blk.box [.f (fi 0), .f (fi 0), .f (fi 0), .f (fi 0), .f (fi 0), .f (fi 0), .f (fi 0), .f (fi 0)] 0) := by simp
  generalize (mkC deep (.sl (n + 1) 0 1 1 0 7) (mkC deep cv H)).length = m at hz ⊢
  generalize (mkC deep (.sl (n + 1) 0 1 1 0 7) (mkC deep cv H) ++ [Blk.box [.f (fi 0), .f (fi 0), .f (fi 0), .f (fi 0), .f (fi 0), .f (fi 0), .f (fi 0), .f (fi 0)] 0]) = H3 at hz hI3 ⊢
  clear hI2 hn2 exl fz
  have fz := hI3.1.fz (rows_grid rs)
  have exl := hI3.exl
  have hI4 := hI3.mk2 hRne
  have mm4 := hI3.mm hRne
  obtain ⟨-, -, -, -, fl3, hn2⟩ := hI3
  simp only [StandD.row, List.map_cons, List.map_nil] at hn2
  simp at fz
  refine kw_seq (kw_region (.inl rfl) ?_)
  simp [g8, g11, g12, hn2, fz, exl, hck]
  have hI4m := hI4
  obtain ⟨-, -, -, -, fl4, hn4⟩ := hI4m
  have hz4 := mm4.box hz
  generalize mkC deep (C.sl (n + 1) 0 1 1 0 7) (mkC deep cv H3) = H4 at hI4 hn4 hz4 ⊢
  clear hn2 fz exl hz mm4
  have fz := fun L => (hI4.push L).1.fz (rows_grid rs)
  simp at fz
  simp only [StandD.row, List.map_cons, List.map_nil] at hn4
  have hso := sound_no .es .fs rs [bad, bad] (by omega) ho (by simp) (by simpa using hbad) (list_two rs bad)
  have hn4p : ∀ L : Heap, (H4 ++ L)[n + 2]? = some (.box [.f (fi bad.meet), .f (fi bad.room), .f (fi bad.team), .f (fi bad.size), .f (sl bad.st.cg (classRows bad.st.cs)), .f (fi bad.st.len), .f (sl bad.st.xg (instRows bad.st.xs))] fl4) := fun L => by
    rw [List.getElem?_append_left (lt_of_get hn4)]; exact hn4
  have hroom : roomOK 2 88 = true := by decide
  have hso' : Km.Pure tab.get F_room_Sound [.c (.f (sl .es (rows rs))), .c (.f (.fs [fi bad.meet, fi bad.room, fi bad.team, fi bad.size, sl bad.st.cg (classRows bad.st.cs), fi bad.st.len, sl bad.st.xg (instRows bad.st.xs), fi bad.meet, fi bad.room, fi bad.team, fi bad.size, sl bad.st.cg (classRows bad.st.cs), fi bad.st.len, sl bad.st.xg (instRows bad.st.xs)] 2))] = Eq (.t [vb false, vi 1]) := hso
  obtain ⟨LL, hLL⟩ : ∃ LL : Heap, LL = [.box [.f (fi bad.meet), .f (fi bad.room), .f (fi bad.team), .f (fi bad.size), .f (sl bad.st.cg (classRows bad.st.cs)), .f (fi bad.st.len), .f (sl bad.st.xg (instRows bad.st.xs))] 0,
    .box [.f (fi bad.meet), .f (fi bad.room), .f (fi bad.team), .f (fi bad.size), .f (sl bad.st.cg (classRows bad.st.cs)), .f (fi bad.st.len), .f (sl bad.st.xg (instRows bad.st.xs))] 0,
    .opn 7 [.f (fi bad.meet), .f (fi bad.room), .f (fi bad.team), .f (fi bad.size), .f (sl bad.st.cg (classRows bad.st.cs)), .f (fi bad.st.len), .f (sl bad.st.xg (instRows bad.st.xs)), .f (fi bad.meet), .f (fi bad.room), .f (fi bad.team), .f (fi bad.size), .f (sl bad.st.cg (classRows bad.st.cs)), .f (fi bad.st.len), .f (sl bad.st.xg (instRows bad.st.xs))] 0 0 .loc] := ⟨_, rfl⟩
  have hop : (H4 ++ LL)[H4.length + 2]? = some (.opn 7 ([fi bad.meet, fi bad.room, fi bad.team, fi bad.size, sl bad.st.cg (classRows bad.st.cs), fi bad.st.len, sl bad.st.xg (instRows bad.st.xs), fi bad.meet, fi bad.room, fi bad.team, fi bad.size, sl bad.st.cg (classRows bad.st.cs), fi bad.st.len, sl bad.st.xg (instRows bad.st.xs)].map .f) 0 0 .loc) := by rw [hLL]; simp
  have exl2 : exC deep (H4 ++ LL) (.sl (H4.length + 2) 0 2 0 0 7) = some (.fs [fi bad.meet, fi bad.room, fi bad.team, fi bad.size, sl bad.st.cg (classRows bad.st.cs), fi bad.st.len, sl bad.st.xg (instRows bad.st.xs), fi bad.meet, fi bad.room, fi bad.team, fi bad.size, sl bad.st.cg (classRows bad.st.cs), fi bad.st.len, sl bad.st.xg (instRows bad.st.xs)] 2) := by
    simp only [deep, ex_sl, hop]
    simp
  have hI5 := hI4.push LL
  have ma := hI5.1.marks (rows_grid rs)
  obtain ⟨fl5, hop2, -⟩ := ma.opn hop
  have mb := marks_opn (l := 2) (c := 0) (e := 0) hop2 (by simp)
  have mab := ma.trans mb
  have hI6 := hI5.marked hRne mab
  have hz6 : ∃ fl, (H4 ++ LL)[m]? = some (.box [.f (fi 0), .f (fi 0), .f (fi 0), .f (fi 0), .f (fi 0), .f (fi 0), .f (fi 0), .f (fi 0)] fl) := by
    obtain ⟨fl, h⟩ := hz4
    exact ⟨fl, by rw [List.getElem?_append_left (lt_of_get h)]; exact h⟩
  obtain ⟨fz6, hz6⟩ := hz6
  have hz6 := mab.box hz6
  have fzL := fz LL
  rw [hLL] at fzL exl2
  refine kw_seq (kw_region (.inl rfl) ?_)
  simp [g8, g12, hn4, hn4p, appendV, addedV, slLen, slCells, hroom, fzL, exl2, hso']
  rw [← hLL]
  simp only [mk_c] at hI6 hz6
  generalize mkC deep (C.sl (H4.length + 2) 0 2 0 0 7) (mkC deep cv (H4 ++ LL)) = H5 at hI6 hz6 ⊢
  clear fzL exl2 hop hop2 ma mb mab hI5 fz
  have hbu := busy_no .es .fs rs [bad, bad] 0 0 0 (by omega) ho (by simp) (by simpa using hbad) (list_two rs bad)
  have hbu' : Km.Pure tab.get F_room_Busy [.c (.f (sl .es (rows rs))), .c (.f (.fs [fi bad.meet, fi bad.room, fi bad.team, fi bad.size, sl bad.st.cg (classRows bad.st.cs), fi bad.st.len, sl bad.st.xg (instRows bad.st.xs), fi bad.meet, fi bad.room, fi bad.team, fi bad.size, sl bad.st.cg (classRows bad.st.cs), fi bad.st.len, sl bad.st.xg (instRows bad.st.xs)] 2)), vi 0, .a [.f (fi 0), .f (fi 0)]] = Eq (.t [.c (.f .nils), vi 1]) := hbu
  obtain ⟨LM, hLM⟩ : ∃ LM : Heap, LM = [.box [.f (fi bad.meet), .f (fi bad.room), .f (fi bad.team), .f (fi bad.size), .f (sl bad.st.cg (classRows bad.st.cs)), .f (fi bad.st.len), .f (sl bad.st.xg (instRows bad.st.xs)), .f (fi bad.meet), .f (fi bad.room), .f (fi bad.team), .f (fi bad.size), .f (sl bad.st.cg (classRows bad.st.cs)), .f (fi bad.st.len), .f (sl bad.st.xg (instRows bad.st.xs))] 0] := ⟨_, rfl⟩
  have hox : (H5 ++ LM)[H5.length]? = some (.box ([fi bad.meet, fi bad.room, fi bad.team, fi bad.size, sl bad.st.cg (classRows bad.st.cs), fi bad.st.len, sl bad.st.xg (instRows bad.st.xs), fi bad.meet, fi bad.room, fi bad.team, fi bad.size, sl bad.st.cg (classRows bad.st.cs), fi bad.st.len, sl bad.st.xg (instRows bad.st.xs)].map .f) 0) := by rw [hLM]; simp
  have exl7 : exC deep (H5 ++ LM) (.sl H5.length 0 2 2 0 7) = some (.fs [fi bad.meet, fi bad.room, fi bad.team, fi bad.size, sl bad.st.cg (classRows bad.st.cs), fi bad.st.len, sl bad.st.xg (instRows bad.st.xs), fi bad.meet, fi bad.room, fi bad.team, fi bad.size, sl bad.st.cg (classRows bad.st.cs), fi bad.st.len, sl bad.st.xg (instRows bad.st.xs)] 2) := by
    simp only [deep, ex_sl, hox]
    simp
  have hI7 := hI6.push LM
  have ma := hI7.1.marks (rows_grid rs)
  obtain ⟨fl7, hox2⟩ := ma.box hox
  have mab := ma.trans (marks_sl (l := 2) (c := 2) (e := 0) (sz := 7) hox2)
  have hI8 := hI7.marked hRne mab
  have hz8 : ∃ fl, (H5 ++ LM)[m]? = some (.box [.f (fi 0), .f (fi 0), .f (fi 0), .f (fi 0), .f (fi 0), .f (fi 0), .f (fi 0), .f (fi 0)] fl) := by
    obtain ⟨fl, h⟩ := hz6
    exact ⟨fl, by rw [List.getElem?_append_left (lt_of_get h)]; exact h⟩
  obtain ⟨fz8, hz8⟩ := hz8
  have hz8 := mab.box hz8
  have fz7 := hI7.1.fz (rows_grid rs)
  simp at fz7
  have hI6' := hI6
  obtain ⟨-, -, -, -, fl6, hn6⟩ := hI6'
  simp only [StandD.row, List.map_cons, List.map_nil] at hn6
  rw [hLM] at fz7 exl7
  refine kw_seq (kw_region (.inl rfl) ?_)
  simp [g8, g12, hn6, fz7, exl7, hbu']
  rw [← hLM]
  simp only [mk_c] at hI8 hz8
  generalize mkC deep (C.sl H5.length 0 2 2 0 7) (mkC deep cv (H5 ++ LM)) = H6 at hI8 hz8 ⊢
  clear fz7 exl7 hox hox2 ma mab hI7
  obtain ⟨-, ⟨b0, h0⟩, ⟨b1, h1⟩, -, -⟩ := hI8
  obtain ⟨bz, hz⟩ := hz8
  have hlen : (bytesC B).flatten.length = 15 := by
    have hg : Grid 5 (bytesC B) := fun r hm => by
      obtain ⟨r', hm', rfl⟩ := List.mem_map.1 hm
      rw [List.length_map]; exact (hBr r' hm').1
    rw [flatten_len hg]; simp [bytesC, hBl]
  obtain ⟨r, H7, e7, ⟨lg, hh, htrio, hLB⟩, hK⟩ := rooms_h H6 B hBl hBr
  have e7 := e7.eq
  generalize (bytesC B).flatten = xs at h0 hlen e7
  have htk : List.take 15 (xs.map C.f) = xs.map C.f := List.take_of_length_le (by simp [hlen])
  refine kw_seq (kw_region (.inl rfl) ?_)
  simp [g3, h0, hlen, htk, e7]
  have k1 := hK _ _ _ h1
  have kz := hK _ _ _ hz
  simp only [StandD.row, List.map_cons, List.map_nil] at k1
  obtain ⟨i, hi⟩ : ∃ i : Nat, s.room = i := ⟨s.room.toNat, by have := hs.2.2.1; omega⟩
  have hi3 : i < 3 := by have := hs.2.2.2.1; omega
  have hl3 : lg.length = 3 := by obtain ⟨_, _, _, _, _, _, rfl⟩ := htrio; rfl
  obtain ⟨bb, ep, H8, st1, st2, hLB8, hK8⟩ := LB.st1 (H := H7) (row := (lg[i]'(by omega)).row) (j := i) (k := 1) (c := .f (fi 100)) (x := fi 100) hLB (rows_grid _) (rows_at (by omega)) (by decide) (by simp)
  simp at st1 st2
  have k1' := hK8 _ _ _ k1
  have kz' := hK8 _ _ _ kz
  refine kw_seq (kw_region (.inl rfl) ?_)
  simp [g9, k1, hi, st1, st2]
  refine kw_seq (kw_region (.inl rfl) ?_)
  simp [g9, k1']
  refine kw_seq (kw_region (.inl rfl) ?_)
  simp [all_sp]
  have hil : i < lg.length := by omega
  obtain ⟨ho9, hlist, haft0, haft1, hp9⟩ := trio_long htrio hil s hs hi
  have hset := rows_set lg i hil
  rw [hset] at hLB8
  have hbig := busy_big .es (lg.set i lg[i].b100) { s with st := longS } i (by simp; omega) ho9 (by simp; omega) hi rfl (by simp [RoomD.b100]) (by simpa [RoomD.b100] using haft0) (by simpa [RoomD.b100] using haft1) (by simpa [RoomD.b100] using hp9) hlist
  have hbig' : Km.Pure tab.get F_room_Busy [.c (.f (sl .es (rows (lg.set i lg[i].b100)))), .c (.f (.fs [fi s.meet, fi s.room, fi s.team, fi s.size, .fs [.fs [.fs [.nils, fi 0, fi 1, .fs [fi 0] 1] 1] 1, fi 0] 1, fi 10000, .nils] 1)), vi i, .a [.f (fi 0), .f (fi 0)]] = Eq (.t [.c (.f .nils), vi 2]) := hbig
  obtain ⟨cr, rfl, -⟩ := hLB8.len
  have k1p : ∀ L : Heap, (H8 ++ L)[n]? = some (.box [.f (fi s.meet), .f (fi s.room), .f (fi s.team), .f (fi s.size), .f (sl s.st.cg (classRows s.st.cs)), .f (fi s.st.len), .f (sl s.st.xg (instRows s.st.xs))] b1) := fun L => by
    rw [List.getElem?_append_left (lt_of_get k1')]; exact k1'
  obtain ⟨LN, hLN⟩ : ∃ LN : Heap, LN = [.box [.f (fi s.meet), .f (fi (i : Int)), .f (fi s.team), .f (fi s.size), .sl (H8.length + 1) 0 1 1 0 2, .f (fi 10000), .f .nils] 0,
    .box [.f (.fs [.fs [.nils, fi 0, fi 1, .fs [fi 0] 1] 1] 1), .f (fi 0)] 0,
    .box [.f (fi s.meet), .f (fi (i : Int)), .f (fi s.team), .f (fi s.size), .sl (H8.length + 1) 0 1 1 0 2, .f (fi 10000), .f .nils] 0] := ⟨_, rfl⟩
  have fz9 := (hLB8.push LN).fz (rows_grid _)
  simp at fz9
  have ma := (hLB8.push LN).marks (rows_grid _)
  have exN : exC deep (H8 ++ LN) (.sl (H8.length + 2) 0 1 1 0 7) = some (.fs [fi s.meet, fi (i : Int), fi s.team, fi s.size, .fs [.fs [.fs [.nils, fi 0, fi 1, .fs [fi 0] 1] 1] 1, fi 0] 1, fi 10000, .nils] 1) := by
    rw [hLN]; simp [deep, ex_sl]
  have exbN : exB deep (H8 ++ LN) (.sl (H8.length + 2) 0 1 1 0 7) = some (.fs [fi s.meet, fi (i : Int), fi s.team, fi s.size, .fs [.fs [.fs [.nils, fi 0, fi 1, .fs [fi 0] 1] 1] 1, fi 0] 1, fi 10000, .nils] 1) := by
    rw [hLN]; simp [deep, exB_sl]
  have mab := ma.trans (marks_mkC deep _ _ _ (ma.exB exbN))
  have kzL : (H8 ++ LN)[m]? = some (.box [.f (fi 0), .f (fi 0), .f (fi 0), .f (fi 0), .f (fi 0), .f (fi 0), .f (fi 0), .f (fi 0)] bz) := by rw [List.getElem?_append_left (lt_of_get kz')]; exact kz'
  have kA : (H8 ++ LN)[H8.length]? = some (.box [.f (fi s.meet), .f (fi (i : Int)), .f (fi s.team), .f (fi s.size), .sl (H8.length + 1) 0 1 1 0 2, .f (fi 10000), .f .nils] 0) := by rw [hLN]; simp
  have kB : (H8 ++ LN)[H8.length + 1]? = some (.box [.f (.fs [.fs [.nils, fi 0, fi 1, .fs [fi 0] 1] 1] 1), .f (fi 0)] 0) := by rw [hLN]; simp
  obtain ⟨x1, kzL⟩ := mab.box kzL
  obtain ⟨x2, kA⟩ := mab.box kA
  obtain ⟨x3, kB⟩ := mab.box kB
  rw [hLN] at fz9 exN
  rw [hi] at hbig'
  refine kw_seq (kw_region (.inl rfl) ?_)
  simp [g9, k1p, hi, fz9, exN, hbig']
  have e0 : (FC.int IntKind.i64 0) = fi 0 := rfl
  have kB' : exC deep (mkC deep (.sl (H8.length + 2) 0 1 1 0 7) (mkC deep cr (H8 ++ LN))) (.sl (H8.length + 1) 0 1 1 0 2) = some (.fs [.fs [.fs [.nils, fi 0, fi 1, .fs [fi 0] 1] 1] 1, fi 0] 1) := by
    simp only [mk_c] at kB
    simp [deep, ex_sl] at kB ⊢
    simp [kB]
  simp only [mk_c] at kzL kA
  refine kw_seq (kw_region (.inl rfl) ?_)
  rw [← hLN]
  simp [g7, kzL, kA, kB', evalid]
  refine kw_ret (hQ _ _ ?_)
  simp
end Go.Proofs.YtdkmkodemmidjaaGreat
end

section
namespace Go.Proofs.YtdkmkodemmidjaaGreat
open Go Km

theorem allP {l : List RoomD} : ∀ (k : Nat) (rs : List RoomD) (i : Nat) (hi : i < rs.length), properB l (k + i) rs[i] = false → allProper l k rs = false
  | k, r :: rs, 0, _, h => by
    have h : properB l k r = false := by simpa using h
    simp [allProper, h]
  | k, r :: rs, i + 1, hi, h => by
    have := allP (k + 1) rs i (by simpa using hi) (by
      have e : k + 1 + i = k + (i + 1) := by omega
      rw [e]
      simpa using h)
    simp [allProper, this]
theorem spoilt (l : List RoomD) (i : Nat) (hi : i < l.length) (r : RoomD) (h : properB (l.set i r) i r = false) (s : List StandD) : listB (l.set i r) s = false := by
  have hp : allProper (l.set i r) 0 (l.set i r) = false := allP 0 _ i (by simpa using hi) (by simpa using h)
  have : validI (l.set i r) ≠ 0 := by
    simp only [validI, hp]
    split <;> simp
  simp [listB, this]
theorem rows_setk (l : List RoomD) (i : Nat) (hi : i < l.length) (k : Nat) (x : FC) (r : RoomD) (hr : r.row = l[i].row.set k x) : (rows l).set i (l[i].row.set k x) = rows (l.set i r) := by
  simp only [rows, List.map_set, hr]
theorem open_set (l : List RoomD) (i : Nat) (r : RoomD) (h : ∀ x ∈ l, OpenOK x) (hr : OpenOK r) : ∀ x ∈ l.set i r, OpenOK x := fun x hx => by
  rcases List.mem_or_eq_of_mem_set hx with hx | rfl
  · exact h x hx
  · exact hr
end Go.Proofs.YtdkmkodemmidjaaGreat
end

section
namespace Go.Proofs.YtdkmkodemmidjaaGreat
open Go Km

theorem reject_km (hsan : Km.Pure tab.get F_law18_sanity [] (vb true)) (B : List (List Int)) (hBl : B.length = 3) (hBr : ∀ r ∈ B, r.length = 5 ∧ ∀ n ∈ r, 0 ≤ n ∧ n ≤ 255) (x : RawD) (hx : x.OK) (sp : Int) (sp0 : 0 ≤ sp) (sp1 : sp ≤ 255) :
    Km.Pure tab.get F_law18_RoomRejectsInvalid [.a ((bytesC B).flatten.map .f), .a (x.row.map .f), .c (.f (.int .u8 sp))] (vb true) := by
  obtain ⟨s, hs, hmade⟩ := made_ex x hx
  have hmade := Km.Pure.eq hmade
  have hsan' := hsan.eq
  refine pure_fn T_law18_RoomRejectsInvalid rfl fun Q hQ => ?_
  have hlen : (bytesC B).flatten.length = 15 := by
    have hg : Grid 5 (bytesC B) := fun r hm => by
      obtain ⟨r', hm', rfl⟩ := List.mem_map.1 hm
      rw [List.length_map]; exact (hBr r' hm').1
    rw [flatten_len hg]; simp [bytesC, hBl]
  obtain ⟨xs, hxs⟩ : ∃ xs, xs = (bytesC B).flatten := ⟨_, rfl⟩
  rw [← hxs] at hlen ⊢
  have htk : List.take 15 (xs.map C.f) = xs.map C.f := List.take_of_length_le (by simp [hlen])
  obtain ⟨r, H', e1, ⟨lg, hh, htrio, hLB⟩, hK⟩ := rooms_h [.box (xs.map .f) 0, .box (x.row.map .f) 0] B hBl hBr
  have e1 := e1.eq
  rw [← hxs] at e1
  have k0 := hK 0 _ _ rfl
  have k1 := hK 1 _ _ rfl
  have hrl : x.row.length = 10 := rfl
  generalize x.row = xr at hmade e1 hK k1 hrl ⊢
  have htk2 : List.take 10 (xr.map C.f) = xr.map C.f := List.take_of_length_le (by simp; omega)
  have hfold : ∀ H : Heap, (xr.map C.f).foldl (fun H x => mkC deep x H) H = H := fun H => foldl_f _ _ fun y hy => by obtain ⟨z, _, rfl⟩ := List.mem_map.1 hy; exact ⟨z, rfl⟩
  have hn : 2 ≤ H'.length := by have := lt_of_get k1; omega
  obtain ⟨cr, hcr, -⟩ := hLB.len
  have hrs3 : lg.length = 3 := by obtain ⟨_, _, _, _, _, _, rfl⟩ := htrio; rfl
  have hopen : ∀ r ∈ lg, OpenOK r := by
    obtain ⟨a, b, c, ga, gb, gc, rfl⟩ := htrio
    intro r hr
    simp at hr
    rcases hr with rfl | rfl | rfl
    · exact good_open ga
    · exact good_open gb
    · have oc := good_open gc
      cases hh <;> exact oc
  have hr9 := hs
  obtain ⟨s1, s2, s3, s4, s5, s6, s7, s8, s9⟩ := hr9
  -- what is spoiled lies in the stand
  have go : ∀ (t : T) (bad : StandD), bad.st.Sm → (standB 3 bad = true → cmpS s bad = 0) → t.g 3 = .c (.ptr 0 0 0) → t.g 7 = vb true → t.g 8 = r → t.g 9 = .c (.ptr H'.length 0 0) → t.g 11 = .c (.sl (H'.length + 1) 0 1 1 0 7) → t.g 12 = .c (.ptr (H'.length + 2) 0 0) →
      WP tab.get F_law18_RoomRejectsInvalid none [.code C_law18_RoomRejectsInvalid_52] ⟨t, [], H' ++ [.box (s.row.map .f) 0, .box (s.row.map .f) 0, .box (bad.row.map .f) 0]⟩ Q := by
    intro t bad hb hno g3 g7 g8 g9 g11 g12
    refine rest_wp hsan B hBl hBr x s bad hs hb lg hrs3 hopen (fun _ h => hno (by rwa [hrs3] at h)) H'.length hn hQ t _ cr g3 g7 (by rw [g8, hcr]) g9 g11 g12 ⟨?_, ⟨0, ?_⟩, ⟨0, by simp⟩, ⟨0, by simp⟩, ⟨0, by simp⟩⟩
    · rw [hcr] at hLB; exact hLB.push _
    · rw [List.getElem?_append_left (by omega), ← hxs]; exact k0
  have go2 : ∀ (t : T) (H8 : Heap) (i : Nat) (hi : i < lg.length) (r' : RoomD), OpenOK r' → properB (lg.set i r') i r' = false → LB true H8 15 r .es (rows (lg.set i r')) →
      (∀ (b : Nat) cs fl, (H' ++ [Blk.box (s.row.map .f) 0, .box (s.row.map .f) 0, .box (({ s with meet := 9 } : StandD).row.map .f) 0])[b]? = some (.box cs fl) → H8[b]? = some (.box cs fl)) →
      t.g 3 = .c (.ptr 0 0 0) → t.g 7 = vb true → t.g 8 = r → t.g 9 = .c (.ptr H'.length 0 0) → t.g 11 = .c (.sl (H'.length + 1) 0 1 1 0 7) → t.g 12 = .c (.ptr (H'.length + 2) 0 0) →
      WP tab.get F_law18_RoomRejectsInvalid none [.code C_law18_RoomRejectsInvalid_52] ⟨t, [], H8⟩ Q := by
    intro t H8 i hi r' ho hp hL hk g3 g7 g8 g9 g11 g12
    refine rest_wp hsan B hBl hBr x s { s with meet := 9 } hs s9 (lg.set i r') (by simp [hrs3]) (open_set lg i r' hopen ho) (fun h => by rw [spoilt lg i hi r' hp] at h; cases h) H'.length hn hQ t _ cr g3 g7 (by rw [g8, hcr]) g9 g11 g12 ⟨?_, ⟨0, hk _ _ _ ?_⟩, ⟨0, hk _ _ _ (by simp)⟩, ⟨0, hk _ _ _ (by simp)⟩, ⟨0, hk _ _ _ (by simp)⟩⟩
    · rw [hcr] at hL; exact hL
    · rw [List.getElem?_append_left (by omega), ← hxs]; exact k0
  have sw : ∀ t : T, t.g 3 = .c (.ptr 0 0 0) → t.g 7 = vb true → t.g 8 = r → t.g 9 = .c (.ptr H'.length 0 0) → t.g 10 = vi (sp / 8) → t.g 11 = .c (.sl (H'.length + 1) 0 1 1 0 7) → t.g 12 = .c (.ptr (H'.length + 2) 0 0) → t.g 37 = .c (.f (.int .u8 (sp % 8))) →
      WP tab.get F_law18_RoomRejectsInvalid none [.code C_law18_RoomRejectsInvalid_19, .code C_law18_RoomRejectsInvalid_52] ⟨t, [], H' ++ [.box [.f (fi s.meet), .f (fi s.room), .f (fi s.team), .f (fi s.size), .f (sl s.st.cg (classRows s.st.cs)), .f (fi s.st.len), .f (sl s.st.xg (instRows s.st.xs))] 0,
        .box [.f (fi s.meet), .f (fi s.room), .f (fi s.team), .f (fi s.size), .f (sl s.st.cg (classRows s.st.cs)), .f (fi s.st.len), .f (sl s.st.xg (instRows s.st.xs))] 0,
        .box [.f (fi 9), .f (fi s.room), .f (fi s.team), .f (fi s.size), .f (sl s.st.cg (classRows s.st.cs)), .f (fi s.st.len), .f (sl s.st.xg (instRows s.st.xs))] 0]⟩ Q := by
    intro t g3 g7 g8 g9 g10 g11 g12 g37
    have hc : sp % 8 = 0 ∨ sp % 8 = 1 ∨ sp % 8 = 2 ∨ sp % 8 = 3 ∨ sp % 8 = 4 ∨ sp % 8 = 5 ∨ sp % 8 = 6 ∨ sp % 8 = 7 := by omega
    refine kw_block ?_
    rcases hc with hc | hc | hc | hc | hc | hc | hc | hc <;> rw [hc] at g37
    · refine kw_seq (kw_region (.inl rfl) ?_)
      simp [g37]
      refine kw_cond_t (by simp) ?_
      have hr2 : binV .rem (vi (sp / 8)) (.c (.f (.int .i64 2))) = some (vi (sp / 8 % 2)) := by simp (disch := omega) [bin_rem, Int.tmod_eq_emod_of_nonneg]
      obtain ⟨bb, ep, H8, st1, st2, hLB8, hK8⟩ := LB.st1 (row := (lg[0]'(by omega)).row) (j := 0) (k := 0) (c := .f (fi (513 * (sp / 8 % 2)))) (x := fi (513 * (sp / 8 % 2))) (hLB.push [.box (s.row.map .f) 0, .box (s.row.map .f) 0, .box (({ s with meet := 9 } : StandD).row.map .f) 0]) (rows_grid _) (rows_at (by omega)) (by decide) (by simp)
      simp [StandD.row] at st1 st2
      have hw1 : -9223372036854775808 ≤ 513 * (sp / 8 % 2) := by omega
      have hw2 : 513 * (sp / 8 % 2) ≤ 9223372036854775807 := by omega
      refine kw_region (.inl rfl) ?_
      simp [g8, g10, hr2, wrap64 (n := 513 * (sp / 8 % 2)) hw1 hw2, st1, st2]
      rw [rows_setk lg 0 (by omega) 0 _ { lg[0] with cap := 513 * (sp / 8 % 2) } rfl] at hLB8
      refine kw_inBlock (go2 _ H8 0 (by omega) { lg[0] with cap := 513 * (sp / 8 % 2) } (hopen lg[0] (List.getElem_mem _)) ?_ hLB8 hK8 (by simp [g3]) (by simp [g7]) (by simp [g8]) (by simp [g9]) (by simp [g11]) (by simp [g12]))
      have h2 : sp / 8 % 2 = 0 ∨ sp / 8 % 2 = 1 := by omega
      rcases h2 with h2 | h2 <;> simp [properB, h2, withinB]
    · refine kw_seq (kw_region (.inl rfl) ?_)
      simp [g37]
      refine kw_cond_f (by simp) ?_
      refine kw_seq (kw_region (.inl rfl) ?_)
      simp [g37]
      refine kw_cond_t (by simp) ?_
      obtain ⟨bb, ep, H8, st1, st2, hLB8, hK8⟩ := LB.st1 (row := (lg[1]'(by omega)).row) (j := 1) (k := 1) (c := .f (fi (1441 + sp / 8))) (x := fi (1441 + sp / 8)) (hLB.push [.box (s.row.map .f) 0, .box (s.row.map .f) 0, .box (({ s with meet := 9 } : StandD).row.map .f) 0]) (rows_grid _) (rows_at (by omega)) (by decide) (by simp)
      simp [StandD.row] at st1 st2
      have hw1 : -9223372036854775808 ≤ 1441 + sp / 8 := by omega
      have hw2 : 1441 + sp / 8 ≤ 9223372036854775807 := by omega
      refine kw_region (.inl rfl) ?_
      simp [g8, g10, wrap64 (n := 1441 + sp / 8) hw1 hw2, st1, st2]
      rw [rows_setk lg 1 (by omega) 1 _ { lg[1] with bef := 1441 + sp / 8 } rfl] at hLB8
      refine kw_inBlock (go2 _ H8 1 (by omega) { lg[1] with bef := 1441 + sp / 8 } (hopen lg[1] (List.getElem_mem _)) ?_ hLB8 hK8 (by simp [g3]) (by simp [g7]) (by simp [g8]) (by simp [g9]) (by simp [g11]) (by simp [g12]))
      simp [properB, withinB_f (n := 1441 + sp / 8) (lo := 0) (hi := 1440) (.inr (by omega))]
    · iterate 2
        refine kw_seq (kw_region (.inl rfl) ?_)
        simp [g37]
        refine kw_cond_f (by simp) ?_
      refine kw_seq (kw_region (.inl rfl) ?_)
      simp [g37]
      refine kw_cond_t (by simp) ?_
      obtain ⟨bb, ep, H8, st1, st2, hLB8, hK8⟩ := LB.st1 (row := (lg[2]'(by omega)).row) (j := 2) (k := 14) (c := .sl (H'.length + 3) 0 1 1 0 1) (x := .fs [fi 2] 1) (hLB.push [.box (s.row.map .f) 0, .box (s.row.map .f) 0, .box (({ s with meet := 9 } : StandD).row.map .f) 0, .box [.f (fi 2)] 0]) (rows_grid _) (rows_at (by omega)) (by decide) (by simp [exB_sl])
      simp [StandD.row] at st1 st2
      refine kw_region (.inl rfl) ?_
      simp [g8, g10, st1, st2]
      rw [rows_setk lg 2 (by omega) 14 (.fs [fi 2] 1) { lg[2] with pg := .fs, p := [2] } rfl] at hLB8
      refine kw_inBlock (go2 _ H8 2 (by omega) { lg[2] with pg := .fs, p := [2] } (hopen lg[2] (List.getElem_mem _)) ?_ hLB8 (fun b cs fl hb => hK8 _ _ _ (by
        have e : H' ++ [Blk.box (s.row.map .f) 0, .box (s.row.map .f) 0, .box (({ s with meet := 9 } : StandD).row.map .f) 0, .box [.f (fi 2)] 0] = (H' ++ [Blk.box (s.row.map .f) 0, .box (s.row.map .f) 0, .box (({ s with meet := 9 } : StandD).row.map .f) 0]) ++ [.box [.f (fi 2)] 0] := by simp
        rw [e, List.getElem?_append_left (lt_of_get hb)]; exact hb)) (by simp [g3]) (by simp [g7]) (by simp [g8]) (by simp [g9]) (by simp [g11]) (by simp [g12]))
      simp [properB, partsB]
    · iterate 3
        refine kw_seq (kw_region (.inl rfl) ?_)
        simp [g37]
        refine kw_cond_f (by simp) ?_
      refine kw_seq (kw_region (.inl rfl) ?_)
      simp [g37]
      refine kw_cond_t (by simp) ?_
      refine kw_region (.inl rfl) ?_
      simp [g12]
      exact kw_inBlock (go _ { s with meet := 9, size := 0 } s9 (by simp [standB, withinB]) (by simp [g3]) (by simp [g7]) (by simp [g8]) (by simp [g9]) (by simp [g11]) (by simp [g12]))
    · iterate 4
        refine kw_seq (kw_region (.inl rfl) ?_)
        simp [g37]
        refine kw_cond_f (by simp) ?_
      refine kw_seq (kw_region (.inl rfl) ?_)
      simp [g37]
      refine kw_cond_t (by simp) ?_
      refine kw_region (.inl rfl) ?_
      simp [g12, g10, wrap64 (n := 3 + sp / 8) (by omega) (by omega)]
      exact kw_inBlock (go _ { s with meet := 9, room := 3 + sp / 8 } s9 (by simp [standB, withinB_f (n := 3 + sp / 8) (lo := 0) (hi := 2) (by omega)]) (by simp [g3]) (by simp [g7]) (by simp [g8]) (by simp [g9]) (by simp [g11]) (by simp [g12]))
    · iterate 5
        refine kw_seq (kw_region (.inl rfl) ?_)
        simp [g37]
        refine kw_cond_f (by simp) ?_
      refine kw_seq (kw_region (.inl rfl) ?_)
      simp [g37]
      refine kw_cond_t (by simp) ?_
      refine kw_region (.inl rfl) ?_
      simp [g12, g10, wrap64 (n := 64 + sp / 8) (by omega) (by omega)]
      exact kw_inBlock (go _ { s with meet := 9, team := 64 + sp / 8 } s9 (by simp [standB, withinB_f (n := 64 + sp / 8) (lo := 0) (hi := 63) (by omega)]) (by simp [g3]) (by simp [g7]) (by simp [g8]) (by simp [g9]) (by simp [g11]) (by simp [g12]))
    · iterate 6
        refine kw_seq (kw_region (.inl rfl) ?_)
        simp [g37]
        refine kw_cond_f (by simp) ?_
      refine kw_seq (kw_region (.inl rfl) ?_)
      simp [g37]
      refine kw_cond_t (by simp) ?_
      refine kw_region (.inl rfl) ?_
      have hneg : unV .neg (vi (sp / 8)) = some (vi (-(sp / 8))) := by
        have h := wrap64 (n := 0 - sp / 8) (by omega) (by omega)
        have e : unV .neg (vi (sp / 8)) = some (.c (.f (.int .i64 (IntKind.i64.wrap (0 - sp / 8))))) := rfl
        rw [e, h, show 0 - sp / 8 = -(sp / 8) by omega]
      simp [g12, g10, hneg]
      exact kw_inBlock (go _ { s with meet := 9, st := { s.st with len := -(sp / 8) } } s9 (by simp [standB, streamB, withinB_f (n := -(sp / 8)) (lo := 1) (hi := 10080) (by omega)]) (by simp [g3]) (by simp [g7]) (by simp [g8]) (by simp [g9]) (by simp [g11]) (by simp [g12]))
    · iterate 7
        refine kw_seq (kw_region (.inl rfl) ?_)
        simp [g37]
        refine kw_cond_f (by simp) ?_
      refine kw_seq (kw_region (.inl rfl) ?_)
      simp [g37]
      refine kw_cond_t (by simp) ?_
      refine kw_region (.inl rfl) ?_
      simp [g9, g12]
      exact kw_inBlock (go _ s s9 (by simp [cmpS, cmpI, orI]) (by simp [g3]) (by simp [g7]) (by simp [g8]) (by simp [g9]) (by simp [g11]) (by simp [g12]))
  refine kw_seq (kw_region (.inl rfl) ?_)
  simp
  refine kw_seq (kw_region (.inl rfl) ?_)
  simp [hsan']
  refine kw_seq (kw_region (.inl rfl) ?_)
  simp [hlen, htk, e1]
  simp [StandD.row] at hmade
  refine kw_seq (kw_region (.inl rfl) ?_)
  simp [k1, hrl, htk2, mapO_f, hmade, hfold]
  refine kw_seq (kw_region (.inl rfl) ?_)
  have hq8 : binV .quo (.c (.f (.int .u8 sp))) (.c (.f (.int .u8 8))) = some (.c (.f (.int .u8 (sp / 8)))) := by simp (disch := omega) [bin_quo, Int.tdiv_eq_ediv_of_nonneg, wrapu8]
  have hr8 : binV .rem (.c (.f (.int .u8 sp))) (.c (.f (.int .u8 8))) = some (.c (.f (.int .u8 (sp % 8)))) := by simp (disch := omega) [bin_rem, Int.tmod_eq_emod_of_nonneg]
  simp [hq8, wrap64 (n := sp / 8) (by omega) (by omega)]
  refine kw_seq (kw_region (.inl rfl) ?_)
  simp
  refine kw_seq (kw_region (.inl rfl) ?_)
  simp
  refine kw_seq (kw_region (.inl rfl) ?_)
  simp
  refine kw_seq ?_
  refine kw_seq (kw_region (.inl rfl) ?_)
  simp [hr8]
  exact sw _ (by simp) (by simp) (by simp) (by simp) (by simp) (by simp) (by simp) (by simp)
end Go.Proofs.YtdkmkodemmidjaaGreat
end

section
namespace Go.Proofs.YtdkmkodemmidjaaGreat
open Go Km

theorem sane : Km.Pure tab.get F_law18_sanity [] (vb true) := pure_reckoned (reckoned ev)
theorem flat_single {α : Type} (g : α → FC) : ∀ l : List α, (l.map fun n => [g n]).flatten = l.map g
  | [] => rfl
  | x :: l => by simp only [List.map_cons, List.flatten_cons, flat_single g l]; rfl
theorem byte_of {x : List FC} (h : ∃ m, x = [FC.int .u8 m] ∧ Lit.wf (.int .u8 m)) : ∃ m, x = [FC.int .u8 m] ∧ B8 m := by
  obtain ⟨m, rfl, hw⟩ := h
  refine ⟨m, rfl, ?_⟩
  simp [Lit.wf, IntKind.min, IntKind.max, IntKind.signed, IntKind.bits] at hw
  exact ⟨by omega, by omega⟩

set_option maxRecDepth 100000 in
theorem reject_args {ar : List V} (h : ArgsShp Tryz.prog [23, 26, 5] ar) : ∃ (B : List (List Int)) (x : RawD) (sp : Int), ar = [.a ((bytesC B).flatten.map .f), .a (x.row.map .f), .c (.f (.int .u8 sp))] ∧ B.length = 3 ∧ (∀ r ∈ B, r.length = 5 ∧ ∀ n ∈ r, 0 ≤ n ∧ n ≤ 255) ∧ x.OK ∧ 0 ≤ sp ∧ sp ≤ 255 := by
  obtain ⟨a0, _, rfl, h0, a1, _, rfl, h1, a2, _, rfl, h2, rfl⟩ := h
  have e0 : ∃ xs, a0 = .a (xs.map .f) ∧ Shp Tryz.prog 40 23 xs := by
    rcases h0 with ⟨xs, rfl, hs, _⟩ | ⟨x, rfl, hs⟩
    · exact ⟨xs, rfl, hs⟩
    · exfalso
      obtain ⟨rows, e, hl, hg, _⟩ := shp_arr (n := 39) Tryz.underlying23 hs
      have := congrArg List.length e
      rw [flatten_len hg, hl, show Tryz.prog.cellsOf 22 = 5 by kernel_rfl] at this
      simp at this
  have e1 : ∃ xs, a1 = .a (xs.map .f) ∧ Shp Tryz.prog 40 26 xs := by
    rcases h1 with ⟨xs, rfl, hs, _⟩ | ⟨x, rfl, hs⟩
    · exact ⟨xs, rfl, hs⟩
    · exfalso
      obtain ⟨_, q1, e, h1, k1⟩ := shp_cons (shp_struct (ts := [5, 5, 5, 5, 5, 5, 5, 5, 5, 24]) Tryz.underlying26 rfl hs)
      obtain ⟨m, rfl, _⟩ := shp_int Tryz.underlying5 h1
      obtain ⟨_, q2, rfl, h1, k2⟩ := shp_cons k1
      obtain ⟨m, rfl, _⟩ := shp_int Tryz.underlying5 h1
      simp at e
  rcases h2 with ⟨xs, _, _, d, hd, hd'⟩ | ⟨z, rfl, h2⟩
  · rw [Tryz.underlying5] at hd; cases hd; rcases hd' with ⟨_, e⟩ | ⟨_, _, e⟩ <;> cases e
  obtain ⟨sp, e2, hsp⟩ := shp_int Tryz.underlying5 h2
  obtain ⟨xs, rfl, hs⟩ := e0
  obtain ⟨rws, rfl, hl, hg, hr⟩ := shp_arr (n := 39) Tryz.underlying23 hs
  obtain ⟨B, rfl, hB⟩ := rows_of (enc := fun r : List Int => r.map fun n => FC.int .u8 n) (p := fun r => r.length = 5 ∧ ∀ n ∈ r, 0 ≤ n ∧ n ≤ 255) fun r hr' => by
    obtain ⟨cs, rfl, hl', hg', hc⟩ := shp_arr (n := 38) Tryz.underlying22 (hr r hr')
    obtain ⟨l, rfl, hl2⟩ := rows_of (enc := fun n : Int => [FC.int .u8 n]) (p := fun n => B8 n) fun c hc' => byte_of (shp_int (n := 37) Tryz.underlying5 (hc c hc'))
    refine ⟨l, flat_single _ l, by simpa using hl', hl2⟩
  obtain ⟨ys, rfl, hy⟩ := e1
  obtain ⟨_, q1, rfl, h1, k1⟩ := shp_cons (shp_struct (ts := [5, 5, 5, 5, 5, 5, 5, 5, 5, 24]) Tryz.underlying26 rfl hy)
  obtain ⟨v1, rfl, b1⟩ := byte_of (shp_int Tryz.underlying5 h1)
  obtain ⟨_, q2, rfl, h1, k2⟩ := shp_cons k1
  obtain ⟨v2, rfl, b2⟩ := byte_of (shp_int Tryz.underlying5 h1)
  obtain ⟨_, q3, rfl, h1, k3⟩ := shp_cons k2
  obtain ⟨v3, rfl, b3⟩ := byte_of (shp_int Tryz.underlying5 h1)
  obtain ⟨_, q4, rfl, h1, k4⟩ := shp_cons k3
  obtain ⟨v4, rfl, b4⟩ := byte_of (shp_int Tryz.underlying5 h1)
  obtain ⟨_, q5, rfl, h1, k5⟩ := shp_cons k4
  obtain ⟨v5, rfl, b5⟩ := byte_of (shp_int Tryz.underlying5 h1)
  obtain ⟨_, q6, rfl, h1, k6⟩ := shp_cons k5
  obtain ⟨v6, rfl, b6⟩ := byte_of (shp_int Tryz.underlying5 h1)
  obtain ⟨_, q7, rfl, h1, k7⟩ := shp_cons k6
  obtain ⟨v7, rfl, b7⟩ := byte_of (shp_int Tryz.underlying5 h1)
  obtain ⟨_, q8, rfl, h1, k8⟩ := shp_cons k7
  obtain ⟨v8, rfl, b8⟩ := byte_of (shp_int Tryz.underlying5 h1)
  obtain ⟨_, q9, rfl, h1, k9⟩ := shp_cons k8
  obtain ⟨v9, rfl, b9⟩ := byte_of (shp_int Tryz.underlying5 h1)
  obtain ⟨pe, q10, rfl, he, k10⟩ := shp_cons k9
  obtain rfl : q10 = [] := k10
  obtain ⟨eg, rws, rfl, _, hel, hee⟩ := shp_slice Tryz.underlying24 he
  obtain ⟨ex, rfl, hex⟩ := rows_of (enc := fun n : Int => [FC.int .u8 n]) (p := fun n => B8 n) fun c hc' => byte_of (shp_int Tryz.underlying5 (hee c hc'))
  obtain ⟨s0, s1⟩ : B8 sp := by
    have := byte_of (x := [FC.int .u8 sp]) ⟨sp, rfl, hsp⟩
    obtain ⟨m, e, h⟩ := this
    cases e; exact h
  cases e2
  refine ⟨B, ⟨v1, v2, v3, v4, v5, v6, v7, v8, v9, eg, ex⟩, sp, rfl, by simpa using hl, hB, ⟨b1, b2, b3, b4, b5, b6, b7, b8, b9, ?_, hex⟩, s0, s1⟩
  simp at hel
  exact Nat.le_trans hel (by decide)

theorem reject_true (ar : List V) (h : ArgsShp Tryz.prog [23, 26, 5] ar) : Km.Pure tab.get F_law18_RoomRejectsInvalid ar (vb true) := by
  obtain ⟨B, x, sp, rfl, h1, h2, h3, h4, h5⟩ := reject_args h
  exact reject_km sane B h1 h2 x h3 sp h4 h5
end Go.Proofs.YtdkmkodemmidjaaGreat
end

