/-
  What the program's functions and the reference's answer, for all arguments of their kind, in the small machine: part 1.
-/
import Derived.Test.YtjcobnhnmlhbaaaGreatTabB
import Derived.Test.YtjcobnhnmlhbaaaGreatK4
import Derived.KernelRfl
import Derived.Test.YtjcobnhnmlhbaaaGreatProg
import Derived.Test.YtjcobnhnmlhbaaaGreatTie
import Derived.Test.YtjcobnhnmlhbaaaGreatEv

set_option linter.unusedVariables false
set_option linter.unusedSimpArgs false
set_option linter.unusedSectionVars false

section
namespace Go.Proofs.YtjcobnhnmlhbaaaGreat
open Go Km

def withinB (n lo hi : Int) : Bool := decide (lo ≤ n) && decide (n ≤ hi)
theorem withinB_t {n lo hi : Int} (h : withinB n lo hi = true) : lo ≤ n ∧ n ≤ hi := by simpa [withinB] using h

theorem within_kf (n lo hi : Int) : Kf tab.get F_room_within [vi n, vi lo, vi hi] (vb (withinB n lo hi)) := by
  refine kf_fn T_room_within rfl fun H Q hQ => ?_
  refine kw_seq ?_
  refine kw_region (.inl rfl) ?_
  simp
  refine kw_seq ?_
  refine kw_region (.inl rfl) ?_
  by_cases h : lo ≤ n
  · simp [h]
    refine kw_ret (hQ _ _ ?_)
    simp [withinB, h]
  · simp [h]
    refine kw_ret (hQ _ _ ?_)
    simp [withinB, h]
@[simp] theorem within_sp (n lo hi : Int) : Km.Pure tab.get F_room_within [vi n, vi lo, vi hi] = Eq (vb (withinB n lo hi)) := (within_kf n lo hi).eq

theorem contains_int_kf (g : Tg) (l : List Int) (v : Int) (hl : l.length ≤ 9223372036854775807) :
    Kf tab.get F_slices_Contains_int [.c (.f (sl g (ints l))), vi v] (vb (l.any (· == v))) :=
  contains_kf T_slices_Contains_int (index_int_kf T_slices_Index_int g l v hl)

/-- A room. -/
structure RoomD where
  cap : Int
  bef : Int
  aft : Int
  (o0 o1 o2 o3 o4 o5 o6 o7 o8 o9 : FC)
  qg : Tg
  q : List (Int × Int)
  pg : Tg
  p : List Int
def pairs (l : List (Int × Int)) : List (List FC) := l.map fun x => [fi x.1, fi x.2]
@[simp] theorem pairs_len (l : List (Int × Int)) : (pairs l).length = l.length := by simp [pairs]
theorem pairs_grid (l : List (Int × Int)) : Grid 2 (pairs l) := Grid.map fun _ => rfl
theorem pairs_at {l : List (Int × Int)} {j : Nat} (hj : j < l.length) : (pairs l)[j]? = some [fi l[j].1, fi l[j].2] := by simp [pairs, hj]
def RoomD.op (r : RoomD) : List C := [.f r.o0, .f r.o1, .f r.o2, .f r.o3, .f r.o4, .f r.o5, .f r.o6, .f r.o7, .f r.o8, .f r.o9]
def RoomD.row (r : RoomD) : List FC := [fi r.cap, fi r.bef, fi r.aft, r.o0, r.o1, r.o2, r.o3, r.o4, r.o5, r.o6, r.o7, r.o8, r.o9, sl r.qg (pairs r.q), sl r.pg (ints r.p)]
def rows (l : List RoomD) : List (List FC) := l.map RoomD.row
@[simp] theorem rows_len (l : List RoomD) : (rows l).length = l.length := by simp [rows]
theorem rows_grid (l : List RoomD) : Grid 15 (rows l) := Grid.map fun _ => rfl
theorem rows_at {l : List RoomD} {j : Nat} (hj : j < l.length) : (rows l)[j]? = some l[j].row := by simp [rows, hj]

/-- Its opening hours are valid, says the program. -/
def OpenOK (r : RoomD) : Prop := Km.Pure tab.get F_opening_Valid [.a r.op] (vi 0)
/-- Its opening hours are valid, says the reference. -/
def OpenOK' (r : RoomD) : Prop := Km.Pure tab.get F_ref17_Valid [.a r.op] (vi 0)

/-- Too many quotas or parts. -/
def bigB (r : RoomD) : Bool := decide (64 < (r.q.length : Int)) || decide (64 < (r.p.length : Int))
/-- How many parts room p has. -/
def plen (l : List RoomD) (p : Int) : Nat := ((l[p.toNat]?).map (·.p.length)).getD 0
theorem plen_at {l : List RoomD} {p : Int} (h0 : 0 ≤ p) (h1 : p.toNat < l.length) : plen l p = (l[p.toNat]).p.length := by simp [plen, h1]
/-- The quotas rise. -/
def quotasB (last : Int) : List (Int × Int) → Bool
  | [] => true
  | x :: r => withinB x.1 (last + 1) 63 && withinB x.2 0 10080 && quotasB x.1 r
/-- The parts rise, none is the room itself or has parts. -/
def partsB (l : List RoomD) (i last : Int) : List Int → Bool
  | [] => true
  | p :: r => withinB p (last + 1) ((l.length : Int) - 1) && !decide (p = i) && decide (plen l p = 0) && partsB l i p r
def properB (l : List RoomD) (i : Nat) (r : RoomD) : Bool :=
  withinB r.cap 1 512 && withinB r.bef 0 1440 && withinB r.aft 0 1440 && quotasB (-1) r.q && partsB l i (-1) r.p
def allProper (l : List RoomD) : Nat → List RoomD → Bool
  | _, [] => true
  | i, r :: rs => properB l i r && allProper l (i + 1) rs
/-- What Valid answers for at most 256 rooms. -/
def validI (l : List RoomD) : Int := if l.any bigB then 2 else if allProper l 0 l then 0 else 1

theorem big_kf (r : RoomD) (ho : OpenOK r) : Kf tab.get F_room_Valid_f1 [.a (r.row.map .f)] (vb (bigB r)) := by
  refine kf_fn T_room_Valid_f1 rfl fun H Q hQ => ?_
  have hv := Km.Pure.eq ho
  simp only [RoomD.op] at hv
  refine kw_seq ?_
  refine kw_region (.inl rfl) ?_
  simp [RoomD.row]
  refine kw_seq ?_
  refine kw_region (.inl rfl) ?_
  simp
  refine grd_not (fun h => ?_) (fun h => ?_)
  · simp [h]
    refine grd_not (fun h' => ?_) (fun h' => ?_)
    · simp [h', hv]
      refine kw_ret (hQ _ _ ?_)
      simp [bigB, h, h']
    · simp [h']
      refine kw_ret (hQ _ _ ?_)
      simp [bigB, h, h']
  · simp [h]
    refine kw_ret (hQ _ _ ?_)
    simp [bigB, h]

theorem anybig_kf (g : Tg) (l : List RoomD) (hl : l.length ≤ 6) (ho : ∀ r ∈ l, OpenOK r) :
    Kf tab.get F_slices_ContainsFunc_api_Room [.c (.f (sl g (rows l))), .c (.f (.fn F_room_Valid_f1 []))] (vb (l.any bigB)) :=
  contains_kf T_slices_ContainsFunc_api_Room (indexf_kf T_slices_IndexFunc_api_Room l RoomD.row (fun r => .a (r.row.map .f)) bigB g F_room_Valid_f1 [] (by omega)
    (fun j hj H => ld_rowa (rows_grid l) (rows_at hj)) (fun r hr => big_kf r (ho r hr)))
end Go.Proofs.YtjcobnhnmlhbaaaGreat
end

section
namespace Go.Proofs.YtjcobnhnmlhbaaaGreat
open Go Km

theorem quotasB_drop {last : Int} {q : List (Int × Int)} {j : Nat} (hj : j < q.length) : quotasB last (q.drop j) = (withinB q[j].1 (last + 1) 63 && withinB q[j].2 0 10080 && quotasB q[j].1 (q.drop (j + 1))) := by
  rw [List.drop_eq_getElem_cons hj]; rfl
theorem partsB_drop {l : List RoomD} {i last : Int} {p : List Int} {j : Nat} (hj : j < p.length) :
    partsB l i last (p.drop j) = (withinB p[j] (last + 1) ((l.length : Int) - 1) && !decide (p[j] = i) && decide (plen l p[j] = 0) && partsB l i p[j] (p.drop (j + 1))) := by
  rw [List.drop_eq_getElem_cons hj]; rfl

theorem proper_kf (g : Tg) (l : List RoomD) (i : Nat) (hi : i < l.length) (hl : l.length ≤ 6) (ho : ∀ r ∈ l, OpenOK r) (hq : l[i].q.length ≤ 64) (hp : l[i].p.length ≤ 64) :
    Kf tab.get F_room_proper [.c (.f (sl g (rows l))), vi i] (vb (properB l i l[i])) := by
  refine kf_fn T_room_proper rfl fun H Q hQ => ?_
  obtain ⟨r, hr⟩ : ∃ r, r = l[i] := ⟨_, rfl⟩
  have hv := Km.Pure.eq (ho _ (List.getElem_mem hi))
  rw [← hr] at hv hq hp hQ
  simp only [RoomD.op] at hv
  have hld := ld_rowa (H := H) (rows_grid l) (rows_at hi)
  rw [← hr] at hld
  refine kw_seq ?_
  refine kw_region (.inl rfl) ?_
  simp
  refine kw_seq ?_
  refine kw_region (.inl rfl) ?_
  simp [idx_sl, hi, hld, RoomD.row]
  refine kw_seq ?_
  refine kw_seq ?_
  refine kw_region (.inl rfl) ?_
  simp
  cases h1 : withinB r.cap 1 512
  case false =>
    simp
    refine kw_cond_t (by simp) ?_
    refine kw_seq (kw_region (.inl rfl) ?_)
    simp
    refine kw_ret (hQ _ _ ?_)
    simp [properB, h1]
  simp
  cases h2 : withinB r.bef 0 1440
  case false =>
    simp
    refine kw_cond_t (by simp) ?_
    refine kw_seq (kw_region (.inl rfl) ?_)
    simp
    refine kw_ret (hQ _ _ ?_)
    simp [properB, h2]
  simp
  cases h3 : withinB r.aft 0 1440
  case false =>
    simp
    refine kw_cond_t (by simp) ?_
    refine kw_seq (kw_region (.inl rfl) ?_)
    simp
    refine kw_ret (hQ _ _ ?_)
    simp [properB, h3]
  simp [hv]
  refine kw_cond_f (by simp) ?_
  refine kw_skip ?_
  refine kw_seq (kw_region (.inl rfl) ?_)
  simp
  refine kw_seq ?_
  refine kw_seq ?_
  refine kw_region (.inl rfl) ?_
  simp
  obtain ⟨ROW, hROW⟩ : ∃ x, x = [C.f (fi r.cap), C.f (fi r.bef), C.f (fi r.aft), C.f r.o0, C.f r.o1, C.f r.o2, C.f r.o3, C.f r.o4, C.f r.o5, C.f r.o6, C.f r.o7, C.f r.o8, C.f r.o9, C.f (sl r.qg (pairs r.q)), C.f (sl r.pg (ints r.p))] := ⟨_, rfl⟩
  rw [← hROW]
  have hr14 : ROW.drop 14 = [C.f (sl r.pg (ints r.p))] := by rw [hROW]; rfl
  refine kw_for r.q.length (fun j t H' => t.g 0 = .c (.f (sl g (rows l))) ∧ t.g 1 = vi i ∧ t.g 5 = .c (.ptr H.length 0 0) ∧ t.g 38 = .c (.f (sl r.qg (pairs r.q))) ∧ (∃ J, H' = H ++ (.box ROW 0 :: J)) ∧
    ∃ last, t.g 6 = vi last ∧ -1 ≤ last ∧ last ≤ 63 ∧ quotasB (-1) r.q = quotasB last (r.q.drop j)) (by omega) (by decide) (by decide) (by simp) (by simp) (by simp) ?_ ?_
  · rintro j t _ hj ⟨h0, g1, g5, g38, ⟨J, rfl⟩, last, g6, l1, l2, hB⟩ ha hb next
    rw [quotasB_drop hj] at hB
    refine kw_block ?_
    refine kw_seq (kw_region (.inl rfl) ?_)
    simp [ha, g38, idx_sl, hj, ld_rowa (pairs_grid r.q) (pairs_at hj)]
    refine kw_seq ?_
    refine kw_seq (kw_region (.inl rfl) ?_)
    simp [g6, wrap64 (n := last + 1) (by omega) (by omega)]
    cases h4 : withinB r.q[j].1 (last + 1) 63
    case false =>
      simp
      refine kw_cond_t (by simp) ?_
      refine kw_seq (kw_region (.inl rfl) ?_)
      simp
      refine kw_ret (hQ _ _ ?_)
      simp [properB, hB, h4]
    simp
    cases h5 : withinB r.q[j].2 0 10080
    case false =>
      simp
      refine kw_cond_t (by simp) ?_
      refine kw_seq (kw_region (.inl rfl) ?_)
      simp
      refine kw_ret (hQ _ _ ?_)
      simp [properB, hB, h5]
    simp
    refine kw_cond_f (by simp) ?_
    refine kw_skip ?_
    refine kw_region (.inl rfl) ?_
    simp [g6]
    refine kw_inBlock (next _ _ ?_ (by simp [ha]) (by simp [hb]))
    have hw := withinB_t h4
    simp [h4, h5] at hB
    exact ⟨by simp [h0], by simp [g1], by simp [g5], by simp [g38], ⟨_, rfl⟩, r.q[j].1, by simp, by omega, by omega, hB⟩
  · rintro t _ ⟨h0, g1, g5, g38, ⟨J, rfl⟩, last, g6, l1, l2, hB⟩ ha hb
    have hQ' : quotasB (-1) r.q = true := by rw [hB]; simp [quotasB]
    refine kw_seq (kw_region (.inl rfl) ?_)
    simp
    refine kw_seq ?_
    refine kw_seq ?_
    refine kw_region (.inl rfl) ?_
    simp [g5, hr14]
    refine kw_for r.p.length (fun j t H' => t.g 0 = .c (.f (sl g (rows l))) ∧ t.g 1 = vi i ∧ t.g 60 = .c (.f (sl r.pg (ints r.p))) ∧ (∃ J, H' = H ++ J) ∧
      ∃ last, t.g 6 = vi last ∧ -1 ≤ last ∧ last ≤ 6 ∧ partsB l i (-1) r.p = partsB l i last (r.p.drop j)) (by omega) (by decide) (by decide) (by simp) (by simp) (by simp [h0, g1]) ?_ ?_
    · rintro j t _ hj ⟨h0, g1, g60, ⟨J, rfl⟩, last, g6, l1, l2, hB⟩ ha hb next
      rw [partsB_drop hj] at hB
      refine kw_block ?_
      refine kw_seq (kw_region (.inl rfl) ?_)
      simp [ha, g60, idx_sl, hj, ld_int]
      refine kw_seq ?_
      refine kw_seq (kw_region (.inl rfl) ?_)
      simp [g6, h0, wrap64 (n := last + 1) (by omega) (by omega), wrap64 (n := (l.length : Int) - 1) (by omega) (by omega)]
      cases h4 : withinB r.p[j] (last + 1) ((l.length : Int) - 1)
      case false =>
        simp
        refine kw_cond_t (by simp) ?_
        refine kw_seq (kw_region (.inl rfl) ?_)
        simp
        refine kw_ret (hQ _ _ ?_)
        simp [properB, hB, h4]
      have hw := withinB_t h4
      simp [g1]
      by_cases h5 : r.p[j] = i
      · simp [h5]
        refine kw_cond_t (by simp) ?_
        refine kw_seq (kw_region (.inl rfl) ?_)
        simp
        refine kw_ret (hQ _ _ ?_)
        simp [properB, hB, h5]
      have hk : r.p[j].toNat < l.length := by omega
      have hrow := ld_row (H := H ++ J) (k := 14) (rows_grid l) (rows_at hk) rfl
      simp [h5, h0, idx_sl (g := g) (rows := rows l) (sz := 15) (k := .i64) (i := r.p[j]) (by omega) (by simp; omega), hrow]
      have hpl := plen_at (l := l) (p := r.p[j]) (by omega) hk
      by_cases h6 : plen l r.p[j] = 0
      · have h6' : l[r.p[j].toNat].p = [] := List.eq_nil_of_length_eq_zero (by rw [← hpl]; exact h6)
        simp [h6']
        refine kw_cond_f (by simp) ?_
        refine kw_skip ?_
        refine kw_region (.inl rfl) ?_
        simp
        refine kw_inBlock (next _ _ ?_ (by simp [ha]) (by simp [hb]))
        simp [h4, h5, h6] at hB
        exact ⟨by simp [h0], by simp [g1], by simp [g60], ⟨_, rfl⟩, r.p[j], by simp, by omega, by omega, hB⟩
      · have h6' : 0 < l[r.p[j].toNat].p.length := by rw [← hpl]; omega
        simp [h6']
        refine kw_cond_t (by simp) ?_
        refine kw_seq (kw_region (.inl rfl) ?_)
        simp
        refine kw_ret (hQ _ _ ?_)
        simp [properB, hB, h6]
    · rintro t _ ⟨h0, g1, g60, ⟨J, rfl⟩, last, g6, l1, l2, hB⟩ ha hb
      have hP' : partsB l i (-1) r.p = true := by rw [hB]; simp [partsB]
      refine kw_seq (kw_region (.inl rfl) ?_)
      simp
      refine kw_ret (hQ _ _ ?_)
      simp [properB, h1, h2, h3, hQ', hP']
end Go.Proofs.YtjcobnhnmlhbaaaGreat
end

section
namespace Go.Proofs.YtjcobnhnmlhbaaaGreat
open Go Km

theorem proper_sp (g : Tg) (l : List RoomD) (i : Nat) (hi : i < l.length) (hl : l.length ≤ 6) (ho : ∀ r ∈ l, OpenOK r) (hq : l[i].q.length ≤ 64) (hp : l[i].p.length ≤ 64) :
    Km.Pure tab.get F_room_proper [.c (.f (sl g (rows l))), vi i] = Eq (vb (properB l i l[i])) := (proper_kf g l i hi hl ho hq hp).eq
theorem anybig_sp (g : Tg) (l : List RoomD) (hl : l.length ≤ 6) (ho : ∀ r ∈ l, OpenOK r) :
    Km.Pure tab.get F_slices_ContainsFunc_api_Room [.c (.f (sl g (rows l))), .c (.f (.fn F_room_Valid_f1 []))] = Eq (vb (l.any bigB)) := (anybig_kf g l hl ho).eq

theorem allProper_drop {l : List RoomD} {j : Nat} (hj : j < l.length) : allProper l j (l.drop j) = (properB l j l[j] && allProper l (j + 1) (l.drop (j + 1))) := by
  rw [List.drop_eq_getElem_cons hj]; rfl

theorem valid_kf (g : Tg) (l : List RoomD) (hl : l.length ≤ 6) (ho : ∀ r ∈ l, OpenOK r) : Kf tab.get F_room_Valid [.c (.f (sl g (rows l)))] (vi (validI l)) := by
  refine kf_fn T_room_Valid rfl fun H Q hQ => ?_
  refine kw_seq (kw_region (.inl rfl) ?_)
  simp
  refine kw_seq (kw_region (.inl rfl) ?_)
  simp
  refine kw_seq ?_
  refine kw_seq (kw_region (.inl rfl) ?_)
  have h256 : ¬ (256 : Int) < l.length := by omega
  simp [h256, anybig_sp g l hl ho]
  cases hb : l.any bigB
  case true =>
    refine kw_cond_t (by simp) ?_
    refine kw_seq (kw_region (.inl rfl) ?_)
    simp
    refine kw_ret (hQ _ _ ?_)
    simp [validI, hb]
  refine kw_cond_f (by simp) ?_
  refine kw_skip ?_
  refine kw_seq ?_
  refine kw_seq (kw_region (.inl rfl) ?_)
  simp
  refine kw_for l.length (fun j t H' => t.g 0 = .c (.f (sl g (rows l))) ∧ (∃ J, H' = H ++ J) ∧ allProper l 0 l = allProper l j (l.drop j)) (by omega) (by decide) (by decide) (by simp) (by simp) (by simp) ?_ ?_
  · rintro j t _ hj ⟨h0, ⟨J, rfl⟩, hB⟩ ha hb' next
    rw [allProper_drop hj] at hB
    have hnb : bigB l[j] = false := by
      have := List.any_eq_false.1 hb l[j] (List.getElem_mem hj)
      simpa using this
    simp only [bigB, Bool.or_eq_false_iff, decide_eq_false_iff_not] at hnb
    refine kw_block ?_
    refine kw_seq (kw_region (.inl rfl) ?_)
    simp [ha]
    refine kw_seq (kw_region (.inl rfl) ?_)
    simp [h0, proper_sp g l j hj hl ho (by omega) (by omega)]
    cases hp : properB l j l[j]
    · refine kw_cond_t (by simp) ?_
      refine kw_seq (kw_region (.inl rfl) ?_)
      simp
      refine kw_ret (hQ _ _ ?_)
      simp [validI, hb, hB, hp]
    · refine kw_cond_f (by simp) ?_
      refine kw_skip (kw_inBlock (next _ _ ?_ (by simp [ha]) (by simp [hb'])))
      simp [hp] at hB
      exact ⟨by simp [h0], ⟨_, rfl⟩, hB⟩
  · rintro t _ ⟨h0, ⟨J, rfl⟩, hB⟩ ha hb'
    refine kw_seq (kw_region (.inl rfl) ?_)
    simp
    refine kw_ret (hQ _ _ ?_)
    simp [validI, hb, hB, allProper]
theorem valid_sp (g : Tg) (l : List RoomD) (hl : l.length ≤ 6) (ho : ∀ r ∈ l, OpenOK r) : Km.Pure tab.get F_room_Valid [.c (.f (sl g (rows l)))] = Eq (vi (validI l)) := (valid_kf g l hl ho).eq
end Go.Proofs.YtjcobnhnmlhbaaaGreat
end

section
namespace Go.Proofs.YtjcobnhnmlhbaaaGreat
open Go Km

theorem contains_int_sp (g : Tg) (l : List Int) (v : Int) (hl : l.length ≤ 9223372036854775807) :
    Km.Pure tab.get F_slices_Contains_int [.c (.f (sl g (ints l))), vi v] = Eq (vb (l.any (· == v))) := (contains_int_kf g l v hl).eq

theorem common_kf (g : Tg) (q : List Int) (x : Int) (hq : q.length ≤ 9223372036854775807) : Kf tab.get F_room_shares_f1 [vi x, .c (.f (.fp [sl g (ints q)] 0))] (vb (q.any (· == x))) := by
  refine kf_fn T_room_shares_f1 rfl fun H Q hQ => ?_
  refine kw_seq (kw_region (.inl rfl) ?_)
  simp
  refine kw_seq (kw_region (.inl rfl) ?_)
  simp [ld_fp, contains_int_sp g q x hq]
  refine kw_ret (hQ _ _ ?_)
  simp

theorem anycommon_sp (g g' : Tg) (p q : List Int) (hp : p.length ≤ 9223372036854775807) (hq : q.length ≤ 9223372036854775807) :
    Km.Pure tab.get F_slices_ContainsFunc_int [.c (.f (sl g (ints p))), .c (.f (.fn F_room_shares_f1 [.fp [sl g' (ints q)] 0]))] = Eq (vb (p.any fun x => q.any (· == x))) :=
  (contains_kf T_slices_ContainsFunc_int (indexf_kf T_slices_IndexFunc_int p (fun n => [fi n]) vi (fun x => q.any (· == x)) g F_room_shares_f1 [.fp [sl g' (ints q)] 0] hp
    (fun j hj H => by have := ld_int (H := H) hj; simpa [ints] using this) (fun x _ => by have := common_kf g' q x hq; simpa using this))).eq

/-- Do two rooms share? -/
def sharesB (a b : Nat) (ra rb : RoomD) : Bool := decide (a = b) || ra.p.any (· == (b : Int)) || rb.p.any (· == (a : Int)) || ra.p.any fun x => rb.p.any (· == x)

theorem shares_kf (g : Tg) (l : List RoomD) (a b : Nat) (ha : a < l.length) (hb : b < l.length) (hp : l[a].p.length ≤ 64) (hq : l[b].p.length ≤ 64) :
    Kf tab.get F_room_shares [.c (.f (sl g (rows l))), vi a, vi b] (vb (sharesB a b l[a] l[b])) := by
  refine kf_fn T_room_shares rfl fun H Q hQ => ?_
  have h1 := ld_row (H := H) (k := 14) (rows_grid l) (rows_at ha) rfl
  have h2 := ld_row (H := H) (k := 14) (rows_grid l) (rows_at hb) rfl
  refine kw_seq (kw_region (.inl rfl) ?_)
  simp
  refine kw_seq (kw_region (.inl rfl) ?_)
  simp [idx_sl, ha, hb, h1, h2]
  refine kw_seq (kw_region (.inl rfl) ?_)
  simp
  by_cases e1 : a = b
  · simp [e1]
    refine kw_ret (hQ _ _ ?_)
    simp [sharesB, e1]
  simp [e1, contains_int_sp _ l[a].p _ (by omega)]
  cases e2 : l[a].p.any (· == (b : Int))
  case true =>
    simp
    refine kw_ret (hQ _ _ ?_)
    simp [sharesB, e2]
  simp [contains_int_sp _ l[b].p _ (by omega)]
  cases e3 : l[b].p.any (· == (a : Int))
  case true =>
    simp
    refine kw_ret (hQ _ _ ?_)
    simp [sharesB, e3]
  simp [deep, mk_cl, mk_ptr, anycommon_sp l[a].pg l[b].pg l[a].p l[b].p (by omega) (by omega)]
  refine kw_ret (hQ _ _ ?_)
  simp [sharesB, e1, e2, e3]
end Go.Proofs.YtjcobnhnmlhbaaaGreat
end

section
namespace Go.Proofs.YtjcobnhnmlhbaaaGreat
open Go Km

/-- What Shares answers. -/
def sharesI (l : List RoomD) (a b : Int) : Bool :=
  decide (validI l = 0) && withinB a 0 ((l.length : Int) - 1) && withinB b 0 ((l.length : Int) - 1) &&
    match l[a.toNat]?, l[b.toNat]? with
    | some ra, some rb => sharesB a.toNat b.toNat ra rb
    | _, _ => false

theorem validI_small {l : List RoomD} (h : validI l = 0) {i : Nat} (hi : i < l.length) : l[i].q.length ≤ 64 ∧ l[i].p.length ≤ 64 := by
  have hb : l.any bigB = false := by
    cases hb : l.any bigB
    · rfl
    · simp [validI, hb] at h
  have := List.any_eq_false.1 hb l[i] (List.getElem_mem hi)
  simp [bigB] at this
  omega

theorem shares_sp (g : Tg) (l : List RoomD) (a b : Nat) (ha : a < l.length) (hb : b < l.length) (hp : l[a].p.length ≤ 64) (hq : l[b].p.length ≤ 64) :
    Km.Pure tab.get F_room_shares [.c (.f (sl g (rows l))), vi a, vi b] = Eq (vb (sharesB a b l[a] l[b])) := (shares_kf g l a b ha hb hp hq).eq

theorem Shares_kf (g : Tg) (l : List RoomD) (a b : Int) (hl : l.length ≤ 6) (ho : ∀ r ∈ l, OpenOK r) :
    Kf tab.get F_room_Shares [.c (.f (sl g (rows l))), vi a, vi b] (vb (sharesI l a b)) := by
  refine kf_fn T_room_Shares rfl fun H Q hQ => ?_
  refine kw_seq (kw_region (.inl rfl) ?_)
  simp
  refine kw_seq (kw_region (.inl rfl) ?_)
  simp [valid_sp g l hl ho]
  by_cases hv : validI l = 0
  case neg =>
    simp [hv]
    refine kw_ret (hQ _ _ ?_)
    simp [sharesI, hv]
  simp [hv, wrap64 (n := (l.length : Int) - 1) (by omega) (by omega)]
  cases h1 : withinB a 0 ((l.length : Int) - 1)
  case false =>
    simp
    refine kw_ret (hQ _ _ ?_)
    simp [sharesI, h1]
  simp [wrap64 (n := (l.length : Int) - 1) (by omega) (by omega)]
  cases h2 : withinB b 0 ((l.length : Int) - 1)
  case false =>
    simp
    refine kw_ret (hQ _ _ ?_)
    simp [sharesI, h2]
  have w1 := withinB_t h1
  have w2 := withinB_t h2
  obtain ⟨i, rfl⟩ : ∃ i : Nat, a = i := ⟨a.toNat, by omega⟩
  obtain ⟨k, rfl⟩ : ∃ k : Nat, b = k := ⟨b.toNat, by omega⟩
  have hi : i < l.length := by omega
  have hk : k < l.length := by omega
  simp [shares_sp g l i k hi hk (validI_small hv hi).2 (validI_small hv hk).2]
  refine kw_ret (hQ _ _ ?_)
  simp [sharesI, hv, h1, h2, hi, hk]

/-! ### The reference -/

def inHd : List AOper := [⟨D 6, .mov (R 5), none⟩, ⟨D 7, .mov (R 0), none⟩, ⟨D 8, .len (R 7), none⟩, ⟨D 9, .bin .lss (R 6) (R 8), none⟩]
theorem in_kf (g : Tg) (l : List Int) (v : Int) (hl : l.length ≤ 9223372036854775807) :
    Kf tab.get F_ref18_in [.c (.f (sl g (ints l))), vi v] (vb (l.any (· == v))) := by
  refine kf_fn T_ref18_in rfl fun H Q hQ => ?_
  refine kw_seq (kw_region (.inl rfl) ?_)
  simp
  refine kw_seq ?_
  refine kw_seq (kw_region (.inl rfl) ?_)
  simp
  refine kw_cfor l.length (fun j t H' => t.g 0 = .c (.f (sl g (ints l))) ∧ t.g 1 = vi v ∧ H' = H ∧ l.any (· == v) = (l.drop j).any (· == v)) hl rfl (by simp) (by simp) ?_ ?_ ?_
  · rintro j t _ L hj ⟨h0, h1, rfl, hB⟩ ha hL
    simp [ha, h0]
    exact hL _ (by simp [h0, h1, hB]) (by simp [ha]) (by simp)
  · rintro j t _ hj ⟨h0, h1, rfl, hB⟩ ha next
    rw [List.drop_eq_getElem_cons hj, List.any_cons] at hB
    refine kw_block ?_
    refine kw_seq (kw_region (.inl rfl) ?_)
    simp [h0, h1, ha, idx_sl, hj, ld_int]
    by_cases h : l[j] = v
    · refine kw_cond_t (by simp [h]) ?_
      refine kw_seq (kw_region (.inl rfl) ?_)
      simp
      refine kw_ret (hQ _ _ ?_)
      simp [hB, h]
    · refine kw_cond_f (by simp [h]) ?_
      refine kw_skip (kw_inBlock (next _ _ ?_ (by simp [ha])))
      have h' : (l[j] == v) = false := by simpa using h
      rw [h', Bool.false_or] at hB
      exact ⟨by simp [h0], by simp [h1], rfl, hB⟩
  · rintro t _ ⟨h0, h1, rfl, hB⟩ ha
    refine kw_seq (kw_region (.inl rfl) ?_)
    simp
    refine kw_ret (hQ _ _ ?_)
    rw [hB]
    simp
theorem in_sp (g : Tg) (l : List Int) (v : Int) (hl : l.length ≤ 9223372036854775807) :
    Km.Pure tab.get F_ref18_in [.c (.f (sl g (ints l))), vi v] = Eq (vb (l.any (· == v))) := (in_kf g l v hl).eq
end Go.Proofs.YtjcobnhnmlhbaaaGreat
end

section
namespace Go.Proofs.YtjcobnhnmlhbaaaGreat
open Go Km

theorem withinB_f {n lo hi : Int} (h : n < lo ∨ hi < n) : withinB n lo hi = false := by
  simp [withinB]; omega
theorem withinB_y {n lo hi : Int} (h : lo ≤ n) (h' : n ≤ hi) : withinB n lo hi = true := by
  simp [withinB]; omega

theorem rproper_kf (g : Tg) (l : List RoomD) (i : Nat) (hi : i < l.length) (hl : l.length ≤ 6) (ho : ∀ r ∈ l, OpenOK' r) (hq : l[i].q.length ≤ 64) (hp : l[i].p.length ≤ 64) :
    Kf tab.get F_ref18_proper [.c (.f (sl g (rows l))), vi i] (vb (properB l i l[i])) := by
  refine kf_fn T_ref18_proper rfl fun H Q hQ => ?_
  obtain ⟨r, hr⟩ : ∃ r, r = l[i] := ⟨_, rfl⟩
  have hv := Km.Pure.eq (ho _ (List.getElem_mem hi))
  rw [← hr] at hv hq hp hQ
  simp only [RoomD.op] at hv
  have hld := ld_rowa (H := H) (rows_grid l) (rows_at hi)
  rw [← hr] at hld
  have fail : properB l i r = false → ∀ t (J : Heap) a, WP tab.get F_ref18_proper none (.code (.region [⟨D 4, .mov (.k (.c (.f (.bool false)))), none⟩] []) :: .code .ret :: a) ⟨t, [], H ++ J⟩ Q := by
    intro hf t J a
    refine kw_region (.inl rfl) ?_
    simp
    refine kw_ret (hQ _ _ ?_)
    simp [hf]
  refine kw_seq (kw_region (.inl rfl) ?_)
  simp
  refine kw_seq (kw_region (.inl rfl) ?_)
  simp [idx_sl, hi, hld, RoomD.row]
  refine kw_seq ?_
  refine kw_seq (kw_region (.inl rfl) ?_)
  simp
  by_cases h1 : r.cap < 1
  · simp [h1]
    exact kw_cond_t (by simp) (kw_seq (fail (by simp [properB, withinB_f (.inl h1)]) _ _ _))
  simp [h1]
  by_cases h2 : 512 < r.cap
  · simp [h2]
    exact kw_cond_t (by simp) (kw_seq (fail (by simp [properB, withinB_f (.inr h2)]) _ _ _))
  simp [h2]
  by_cases h3 : r.bef < 0
  · simp [h3]
    exact kw_cond_t (by simp) (kw_seq (fail (by simp [properB, withinB_f (.inl h3)]) _ _ _))
  simp [h3]
  by_cases h4 : 1440 < r.bef
  · simp [h4]
    exact kw_cond_t (by simp) (kw_seq (fail (by simp [properB, withinB_f (.inr h4)]) _ _ _))
  simp [h4]
  by_cases h5 : r.aft < 0
  · simp [h5]
    exact kw_cond_t (by simp) (kw_seq (fail (by simp [properB, withinB_f (.inl h5)]) _ _ _))
  simp [h5]
  by_cases h6 : 1440 < r.aft
  · simp [h6]
    exact kw_cond_t (by simp) (kw_seq (fail (by simp [properB, withinB_f (.inr h6)]) _ _ _))
  simp [h6, hv]
  have hfirst : withinB r.cap 1 512 = true ∧ withinB r.bef 0 1440 = true ∧ withinB r.aft 0 1440 = true := ⟨withinB_y (by omega) (by omega), withinB_y (by omega) (by omega), withinB_y (by omega) (by omega)⟩
  refine kw_cond_f (by simp) ?_
  refine kw_skip ?_
  refine kw_seq ?_
  obtain ⟨ROW, hROW⟩ : ∃ x, x = [C.f (fi r.cap), C.f (fi r.bef), C.f (fi r.aft), C.f r.o0, C.f r.o1, C.f r.o2, C.f r.o3, C.f r.o4, C.f r.o5, C.f r.o6, C.f r.o7, C.f r.o8, C.f r.o9, C.f (sl r.qg (pairs r.q)), C.f (sl r.pg (ints r.p))] := ⟨_, rfl⟩
  rw [← hROW]
  have hr13 : ROW.drop 13 = [C.f (sl r.qg (pairs r.q)), C.f (sl r.pg (ints r.p))] := by rw [hROW]; rfl
  have hr14 : ROW.drop 14 = [C.f (sl r.pg (ints r.p))] := by rw [hROW]; rfl
  refine kw_seq (kw_region (.inl rfl) ?_)
  simp
  refine kw_cfor r.q.length (fun j t H' => t.g 0 = .c (.f (sl g (rows l))) ∧ t.g 1 = vi i ∧ t.g 5 = .c (.ptr H.length 0 0) ∧ (∃ J, H' = H ++ (.box ROW 0 :: J)) ∧
    ∃ last, -1 ≤ last ∧ last ≤ 63 ∧ (∀ m, j = m + 1 → ∀ h : m < r.q.length, last = (r.q[m]'h).1) ∧ (j = 0 → last = -1) ∧ quotasB (-1) r.q = quotasB last (r.q.drop j)) (by omega) rfl (by simp) ⟨by simp, by simp, by simp, ⟨[], by simp⟩, -1, by omega, by omega, by omega, fun _ => rfl, by simp⟩ ?_ ?_ ?_
  · rintro j t _ L hj ⟨h0, g1, g5, ⟨J, rfl⟩, last, l1, l2, l3, l4, hB⟩ ha hL
    simp [ha, g5, hr13]
    exact hL _ ⟨by simp [h0], by simp [g1], by simp [g5], ⟨_, rfl⟩, last, l1, l2, l3, l4, hB⟩ (by simp [ha]) (by simp)
  · rintro j t _ hj ⟨h0, g1, g5, ⟨J, rfl⟩, last, l1, l2, l3, l4, hB⟩ ha next
    rw [quotasB_drop hj] at hB
    have failq : withinB r.q[j].1 (last + 1) 63 = false ∨ withinB r.q[j].2 0 10080 = false → properB l i r = false := by
      intro h; rcases h with h | h <;> simp [properB, hB, h]
    refine kw_block ?_
    refine kw_seq (kw_region (.inl rfl) ?_)
    simp [ha, g5, hr13, idx_sl, hj, ld_rowa (pairs_grid r.q) (pairs_at hj)]
    refine kw_seq (kw_region (.inl rfl) ?_)
    simp
    by_cases k1 : r.q[j].1 < 0
    · simp [k1]
      exact kw_cond_t (by simp) (kw_seq (fail (failq (.inl (withinB_f (by omega)))) _ _ _))
    simp [k1]
    by_cases k2 : 63 < r.q[j].1
    · simp [k2]
      exact kw_cond_t (by simp) (kw_seq (fail (failq (.inl (withinB_f (by omega)))) _ _ _))
    simp [k2]
    by_cases k3 : r.q[j].2 < 0
    · simp [k3]
      exact kw_cond_t (by simp) (kw_seq (fail (failq (.inr (withinB_f (by omega)))) _ _ _))
    simp [k3]
    by_cases k4 : 10080 < r.q[j].2
    · simp [k4]
      exact kw_cond_t (by simp) (kw_seq (fail (failq (.inr (withinB_f (by omega)))) _ _ _))
    simp [k4, ha]
    have go : last < r.q[j].1 → ∃ last', -1 ≤ last' ∧ last' ≤ 63 ∧ (∀ m, j + 1 = m + 1 → ∀ h : m < r.q.length, last' = (r.q[m]'h).1) ∧ (j + 1 = 0 → last' = -1) ∧ quotasB (-1) r.q = quotasB last' (r.q.drop (j + 1)) := by
      intro hlt
      rw [withinB_y (by omega) (by omega), withinB_y (by omega) (by omega)] at hB
      refine ⟨r.q[j].1, by omega, by omega, fun m hm h => ?_, by omega, by simpa using hB⟩
      have : m = j := by omega
      subst this; rfl
    cases j with
    | zero =>
      simp
      refine kw_cond_f (by simp) ?_
      refine kw_skip (kw_inBlock (next _ _ ?_ (by simp [ha])))
      exact ⟨by simp [h0], by simp [g1], by simp [g5], ⟨_, rfl⟩, go (by have := l4 rfl; omega)⟩
    | succ m =>
      have hm : m < r.q.length := by omega
      have hl3 := l3 m rfl hm
      have hrow := ld_row0 (H := H ++ (Blk.box ROW 0 :: (J ++ [Blk.box [C.f (fi r.q[m + 1].1), C.f (fi r.q[m + 1].2)] 0]))) (pairs_grid r.q) (pairs_at hm) rfl
      have e1 : ((m + 1 : Nat) : Int) - 1 = m := by omega
      simp [show 0 < m + 1 by omega, ha, e1, wrap64 (n := (m : Int)) (by omega) (by omega), g5, hr13, idx_sl, hm, hrow]
      by_cases k5 : r.q[m + 1].1 ≤ r.q[m].1
      · simp [k5]
        exact kw_cond_t (by simp) (kw_seq (fail (failq (.inl (withinB_f (by omega)))) _ _ _))
      · simp [k5]
        refine kw_cond_f (by simp) ?_
        refine kw_skip (kw_inBlock (next _ _ ?_ (by simp [ha])))
        exact ⟨by simp [h0], by simp [g1], by simp [g5], ⟨_, rfl⟩, go (by omega)⟩
  · rintro t _ ⟨h0, g1, g5, ⟨J, rfl⟩, last, l1, l2, l3, l4, hB⟩ ha
    have hQ' : quotasB (-1) r.q = true := by rw [hB]; simp [quotasB]
    refine kw_seq ?_
    refine kw_seq (kw_region (.inl rfl) ?_)
    simp
    refine kw_cfor r.p.length (fun j t H' => t.g 0 = .c (.f (sl g (rows l))) ∧ t.g 1 = vi i ∧ t.g 5 = .c (.ptr H.length 0 0) ∧ (∃ J, H' = H ++ (.box ROW 0 :: J)) ∧
      ∃ last, -1 ≤ last ∧ last ≤ 6 ∧ (∀ m, j = m + 1 → ∀ h : m < r.p.length, last = r.p[m]'h) ∧ (j = 0 → last = -1) ∧ partsB l i (-1) r.p = partsB l i last (r.p.drop j)) (by omega) rfl (by simp)
      ⟨by simp [h0], by simp [g1], by simp [g5], ⟨J, rfl⟩, -1, by omega, by omega, by omega, fun _ => rfl, by simp⟩ ?_ ?_ ?_
    · rintro j t _ L hj ⟨h0, g1, g5, ⟨J, rfl⟩, last, l1, l2, l3, l4, hB⟩ ha hL
      simp [ha, g5, hr14]
      exact hL _ ⟨by simp [h0], by simp [g1], by simp [g5], ⟨_, rfl⟩, last, l1, l2, l3, l4, hB⟩ (by simp [ha]) (by simp)
    · rintro j t _ hj ⟨h0, g1, g5, ⟨J, rfl⟩, last, l1, l2, l3, l4, hB⟩ ha next
      rw [partsB_drop hj] at hB
      have failp : withinB r.p[j] (last + 1) ((l.length : Int) - 1) = false ∨ r.p[j] = i ∨ plen l r.p[j] ≠ 0 → properB l i r = false := by
        intro h; rcases h with h | h | h <;> simp [properB, hB, h]
      refine kw_block ?_
      refine kw_seq (kw_region (.inl rfl) ?_)
      simp [ha, g5, hr14, idx_sl, hj, ld_int]
      refine kw_seq (kw_region (.inl rfl) ?_)
      simp
      by_cases k1 : r.p[j] < 0
      · simp [k1]
        exact kw_cond_t (by simp) (kw_seq (fail (failp (.inl (withinB_f (by omega)))) _ _ _))
      simp [k1, h0]
      by_cases k2 : (l.length : Int) ≤ r.p[j]
      · simp [k2]
        exact kw_cond_t (by simp) (kw_seq (fail (failp (.inl (withinB_f (by omega)))) _ _ _))
      simp [k2, g1]
      by_cases k3 : r.p[j] = i
      · simp [k3]
        exact kw_cond_t (by simp) (kw_seq (fail (failp (.inr (.inl k3))) _ _ _))
      simp [k3, ha]
      have hk : r.p[j].toNat < l.length := by omega
      have hrow := ld_row (H := H ++ (.box ROW 0 :: J)) (k := 14) (rows_grid l) (rows_at hk) rfl
      have hpl := plen_at (l := l) (p := r.p[j]) (by omega) hk
      have hidx := fun H : Heap => idx_sl (H := H) (g := g) (rows := rows l) (sz := 15) (k := .i64) (i := r.p[j]) (by omega) (by simp; omega)
      have last_step : ∀ T : T, T.g 0 = .c (.f (sl g (rows l))) → T.g 1 = vi i → T.g 5 = .c (.ptr H.length 0 0) → T.g 8 = vi j → T.g 141 = vb (decide (0 < (l[r.p[j].toNat].p.length : Int))) → last < r.p[j] →
          WP tab.get F_ref18_proper none (.code C_ref18_proper_44 :: .inBlock 3 :: .code (incC3 8 99 100) :: .inLoop (roundC3 2 8 98 99 100 [⟨D 94, .mov (R 8), none⟩, ⟨D 95, .fieldA 14 (R 5), none⟩, ⟨D 96, .load none (R 95), none⟩, ⟨D 97, .len (R 96), none⟩, ⟨D 98, .bin .lss (R 94) (R 97), none⟩] C_ref18_proper_39) :: .inBlock 2 :: [.code C_ref18_proper_48]) ⟨T, [], H ++ (.box ROW 0 :: J)⟩ Q := by
        intro T t0 t1 t5 t8 t141 hlt
        by_cases k6 : plen l r.p[j] = 0
        · have h0' : l[r.p[j].toNat].p.length = 0 := by omega
          refine kw_cond_f (by simp [t141, h0']) ?_
          refine kw_skip (kw_inBlock (next _ _ ?_ t8))
          rw [withinB_y (by omega) (by omega)] at hB
          simp [k3, k6] at hB
          refine ⟨by simp [t0], by simp [t1], by simp [t5], ⟨_, rfl⟩, r.p[j], by omega, by omega, fun m hm h => ?_, by omega, hB⟩
          have : m = j := by omega
          subst this; rfl
        · have h0' : 0 < (l[r.p[j].toNat].p.length : Int) := by omega
          exact kw_cond_t (by rw [R_ev, t141, decide_eq_true h0']) (kw_seq (fail (failp (.inr (.inr k6))) _ _ _))
      cases j with
      | zero =>
        simp [h0, hidx, hrow]
        exact last_step _ (by simp [h0]) (by simp [g1]) (by simp [g5]) (by simp [ha]) (by simp) (by have := l4 rfl; omega)
      | succ m =>
        have hm : m < r.p.length := by omega
        have hl3 := l3 m rfl hm
        have e1 : ((m + 1 : Nat) : Int) - 1 = m := by omega
        simp [show 0 < m + 1 by omega, ha, e1, wrap64 (n := (m : Int)) (by omega) (by omega), g5, hr14, idx_sl, hm, ld_int]
        by_cases k5 : r.p[m + 1] ≤ r.p[m]
        · simp [k5]
          exact kw_cond_t (by simp) (kw_seq (fail (failp (.inl (withinB_f (by omega)))) _ _ _))
        · simp [k5, h0, hidx, hrow]
          exact last_step _ (by simp [h0]) (by simp [g1]) (by simp [g5]) (by simp [ha]) (by simp) (by omega)
    · rintro t _ ⟨h0, g1, g5, ⟨J, rfl⟩, last, l1, l2, l3, l4, hB⟩ ha
      have hP' : partsB l i (-1) r.p = true := by rw [hB]; simp [partsB]
      refine kw_seq (kw_region (.inl rfl) ?_)
      simp
      refine kw_ret (hQ _ _ ?_)
      simp [properB, hfirst, hQ', hP']
end Go.Proofs.YtjcobnhnmlhbaaaGreat
end

section
namespace Go.Proofs.YtjcobnhnmlhbaaaGreat
open Go Km

theorem rproper_sp (g : Tg) (l : List RoomD) (i : Nat) (hi : i < l.length) (hl : l.length ≤ 6) (ho : ∀ r ∈ l, OpenOK' r) (hq : l[i].q.length ≤ 64) (hp : l[i].p.length ≤ 64) :
    Km.Pure tab.get F_ref18_proper [.c (.f (sl g (rows l))), vi i] = Eq (vb (properB l i l[i])) := (rproper_kf g l i hi hl ho hq hp).eq

theorem any_drop {α : Type} {l : List α} {p : α → Bool} {j : Nat} (hj : j < l.length) : (l.drop j).any p = (p l[j] || (l.drop (j + 1)).any p) := by
  rw [List.drop_eq_getElem_cons hj, List.any_cons]

theorem rvalid_kf (g : Tg) (l : List RoomD) (hl : l.length ≤ 6) (ho : ∀ r ∈ l, OpenOK' r) : Kf tab.get F_ref18_Valid [.c (.f (sl g (rows l)))] (vi (validI l)) := by
  refine kf_fn T_ref18_Valid rfl fun H Q hQ => ?_
  refine kw_seq (kw_region (.inl rfl) ?_)
  simp
  refine kw_seq ?_
  refine kw_seq (kw_region (.inl rfl) ?_)
  have h256 : ¬ (256 : Int) < l.length := by omega
  simp [h256]
  refine kw_cond_f (by simp) ?_
  refine kw_skip ?_
  refine kw_seq ?_
  refine kw_seq (kw_region (.inl rfl) ?_)
  simp
  refine kw_cfor l.length (fun j t H' => t.g 0 = .c (.f (sl g (rows l))) ∧ H = H' ∧ l.any bigB = (l.drop j).any bigB) (by omega) rfl (by simp) (by simp) ?_ ?_ ?_
  · rintro j t _ L hj ⟨h0, rfl, hB⟩ ha hL
    simp [ha, h0]
    exact hL _ ⟨by simp [h0], rfl, hB⟩ (by simp [ha]) (by simp)
  · rintro j t _ hj ⟨h0, rfl, hB⟩ ha next
    rw [any_drop hj] at hB
    have hv := Km.Pure.eq (ho _ (List.getElem_mem hj))
    have h1 := ld_row (H := H) (k := 13) (rows_grid l) (rows_at hj) rfl
    have h2 := ld_row (H := H) (k := 14) (rows_grid l) (rows_at hj) rfl
    have h3 := ld_rown (H := H) (k := 3) (n := 10) (rows_grid l) (rows_at hj) (by omega)
    simp only [RoomD.row, List.drop_succ_cons, List.drop_zero, List.take_succ_cons, List.take_zero, List.map_cons, List.map_nil] at h3
    simp only [RoomD.op] at hv
    refine kw_block ?_
    refine kw_seq (kw_region (.inl rfl) ?_)
    simp [h0, ha, idx_sl, hj, h1]
    by_cases k1 : (64 : Int) < l[j].q.length
    · simp [k1]
      refine kw_cond_t (by simp) ?_
      refine kw_seq (kw_region (.inl rfl) ?_)
      simp
      refine kw_ret (hQ _ _ ?_)
      simp [validI, hB, bigB, k1]
    simp [k1, h0, ha, idx_sl, hj, h2]
    by_cases k2 : (64 : Int) < l[j].p.length
    · simp [k2]
      refine kw_cond_t (by simp) ?_
      refine kw_seq (kw_region (.inl rfl) ?_)
      simp
      refine kw_ret (hQ _ _ ?_)
      simp [validI, hB, bigB, k2]
    simp [k2, h0, ha, idx_sl, hj, h3, hv]
    refine kw_cond_f (by simp) ?_
    refine kw_skip (kw_inBlock (next _ _ ?_ (by simp [ha])))
    refine ⟨by simp [h0], rfl, ?_⟩
    have : bigB l[j] = false := by simp [bigB]; omega
    rw [hB, this]; rfl
  · rintro t _ ⟨h0, rfl, hB⟩ ha
    have hb : l.any bigB = false := by rw [hB]; simp
    refine kw_seq ?_
    refine kw_seq (kw_region (.inl rfl) ?_)
    simp
    refine kw_cfor l.length (fun j t H' => t.g 0 = .c (.f (sl g (rows l))) ∧ H = H' ∧ allProper l 0 l = allProper l j (l.drop j)) (by omega) rfl (by simp) (by simp [h0]) ?_ ?_ ?_
    · rintro j t _ L hj ⟨h0, rfl, hB⟩ ha hL
      simp [ha, h0]
      exact hL _ ⟨by simp [h0], rfl, hB⟩ (by simp [ha]) (by simp)
    · rintro j t _ hj ⟨h0, rfl, hB⟩ ha next
      rw [allProper_drop hj] at hB
      have hnb : bigB l[j] = false := by
        have := List.any_eq_false.1 hb l[j] (List.getElem_mem hj)
        simpa using this
      simp only [bigB, Bool.or_eq_false_iff, decide_eq_false_iff_not] at hnb
      refine kw_block ?_
      refine kw_seq (kw_region (.inl rfl) ?_)
      simp [h0, ha, rproper_sp g l j hj hl ho (by omega) (by omega)]
      cases hp : properB l j l[j]
      · refine kw_cond_t (by simp) ?_
        refine kw_seq (kw_region (.inl rfl) ?_)
        simp
        refine kw_ret (hQ _ _ ?_)
        simp [validI, hb, hB, hp]
      · refine kw_cond_f (by simp) ?_
        refine kw_skip (kw_inBlock (next _ _ ?_ (by simp [ha])))
        simp [hp] at hB
        exact ⟨by simp [h0], rfl, hB⟩
    · rintro t _ ⟨h0, rfl, hB⟩ ha
      refine kw_seq (kw_region (.inl rfl) ?_)
      simp
      refine kw_ret (hQ _ _ ?_)
      simp [validI, hb, hB, allProper]
theorem rvalid_sp (g : Tg) (l : List RoomD) (hl : l.length ≤ 6) (ho : ∀ r ∈ l, OpenOK' r) : Km.Pure tab.get F_ref18_Valid [.c (.f (sl g (rows l)))] = Eq (vi (validI l)) := (rvalid_kf g l hl ho).eq

theorem rShares_kf (g : Tg) (l : List RoomD) (a b : Int) (hl : l.length ≤ 6) (ho : ∀ r ∈ l, OpenOK' r) :
    Kf tab.get F_ref18_Shares [.c (.f (sl g (rows l))), vi a, vi b] (vb (sharesI l a b)) := by
  refine kf_fn T_ref18_Shares rfl fun H Q hQ => ?_
  have fail : sharesI l a b = false → ∀ t k, WP tab.get F_ref18_Shares none (.code (.region [⟨D 6, .mov (.k (.c (.f (.bool false)))), none⟩] []) :: .code .ret :: k) ⟨t, [], H⟩ Q := by
    intro hf t k
    refine kw_region (.inl rfl) ?_
    simp
    refine kw_ret (hQ _ _ ?_)
    simp [hf]
  have yes : sharesI l a b = true → ∀ t k, WP tab.get F_ref18_Shares none (.code (.region [⟨D 6, .mov (.k (.c (.f (.bool true)))), none⟩] []) :: .code .ret :: k) ⟨t, [], H⟩ Q := by
    intro hf t k
    refine kw_region (.inl rfl) ?_
    simp
    refine kw_ret (hQ _ _ ?_)
    simp [hf]
  refine kw_seq (kw_region (.inl rfl) ?_)
  simp
  refine kw_seq ?_
  refine kw_seq (kw_region (.inl rfl) ?_)
  simp [rvalid_sp g l hl ho]
  by_cases hv : validI l = 0
  case neg =>
    simp [hv]
    exact kw_cond_t (by simp) (kw_seq (fail (by simp [sharesI, hv]) _ _))
  simp [hv]
  by_cases k1 : a < 0
  · simp [k1]
    exact kw_cond_t (by simp) (kw_seq (fail (by simp [sharesI, withinB_f (.inl k1)]) _ _))
  simp [k1]
  by_cases k2 : (l.length : Int) ≤ a
  · simp [k2]
    exact kw_cond_t (by simp) (kw_seq (fail (by simp [sharesI, withinB_f (n := a) (lo := 0) (hi := (l.length : Int) - 1) (by omega)]) _ _))
  simp [k2]
  by_cases k3 : b < 0
  · simp [k3]
    exact kw_cond_t (by simp) (kw_seq (fail (by simp [sharesI, withinB_f (n := b) (lo := 0) (hi := (l.length : Int) - 1) (by omega)]) _ _))
  simp [k3]
  by_cases k4 : (l.length : Int) ≤ b
  · simp [k4]
    exact kw_cond_t (by simp) (kw_seq (fail (by simp [sharesI, withinB_f (n := b) (lo := 0) (hi := (l.length : Int) - 1) (by omega)]) _ _))
  simp [k4]
  refine kw_cond_f (by simp) ?_
  refine kw_skip ?_
  obtain ⟨i, rfl⟩ : ∃ i : Nat, a = i := ⟨a.toNat, by omega⟩
  obtain ⟨k, rfl⟩ : ∃ k : Nat, b = k := ⟨b.toNat, by omega⟩
  have hi : i < l.length := by omega
  have hk : k < l.length := by omega
  have hI : sharesI l i k = sharesB i k l[i] l[k] := by
    simp [sharesI, hv, withinB_y (n := (i : Int)) (lo := 0) (hi := (l.length : Int) - 1) (by omega) (by omega), withinB_y (n := (k : Int)) (lo := 0) (hi := (l.length : Int) - 1) (by omega) (by omega), hi, hk]
  rw [hI] at fail yes
  have q1 := (validI_small hv hi).2
  have q2 := (validI_small hv hk).2
  have h1 := ld_row (H := H) (k := 14) (rows_grid l) (rows_at hi) rfl
  have h2 := ld_row (H := H) (k := 14) (rows_grid l) (rows_at hk) rfl
  refine kw_seq ?_
  refine kw_seq (kw_region (.inl rfl) ?_)
  simp
  by_cases e1 : i = k
  · simp [e1]
    exact kw_cond_t (by simp) (kw_seq (yes (by simp [sharesB, e1]) _ _))
  simp [e1, idx_sl, hi, h1, in_sp _ l[i].p _ (by omega)]
  cases e2 : l[i].p.any (· == (k : Int))
  case true =>
    simp
    exact kw_cond_t (by simp) (kw_seq (yes (by simp [sharesB, e2]) _ _))
  simp [idx_sl, hk, h2, in_sp _ l[k].p _ (by omega)]
  cases e3 : l[k].p.any (· == (i : Int))
  case true =>
    exact kw_cond_t (by simp) (kw_seq (yes (by simp [sharesB, e3]) _ _))
  refine kw_cond_f (by simp) ?_
  refine kw_skip ?_
  refine kw_seq ?_
  refine kw_seq (kw_region (.inl rfl) ?_)
  simp
  refine kw_cfor l[i].p.length (fun j t H' => t.g 0 = .c (.f (sl g (rows l))) ∧ t.g 1 = vi i ∧ t.g 2 = vi k ∧ H = H' ∧ (l[i].p.any fun x => l[k].p.any (· == x)) = (l[i].p.drop j).any fun x => l[k].p.any (· == x)) (by omega) rfl (by simp) (by simp) ?_ ?_ ?_
  · rintro j t _ L hj ⟨h0, g1, g2, rfl, hB⟩ ha hL
    simp [ha, h0, g1, idx_sl, hi, h1]
    exact hL _ ⟨by simp [h0], by simp [g1], by simp [g2], rfl, hB⟩ (by simp [ha]) (by simp)
  · rintro j t _ hj ⟨h0, g1, g2, rfl, hB⟩ ha next
    rw [any_drop hj] at hB
    refine kw_block ?_
    refine kw_seq (kw_region (.inl rfl) ?_)
    simp [h0, g1, g2, ha, idx_sl, hi, hk, h1, h2, hj, ld_int, in_sp _ l[k].p _ (by omega)]
    cases e4 : l[k].p.any (· == l[i].p[j])
    · refine kw_cond_f (by simp) ?_
      refine kw_skip (kw_inBlock (next _ _ ?_ (by simp [ha])))
      rw [e4, Bool.false_or] at hB
      exact ⟨by simp [h0], by simp [g1], by simp [g2], rfl, hB⟩
    · exact kw_cond_t (by simp) (kw_seq (yes (by simp [sharesB, hB, e4]) _ _))
  · rintro t _ ⟨h0, g1, g2, rfl, hB⟩ ha
    have hB' : (l[i].p.any fun x => l[k].p.any (· == x)) = false := by rw [hB]; simp
    exact kw_seq (fail (by simp [sharesB, e1, e2, e3, hB']) _ _)
end Go.Proofs.YtjcobnhnmlhbaaaGreat
end

section
namespace Go.Proofs.YtjcobnhnmlhbaaaGreat
open Go Km

/-- The flat zone. -/
def flatZ : List C := [.f (fi 0), .f (.fs [fi 7] 1), .f (fi (-1)), .f .nils, .f (fi 0), .f .nils, .f (fi 0), .f .nils]
theorem flat_sp0 : ((CF tab.get 300 60 (.fn F_ref18_Flat) [] []).bind fun p => exV deep p.2 p.1) = some (.a flatZ) := by kernel_rfl
theorem flat_sp : Km.Pure tab.get F_ref18_Flat [] = Eq (.a flatZ) := (pure_closedv flat_sp0).eq
theorem open_flat0 : (CF tab.get 300 60 (.fn F_opening_Valid) [.a (flatZ ++ [.f .nils, .f .nils])] []).map (·.1) = some (vi 0) := by kernel_rfl
theorem open_flat0' : (CF tab.get 300 60 (.fn F_ref17_Valid) [.a (flatZ ++ [.f .nils, .f .nils])] []).map (·.1) = some (vi 0) := by kernel_rfl

/-- A room with the flat zone and without hours. -/
def plainD (r : RoomD) : RoomD := { r with o0 := fi 0, o1 := .fs [fi 7] 1, o2 := fi (-1), o3 := .nils, o4 := fi 0, o5 := .nils, o6 := fi 0, o7 := .nils, o8 := .nils, o9 := .nils }
theorem plain_ok (r : RoomD) : OpenOK (plainD r) := pure_closed open_flat0
theorem plain_ok' (r : RoomD) : OpenOK' (plainD r) := pure_closed open_flat0'
theorem plains_ok (l : List RoomD) : ∀ r ∈ l.map plainD, OpenOK r := fun r hr => by
  obtain ⟨x, _, rfl⟩ := List.mem_map.1 hr; exact plain_ok x
theorem plains_ok' (l : List RoomD) : ∀ r ∈ l.map plainD, OpenOK' r := fun r hr => by
  obtain ⟨x, _, rfl⟩ := List.mem_map.1 hr; exact plain_ok' x
theorem Shares_sp (g : Tg) (l : List RoomD) (a b : Int) (hl : l.length ≤ 6) (ho : ∀ r ∈ l, OpenOK r) :
    Km.Pure tab.get F_room_Shares [.c (.f (sl g (rows l))), vi a, vi b] = Eq (vb (sharesI l a b)) := (Shares_kf g l a b hl ho).eq
theorem rShares_sp (g : Tg) (l : List RoomD) (a b : Int) (hl : l.length ≤ 6) (ho : ∀ r ∈ l, OpenOK' r) :
    Km.Pure tab.get F_ref18_Shares [.c (.f (sl g (rows l))), vi a, vi b] = Eq (vb (sharesI l a b)) := (rShares_kf g l a b hl ho).eq

theorem raw_km (hs : Km.Pure tab.get F_law18_sanity [] (vb true)) (g : Tg) (l : List RoomD) (a b : Int) (hl : l.length ≤ 9223372036854775807) :
    Km.Pure tab.get F_law18_RoomRawMatchesReference [.c (.f (sl g (rows l))), vi a, vi b] (vb true) := by
  refine pure_fn T_law18_RoomRawMatchesReference rfl fun Q hQ => ?_
  have hs := hs.eq
  refine kw_seq (kw_region (.inl rfl) ?_)
  simp
  refine kw_seq (kw_region (.inl rfl) ?_)
  simp [hs]
  refine kw_seq ?_
  refine kw_seq (kw_region (.inl rfl) ?_)
  simp
  by_cases h6 : (6 : Int) < l.length
  · simp [h6]
    refine kw_cond_t (by simp) ?_
    refine kw_seq (kw_region (.inl rfl) ?_)
    simp
    refine kw_ret (hQ _ _ ?_)
    simp
  simp [h6]
  refine kw_cond_f (by simp) ?_
  refine kw_skip ?_
  refine kw_seq (kw_region (.inl rfl) ?_)
  simp
  refine kw_seq ?_
  refine kw_seq (kw_region (.inl rfl) ?_)
  simp
  refine kw_cfor l.length (fun j t H' => t.g 0 = .c (.f (sl g (rows l))) ∧ t.g 1 = vi a ∧ t.g 2 = vi b ∧ t.g 7 = vb true ∧ LB true H' 15 (t.g 8) .es (rows ((l.take j).map plainD))) hl rfl (by simp) (by simp [rows, LB.es0]) ?_ ?_ ?_
  · rintro j t H L hj ⟨h0, g1, g2, g7, hB⟩ ha hL
    simp [ha, h0]
    exact hL _ ⟨by simp [h0], by simp [g1], by simp [g2], by simp [g7], by simpa using hB⟩ (by simp [ha]) (by simp)
  · rintro j t H hj ⟨h0, g1, g2, g7, hB⟩ ha next
    have h1 := ld_row (H := H) (k := 13) (rows_grid l) (rows_at hj) rfl
    have h2 := ld_row (H := H) (k := 14) (rows_grid l) (rows_at hj) rfl
    have h3 := ld_rowa (H := H) (rows_grid l) (rows_at hj)
    refine kw_block ?_
    refine kw_seq ?_
    refine kw_seq (kw_region (.inl rfl) ?_)
    simp [h0, ha, idx_sl, hj, h1]
    have big : ∀ t, t.g 7 = vb true → WP tab.get F_law18_RoomRawMatchesReference none (.code C_law18_RoomRawMatchesReference_27 :: [.code C_law18_RoomRawMatchesReference_29, .inBlock 1, .code (incC3 9 21 22), .inLoop (roundC3 0 9 20 21 22 [⟨D 17, .mov (R 9), none⟩, ⟨D 18, .mov (R 0), none⟩, ⟨D 19, .len (R 18), none⟩, ⟨D 20, .bin .lss (R 17) (R 19), none⟩] C_law18_RoomRawMatchesReference_22), .inBlock 0, .code C_law18_RoomRawMatchesReference_35]) ⟨t, [], H⟩ Q := by
      intro t g7
      refine kw_seq (kw_region (.inl rfl) ?_)
      simp [g7]
      refine kw_ret (hQ _ _ ?_)
      simp
    by_cases k1 : (70 : Int) < l[j].q.length
    · simp [k1]
      exact kw_cond_t (by simp) (big _ (by simp [g7]))
    simp [k1, h0, ha, idx_sl, hj, h2]
    by_cases k2 : (70 : Int) < l[j].p.length
    · simp [k2]
      exact kw_cond_t (by simp) (big _ (by simp [g7]))
    simp [k2]
    refine kw_cond_f (by simp) ?_
    refine kw_skip ?_
    refine kw_seq (kw_region (.inl rfl) ?_)
    simp [h0, ha, idx_sl, hj, h3, RoomD.row]
    refine kw_seq (kw_region (.inl rfl) ?_)
    simp [flat_sp, flatZ]
    refine kw_region (.inl rfl) ?_
    simp
    obtain ⟨v', H', e1, e2, -⟩ := LB.app (H := H ++ [.box [.f (fi l[j].cap), .f (fi l[j].bef), .f (fi l[j].aft), .f (fi 0), .f (.fs [fi 7] 1), .f (fi (-1)), .f .nils, .f (fi 0), .f .nils, .f (fi 0), .f .nils, .f .nils, .f .nils, .f (sl l[j].qg (pairs l[j].q)), .f (sl l[j].pg (ints l[j].p))] 0, .box [.f (fi l[j].cap), .f (fi l[j].bef), .f (fi l[j].aft), .f (fi 0), .f (.fs [fi 7] 1), .f (fi (-1)), .f .nils, .f (fi 0), .f .nils, .f (fi 0), .f .nils, .f .nils, .f .nils, .f (sl l[j].qg (pairs l[j].q)), .f (sl l[j].pg (ints l[j].p))] 0])
      (row := (plainD l[j]).row) (bytes := 248) (y := .c (.sl (H.length + 1) 0 1 1 0 15)) (hB.push _) (rows_grid _) rfl (by decide) (added_box (fl := 0) (cs := (plainD l[j]).row.map .f) (by simp; rfl) rfl) (mapO_exB _) (by simp [roomOK]; omega)
    simp [e1]
    refine kw_inBlock (next _ _ ?_ (by simp [ha]))
    refine ⟨by simp [h0], by simp [g1], by simp [g2], by simp [g7], ?_⟩
    have : rows ((l.take (j + 1)).map plainD) = rows ((l.take j).map plainD) ++ [(plainD l[j]).row] := by
      rw [List.take_succ_eq_append_getElem hj]; simp only [rows, List.map_append, List.map_cons, List.map_nil]
    rw [this]
    simpa using e2
  · rintro t H ⟨h0, g1, g2, g7, hB⟩ ha
    rw [List.take_length] at hB
    have hl' : (l.map plainD).length ≤ 6 := by simp; omega
    have f := hB.fz (rows_grid _)
    have m1 := hB.mk (rows_grid _)
    have f1 := m1.fz (rows_grid _)
    have m2 := m1.mk (rows_grid _)
    have f2 := m2.fz (rows_grid _)
    have m3 := m2.mk (rows_grid _)
    have f3 := m3.fz (rows_grid _)
    refine kw_seq (kw_region (.inl rfl) ?_)
    simp [g7, g1, g2, f, f1, f2, f3, valid_sp Tg.es (l.map plainD) hl' (plains_ok l), rvalid_sp Tg.es (l.map plainD) hl' (plains_ok' l), Shares_sp Tg.es (l.map plainD) a b hl' (plains_ok l), rShares_sp Tg.es (l.map plainD) a b hl' (plains_ok' l)]
    refine kw_ret (hQ _ _ ?_)
    simp
end Go.Proofs.YtjcobnhnmlhbaaaGreat
end

section
namespace Go.Proofs.YtjcobnhnmlhbaaaGreat
open Go Km

set_option maxRecDepth 100000 in
theorem shp_room {n : Nat} {xs : List FC} (h : Shp Tryz.prog (n + 6) 37 xs) : ∃ r : RoomD, xs = r.row ∧ True := by
  obtain ⟨_, q1, rfl, h1, k1⟩ := shp_cons (shp_struct (ts := [3, 3, 3, 34, 35, 24]) Tryz.underlying37 rfl h)
  obtain ⟨cap, rfl, _⟩ := shp_int Tryz.underlying3 h1
  obtain ⟨_, q2, rfl, h1, k2⟩ := shp_cons k1
  obtain ⟨bef, rfl, _⟩ := shp_int Tryz.underlying3 h1
  obtain ⟨_, q3, rfl, h1, k3⟩ := shp_cons k2
  obtain ⟨aft, rfl, _⟩ := shp_int Tryz.underlying3 h1
  obtain ⟨po, q4, rfl, ho, k4⟩ := shp_cons k3
  obtain ⟨pq, q5, rfl, hq, k5⟩ := shp_cons k4
  obtain ⟨pp, q6, rfl, hp, k6⟩ := shp_cons k5
  obtain rfl : q6 = [] := k6
  obtain ⟨qg, rows, rfl, _, _, hr⟩ := shp_slice Tryz.underlying35 hq
  obtain ⟨q, rfl, _⟩ := rows_of (enc := fun x : Int × Int => [fi x.1, fi x.2]) (p := fun _ => True) fun r hr' => by
    obtain ⟨_, s1, rfl, h1, k7⟩ := shp_cons (shp_struct (ts := [3, 3]) Tryz.underlying86 rfl (hr r hr'))
    obtain ⟨a, rfl, _⟩ := shp_int Tryz.underlying3 h1
    obtain ⟨_, s2, rfl, h1, k8⟩ := shp_cons k7
    obtain ⟨b, rfl, _⟩ := shp_int Tryz.underlying3 h1
    obtain rfl : s2 = [] := k8
    exact ⟨(a, b), rfl, trivial⟩
  obtain ⟨pg, p, rfl, _, _⟩ := shp_ints Tryz.underlying24 Tryz.underlying3 hp
  obtain ⟨pz, s1, rfl, hz, k9⟩ := shp_cons (shp_struct (ts := [31, 32, 24]) Tryz.underlying34 rfl ho)
  obtain ⟨_, s2, rfl, h1, k10⟩ := shp_cons k9
  obtain ⟨g8, r8, rfl, _⟩ := shp_slice Tryz.underlying32 h1
  obtain ⟨_, s3, rfl, h1, k11⟩ := shp_cons k10
  obtain ⟨g9, r9, rfl, _⟩ := shp_slice Tryz.underlying24 h1
  obtain rfl : s3 = [] := k11
  obtain ⟨pc, z1, rfl, hc, k12⟩ := shp_cons (shp_struct (ts := [27, 3, 28, 3, 29]) Tryz.underlying31 rfl hz)
  obtain ⟨_, z2, rfl, h1, k13⟩ := shp_cons k12
  obtain ⟨x4, rfl, _⟩ := shp_int Tryz.underlying3 h1
  obtain ⟨_, z3, rfl, h1, k14⟩ := shp_cons k13
  obtain ⟨g5, r5, rfl, _⟩ := shp_slice Tryz.underlying28 h1
  obtain ⟨_, z4, rfl, h1, k15⟩ := shp_cons k14
  obtain ⟨x6, rfl, _⟩ := shp_int Tryz.underlying3 h1
  obtain ⟨_, z5, rfl, h1, k16⟩ := shp_cons k15
  obtain ⟨g7, r7, rfl, _⟩ := shp_slice Tryz.underlying29 h1
  obtain rfl : z5 = [] := k16
  obtain ⟨_, c1, rfl, h1, k17⟩ := shp_cons (shp_struct (ts := [3, 24, 3, 25]) Tryz.underlying27 rfl hc)
  obtain ⟨x0, rfl, _⟩ := shp_int Tryz.underlying3 h1
  obtain ⟨_, c2, rfl, h1, k18⟩ := shp_cons k17
  obtain ⟨g1, r1, rfl, _⟩ := shp_slice Tryz.underlying24 h1
  obtain ⟨_, c3, rfl, h1, k19⟩ := shp_cons k18
  obtain ⟨x2, rfl, _⟩ := shp_int Tryz.underlying3 h1
  obtain ⟨_, c4, rfl, h1, k20⟩ := shp_cons k19
  obtain ⟨g3, r3, rfl, _⟩ := shp_slice Tryz.underlying25 h1
  obtain rfl : c4 = [] := k20
  exact ⟨⟨cap, bef, aft, _, _, _, _, _, _, _, _, _, _, qg, q, pg, p⟩, rfl, trivial⟩

set_option maxRecDepth 100000 in
theorem raw_args {ar : List V} (h : ArgsShp Tryz.prog [22, 3, 3] ar) : ∃ (g : Tg) (l : List RoomD) (a b : Int), ar = [.c (.f (sl g (rows l))), vi a, vi b] ∧ l.length ≤ maxLen := by
  obtain ⟨a0, _, rfl, h0, a1, _, rfl, h1, a2, _, rfl, h2, rfl⟩ := h
  rcases h0 with ⟨xs, _, _, d, hd, hd'⟩ | ⟨x, rfl, h0⟩
  · rw [Tryz.underlying22] at hd; cases hd; rcases hd' with ⟨_, e⟩ | ⟨_, _, e⟩ <;> cases e
  rcases h1 with ⟨xs, _, _, d, hd, hd'⟩ | ⟨y, rfl, h1⟩
  · rw [Tryz.underlying3] at hd; cases hd; rcases hd' with ⟨_, e⟩ | ⟨_, _, e⟩ <;> cases e
  rcases h2 with ⟨xs, _, _, d, hd, hd'⟩ | ⟨z, rfl, h2⟩
  · rw [Tryz.underlying3] at hd; cases hd; rcases hd' with ⟨_, e⟩ | ⟨_, _, e⟩ <;> cases e
  obtain ⟨a, e1, _⟩ := shp_int Tryz.underlying3 h1
  obtain ⟨b, e2, _⟩ := shp_int Tryz.underlying3 h2
  obtain ⟨g, rws, e0, _, hl, hr⟩ := shp_slice Tryz.underlying22 h0
  obtain ⟨l, rfl, _⟩ := rows_of (enc := RoomD.row) (p := fun _ => True) fun r hr' => shp_room (n := 33) (hr r hr')
  cases e0; cases e1; cases e2
  exact ⟨g, l, a, b, rfl, by simpa using hl⟩
end Go.Proofs.YtjcobnhnmlhbaaaGreat
end

section
namespace Go.Proofs.YtjcobnhnmlhbaaaGreat
open Go Km

theorem sane : Km.Pure tab.get F_law18_sanity [] (vb true) := pure_reckoned (reckoned ev)
theorem raw_true (ar : List V) (h : ArgsShp Tryz.prog [22, 3, 3] ar) : Km.Pure tab.get F_law18_RoomRawMatchesReference ar (vb true) := by
  obtain ⟨g, l, a, b, rfl, hl⟩ := raw_args h
  exact raw_km sane g l a b (Nat.le_trans hl (by decide))
end Go.Proofs.YtjcobnhnmlhbaaaGreat
end

section
namespace Go.Proofs.YtjcobnhnmlhbaaaGreat
open Go Km

/-! ### The rooms that R.Rooms makes -/

def hoursC (a b : Nat) : FC := .fs [.fs [.fs [.nils, fi 0, fi 1, .fs [fi 0] 1] 1] 1, fi (60 * (a : Int)), fi (1440 - 60 * (b : Int))] 1
def closedC (c : Nat) : FC := if c < 20 then .fs [fi (c : Int)] 1 else .nils
def okI : Option (V × Heap) → Bool
  | some (.c (.f (.int .i64 0)), _) => true
  | _ => false
theorem okI_pure {f : Nat} {args : List V} {m d : Nat} (h : okI (CF tab.get m d (.fn f) args []) = true) : Km.Pure tab.get f args (vi 0) := by
  refine pure_closed (m := m) (d := d) ?_
  unfold okI at h
  split at h
  · rename_i h'; rw [h']; rfl
  · cases h
theorem open_all : ((List.range 3).all fun a => (List.range 3).all fun b => (List.range 21).all fun c => okI (CF tab.get 300 60 (.fn F_opening_Valid) [.a (flatZ ++ [.f (hoursC a b), .f (closedC c)])] [])) = true := by kernel_rfl
theorem open_all' : ((List.range 3).all fun a => (List.range 3).all fun b => (List.range 21).all fun c => okI (CF tab.get 300 60 (.fn F_ref17_Valid) [.a (flatZ ++ [.f (hoursC a b), .f (closedC c)])] [])) = true := by kernel_rfl

theorem all_sp0 : ((CF tab.get 300 60 (.fn F_ref18_All) [] []).bind fun p => exV deep p.2 p.1) = some (.a [.f (.fs [.fs [.nils, fi 0, fi 1, .fs [fi 0] 1] 1] 1)]) := by kernel_rfl
theorem all_sp : Km.Pure tab.get F_ref18_All [] = Eq (.a [.f (.fs [.fs [.nils, fi 0, fi 1, .fs [fi 0] 1] 1] 1)]) := (pure_closedv all_sp0).eq

def madeD (a b c : Nat) (cap bef aft : Int) (qg : Tg) (q : List (Int × Int)) : RoomD := ⟨cap, bef, aft, fi 0, .fs [fi 7] 1, fi (-1), .nils, fi 0, .nils, fi 0, .nils, hoursC a b, closedC c, qg, q, .nil, []⟩
/-- As R.Rooms makes them, but for the parts. -/
def Good (r : RoomD) : Prop := ∃ a b c cap bef aft qg q, r = madeD a b c cap bef aft qg q ∧ a < 3 ∧ b < 3 ∧ c < 21 ∧ 6 ≤ cap ∧ cap ≤ 11 ∧ 0 ≤ bef ∧ bef ≤ 20 ∧ 0 ≤ aft ∧ aft ≤ 20 ∧
  (q = [] ∨ ∃ t m, q = [(t, m), (2, 600)] ∧ 0 ≤ t ∧ t ≤ 1 ∧ 0 ≤ m ∧ m ≤ 900)

theorem good_open {r : RoomD} (h : Good r) : OpenOK r ∧ OpenOK' r := by
  obtain ⟨a, b, c, cap, bef, aft, qg, q, rfl, ha, hb, hc, _⟩ := h
  have h1 := open_all
  have h2 := open_all'
  simp only [List.all_eq_true, List.mem_range] at h1 h2
  exact ⟨okI_pure (h1 a ha b hb c hc), okI_pure (h2 a ha b hb c hc)⟩

def bytesC (B : List (List Int)) : List (List FC) := B.map fun r => r.map fun n => .int .u8 n

end Go.Proofs.YtjcobnhnmlhbaaaGreat
end

section
namespace Go.Proofs.YtjcobnhnmlhbaaaGreat
open Go Km

def IsRooms (r : V) : Prop := ∃ a b c : RoomD, Good a ∧ Good b ∧ Good c ∧ (r = .c (.f (sl .es (rows [a, b, c]))) ∨ r = .c (.f (sl .es (rows [a, b, { c with pg := .fs, p := [0, 1] }]))))

def csD (x0 x1 x2 : Int) (o8 o9 q : C) : List C := [.f (fi x0), .f (fi x1), .f (fi x2), .f (fi 0), .f (.fs [fi 7] 1), .f (fi (-1)), .f .nils, .f (fi 0), .f .nils, .f (fi 0), .f .nils, o8, o9, q, .f .nils]

theorem rooms_ex (B : List (List Int)) (hB : B.length = 3) (hr : ∀ r ∈ B, r.length = 5 ∧ ∀ n ∈ r, 0 ≤ n ∧ n ≤ 255) :
    ∃ r, IsRooms r ∧ Km.Pure tab.get F_ref18_Rooms [.a ((bytesC B).flatten.map .f)] r := by
  refine pure_ex T_ref18_Rooms rfl fun Q hQ => ?_
  obtain ⟨xs, hxs⟩ : ∃ xs, xs = (bytesC B).flatten := ⟨_, rfl⟩
  rw [← hxs]
  refine kw_seq (kw_region (.inl rfl) ?_)
  simp
  refine kw_seq (kw_region (.inl rfl) ?_)
  simp
  refine kw_seq ?_
  refine kw_seq (kw_region (.inl rfl) ?_)
  simp
  refine kw_cfor 3 (fun j t H => t.g 1 = .c (.ptr 0 0 0) ∧ H[0]? = some (.box (xs.map .f) 0) ∧ ∃ l, LB true H 15 (t.g 3) .es (rows l) ∧ l.length = j ∧ ∀ r ∈ l, Good r) (by decide) rfl (by simp)
    ⟨by simp, by simp, [], by simpa [rows] using LB.es0, rfl, by simp⟩ ?_ ?_ ?_
  · rintro j t H L hj ⟨g1, hx, l, hl, hlen, hG⟩ ha hL
    simp [ha]
    exact hL _ ⟨by simp [g1], hx, l, by simpa using hl, hlen, hG⟩ (by simp [ha]) (by simp)
  · rintro j t H hj ⟨g1, hx, l, hl, hlen, hG⟩ ha next
    have hjB : j < B.length := by omega
    obtain ⟨h5, hbyte⟩ := hr B[j] (List.getElem_mem hjB)
    obtain ⟨n0, n1, n2, n3, n4, hBj⟩ : ∃ n0 n1 n2 n3 n4, B[j] = [n0, n1, n2, n3, n4] := by
      match hm : B[j], h5 with
      | [a, b, c, d, e], _ => exact ⟨a, b, c, d, e, rfl⟩
    rw [hBj] at hbyte
    simp only [List.mem_cons, List.not_mem_nil, or_false, forall_eq_or_imp, forall_eq] at hbyte
    obtain ⟨b0, b1, b2, b3, b4⟩ := hbyte
    have hrow : ((xs.map C.f).drop (j * 5)).take 5 = [.f (.int .u8 n0), .f (.int .u8 n1), .f (.int .u8 n2), .f (.int .u8 n3), .f (.int .u8 n4)] := by
      have hg : Grid 5 (bytesC B) := fun r hm => by
        obtain ⟨r', hm', rfl⟩ := List.mem_map.1 hm
        rw [List.length_map]; exact (hr r' hm').1
      have hat : (bytesC B)[j]? = some [.int .u8 n0, .int .u8 n1, .int .u8 n2, .int .u8 n3, .int .u8 n4] := by simp [bytesC, hjB, hBj]
      have := drop_row (sz := 5) (k := 0) hg hat (by omega)
      rw [hxs, ← List.map_drop, show j * 5 = j * 5 + 0 from rfl, this]
      rfl
    have hlen5 : 5 ≤ xs.length - j * 5 := by
      have := congrArg List.length hrow
      simp only [List.length_take, List.length_drop, List.length_map, List.length_cons, List.length_nil] at this
      omega
    have fin : ∀ (t : T) (H1 : Heap) (cs : List C) (r : RoomD) (k fl : Nat), Good r → t.g 1 = .c (.ptr 0 0 0) → H1[0]? = some (.box (xs.map .f) 0) → LB true H1 15 (t.g 3) .es (rows l) → t.g 4 = vi j →
        t.g 6 = .c (.ptr k 0 0) → H1[k]? = some (.box cs fl) → cs.length = 15 → mapO (exB 60 H1) cs = some r.row →
        WP tab.get F_ref18_Rooms none [.code C_ref18_Rooms_33, .inBlock 1, .code (incC3 4 11 12), .inLoop (roundC3 0 4 10 11 12 [⟨D 9, .mov (R 4), none⟩, ⟨D 10, .bin .lss (R 9) (.k (.c (.f (.int .i64 3)))), none⟩] C_ref18_Rooms_14), .inBlock 0, .code C_ref18_Rooms_35] ⟨t, [], H1⟩ Q := by
      intro t H1 cs r k fl hg g1 hx hl ha g6 hk hcs hfz
      obtain ⟨v', H', e1, e2, -, e4⟩ := LB.app (H := H1 ++ [.box cs 0]) (row := r.row) (bytes := 248) (y := .c (.sl H1.length 0 1 1 0 15)) (hl.push _) (rows_grid _) rfl (by decide)
        (added_box (fl := 0) (cs := cs) (by simp) hcs) (mapO_imp (fun x y _ => exB_push _) hfz) (by simp [roomOK]; omega)
      have htk : cs.take 15 = cs := List.take_of_length_le (by omega)
      refine kw_region (.inl rfl) ?_
      simp [g6, hk, hcs, htk, e1]
      refine kw_inBlock (next _ _ ?_ (by simp [ha]))
      refine ⟨by simp [g1], e4 0 _ _ (by rw [List.getElem?_append_left (lt_of_get hx)]; exact hx), l ++ [r], by simpa [rows] using e2, by simp [hlen], ?_⟩
      intro r' hr'
      rcases List.mem_append.1 hr' with h | h
      · exact hG r' h
      · simp at h; subst h; exact hg
    refine kw_block ?_
    refine kw_seq (kw_region (.inl rfl) ?_)
    simp [ha, g1, idx_ptr (i := (j : Int)) (n := 3) (by omega) (by omega), hx, hrow, hlen5]
    refine kw_seq (kw_region (.inl rfl) ?_)
    simp (disch := omega) [wrap64, Int.tmod_eq_emod_of_nonneg, bin_rem, idx_ptr, List.getElem?_cons_zero, List.getElem?_cons_succ]
    refine kw_seq (kw_region (.inl rfl) ?_)
    simp (disch := omega) [wrap64, wrapu8, Int.tmod_eq_emod_of_nonneg, Int.tdiv_eq_ediv_of_nonneg, bin_rem, bin_quo, idx_ptr, List.getElem?_cons_zero, List.getElem?_cons_succ, all_sp]
    refine kw_seq (kw_region (.inl rfl) ?_)
    simp (disch := omega) [idx_ptr, List.getElem?_cons_zero, List.getElem?_cons_succ, flat_sp, flatZ]
    refine kw_seq ?_
    refine kw_seq (kw_region (.inl rfl) ?_)
    simp (disch := omega) [wrap64, wrapu8, Int.tmod_eq_emod_of_nonneg, Int.tdiv_eq_ediv_of_nonneg, bin_rem, bin_quo, idx_ptr, List.getElem?_cons_zero, List.getElem?_cons_succ]
    obtain ⟨a, ea⟩ : ∃ a : Nat, n3 % 3 = (a : Int) := ⟨(n3 % 3).toNat, by omega⟩
    obtain ⟨b, eb⟩ : ∃ b : Nat, n3 / 4 % 3 = (b : Int) := ⟨(n3 / 4 % 3).toNat, by omega⟩
    obtain ⟨c, ec⟩ : ∃ c : Nat, n4 % 20 = (c : Int) := ⟨(n4 % 20).toNat, by omega⟩
    simp only [ea, eb]
    have good : ∀ c qg q, c < 21 → (q = [] ∨ ∃ t m, q = [(t, m), ((2 : Int), (600 : Int))] ∧ 0 ≤ t ∧ t ≤ 1 ∧ 0 ≤ m ∧ m ≤ 900) → Good (madeD a b c (6 + n0 % 6) (5 * (n1 % 5)) (5 * (n2 % 5)) qg q) :=
      fun c qg q hc hq => ⟨a, b, c, _, _, _, _, _, rfl, by omega, by omega, hc, by omega, by omega, by omega, by omega, by omega, by omega, hq⟩
    have hq0 : ([] : List (Int × Int)) = [] ∨ ∃ t m, ([] : List (Int × Int)) = [(t, m), ((2 : Int), (600 : Int))] ∧ 0 ≤ t ∧ t ≤ 1 ∧ 0 ≤ m ∧ m ≤ 900 := .inl rfl
    have hq1 : [(n4 % 2, 60 * (n4 / 16)), ((2 : Int), (600 : Int))] = [] ∨ ∃ t m, [(n4 % 2, 60 * (n4 / 16)), ((2 : Int), (600 : Int))] = [(t, m), ((2 : Int), (600 : Int))] ∧ 0 ≤ t ∧ t ≤ 1 ∧ 0 ≤ m ∧ m ≤ 900 :=
      .inr ⟨_, _, rfl, by omega, by omega, by omega, by omega⟩
    have hp := fun L => hl.push L
    by_cases c1 : n3 / 16 % 4 = 0
    · refine kw_cond_t (by simp [c1]) ?_
      have hc20 : c < 20 := by omega
      refine kw_region (.inl rfl) ?_
      simp (disch := omega) [wrap64, wrapu8, Int.tmod_eq_emod_of_nonneg, Int.tdiv_eq_ediv_of_nonneg, bin_rem, bin_quo, idx_ptr, List.getElem?_cons_zero, List.getElem?_cons_succ]
      simp only [ec]
      refine kw_seq ?_
      refine kw_seq (kw_region (.inl rfl) ?_)
      simp (disch := omega) [wrap64, wrapu8, Int.tmod_eq_emod_of_nonneg, Int.tdiv_eq_ediv_of_nonneg, bin_rem, bin_quo, idx_ptr, List.getElem?_cons_zero, List.getElem?_cons_succ]
      by_cases c2 : n0 / 8 % 2 = 1
      · refine kw_cond_t (by simp [c2]) ?_
        refine kw_region (.inl rfl) ?_
        simp (disch := omega) [wrap64, wrapu8, Int.tmod_eq_emod_of_nonneg, Int.tdiv_eq_ediv_of_nonneg, bin_rem, bin_quo, idx_ptr, List.getElem?_cons_zero, List.getElem?_cons_succ]
        exact fin _ _ (csD (6 + n0 % 6) (5 * (n1 % 5)) (5 * (n2 % 5)) (.sl (H.length + 3) 0 1 1 0 3) (.sl (H.length + 4) 0 1 1 0 1) (.sl (H.length + 5) 0 2 2 0 2)) _ (H.length + 1) 0 (good c .fs _ (by omega) hq1) (by simp [g1]) (by rw [List.getElem?_append_left (lt_of_get hx)]; exact hx) (by simpa using hp _) (by simp [ha]) (by simp) (by simp; rfl) rfl
          (by simp [csD, exB_sl, exB_f, madeD, RoomD.row, hoursC, closedC, hc20, sl, Tg.fc, pairs, ints])
      · refine kw_cond_f (by simp [c2]) ?_
        refine kw_skip ?_
        exact fin _ _ (csD (6 + n0 % 6) (5 * (n1 % 5)) (5 * (n2 % 5)) (.sl (H.length + 3) 0 1 1 0 3) (.sl (H.length + 4) 0 1 1 0 1) (.f .nils)) _ (H.length + 1) 0 (good c .nil _ (by omega) hq0) (by simp [g1]) (by rw [List.getElem?_append_left (lt_of_get hx)]; exact hx) (by simpa using hp _) (by simp [ha]) (by simp) (by simp; rfl) rfl
          (by simp [csD, exB_sl, exB_f, madeD, RoomD.row, hoursC, closedC, hc20, sl, Tg.fc, pairs, ints])
    · refine kw_cond_f (by simp [c1]) ?_
      have hc20 : ¬ 20 < 20 := by omega
      refine kw_skip ?_
      refine kw_seq ?_
      refine kw_seq (kw_region (.inl rfl) ?_)
      simp (disch := omega) [wrap64, wrapu8, Int.tmod_eq_emod_of_nonneg, Int.tdiv_eq_ediv_of_nonneg, bin_rem, bin_quo, idx_ptr, List.getElem?_cons_zero, List.getElem?_cons_succ]
      by_cases c2 : n0 / 8 % 2 = 1
      · refine kw_cond_t (by simp [c2]) ?_
        refine kw_region (.inl rfl) ?_
        simp (disch := omega) [wrap64, wrapu8, Int.tmod_eq_emod_of_nonneg, Int.tdiv_eq_ediv_of_nonneg, bin_rem, bin_quo, idx_ptr, List.getElem?_cons_zero, List.getElem?_cons_succ]
        exact fin _ _ (csD (6 + n0 % 6) (5 * (n1 % 5)) (5 * (n2 % 5)) (.sl (H.length + 3) 0 1 1 0 3) (.f .nils) (.sl (H.length + 4) 0 2 2 0 2)) _ (H.length + 1) 0 (good 20 .fs _ (by omega) hq1) (by simp [g1]) (by rw [List.getElem?_append_left (lt_of_get hx)]; exact hx) (by simpa using hp _) (by simp [ha]) (by simp) (by simp; rfl) rfl
          (by simp [csD, exB_sl, exB_f, madeD, RoomD.row, hoursC, closedC, hc20, sl, Tg.fc, pairs, ints])
      · refine kw_cond_f (by simp [c2]) ?_
        refine kw_skip ?_
        exact fin _ _ (csD (6 + n0 % 6) (5 * (n1 % 5)) (5 * (n2 % 5)) (.sl (H.length + 3) 0 1 1 0 3) (.f .nils) (.f .nils)) _ (H.length + 1) 0 (good 20 .nil _ (by omega) hq0) (by simp [g1]) (by rw [List.getElem?_append_left (lt_of_get hx)]; exact hx) (by simpa using hp _) (by simp [ha]) (by simp) (by simp; rfl) rfl
          (by simp [csD, exB_sl, exB_f, madeD, RoomD.row, hoursC, closedC, hc20, sl, Tg.fc, pairs, ints])
  · rintro t H ⟨g1, hx, l, hl, hlen, hG⟩ ha
    obtain ⟨a, b, c, rfl⟩ : ∃ a b c, l = [a, b, c] := by
      match l, hlen with
      | [a, b, c], _ => exact ⟨a, b, c, rfl⟩
    have ga := hG a (by simp)
    have gb := hG b (by simp)
    have gc := hG c (by simp)
    have h2B : 2 < B.length := by omega
    obtain ⟨h5, hbyte⟩ := hr B[2] (List.getElem_mem h2B)
    obtain ⟨n0, n1, n2, n3, n4, hBj⟩ : ∃ n0 n1 n2 n3 n4, B[2] = [n0, n1, n2, n3, n4] := by
      match hm : B[2], h5 with
      | [a, b, c, d, e], _ => exact ⟨a, b, c, d, e, rfl⟩
    rw [hBj] at hbyte
    have b1 := hbyte n1 (by simp)
    have hd : (xs.map C.f).drop 11 = .f (.int .u8 n1) :: ([.f (.int .u8 n2), .f (.int .u8 n3), .f (.int .u8 n4)] ++ ((bytesC B).drop 3).flatten.map C.f) := by
      have hg : Grid 5 (bytesC B) := fun r hm => by
        obtain ⟨r', hm', rfl⟩ := List.mem_map.1 hm
        rw [List.length_map]; exact (hr r' hm').1
      have hat : (bytesC B)[2]? = some [.int .u8 n0, .int .u8 n1, .int .u8 n2, .int .u8 n3, .int .u8 n4] := by simp [bytesC, h2B, hBj]
      have := drop_row (sz := 5) (k := 1) hg hat (by omega)
      rw [hxs, ← List.map_drop, show 11 = 2 * 5 + 1 from rfl, this]
      simp
    refine kw_seq ?_
    refine kw_seq (kw_region (.inl rfl) ?_)
    simp (disch := omega) [g1, hx, hd, wrapu8, Int.tmod_eq_emod_of_nonneg, Int.tdiv_eq_ediv_of_nonneg, bin_rem, bin_quo, idx_ptr]
    by_cases c1 : 0 < n1 / 8 % 4
    · refine kw_cond_t (by simp [c1]) ?_
      refine kw_region (.inl rfl) ?_
      obtain ⟨bb, ep, H', e1, e2, e3, -⟩ := LB.st1 (H := H ++ [.box [.f (fi 0), .f (fi 1)] 0]) (row := c.row) (j := 2) (k := 14) (c := .sl H.length 0 2 2 0 1) (x := .fs [fi 0, fi 1] 2) (hl.push _) (rows_grid _) (by simp [rows]) (by decide) (by simp [exB_sl])
      simp at e1 e2
      simp [e1, e2]
      refine kw_seq (kw_region (.inl rfl) ?_)
      simp
      refine kw_ret (hQ _ _ (.c (.f (sl .es (rows [a, b, { c with pg := .fs, p := [0, 1] }])))) ⟨a, b, c, ga, gb, gc, .inr rfl⟩ ?_)
      have hpc : c.p = [] := by obtain ⟨_, _, _, _, _, _, _, _, rfl, _⟩ := gc; rfl
      have hrows : (rows [a, b, c]).set 2 (c.row.set 14 (.fs [fi 0, fi 1] 2)) = rows [a, b, { c with pg := .fs, p := [0, 1] }] := rfl
      rw [hrows] at e3
      obtain ⟨cv, hcv, _⟩ := e3.len
      have := e3.fzV (rows_grid _)
      simp [hcv]
      rw [hcv] at this
      simpa using this
    · refine kw_cond_f (by simp [c1]) ?_
      refine kw_skip ?_
      refine kw_seq (kw_region (.inl rfl) ?_)
      simp
      refine kw_ret (hQ _ _ (.c (.f (sl .es (rows [a, b, c])))) ⟨a, b, c, ga, gb, gc, .inl rfl⟩ ?_)
      obtain ⟨cv, hcv, _⟩ := hl.len
      have := hl.fzV (rows_grid _)
      simp [hcv]
      rw [hcv] at this
      simpa using this
end Go.Proofs.YtjcobnhnmlhbaaaGreat
end

section
namespace Go.Proofs.YtjcobnhnmlhbaaaGreat
open Go Km

/-- Three rooms: the last has no parts, or the first two. -/
def Trio (l : List RoomD) (h : Bool) : Prop := ∃ a b c : RoomD, Good a ∧ Good b ∧ Good c ∧ l = [a, b, if h then { c with pg := .fs, p := [0, 1] } else c]

theorem trio_of {r : V} (h : IsRooms r) : ∃ l h, Trio l h ∧ r = .c (.f (sl .es (rows l))) := by
  obtain ⟨a, b, c, ga, gb, gc, rfl | rfl⟩ := h
  · exact ⟨_, false, ⟨a, b, c, ga, gb, gc, rfl⟩, rfl⟩
  · exact ⟨_, true, ⟨a, b, c, ga, gb, gc, rfl⟩, rfl⟩

theorem good_facts {r : RoomD} (h : Good r) : bigB r = false ∧ r.p = [] ∧ (withinB r.cap 1 512 && withinB r.bef 0 1440 && withinB r.aft 0 1440 && quotasB (-1) r.q) = true := by
  obtain ⟨a, b, c, cap, bef, aft, qg, q, rfl, _, _, _, h1, h2, h3, h4, h5, h6, hq⟩ := h
  refine ⟨?_, rfl, ?_⟩
  · rcases hq with rfl | ⟨t, m, rfl, _⟩ <;> simp [bigB, madeD]
  · simp only [madeD]
    rw [withinB_y (by omega) (by omega), withinB_y (by omega) (by omega), withinB_y (by omega) (by omega)]
    rcases hq with rfl | ⟨t, m, rfl, t1, t2, m1, m2⟩
    · rfl
    · simp only [quotasB]
      rw [withinB_y (by omega) (by omega), withinB_y (by omega) (by omega), withinB_y (by omega) (by omega), withinB_y (by omega) (by omega)]
      rfl

theorem trio_open {l : List RoomD} {h : Bool} (ht : Trio l h) : ∀ r ∈ l, OpenOK r := by
  obtain ⟨a, b, c, ga, gb, gc, rfl⟩ := ht
  intro r hr
  simp only [List.mem_cons, List.not_mem_nil, or_false] at hr
  rcases hr with rfl | rfl | rfl
  · exact (good_open ga).1
  · exact (good_open gb).1
  · cases h
    · exact (good_open gc).1
    · exact (good_open gc).1

theorem trio_valid {l : List RoomD} {h : Bool} (ht : Trio l h) : validI l = 0 := by
  obtain ⟨a, b, c, ga, gb, gc, rfl⟩ := ht
  obtain ⟨a1, a2, a3⟩ := good_facts ga
  obtain ⟨b1, b2, b3⟩ := good_facts gb
  obtain ⟨c1, c2, c3⟩ := good_facts gc
  cases h
  · have hb : [a, b, c].any bigB = false := by simp [a1, b1, c1]
    have hp : allProper [a, b, c] 0 [a, b, c] = true := by simp [allProper, properB, a2, b2, c2, partsB, a3, b3, c3]
    simp [validI, hb, hp]
  · have c1' : bigB { c with pg := .fs, p := [0, 1] } = false := by
      simp [bigB] at c1 ⊢
      exact c1.1
    have hb : [a, b, { c with pg := .fs, p := [0, 1] }].any bigB = false := by simp [a1, b1, c1']
    have hp : allProper [a, b, { c with pg := .fs, p := [0, 1] }] 0 [a, b, { c with pg := .fs, p := [0, 1] }] = true := by
      simp [withinB] at a3 b3 c3
      simp [allProper, properB, a2, b2, partsB, a3, b3, c3, plen, withinB]
    simp [validI, hb, hp]

/-- Whether rooms i and k share. -/
def trioB (h : Bool) (i k : Nat) : Bool := decide (i = k) || h && (decide (i = 2) || decide (k = 2))

theorem trioB_comm (h : Bool) (i k : Nat) : trioB h k i = trioB h i k := by
  have e : decide (k = i) = decide (i = k) := by rw [Bool.eq_iff_iff]; simp; exact eq_comm
  simp only [trioB, e, Bool.or_comm (decide (k = 2))]
theorem trio_shares {l : List RoomD} {h : Bool} (ht : Trio l h) {i k : Nat} (hi : i < 3) (hk : k < 3) : sharesI l i k = trioB h i k := by
  have hv := trio_valid ht
  obtain ⟨a, b, c, ga, gb, gc, rfl⟩ := ht
  obtain ⟨a1, a2, a3⟩ := good_facts ga
  obtain ⟨b1, b2, b3⟩ := good_facts gb
  obtain ⟨c1, c2, c3⟩ := good_facts gc
  simp only [sharesI, hv, List.length_cons, List.length_nil]
  rw [withinB_y (by omega) (by omega), withinB_y (by omega) (by omega)]
  match i, hi, k, hk with
  | 0, _, 0, _ => cases h <;> simp [sharesB, trioB]
  | 0, _, 1, _ => cases h <;> simp [sharesB, trioB, a2, b2]
  | 0, _, 2, _ => cases h <;> simp [sharesB, trioB, a2, c2]
  | 1, _, 0, _ => cases h <;> simp [sharesB, trioB, a2, b2]
  | 1, _, 1, _ => cases h <;> simp [sharesB, trioB]
  | 1, _, 2, _ => cases h <;> simp [sharesB, trioB, b2, c2]
  | 2, _, 0, _ => cases h <;> simp [sharesB, trioB, a2, c2]
  | 2, _, 1, _ => cases h <;> simp [sharesB, trioB, b2, c2]
  | 2, _, 2, _ => cases h <;> simp [sharesB, trioB]
theorem trio_three {l : List RoomD} {h : Bool} (ht : Trio l h) (i : Int) : sharesI l i 3 = false := by
  obtain ⟨a, b, c, ga, gb, gc, rfl⟩ := ht
  simp only [sharesI, List.length_cons, List.length_nil]
  rw [withinB_f (n := 3) (by omega)]
  simp
theorem trio_halves {l : List RoomD} {h : Bool} (ht : Trio l h) : ∃ r, l[2]? = some r ∧ decide ((r.p.length : Int) = 2) = h := by
  obtain ⟨a, b, c, ga, gb, gc, rfl⟩ := ht
  obtain ⟨c1, c2, c3⟩ := good_facts gc
  refine ⟨_, rfl, ?_⟩
  cases h <;> simp [c2]

theorem sharing_km (hs : Km.Pure tab.get F_law18_sanity [] (vb true)) (B : List (List Int)) (hB : B.length = 3) (hr : ∀ r ∈ B, r.length = 5 ∧ ∀ n ∈ r, 0 ≤ n ∧ n ≤ 255) :
    Km.Pure tab.get F_law18_RoomSharing [.a ((bytesC B).flatten.map .f)] (vb true) := by
  obtain ⟨r, hroom, hrooms⟩ := rooms_ex B hB hr
  obtain ⟨l, h, ht, rfl⟩ := trio_of hroom
  have hrooms := Km.Pure.eq hrooms
  have hs := hs.eq
  have hl3 : l.length = 3 := by obtain ⟨_, _, _, _, _, _, rfl⟩ := ht; rfl
  have hlen : (bytesC B).flatten.length = 15 := by
    have hg : Grid 5 (bytesC B) := fun r hm => by
      obtain ⟨r', hm', rfl⟩ := List.mem_map.1 hm
      rw [List.length_map]; exact (hr r' hm').1
    rw [flatten_len hg]; simp [bytesC, hB]
  have sp := fun a b => Shares_sp .es l a b (by omega) (trio_open ht)
  refine pure_fn T_law18_RoomSharing rfl fun Q hQ => ?_
  obtain ⟨xs, hxs⟩ : ∃ xs, xs = (bytesC B).flatten := ⟨_, rfl⟩
  rw [← hxs] at hrooms hlen ⊢
  have htk : List.take 15 (xs.map C.f) = xs.map C.f := List.take_of_length_le (by simp [hlen])
  refine kw_seq (kw_region (.inl rfl) ?_)
  simp
  refine kw_seq (kw_region (.inl rfl) ?_)
  simp [hs]
  refine kw_seq (kw_region (.inl rfl) ?_)
  simp [hlen, htk, hrooms]
  refine kw_seq ?_
  refine kw_seq (kw_region (.inl rfl) ?_)
  simp
  refine kw_cfor 3 (fun j t H => t.g 3 = vb true ∧ t.g 4 = .c (.f (sl .es (rows l)))) (by decide) rfl (by simp) (by simp) ?_ ?_ ?_
  · rintro j t H L hj ⟨g3, g4⟩ ha hL
    simp [ha]
    exact hL _ ⟨by simp [g3], by simp [g4]⟩ (by simp [ha]) (by simp)
  · rintro j t H hj ⟨g3, g4⟩ ha next
    refine kw_block ?_
    refine kw_seq ?_
    refine kw_seq (kw_region (.inl rfl) ?_)
    simp
    refine kw_cfor 3 (fun k t H => t.g 3 = vb true ∧ t.g 4 = .c (.f (sl .es (rows l))) ∧ t.g 5 = vi j) (by decide) rfl (by simp) (by simp [g3, g4, ha]) ?_ ?_ ?_
    · rintro k t H L hk ⟨g3, g4, g5⟩ ha hL
      simp [ha]
      exact hL _ ⟨by simp [g3], by simp [g4], by simp [g5]⟩ (by simp [ha]) (by simp)
    · rintro k t H hk ⟨g3, g4, g5⟩ ha next
      refine kw_block ?_
      refine kw_seq (kw_region (.inl rfl) ?_)
      have e : trioB h k j = trioB h j k := trioB_comm h j k
      simp [g4, g5, ha, sp, trio_shares ht hj hk, trio_shares ht hk hj, e]
      refine kw_cond_f (by simp) ?_
      exact kw_skip (kw_inBlock (next _ _ ⟨by simp [g3], by simp [g4], by simp [g5]⟩ (by simp [ha])))
    · rintro t H ⟨g3, g4, g5⟩ ha
      have e := trio_shares ht hj hj
      have e3 := trio_three ht j
      have e' : trioB h j j = true := by simp [trioB]
      refine kw_seq (kw_region (.inl rfl) ?_)
      simp [g4, g5, sp, e, e', e3]
      refine kw_cond_f (by simp) ?_
      exact kw_skip (kw_inBlock (next _ _ ⟨by simp [g3], by simp [g4]⟩ (by simp [g5])))
  · rintro t H ⟨g3, g4⟩ ha
    obtain ⟨r2, hr2, hh⟩ := trio_halves ht
    have hat : (rows l)[2]? = some r2.row := by simp [rows, hr2]
    have h1 := ld_row (H := H) (k := 14) (rows_grid l) hat rfl
    simp at h1
    have e02 := trio_shares ht (i := 0) (k := 2) (by omega) (by omega)
    have e12 := trio_shares ht (i := 1) (k := 2) (by omega) (by omega)
    have e01 := trio_shares ht (i := 0) (k := 1) (by omega) (by omega)
    simp [trioB] at e02 e12 e01
    refine kw_seq (kw_region (.inl rfl) ?_)
    simp [g4, idx_sl, hl3, h1, hh]
    refine kw_seq (kw_region (.inl rfl) ?_)
    simp [g3, g4, sp, e02, e12, e01]
    refine kw_ret (hQ _ _ ?_)
    simp
end Go.Proofs.YtjcobnhnmlhbaaaGreat
end

section
namespace Go.Proofs.YtjcobnhnmlhbaaaGreat
open Go Km

theorem flat_single {α : Type} (g : α → FC) : ∀ l : List α, (l.map fun n => [g n]).flatten = l.map g
  | [] => rfl
  | x :: l => by simp only [List.map_cons, List.flatten_cons, flat_single g l]; rfl

set_option maxRecDepth 100000 in
theorem sharing_args {ar : List V} (h : ArgsShp Tryz.prog [43] ar) : ∃ B : List (List Int), ar = [.a ((bytesC B).flatten.map .f)] ∧ B.length = 3 ∧ ∀ r ∈ B, r.length = 5 ∧ ∀ n ∈ r, 0 ≤ n ∧ n ≤ 255 := by
  obtain ⟨a0, _, rfl, h0, rfl⟩ := h
  have h1 : ∃ xs, a0 = .a (xs.map .f) ∧ Shp Tryz.prog 40 43 xs := by
    rcases h0 with ⟨xs, rfl, hs, _⟩ | ⟨x, rfl, hs⟩
    · exact ⟨xs, rfl, hs⟩
    · exfalso
      obtain ⟨rows, e, hl, hg, _⟩ := shp_arr (n := 39) Tryz.underlying43 hs
      have := congrArg List.length e
      rw [flatten_len hg, hl, show Tryz.prog.cellsOf 42 = 5 by kernel_rfl] at this
      simp at this
  obtain ⟨xs, rfl, hs⟩ := h1
  obtain ⟨rws, rfl, hl, hg, hr⟩ := shp_arr (n := 39) Tryz.underlying43 hs
  obtain ⟨B, rfl, hB⟩ := rows_of (enc := fun r : List Int => r.map fun n => FC.int .u8 n) (p := fun r => r.length = 5 ∧ ∀ n ∈ r, 0 ≤ n ∧ n ≤ 255) fun r hr' => by
    obtain ⟨cs, rfl, hl', hg', hc⟩ := shp_arr (n := 38) Tryz.underlying42 (hr r hr')
    obtain ⟨l, rfl, hl2⟩ := rows_of (enc := fun n : Int => [FC.int .u8 n]) (p := fun n => 0 ≤ n ∧ n ≤ 255) fun c hc' => by
      obtain ⟨m, rfl, hw⟩ := shp_int (n := 37) Tryz.underlying5 (hc c hc')
      refine ⟨m, rfl, ?_⟩
      simp [Lit.wf, IntKind.min, IntKind.max, IntKind.signed, IntKind.bits] at hw
      omega
    refine ⟨l, flat_single _ l, by simpa using hl', hl2⟩
  exact ⟨B, rfl, by simpa using hl, hB⟩

theorem sharing_true (ar : List V) (h : ArgsShp Tryz.prog [43] ar) : Km.Pure tab.get F_law18_RoomSharing ar (vb true) := by
  obtain ⟨B, rfl, hB, hr⟩ := sharing_args h
  exact sharing_km sane B hB hr
end Go.Proofs.YtjcobnhnmlhbaaaGreat
end

