/-
  What the program's functions and the reference's answer, for all arguments of their kind, in the small machine: part 1.
-/
import Derived.Test.YtcjhnkginmflhaaGreatTabB
import Derived.Test.YtcjhnkginmflhaaGreatK3
import Derived.Test.YtcjhnkginmflhaaGreatK4

set_option linter.unusedVariables false
set_option linter.unusedSimpArgs false
set_option linter.unusedSectionVars false

section
namespace Go.Proofs.YtcjhnkginmflhaaGreat
open Go Km

/-! ### Data -/
structure fG where
  hg : Tg
  head : List Int
  fr : Int
  per : Int
  cg : Tg
  cyc : List Int
def fG.row (p : fG) : List FC := [sl p.hg (ints p.head), fi p.fr, fi p.per, sl p.cg (ints p.cyc)]
def fF (l : List fG) : List (List FC) := l.map fG.row
@[simp] theorem aBA (l : List fG) : (fF l).length = l.length := by simp [fF]
theorem jA (l : List fG) : Grid 4 (fF l) := Grid.map fun _ => rfl
theorem rP {l : List fG} {j : Nat} (hj : j < l.length) : (fF l)[j]? = some l[j].row := by simp [fF, hj]
structure dG where
  tg : Tg
  fs : List fG
def dG.row (t : dG) : List FC := [sl t.tg (fF t.fs)]
def bF (l : List dG) : List (List FC) := l.map dG.row
@[simp] theorem ams (l : List dG) : (bF l).length = l.length := by simp [bF]
theorem nP (l : List dG) : Grid 1 (bF l) := Grid.map fun _ => rfl
theorem qh {l : List dG} {j : Nat} (hj : j < l.length) : (bF l)[j]? = some l[j].row := by simp [bF, hj]
structure bK where
  mg : Tg
  ts : List dG
  min : Int
def bK.row (c : bK) : List FC := [sl c.mg (bF c.ts), fi c.min]
def aW (l : List bK) : List (List FC) := l.map bK.row
@[simp] theorem Ad (l : List bK) : (aW l).length = l.length := by simp [aW]
theorem fO (l : List bK) : Grid 2 (aW l) := Grid.map fun _ => rfl
theorem iq {l : List bK} {j : Nat} (hj : j < l.length) : (aW l)[j]? = some l[j].row := by simp [aW, hj]
structure pV where
  day : Int
  fr : Int
  to : Int
deriving DecidableEq
def pV.row (x : pV) : List FC := [fi x.day, fi x.fr, fi x.to]
def bn (l : List pV) : List (List FC) := l.map pV.row
@[simp] theorem apM (l : List pV) : (bn l).length = l.length := by simp [bn]
theorem nV (l : List pV) : Grid 3 (bn l) := Grid.map fun _ => rfl
theorem EU {l : List pV} {j : Nat} (hj : j < l.length) : (bn l)[j]? = some l[j].row := by simp [bn, hj]
structure iy where
  cg : Tg
  cs : List bK
  len : Int
  xg : Tg
  xs : List pV
structure aF where
  meet : Int
  room : Int
  jJ : Int
  size : Int
  st : iy
def iy.row (s : iy) : List FC := [sl s.cg (aW s.cs), fi s.len, sl s.xg (bn s.xs)]
def aF.row (s : aF) : List FC := [fi s.meet, fi s.room, fi s.jJ, fi s.size, sl s.st.cg (aW s.st.cs), fi s.st.len, sl s.st.xg (bn s.st.xs)]
def aA (l : List aF) : List (List FC) := l.map aF.row
@[simp] theorem nR (l : List aF) : (aA l).length = l.length := by simp [aA]
theorem aY (l : List aF) : Grid 7 (aA l) := Grid.map fun _ => rfl
theorem eP {l : List aF} {j : Nat} (hj : j < l.length) : (aA l)[j]? = some l[j].row := by simp [aA, hj]
structure aQ where
  id : Int
  dl : Int
  state : Int
  stand : aF
def aQ.row (h : aQ) : List FC := [fi h.id, fi h.dl, fi h.state, fi h.stand.meet, fi h.stand.room, fi h.stand.jJ, fi h.stand.size, sl h.stand.st.cg (aW h.stand.st.cs), fi h.stand.st.len, sl h.stand.st.xg (bn h.stand.st.xs)]
def aJ (l : List aQ) : List (List FC) := l.map aQ.row
@[simp] theorem apQ (l : List aQ) : (aJ l).length = l.length := by simp [aJ]
theorem aZ (l : List aQ) : Grid 10 (aJ l) := Grid.map fun _ => rfl
theorem cu {l : List aQ} {j : Nat} (hj : j < l.length) : (aJ l)[j]? = some l[j].row := by simp [aJ, hj]
/-- Holds: clock, bg, list. -/
structure HsD where
  clock : Int
  bg : Int
  lg : Tg
  l : List aQ
def HsD.row (h : HsD) : List FC := [fi h.clock, fi h.bg, sl h.lg (aJ h.l)]

/-! ### Data without regard to which empty list it is -/
def fG.cl (p : fG) : fG := ⟨.nil, p.head, p.fr, p.per, .nil, p.cyc⟩
def dG.cl (t : dG) : dG := ⟨.nil, t.fs.map fG.cl⟩
def bK.cl (c : bK) : bK := ⟨.nil, c.ts.map dG.cl, c.min⟩
def iy.cl (s : iy) : iy := ⟨.nil, s.cs.map bK.cl, s.len, .nil, s.xs⟩
def aF.cl (s : aF) : aF := { s with st := s.st.cl }
def aQ.cl (h : aQ) : aQ := { h with stand := h.stand.cl }
def HsD.cl (h : HsD) : HsD := ⟨h.clock, h.bg, .nil, h.l.map aQ.cl⟩
/-- No list is long. -/
def fG.Sm (p : fG) : Prop := p.head.length ≤ 1048576 ∧ p.cyc.length ≤ 1048576
def dG.Sm (t : dG) : Prop := t.fs.length ≤ 1048576 ∧ ∀ p ∈ t.fs, p.Sm
def bK.Sm (c : bK) : Prop := c.ts.length ≤ 1048576 ∧ ∀ t ∈ c.ts, t.Sm
def iy.Sm (s : iy) : Prop := s.cs.length ≤ 1048576 ∧ s.xs.length ≤ 1048576 ∧ ∀ c ∈ s.cs, c.Sm
def aF.Sm (s : aF) : Prop := s.st.Sm
def aQ.Sm (h : aQ) : Prop := h.stand.Sm
theorem jT {α β : Type} {g g' : α → β} {l l' : List α} (h : l.map g = l'.map g') : l.length = l'.length := by simpa using congrArg List.length h
theorem get_map {α β : Type} {g g' : α → β} {l l' : List α} (h : l.map g = l'.map g') {j : Nat} (hj : j < l.length) (hj' : j < l'.length) : g l[j] = g' l'[j] := by
  have := congrArg (·[j]?) h
  simpa [hj, hj'] using this

theorem lF {α β : Type} {g : α → β} {l l' : List α} (h : l'.map g = l.map g) {x : α} (hx : x ∈ l') : ∃ y ∈ l, g x = g y := by
  have : g x ∈ l.map g := by rw [← h]; exact List.mem_map_of_mem hx
  obtain ⟨y, hy, e⟩ := List.mem_map.1 this
  exact ⟨y, hy, e.symm⟩
theorem fG.qo {p p' : fG} (h : p'.cl = p.cl) (hs : p.Sm) : p'.Sm := by
  obtain ⟨h1, _, _, h2⟩ : p'.head = p.head ∧ p'.fr = p.fr ∧ p'.per = p.per ∧ p'.cyc = p.cyc := by simpa [fG.cl] using h
  unfold fG.Sm at *
  rw [h1, h2]; exact hs
theorem dG.qo {t t' : dG} (h : t'.cl = t.cl) (hs : t.Sm) : t'.Sm := by
  have hm : t'.fs.map fG.cl = t.fs.map fG.cl := by simpa [dG.cl] using h
  refine ⟨by rw [jT hm]; exact hs.1, fun p hp => ?_⟩
  obtain ⟨q, hq, e⟩ := lF hm hp
  exact fG.qo e (hs.2 q hq)
theorem bK.qo {t t' : bK} (h : t'.cl = t.cl) (hs : t.Sm) : t'.Sm := by
  obtain ⟨hm, _⟩ : t'.ts.map dG.cl = t.ts.map dG.cl ∧ t'.min = t.min := by simpa [bK.cl] using h
  refine ⟨by rw [jT hm]; exact hs.1, fun p hp => ?_⟩
  obtain ⟨q, hq, e⟩ := lF hm hp
  exact dG.qo e (hs.2 q hq)
theorem aF.qo {t t' : aF} (h : t'.cl = t.cl) (hs : t.Sm) : t'.Sm := by
  obtain ⟨_, _, _, _, h5⟩ : t'.meet = t.meet ∧ t'.room = t.room ∧ t'.jJ = t.jJ ∧ t'.size = t.size ∧ t'.st.cl = t.st.cl := by simpa [aF.cl] using h
  obtain ⟨hm, _, hx⟩ : t'.st.cs.map bK.cl = t.st.cs.map bK.cl ∧ t'.st.len = t.st.len ∧ t'.st.xs = t.st.xs := by simpa [iy.cl] using h5
  refine ⟨by rw [jT hm]; exact hs.1, by rw [hx]; exact hs.2.1, fun p hp => ?_⟩
  obtain ⟨q, hq, e⟩ := lF hm hp
  exact bK.qo e (hs.2.2 q hq)
theorem aQ.qo {t t' : aQ} (h : t'.cl = t.cl) (hs : t.Sm) : t'.Sm := by
  obtain ⟨_, _, _, h5⟩ : t'.id = t.id ∧ t'.dl = t.dl ∧ t'.state = t.state ∧ t'.stand.cl = t.stand.cl := by simpa [aQ.cl] using h
  exact aF.qo h5 hs
end Go.Proofs.YtcjhnkginmflhaaGreat
end

section
namespace Go.Proofs.YtcjhnkginmflhaaGreat
open Go Km

/-! ### Comparing -/
theorem ET (a : Int) : Km.Pure tab.get Ul [vi a] = Eq (vb false) := (show Kf tab.get Ul [vi a] (vb false) by
  refine jD aNW rfl fun H Q hQ => ?_
  refine ak (aj (.inl rfl) ?_)
  simp
  refine ak (aj (.inl rfl) ?_)
  simp
  refine aO (hQ _ _ ?_)
  simp).eq

def sD (a b : Int) : Int := if a < b then -1 else if b < a then 1 else 0
theorem I9 (a b : Int) : Kf tab.get NY [vi a, vi b] (vi (sD a b)) := by
  refine jD aNY rfl fun H Q hQ => ?_
  refine ak (aj (.inl rfl) ?_)
  simp
  refine ak (aj (.inl rfl) ?_)
  simp [ET]
  refine ak (aj (.inl rfl) ?_)
  simp [ET]
  refine ak ?_
  refine ak (aj (.inl rfl) ?_)
  simp
  refine aB (by simp) (aN ?_)
  refine ak ?_
  refine ak (aj (.inl rfl) ?_)
  simp
  refine aB (by simp) (aN ?_)
  refine ak ?_
  refine ak (aj (.inl rfl) ?_)
  simp
  by_cases h : a < b
  · refine aI (by simp [h]) ?_
    refine ak (aj (.inl rfl) ?_)
    simp
    refine aO (hQ _ _ ?_)
    simp [sD, h]
  refine aB (by simp [h]) (aN ?_)
  refine ak ?_
  refine ak (aj (.inl rfl) ?_)
  simp
  by_cases h' : b < a
  · refine aI (by simp [h']) ?_
    refine ak (aj (.inl rfl) ?_)
    simp
    refine aO (hQ _ _ ?_)
    simp [sD, h, h']
  refine aB (by simp [h']) (aN ?_)
  refine ak (aj (.inl rfl) ?_)
  simp
  refine aO (hQ _ _ ?_)
  simp [sD, h, h']
theorem yZ (a b : Int) : Km.Pure tab.get NY [vi a, vi b] = Eq (vi (sD a b)) := (I9 a b).eq

/-- The first that is not 0. -/
def orI : List Int → Int
  | [] => 0
  | a :: r => if a = 0 then orI r else a
theorem Q8 {l : List Int} {j : Nat} (hj : j < l.length) : orI (l.drop j) = if l[j] = 0 then orI (l.drop (j + 1)) else l[j] := by
  rw [List.drop_eq_getElem_cons hj]; rfl
theorem aG4 (g : Tg) (l : List Int) (hl : l.length ≤ 9223372036854775807) : Kf tab.get aqk [.c (.f (sl g (ints l)))] (vi (orI l)) := by
  refine jD aNX rfl fun H Q hQ => ?_
  refine ak (aj (.inl rfl) ?_)
  simp
  refine ak (aj (.inl rfl) ?_)
  simp
  refine ak ?_
  refine ak (aj (.inl rfl) ?_)
  simp
  refine jh l.length (fun j t H' => t.g 3 = vi 0 ∧ t.g 6 = .c (.f (sl g (ints l))) ∧ H = H' ∧ orI l = orI (l.drop j)) hl (by decide) (by decide) (by simp) (by simp) (by simp) ?_ ?_
  · rintro j t _ hj ⟨g3, g6, rfl, hB⟩ ha hb next
    rw [Q8 hj] at hB
    refine aS ?_
    refine ak (aj (.inl rfl) ?_)
    simp [ha, g6, dJ, hj, RD]
    refine ak (aj (.inl rfl) ?_)
    simp [g3]
    by_cases h : l[j] = 0
    · refine aB (by simp [h]) ?_
      refine aN (aP (next _ _ ?_ (by simp [ha]) (by simp [hb])))
      rw [if_pos h] at hB
      exact ⟨by simp [g3], by simp [g6], rfl, hB⟩
    · refine aI (by simp [h]) ?_
      refine ak (aj (.inl rfl) ?_)
      simp
      refine aO (hQ _ _ ?_)
      simp [hB, h]
  · rintro t _ ⟨g3, g6, rfl, hB⟩ ha hb
    refine ak (aj (.inl rfl) ?_)
    simp [g3]
    refine aO (hQ _ _ ?_)
    simp [hB, orI]
theorem aG3 (g : Tg) (l : List Int) (hl : l.length ≤ 9223372036854775807) : Km.Pure tab.get aqk [.c (.f (sl g (ints l)))] = Eq (vi (orI l)) := (aG4 g l hl).eq


/-! ### Order of stands -/
def Ia (x y : List FC) : Int := match x, y with
  | .int _ a :: .int _ b :: _, .int _ c :: .int _ d :: _ => orI [sD a c, sD b d]
  | _, _ => 0
/-- Rows that begin with two numbers. -/
def JR (x : List FC) : Prop := ∃ s : aF, x = s.row
theorem Q5 (x y : aF) : Kf tab.get uT [.a (x.row.map .f), .a (y.row.map .f)] (vi (Ia x.row y.row)) := by
  refine jD aJ7 rfl fun H Q hQ => ?_
  have ho := aG3 .fs [sD x.meet y.meet, sD x.room y.room] (by simp)
  simp [ints, sl, Tg.fc] at ho
  refine ak (aj (.inl rfl) ?_)
  simp [aF.row]
  refine ak (aj (.inl rfl) ?_)
  simp [yZ, deep, J9, aBE, ho]
  refine aO (hQ _ _ ?_)
  simp [Ia, aF.row]
theorem SI : Cv tab.get (.c (.f (.fn uT []))) JR Ia := by
  rintro _ _ ⟨x, rfl⟩ ⟨y, rfl⟩ H
  obtain ⟨J, hJ⟩ := Q5 x y H
  exact ⟨_, _, J, by simp, hJ⟩
theorem Kt {a b : Int} : sD a b < 0 ↔ a < b := by unfold sD; split <;> (try split) <;> omega
theorem Ce (x y : aF) : Ia x.row y.row < 0 ↔ x.meet < y.meet ∨ x.meet = y.meet ∧ x.room < y.room := by
  simp only [Ia, aF.row, orI, sD]
  split <;> split <;> (try split) <;> (try split) <;> (try split) <;> omega
theorem NI : Cmp JR Ia := by
  constructor
  · rintro _ _ ⟨x, rfl⟩ ⟨y, rfl⟩ h h'
    rw [Ce] at h h'; omega
  · rintro _ _ _ ⟨x, rfl⟩ ⟨y, rfl⟩ ⟨z, rfl⟩ h h' h''
    rw [Ce] at h h' h''; omega

/-! ### Keys, aKQ -/
theorem aDH (x : aF) : Kf tab.get Gg [.a (x.row.map .f)] (.a [.f (fi x.meet), .f (fi x.room)]) := by
  refine jD aJ9 rfl fun H Q hQ => ?_
  refine ak (aj (.inl rfl) ?_)
  simp [aF.row]
  refine ak (aj (.inl rfl) ?_)
  simp
  refine aO (hQ _ _ ?_)
  simp
theorem RI (x : aF) : Km.Pure tab.get Gg [.a (x.row.map .f)] = Eq (.a [.f (fi x.meet), .f (fi x.room)]) := (Kf.aC6 (xs := [fi x.meet, fi x.room]) (aDH x)).eq
def jO (n : Int) : Bool := decide (0 ≤ n) && decide (n ≤ 2251799813685248)
theorem aDC (n : Int) : Kf tab.get wX [vi n] (vb (jO n)) := by
  refine jD aJ8 rfl fun H Q hQ => ?_
  refine ak (aj (.inl rfl) ?_)
  simp
  refine ak (aj (.inl rfl) ?_)
  by_cases h : 0 ≤ n
  · simp [h]
    refine aO (hQ _ _ ?_)
    simp [jO, h]
  · simp [h]
    refine aO (hQ _ _ ?_)
    simp [jO, h]
theorem oV (n : Int) : Km.Pure tab.get wX [vi n] = Eq (vb (jO n)) := (aDC n).eq
theorem aCJ (n : Int) : Kf tab.get wU [vi n] (vb (jO n)) := by
  refine jD aJB rfl fun H Q hQ => ?_
  refine ak (aj (.inl rfl) ?_)
  simp
  refine ak (aj (.inl rfl) ?_)
  by_cases h : 0 ≤ n
  · simp [h]
    refine aO (hQ _ _ ?_)
    simp [jO, h]
  · simp [h]
    refine aO (hQ _ _ ?_)
    simp [jO, h]
theorem kE (n : Int) : Km.Pure tab.get wU [vi n] = Eq (vb (jO n)) := (aCJ n).eq
end Go.Proofs.YtcjhnkginmflhaaGreat
end

section
namespace Go.Proofs.YtcjhnkginmflhaaGreat
open Go Km

/-! ### Valid -/
def holdB (clock last : Int) (x : aQ) : Bool := decide (last < x.id) && decide (1 ≤ x.state) && decide (x.state ≤ 4) && jO x.dl && !(decide (x.state = 1) && decide (x.dl < clock))
def holdsB (clock : Int) : Int → List aQ → Bool
  | _, [] => true
  | last, x :: r => holdB clock last x && holdsB clock x.id r
theorem wP {clock last : Int} {l : List aQ} {j : Nat} (hj : j < l.length) : holdsB clock last (l.drop j) = (holdB clock last l[j] && holdsB clock l[j].id (l.drop (j + 1))) := by
  rw [List.drop_eq_getElem_cons hj]; rfl
def dh (h : HsD) : Bool := jO h.clock && jO h.bg && holdsB h.clock 0 h.l

theorem qg (h : HsD) (hl : h.l.length ≤ 30) : Km.Pure tab.get wZ [.a (h.row.map .f)] = Eq (vb (dh h)) := Km.Pure.eq (by
  refine dM aKg rfl fun Q hQ => ?_
  have bad : dh h = false → ∀ (t : T) (J : Heap) k, WP tab.get wZ none (.code (.seq (.region [⟨D 2, .mov (.k (.c (.f (.bool false)))), none⟩] []) .ret) :: k) ⟨t, [], J⟩ Q := by
    intro hf t J k
    refine ak (aj (.inl rfl) ?_)
    simp
    refine aO (hQ _ _ ?_)
    simp [hf]
  refine ak (aj (.inl rfl) ?_)
  simp [HsD.row]
  refine ak ?_
  refine ak (aj (.inl rfl) ?_)
  simp [oV]
  cases m1 : jO h.clock
  · simp
    exact aI (by simp) (bad (by simp [dh, m1]) _ _ _)
  simp [oV]
  cases m2 : jO h.bg
  · simp
    exact aI (by simp) (bad (by simp [dh, m2]) _ _ _)
  simp [show ¬ (4096 : Int) < h.l.length by omega]
  refine aB (by simp) (aN ?_)
  refine ak (aj (.inl rfl) ?_)
  simp
  refine ak ?_
  refine ak (aj (.inl rfl) ?_)
  simp
  refine jh h.l.length (fun j t H => t.g 1 = .c (.ptr 0 0 0) ∧ t.g 23 = .c (.f (sl h.lg (aJ h.l))) ∧ H[0]? = some (.box [.f (fi h.clock), .f (fi h.bg), .f (sl h.lg (aJ h.l))] 0) ∧ ∃ last, t.g 3 = vi last ∧ holdsB h.clock 0 h.l = holdsB h.clock last (h.l.drop j)) (by omega) (by decide) (by decide) (by simp) (by simp) ⟨by simp, by simp, rfl, 0, by simp, by simp⟩ ?_ ?_
  · rintro j t H hj ⟨g1, g23, h0, last, g3, hB⟩ ha hb next
    rw [wP hj] at hB
    have hld := fun H : Heap => fP (H := H) (aZ h.l) (cu hj)
    simp only [aQ.row] at hld
    obtain ⟨x, hx⟩ : ∃ x, x = h.l[j] := ⟨_, rfl⟩
    rw [← hx] at hB hld
    have no : holdB h.clock last x = false → dh h = false := fun e => by simp [dh, hB, e]
    refine aS ?_
    refine ak (aj (.inl rfl) ?_)
    simp [ha, g23, dJ, hj, hld]
    obtain ⟨Hn, hHn⟩ : ∃ Hn : Heap, Hn = H ++ [.box [.f (fi x.id), .f (fi x.dl), .f (fi x.state), .f (fi x.stand.meet), .f (fi x.stand.room), .f (fi x.stand.jJ), .f (fi x.stand.size), .f (sl x.stand.st.cg (aW x.stand.st.cs)), .f (fi x.stand.st.len), .f (sl x.stand.st.xg (bn x.stand.st.xs))] 0] := ⟨_, rfl⟩
    have n0 : Hn[0]? = some (.box [.f (fi h.clock), .f (fi h.bg), .f (sl h.lg (aJ h.l))] 0) := by rw [hHn, List.getElem?_append_left (aT h0)]; exact h0
    have nr : Hn[H.length]? = some (.box [.f (fi x.id), .f (fi x.dl), .f (fi x.state), .f (fi x.stand.meet), .f (fi x.stand.room), .f (fi x.stand.jJ), .f (fi x.stand.size), .f (sl x.stand.st.cg (aW x.stand.st.cs)), .f (fi x.stand.st.len), .f (sl x.stand.st.xg (bn x.stand.st.xs))] 0) := by rw [hHn]; simp
    rw [← hHn]
    refine ak ?_
    refine aS ?_
    refine ak ?_
    refine ak (aj (.inl rfl) ?_)
    simp [g3, nr]
    by_cases k1 : x.id ≤ last
    · refine aI (by simp [k1]) (aN ?_)
      refine aI (by simp [k1]) ?_
      exact bad (no (by simp [holdB, show ¬ last < x.id by omega])) _ _ _
    refine aB (by simp [k1]) ?_
    refine ak (aj (.inl rfl) ?_)
    simp [nr]
    by_cases k2 : x.state < 1
    · refine aI (by simp [k2]) (aN ?_)
      refine aI (by simp [k2]) ?_
      exact bad (no (by simp [holdB, show ¬ 1 ≤ x.state by omega])) _ _ _
    refine aB (by simp [k2]) ?_
    refine ak (aj (.inl rfl) ?_)
    simp [nr]
    by_cases k3 : 4 < x.state
    · refine aI (by simp [k3]) (aN ?_)
      refine aI (by simp [k3]) ?_
      exact bad (no (by simp [holdB, show ¬ x.state ≤ 4 by omega])) _ _ _
    refine aB (by simp [k3]) ?_
    refine aj (.inl rfl) ?_
    simp [nr, oV]
    cases m3 : jO x.dl
    · refine aI (by simp) ?_
      exact bad (no (by simp [holdB, m3])) _ _ _
    refine aB (by simp) ?_
    refine ak (aj (.inl rfl) ?_)
    simp [nr]
    by_cases k4 : x.state = 1
    · by_cases k5 : x.dl < h.clock
      · simp [k4, k5, g1, n0, nr]
        refine aI (by simp) ?_
        exact bad (no (by simp [holdB, k4, k5])) _ _ _
      · simp [k4, k5, g1, n0, nr]
        refine aB (by simp) (aN (aP ?_))
        refine aj (.inl rfl) ?_
        simp [nr]
        refine aP (next _ _ ⟨by simp [g1], by simp [g23], n0, x.id, by simp, ?_⟩ (by simp [ha]) (by simp [hb]))
        rw [hB, show holdB h.clock last x = true by simp [holdB, k4, k5, m3]; omega]
        simp [hx]
    · simp [k4]
      refine aB (by simp) (aN (aP ?_))
      refine aj (.inl rfl) ?_
      simp [nr]
      refine aP (next _ _ ⟨by simp [g1], by simp [g23], n0, x.id, by simp, ?_⟩ (by simp [ha]) (by simp [hb]))
      rw [hB, show holdB h.clock last x = true by simp [holdB, k4, m3]; omega]
      simp [hx]
  · rintro t H ⟨g1, g23, h0, last, g3, hB⟩ ha hb
    refine ak (aj (.inl rfl) ?_)
    simp
    refine aO (hQ _ _ ?_)
    simp [dh, m1, m2, hB, holdsB])
end Go.Proofs.YtcjhnkginmflhaaGreat
end

section
namespace Go.Proofs.YtcjhnkginmflhaaGreat
open Go Km

theorem oq (h : HsD) (hl : h.l.length ≤ 30) : Km.Pure tab.get rG [.a (h.row.map .f)] = Eq (vb (dh h)) := Km.Pure.eq (by
  refine dM aJD rfl fun Q hQ => ?_
  have bad : dh h = false → ∀ (t : T) (J : Heap) k, WP tab.get rG none (.code (.seq (.region [⟨D 2, .mov (.k (.c (.f (.bool false)))), none⟩] []) .ret) :: k) ⟨t, [], J⟩ Q := by
    intro hf t J k
    refine ak (aj (.inl rfl) ?_)
    simp
    refine aO (hQ _ _ ?_)
    simp [hf]
  refine ak (aj (.inl rfl) ?_)
  simp [HsD.row]
  refine ak ?_
  refine ak (aj (.inl rfl) ?_)
  simp [kE]
  cases m1 : jO h.clock
  · simp
    exact aI (by simp) (bad (by simp [dh, m1]) _ _ _)
  simp [kE]
  cases m2 : jO h.bg
  · simp
    exact aI (by simp) (bad (by simp [dh, m2]) _ _ _)
  simp [show ¬ (4096 : Int) < h.l.length by omega]
  refine aB (by simp) (aN ?_)
  refine ak ?_
  refine ak (aj (.inl rfl) ?_)
  simp
  refine iU h.l.length (fun j t H => t.g 1 = .c (.ptr 0 0 0) ∧ H[0]? = some (.box [.f (fi h.clock), .f (fi h.bg), .f (sl h.lg (aJ h.l))] 0) ∧ ∃ last, 0 ≤ last ∧ (j = 0 → last = 0) ∧ (∀ m, j = m + 1 → ∀ hm : m < h.l.length, last = (h.l[m]'hm).id) ∧ holdsB h.clock 0 h.l = holdsB h.clock last (h.l.drop j)) (by omega) rfl (by simp)
    ⟨by simp, rfl, 0, by omega, by simp, by omega, by simp⟩ ?_ ?_ ?_
  · rintro j t H L hj ⟨g1, h0, hL⟩ ha hk
    simp [ha, g1, h0]
    exact hk _ ⟨by simp [g1], h0, hL⟩ (by simp [ha]) (by simp)
  · rintro j t H hj ⟨g1, h0, last, l0, lz, lp, hB⟩ ha next
    rw [wP hj] at hB
    have hld := fun H : Heap => fP (H := H) (aZ h.l) (cu hj)
    simp only [aQ.row] at hld
    obtain ⟨x, hx⟩ : ∃ x, x = h.l[j] := ⟨_, rfl⟩
    rw [← hx] at hB hld
    have no : holdB h.clock last x = false → dh h = false := fun e => by simp [dh, hB, e]
    refine aS ?_
    refine ak (aj (.inl rfl) ?_)
    simp [ha, g1, h0, dJ, hj, hld]
    obtain ⟨ROW, hROW⟩ : ∃ r, r = [C.f (fi x.id), C.f (fi x.dl), C.f (fi x.state), C.f (fi x.stand.meet), C.f (fi x.stand.room), C.f (fi x.stand.jJ), C.f (fi x.stand.size), C.f (sl x.stand.st.cg (aW x.stand.st.cs)), C.f (fi x.stand.st.len), C.f (sl x.stand.st.xg (bn x.stand.st.xs))] := ⟨_, rfl⟩
    rw [← hROW]
    obtain ⟨Hn, hHn⟩ : ∃ Hn : Heap, Hn = H ++ [.box ROW 0] := ⟨_, rfl⟩
    have n0 : Hn[0]? = some (.box [.f (fi h.clock), .f (fi h.bg), .f (sl h.lg (aJ h.l))] 0) := by rw [hHn, List.getElem?_append_left (aT h0)]; exact h0
    have nr : Hn[H.length]? = some (.box [.f (fi x.id), .f (fi x.dl), .f (fi x.state), .f (fi x.stand.meet), .f (fi x.stand.room), .f (fi x.stand.jJ), .f (fi x.stand.size), .f (sl x.stand.st.cg (aW x.stand.st.cs)), .f (fi x.stand.st.len), .f (sl x.stand.st.xg (bn x.stand.st.xs))] 0) := by rw [hHn, hROW]; simp
    rw [← hHn]
    have q0 : ROW[0]? = some (C.f (fi x.id)) := by rw [hROW]; rfl
    have q1 : ROW[1]? = some (C.f (fi x.dl)) := by rw [hROW]; rfl
    have q2 : ROW[2]? = some (C.f (fi x.state)) := by rw [hROW]; rfl
    -- what comes behind the first test
    have go : ∀ (t : T), t.g 1 = .c (.ptr 0 0 0) → t.g 3 = vi j → t.g 4 = .c (.ptr H.length 0 0) → last < x.id → 1 ≤ x.state → x.state ≤ 4 → jO x.dl = true →
        WP tab.get rG none [.code Gp, .inBlock 1, .code zI, .inLoop zJ, .inBlock 0, .code zH] ⟨t, [], Hn⟩ Q := by
      intro t g1 g3 g4 k1 k2 k3 m3
      have nx : holdB h.clock last x = true → ∀ t : T, t.g 1 = .c (.ptr 0 0 0) → t.g 3 = vi j → WP tab.get rG none [.inBlock 1, .code zI, .inLoop zJ, .inBlock 0, .code zH] ⟨t, [], Hn⟩ Q := by
        intro hb t g1 g3
        refine aP (next _ _ ⟨by simp [g1], n0, x.id, by omega, by omega, fun m hm hml => ?_, ?_⟩ (by simp [g3]))
        · have : m = j := by omega
          subst this; rw [hx]
        · rw [hB, hb]; simp [hx]
      refine ak (aj (.inl rfl) ?_)
      by_cases k4 : x.state = 1
      · by_cases k5 : x.dl < h.clock
        · simp [g1, g4, nr, n0, k4, k5]
          refine aI (by simp) ?_
          exact bad (no (by simp [holdB, k4, k5])) _ _ _
        · simp [g1, g4, nr, n0, k4, k5]
          refine aB (by simp) (aN ?_)
          exact nx (by simp [holdB, k4, k5, m3]; omega) _ (by simp [g1]) (by simp [g3])
      · simp [g4, nr, k4]
        refine aB (by simp) (aN ?_)
        exact nx (by simp [holdB, k4, m3]; omega) _ (by simp [g1]) (by simp [g3])
    refine ak ?_
    refine ak (aj (.inl rfl) ?_)
    by_cases k0 : x.id < 1
    · simp [nr, k0]
      refine aI (by simp) ?_
      exact bad (no (by simp [holdB, show ¬ last < x.id by omega])) _ _ _
    cases j with
    | zero =>
      have hl0 := lz rfl
      by_cases k2 : x.state < 1
      · simp [nr, k0, ha, k2]
        refine aI (by simp) ?_
        exact bad (no (by simp [holdB, show ¬ 1 ≤ x.state by omega])) _ _ _
      by_cases k3 : 4 < x.state
      · simp [nr, k0, ha, k2, k3]
        refine aI (by simp) ?_
        exact bad (no (by simp [holdB, show ¬ x.state ≤ 4 by omega])) _ _ _
      simp [nr, k0, ha, k2, k3, kE]
      cases m3 : jO x.dl
      · refine aI (by simp) ?_
        exact bad (no (by simp [holdB, m3])) _ _ _
      refine aB (by simp) (aN ?_)
      exact go _ (by simp [g1]) (by simp [ha]) (by simp) (by omega) (by omega) (by omega) m3
    | succ m =>
      have hm : m < h.l.length := by omega
      have hl1 := lp m rfl hm
      have c1 : ((m + 1 : Nat) : Int) - 1 = m := by omega
      have E8 := fun H : Heap => vG (H := H) (k := 0) (aZ h.l) (cu hm) rfl
      simp at E8
      by_cases k1 : x.id ≤ h.l[m].id
      · simp [nr, k0, ha, g1, n0, wrap64 (n := (m : Int)) (by omega) (by omega), dJ, hm, E8, k1]
        refine aI (by simp) ?_
        exact bad (no (by simp [holdB, show ¬ last < x.id by omega])) _ _ _
      by_cases k2 : x.state < 1
      · simp [nr, k0, ha, g1, n0, wrap64 (n := (m : Int)) (by omega) (by omega), dJ, hm, E8, k1, k2]
        refine aI (by simp) ?_
        exact bad (no (by simp [holdB, show ¬ 1 ≤ x.state by omega])) _ _ _
      by_cases k3 : 4 < x.state
      · simp [nr, k0, ha, g1, n0, wrap64 (n := (m : Int)) (by omega) (by omega), dJ, hm, E8, k1, k2, k3]
        refine aI (by simp) ?_
        exact bad (no (by simp [holdB, show ¬ x.state ≤ 4 by omega])) _ _ _
      simp [nr, k0, ha, g1, n0, wrap64 (n := (m : Int)) (by omega) (by omega), dJ, hm, E8, k1, k2, k3, kE]
      cases m3 : jO x.dl
      · refine aI (by simp) ?_
        exact bad (no (by simp [holdB, m3])) _ _ _
      refine aB (by simp) (aN ?_)
      exact go _ (by simp [g1]) (by simp [ha]) (by simp) (by omega) (by omega) (by omega) m3
  · rintro t H ⟨g1, h0, last, l0, lz, lp, hB⟩ ha
    refine ak (aj (.inl rfl) ?_)
    simp
    refine aO (hQ _ _ ?_)
    simp [dh, m1, m2, hB, holdsB])

/-! ### Find -/
theorem Fg (x : aQ) (id : Int) : Kf tab.get Gh [.a (x.row.map .f), vi id] (vi (sD x.id id)) := by
  refine jD aKa rfl fun H Q hQ => ?_
  refine ak (aj (.inl rfl) ?_)
  simp [aQ.row]
  refine ak (aj (.inl rfl) ?_)
  simp [yZ]
  refine aO (hQ _ _ ?_)
  simp
theorem vJ {clock : Int} : ∀ {last : Int} {l : List aQ}, holdsB clock last l = true → (∀ x ∈ l, last < x.id) ∧ l.Pairwise (fun x y => x.id < y.id)
  | _, [], _ => ⟨by simp, .nil⟩
  | last, x :: r, h => by
    simp only [holdsB, Bool.and_eq_true] at h
    obtain ⟨h1, h2⟩ := vJ h.2
    have hx : last < x.id := by have := h.1; simp [holdB] at this; omega
    refine ⟨fun y hy => ?_, .cons (fun y hy => h1 y hy) h2⟩
    rcases List.mem_cons.1 hy with rfl | hy
    · exact hx
    · have := h1 y hy; omega
theorem NJ {a b : Int} : sD a b = 0 ↔ a = b := by unfold sD; split <;> (try split) <;> omega

/-- Is the hold at i the one that is sought. -/
def fnd (l : List aQ) (i : Nat) (id : Int) : Bool := match l[i]? with | some x => decide (x.id = id) | none => false
theorem J5 (h : HsD) (hl : h.l.length ≤ 30) (hv : dh h = true) (id : Int) : ∃ i : Nat, i ≤ h.l.length ∧ (∀ j (hj : j < h.l.length), j < i → h.l[j].id < id) ∧ (∀ j (hj : j < h.l.length), i ≤ j → id ≤ h.l[j].id) ∧
    Km.Pure tab.get KY [.a (h.row.map .f), vi id] = Eq (.t [vi i, vb (fnd h.l i id)]) := by
  have hup : h.l.Pairwise (fun x y => x.id < y.id) := by simp [dh] at hv; exact (vJ hv.2).2
  have hat : ∀ i j (hi : i < j) (hj : j < h.l.length), h.l[i].id < h.l[j].id := fun i j hi hj => List.pairwise_iff_getElem.1 hup i j (by omega) hj hi
  obtain ⟨r, ⟨i, h1, h2, h3, rfl⟩, hs⟩ : ∃ r, (∃ i : Nat, i ≤ h.l.length ∧ (∀ j (hj : j < h.l.length), j < i → h.l[j].id < id) ∧ (∀ j (hj : j < h.l.length), i ≤ j → id ≤ h.l[j].id) ∧ r = .t [vi i, vb (fnd h.l i id)]) ∧
      Km.Pure tab.get TP [.c (.f (sl h.lg (aJ h.l))), vi id, .c (.f (.fn Gh []))] r := by
    refine jU aJs rfl fun Q hQ => ?_
    have hld := fun (H : Heap) (j : Nat) (hj : j < h.l.length) => fP (H := H) (aZ h.l) (cu hj)
    refine ak (aj (.inl rfl) ?_)
    simp
    refine ak (aj (.inl rfl) ?_)
    simp
    refine ak (aj (.inl rfl) ?_)
    simp
    refine ak ?_
    refine aS ?_
    refine iT (fun m s => ∃ (lo hi : Nat) (t : T) (H : Heap), s = ⟨t, [], H⟩ ∧ lo + m = hi ∧ hi ≤ h.l.length ∧ t.g 0 = .c (.f (sl h.lg (aJ h.l))) ∧ t.g 1 = vi id ∧ t.g 2 = .c (.f (.fn Gh [])) ∧ t.g 8 = vi h.l.length ∧ t.g 9 = vi lo ∧ t.g 10 = vi hi ∧
      (∀ j (hj : j < h.l.length), j < lo → h.l[j].id < id) ∧ (∀ j (hj : j < h.l.length), hi ≤ j → id ≤ h.l[j].id)) h.l.length
      ⟨0, h.l.length, _, _, rfl, by omega, by omega, by simp, by simp, by simp, by simp, by simp, by simp, by simp, by intros; omega⟩ ?_
    rintro m s ⟨lo, hi, t, H, rfl, hm, hhl, g0, g1, g2, g8, g9, g10, hlo, hhi⟩ next
    refine ak ?_
    refine ak (aj (.inl rfl) ?_)
    simp [g9, g10]
    by_cases hlt : lo < hi
    · refine aI (by simp [hlt]) (aN ?_)
      obtain ⟨q, hq⟩ : ∃ q, q = (lo + hi) / 2 := ⟨_, rfl⟩
      have hqn : q < h.l.length := by omega
      have he := (Fg h.l[q] id).ev H
      refine aS ?_
      refine ak (aj (.inl rfl) ?_)
      simp [g9, g10, wrap64 (n := (lo : Int) + hi) (by omega) (by omega), oG (lo := lo) (hi := hi) (by omega), qB (lo := lo) (hi := hi) (by omega) hq, wrap64 (n := (q : Int)) (by omega) (by omega)]
      refine ak (aj (.inl rfl) ?_)
      simp [g0, g1, g2, dJ, hqn, hld _ q hqn, he]
      by_cases hc : h.l[q].id < id
      · refine aI (by simp [Kt, hc]) (aj (.inl rfl) ?_)
        simp [wrap64 (n := (q : Int) + 1) (by omega) (by omega)]
        refine aP (next (hi - (q + 1)) _ (by omega) ⟨q + 1, hi, _, _, rfl, by omega, by omega, by simp [g0], by simp [g1], by simp [g2], by simp [g8], by simp, by simp [g10], fun j hj hjq => ?_, hhi⟩)
        by_cases e : j = q
        · subst e; exact hc
        · have := hat j q (by omega) hqn; omega
      · refine aB (by simp [Kt, hc]) (aj (.inl rfl) ?_)
        simp
        refine aP (next (q - lo) _ (by omega) ⟨lo, q, _, _, rfl, by omega, by omega, by simp [g0], by simp [g1], by simp [g2], by simp [g8], by simp [g9], by simp, hlo, fun j hj hjq => ?_⟩)
        by_cases e : q = j
        · subst e; omega
        · have := hat q j (by omega) hj; omega
    obtain rfl : lo = hi := by omega
    refine aB (by simp) ?_
    refine dN (k' := [.code Gn]) rfl ?_
    refine ak (aj (.inl rfl) ?_)
    by_cases hin : lo < h.l.length
    · have he := (Fg h.l[lo] id).ev H
      simp [g0, g1, g2, g8, g9, hin, dJ, hld _ lo hin, he]
      refine aO (hQ _ _ (.t [vi lo, vb (fnd h.l lo id)]) ⟨lo, by omega, hlo, hhi, rfl⟩ ?_)
      simp [NJ, hin, fnd]
    · simp [g0, g1, g2, g8, g9, hin]
      refine aO (hQ _ _ (.t [vi lo, vb (fnd h.l lo id)]) ⟨lo, by omega, hlo, hhi, rfl⟩ ?_)
      simp [hin, fnd]
  refine ⟨i, h1, h2, h3, Km.Pure.eq ?_⟩
  have hs := hs.eq
  refine dM aKb rfl fun Q hQ => ?_
  refine ak (aj (.inl rfl) ?_)
  simp [HsD.row]
  refine ak (aj (.inl rfl) ?_)
  simp [hs]
  refine aO (hQ _ _ ?_)
  simp
end Go.Proofs.YtcjhnkginmflhaaGreat
end

section
namespace Go.Proofs.YtcjhnkginmflhaaGreat
open Go Km

/-! ### A copy of a stand -/
theorem ig {n b : Nat} (hn : n ≤ 1100000) (hb : b ≤ 4096) : dw n b = true := by
  have h : (2 * n + 768) * b ≤ 2200768 * 4096 := Nat.mul_le_mul (by omega) hb
  simp [dw]
  omega
theorem Bd (g : Tg) (l : List Int) (hl : l.length ≤ 1048576) : ∃ g', Km.Pure tab.get KA [.c (.f (sl g (ints l)))] = Eq (.c (.f (sl g' (ints l)))) :=
  SK (zs := [fi 0]) (bytes := 8) aJo (by decide) (Np l) (ig (by simp; omega) (by decide))
/-- A term's list. -/
def sH (H : Heap) (c : C) (fs : List fG) : Prop := ∃ fs' : List fG, fs'.map fG.cl = fs.map fG.cl ∧ LR H c 4 (fF fs')
theorem sH.keep {H H' : Heap} {c : C} {fs : List fG} (h : sH H c fs) (hk : ∀ i y, H[i]? = some y → bI c = some i → H'[i]? = some y) : sH H' c fs := by
  obtain ⟨fs', h1, h2⟩ := h
  exact ⟨fs', h1, h2.keep hk⟩
/-- A class's terms, in a block of their own; nothing of it lies in block B, nor in the first two. -/
def pz (B : Nat) (H : Heap) (c : C) (ts : List dG) : Prop := (ts = [] ∧ c = .f .es) ∨ (ts ≠ [] ∧ ∃ (T : Nat) (cells : List C), c = .sl T 0 ts.length ts.length 0 1 ∧ (2 ≤ T ∧ T ≠ B) ∧ H[T]? = some (.box cells 0) ∧ cells.length = ts.length ∧
  ∀ (j : Nat) (hj : j < ts.length) x, cells[j]? = some x → sH H x ts[j].fs ∧ ∀ i, bI x = some i → 2 ≤ i ∧ i ≠ B)
theorem pz.keep {B : Nat} {H H' : Heap} {c : C} {ts : List dG} (h : pz B H c ts) (hk : ∀ i y, H[i]? = some y → 2 ≤ i → i ≠ B → H'[i]? = some y) : pz B H' c ts := by
  rcases h with h | ⟨h0, T, cells, h1, h2, h3, h4, h5⟩
  · exact .inl h
  · refine .inr ⟨h0, T, cells, h1, h2, hk T _ h3 h2.1 h2.2, h4, fun j hj x hx => ?_⟩
    obtain ⟨a, b⟩ := h5 j hj x hx
    exact ⟨a.keep fun i y hy hi => hk i y hy (b i hi).1 (b i hi).2, b⟩
theorem sH.ex {H : Heap} {c : C} {fs : List fG} (h : sH H c fs) : ∃ t' : dG, t'.fs.map fG.cl = fs.map fG.cl ∧ ∀ (H' : Heap) (n : Nat), (∀ i y, H[i]? = some y → bI c = some i → H'[i]? = some y) → exC (n + 1) H' c = some (sl t'.tg (fF t'.fs)) := by
  obtain ⟨fs', h1, h2⟩ := h
  obtain ⟨g, hg⟩ := h2.exU (jA _)
  exact ⟨⟨g, fs'⟩, h1, hg⟩
/-- aKw for each index. -/
theorem qI {α : Type} {p : Nat → α → Prop} : ∀ {n : Nat}, (∀ j, j < n → ∃ x, p j x) → ∃ l : List α, l.length = n ∧ ∀ j x, l[j]? = some x → p j x
  | 0, _ => ⟨[], rfl, by simp⟩
  | n + 1, h => by
    obtain ⟨l, h1, h2⟩ := qI (n := n) fun j hj => h j (by omega)
    obtain ⟨x, hx⟩ := h n (by omega)
    refine ⟨l ++ [x], by simp [h1], fun j y hy => ?_⟩
    by_cases hj : j < n
    · rw [List.getElem?_append_left (by omega)] at hy; exact h2 j y hy
    · rw [List.getElem?_append_right (by omega)] at hy
      have : j - l.length = 0 := by
        have := (List.getElem?_eq_some_iff.1 hy).1
        simp at this; omega
      rw [this] at hy
      simp at hy; subst hy
      have : j = n := by omega
      rw [this]; exact hx
theorem OT : ∀ {ts ts' : List dG}, ts'.length = ts.length → (∀ (j : Nat) (hj : j < ts.length) t', ts'[j]? = some t' → t'.fs.map fG.cl = ts[j].fs.map fG.cl) → ts'.map dG.cl = ts.map dG.cl := by
  intro ts ts' hl h
  apply List.ext_getElem (by simp [hl])
  intro j h1 h2
  simp at h1 h2
  simp [dG.cl, h j h2 _ (List.getElem?_eq_getElem h1)]
theorem pz.ex {B : Nat} {H : Heap} {c : C} {ts : List dG} (h : pz B H c ts) : ∃ (g : Tg) (ts' : List dG), ts'.map dG.cl = ts.map dG.cl ∧ ∀ (H' : Heap) (n : Nat), (∀ i y, H[i]? = some y → 2 ≤ i → i ≠ B → H'[i]? = some y) → exC (n + 2) H' c = some (sl g (bF ts')) := by
  rcases h with ⟨rfl, rfl⟩ | ⟨h0, T, cells, rfl, h2, h3, h4, h5⟩
  · exact ⟨.es, [], rfl, fun _ _ _ => rfl⟩
  · obtain ⟨ts', l1, l2⟩ := qI (n := ts.length) (p := fun j (t' : dG) => ∀ (hj : j < ts.length) x, cells[j]? = some x → t'.fs.map fG.cl = ts[j].fs.map fG.cl ∧ ∀ (H' : Heap) (n : Nat), (∀ i y, H[i]? = some y → 2 ≤ i → i ≠ B → H'[i]? = some y) → exC (n + 1) H' x = some (sl t'.tg (fF t'.fs))) fun j hj => by
      have hx := List.getElem?_eq_getElem (l := cells) (i := j) (by omega)
      obtain ⟨a, b⟩ := h5 j hj _ hx
      obtain ⟨t', e1, e2⟩ := a.ex
      refine ⟨t', fun hj x hx' => ?_⟩
      rw [hx] at hx'; cases hx'
      exact ⟨e1, fun H' n hk => e2 H' n fun i y hy hi => hk i y hy (b i hi).1 (b i hi).2⟩
    refine ⟨.fs, ts', OT l1 fun j hj t' ht => (l2 j t' ht hj _ (List.getElem?_eq_getElem (by omega))).1, fun H' n hk => ?_⟩
    have hm : bG (exC (n + 1) H') cells = some (bF ts').flatten := by
      have e : (bF ts').flatten = ts'.map fun t => sl t.tg (fF t.fs) := by
        have key : ∀ l : List dG, (bF l).flatten = l.map fun t => sl t.tg (fF t.fs) := by
          intro l
          induction l with
          | nil => rfl
          | cons x l ih => simp only [bF, List.map_cons, List.flatten_cons] at ih ⊢; rw [ih]; rfl
        exact key ts'
      rw [e]
      refine EO (by simp [h4, l1]) fun j x y hx hy => ?_
      rw [List.getElem?_map, Option.map_eq_some_iff] at hy
      obtain ⟨t', ht, rfl⟩ := hy
      have hj : j < ts.length := by have := (List.getElem?_eq_some_iff.1 ht).1; omega
      exact (l2 j t' ht hj x hx).2 H' n hk
    have hlt : (bF ts').length = ts.length := by simp [l1]
    have hne : bF ts' ≠ [] := by
      intro e
      rw [e] at hlt
      exact h0 (List.length_eq_zero_iff.1 hlt.symm)
    have e2 : sl Tg.fs (bF ts') = .fs (bF ts').flatten ts.length := by
      cases hr : bF ts' with
      | nil => exact absurd hr hne
      | cons r rs => rw [hr] at hlt; simp only [sl, List.isEmpty_cons, Bool.false_eq_true, if_false, hlt]
    simp only [J9, hk T _ h3 h2.1 h2.2]
    rw [if_pos (by omega), List.drop_zero, List.take_of_length_le (by omega), hm, e2]; rfl
end Go.Proofs.YtcjhnkginmflhaaGreat
end

section
namespace Go.Proofs.YtcjhnkginmflhaaGreat
open Go Km

/-- The aHX block: for each class its terms and its minute; those before i are copied. -/
structure Cls (B : Nat) (i : Nat) (H : Heap) (cs : List bK) (ps : List C) : Prop where
  len : ps.length = cs.length
  ok : ∀ (j : Nat) (hj : j < cs.length) x, ps[j]? = some x → if j < i then pz B H x cs[j].ts else x = .f (sl cs[j].mg (bF cs[j].ts))
def dB (cs : List bK) (ps : List C) : List (List C) := (ps.zip cs).map fun x => [x.1, .f (fi x.2.min)]
theorem jZ (cs : List bK) (ps : List C) : ∀ r ∈ dB cs ps, r.length = 2 := fun r hr => by
  obtain ⟨x, _, rfl⟩ := List.mem_map.1 hr; rfl
theorem jS {cs : List bK} {ps : List C} (h : ps.length = cs.length) {j : Nat} (hj : j < cs.length) : (dB cs ps)[j]? = some [ps[j], .f (fi cs[j].min)] := by
  simp [dB, hj, h]
theorem Fp {cs : List bK} {ps : List C} (h : ps.length = cs.length) {j : Nat} (hj : j < cs.length) (x : C) : (dB cs ps).set j [x, .f (fi cs[j].min)] = dB cs (ps.set j x) := by
  apply List.ext_getElem?
  intro k
  by_cases hk : k < cs.length
  · rw [List.getElem?_set]
    by_cases e : j = k
    · subst e
      rw [if_pos rfl, if_pos (by simp [dB, h, hj]), jS (by simp [h]) hj]
      simp
    · rw [if_neg e, jS h hk, jS (by simp [h]) hk]
      simp [List.getElem_set, e]
  · rw [List.getElem?_eq_none (by simp [dB, h]; omega), List.getElem?_eq_none (by simp [dB, h]; omega)]

theorem GV {cs : List C} {k : Nat} {x : C} (h : cs[k]? = some x) : bC none (cs.drop k) = some (.c x) := by
  have hk := (List.getElem?_eq_some_iff.1 h).1
  have e := List.getElem?_eq_getElem hk
  rw [h] at e
  rw [List.drop_eq_getElem_cons hk, ← Option.some.inj e]
  rfl
theorem aBt {t : T} {H : Heap} (sz bytes : Nat) (zs : List FC) (l c : Arg) : xOp t H (.fB sz bytes zs l c) = (match jF (l.ev t), jF (c.ev t) with
    | some l, some c =>
      if 0 ≤ l ∧ l ≤ c ∧ dw c.toNat bytes = true ∧ zs.length = sz then
        (if c = 0 then some (.c (.f .es), H) else
        some (.c (.sl H.length 0 l.toNat c.toNat 0 sz), H ++ [.box ((dQ c.toNat zs).map .f) 0]))
      else none
    | _, _ => none) := rfl
theorem wG (s : aF) (hs : s.Sm) : ∃ s' : aF, s'.cl = s.cl ∧ Km.Pure tab.get wY [.a (s.row.map .f)] = Eq (.a (s'.row.map .f)) := by
  obtain ⟨hcl, hxl, hts⟩ := hs
  obtain ⟨r, ⟨s', h1, rfl⟩, h⟩ : ∃ r, (∃ s' : aF, s'.cl = s.cl ∧ r = .a (s'.row.map .f)) ∧ Km.Pure tab.get wY [.a (s.row.map .f)] r := by
    refine jU aKd rfl fun Q hQ => ?_
    refine ak (aj (.inl rfl) ?_)
    simp [aF.row]
    -- the other instances
    obtain ⟨H0, hH0⟩ : ∃ H0 : Heap, H0 = [.box [.f (fi s.meet), .f (fi s.room), .f (fi s.jJ), .f (fi s.size), .f (sl s.st.cg (aW s.st.cs)), .f (fi s.st.len), .f (sl s.st.xg (bn s.st.xs))] 0, .box [.f (fi 0), .f (fi 0), .f (fi 0), .f (fi 0), .f .au, .f (fi 0), .f .au] 0] := ⟨_, rfl⟩
    have z0 : H0[0]? = some (.box [.f (fi s.meet), .f (fi s.room), .f (fi s.jJ), .f (fi s.size), .f (sl s.st.cg (aW s.st.cs)), .f (fi s.st.len), .f (sl s.st.xg (bn s.st.xs))] 0) := by rw [hH0]; rfl
    have z1 : H0[1]? = some (.box [.f (fi 0), .f (fi 0), .f (fi 0), .f (fi 0), .f .au, .f (fi 0), .f .au] 0) := by rw [hH0]; rfl
    have zl : H0.length = 2 := by rw [hH0]; rfl
    rw [← hH0]
    obtain ⟨r, H1, hx1, cx, J1, rfl, rfl, hLx, hbx⟩ := uK (F := TL) (sz := 3) (zs := [fi 0, fi 0, fi 0]) (bytes := 24) (H := H0) (g := s.st.xg) (rows := bn s.st.xs) aJp (by decide) (nV _) (ig (by simp; omega) (by decide))
    have hx1 := hx1.eq
    have a0 : (H0 ++ J1)[0]? = some (.box [.f (fi s.meet), .f (fi s.room), .f (fi s.jJ), .f (fi s.size), .f (sl s.st.cg (aW s.st.cs)), .f (fi s.st.len), .f (sl s.st.xg (bn s.st.xs))] 0) := by rw [List.getElem?_append_left (by omega)]; exact z0
    have a1 : (H0 ++ J1)[1]? = some (.box [.f (fi 0), .f (fi 0), .f (fi 0), .f (fi 0), .f .au, .f (fi 0), .f .au] 0) := by rw [List.getElem?_append_left (by omega)]; exact z1
    refine ak (aj (.inl rfl) ?_)
    simp [z0, hx1, a0]
    obtain ⟨H2, hH2⟩ : ∃ H2 : Heap, H2 = (H0 ++ J1).set 0 (.box [.f (fi s.meet), .f (fi s.room), .f (fi s.jJ), .f (fi s.size), .f (sl s.st.cg (aW s.st.cs)), .f (fi s.st.len), cx] 0) := ⟨_, rfl⟩
    have l2 : 2 ≤ H2.length := by rw [hH2]; simp; omega
    have b0 : H2[0]? = some (.box [.f (fi s.meet), .f (fi s.room), .f (fi s.jJ), .f (fi s.size), .f (sl s.st.cg (aW s.st.cs)), .f (fi s.st.len), cx] 0) := by rw [hH2]; exact List.getElem?_set_self (by simp; omega)
    have b1 : H2[1]? = some (.box [.f (fi 0), .f (fi 0), .f (fi 0), .f (fi 0), .f .au, .f (fi 0), .f .au] 0) := by rw [hH2, List.getElem?_set_ne (by decide)]; exact a1
    have hx0 : bI cx ≠ some 0 := fun e => by have := hbx 0 e; omega
    have aHM : LR H2 cx 3 (bn s.st.xs) := by rw [hH2]; exact hLx.set hx0 _
    have hbx2 : ∀ i, bI cx = some i → 2 ≤ i := fun i e => by have := hbx i e; omega
    try rw [← hH2]
    -- the classes
    obtain ⟨r, H3, hc1, cc, J3, rfl, rfl, hLc, hbc⟩ := uK (F := TN) (sz := 2) (zs := [.au, fi 0]) (bytes := 32) (H := H2) (g := s.st.cg) (rows := aW s.st.cs) aJr (by decide) (fO _) (ig (by simp; omega) (by decide))
    have hc1 := hc1.eq
    have c0 : (H2 ++ J3)[0]? = some (.box [.f (fi s.meet), .f (fi s.room), .f (fi s.jJ), .f (fi s.size), .f (sl s.st.cg (aW s.st.cs)), .f (fi s.st.len), cx] 0) := by rw [List.getElem?_append_left (by omega)]; exact b0
    have c1 : (H2 ++ J3)[1]? = some (.box [.f (fi 0), .f (fi 0), .f (fi 0), .f (fi 0), .f .au, .f (fi 0), .f .au] 0) := by rw [List.getElem?_append_left (by omega)]; exact b1
    refine ak (aj (.inl rfl) ?_)
    simp [b0, hc1, c0]
    obtain ⟨BX, hBX⟩ : ∃ BX, BX = [.f (fi s.meet), .f (fi s.room), .f (fi s.jJ), .f (fi s.size), cc, .f (fi s.st.len), cx] := ⟨_, rfl⟩
    obtain ⟨H4, hH4⟩ : ∃ H4 : Heap, H4 = (H2 ++ J3).set 0 (.box BX 0) := ⟨_, rfl⟩
    have d0 : H4[0]? = some (.box BX 0) := by rw [hH4]; exact List.getElem?_set_self (by simp; omega)
    have d1 : H4[1]? = some (.box [.f (fi 0), .f (fi 0), .f (fi 0), .f (fi 0), .f .au, .f (fi 0), .f .au] 0) := by rw [hH4, List.getElem?_set_ne (by decide)]; exact c1
    have hc0 : bI cc ≠ some 0 := fun e => by have := hbc 0 e; omega
    have aNE : LR H4 cc 2 (aW s.st.cs) := by rw [hH4]; exact hLc.set hc0 _
    have aHL : LR H4 cx 3 (bn s.st.xs) := by rw [hH4]; exact (aHM.push J3).set hx0 _
    have hxc : ∀ i, bI cx = some i → bI cc ≠ some i := fun i e e' => by
      have h1 := hbc i e'
      have h2 := aHM.lt e
      omega
    rw [← hBX, ← hH4]
    have bx4 : BX.drop 4 = [cc, .f (fi s.st.len), cx] := by rw [hBX]; rfl
    have bxl : BX.length = 7 := by rw [hBX]; rfl
    -- the end
    have fin : ∀ (t : T) (H : Heap) (g g' : Tg) (cs' : List bK), t.g 1 = .c (.ptr 0 0 0) → t.g 2 = .c (.ptr 1 0 0) → H[0]? = some (.box BX 0) → H[1]? = some (.box [.f (fi 0), .f (fi 0), .f (fi 0), .f (fi 0), .f .au, .f (fi 0), .f .au] 0) → cs'.map bK.cl = s.st.cs.map bK.cl →
        (∀ x, exC 64 (H.set 1 x) cc = some (sl g (aW cs'))) → (∀ x, exC 64 (H.set 1 x) cx = some (sl g' (bn s.st.xs))) → WP tab.get wY none [.code zO] ⟨t, [], H⟩ Q := by
      intro t H g g' cs' g1 g2 h0 h1 hcl e1 e2
      refine ak (aj (.inl rfl) ?_)
      simp [g1, g2, h0, h1, hBX]
      refine aO (hQ _ _ _ ⟨⟨s.meet, s.room, s.jJ, s.size, ⟨g, cs', s.st.len, g', s.st.xs⟩⟩, by simp [aF.cl, iy.cl, hcl], rfl⟩ ?_)
      simp [g2, aT h1, aF.row]
      simp [exV, dD, bG, deep, e1, e2]
    have aNq : bI cx ≠ some 1 := fun e => by have := hbx2 1 e; omega
    have aHQ : ∀ {H : Heap}, LR H cx 3 (bn s.st.xs) → ∃ g', ∀ x, exC 64 (H.set 1 x) cx = some (sl g' (bn s.st.xs)) := fun {H} h => by
      rcases h with ⟨e, h⟩ | ⟨hne, b, ep, rfl, h2⟩
      · rw [e]; rcases h with rfl | rfl
        · exact ⟨.nil, fun x => rfl⟩
        · exact ⟨.es, fun x => rfl⟩
      · refine ⟨.fs, fun x => ?_⟩
        have h3 : LR (H.set 1 x) (.sl b 0 (bn s.st.xs).length 0 ep 3) 3 (bn s.st.xs) := LR.set (.inr ⟨hne, b, ep, rfl, h2⟩) aNq x
        obtain ⟨g, hg⟩ := h3.ex (nV _) 63
        rw [hg]
        cases hr : bn s.st.xs with
        | nil => exact absurd hr hne
        | cons r rs => rfl
    refine ak ?_
    refine ak (aj (.inl rfl) ?_)
    rcases aNE with ⟨hn, hcc⟩ | ⟨hn, B, ep, rfl, hB⟩
    · -- no classes
      have hcs : s.st.cs = [] := by simpa [aW] using hn
      obtain ⟨g', hg'⟩ := aHQ aHL
      have hlen : bY H4 cc = some 0 := by rcases hcc with rfl | rfl <;> rfl
      simp [d0, bx4, hlen]
      refine jh 0 (fun j t H => t.g 1 = .c (.ptr 0 0 0) ∧ t.g 2 = .c (.ptr 1 0 0) ∧ H = H4) (by omega) (by decide) (by decide) (by simp) (by simp) ⟨by simp, by simp, rfl⟩ (fun j t H hj => by omega) ?_
      rintro t _ ⟨g1, g2, rfl⟩ - -
      rcases hcc with rfl | rfl
      · exact fin _ _ .nil g' [] (by simp [g1]) (by simp [g2]) d0 d1 (by rw [hcs]) (fun x => rfl) hg'
      · exact fin _ _ .es g' [] (by simp [g1]) (by simp [g2]) d0 d1 (by rw [hcs]) (fun x => rfl) hg'
    have aOB : 2 ≤ B := by have := hbc B rfl; omega
    have aHG : (aW s.st.cs).length = s.st.cs.length := by simp
    have hlen : bY H4 (.sl B 0 (aW s.st.cs).length 0 ep 2) = some s.st.cs.length := by rw [hB.len, aHG]
    rw [aHG] at hlen bx4
    simp [d0, bx4, hlen]
    have hxB : bI cx ≠ some B := fun e => hxc B e rfl
    have start : Cls B 0 H4 s.st.cs (s.st.cs.map fun c => C.f (sl c.mg (bF c.ts))) := ⟨by simp, fun j hj x hx => by
      rw [List.getElem?_map, List.getElem?_eq_getElem hj] at hx
      simp at hx
      simp [hx]⟩
    have hB4 : H4[B]? = some (.opn 2 (dB s.st.cs (s.st.cs.map fun c => C.f (sl c.mg (bF c.ts)))).flatten 0 ep .loc) := by
      have e : (dB s.st.cs (s.st.cs.map fun c => C.f (sl c.mg (bF c.ts)))).flatten = (aW s.st.cs).flatten.map .f := by
        have key : ∀ l : List bK, (dB l (l.map fun c => C.f (sl c.mg (bF c.ts)))).flatten = (aW l).flatten.map .f := by
          intro l
          induction l with
          | nil => rfl
          | cons x l ih =>
            have h1 : dB (x :: l) ((x :: l).map fun c => C.f (sl c.mg (bF c.ts))) = [C.f (sl x.mg (bF x.ts)), C.f (fi x.min)] :: dB l (l.map fun c => C.f (sl c.mg (bF c.ts))) := rfl
            rw [h1, List.flatten_cons, ih]
            simp [aW, bK.row]
        exact key _
      rw [e]; exact hB
    refine jh s.st.cs.length (fun j t H => t.g 1 = .c (.ptr 0 0 0) ∧ t.g 2 = .c (.ptr 1 0 0) ∧ t.g 24 = .c (.sl B 0 s.st.cs.length 0 ep 2) ∧ H[0]? = some (.box BX 0) ∧ H[1]? = some (.box [.f (fi 0), .f (fi 0), .f (fi 0), .f (fi 0), .f .au, .f (fi 0), .f .au] 0) ∧ LR H cx 3 (bn s.st.xs) ∧
        ∃ ps, H[B]? = some (.opn 2 (dB s.st.cs ps).flatten 0 ep .loc) ∧ Cls B j H s.st.cs ps) (by omega) (by decide) (by decide) (by simp) (by simp) ⟨by simp, by simp, by simp, d0, d1, aHL, _, hB4, start⟩ ?_ ?_
    · rintro i t H hi ⟨g1, g2, g24, h0, h1, hLx, ps, hB, hcls⟩ ha hb next
      obtain ⟨hn0, hn1⟩ := hts _ (List.getElem_mem hi)
      have hpl : i < ps.length := by rw [hcls.len]; exact hi
      have hpi := hcls.ok i hi _ (List.getElem?_eq_getElem hpl)
      rw [if_neg (by omega)] at hpi
      have hBl := aT hB
      have hfl : (dB s.st.cs ps).flatten.length = s.st.cs.length * 2 := by
        rw [qF (jZ _ _)]; simp [dB, hcls.len]
      obtain ⟨ts, mg, aDZ, aNr⟩ : ∃ ts mg, ts = s.st.cs[i].ts ∧ mg = s.st.cs[i].mg := ⟨_, _, rfl, rfl⟩
      rw [← aDZ, ← aNr] at hpi
      rw [← aDZ] at hn0 hn1
      have aHx : ∀ Hx : Heap, Hx[B]? = some (.opn 2 (dB s.st.cs ps).flatten 0 ep .loc) → bH Hx 2 none (.c (.sl B 0 s.st.cs.length 0 ep 2)) (vi i) = some (.c (.ptr B (i * 2) ep)) := fun Hx h => by
        have : (i : Int) < s.st.cs.length := by omega
        simp [bH, jF, h, this]
      have ldB : ldV H (some 2) (.c (.ptr B (i * 2) ep)) = some (.a [.f (sl mg (bF ts)), .f (fi s.st.cs[i].min)]) := by
        have := su (jZ s.st.cs ps) (jS hcls.len hi)
        have hlt := CY (jZ s.st.cs ps) (j := i) (by simp [dB, hcls.len]; exact hi)
        simp only [aU, hB, if_true, bC]
        rw [if_pos (by rw [List.length_drop]; omega), this, hpi]
      -- the copy is stored
      have put : ∀ (t : T) (Hm : Heap) (c5 : C), t.g 1 = .c (.ptr 0 0 0) → t.g 2 = .c (.ptr 1 0 0) → t.g 3 = vi i → t.g 5 = .c c5 → t.g 24 = .c (.sl B 0 s.st.cs.length 0 ep 2) → t.g 25 = vi s.st.cs.length → t.g 26 = vi i → Kp H Hm → pz B Hm c5 ts →
          WP tab.get wY none [.code Gx, .inBlock 1, .code Gw, .inLoop Gy, .inBlock 0, .code zO] ⟨t, [], Hm⟩ Q := by
        intro t Hm c5 g1 g2 g3 g5 g24 g25 g26 hkp hok
        have up : ∀ {k : Nat} {y : Blk}, H[k]? = some y → Hm[k]? = some y := fun {k y} h => by rw [hkp.2 k (aT h)]; exact h
        have hst : stC Hm (.ptr B (i * 2) ep) [c5] = some (Hm.set B (.opn 2 (dB s.st.cs (ps.set i c5)).flatten 0 ep .loc)) := by
          have e1 : over (dB s.st.cs ps).flatten (i * 2) [c5] = (dB s.st.cs (ps.set i c5)).flatten := by
            rw [yF (by omega)]
            have := Fe (x := c5) (k := 0) (jZ s.st.cs ps) (jS hcls.len hi) (by decide)
            rw [Nat.add_zero] at this
            rw [this]
            simp only [List.set_cons_zero]
            rw [Fp hcls.len hi]
          simp only [dY, up hB, Nat.zero_le, true_and, List.length_cons, List.length_nil]
          rw [if_pos (by omega), e1]
        refine aj (.inl rfl) ?_
        simp [g1, g3, g5, up h0, bx4, aHx _ (up hB), hst, -dY]
        refine aP (next _ _ ⟨by simp [g1], by simp [g2], by simp [g24], by rw [List.getElem?_set_ne (by omega)]; exact up h0, by rw [List.getElem?_set_ne (by omega)]; exact up h1, (hLx.keep fun k y hy _ => up hy).set hxB _, ps.set i c5, List.getElem?_set_self (aT (up hB)), ⟨by simp [hcls.len], fun j hj x hx => ?_⟩⟩ (by simp [g26]) (by simp [g25]))
        have aHk : ∀ (k : Nat) (y : Blk), Hm[k]? = some y → 2 ≤ k → k ≠ B → (Hm.set B (.opn 2 (dB s.st.cs (ps.set i c5)).flatten 0 ep .loc))[k]? = some y := fun k y hy _ hne => by rw [List.getElem?_set_ne (Ne.symm hne)]; exact hy
        rw [List.getElem?_set] at hx
        by_cases e : i = j
        · subst e
          rw [if_pos rfl, if_pos hpl] at hx
          cases hx
          rw [if_pos (by omega), ← aDZ]
          exact hok.keep aHk
        · rw [if_neg e] at hx
          have := hcls.ok j hj x hx
          by_cases hji : j < i
          · rw [if_pos hji] at this
            rw [if_pos (by omega)]
            exact (this.keep fun k y hy _ _ => up hy).keep aHk
          · rw [if_neg hji] at this
            rw [if_neg (by omega)]
            exact this
      refine aS ?_
      refine ak (aj (.inl rfl) ?_)
      simp [ha, g24, aHx _ hB, ldB]
      refine ak (aj (.inl rfl) ?_)
      by_cases ht0 : ts = []
      · simp [aBt, jF, ht0, ig (n := 0) (b := 24) (by omega) (by omega)]
        refine ak ?_
        refine ak ?_
        refine aj (.inl rfl) ?_
        simp
        refine jh 0 (fun j t Hm => t.g 1 = .c (.ptr 0 0 0) ∧ t.g 2 = .c (.ptr 1 0 0) ∧ t.g 3 = vi i ∧ t.g 5 = .c (.f .es) ∧ t.g 24 = .c (.sl B 0 s.st.cs.length 0 ep 2) ∧ t.g 25 = vi s.st.cs.length ∧ t.g 26 = vi i ∧ Kp H Hm) (by omega) (by decide) (by decide) (by simp) (by simp) ⟨by simp [g1], by simp [g2], by simp, by simp, by simp [g24], by simp [hb], by simp [ha], Kp.push _ _⟩ (fun j t H hj => by omega) ?_
        rintro t Hm ⟨g1, g2, g3, g5, g24, g25, g26, hkp⟩ - -
        exact put _ Hm _ (by simp [g1]) (by simp [g2]) (by simp [g3]) (by simp [g5]) (by simp [g24]) (by simp [g25]) (by simp [g26]) hkp (.inl ⟨ht0, rfl⟩)
      have hnp : 0 < ts.length := List.length_pos_iff.2 ht0
      simp [aBt, jF, show ¬ ts.length = 0 by omega, ht0, ig (n := ts.length) (b := 24) (by omega) (by omega)]
      obtain ⟨HT, hHT⟩ : ∃ HT : Heap, HT = H ++ [.box [.f (sl mg (bF ts)), .f (fi s.st.cs[i].min)] 0, .box (List.replicate ts.length (C.f .au)) 0] := ⟨_, rfl⟩
      obtain ⟨TT, hTT⟩ : ∃ q, q = H.length + 1 := ⟨_, rfl⟩
      have hT0 : HT[TT]? = some (.box (List.replicate ts.length (C.f .au)) 0) := by
        rw [hHT, hTT, List.getElem?_append_right (by omega)]
        simp
      have hk0 : Kp H HT := by rw [hHT]; exact Kp.push _ _
      have aOA : HT.length = H.length + 2 := by rw [hHT]; simp
      rw [← hHT, ← hTT]
      refine ak ?_
      refine ak ?_
      refine aj (.inl rfl) ?_
      have hc4 : HT[H.length]? = some (.box [.f (sl mg (bF ts)), .f (fi s.st.cs[i].min)] 0) := by rw [hHT]; simp
      simp [hc4]
      refine jh ts.length (fun k t Hm => t.g 1 = .c (.ptr 0 0 0) ∧ t.g 2 = .c (.ptr 1 0 0) ∧ t.g 3 = vi i ∧ t.g 5 = .c (.sl TT 0 ts.length ts.length 0 1) ∧ t.g 24 = .c (.sl B 0 s.st.cs.length 0 ep 2) ∧ t.g 25 = vi s.st.cs.length ∧ t.g 26 = vi i ∧ t.g 38 = .c (.f (sl mg (bF ts))) ∧ Kp H Hm ∧
        ∃ cells, Hm[TT]? = some (.box cells 0) ∧ cells.length = ts.length ∧ (∀ (j : Nat) (hj : j < ts.length) x, j < k → cells[j]? = some x → sH Hm x ts[j].fs ∧ ∀ q, bI x = some q → H.length ≤ q ∧ q ≠ TT) ∧ ∀ (j : Nat) x, k ≤ j → cells[j]? = some x → x = .f .au) (by omega) (by decide) (by decide) (by simp) (by simp)
        ⟨by simp [g1], by simp [g2], by simp, by simp, by simp [g24], by simp [hb], by simp [ha], by simp, hk0, _, hT0, by simp, fun j hj x h => by omega, fun j x _ hx => by
          rw [List.getElem?_replicate] at hx
          split at hx
          · cases hx; rfl
          · cases hx⟩ ?_ ?_
      · rintro k t Hm hk ⟨g1, g2, g3, g5, g24, g25, g26, g38, hkp, cells, hT, hcl, hdone, htodo⟩ ha hb next
        obtain ⟨aOz, hsm⟩ := hn1 _ (List.getElem_mem hk)
        have hTl := aT hT
        have hld := fun Hx : Heap => nM (H := Hx) (nP ts) (qh hk) rfl
        try simp at hld
        refine aS ?_
        refine ak (aj (.inl rfl) ?_)
        simp [ha, g38, dJ, hk, hld]
        refine ak ?_
        refine aj (.inl rfl) ?_
        simp
        have aHw : ∀ (Hx : Heap) (cs : List C), Hx[TT]? = some (.box cs 0) → bH Hx 1 none (.c (.sl TT 0 ts.length ts.length 0 1)) (vi k) = some (.c (.ptr TT k 0)) := fun Hx cs h => by
          have : (k : Int) < ts.length := by omega
          simp [bH, jF, h, this]
        have hck : cells[k]? = some (.f .au) := by
          have := List.getElem?_eq_getElem (l := cells) (i := k) (by omega)
          rw [this, htodo k _ (Nat.le_refl _) this]
        have hset : cells.set k (.f .au) = cells := by
          apply List.ext_getElem?
          intro j
          rw [List.getElem?_set]
          split
          · rename_i e; subst e; rw [if_pos (by omega), hck]
          · rfl
        refine jh ts[k].fs.length (fun q t Hq => t.g 1 = .c (.ptr 0 0 0) ∧ t.g 2 = .c (.ptr 1 0 0) ∧ t.g 3 = vi i ∧ t.g 5 = .c (.sl TT 0 ts.length ts.length 0 1) ∧ t.g 6 = vi k ∧ t.g 24 = .c (.sl B 0 s.st.cs.length 0 ep 2) ∧ t.g 25 = vi s.st.cs.length ∧ t.g 26 = vi i ∧ t.g 38 = .c (.f (sl mg (bF ts))) ∧ t.g 39 = vi ts.length ∧ t.g 40 = vi k ∧
          t.g 45 = .c (.f (sl ts[k].tg (fF ts[k].fs))) ∧ Fm TT Hm Hq ∧ ∃ ck fs', Hq[TT]? = some (.box (cells.set k ck) 0) ∧ fs'.map fG.cl = (ts[k].fs.take q).map fG.cl ∧ LR Hq ck 4 (fF fs') ∧ ∀ b, bI ck = some b → Hm.length ≤ b) (by omega) (by decide) (by decide) (by simp) (by simp)
          ⟨by simp [g1], by simp [g2], by simp [g3], by simp [g5], by simp, by simp [g24], by simp [g25], by simp [g26], by simp [g38], by simp [hb], by simp [ha], by simp, Fm.refl _, .f .au, [], by rw [hset]; exact hT, rfl, LR.nil _ _, by simp [bI]⟩ ?_ ?_
        · rintro q t Hq hq ⟨g1, g2, g3, g5, g6, g24, g25, g26, g38, g39, g40, g45, hfm, ck, fs', hTq, hfs, hLk, hbk⟩ ha' hb' next'
          have aOy : fs'.length = q := by have := congrArg List.length hfs; simpa [Nat.min_eq_left (Nat.le_of_lt hq)] using this
          obtain ⟨sm1, sm2⟩ := hsm _ (List.getElem_mem hq)
          obtain ⟨ga, hga⟩ := Bd ts[k].fs[q].hg _ sm1
          obtain ⟨gb, hgb⟩ := Bd ts[k].fs[q].cg _ sm2
          have hld := fun Hx : Heap => fP (H := Hx) (jA ts[k].fs) (rP hq)
          simp only [fG.row] at hld
          obtain ⟨p, hp⟩ : ∃ p, p = ts[k].fs[q] := ⟨_, rfl⟩
          rw [← hp] at hga hgb hld
          refine aS ?_
          refine ak (aj (.inl rfl) ?_)
          simp [ha', g45, dJ, hq, hld]
          refine ak (aj (.inl rfl) ?_)
          simp [hga, hgb]
          obtain ⟨p', hp'⟩ : ∃ p' : fG, p' = ⟨ga, p.head, p.fr, p.per, gb, p.cyc⟩ := ⟨_, rfl⟩
          have hrow : [C.f (sl ga (ints p.head)), C.f (fi p.fr), C.f (fi p.per), C.f (sl gb (ints p.cyc))] = p'.row.map .f := by rw [hp']; rfl
          rw [hrow]
          obtain ⟨Hb, hHb⟩ : ∃ Hb : Heap, Hb = Hq ++ [.box (p'.row.map .f) 0] := ⟨_, rfl⟩
          rw [← hHb]
          have hTb : Hb[TT]? = some (.box (cells.set k ck) 0) := by rw [hHb, List.getElem?_append_left (aT hTq)]; exact hTq
          have hpb : Hb[Hq.length]? = some (.box (p'.row.map .f) 0) := by rw [hHb]; simp
          have ldT : ∀ Hx : Heap, Hx[TT]? = some (.box (cells.set k ck) 0) → ldV Hx none (.c (.ptr TT k 0)) = some (.c ck) := fun Hx h => by
            have : (cells.set k ck)[k]? = some ck := List.getElem?_set_self (by omega)
            simp [h, GV this]
          have hLb : LR (Hb ++ [.box (p'.row.map .f) 0]) ck 4 (fF fs') := by rw [hHb]; exact (hLk.push _).push _
          obtain ⟨c', H', happ, hL', hKb, hblk⟩ := hLb.app (jA fs') (by decide) (row := p'.row) rfl (bytes := 64) (ig (by simp; omega) (by decide)) (b1 := Hb.length) (fl1 := 0) (by simp)
          have hTk : bI ck ≠ some TT := fun e => by have := hbk TT e; omega
          have hT' : H'[TT]? = some (.box (cells.set k ck) 0) := hKb.2 _ _ (by rw [List.getElem?_append_left (aT hTb)]; exact hTb) hTk
          have aHJ : stC H' (.ptr TT k 0) [c'] = some (H'.set TT (.box (cells.set k c') 0)) := by
            have e : over (cells.set k ck) k [c'] = cells.set k c' := by rw [yF (by simp; omega), List.set_set]
            simp only [dY, hT', Nat.zero_le, true_and, List.length_cons, List.length_nil]
            rw [if_pos (by simp; omega), e]
          have hbs : (dQ 1 [FC.au, fi 0, fi 0, FC.au]).map C.f = [.f .au, .f (fi 0), .f (fi 0), .f .au] := rfl
          have hp4 : p'.row.map C.f = [.f (sl ga (ints p.head)), .f (fi p.fr), .f (fi p.per), .f (sl gb (ints p.cyc))] := by rw [hp']; rfl
          rw [hp4] at hpb happ
          refine aj (.inl rfl) ?_
          simp [g5, g6, aHw _ _ hTb, ldT _ hTb, hpb, happ, aHw _ _ hT', aHJ, -dY]
          refine aP (next' _ _ ⟨by simp [g1], by simp [g2], by simp [g3], by simp [g5], by simp [g6], by simp [g24], by simp [g25], by simp [g26], by simp [g38], by simp [g39], by simp [g40], by simp [g45], ?_, c', fs' ++ [p'], List.getElem?_set_self (aT hT'), ?_, ?_, ?_⟩ (by simp [ha']) (by simp [hb']))
          · have q1 : Fm TT Hm Hb := hfm.trans (by rw [hHb]; exact Fm.push _ _)
            have q2 : Fm TT Hm H' := ⟨by have h1 := q1.1; have h2 := hKb.1; simp at h2; omega, fun b' hb' hl' => by
              have hy := List.getElem?_eq_getElem hl'
              have hz : (Hb ++ [.box (p'.row.map C.f) 0])[b']? = some Hm[b'] := by rw [List.getElem?_append_left (Nat.lt_of_lt_of_le hl' q1.1), q1.2 b' hb' hl', hy]
              rw [hKb.2 b' _ hz (fun e => by have := hbk b' e; omega), hy]⟩
            exact q2.trans (Fm.set _ _)
          · rw [List.map_append, hfs, List.take_add_one, List.map_append, List.getElem?_eq_getElem hq]
            simp [← hp, hp', fG.cl]
          · have e : fF (fs' ++ [p']) = fF fs' ++ [p'.row] := by simp [fF]
            rw [e]
            exact hL'.set (fun e => by
              rcases hblk with h | h
              · rw [h] at e; exact hTk e
              · rw [h] at e; cases e; have := aT hTb; simp at this; omega) _
          · intro b hb
            have hq1 := hfm.1
            rcases hblk with h | h
            · rw [h] at hb; exact hbk b hb
            · rw [h] at hb; cases hb; rw [hHb]; simp; omega
        · rintro t Hq ⟨g1, g2, g3, g5, g6, g24, g25, g26, g38, g39, g40, g45, hfm, ck, fs', hTq, hfs, hLk, hbk⟩ - -
          rw [List.take_of_length_le (Nat.le_refl _)] at hfs
          refine aP (next _ _ ⟨by simp [g1], by simp [g2], by simp [g3], by simp [g5], by simp [g24], by simp [g25], by simp [g26], by simp [g38], hkp.next (p := TT) (by omega) hfm, _, hTq, by simp [hcl], fun j hj x hjk hx => ?_, fun j x hjk hx => ?_⟩ (by simp [g40]) (by simp [g39]))
          · rw [List.getElem?_set] at hx
            by_cases e : k = j
            · subst e
              rw [if_pos rfl, if_pos (by omega)] at hx
              cases hx
              exact ⟨⟨fs', hfs, hLk⟩, fun b hb => ⟨by have := hbk b hb; have := hkp.1; omega, by have := hbk b hb; omega⟩⟩
            · rw [if_neg e] at hx
              obtain ⟨a, b⟩ := hdone j hj x (by omega) hx
              exact ⟨a.keep fun w y hy hw => hfm.get hy (b w hw).2, b⟩
          · rw [List.getElem?_set_ne (by omega)] at hx
            exact htodo j x (by omega) hx
      · rintro t Hm ⟨g1, g2, g3, g5, g24, g25, g26, g38, hkp, cells, hT, hcl, hdone, htodo⟩ - -
        exact put _ Hm _ (by simp [g1]) (by simp [g2]) (by simp [g3]) (by simp [g5]) (by simp [g24]) (by simp [g25]) (by simp [g26]) hkp (.inr ⟨ht0, TT, cells, rfl, ⟨by omega, by omega⟩, hT, hcl, fun j hj x hx => by
          obtain ⟨a, b⟩ := hdone j hj x hj hx
          exact ⟨a, fun q hq => by have := (b q hq).1; exact ⟨by omega, by omega⟩⟩⟩)
    · rintro t H ⟨g1, g2, g24, h0, h1, hLx, ps, hB, hcls⟩ - -
      obtain ⟨g', hg'⟩ := aHQ hLx
      have hk1 : ∀ x (i : Nat) (y : Blk), H[i]? = some y → 2 ≤ i → i ≠ B → (H.set 1 x)[i]? = some y := fun x i y hy h2 _ => by rw [List.getElem?_set_ne (by omega)]; exact hy
      obtain ⟨cs', l1, l2⟩ := qI (n := s.st.cs.length) (p := fun j (c' : bK) => ∀ (hj : j < s.st.cs.length) p, ps[j]? = some p → c'.cl = s.st.cs[j].cl ∧ c'.min = s.st.cs[j].min ∧ ∀ x, exC 63 (H.set 1 x) p = some (sl c'.mg (bF c'.ts))) fun j hj => by
        have hp := List.getElem?_eq_getElem (l := ps) (i := j) (by rw [hcls.len]; omega)
        have hok := hcls.ok j hj _ hp
        rw [if_pos hj] at hok
        obtain ⟨g, ts', e1, e2⟩ := hok.ex
        refine ⟨⟨g, ts', s.st.cs[j].min⟩, fun _ p hp' => ?_⟩
        rw [hp] at hp'; cases hp'
        exact ⟨by simp [bK.cl, e1], rfl, fun x => e2 _ 61 (hk1 x)⟩
      have hcl : cs'.map bK.cl = s.st.cs.map bK.cl := by
        apply List.ext_getElem (by simp [l1])
        intro j h1 h2
        simp at h1 h2
        simp [(l2 j _ (List.getElem?_eq_getElem h1) h2 _ (List.getElem?_eq_getElem (by rw [hcls.len]; exact h2))).1]
      refine fin _ _ .fs g' cs' (by simp [g1]) (by simp [g2]) h0 h1 hcl (fun x => ?_) hg'
      have hB' : (H.set 1 x)[B]? = some (.opn 2 (dB s.st.cs ps).flatten 0 ep .loc) := by rw [List.getElem?_set_ne (by omega)]; exact hB
      have hfl : (dB s.st.cs ps).flatten.length = s.st.cs.length * 2 := by
        rw [qF (jZ _ _)]; simp [dB, hcls.len]
      have hne : s.st.cs ≠ [] := fun e => hn (by simp [aW, e])
      simp only [J9, hB']
      rw [if_pos ⟨trivial, trivial, by omega⟩, List.drop_zero, List.take_of_length_le (by omega)]
      have hm : bG (exC 63 (H.set 1 x)) (dB s.st.cs ps).flatten = some (aW cs').flatten := by
        refine AB (by simp [dB, hcls.len, l1]) fun j a b ha hb => ?_
        have hj : j < s.st.cs.length := by have := (List.getElem?_eq_some_iff.1 hb).1; simp at this; omega
        rw [jS hcls.len hj] at ha
        cases ha
        have hc' := List.getElem?_eq_getElem (l := cs') (i := j) (by omega)
        obtain ⟨_, q2, q3⟩ := l2 j _ hc' hj _ (List.getElem?_eq_getElem (by rw [hcls.len]; exact hj))
        rw [iq (by omega)] at hb
        cases hb
        simp [bG, q3, bK.row, q2]
      rw [hm]
      have hlc : (aW cs').length = s.st.cs.length := by simp [l1]
      cases hr : aW cs' with
      | nil => rw [hr] at hlc; exact absurd (List.length_eq_zero_iff.1 hlc.symm) hne
      | cons r rs => rw [hr] at hlc; simp only [sl, List.isEmpty_cons, Bool.false_eq_true, if_false, hlc, Ad]; rfl
  exact ⟨s', h1, h.eq⟩
end Go.Proofs.YtcjhnkginmflhaaGreat
end

section
namespace Go.Proofs.YtcjhnkginmflhaaGreat
open Go Km

/-! ### A copy of holds -/
theorem kR (l : List aQ) (j : Nat) (x : aQ) : (aJ l).set j x.row = aJ (l.set j x) := by simp [aJ, List.map_set]
theorem NG (h : HsD) (hl : h.l.length ≤ 30) (hs : ∀ x ∈ h.l, x.Sm) (H : Heap) : ∃ r H', Ev tab.get (.fn Gi) [.a (h.row.map .f)] H r H' ∧
    ∃ c l', r = .a [.f (fi h.clock), .f (fi h.bg), c] ∧ Kp H H' ∧ LR H' c 10 (aJ l') ∧ l'.map aQ.cl = h.l.map aQ.cl ∧ ∀ i, bI c = some i → H.length ≤ i := by
  refine jo aKc rfl fun Q hQ => ?_
  refine ak (aj (.inl rfl) ?_)
  simp [HsD.row]
  obtain ⟨H0, hH0⟩ : ∃ H0 : Heap, H0 = H ++ [.box [.f (fi h.clock), .f (fi h.bg), .f (sl h.lg (aJ h.l))] 0, .box [.f (fi 0), .f (fi 0), .f .au] 0] := ⟨_, rfl⟩
  have z0 : H0[H.length]? = some (.box [.f (fi h.clock), .f (fi h.bg), .f (sl h.lg (aJ h.l))] 0) := by rw [hH0]; simp
  have z1 : H0[H.length + 1]? = some (.box [.f (fi 0), .f (fi 0), .f .au] 0) := by rw [hH0]; simp
  have zl : H0.length = H.length + 2 := by rw [hH0]; simp
  have zk : Kp H H0 := by rw [hH0]; exact Kp.push _ _
  rw [← hH0]
  obtain ⟨r, H1, hx1, c, J1, rfl, rfl, hL, hbc⟩ := uK (F := TM) (sz := 10) (zs := [fi 0, fi 0, fi 0, fi 0, fi 0, fi 0, fi 0, .au, fi 0, .au]) (bytes := 112) (H := H0) (g := h.lg) (rows := aJ h.l) aJq (by decide) (aZ _) (ig (by simp; omega) (by decide))
  have hx1 := hx1.eq
  have a0 : (H0 ++ J1)[H.length]? = some (.box [.f (fi h.clock), .f (fi h.bg), .f (sl h.lg (aJ h.l))] 0) := by rw [List.getElem?_append_left (by omega)]; exact z0
  have a1 : (H0 ++ J1)[H.length + 1]? = some (.box [.f (fi 0), .f (fi 0), .f .au] 0) := by rw [List.getElem?_append_left (by omega)]; exact z1
  refine ak (aj (.inl rfl) ?_)
  simp [z0, hx1, a0]
  obtain ⟨H2, hH2⟩ : ∃ H2 : Heap, H2 = (H0 ++ J1).set H.length (.box [.f (fi h.clock), .f (fi h.bg), c] 0) := ⟨_, rfl⟩
  have b0 : H2[H.length]? = some (.box [.f (fi h.clock), .f (fi h.bg), c] 0) := by rw [hH2]; exact List.getElem?_set_self (by simp; omega)
  have b1 : H2[H.length + 1]? = some (.box [.f (fi 0), .f (fi 0), .f .au] 0) := by rw [hH2, List.getElem?_set_ne (by omega)]; exact a1
  have hc0 : ∀ i, bI c = some i → H.length + 2 ≤ i := fun i e => by have := hbc i e; omega
  have hL2 : LR H2 c 10 (aJ h.l) := by rw [hH2]; exact hL.set (fun e => by have := hc0 _ e; omega) _
  have k2 : Kp H H2 := by
    rw [hH2]
    exact ⟨by simp; omega, fun b' l => by rw [List.getElem?_set_ne (by omega), List.getElem?_append_left (by omega)]; exact zk.2 b' l⟩
  rw [← hH2]
  have fin : ∀ (t : T) (H3 : Heap) (l' : List aQ), t.g 1 = .c (.ptr H.length 0 0) → t.g 2 = .c (.ptr (H.length + 1) 0 0) → H3[H.length]? = some (.box [.f (fi h.clock), .f (fi h.bg), c] 0) → H3[H.length + 1]? = some (.box [.f (fi 0), .f (fi 0), .f .au] 0) → Kp H H3 → LR H3 c 10 (aJ l') → l'.map aQ.cl = h.l.map aQ.cl →
      WP tab.get Gi none [.code Gv] ⟨t, [], H3⟩ Q := by
    intro t H3 l' g1 g2 h0 h1 hk hL hcl
    refine ak (aj (.inl rfl) ?_)
    simp [g1, g2, h0, h1]
    refine aO (hQ _ _ (.a [.f (fi h.clock), .f (fi h.bg), c]) rfl ?_ ⟨c, l', rfl, ?_, hL.set (fun e => by have := hc0 _ e; omega) _, hcl, fun i e => by have := hc0 i e; omega⟩)
    · simp [Km.results, bG, g2, aT h1]
    · exact ⟨by simpa using hk.1, fun b' l => by rw [List.getElem?_set_ne (by omega)]; exact hk.2 b' l⟩
  refine ak ?_
  refine ak (aj (.inl rfl) ?_)
  have hlen := hL2.len
  simp at hlen
  simp [b0, hlen]
  refine jh h.l.length (fun j t H3 => t.g 1 = .c (.ptr H.length 0 0) ∧ t.g 2 = .c (.ptr (H.length + 1) 0 0) ∧ H3[H.length]? = some (.box [.f (fi h.clock), .f (fi h.bg), c] 0) ∧ H3[H.length + 1]? = some (.box [.f (fi 0), .f (fi 0), .f .au] 0) ∧ Kp H H3 ∧
    ∃ l', LR H3 c 10 (aJ l') ∧ l'.map aQ.cl = h.l.map aQ.cl ∧ ∀ x ∈ l', x.Sm) (by omega) (by decide) (by decide) (by simp) (by simp) ⟨by simp, by simp, b0, b1, k2, h.l, hL2, rfl, hs⟩ ?_ ?_
  · rintro j t H3 hj ⟨g1, g2, h0, h1, hk, l', hL, hcl, hsm⟩ ha hb next
    have hlen := jT hcl
    have hj' : j < l'.length := by omega
    rcases hL with ⟨he, _⟩ | ⟨hne, B, ep, rfl, hB⟩
    · rw [show l' = [] by simpa [aJ] using he] at hj'
      simp at hj'
    obtain ⟨x, hx⟩ : ∃ x, x = l'[j] := ⟨_, rfl⟩
    obtain ⟨s', e1, e2⟩ := wG x.stand (by rw [hx]; exact hsm _ (List.getElem_mem hj'))
    have hidx := hB.at (show j < (aJ l').length by simpa using hj')
    have hld := hB.ldp (n := 7) (k := 3) (aZ l') (cu hj') (by decide)
    rw [← hx] at hld
    have hrow : ((x.row.drop 3).take 7) = x.stand.row := rfl
    rw [hrow] at hld
    obtain ⟨H4, hst, hB4, hf4, hl4⟩ := hB.stp (k := 3) (xs := s'.row) (aZ l') (cu hj') (by show 3 + 7 ≤ 10; omega)
    have hov : over l'[j].row 3 s'.row = (aQ.row { x with stand := s' }) := by rw [hx]; rfl
    rw [hov, kR] at hB4
    have hBn : B ≠ H.length ∧ B ≠ H.length + 1 := by have := hc0 B rfl; omega
    refine aS ?_
    refine ak (aj (.inl rfl) ?_)
    simp [ha]
    refine aj (.inl rfl) ?_
    have hll : (aJ l').length = l'.length := by simp
    simp only [hll] at *
    have hrl : (s'.row.map C.f).length = 7 := rfl
    have hbx : ldV H3 none (.c (.ptr H.length 2 0)) = some (.c (.sl B 0 l'.length 0 ep 10)) := by simp [h0, bC]
    simp [g1, hbx, hidx, hld, e2, hst, hrl, -aU, -dY]
    refine aP (next _ _ ⟨by simp [g1], by simp [g2], hf4.get h0 (Ne.symm hBn.1), hf4.get h1 (Ne.symm hBn.2), hk.next (p := B) (by have := hc0 B rfl; omega) hf4, l'.set j { x with stand := s' }, .inr ⟨?_, B, ep, by simp, hB4⟩, ?_, ?_⟩ (by simp [ha]) (by simp [hb]))
    · intro e
      have := congrArg List.length e
      simp at this
      rw [this] at hj'
      simp at hj'
    · rw [List.map_set, ← hcl]
      have : aQ.cl { x with stand := s' } = (l'.map aQ.cl)[j]'(by simpa using hj') := by simp [aQ.cl, e1, hx]
      rw [this, List.set_getElem_self]
    · intro y hy
      rcases List.mem_or_eq_of_mem_set hy with h | rfl
      · exact hsm y h
      · exact aF.qo e1 (by rw [hx]; exact hsm _ (List.getElem_mem hj'))
  · rintro t H3 ⟨g1, g2, h0, h1, hk, l', hL, hcl, -⟩ - -
    exact fin _ H3 l' (by simp [g1]) (by simp [g2]) h0 h1 hk hL hcl
end Go.Proofs.YtcjhnkginmflhaaGreat
end

section
namespace Go.Proofs.YtcjhnkginmflhaaGreat
open Go Km

/-! ### Claims: the live and confirmed holds' stands, each pair once -/
def dF (x y : aF) : Bool := decide (x.meet = y.meet ∧ x.room = y.room)
theorem DF (x s : aF) {H : Heap} {p : Nat} (hp : H[p]? = some (.box (s.row.map .f) 0)) : ∃ J, Ev tab.get (.fn wW) [.a (x.row.map .f), .c (.ptr p 0 0)] H (vb (dF x s)) (H ++ J) := by
  obtain ⟨r, H', he, rfl, J, rfl⟩ : ∃ r H', Ev tab.get (.fn wW) [.a (x.row.map .f), .c (.ptr p 0 0)] H r H' ∧ r = vb (dF x s) ∧ ∃ J, H' = H ++ J := by
    refine jo (C := fun r H' => r = vb (dF x s) ∧ ∃ J, H' = H ++ J) aJ3 rfl fun Q hQ => ?_
    have k1 := RI x
    have k2 := RI s
    have hpl := aT hp
    obtain ⟨H2, hH2⟩ : ∃ H2 : Heap, H2 = H ++ [.box (x.row.map .f) 0] := ⟨_, rfl⟩
    have hp' : H2[p]? = some (.box (s.row.map .f) 0) := by rw [hH2, List.getElem?_append_left hpl]; exact hp
    have hx' : H2[H.length]? = some (.box (x.row.map .f) 0) := by rw [hH2]; simp
    have hex : ∃ J, H2 = H ++ J := ⟨_, hH2⟩
    simp only [aF.row] at k1 k2 hp' hx' hH2 ⊢
    simp at hp' hx' hH2
    refine ak (aj (.inl rfl) ?_)
    simp
    rw [← hH2]
    refine ak (aj (.inl rfl) ?_)
    simp at k1 k2
    simp [hp', hx', k1, k2, eqV, eqL, eqP]
    exact aO (hQ _ _ (vb (dF x s)) rfl (by simp [Km.results, bG, dF]; rw [Bool.eq_iff_iff]; simp) ⟨rfl, hex⟩)
  exact ⟨J, he⟩

/-- Has a list a stand with these two numbers. -/
theorem JY {H : Heap} {c : C} {l : List aF} (hL : LR H c 7 (aA l)) (hl : l.length ≤ 1000) (s : aF) {p : Nat} (hp : H[p]? = some (.box (s.row.map .f) 0)) : ∃ J, Ev tab.get (.fn F5) [.c c, .c (.cl wW [.ptr p 0 0])] H (vb (l.any fun x => dF x s)) (H ++ J) := by
  have idx : ∃ r H', Ev tab.get (.fn TI) [.c c, .c (.cl wW [.ptr p 0 0])] H r H' ∧ ∃ J, H' = H ++ J ∧ ∃ i : Int, r = vi i ∧ (0 ≤ i ↔ (l.any fun x => dF x s) = true) := by
    refine jo (C := fun r H' => ∃ J, H' = H ++ J ∧ ∃ i : Int, r = vi i ∧ (0 ≤ i ↔ (l.any fun x => dF x s) = true)) aJk rfl fun Q hQ => ?_
    have hlen := hL.len
    simp at hlen
    refine ak (aj (.inl rfl) ?_)
    simp
    refine ak ?_
    refine ak (aj (.inl rfl) ?_)
    simp [hlen]
    refine jh l.length (fun j t H1 => t.g 0 = .c c ∧ t.g 1 = .c (.cl wW [.ptr p 0 0]) ∧ (∃ J, H1 = H ++ J) ∧ ∀ (q : Nat) (hq : q < l.length), q < j → dF l[q] s = false) (by omega) (by decide) (by decide) (by simp) (by simp) ⟨by simp, by simp, ⟨[], by simp⟩, by simp⟩ ?_ ?_
    · rintro j t _ hj ⟨g0, g1, ⟨J, rfl⟩, hno⟩ ha hb next
      obtain ⟨b, ep, i1, l1⟩ := (hL.push J).at (aY l) (j := j) (by simpa using hj)
      have e0 : (aA l)[j]'(by simpa using hj) = l[j].row := by simp [aA]
      rw [e0] at l1
      obtain ⟨J2, he⟩ := DF l[j] s (H := H ++ J) (p := p) (by rw [List.getElem?_append_left (aT hp)]; exact hp)
      have he := he.eq
      refine aS ?_
      refine ak (aj (.inl rfl) ?_)
      simp [ha]
      refine ak (aj (.inl rfl) ?_)
      simp [g0, g1, i1, l1, he, -aU]
      cases hk : dF l[j] s
      · refine aB (by simp) (aN (aP (next _ _ ⟨by simp [g0], by simp [g1], ⟨J ++ J2, by simp⟩, fun q hq hqj => ?_⟩ (by simp [ha]) (by simp [hb]))))
        by_cases e : q = j
        · subst e; exact hk
        · exact hno q hq (by omega)
      · refine aI (by simp) (ak (aj (.inl rfl) ?_))
        simp
        refine aO (hQ _ _ (vi j) rfl (by simp [Km.results, bG]) ⟨J ++ J2, by simp, j, rfl, ?_⟩)
        simp only [List.any_eq_true]
        exact ⟨fun _ => ⟨l[j], List.getElem_mem hj, hk⟩, fun _ => by omega⟩
    · rintro t _ ⟨g0, g1, ⟨J, rfl⟩, hno⟩ ha hb
      refine ak (aj (.inl rfl) ?_)
      simp
      refine aO (hQ _ _ (vi (-1)) rfl (by simp [Km.results, bG]) ⟨J, rfl, -1, rfl, ?_⟩)
      simp only [List.any_eq_true]
      refine ⟨fun h => by omega, fun ⟨x, hx, hk⟩ => ?_⟩
      obtain ⟨q, hq, rfl⟩ := List.getElem_of_mem hx
      rw [hno q hq hq] at hk; cases hk
  obtain ⟨r, H', he, J, rfl, i, rfl, hi⟩ := idx
  have he := he.eq
  obtain ⟨r, H', h1, rfl, rfl⟩ : ∃ r H', Ev tab.get (.fn F5) [.c c, .c (.cl wW [.ptr p 0 0])] H r H' ∧ r = vb (l.any fun x => dF x s) ∧ H' = H ++ J := by
    refine jo (C := fun r H' => r = vb (l.any fun x => dF x s) ∧ H' = H ++ J) aJm rfl fun Q hQ => ?_
    refine ak (aj (.inl rfl) ?_)
    simp
    refine ak (aj (.inl rfl) ?_)
    simp [he]
    refine aO (hQ _ _ (vb (l.any fun x => dF x s)) rfl ?_ ⟨rfl, rfl⟩)
    have : decide (0 ≤ i) = (l.any fun x => dF x s) := by
      rw [Bool.eq_iff_iff, decide_eq_true_eq]; exact hi
    simp [Km.results, bG, this]
  exact ⟨J, h1⟩
end Go.Proofs.YtcjhnkginmflhaaGreat
end

section
namespace Go.Proofs.YtcjhnkginmflhaaGreat
open Go Km

/-- Each pair of numbers once. -/
def uniq : List aF → List aF → List aF
  | acc, [] => acc
  | acc, s :: r => if acc.any (fun x => dF x s) then uniq acc r else uniq (acc ++ [s]) r
theorem aDI {x y : aF} (h : x.cl = y.cl) : x.meet = y.meet ∧ x.room = y.room := by
  have h' : x.meet = y.meet ∧ x.room = y.room ∧ x.jJ = y.jJ ∧ x.size = y.size ∧ x.st.cl = y.st.cl := by simpa [aF.cl] using h
  exact ⟨h'.1, h'.2.1⟩
theorem aEf {a a' : List aF} {s s' : aF} (h : a.map aF.cl = a'.map aF.cl) (hs : s.cl = s'.cl) : (a.any fun x => dF x s) = a'.any fun x => dF x s' := by
  obtain ⟨h1, h2⟩ := aDI hs
  have e : ∀ (l : List aF), (l.any fun x => dF x s) = (l.map aF.cl).any fun x => dF x s' := by
    intro l
    rw [List.any_map]
    congr 1
    funext x
    simp only [dF, Function.comp, aF.cl, h1, h2]
    exact decide_eq_decide.2 Iff.rfl
  have e' : ∀ (l : List aF), (l.any fun x => dF x s') = (l.map aF.cl).any fun x => dF x s' := by
    intro l
    rw [List.any_map]
    congr 1
  rw [e a, e' a', h]
theorem BA : ∀ {l l' acc acc' : List aF}, acc.map aF.cl = acc'.map aF.cl → l.map aF.cl = l'.map aF.cl → (uniq acc l).map aF.cl = (uniq acc' l').map aF.cl
  | [], [], _, _, h, _ => h
  | [], _ :: _, _, _, _, h => by simp at h
  | _ :: _, [], _, _, _, h => by simp at h
  | s :: l, s' :: l', acc, acc', h, h' => by
    simp only [List.map_cons, List.cons.injEq] at h'
    simp only [uniq, aEf h h'.1]
    split
    · exact BA h h'.2
    · exact BA (by simp [h, h'.1]) h'.2
theorem sN : ∀ {l acc : List aF}, (uniq acc l).length ≤ acc.length + l.length
  | [], _ => by simp [uniq]
  | s :: l, acc => by
    simp only [uniq]
    split
    · have := sN (l := l) (acc := acc); simp; omega
    · have := sN (l := l) (acc := acc ++ [s]); simp at this ⊢; omega

theorem GR {H : Heap} {c : C} {l : List aF} (hL : LR H c 7 (aA l)) (hl : l.length ≤ 30) (hsm : ∀ s ∈ l, s.Sm) : ∃ r H', Ev tab.get (.fn Uk) [.c c, .c (.f .au)] H r H' ∧
    ∃ c' o, r = .c c' ∧ Kp H H' ∧ LR H' c' 7 (aA o) ∧ o.map aF.cl = (uniq [] l).map aF.cl ∧ ∀ i, bI c' = some i → H.length ≤ i := by
  refine jo (C := fun r H' => ∃ c' o, r = .c c' ∧ Kp H H' ∧ LR H' c' 7 (aA o) ∧ o.map aF.cl = (uniq [] l).map aF.cl ∧ ∀ i, bI c' = some i → H.length ≤ i) aJ4 rfl fun Q hQ => ?_
  have hlen := hL.len
  simp at hlen
  refine ak (aj (.inl rfl) ?_)
  simp
  refine ak (aj (.inl rfl) ?_)
  simp
  refine ak ?_
  refine ak (aj (.inl rfl) ?_)
  simp [hlen]
  refine jh l.length (fun j t H1 => t.g 1 = .c (.f .au) ∧ t.g 9 = .c c ∧ Kp H H1 ∧ ∃ c' o, t.g 5 = .c c' ∧ LR H1 c' 7 (aA o) ∧ (uniq o (l.drop j)).map aF.cl = (uniq [] l).map aF.cl ∧ o.length ≤ j ∧ ∀ i, bI c' = some i → H.length ≤ i) (by omega) (by decide) (by decide) (by simp) (by simp)
    ⟨by simp, by simp, Kp.refl H, .f .au, [], by simp, LR.nil _ _, by simp, by simp, by simp [bI]⟩ ?_ ?_
  · rintro j t H1 hj ⟨g1, g9, hk, c', o, g5, hO, hu, hol, hbk⟩ ha hb next
    obtain ⟨x, hx⟩ : ∃ x, x = l[j] := ⟨_, rfl⟩
    have hd : l.drop j = x :: l.drop (j + 1) := by rw [hx]; exact List.drop_eq_getElem_cons hj
    rw [hd] at hu
    have hL1 : LR H1 c 7 (aA l) := hL.keep fun i y hy _ => by rw [hk.2 i (aT hy)]; exact hy
    obtain ⟨b, ep, i1, l1⟩ := hL1.at (aY l) (j := j) (by simpa using hj)
    have e0 : (aA l)[j]'(by simpa using hj) = x.row := by simp [aA, hx]
    rw [e0] at l1
    obtain ⟨s', e1, e2⟩ := wG x (by rw [hx]; exact hsm _ (List.getElem_mem hj))
    obtain ⟨H2, hH2⟩ : ∃ H2 : Heap, H2 = H1 ++ [.box (x.row.map .f) 0] := ⟨_, rfl⟩
    have hp2 : H2[H1.length]? = some (.box (x.row.map .f) 0) := by rw [hH2]; simp
    have hO2 : LR H2 c' 7 (aA o) := by rw [hH2]; exact hO.push _
    obtain ⟨J1, n1⟩ := JY (H := H2) (c := .f .au) (l := []) (LR.nil _ _) (by simp) x hp2
    have hO3 : LR (H2 ++ J1) c' 7 (aA o) := hO2.push _
    have hp3 : (H2 ++ J1)[H1.length]? = some (.box (x.row.map .f) 0) := by rw [List.getElem?_append_left (aT hp2)]; exact hp2
    obtain ⟨J2, n2⟩ := JY (H := H2 ++ J1) hO3 (by omega) x hp3
    have n1 := n1.eq
    have n2 := n2.eq
    refine aS ?_
    refine ak (aj (.inl rfl) ?_)
    simp [g9, ha, i1, l1, -aU, aF.row]
    simp only [aF.row] at hH2 n1 n2 e2 hp2
    simp at hH2
    rw [← hH2]
    refine ak (aj (.inl rfl) ?_)
    simp
    refine ak ?_
    refine aj (.inl rfl) ?_
    simp at n1
    simp [g1, g5, n1, n2]
    obtain ⟨H3, hH3⟩ : ∃ H3 : Heap, H3 = H2 ++ (J1 ++ J2) := ⟨_, rfl⟩
    have hk3 : Kp H H3 := by
      rw [hH3, hH2]
      exact ⟨by have := hk.1; simp; omega, fun b' hb' => by
        have := hk.1
        rw [List.append_assoc, List.getElem?_append_left (by omega)]; exact hk.2 b' hb'⟩
    have hO4 : LR H3 c' 7 (aA o) := by rw [hH3, ← List.append_assoc]; exact hO3.push _
    rw [← hH3]
    have hp4 : H3[H1.length]? = some (.box (x.row.map .f) 0) := by rw [hH3, List.getElem?_append_left (aT hp2)]; simp only [aF.row]; exact hp2
    cases hany : o.any fun y => dF y x
    case true =>
      simp only [uniq, hany, if_true] at hu
      refine aB (by simp [hany]) (aN (aP (next _ _ ⟨by simp [g1], by simp [g9], hk3, c', o, by simp [g5], hO4, hu, by omega, hbk⟩ (by simp [ha]) (by simp [hb]))))
    case false =>
      simp only [uniq, hany, Bool.false_eq_true, if_false] at hu
      obtain ⟨H4, hH4⟩ : ∃ H4 : Heap, H4 = H3 ++ [.box (s'.row.map .f) 0] := ⟨_, rfl⟩
      have hO5 : LR H4 c' 7 (aA o) := by rw [hH4]; exact hO4.push _
      obtain ⟨c2, H5, happ, hO6, hKb, hblk⟩ := hO5.app (aY o) (by decide) (row := s'.row) rfl (bytes := 88) (ig (by simp; omega) (by decide)) (b1 := H3.length) (fl1 := 0) (by rw [hH4]; simp)
      have hk4 : Kp H H4 := by
        rw [hH4]
        exact ⟨by have := hk3.1; simp; omega, fun b' hb' => by rw [List.getElem?_append_left (Nat.lt_of_lt_of_le hb' hk3.1)]; exact hk3.2 b' hb'⟩
      have hk5 : Kp H H5 := ⟨Nat.le_trans hk4.1 hKb.1, fun b' hb' => by
        have hy := List.getElem?_eq_getElem hb'
        rw [hKb.2 b' H[b'] (by rw [hk4.2 b' hb', hy]) (fun e => by have := hbk b' e; omega), hy]⟩
      refine aI (by simp [hany]) ?_
      refine aj (.inl rfl) ?_
      simp only [aF.row] at hp4 hH4 happ
      simp at hp4 hH4 happ
      have hrp : (dQ 1 [fi 0, fi 0, fi 0, fi 0, FC.au, fi 0, FC.au]).map C.f = [.f (fi 0), .f (fi 0), .f (fi 0), .f (fi 0), .f .au, .f (fi 0), .f .au] := rfl
      simp at e2
      simp [g5, hp4, e2, ← hH4, happ]
      refine aP (next _ _ ⟨by simp [g1], by simp [g9], hk5, c2, o ++ [s'], by simp, ?_, ?_, by simp; omega, fun i hi => ?_⟩ (by simp [ha]) (by simp [hb]))
      · have e : aA (o ++ [s']) = aA o ++ [s'.row] := by simp [aA]
        rw [e]; exact hO6
      · rw [← hu]
        exact BA (by simp [e1]) rfl
      · rcases hblk with h | h
        · rw [h] at hi; exact hbk i hi
        · rw [h] at hi; cases hi; exact hk4.1
  · rintro t H1 ⟨g1, g9, hk, c', o, g5, hO, hu, hol, hbk⟩ ha hb
    refine ak (aj (.inl rfl) ?_)
    simp [g5]
    refine aO (hQ _ _ (.c c') rfl (by simp [Km.results, bG]) ⟨c', o, rfl, hk, hO, ?_, hbk⟩)
    rwa [List.drop_of_length_le (Nat.le_refl _)] at hu
end Go.Proofs.YtcjhnkginmflhaaGreat
end

section
namespace Go.Proofs.YtcjhnkginmflhaaGreat
open Go Km

/-! ### The plain law of Live: sorted lists of the same stands are the same -/
theorem Qy {α β : Type} {f : α → β} {l l' : List β} (h : l'.Perm l) : ∀ o : List α, l = o.map f → ∃ o' : List α, l' = o'.map f ∧ o'.Perm o := by
  induction h with
  | nil => intro o ho; exact ⟨[], rfl, by
      have : o = [] := by simpa using ho.symm
      rw [this]⟩
  | cons x h ih =>
    intro o ho
    cases o with
    | nil => simp at ho
    | cons a o =>
      simp only [List.map_cons, List.cons.injEq] at ho
      obtain ⟨o', h1, h2⟩ := ih o ho.2
      exact ⟨a :: o', by simp [h1, ho.1], h2.cons a⟩
  | swap x y l =>
    intro o ho
    match o with
    | [] => simp at ho
    | [a] => simp at ho
    | a :: b :: o =>
      simp only [List.map_cons, List.cons.injEq] at ho
      exact ⟨b :: a :: o, by simp [ho.1, ho.2.1, ho.2.2], List.Perm.swap a b o⟩
  | trans h1 h2 ih1 ih2 =>
    intro o ho
    obtain ⟨o2, e2, p2⟩ := ih2 o ho
    obtain ⟨o1, e1, p1⟩ := ih1 o2 e2
    exact ⟨o1, e1, p1.trans p2⟩
theorem yS {α : Type} {R : α → α → Prop} : ∀ {A B : List α}, A.Perm B → A.Pairwise R → B.Pairwise R → (∀ x ∈ A, ∀ y ∈ A, R x y → R y x → x = y) → A = B
  | [], B, h, _, _, _ => (List.nil_perm.1 h).symm
  | a :: A, [], h, _, _, _ => by have := h.length_eq; simp at this
  | a :: A, b :: B, h, ha, hb, anti => by
    have hab : a = b := by
      by_cases e : a = b
      · exact e
      have h1 : a ∈ B := by
        have : a ∈ b :: B := h.mem_iff.1 List.mem_cons_self
        rcases List.mem_cons.1 this with rfl | h
        · exact absurd rfl e
        · exact h
      have h2 : b ∈ A := by
        have : b ∈ a :: A := h.mem_iff.2 List.mem_cons_self
        rcases List.mem_cons.1 this with rfl | h
        · exact absurd rfl e
        · exact h
      exact anti a List.mem_cons_self b (List.mem_cons_of_mem _ h2) (List.rel_of_pairwise_cons ha h2) (List.rel_of_pairwise_cons hb h1)
    subst hab
    rw [yS ((List.perm_cons a).1 h) (List.Pairwise.of_cons ha) (List.Pairwise.of_cons hb) fun x hx y hy => anti x (List.mem_cons_of_mem _ hx) y (List.mem_cons_of_mem _ hy)]

def nN (x y : aF) : Prop := ¬ (y.meet < x.meet ∨ y.meet = x.meet ∧ y.room < x.room)
theorem AP {x y : aF} : dF x y = true ↔ x.meet = y.meet ∧ x.room = y.room := by simp [dF]
theorem rJ : ∀ {l acc : List aF}, acc.Pairwise (fun x y => dF x y = false) → (uniq acc l).Pairwise fun x y => dF x y = false
  | [], acc, h => h
  | s :: l, acc, h => by
    simp only [uniq]
    split
    · exact rJ h
    · rename_i hs
      refine rJ (List.pairwise_append.2 ⟨h, List.pairwise_singleton _ _, fun a ha b hb => ?_⟩)
      obtain rfl := List.mem_singleton.1 hb
      simp only [List.any_eq_true, not_exists, not_and, Bool.not_eq_true] at hs
      exact hs a ha
theorem apart_eq {α : Type} {r : α → α → Bool} (aHA : ∀ x y, r x y = r y x) : ∀ {l : List α}, l.Pairwise (fun x y => r x y = false) → ∀ x ∈ l, ∀ y ∈ l, r x y = true → x = y
  | [], _, x, hx, _, _, _ => by cases hx
  | a :: l, h, x, hx, y, hy, hr => by
    rcases List.mem_cons.1 hx with ex | kx
    · rcases List.mem_cons.1 hy with ey | ky
      · rw [ex, ey]
      · rw [ex, List.rel_of_pairwise_cons h ky] at hr; cases hr
    · rcases List.mem_cons.1 hy with ey | ky
      · rw [ey, aHA, List.rel_of_pairwise_cons h kx] at hr; cases hr
      · exact apart_eq aHA (List.Pairwise.of_cons h) x kx y ky hr

/-- The reference's list: each new stand at its place. -/
def pO (a b : aF) : Bool := decide (a.meet < b.meet) || (decide (a.meet = b.meet) && decide (a.room < b.room))
def pX (s : aF) : List aF → List aF
  | [] => [s]
  | x :: r => if pO s x then s :: x :: r else x :: pX s r
theorem oD (s : aF) : ∀ l : List aF, (pX s l).Perm (l ++ [s])
  | [] => .refl _
  | x :: r => by
    simp only [pX]
    split
    · exact (List.perm_append_comm (l₁ := [s]) (l₂ := x :: r))
    · exact (oD s r).cons x
theorem AO {a b : aF} : pO a b = true ↔ a.meet < b.meet ∨ a.meet = b.meet ∧ a.room < b.room := by simp [pO]
theorem JV (s : aF) : ∀ {l : List aF}, l.Pairwise nN → (pX s l).Pairwise nN
  | [], _ => List.pairwise_singleton _ _
  | x :: r, h => by
    simp only [pX]
    split
    · rename_i hs
      rw [AO] at hs
      refine List.pairwise_cons.2 ⟨fun y hy => ?_, h⟩
      rcases List.mem_cons.1 hy with rfl | hy
      · unfold nN; omega
      · have := List.rel_of_pairwise_cons h hy
        unfold nN at *; omega
    · rename_i hs
      have hs' : ¬ (s.meet < x.meet ∨ s.meet = x.meet ∧ s.room < x.room) := fun e => hs (AO.2 e)
      refine List.pairwise_cons.2 ⟨fun y hy => ?_, JV s (List.Pairwise.of_cons h)⟩
      have : y ∈ r ++ [s] := (oD s r).mem_iff.1 hy
      rcases List.mem_append.1 this with hy | hy
      · exact List.rel_of_pairwise_cons h hy
      · obtain rfl := List.mem_singleton.1 hy
        exact hs'
def pK (x : aQ) : Bool := decide (x.state = 1) || decide (x.state = 2)
def fK (l : List aQ) : List aF := (l.filter pK).map aQ.stand
def iO : List aF → List aQ → List aF
  | acc, [] => acc
  | acc, x :: r => if pK x && !(acc.any fun y => dF y x.stand) then iO (pX x.stand acc) r else iO acc r
theorem Tn {a a' : List aF} (h : a.Perm a') (p : aF → Bool) : a.any p = a'.any p := by
  rw [Bool.eq_iff_iff, List.any_eq_true, List.any_eq_true]
  exact ⟨fun ⟨x, hx, e⟩ => ⟨x, h.mem_iff.1 hx, e⟩, fun ⟨x, hx, e⟩ => ⟨x, h.mem_iff.2 hx, e⟩⟩
theorem tC : ∀ {l : List aQ} {acc u : List aF}, acc.Perm u → acc.Pairwise nN → (iO acc l).Perm (uniq u (fK l)) ∧ (iO acc l).Pairwise nN
  | [], acc, u, h, hp => ⟨h, hp⟩
  | x :: r, acc, u, h, hp => by
    simp only [iO, fK, List.filter_cons]
    by_cases hx : pK x = true
    · simp only [hx, if_true, List.map_cons, uniq, Bool.true_and]
      rw [Tn h]
      by_cases ha : (u.any fun y => dF y x.stand) = true
      · simp only [ha, if_true, Bool.not_true, Bool.false_eq_true, if_false]
        exact tC h hp
      · simp only [ha, if_false, Bool.not_false, if_true, Bool.false_eq_true]
        exact tC ((oD _ _).trans (List.Perm.append_right _ h)) (JV _ hp)
    · simp only [hx, Bool.false_eq_true, if_false, Bool.false_and]
      exact tC h hp
theorem apF {l : List aQ} {o A : List aF} (ho : o.map aF.cl = (uniq [] (fK l)).map aF.cl) (hA : A.Perm o) (hs : A.Pairwise nN) : A.map aF.cl = (iO [] l).map aF.cl := by
  obtain ⟨h1, h2⟩ := tC (l := l) (acc := []) (u := []) (.refl _) .nil
  have hap := rJ (l := fK l) (acc := []) .nil
  have hp : (A.map aF.cl).Perm ((iO [] l).map aF.cl) := (hA.map aF.cl).trans (by rw [ho]; exact (h1.map aF.cl).symm)
  have hle : ∀ {L : List aF}, L.Pairwise nN → (L.map aF.cl).Pairwise nN := fun h => by
    rw [List.pairwise_map]; exact h
  have aND : ((uniq [] (fK l)).map aF.cl).Pairwise fun x y => dF x y = false := by
    rw [List.pairwise_map]; exact hap
  refine yS hp (hle hs) (hle h2) fun x hx y hy h3 h4 => ?_
  have mem : ∀ z ∈ A.map aF.cl, z ∈ (uniq [] (fK l)).map aF.cl := fun z hz => by
    rw [← ho]; exact (hA.map aF.cl).mem_iff.1 hz
  refine apart_eq (r := dF) (fun a b => by simp only [dF, eq_comm]) aND x (mem x hx) y (mem y hy) (AP.2 ?_)
  unfold nN at h3 h4
  omega
end Go.Proofs.YtcjhnkginmflhaaGreat
end

section
namespace Go.Proofs.YtcjhnkginmflhaaGreat
open Go Km

/-! ### Claims, sorting, Live -/
theorem Bf (h : HsD) (hl : h.l.length ≤ 30) (hs : ∀ x ∈ h.l, x.Sm) (H : Heap) : ∃ r H', Ev tab.get (.fn Gj) [.a (h.row.map .f), .c (.f .au)] H r H' ∧
    ∃ c' o, r = .c c' ∧ Kp H H' ∧ LR H' c' 7 (aA o) ∧ o.map aF.cl = (uniq [] (fK h.l)).map aF.cl ∧ ∀ i, bI c' = some i → H.length ≤ i := by
  refine jo (C := fun r H' => ∃ c' o, r = .c c' ∧ Kp H H' ∧ LR H' c' 7 (aA o) ∧ o.map aF.cl = (uniq [] (fK h.l)).map aF.cl ∧ ∀ i, bI c' = some i → H.length ≤ i) aKe rfl fun Q hQ => ?_
  refine ak (aj (.inl rfl) ?_)
  simp [HsD.row]
  obtain ⟨H0, hH0⟩ : ∃ H0 : Heap, H0 = H ++ [.box [.f (fi h.clock), .f (fi h.bg), .f (sl h.lg (aJ h.l))] 0] := ⟨_, rfl⟩
  have z0 : H0[H.length]? = some (.box [.f (fi h.clock), .f (fi h.bg), .f (sl h.lg (aJ h.l))] 0) := by rw [hH0]; simp
  have zk : Kp H H0 := by rw [hH0]; exact Kp.push _ _
  rw [← hH0]
  refine ak (aj (.inl rfl) ?_)
  simp
  refine ak ?_
  refine ak (aj (.inl rfl) ?_)
  simp [z0]
  refine jh h.l.length (fun j t H1 => t.g 1 = .c (.f .au) ∧ t.g 9 = .c (.f (sl h.lg (aJ h.l))) ∧ Kp H H1 ∧ ∃ c, t.g 5 = .c c ∧ LR H1 c 7 (aA (fK (h.l.take j))) ∧ ∀ i, bI c = some i → H.length ≤ i) (by omega) (by decide) (by decide) (by simp) (by simp)
    ⟨by simp, by simp, zk, .f .au, by simp, LR.nil _ _, by simp [bI]⟩ ?_ ?_
  · rintro j t H1 hj ⟨g1, g9, hk, c, g5, hL, hbk⟩ ha hb next
    have hld := fun H : Heap => fP (H := H) (aZ h.l) (cu hj)
    simp only [aQ.row] at hld
    obtain ⟨x, hx⟩ : ∃ x, x = h.l[j] := ⟨_, rfl⟩
    rw [← hx] at hld
    have htk : h.l.take (j + 1) = h.l.take j ++ [x] := by rw [hx, List.take_add_one, List.getElem?_eq_getElem hj]; rfl
    obtain ⟨Hn, hHn⟩ : ∃ Hn : Heap, Hn = H1 ++ [.box [.f (fi x.id), .f (fi x.dl), .f (fi x.state), .f (fi x.stand.meet), .f (fi x.stand.room), .f (fi x.stand.jJ), .f (fi x.stand.size), .f (sl x.stand.st.cg (aW x.stand.st.cs)), .f (fi x.stand.st.len), .f (sl x.stand.st.xg (bn x.stand.st.xs))] 0] := ⟨_, rfl⟩
    have nr : Hn[H1.length]? = some (.box [.f (fi x.id), .f (fi x.dl), .f (fi x.state), .f (fi x.stand.meet), .f (fi x.stand.room), .f (fi x.stand.jJ), .f (fi x.stand.size), .f (sl x.stand.st.cg (aW x.stand.st.cs)), .f (fi x.stand.st.len), .f (sl x.stand.st.xg (bn x.stand.st.xs))] 0) := by rw [hHn]; simp
    have hk2 : Kp H Hn := by
      rw [hHn]
      exact ⟨by have := hk.1; simp; omega, fun b' hb' => by rw [List.getElem?_append_left (Nat.lt_of_lt_of_le hb' hk.1)]; exact hk.2 b' hb'⟩
    have hL2 : LR Hn c 7 (aA (fK (h.l.take j))) := by rw [hHn]; exact hL.push _
    refine aS ?_
    refine ak (aj (.inl rfl) ?_)
    simp [ha, g9, dJ, hj, hld]
    rw [← hHn]
    refine ak ?_
    refine aj (.inl rfl) ?_
    simp [nr]
    cases hlv : pK x
    case false =>
      have hno : fK (h.l.take (j + 1)) = fK (h.l.take j) := by rw [htk]; simp [fK, List.filter_append, hlv]
      have h1 : x.state ≠ 1 := fun e => by simp [pK, e] at hlv
      have h2 : x.state ≠ 2 := fun e => by simp [pK, e] at hlv
      simp [h1, h2, nr]
      refine aB (by simp) (aN (aP (next _ _ ⟨by simp [g1], by simp [g9], hk2, c, by simp [g5], by rw [hno]; exact hL2, hbk⟩ (by simp [ha]) (by simp [hb]))))
    case true =>
      have hyes : fK (h.l.take (j + 1)) = fK (h.l.take j) ++ [x.stand] := by rw [htk]; simp [fK, List.filter_append, hlv]
      obtain ⟨H4, hH4⟩ : ∃ H4 : Heap, H4 = Hn ++ [.box (x.stand.row.map .f) 0] := ⟨_, rfl⟩
      have hlen : (fK (h.l.take j)).length ≤ 30 := by
        have h1 : (fK (h.l.take j)).length ≤ (h.l.take j).length := by simp only [fK, List.length_map]; exact List.length_filter_le _ _
        have h2 : (h.l.take j).length ≤ h.l.length := by rw [List.length_take]; omega
        omega
      have hO5 : LR H4 c 7 (aA (fK (h.l.take j))) := by rw [hH4]; exact hL2.push _
      obtain ⟨c2, H5, happ, hO6, hKb, hblk⟩ := hO5.app (aY _) (by decide) (row := x.stand.row) rfl (bytes := 88) (ig (by simp; omega) (by decide)) (b1 := Hn.length) (fl1 := 0) (by rw [hH4]; simp)
      have hk4 : Kp H H4 := by
        rw [hH4]
        exact ⟨by have := hk2.1; simp; omega, fun b' hb' => by rw [List.getElem?_append_left (Nat.lt_of_lt_of_le hb' hk2.1)]; exact hk2.2 b' hb'⟩
      have hk5 : Kp H H5 := ⟨Nat.le_trans hk4.1 hKb.1, fun b' hb' => by
        have hy := List.getElem?_eq_getElem hb'
        rw [hKb.2 b' H[b'] (by rw [hk4.2 b' hb', hy]) (fun e => by have := hbk b' e; omega), hy]⟩
      simp only [aF.row] at hH4 happ
      simp at hH4 happ
      have fin : ∀ t : T, t.g 1 = .c (.f .au) → t.g 9 = .c (.f (sl h.lg (aJ h.l))) → t.g 5 = .c c → t.g 7 = .c (.ptr H1.length 0 0) → t.g 10 = vi h.l.length → t.g 11 = vi j →
          WP tab.get Gj none [.code GH, .inBlock 1, .code (apO 11 28), .inLoop (BO 0 11 10 12 28 GI), .inBlock 0, .code Gz] ⟨t, [], Hn⟩ Q := by
        intro t g1 g9 g5 g7 g10 g11
        refine aj (.inl rfl) ?_
        simp [g5, g7, nr, ← hH4, happ]
        refine aP (next _ _ ⟨by simp [g1], by simp [g9], hk5, c2, by simp, ?_, fun i hi => ?_⟩ (by simp [g11]) (by simp [g10]))
        · rw [hyes]
          have e : aA (fK (h.l.take j) ++ [x.stand]) = aA (fK (h.l.take j)) ++ [x.stand.row] := by simp [aA]
          rw [e]; exact hO6
        · rcases hblk with h | h
          · rw [h] at hi; exact hbk i hi
          · rw [h] at hi; cases hi; exact hk4.1
      by_cases h1 : x.state = 1
      · simp [h1]
        exact aI (by simp) (fin _ (by simp [g1]) (by simp [g9]) (by simp [g5]) (by simp) (by simp [hb]) (by simp [ha]))
      · have h2 : x.state = 2 := by simp [pK] at hlv; omega
        simp [h1, h2, nr]
        exact aI (by simp) (fin _ (by simp [g1]) (by simp [g9]) (by simp [g5]) (by simp) (by simp [hb]) (by simp [ha]))
  · rintro t H1 ⟨g1, g9, hk, c, g5, hL, hbk⟩ ha hb
    rw [List.take_of_length_le (Nat.le_refl _)] at hL
    have hlen : (fK h.l).length ≤ 30 := by
      have h1 : (fK h.l).length ≤ h.l.length := by simp only [fK, List.length_map]; exact List.length_filter_le _ _
      omega
    obtain ⟨r, H2, he, c', o, rfl, hk2, hO, hu, hbk2⟩ := GR hL hlen (fun s hs' => by
      simp only [fK, List.mem_map, List.mem_filter] at hs'
      obtain ⟨y, ⟨hy, _⟩, rfl⟩ := hs'
      exact hs y hy)
    have he := he.eq
    refine ak (aj (.inl rfl) ?_)
    simp [g1, g5, he]
    exact aO (hQ _ _ (.c c') rfl (by simp [Km.results, bG]) ⟨c', o, rfl, ⟨Nat.le_trans hk.1 hk2.1, fun b' hb' => by rw [hk2.2 b' (Nat.lt_of_lt_of_le hb' hk.1)]; exact hk.2 b' hb'⟩, hO, hu, fun i hi => Nat.le_trans hk.1 (hbk2 i hi)⟩)

/-- The sorting functions' numbers. -/
def sσ : Srt := { pdq := 0, ins := FZ, heap := 0, sift := 0, brk := 0, piv := 0, rev := 0, part := 0, peq := 0, pins := 0, aNo := 0, med := 0, ord := 0, npt := 0, nxt := 0, len := 0, aCi := FY, sS := Bl, rot := TG, swr := FX }
theorem apN {H : Heap} (v : V) : ∃ r H', Ev tab.get (.fn FZ) [v, vi 0, vi 0, .c (.f (.fn uT []))] H r H' ∧ (r = .t [] ∧ H' = H) := by
  refine jo aBO rfl fun Q hQ => ?_
  refine ak (aj (.inl rfl) ?_)
  simp [wrap64 (n := (1 : Int)) (by omega) (by omega)]
  refine aS (lG ?_)
  refine ak ?_
  refine ak (aj (.inl rfl) ?_)
  simp
  refine aB (by simp) ?_
  refine dN (k' := []) rfl ?_
  exact jQ (hQ _ _ _ rfl rfl ⟨rfl, rfl⟩)
theorem OZ {H : Heap} (v : V) : ∃ r H', Ev tab.get (.fn FY) [v, vi 0, .c (.f (.fn uT []))] H r H' ∧ (r = .t [] ∧ H' = H) := by
  obtain ⟨r, H', he, rfl, rfl⟩ := apN (H := H) v
  have he := he.eq
  refine jo aBN rfl fun Q hQ => ?_
  refine ak (aj (.inl rfl) ?_)
  simp
  refine ak (aj (.inl rfl) ?_)
  simp
  refine ak ?_
  refine aS (lG ?_)
  refine ak ?_
  refine ak (aj (.inl rfl) ?_)
  simp
  refine aB (by simp) ?_
  refine dN (k' := [.code Gm]) rfl ?_
  refine ak (aj (.inl rfl) ?_)
  simp [he]
  refine aS (lG ?_)
  refine ak ?_
  refine ak (aj (.inl rfl) ?_)
  simp
  refine aB (by simp) ?_
  refine dN (k' := []) rfl ?_
  exact jQ (hQ _ _ _ rfl rfl ⟨rfl, rfl⟩)
theorem DI {o : List aF} {n : Nat} (hn : o.length = n) (h : Up Ia 0 n (aA o)) : o.Pairwise nN := by
  rw [List.pairwise_iff_getElem]
  intro i j hi hj hij
  have := h i j o[i].row o[j].row (by omega) hij (by omega) (eP hi) (eP hj)
  rw [Ce] at this
  exact this
theorem Jw {H : Heap} {c : C} {o : List aF} (hL : LR H c 7 (aA o)) (ho : o.length < 40) : ∃ r H', Ev tab.get (.fn Kz) [.c c, .c (.f (.fn uT []))] H r H' ∧
    (r = .t [] ∧ Kb H H' c ∧ ∃ o', LR H' c 7 (aA o') ∧ o'.Perm o ∧ o'.Pairwise nN) := by
  have hlen := hL.len
  simp at hlen
  rcases hL with ⟨he, hc⟩ | ⟨hne, B, ep, rfl, hB⟩
  · have ho0 : o = [] := by simpa [aA] using he
    subst ho0
    obtain ⟨r, H', hev, rfl, rfl⟩ := OZ (H := H) (.c c)
    have hev := hev.eq
    refine jo (C := fun r H'' => r = .t [] ∧ Kb H' H'' c ∧ ∃ o', LR H'' c 7 (aA o') ∧ o'.Perm [] ∧ o'.Pairwise nN) aBP rfl fun Q hQ => ?_
    refine aj (.inl rfl) ?_
    simp at hlen
    simp [hlen, hev]
    exact jQ (hQ _ _ (.t []) rfl rfl ⟨rfl, Kb.refl _ _, [], .inl ⟨rfl, hc⟩, .refl _, .nil⟩)
  · have hll : (aA o).length = o.length := by simp
    obtain ⟨r, H', hev, rfl, hf, l', hB', hp, hu⟩ := amv (σ := sσ) (tab := tab.get) (sz := 7) (b := B) (ep := ep) (H := H) (rows := aA o) (n := o.length) aBN aBO aJh aJj aJi SI NI hll ho hB (aY o) (fun r hr => by
      simp only [aA, List.mem_map] at hr
      obtain ⟨s, _, rfl⟩ := hr
      exact ⟨s, rfl⟩)
    have hev := hev.eq
    obtain ⟨o', rfl, hpo⟩ := Qy hp o rfl
    have hol : o'.length = o.length := hpo.length_eq
    rw [hll] at hlen ⊢
    refine jo (C := fun r H'' => r = .t [] ∧ Kb H H'' (.sl B 0 o.length 0 ep 7) ∧ ∃ o', LR H'' (.sl B 0 o.length 0 ep 7) 7 (aA o') ∧ o'.Perm o ∧ o'.Pairwise nN) aBP rfl fun Q hQ => ?_
    refine aj (.inl rfl) ?_
    have hev' : Ev tab.get (.fn FY) [.c (.sl B 0 o.length 0 ep 7), vi o.length, .c (.f (.fn uT []))] H = E2 (.t []) H' := hev
    simp [hlen, hev']
    refine jQ (hQ _ ⟨_, [], H'⟩ (.t []) rfl rfl ⟨rfl, Kb.aHe hf, o', .inr ⟨?_, B, ep, ?_, hB'⟩, hpo, DI hol hu⟩)
    · intro e
      have h0 : o'.length = 0 := by have := congrArg List.length e; simpa [aA] using this
      exact hne (List.length_eq_zero_iff.1 (by rw [hll]; omega))
    · have : (aA o').length = o.length := by simp [hol]
      rw [this]
end Go.Proofs.YtcjhnkginmflhaaGreat
end

section
namespace Go.Proofs.YtcjhnkginmflhaaGreat
open Go Km

theorem apE (h : HsD) (hl : h.l.length ≤ 30) (hs : ∀ x ∈ h.l, x.Sm) : ∃ (g : Tg) (A : List aF), A.map aF.cl = (if dh h then (iO [] h.l).map aF.cl else []) ∧ Km.Pure tab.get TS [.a (h.row.map .f)] = Eq (.c (.f (sl g (aA A)))) := by
  obtain ⟨r, ⟨g, A, hA, rfl⟩, hp⟩ : ∃ r, (∃ (g : Tg) (A : List aF), A.map aF.cl = (if dh h then (iO [] h.l).map aF.cl else []) ∧ r = .c (.f (sl g (aA A)))) ∧ Km.Pure tab.get TS [.a (h.row.map .f)] r := by
    refine jU aNT rfl fun Q hQ => ?_
    have hv := qg h hl
    simp [HsD.row] at hv
    refine ak (aj (.inl rfl) ?_)
    simp [HsD.row]
    refine ak ?_
    refine ak (aj (.inl rfl) ?_)
    simp [hv]
    cases hB : dh h
    case false =>
      refine aI (by simp) (ak (aj (.inl rfl) ?_))
      simp
      refine aO (hQ _ _ (.c (.f (sl .nil (aA [])))) ⟨.nil, [], by simp [hB], rfl⟩ ?_)
      simp [aA, sl, Tg.fc]
    refine aB (by simp) (aN ?_)
    obtain ⟨r, H1, he, c, o, rfl, hk, hL, hu, -⟩ := Bf h hl hs [.box [.f (fi h.clock), .f (fi h.bg), .f (sl h.lg (aJ h.l))] 0]
    have he := he.eq
    simp [HsD.row] at he
    have hol : o.length < 40 := by
      have h1 := congrArg List.length hu
      simp at h1
      have h2 := sN (l := fK h.l) (acc := [])
      have h3 : (fK h.l).length ≤ h.l.length := by simp only [fK, List.length_map]; exact List.length_filter_le _ _
      simp at h2; omega
    obtain ⟨r, H2, he2, rfl, -, A, hA, hp, hw⟩ := Jw hL hol
    have he2 := he2.eq
    obtain ⟨g, hg⟩ := hA.ex (aY A) 63
    refine ak (aj (.inl rfl) ?_)
    simp [he]
    refine ak (aj (.inl rfl) ?_)
    simp [he2]
    refine ak (aj (.inl rfl) ?_)
    simp
    refine aO (hQ _ _ (.c (.f (sl g (aA A)))) ⟨g, A, by rw [if_pos hB]; exact apF hu hp hw, rfl⟩ ?_)
    simp [exV, dD, deep, hg]
  exact ⟨g, A, hA, hp.eq⟩
end Go.Proofs.YtcjhnkginmflhaaGreat
end

section
namespace Go.Proofs.YtcjhnkginmflhaaGreat
open Go Km

/-! ### Equal data are the same -/
theorem D6 (g g' : Tg) (l : List Int) (hl : l.length ≤ 1048576) : Km.Pure tab.get KU [.c (.f (sl g (ints l))), .c (.f (sl g' (ints l)))] = Eq (vb true) := by
  refine xH (c := 25) aJX (by simp; omega) rfl fun j hj t H L g0 g1 g5 hL => ?_
  simp at hj
  simp [g0, g1, g5, dJ, hj, RD]
  exact hL _ (by simp [g0]) (by simp [g1]) (by simp [g5]) (by simp)
theorem fG.aHY {p p' : fG} (h : p.cl = p'.cl) : p.head = p'.head ∧ p.fr = p'.fr ∧ p.per = p'.per ∧ p.cyc = p'.cyc := by
  simp [fG.cl] at h; exact h
theorem Hf (p p' : fG) (hs : p.Sm) (h : p.cl = p'.cl) : Km.Pure tab.get Uj [.a (p.row.map .f), .a (p'.row.map .f)] = Eq (vb true) := Kf.eq (by
  obtain ⟨h1, h2, h3, h4⟩ := fG.aHY h
  have s1 := D6 p.hg p'.hg p.head hs.1
  have s2 := D6 p.cg p'.cg p.cyc hs.2
  refine jD aJ0 rfl fun H Q hQ => ?_
  refine ak (aj (.inl rfl) ?_)
  simp [fG.row, ← h1, ← h2, ← h3, ← h4]
  refine ak (aj (.inl rfl) ?_)
  simp [s1, s2]
  refine aO (hQ _ _ ?_)
  simp)
theorem OV (t t' : dG) (hs : t.Sm) (h : t.cl = t'.cl) : Km.Pure tab.get Uh [.c (.f (sl t.tg (fF t.fs))), .c (.f (sl t'.tg (fF t'.fs)))] = Eq (vb true) := by
  have hm : t.fs.map fG.cl = t'.fs.map fG.cl := by simpa [dG.cl] using h
  have hlen := jT hm
  refine xH (c := 26) aJY (by have := hs.1; simp; omega) (by simp [hlen]) fun j hj t0 H L g0 g1 g5 hL => ?_
  simp at hj
  have hj' : j < t'.fs.length := by omega
  have l1 := fun H : Heap => fP (H := H) (jA t.fs) (rP hj)
  have l2 := fun H : Heap => fP (H := H) (jA t'.fs) (rP hj')
  have hsf := Hf t.fs[j] t'.fs[j] (hs.2 _ (List.getElem_mem hj)) (get_map hm hj hj')
  simp [g0, g1, g5, dJ, hj, hj', l1, l2, hsf]
  exact hL _ (by simp [g0]) (by simp [g1]) (by simp [g5]) (by simp)
theorem PN (g g' : Tg) (l : List pV) (hl : l.length ≤ 1048576) : Km.Pure tab.get Ug [.c (.f (sl g (bn l))), .c (.f (sl g' (bn l)))] = Eq (vb true) := by
  refine xH (c := 25) aJW (by simp; omega) rfl fun j hj t H L g0 g1 g5 hL => ?_
  simp at hj
  have l1 := fun H : Heap => fP (H := H) (nV l) (EU hj)
  simp only [pV.row] at l1
  simp [g0, g1, g5, dJ, hj, l1, eqV, eqL, eqP]
  exact hL _ (by simp [g0]) (by simp [g1]) (by simp [g5]) (by simp)
theorem am7 (g g' : Tg) (ts ts' : List dG) (hl : ts.length ≤ 1048576) (hs : ∀ t ∈ ts, t.Sm) (h : ts.map dG.cl = ts'.map dG.cl) : Km.Pure tab.get Ui [.a [.f (sl g (bF ts))], .a [.f (sl g' (bF ts'))]] = Eq (vb true) := Kf.eq (by
  have hlen := jT h
  refine jD aJZ rfl fun H Q hQ => ?_
  refine ak (aj (.inl rfl) ?_)
  simp
  refine ak ?_
  refine ak (aj (.inl rfl) ?_)
  simp [hlen]
  refine aB (by simp) (aN ?_)
  refine ak ?_
  refine ak (aj (.inl rfl) ?_)
  simp
  obtain ⟨H1, hH1⟩ : ∃ H1 : Heap, H1 = H ++ [.box [.f (sl g (bF ts))] 0, .box [.f (sl g' (bF ts'))] 0] := ⟨_, rfl⟩
  have z0 : H1[H.length]? = some (.box [.f (sl g (bF ts))] 0) := by rw [hH1]; simp
  have z1 : H1[H.length + 1]? = some (.box [.f (sl g' (bF ts'))] 0) := by rw [hH1]; simp
  have hex : ∃ J, H1 = H ++ J := ⟨_, hH1⟩
  rw [← hH1]
  refine iU ts.length (fun j t H' => t.g 2 = .c (.ptr H.length 0 0) ∧ t.g 3 = .c (.ptr (H.length + 1) 0 0) ∧ H' = H1) (by omega) rfl (by simp) ⟨by simp, by simp, rfl⟩ ?_ ?_ ?_
  · rintro j t _ L hj ⟨g2, g3, rfl⟩ ha hL
    simp [ha, g2, z0]
    exact hL _ ⟨by simp [g2], by simp [g3], rfl⟩ (by simp [ha]) (by simp)
  · rintro j t _ hj ⟨g2, g3, rfl⟩ ha next
    have hj' : j < ts'.length := by omega
    have l1 := fun H : Heap => nM (H := H) (nP ts) (qh hj) rfl
    have l2 := fun H : Heap => nM (H := H) (nP ts') (qh hj') rfl
    try simp at l1 l2
    have hst := OV ts[j] ts'[j] (hs _ (List.getElem_mem hj)) (get_map h hj hj')
    refine aS ?_
    refine ak (aj (.inl rfl) ?_)
    simp [ha, g2, g3, z0, z1, dJ, hj, hj', l1, l2, hst]
    exact aB (by simp) (aN (aP (next _ _ ⟨by simp [g2], by simp [g3], rfl⟩ (by simp [ha]))))
  · rintro t _ ⟨g2, g3, rfl⟩ ha
    refine ak (aj (.inl rfl) ?_)
    simp
    refine aO (hQ _ _ ?_)
    simp [hex])

theorem GY (s s' : iy) (hs : s.Sm) (h : s.cl = s'.cl) : Km.Pure tab.get Uf [.a (s.row.map .f), .a (s'.row.map .f)] = Eq (vb true) := Kf.eq (by
  obtain ⟨hcl, hxl, hts⟩ := hs
  obtain ⟨h1, h2, h3⟩ : s.cs.map bK.cl = s'.cs.map bK.cl ∧ s.len = s'.len ∧ s.xs = s'.xs := by simpa [iy.cl] using h
  have hlen := jT h1
  have hsl := PN s.xg s'.xg s.xs hxl
  refine jD aJV rfl fun H Q hQ => ?_
  refine ak (aj (.inl rfl) ?_)
  simp [iy.row, ← h2, ← h3]
  refine ak ?_
  refine ak (aj (.inl rfl) ?_)
  simp [hlen, hsl]
  refine aB (by simp) (aN ?_)
  refine ak ?_
  refine ak (aj (.inl rfl) ?_)
  simp
  obtain ⟨H1, hH1⟩ : ∃ H1 : Heap, H1 = H ++ [.box [.f (sl s.cg (aW s.cs)), .f (fi s.len), .f (sl s.xg (bn s.xs))] 0, .box [.f (sl s'.cg (aW s'.cs)), .f (fi s.len), .f (sl s'.xg (bn s.xs))] 0] := ⟨_, rfl⟩
  have z0 : H1[H.length]? = some (.box [.f (sl s.cg (aW s.cs)), .f (fi s.len), .f (sl s.xg (bn s.xs))] 0) := by rw [hH1]; simp
  have z1 : H1[H.length + 1]? = some (.box [.f (sl s'.cg (aW s'.cs)), .f (fi s.len), .f (sl s'.xg (bn s.xs))] 0) := by rw [hH1]; simp
  have hex : ∃ J, H1 = H ++ J := ⟨_, hH1⟩
  rw [← hH1]
  refine iU s.cs.length (fun j t H' => t.g 2 = .c (.ptr H.length 0 0) ∧ t.g 3 = .c (.ptr (H.length + 1) 0 0) ∧ H' = H1) (by omega) rfl (by simp) ⟨by simp, by simp, rfl⟩ ?_ ?_ ?_
  · rintro j t _ L hj ⟨g2, g3, rfl⟩ ha hL
    simp [ha, g2, z0]
    exact hL _ ⟨by simp [g2], by simp [g3], rfl⟩ (by simp [ha]) (by simp)
  · rintro j t _ hj ⟨g2, g3, rfl⟩ ha next
    have hj' : j < s'.cs.length := by omega
    have hc := get_map h1 hj hj'
    obtain ⟨c1, c2⟩ : s.cs[j].ts.map dG.cl = s'.cs[j].ts.map dG.cl ∧ s.cs[j].min = s'.cs[j].min := by simpa [bK.cl] using hc
    obtain ⟨hc1, hc2⟩ := hts _ (List.getElem_mem hj)
    have l1 := fun H : Heap => nM (H := H) (fO s.cs) (iq hj) rfl
    have l2 := fun H : Heap => nM (H := H) (fO s'.cs) (iq hj') rfl
    have m1 := fun H : Heap => vG (H := H) (k := 1) (fO s.cs) (iq hj) rfl
    have m2 := fun H : Heap => vG (H := H) (k := 1) (fO s'.cs) (iq hj') rfl
    have n1 := fun H : Heap => xO (H := H) (k := 0) (n := 1) (fO s.cs) (iq hj) (by decide)
    have n2 := fun H : Heap => xO (H := H) (k := 0) (n := 1) (fO s'.cs) (iq hj') (by decide)
    simp [bK.row] at l1 l2 m1 m2 n1 n2
    have hst := am7 s.cs[j].mg s'.cs[j].mg _ _ hc1 hc2 c1
    refine aS ?_
    refine ak (aj (.inl rfl) ?_)
    simp [ha, g2, g3, z0, z1, dJ, hj, hj', l1, l2, m1, m2, n1, n2, c2, hst]
    exact aB (by simp) (aN (aP (next _ _ ⟨by simp [g2], by simp [g3], rfl⟩ (by simp [ha]))))
  · rintro t _ ⟨g2, g3, rfl⟩ ha
    refine ak (aj (.inl rfl) ?_)
    simp
    refine aO (hQ _ _ ?_)
    simp [hex])
theorem Ak (s s' : aF) (hs : s.Sm) (h : s.cl = s'.cl) : Km.Pure tab.get KL [.a (s.row.map .f), .a (s'.row.map .f)] = Eq (vb true) := Kf.eq (by
  obtain ⟨h1, h2, h3, h4, h5⟩ : s.meet = s'.meet ∧ s.room = s'.room ∧ s.jJ = s'.jJ ∧ s.size = s'.size ∧ s.st.cl = s'.st.cl := by simpa [aF.cl] using h
  have hst := GY s.st s'.st hs h5
  simp [iy.row] at hst
  refine jD aJI rfl fun H Q hQ => ?_
  refine ak (aj (.inl rfl) ?_)
  simp [aF.row, ← h1, ← h2, ← h3, ← h4]
  refine ak (aj (.inl rfl) ?_)
  simp [hst]
  refine aO (hQ _ _ ?_)
  simp)
theorem PU (s s' : aQ) (hs : s.Sm) (h : s.cl = s'.cl) : Km.Pure tab.get TY [.a (s.row.map .f), .a (s'.row.map .f)] = Eq (vb true) := Kf.eq (by
  obtain ⟨h1, h2, h3, h4⟩ : s.id = s'.id ∧ s.dl = s'.dl ∧ s.state = s'.state ∧ s.stand.cl = s'.stand.cl := by simpa [aQ.cl] using h
  have hst := Ak s.stand s'.stand hs h4
  simp [aF.row] at hst
  refine jD aJJ rfl fun H Q hQ => ?_
  refine ak (aj (.inl rfl) ?_)
  simp [aQ.row, ← h1, ← h2, ← h3]
  refine ak (aj (.inl rfl) ?_)
  simp [hst]
  refine aO (hQ _ _ ?_)
  simp)
theorem GZ (g g' : Tg) (l l' : List aF) (hl : l.length ≤ 1048576) (hs : ∀ s ∈ l, s.Sm) (h : l.map aF.cl = l'.map aF.cl) : Km.Pure tab.get KJ [.c (.f (sl g (aA l))), .c (.f (sl g' (aA l')))] = Eq (vb true) := by
  have hlen := jT h
  refine xH (c := 26) aJH (by simp; omega) (by simp [hlen]) fun j hj t H L g0 g1 g5 hL => ?_
  simp at hj
  have hj' : j < l'.length := by omega
  have l1 := fun H : Heap => fP (H := H) (aY l) (eP hj)
  have l2 := fun H : Heap => fP (H := H) (aY l') (eP hj')
  have hst := Ak l[j] l'[j] (hs _ (List.getElem_mem hj)) (get_map h hj hj')
  simp [g0, g1, g5, dJ, hj, hj', l1, l2, hst]
  exact hL _ (by simp [g0]) (by simp [g1]) (by simp [g5]) (by simp)
theorem same_holds (a a' : HsD) (hl : a.l.length ≤ 1048576) (hs : ∀ s ∈ a.l, s.Sm) (h : a.cl = a'.cl) : Km.Pure tab.get zD [.a (a.row.map .f), .a (a'.row.map .f)] = Eq (vb true) := Kf.eq (by
  obtain ⟨h1, h2, h3⟩ : a.clock = a'.clock ∧ a.bg = a'.bg ∧ a.l.map aQ.cl = a'.l.map aQ.cl := by simpa [HsD.cl] using h
  have hlen := jT h3
  refine jD aJK rfl fun H Q hQ => ?_
  refine ak (aj (.inl rfl) ?_)
  simp [HsD.row, ← h1, ← h2]
  refine ak ?_
  refine ak (aj (.inl rfl) ?_)
  simp [hlen]
  refine aB (by simp) (aN ?_)
  refine ak ?_
  refine ak (aj (.inl rfl) ?_)
  simp
  obtain ⟨H1, hH1⟩ : ∃ H1 : Heap, H1 = H ++ [.box [.f (fi a.clock), .f (fi a.bg), .f (sl a.lg (aJ a.l))] 0, .box [.f (fi a.clock), .f (fi a.bg), .f (sl a'.lg (aJ a'.l))] 0] := ⟨_, rfl⟩
  have z0 : H1[H.length]? = some (.box [.f (fi a.clock), .f (fi a.bg), .f (sl a.lg (aJ a.l))] 0) := by rw [hH1]; simp
  have z1 : H1[H.length + 1]? = some (.box [.f (fi a.clock), .f (fi a.bg), .f (sl a'.lg (aJ a'.l))] 0) := by rw [hH1]; simp
  have hex : ∃ J, H1 = H ++ J := ⟨_, hH1⟩
  rw [← hH1]
  refine iU a.l.length (fun j t H' => t.g 2 = .c (.ptr H.length 0 0) ∧ t.g 3 = .c (.ptr (H.length + 1) 0 0) ∧ H' = H1) (by omega) rfl (by simp) ⟨by simp, by simp, rfl⟩ ?_ ?_ ?_
  · rintro j t _ L hj ⟨g2, g3, rfl⟩ ha hL
    simp [ha, g2, z0]
    exact hL _ ⟨by simp [g2], by simp [g3], rfl⟩ (by simp [ha]) (by simp)
  · rintro j t _ hj ⟨g2, g3, rfl⟩ ha next
    have hj' : j < a'.l.length := by omega
    have l1 := fun H : Heap => fP (H := H) (aZ a.l) (cu hj)
    have l2 := fun H : Heap => fP (H := H) (aZ a'.l) (cu hj')
    have hst := PU a.l[j] a'.l[j] (hs _ (List.getElem_mem hj)) (get_map h3 hj hj')
    refine aS ?_
    refine ak (aj (.inl rfl) ?_)
    simp [ha, g2, g3, z0, z1, dJ, hj, hj', l1, l2, hst]
    exact aB (by simp) (aN (aP (next _ _ ⟨by simp [g2], by simp [g3], rfl⟩ (by simp [ha]))))
  · rintro t _ ⟨g2, g3, rfl⟩ ha
    refine ak (aj (.inl rfl) ?_)
    simp
    refine aO (hQ _ _ ?_)
    simp [hex])
end Go.Proofs.YtcjhnkginmflhaaGreat
end

section
namespace Go.Proofs.YtcjhnkginmflhaaGreat
open Go Km

/-! ### The reference's lists of stands -/
theorem Qa (a b : aF) : Km.Pure tab.get TV [.a (a.row.map .f), .a (b.row.map .f)] = Eq (vb (pO a b)) := Kf.eq (by
  refine jD aJz rfl fun H Q hQ => ?_
  refine ak (aj (.inl rfl) ?_)
  simp [aF.row]
  refine ak (aj (.inl rfl) ?_)
  by_cases k1 : a.meet < b.meet
  · simp [k1]
    refine aO (hQ _ _ ?_)
    simp [pO, k1]
  by_cases k2 : a.meet = b.meet
  · simp [k1, k2]
    refine aO (hQ _ _ ?_)
    simp [pO, k2]
  · simp [k1, k2]
    refine aO (hQ _ _ ?_)
    simp [pO, k1, k2])
theorem JF (g : Tg) (l : List aF) (hl : l.length ≤ 1000) (s : aF) : Km.Pure tab.get F7 [.c (.f (sl g (aA l))), .a (s.row.map .f)] = Eq (vb (l.any fun x => dF x s)) := Kf.eq (by
  refine jD aJC rfl fun H Q hQ => ?_
  refine ak (aj (.inl rfl) ?_)
  simp [aF.row]
  obtain ⟨H1, hH1⟩ : ∃ H1 : Heap, H1 = H ++ [.box [.f (fi s.meet), .f (fi s.room), .f (fi s.jJ), .f (fi s.size), .f (sl s.st.cg (aW s.st.cs)), .f (fi s.st.len), .f (sl s.st.xg (bn s.st.xs))] 0] := ⟨_, rfl⟩
  have z0 : H1[H.length]? = some (.box [.f (fi s.meet), .f (fi s.room), .f (fi s.jJ), .f (fi s.size), .f (sl s.st.cg (aW s.st.cs)), .f (fi s.st.len), .f (sl s.st.xg (bn s.st.xs))] 0) := by rw [hH1]; simp
  have hex : ∃ J, H1 = H ++ J := ⟨_, hH1⟩
  rw [← hH1]
  refine ak ?_
  refine ak (aj (.inl rfl) ?_)
  simp
  refine iU l.length (fun j t H' => t.g 0 = .c (.f (sl g (aA l))) ∧ t.g 3 = .c (.ptr H.length 0 0) ∧ H' = H1 ∧ ∀ (q : Nat) (hq : q < l.length), q < j → dF l[q] s = false) (by omega) rfl (by simp) ⟨by simp, by simp, rfl, by simp⟩ ?_ ?_ ?_
  · rintro j t _ L hj ⟨g0, g3, rfl, hno⟩ ha hL
    simp [ha, g0]
    exact hL _ ⟨by simp [g0], by simp [g3], rfl, hno⟩ (by simp [ha]) (by simp)
  · rintro j t _ hj ⟨g0, g3, rfl, hno⟩ ha next
    have l1 := fun H : Heap => nM (H := H) (aY l) (eP hj) rfl
    have m1 := fun H : Heap => vG (H := H) (k := 1) (aY l) (eP hj) rfl
    try simp at l1 m1
    have nx : dF l[j] s = false → ∀ (q : Nat) (hq : q < l.length), q < j + 1 → dF l[q] s = false := fun hk q hq hqj => by
      by_cases e : q = j
      · subst e; exact hk
      · exact hno q hq (by omega)
    refine aS ?_
    refine ak (aj (.inl rfl) ?_)
    by_cases k1 : l[j].meet = s.meet
    · by_cases k2 : l[j].room = s.room
      · simp [ha, g0, g3, z0, dJ, hj, l1, m1, k1, k2]
        refine aI (by simp) (ak (aj (.inl rfl) ?_))
        simp
        refine aO (hQ _ _ ?_)
        have : (l.any fun x => dF x s) = true := by
          rw [List.any_eq_true]; exact ⟨l[j], List.getElem_mem hj, AP.2 ⟨k1, k2⟩⟩
        simp [this, hex]
      · simp [ha, g0, g3, z0, dJ, hj, l1, m1, k1, k2]
        refine aB (by simp) (aN (aP (next _ _ ⟨by simp [g0], by simp [g3], rfl, nx ?_⟩ (by simp [ha]))))
        simp [dF, k2]
    · simp [ha, g0, g3, z0, dJ, hj, l1, m1, k1]
      refine aB (by simp) (aN (aP (next _ _ ⟨by simp [g0], by simp [g3], rfl, nx ?_⟩ (by simp [ha]))))
      simp [dF, k1]
  · rintro t _ ⟨g0, g3, rfl, hno⟩ ha
    refine ak (aj (.inl rfl) ?_)
    simp
    refine aO (hQ _ _ ?_)
    have : (l.any fun x => dF x s) = false := by
      rw [List.any_eq_false]
      intro x hx
      obtain ⟨q, hq, rfl⟩ := List.getElem_of_mem hx
      simp [hno q hq hq]
    simp [this, hex])
end Go.Proofs.YtcjhnkginmflhaaGreat
end

section
namespace Go.Proofs.YtcjhnkginmflhaaGreat
open Go Km

theorem JW {s : aF} : ∀ {l : List aF} {i : Nat}, i ≤ l.length → (∀ q (hq : q < l.length), q < i → pO s l[q] = false) → (∀ h : i < l.length, pO s l[i] = true) → pX s l = l.take i ++ [s] ++ l.drop i
  | [], i, hi, _, _ => by
    have : i = 0 := by simpa using hi
    subst this; rfl
  | x :: r, 0, _, _, h => by
    have := h (by simp)
    simp only [List.getElem_cons_zero] at this
    simp [pX, this]
  | x :: r, i + 1, hi, h0, h => by
    have h1 := h0 0 (by simp) (by omega)
    simp only [List.getElem_cons_zero] at h1
    have ih := JW (s := s) (l := r) (i := i) (by simpa using hi) (fun q hq hqi => by have := h0 (q + 1) (by simpa using hq) (by omega); simpa using this) (fun hl => by have := h (by simpa using hl); simpa using this)
    simp [pX, h1, ih]
theorem yP (s : aF) (l : List aF) : (pX s l).length = l.length + 1 := by simpa using (oD s l).length_eq

theorem tH (g : Tg) (l : List aF) (hl : l.length ≤ 1000) (s : aF) : ∃ g', Km.Pure tab.get zC [.c (.f (sl g (aA l))), .a (s.row.map .f)] = Eq (.c (.f (sl g' (aA (pX s l))))) := by
  obtain ⟨r, ⟨g', rfl⟩, hp⟩ : ∃ r, (∃ g', r = .c (.f (sl g' (aA (pX s l))))) ∧ Km.Pure tab.get zC [.c (.f (sl g (aA l))), .a (s.row.map .f)] r := by
    refine jU aJA rfl fun Q hQ => ?_
    refine ak (aj (.inl rfl) ?_)
    simp [aF.row]
    have hsr : s.row.map C.f = [.f (fi s.meet), .f (fi s.room), .f (fi s.jJ), .f (fi s.size), .f (sl s.st.cg (aW s.st.cs)), .f (fi s.st.len), .f (sl s.st.xg (bn s.st.xs))] := rfl
    rw [← hsr]
    refine ak (aj (.inl rfl) ?_)
    simp
    refine ak (aj (.inl rfl) ?_)
    simp
    refine ak ?_
    refine aS ?_
    refine iT (fun m st => ∃ (i : Nat) (t : T) (H2 : Heap) (c : C), st = ⟨t, [], H2⟩ ∧ m = l.length - i ∧ i ≤ l.length ∧ t.g 0 = .c (.f (sl g (aA l))) ∧ t.g 3 = .c (.ptr 0 0 0) ∧ t.g 5 = .c c ∧ t.g 6 = vi i ∧ H2[0]? = some (.box (s.row.map .f) 0) ∧ LR H2 c 7 (aA (l.take i)) ∧ bI c ≠ some 0 ∧ (∀ q (hq : q < l.length), q < i → pO s l[q] = false)) l.length
      ⟨0, _, _, .f .au, rfl, by omega, by omega, by simp, by simp, by simp, by simp, rfl, LR.nil _ _, by simp [bI], by simp⟩ ?_
    rintro m st ⟨i, t, H2, c, rfl, rfl, hi, g0, g3, g5, g6, z0, hL, hb, hno⟩ ih
    have hbox : ldV H2 (some 7) (.c (.ptr 0 0 0)) = some (.a (s.row.map .f)) := by simp [z0, bC, aF.row]
    -- the end
    have fin : (∀ h : i < l.length, pO s l[i] = true) → ∀ t : T, t.g 0 = .c (.f (sl g (aA l))) → t.g 3 = .c (.ptr 0 0 0) → t.g 5 = .c c → t.g 6 = vi i → WP tab.get zC none [.code uX] ⟨t, [], H2⟩ Q := by
      intro hlt t g0 g3 g5 g6
      obtain ⟨H3, hH3⟩ : ∃ H3 : Heap, H3 = H2 ++ [.box (s.row.map .f) 0] := ⟨_, rfl⟩
      have hL3 : LR H3 c 7 (aA (l.take i)) := by rw [hH3]; exact hL.push _
      obtain ⟨c4, H4, happ, hL4, hK4, hb4⟩ := hL3.app (aY _) (by decide) (row := s.row) rfl (bytes := 88) (ig (by simp; omega) (by decide)) (b1 := H2.length) (fl1 := 0) (by rw [hH3]; simp)
      have e4 : aA (l.take i) ++ [s.row] = aA (l.take i ++ [s]) := by simp [aA]
      rw [e4] at hL4
      obtain ⟨g1, hsl⟩ := aoD (H := H4) (g := g) (k := i) (aY l) (by simpa using hi) (by simp; omega)
      have e5 : (aA l).drop i = aA (l.drop i) := by simp [aA]
      rw [e5] at hsl
      obtain ⟨c5, H5, aHH, hL5, hK5, hb5⟩ := hL4.aH2 (aY _) (by decide) (aY (l.drop i)) (bytes := 88) (ig (by simp; omega) (by decide)) g1
      have e6 : aA (l.take i ++ [s]) ++ aA (l.drop i) = aA (pX s l) := by rw [JW hi hno hlt]; simp [aA]
      rw [e6] at hL5
      obtain ⟨g', hg'⟩ := hL5.ex (aY _) 63
      refine ak (aj (.inl rfl) ?_)
      have hrow : s.row.map C.f = [.f (fi s.meet), .f (fi s.room), .f (fi s.jJ), .f (fi s.size), .f (sl s.st.cg (aW s.st.cs)), .f (fi s.st.len), .f (sl s.st.xg (bn s.st.xs))] := rfl
      have hrl : (s.row.map C.f).length = 7 := rfl
      simp [g5, g3, hbox, -aU, hrl]
      rw [← hH3]
      simp [happ]
      refine ak (aj (.inl rfl) ?_)
      simp [g0, g6, hsl, aHH]
      refine aO (hQ _ _ (.c (.f (sl g' (aA (pX s l))))) ⟨g', rfl⟩ ?_)
      simp [exV, dD, deep, hg']
    refine ak ?_
    refine ak (aj (.inl rfl) ?_)
    by_cases hil : i < l.length
    case neg =>
      simp [g0, g6, show ¬ (i : Int) < (l.length : Int) by omega]
      refine aB (by simp) ?_
      refine dN (k' := [.code uX]) rfl ?_
      exact fin (fun h => absurd h hil) _ (by simp [g0]) (by simp [g3]) (by simp [g5]) (by simp [g6])
    have hidx := dJ (H := H2) (g := g) (rows := aA l) (sz := 7) (k := .i64) (i := (i : Int)) (by omega) (by simp; omega)
    have hld := fP (H := H2) (aY l) (eP hil)
    rw [Int.toNat_natCast] at hidx
    have hless := Qa s l[i]
    cases hk : pO s l[i]
    case true =>
      rw [hk] at hless
      simp [g0, g3, g6, hil, hbox, hidx, hld, hless, -aU]
      refine aB (by simp) ?_
      refine dN (k' := [.code uX]) rfl ?_
      exact fin (fun _ => hk) _ (by simp [g0]) (by simp [g3]) (by simp [g5]) (by simp [g6])
    case false =>
      rw [hk] at hless
      simp [g0, g3, g6, hil, hbox, hidx, hld, hless, -aU]
      refine aI (by simp) (aN ?_)
      obtain ⟨H3, hH3⟩ : ∃ H3 : Heap, H3 = H2 ++ [.box (l[i].row.map .f) 0] := ⟨_, rfl⟩
      have hL3 : LR H3 c 7 (aA (l.take i)) := by rw [hH3]; exact hL.push _
      have z3 : H3[0]? = some (.box (s.row.map .f) 0) := by rw [hH3, List.getElem?_append_left (aT z0)]; exact z0
      obtain ⟨c4, H4, happ, hL4, hK4, hb4⟩ := hL3.app (aY _) (by decide) (row := l[i].row) rfl (bytes := 88) (ig (by simp; omega) (by decide)) (b1 := H2.length) (fl1 := 0) (by rw [hH3]; simp)
      have e4 : aA (l.take i) ++ [l[i].row] = aA (l.take (i + 1)) := by
        rw [List.take_succ_eq_append_getElem hil]; simp only [aA, List.map_append, List.map_cons, List.map_nil]
      rw [e4] at hL4
      have hrl : (l[i].row.map C.f).length = 7 := rfl
      refine aS ?_
      refine ak (aj (.inl rfl) ?_)
      simp [g0, g5, g6, hidx, hld, hrl]
      rw [← hH3]
      simp [happ]
      refine aj (.inl rfl) ?_
      simp [g6, wrap64 (n := (i : Int) + 1) (by omega) (by omega)]
      refine aP (ih (l.length - (i + 1)) _ (by omega) ⟨i + 1, _, H4, c4, rfl, rfl, by omega, by simp [g0], by simp [g3], by simp, by simp, hK4.2 0 _ z3 hb, hL4, ?_, fun q hq hqi => ?_⟩)
      · rcases hb4 with e | e
        · rw [e]; exact hb
        · rw [e]; have := aT z3; simp; intro q; rw [q] at this; simp at this
      · by_cases e : q = i
        · subst e; exact hk
        · exact hno q hq (by omega)
  exact ⟨g', hp.eq⟩
end Go.Proofs.YtcjhnkginmflhaaGreat
end

section
namespace Go.Proofs.YtcjhnkginmflhaaGreat
open Go Km

theorem qR : ∀ (l : List aQ) (acc : List aF), (iO acc l).length ≤ acc.length + l.length
  | [], acc => by simp [iO]
  | x :: r, acc => by
    simp only [iO]
    split
    · have := qR r (pX x.stand acc); rw [yP] at this; simp; omega
    · have := qR r acc; simp; omega
theorem Ee (h : HsD) (hl : h.l.length ≤ 30) : ∃ g, Km.Pure tab.get wV [.a (h.row.map .f)] = Eq (.c (.f (sl g (aA (if dh h then iO [] h.l else []))))) := by
  obtain ⟨r, ⟨g', rfl⟩, hp⟩ : ∃ r, (∃ g', r = .c (.f (sl g' (aA (if dh h then iO [] h.l else []))))) ∧ Km.Pure tab.get wV [.a (h.row.map .f)] r := by
    refine jU aJN rfl fun Q hQ => ?_
    have hv := oq h hl
    simp [HsD.row] at hv
    refine ak (aj (.inl rfl) ?_)
    simp [HsD.row]
    refine ak (aj (.inl rfl) ?_)
    simp
    refine ak ?_
    refine ak (aj (.inl rfl) ?_)
    simp [hv]
    cases hB : dh h
    case false =>
      refine aI (by simp) (ak (aj (.inl rfl) ?_))
      simp
      refine aO (hQ _ _ (.c (.f (sl .nil (aA [])))) ⟨.nil, by simp [hB]⟩ ?_)
      simp [aA, sl, Tg.fc]
    refine aB (by simp) (aN ?_)
    refine ak ?_
    refine ak (aj (.inl rfl) ?_)
    simp
    refine iU h.l.length (fun j t H => t.g 1 = .c (.ptr 0 0 0) ∧ H[0]? = some (.box [.f (fi h.clock), .f (fi h.bg), .f (sl h.lg (aJ h.l))] 0) ∧ ∃ g acc, t.g 3 = .c (.f (sl g (aA acc))) ∧ acc.length ≤ j ∧ iO acc (h.l.drop j) = iO [] h.l) (by omega) rfl (by simp)
      ⟨by simp, rfl, .nil, [], by simp [aA, sl, Tg.fc], by simp, by simp⟩ ?_ ?_ ?_
    · rintro j t H L hj ⟨g1, h0, hL⟩ ha hk
      simp [ha, g1, h0]
      exact hk _ ⟨by simp [g1], h0, by simpa using hL⟩ (by simp [ha]) (by simp)
    · rintro j t H hj ⟨g1, h0, g, acc, g3, hacc, hR⟩ ha next
      have hld := fun H : Heap => fP (H := H) (aZ h.l) (cu hj)
      simp only [aQ.row] at hld
      have hd : h.l.drop j = h.l[j] :: h.l.drop (j + 1) := List.drop_eq_getElem_cons hj
      rw [hd] at hR
      obtain ⟨x, hx⟩ : ∃ x, x = h.l[j] := ⟨_, rfl⟩
      rw [← hx] at hR hld
      refine aS ?_
      refine ak (aj (.inl rfl) ?_)
      simp [ha, g1, h0, dJ, hj, hld]
      obtain ⟨ROW, hROW⟩ : ∃ r, r = [C.f (fi x.id), C.f (fi x.dl), C.f (fi x.state), C.f (fi x.stand.meet), C.f (fi x.stand.room), C.f (fi x.stand.jJ), C.f (fi x.stand.size), C.f (sl x.stand.st.cg (aW x.stand.st.cs)), C.f (fi x.stand.st.len), C.f (sl x.stand.st.xg (bn x.stand.st.xs))] := ⟨_, rfl⟩
      rw [← hROW]
      obtain ⟨Hn, hHn⟩ : ∃ Hn : Heap, Hn = H ++ [.box ROW 0] := ⟨_, rfl⟩
      have n0 : Hn[0]? = some (.box [.f (fi h.clock), .f (fi h.bg), .f (sl h.lg (aJ h.l))] 0) := by rw [hHn, List.getElem?_append_left (aT h0)]; exact h0
      have nr : Hn[H.length]? = some (.box ROW 0) := by rw [hHn]; simp
      rw [← hHn]
      have l2 : ldV Hn none (.c (.ptr H.length 2 0)) = some (vi x.state) := by simp [nr, hROW, bC]
      have l3 : ldV Hn (some 7) (.c (.ptr H.length 3 0)) = some (.a (x.stand.row.map .f)) := by simp [nr, hROW, bC, aF.row]
      obtain ⟨gi, hins⟩ := tH g acc (by omega) x.stand
      have hhas := JF g acc (by omega) x.stand
      have no : (pK x && !(acc.any fun y => dF y x.stand)) = false → ∀ t' : T, t'.g 1 = .c (.ptr 0 0 0) → t'.g 4 = vi j → t'.g 3 = .c (.f (sl g (aA acc))) → t'.g 36 = vb false →
          WP tab.get wV none [.code zM, .inBlock 1, .code zL, .inLoop zN, .inBlock 0, .code zK] ⟨t', [], Hn⟩ Q := by
        intro hc t' g1 g4 g3 g36
        rw [iO, hc] at hR
        simp at hR
        exact aB (by simp [g36]) (aN (aP (next _ _ ⟨by simp [g1], n0, g, acc, by simp [g3], by omega, hR⟩ (by simp [g4]))))
      have yes : (pK x && !(acc.any fun y => dF y x.stand)) = true → ∀ t' : T, t'.g 1 = .c (.ptr 0 0 0) → t'.g 4 = vi j → t'.g 3 = .c (.f (sl g (aA acc))) → t'.g 5 = .c (.ptr H.length 0 0) → t'.g 36 = vb true →
          WP tab.get wV none [.code zM, .inBlock 1, .code zL, .inLoop zN, .inBlock 0, .code zK] ⟨t', [], Hn⟩ Q := by
        intro hc t' g1 g4 g3 g5 g36
        rw [iO, hc] at hR
        simp at hR
        refine aI (by simp [g36]) ?_
        refine aj (.inl rfl) ?_
        simp [g3, g5, l3, hins, -aU]
        exact aP (next _ _ ⟨by simp [g1], n0, gi, pX x.stand acc, by simp, by rw [yP]; omega, hR⟩ (by simp [g4]))
      refine ak ?_
      refine aj (.inl rfl) ?_
      by_cases s1 : x.state = 1
      · cases hany : acc.any fun y => dF y x.stand
        · rw [hany] at hhas
          simp [l2, l3, s1, g3, hhas, -aU]
          exact yes (by simp [pK, s1, hany]) _ (by simp [g1]) (by simp [ha]) (by simp [g3]) (by simp) (by simp)
        · rw [hany] at hhas
          simp [l2, l3, s1, g3, hhas, -aU]
          exact no (by simp [hany]) _ (by simp [g1]) (by simp [ha]) (by simp [g3]) (by simp)
      by_cases s2 : x.state = 2
      · cases hany : acc.any fun y => dF y x.stand
        · rw [hany] at hhas
          simp [l2, l3, s2, g3, hhas, -aU]
          exact yes (by simp [pK, s2, hany]) _ (by simp [g1]) (by simp [ha]) (by simp [g3]) (by simp) (by simp)
        · rw [hany] at hhas
          simp [l2, l3, s2, g3, hhas, -aU]
          exact no (by simp [hany]) _ (by simp [g1]) (by simp [ha]) (by simp [g3]) (by simp)
      · simp [l2, l3, s1, s2, -aU]
        exact no (by simp [pK, s1, s2]) _ (by simp [g1]) (by simp [ha]) (by simp [g3]) (by simp)
    · rintro t H ⟨g1, h0, g, acc, g3, hacc, hR⟩ ha
      refine ak (aj (.inl rfl) ?_)
      simp [g3]
      rw [List.drop_of_length_le (Nat.le_refl _), iO] at hR
      refine aO (hQ _ _ (.c (.f (sl g (aA acc)))) ⟨g, by simp [hB, hR]⟩ ?_)
      simp
  exact ⟨g', hp.eq⟩
end Go.Proofs.YtcjhnkginmflhaaGreat
end

section
namespace Go.Proofs.YtcjhnkginmflhaaGreat
open Go Km

/-! ### Changes of a copy -/
def dO : HsD := ⟨0, 0, .nil, []⟩
/-- What a change does to the holds in a box: it answers 'e', and leaves 'res' there. -/
def Chg (F : Nat) (caps : List FC) (h : HsD) (e : Int) (res : HsD) : Prop :=
  ∀ (H : Heap) (p : Nat) (c : C) (l' : List aQ), H[p]? = some (.box [.f (fi h.clock), .f (fi h.bg), c] 0) → LR H c 10 (aJ l') → l'.map aQ.cl = h.l.map aQ.cl → bI c ≠ some p →
    ∃ r H', Ev tab.get (.fn F) (.c (.ptr p 0 0) :: caps.map fun x => .c (.f x)) H r H' ∧ r = vi e ∧ H.length ≤ H'.length ∧ (∀ i y, H[i]? = some y → i ≠ p → bI c ≠ some i → H'[i]? = some y) ∧
      (e = 0 → ∃ l2, H'[p]? = some (.box [.f (fi res.clock), .f (fi res.bg), c] 0) ∧ LR H' c 10 (aJ l2) ∧ l2.map aQ.cl = res.l.map aQ.cl)

theorem Bh (h : HsD) (hl : h.l.length ≤ 30) (hs : ∀ x ∈ h.l, x.Sm) {F : Nat} {caps : List FC} {e : Int} {res : HsD} (hF : Chg F caps h e res) :
    ∃ rr : HsD, rr.cl = (if e = 0 then res.cl else dO) ∧ Km.Pure tab.get Gl [.a (h.row.map .f), .c (.f (.fn F caps)), vi 0] = Eq (.t [.a (rr.row.map .f), vi e]) := by
  obtain ⟨r, ⟨rr, hrr, rfl⟩, hp⟩ : ∃ r, (∃ rr : HsD, rr.cl = (if e = 0 then res.cl else dO) ∧ r = .t [.a (rr.row.map .f), vi e]) ∧ Km.Pure tab.get Gl [.a (h.row.map .f), .c (.f (.fn F caps)), vi 0] r := by
    refine jU aKf rfl fun Q hQ => ?_
    refine ak (aj (.inl rfl) ?_)
    simp [HsD.row]
    obtain ⟨H0, hH0⟩ : ∃ H0 : Heap, H0 = [.box [.f (fi h.clock), .f (fi h.bg), .f (sl h.lg (aJ h.l))] 0, .box [.f (fi 0), .f (fi 0), .f .au] 0] := ⟨_, rfl⟩
    obtain ⟨r, H1, he, c, l', rfl, hk, hL, hcl, hc⟩ := NG h hl hs H0
    have he := he.eq
    simp [HsD.row] at he
    have z0 : H0[0]? = some (.box [.f (fi h.clock), .f (fi h.bg), .f (sl h.lg (aJ h.l))] 0) := by rw [hH0]; rfl
    have z1 : H0[1]? = some (.box [.f (fi 0), .f (fi 0), .f .au] 0) := by rw [hH0]; rfl
    have zl : H0.length = 2 := by rw [hH0]; rfl
    have k1 : H1[1]? = some (.box [.f (fi 0), .f (fi 0), .f .au] 0) := by rw [hk.2 1 (by omega)]; exact z1
    rw [← hH0]
    refine ak (aj (.inl rfl) ?_)
    simp [z0, he]
    obtain ⟨H2, hH2⟩ : ∃ H2 : Heap, H2 = H1 ++ [.box [.f (fi h.clock), .f (fi h.bg), c] 0] := ⟨_, rfl⟩
    have m1 : H2[1]? = some (.box [.f (fi 0), .f (fi 0), .f .au] 0) := by rw [hH2, List.getElem?_append_left (aT k1)]; exact k1
    have m2 : H2[H1.length]? = some (.box [.f (fi h.clock), .f (fi h.bg), c] 0) := by rw [hH2]; simp
    have hL2 : LR H2 c 10 (aJ l') := by rw [hH2]; exact hL.push _
    have hcb : bI c ≠ some H1.length := fun e => by have := hL.lt e; omega
    have h1l := hk.1
    rw [← hH2]
    obtain ⟨r, H3, he3, rfl, hlen3, hkeep, hres⟩ := hF H2 H1.length c l' m2 hL2 hcl hcb
    have he3 := he3.eq
    have hc1 : bI c ≠ some 1 := fun e => by have := hc 1 e; omega
    have n1 : H3[1]? = some (.box [.f (fi 0), .f (fi 0), .f .au] 0) := hkeep 1 _ m1 (by omega) hc1
    refine ak ?_
    refine ak (aj (.inl rfl) ?_)
    simp [dU, he3]
    refine ak ?_
    refine aj (.inl rfl) ?_
    simp
    by_cases he0 : e = 0
    case neg =>
      refine aI (by simp [he0]) ?_
      refine ak (aj (.inl rfl) ?_)
      simp [n1]
      refine aO (hQ _ _ (.t [.a (dO.row.map .f), vi e]) ⟨dO, by simp [he0, dO, HsD.cl], rfl⟩ ?_)
      simp [Km.results, bG, aT n1, exV, dD, deep, dO, HsD.row, sl, Tg.fc, aJ]
    subst he0
    obtain ⟨l2, q1, hL3, aNB⟩ := hres rfl
    obtain ⟨g, hg⟩ := hL3.exU (aZ _)
    refine aB (by simp) (aN ?_)
    refine ak (aj (.inl rfl) ?_)
    simp [n1, q1]
    have hg' := hg (H3.set 1 (.box [.f (fi res.clock), .f (fi res.bg), c] 0)) 63 (fun i y hy hi => by
      have : (1 : Nat) ≠ i := by rintro rfl; exact hc1 hi
      rw [List.getElem?_set_ne this]; exact hy)
    refine aO (hQ _ _ (.t [.a ((⟨res.clock, res.bg, g, l2⟩ : HsD).row.map .f), vi 0]) ⟨⟨res.clock, res.bg, g, l2⟩, by simp [HsD.cl, aNB], rfl⟩ ?_)
    simp [Km.results, bG, aT n1, exV, dD, deep, HsD.row, hg']
  exact ⟨rr, hrr, hp.eq⟩
end Go.Proofs.YtcjhnkginmflhaaGreat
end

section
namespace Go.Proofs.YtcjhnkginmflhaaGreat
open Go Km

/-! ### Tick -/
def fU (clk : Int) (x : aQ) : aQ := if x.state = 1 ∧ x.dl < clk then { x with state := 4 } else x
def gZ (clk : Int) (j : Nat) (l : List aQ) : List aQ := (l.take j).map (fU clk) ++ l.drop j
theorem OO (clk : Int) (x : aQ) : (fU clk x).cl = fU clk x.cl := by
  unfold fU aQ.cl
  split <;> rfl
theorem amq {clk : Int} {l l' : List aQ} (h : l'.map aQ.cl = l.map aQ.cl) : (l'.map (fU clk)).map aQ.cl = (l.map (fU clk)).map aQ.cl := by
  have e : ∀ l : List aQ, (l.map (fU clk)).map aQ.cl = (l.map aQ.cl).map (fU clk) := fun l => by
    rw [List.map_map, List.map_map]
    exact List.map_congr_left fun x _ => OO clk x
  rw [e, e, h]
theorem kY {clk : Int} {j : Nat} {l : List aQ} : (gZ clk j l).length = l.length := by
  simp [gZ]; omega
theorem Ai {clk : Int} {j : Nat} {l : List aQ} (hj : j < l.length) : (gZ clk j l)[j]? = some l[j] := by
  unfold gZ
  rw [List.getElem?_append_right (by simp; omega)]
  simp [show min j l.length = j by omega, hj]
theorem wF {clk : Int} {j : Nat} {l : List aQ} (hj : j < l.length) : gZ clk (j + 1) l = (gZ clk j l).set j (fU clk l[j]) := by
  unfold gZ
  have h1 : ((l.take j).map (fU clk)).length = j := by simp; omega
  rw [List.set_append_right _ _ (by omega), h1, Nat.sub_self, List.drop_eq_getElem_cons hj, List.take_succ_eq_append_getElem hj]
  simp only [List.map_append, List.map_cons, List.map_nil, List.append_assoc, List.cons_append, List.nil_append, List.set_cons_zero]
theorem GU {clk : Int} {l : List aQ} : gZ clk l.length l = l.map (fU clk) := by simp [gZ]
def iD (h : HsD) (clk : Int) : Int := if dh h = false ∨ clk < h.clock ∨ 2251799813685248 < clk then 1 else 0

theorem OL (h : HsD) (hl : h.l.length ≤ 30) (clk : Int) : Chg zF [.fp [fi h.clock, fi h.bg, sl h.lg (aJ h.l)] 0, .fp [fi clk] 0] h (iD h clk) ⟨clk, h.bg, .nil, h.l.map (fU clk)⟩ := by
  intro H p c l' hp hL hcl hcp
  have hlen := jT hcl
  have hv := qg h hl
  simp [HsD.row] at hv
  have e1 : ∀ H : Heap, ldV H (some 3) (.c (.f (.fp [fi h.clock, fi h.bg, sl h.lg (aJ h.l)] 0))) = some (.a [.f (fi h.clock), .f (fi h.bg), .f (sl h.lg (aJ h.l))]) := fun _ => rfl
  have e2 : ∀ H : Heap, ldV H none (.c (.f (.fp [fi h.clock, fi h.bg, sl h.lg (aJ h.l)] 0))) = some (vi h.clock) := fun _ => rfl
  have e3 : ∀ H : Heap, ldV H none (.c (.f (.fp [fi clk] 0))) = some (vi clk) := fun _ => rfl
  refine jo (C := fun r H' => r = vi (iD h clk) ∧ H.length ≤ H'.length ∧ (∀ i y, H[i]? = some y → i ≠ p → bI c ≠ some i → H'[i]? = some y) ∧
      (iD h clk = 0 → ∃ l2, H'[p]? = some (.box [.f (fi clk), .f (fi h.bg), c] 0) ∧ LR H' c 10 (aJ l2) ∧ l2.map aQ.cl = (h.l.map (fU clk)).map aQ.cl)) aKh rfl fun Q hQ => ?_
  have bad : iD h clk = 1 → ∀ t : T, t.g 19 = vb true → WP tab.get zF none [.code Lu, .code Ls] ⟨t, [], H⟩ Q := by
    intro he t g
    refine aI (by simp [g]) (ak (aj (.inl rfl) ?_))
    simp
    exact aO (hQ _ _ (vi 1) rfl (by simp [Km.results, bG]) ⟨by rw [he], Nat.le_refl _, fun i y hy _ _ => hy, fun e => by rw [he] at e; cases e⟩)
  refine ak (aj (.inl rfl) ?_)
  simp
  refine ak ?_
  refine ak ?_
  refine aj (.inl rfl) ?_
  simp [e1, hv]
  cases hB : dh h
  case false =>
    simp
    exact bad (by simp [iD, hB]) _ (by simp)
  by_cases k1 : clk < h.clock
  · simp [e2, e3, k1]
    exact bad (by simp [iD, k1]) _ (by simp)
  by_cases k2 : 2251799813685248 < clk
  · simp [e2, e3, k1, k2]
    exact bad (by simp [iD, k2]) _ (by simp)
  simp [e2, e3, k1, k2]
  have he : iD h clk = 0 := by simp [iD, hB, k1, k2]
  refine aB (by simp) (aN ?_)
  obtain ⟨H1, hH1⟩ : ∃ H1 : Heap, H1 = H.set p (.box [.f (fi clk), .f (fi h.bg), c] 0) := ⟨_, rfl⟩
  have z1 : H1[p]? = some (.box [.f (fi clk), .f (fi h.bg), c] 0) := by rw [hH1]; exact List.getElem?_set_self (aT hp)
  have hL1 : LR H1 c 10 (aJ l') := by rw [hH1]; exact hL.set hcp _
  have hlen1 : H1.length = H.length := by rw [hH1]; simp
  have hk1 : ∀ i y, H[i]? = some y → i ≠ p → bI c ≠ some i → H1[i]? = some y := fun i y hy hi _ => by rw [hH1, List.getElem?_set_ne (Ne.symm hi)]; exact hy
  refine ak (aj (.inl rfl) ?_)
  simp [e3, hp]
  rw [← hH1]
  refine ak ?_
  have hll := hL1.len
  simp at hll
  refine ak (aj (.inl rfl) ?_)
  simp [z1, hll]
  refine jh l'.length (fun j t H2 => t.g 0 = .c (.ptr p 0 0) ∧ t.g 2 = .c (.f (.fp [fi clk] 0)) ∧ H2[p]? = some (.box [.f (fi clk), .f (fi h.bg), c] 0) ∧ LR H2 c 10 (aJ (gZ clk j l')) ∧ H.length ≤ H2.length ∧ (∀ i y, H[i]? = some y → i ≠ p → bI c ≠ some i → H2[i]? = some y)) (by omega) (by decide) (by decide) (by simp) (by simp)
    ⟨by simp, by simp, z1, by simpa [gZ] using hL1, by omega, hk1⟩ ?_ ?_
  · rintro j t H2 hj ⟨g0, g2, z2, hL2, hl2, hk2⟩ ha hb next
    rcases hL2 with ⟨he0, _⟩ | ⟨hne, B, ep, rfl, hB⟩
    · have : (gZ clk j l').length = 0 := by have := congrArg List.length he0; simpa [aJ] using this
      rw [kY] at this; omega
    obtain ⟨x, hx⟩ : ∃ x, x = l'[j] := ⟨_, rfl⟩
    have hrl : (aJ (gZ clk j l')).length = l'.length := by simp [kY]
    have hat : (aJ (gZ clk j l'))[j]? = some x.row := by rw [hx]; simp [aJ, Ai hj]
    have hidx := hB.at (show j < (aJ (gZ clk j l')).length by omega)
    have hst := hB.ldc (k := 2) (x := fi x.state) (aZ _) hat rfl
    have hdl := hB.ldc (k := 1) (x := fi x.dl) (aZ _) hat rfl
    obtain ⟨H4, E5, hB4, hf4, hl4⟩ := hB.stp (k := 2) (xs := [fi 4]) (aZ _) hat (by decide)
    have hov : over x.row 2 [fi 4] = (aQ.row { x with state := 4 }) := rfl
    rw [hov, kR] at hB4
    have hBp : B ≠ p := fun e => hcp (by rw [e]; rfl)
    have hbx : ldV H2 none (.c (.ptr p 2 0)) = some (.c (.sl B 0 l'.length 0 ep 10)) := by simp [z2, bC, hrl]
    have c1 : ({ x with state := 4 } : aQ) = fU clk x ∨ True := .inr trivial
    simp only [hrl] at *
    refine aS ?_
    refine ak (aj (.inl rfl) ?_)
    simp [ha]
    refine ak (aj (.inl rfl) ?_)
    simp [g0, hbx, hidx, -aU]
    have no : fU clk x = x → ∀ t' : T, t'.g 0 = .c (.ptr p 0 0) → t'.g 2 = .c (.f (.fp [fi clk] 0)) → t'.g 29 = vi j → t'.g 28 = t.g 28 → t'.g 50 = vb false →
        WP tab.get zF none [.code zT, .inBlock 1, .code zS, .inLoop zU, .inBlock 0, .code zQ] ⟨t', [], H2⟩ Q := by
      intro hx1 t' g0 g2 g29 g28 g50
      have hto : gZ clk (j + 1) l' = gZ clk j l' := by
        rw [wF hj, ← hx, hx1]
        obtain ⟨hlt, hge⟩ := List.getElem?_eq_some_iff.1 (Ai (clk := clk) hj)
        rw [← hx] at hge
        conv => lhs; rw [← hge]
        exact List.set_getElem_self hlt
      refine aB (by simp [g50]) (aN (aP (next _ _ ⟨by simp [g0], by simp [g2], z2, ?_, hl2, hk2⟩ (by simp [g29]) (by simp [g28, hb]))))
      rw [hto]
      exact .inr ⟨hne, B, ep, by simp [kY], hB⟩
    have yes : x.state = 1 → x.dl < clk → ∀ t' : T, t'.g 0 = .c (.ptr p 0 0) → t'.g 2 = .c (.f (.fp [fi clk] 0)) → t'.g 29 = vi j → t'.g 28 = t.g 28 → t'.g 6 = .c (.ptr B (j * 10) ep) → t'.g 50 = vb true →
        WP tab.get zF none [.code zT, .inBlock 1, .code zS, .inLoop zU, .inBlock 0, .code zQ] ⟨t', [], H2⟩ Q := by
      intro s1 d1 t' g0 g2 g29 g28 g6 g50
      have hx1 : fU clk x = { x with state := 4 } := if_pos ⟨s1, d1⟩
      have hto : gZ clk (j + 1) l' = (gZ clk j l').set j { x with state := 4 } := by rw [wF hj, ← hx, hx1]
      refine aI (by simp [g50]) ?_
      refine aj (.inl rfl) ?_
      simp only [List.map_cons, List.map_nil] at E5
      simp [g6, E5, -dY]
      refine aP (next _ _ ⟨by simp [g0], by simp [g2], hf4.get z2 (Ne.symm hBp), ?_, by omega, fun i y hy hi hci => hf4.get (hk2 i y hy hi hci) (fun e => hci (by rw [e]; rfl))⟩ (by simp [g29]) (by simp [g28, hb]))
      rw [hto]
      refine .inr ⟨fun e => ?_, B, ep, by simp [kY], hB4⟩
      have := congrArg List.length e
      simp [kY] at this
      rw [this] at hj; simp at hj
    refine ak ?_
    refine aj (.inl rfl) ?_
    by_cases s1 : x.state = 1
    · by_cases d1 : x.dl < clk
      · simp [hst, hdl, s1, d1, g2, e3, -aU]
        exact yes s1 d1 _ (by simp [g0]) (by simp [g2]) (by simp [ha]) (by simp) (by simp) (by simp)
      · simp [hst, hdl, s1, d1, g2, e3, -aU]
        exact no (if_neg fun e => d1 e.2) _ (by simp [g0]) (by simp [g2]) (by simp [ha]) (by simp) (by simp)
    · simp [hst, s1, -aU]
      exact no (if_neg fun e => s1 e.1) _ (by simp [g0]) (by simp [g2]) (by simp [ha]) (by simp) (by simp)
  · rintro t H2 ⟨g0, g2, z2, hL2, hl2, hk2⟩ - -
    refine ak (aj (.inl rfl) ?_)
    simp
    rw [GU] at hL2
    exact aO (hQ _ _ (vi 0) rfl (by simp [Km.results, bG]) ⟨by rw [he], hl2, hk2, fun _ => ⟨_, z2, hL2, amq hcl⟩⟩)
end Go.Proofs.YtcjhnkginmflhaaGreat
end

section
namespace Go.Proofs.YtcjhnkginmflhaaGreat
open Go Km

theorem amo (h : HsD) (hl : h.l.length ≤ 30) (hs : ∀ x ∈ h.l, x.Sm) (clk : Int) : ∃ rr : HsD, rr.cl = (if iD h clk = 0 then HsD.cl ⟨clk, h.bg, .nil, h.l.map (fU clk)⟩ else dO) ∧
    Km.Pure tab.get Um [.a (h.row.map .f), vi clk] = Eq (.t [.a (rr.row.map .f), vi (iD h clk)]) := by
  obtain ⟨rr, hrr, hch⟩ := Bh h hl hs (OL h hl clk)
  refine ⟨rr, hrr, Km.Pure.eq ?_⟩
  refine dM aKi rfl fun Q hQ => ?_
  simp [HsD.row] at hch
  refine ak (aj (.inl rfl) ?_)
  simp [HsD.row]
  obtain ⟨H1, hH1⟩ : ∃ H1 : Heap, H1 = mkC 64 (C.cl zF [C.ptr 0 0 0, C.ptr 1 0 0]) [Blk.box [C.f (fi h.clock), C.f (fi h.bg), C.f (sl h.lg (aJ h.l))] 0, Blk.box [vi clk |> fun _ => C.f (fi clk)] 0, Blk.box [C.f (fi 0), C.f (fi 0), C.f FC.au] 0] := ⟨_, rfl⟩
  have z2 : H1[2]? = some (.box [C.f (fi 0), C.f (fi 0), C.f FC.au] 0) := by rw [hH1]; rfl
  refine ak (aj (.inl rfl) ?_)
  simp [uM, exV, dD, deep, hch]
  simp at hH1
  rw [← hH1]
  simp [z2]
  refine aO (hQ _ _ ?_)
  simp [Km.results, bG, aT z2, exV, dD, deep, HsD.row]
end Go.Proofs.YtcjhnkginmflhaaGreat
end

section
namespace Go.Proofs.YtcjhnkginmflhaaGreat
open Go Km

theorem P5 (h : HsD) (hl : h.l.length ≤ 30) (clk : Int) : ∃ rr : HsD, rr.cl = (if iD h clk = 0 then HsD.cl ⟨clk, h.bg, .nil, h.l.map (fU clk)⟩ else dO) ∧
    Km.Pure tab.get Bq [.a (h.row.map .f), vi clk] = Eq (.t [.a (rr.row.map .f), vi (iD h clk)]) := by
  obtain ⟨r, ⟨rr, hrr, rfl⟩, hp⟩ : ∃ r, (∃ rr : HsD, rr.cl = (if iD h clk = 0 then HsD.cl ⟨clk, h.bg, .nil, h.l.map (fU clk)⟩ else dO) ∧ r = .t [.a (rr.row.map .f), vi (iD h clk)]) ∧ Km.Pure tab.get Bq [.a (h.row.map .f), vi clk] r := by
    refine jU aJG rfl fun Q hQ => ?_
    have hv := oq h hl
    simp [HsD.row] at hv
    refine ak (aj (.inl rfl) ?_)
    simp [HsD.row]
    obtain ⟨H0, hH0⟩ : ∃ H0 : Heap, H0 = [.box [.f (fi h.clock), .f (fi h.bg), .f (sl h.lg (aJ h.l))] 0, .box [.f (fi 0), .f (fi 0), .f .au] 0] := ⟨_, rfl⟩
    have z0 : H0[0]? = some (.box [.f (fi h.clock), .f (fi h.bg), .f (sl h.lg (aJ h.l))] 0) := by rw [hH0]; rfl
    have z1 : H0[1]? = some (.box [.f (fi 0), .f (fi 0), .f .au] 0) := by rw [hH0]; rfl
    have zl : H0.length = 2 := by rw [hH0]; rfl
    rw [← hH0]
    have bad : iD h clk = 1 → ∀ t : T, t.g 4 = .c (.ptr 1 0 0) → t.g 21 = vb true → WP tab.get Bq none [.code Lj, .code Lh] ⟨t, [], H0⟩ Q := by
      intro he t g4 g
      refine aI (by simp [g]) (ak (aj (.inl rfl) ?_))
      simp [g4, z1]
      refine aO (hQ _ _ (.t [.a (dO.row.map .f), vi (iD h clk)]) ⟨dO, by simp [he]; rfl, rfl⟩ ?_)
      simp [Km.results, bG, g4, aT z1, exV, dD, deep, dO, HsD.row, sl, Tg.fc, aJ, he]
    refine ak ?_
    refine ak ?_
    refine aj (.inl rfl) ?_
    simp [z0, hv]
    cases hB : dh h
    case false =>
      simp
      have := bad (by simp [iD, hB])
      exact this _ (by simp) (by simp)
    by_cases k1 : clk < h.clock
    · simp [k1, z0]
      exact bad (by simp [iD, k1]) _ (by simp) (by simp)
    by_cases k2 : 2251799813685248 < clk
    · simp [k1, k2, z0]
      exact bad (by simp [iD, k2]) _ (by simp) (by simp)
    simp [k1, k2, z0]
    have he : iD h clk = 0 := by simp [iD, hB, k1, k2]
    refine aB (by simp) (aN ?_)
    obtain ⟨H1, hH1⟩ : ∃ H1 : Heap, H1 = H0 ++ [.box [.f (fi clk), .f (fi h.bg), .f .au] 0] := ⟨_, rfl⟩
    have y0 : H1[0]? = some (.box [.f (fi h.clock), .f (fi h.bg), .f (sl h.lg (aJ h.l))] 0) := by rw [hH1, List.getElem?_append_left (by omega)]; exact z0
    have y1 : H1[1]? = some (.box [.f (fi 0), .f (fi 0), .f .au] 0) := by rw [hH1, List.getElem?_append_left (by omega)]; exact z1
    have y2 : H1[2]? = some (.box [.f (fi clk), .f (fi h.bg), .f .au] 0) := by rw [hH1, List.getElem?_append_right (by omega), zl]; rfl
    refine ak (aj (.inl rfl) ?_)
    have d1 : ldV H0 none (.c (.ptr 0 1 0)) = some (vi h.bg) := by simp [z0, bC]
    simp [d1, -aU]
    rw [← hH1]
    refine ak ?_
    refine ak (aj (.inl rfl) ?_)
    simp
    refine iU h.l.length (fun j t H => t.g 1 = vi clk ∧ t.g 2 = .c (.ptr 0 0 0) ∧ t.g 4 = .c (.ptr 1 0 0) ∧ t.g 6 = .c (.ptr 2 0 0) ∧ H[0]? = some (.box [.f (fi h.clock), .f (fi h.bg), .f (sl h.lg (aJ h.l))] 0) ∧ H[1]? = some (.box [.f (fi 0), .f (fi 0), .f .au] 0) ∧
      ∃ c, H[2]? = some (.box [.f (fi clk), .f (fi h.bg), c] 0) ∧ LR H c 10 (aJ ((h.l.take j).map (fU clk))) ∧ ∀ i, bI c = some i → 3 ≤ i) (by omega) rfl (by simp)
      ⟨by simp, by simp, by simp, by simp [zl], y0, y1, .f .au, y2, LR.nil _ _, by simp [bI]⟩ ?_ ?_ ?_
    · rintro j t H L hj ⟨g1, g2, g4, g6, h0, h1, hL⟩ ha hk
      simp [ha, g2, h0]
      exact hk _ ⟨by simp [g1], by simp [g2], by simp [g4], by simp [g6], h0, h1, hL⟩ (by simp [ha]) (by simp)
    · rintro j t H hj ⟨g1, g2, g4, g6, h0, h1, c, h2, hL, hc⟩ ha next
      obtain ⟨x, hx⟩ : ∃ x, x = h.l[j] := ⟨_, rfl⟩
      have hld := fun H : Heap => fP (H := H) (aZ h.l) (cu hj)
      rw [← hx] at hld
      have hidx := fun H : Heap => dJ (H := H) (g := h.lg) (rows := aJ h.l) (sz := 10) (k := .i64) (i := (j : Int)) (by omega) (by simp; omega)
      simp only [Int.toNat_natCast] at hidx
      have b2 : ldV H none (.c (.ptr 0 2 0)) = some (.c (.f (sl h.lg (aJ h.l)))) := by simp [h0, bC]
      have hl3 := aT h2
      -- from the append on
      have app : ∀ (t' : T) (H3 : Heap) (y : aQ), y = fU clk x → t'.g 1 = vi clk → t'.g 2 = .c (.ptr 0 0 0) → t'.g 4 = .c (.ptr 1 0 0) → t'.g 6 = .c (.ptr 2 0 0) → t'.g 7 = vi j → t'.g 8 = .c (.ptr H.length 0 0) → H3 = H ++ [.box (y.row.map .f) 0] →
          WP tab.get Bq none [.code Gt, .inBlock 1, .code Gs, .inLoop Gu, .inBlock 0, .code Gq] ⟨t', [], H3⟩ Q := by
        intro t' H3 y hy g1 g2 g4 g6 g7 g8 hH3
        obtain ⟨H4, hH4⟩ : ∃ H4 : Heap, H4 = H3 ++ [.box (y.row.map .f) 0] := ⟨_, rfl⟩
        have up : ∀ (i : Nat) (b : Blk), H[i]? = some b → H4[i]? = some b := fun i b hb => by rw [hH4, hH3, List.append_assoc, List.getElem?_append_left (aT hb)]; exact hb
        have hL4 : LR H4 c 10 (aJ ((h.l.take j).map (fU clk))) := by rw [hH4, hH3, List.append_assoc]; exact hL.push _
        obtain ⟨c', H5, happ, hL5, hK5, hb5⟩ := hL4.app (aZ _) (by decide) (row := y.row) rfl (bytes := 112) (ig (by simp; omega) (by decide)) (b1 := H3.length) (fl1 := 0) (by rw [hH4]; simp)
        have e5 : aJ ((h.l.take j).map (fU clk)) ++ [y.row] = aJ ((h.l.take (j + 1)).map (fU clk)) := by
          rw [List.take_succ_eq_append_getElem hj, hy, hx]; simp only [aJ, List.map_append, List.map_cons, List.map_nil]
        rw [e5] at hL5
        have r2 : ldV H3 none (.c (.ptr 2 2 0)) = some (.c c) := by
          have : H3[2]? = some (.box [.f (fi clk), .f (fi h.bg), c] 0) := by rw [hH3, List.getElem?_append_left hl3]; exact h2
          simp [this, bC]
        have r8 : ldV H3 (some 10) (.c (.ptr H.length 0 0)) = some (.a (y.row.map .f)) := by rw [hH3]; simp [bC, aQ.row]
        have hnc : ∀ i : Nat, i < 3 → bI c ≠ some i := fun i hi e => by have := hc i e; omega
        have w0 : H5[0]? = _ := hK5.2 0 _ (up 0 _ h0) (hnc 0 (by omega))
        have w1 : H5[1]? = _ := hK5.2 1 _ (up 1 _ h1) (hnc 1 (by omega))
        have w2 : H5[2]? = _ := hK5.2 2 _ (up 2 _ h2) (hnc 2 (by omega))
        have hst : stC H5 (.ptr 2 2 0) [c'] = some (H5.set 2 (.box [.f (fi clk), .f (fi h.bg), c'] 0)) := by simp [w2, over]
        have hc' : ∀ i, bI c' = some i → 3 ≤ i := fun i hi => by
          rcases hb5 with e | e
          · rw [e] at hi; exact hc i hi
          · rw [e] at hi; cases hi; rw [hH4, hH3]; simp; omega
        refine aj (.inl rfl) ?_
        have hrow : y.row.map C.f = [.f (fi y.id), .f (fi y.dl), .f (fi y.state), .f (fi y.stand.meet), .f (fi y.stand.room), .f (fi y.stand.jJ), .f (fi y.stand.size), .f (sl y.stand.st.cg (aW y.stand.st.cs)), .f (fi y.stand.st.len), .f (sl y.stand.st.xg (bn y.stand.st.xs))] := rfl
        have hrl : (y.row.map C.f).length = 10 := rfl
        have hyl : y.row.length = 10 := rfl
        simp [g6, g8, r2, r8, hyl, -aU, -dY]
        rw [← hH4]
        simp [happ, hst, g6, -dY]
        refine aP (next _ _ ⟨by simp [g1], by simp [g2], by simp [g4], by simp [g6], by rw [List.getElem?_set_ne (by omega)]; exact w0, by rw [List.getElem?_set_ne (by omega)]; exact w1, c', List.getElem?_set_self (aT w2), hL5.set (fun e => by have := hc' _ e; omega) _, hc'⟩ (by simp [g7]))
      obtain ⟨H3, hH3⟩ : ∃ H3 : Heap, H3 = H ++ [.box (x.row.map .f) 0] := ⟨_, rfl⟩
      have hxl : x.row.length = 10 := rfl
      have q1 : ldV H3 none (.c (.ptr H.length 1 0)) = some (vi x.dl) := by rw [hH3]; simp [bC, aQ.row]
      have q2 : ldV H3 none (.c (.ptr H.length 2 0)) = some (vi x.state) := by rw [hH3]; simp [bC, aQ.row]
      have q4 : stC H3 (.ptr H.length 2 0) [.f (fi 4)] = some (H ++ [.box ((aQ.row { x with state := 4 }).map .f) 0]) := by rw [hH3]; simp [aQ.row, over]
      refine aS ?_
      refine ak (aj (.inl rfl) ?_)
      simp [ha, g2, b2, hidx, hld, hxl, -aU]
      rw [← hH3]
      refine ak ?_
      refine ak ?_
      refine aj (.inl rfl) ?_
      by_cases s1 : x.state = 1
      · by_cases d1 : x.dl < clk
        · simp [q1, q2, s1, d1, g1, -aU]
          refine aI (by simp) (aj (.inl rfl) ?_)
          simp [q4, -dY]
          exact app _ _ { x with state := 4 } (if_pos ⟨s1, d1⟩).symm (by simp [g1]) (by simp [g2]) (by simp [g4]) (by simp [g6]) (by simp [ha]) (by simp) rfl
        · simp [q1, q2, s1, d1, g1, -aU]
          refine aB (by simp) (aN ?_)
          exact app _ _ x (if_neg fun e => d1 e.2).symm (by simp [g1]) (by simp [g2]) (by simp [g4]) (by simp [g6]) (by simp [ha]) (by simp) hH3
      · simp [q2, s1, -aU]
        refine aB (by simp) (aN ?_)
        exact app _ _ x (if_neg fun e => s1 e.1).symm (by simp [g1]) (by simp [g2]) (by simp [g4]) (by simp [g6]) (by simp [ha]) (by simp) hH3
    · rintro t H ⟨g1, g2, g4, g6, h0, h1, c, h2, hL, hc⟩ ha
      rw [List.take_of_length_le (Nat.le_refl _)] at hL
      obtain ⟨g, hg⟩ := hL.exU (aZ _)
      have hg' := hg (H.set 1 (.box [.f (fi clk), .f (fi h.bg), c] 0)) 63 (fun i y hy hi => by
        have : (1 : Nat) ≠ i := by rintro rfl; have := hc 1 hi; omega
        rw [List.getElem?_set_ne this]; exact hy)
      refine ak (aj (.inl rfl) ?_)
      simp [g4, g6, h1, h2]
      refine aO (hQ _ _ (.t [.a ((⟨clk, h.bg, g, h.l.map (fU clk)⟩ : HsD).row.map .f), vi (iD h clk)]) ⟨⟨clk, h.bg, g, h.l.map (fU clk)⟩, by simp [he, HsD.cl], rfl⟩ ?_)
      simp [Km.results, bG, g4, aT h1, exV, dD, deep, HsD.row, hg', he]
  exact ⟨rr, hrr, hp.eq⟩
end Go.Proofs.YtcjhnkginmflhaaGreat
end

section
namespace Go.Proofs.YtcjhnkginmflhaaGreat
open Go Km

/-! ### aLf and Release -/
def fidx (id : Int) (l : List aQ) : Option Nat := l.findIdx? fun x => decide (x.id = id)
theorem AZ {id : Int} {l : List aQ} {i : Nat} (h : fidx id l = some i) : ∃ hi : i < l.length, l[i].id = id := by
  unfold fidx at h
  rw [List.findIdx?_eq_some_iff_getElem] at h
  obtain ⟨hi, hp, _⟩ := h
  exact ⟨hi, by simpa using hp⟩
theorem vW {id : Int} {l : List aQ} (h : ∀ q (hq : q < l.length), l[q].id ≠ id) : fidx id l = none := by
  unfold fidx
  rw [List.findIdx?_eq_none_iff]
  intro x hx
  obtain ⟨q, hq, rfl⟩ := List.getElem_of_mem hx
  simp [h q hq]
theorem J8 {id : Int} {l : List aQ} {i : Nat} (hi : i < l.length) (he : l[i].id = id) (h : ∀ q (hq : q < l.length), q < i → l[q].id ≠ id) : fidx id l = some i := by
  unfold fidx
  rw [List.findIdx?_eq_some_iff_getElem]
  exact ⟨hi, by simpa using he, fun j hj => by simpa using h j (by omega) hj⟩
def dI (h : HsD) (id : Int) : Int := if dh h = false then 1 else match fidx id h.l with
  | none => 4
  | some i => match h.l[i]? with
    | none => 4
    | some x => if x.state = 1 then 0 else 7
def sW (i : Nat) (st : Int) (l : List aQ) : List aQ := match l[i]? with
  | none => l
  | some x => l.set i { x with state := st }
def jK (h : HsD) (id st : Int) : HsD := ⟨h.clock, h.bg, .nil, match fidx id h.l with
  | none => h.l
  | some i => sW i st h.l⟩
theorem aoF {i : Nat} {st : Int} {l l' : List aQ} (h : l'.map aQ.cl = l.map aQ.cl) : (sW i st l').map aQ.cl = (sW i st l).map aQ.cl := by
  have e : ∀ l : List aQ, (sW i st l).map aQ.cl = sW i st (l.map aQ.cl) := fun l => by
    unfold sW
    rw [List.getElem?_map]
    cases l[i]? with
    | none => rfl
    | some x => simp [List.map_set, aQ.cl]
  rw [e, e, h]

theorem Eh (h : HsD) (hl : h.l.length ≤ 30) (id : Int) : Km.Pure tab.get KR [.a (h.row.map .f), vi id] = Eq (vi (match fidx id h.l with | none => -1 | some i => (i : Int))) := Km.Pure.eq (by
  refine dM aJP rfl fun Q hQ => ?_
  refine ak (aj (.inl rfl) ?_)
  simp [HsD.row]
  refine ak ?_
  refine ak (aj (.inl rfl) ?_)
  simp
  refine iU h.l.length (fun j t H => t.g 1 = vi id ∧ t.g 2 = .c (.ptr 0 0 0) ∧ H[0]? = some (.box [.f (fi h.clock), .f (fi h.bg), .f (sl h.lg (aJ h.l))] 0) ∧ ∀ q (hq : q < h.l.length), q < j → h.l[q].id ≠ id) (by omega) rfl (by simp)
    ⟨by simp, by simp, rfl, by simp⟩ ?_ ?_ ?_
  · rintro j t H L hj ⟨g1, g2, h0, hno⟩ ha hk
    simp [ha, g2, h0]
    exact hk _ ⟨by simp [g1], by simp [g2], h0, hno⟩ (by simp [ha]) (by simp)
  · rintro j t H hj ⟨g1, g2, h0, hno⟩ ha next
    have b2 : ldV H none (.c (.ptr 0 2 0)) = some (.c (.f (sl h.lg (aJ h.l)))) := by simp [h0, bC]
    have hidx := dJ (H := H) (g := h.lg) (rows := aJ h.l) (sz := 10) (k := .i64) (i := (j : Int)) (by omega) (by simp; omega)
    rw [Int.toNat_natCast] at hidx
    have l0 := nM (H := H) (aZ h.l) (cu hj) rfl
    refine aS ?_
    refine ak (aj (.inl rfl) ?_)
    by_cases hk : h.l[j].id = id
    · simp [ha, g1, g2, b2, hidx, l0, hk, -aU]
      refine aI (by simp) (ak (aj (.inl rfl) ?_))
      simp [ha]
      refine aO (hQ _ _ ?_)
      rw [J8 hj hk hno]
      simp
    · simp [ha, g1, g2, b2, hidx, l0, hk, -aU]
      refine aB (by simp) (aN (aP (next _ _ ⟨by simp [g1], by simp [g2], h0, fun q hq hqj => ?_⟩ (by simp [ha]))))
      by_cases e : q = j
      · subst e; exact hk
      · exact hno q hq (by omega)
  · rintro t H ⟨g1, g2, h0, hno⟩ ha
    refine ak (aj (.inl rfl) ?_)
    simp
    refine aO (hQ _ _ ?_)
    rw [vW fun q hq => hno q hq hq]
    simp)
/-- The index of a search that stands in an ordered list. -/
theorem A8 {h : HsD} (hv : dh h = true) {id : Int} {i : Nat} (hlt : ∀ j (hj : j < h.l.length), j < i → h.l[j].id < id) (hge : ∀ j (hj : j < h.l.length), i ≤ j → id ≤ h.l[j].id) : fidx id h.l = if fnd h.l i id then some i else none := by
  have hB : holdsB h.clock 0 h.l = true := by
    unfold dh at hv
    simp only [Bool.and_eq_true] at hv
    exact hv.2
  have hup := (vJ hB).2
  rw [List.pairwise_iff_getElem] at hup
  by_cases hi : i < h.l.length
  · by_cases he : h.l[i].id = id
    · have : fnd h.l i id = true := by simp [fnd, hi, he]
      rw [this, if_pos rfl]
      exact J8 hi he fun q hq hqi => by have := hlt q hq hqi; omega
    · have : fnd h.l i id = false := by simp [fnd, hi, he]
      rw [this, if_neg (by simp)]
      refine vW fun q hq => ?_
      rcases Nat.lt_trichotomy q i with k | k | k
      · have := hlt q hq k; omega
      · subst k; exact he
      · have := hup i q hi hq k; have := hge i hi (Nat.le_refl _); omega
  · have : fnd h.l i id = false := by simp [fnd, List.getElem?_eq_none (by omega : h.l.length ≤ i)]
    rw [this, if_neg (by simp)]
    exact vW fun q hq => by have := hlt q hq (by omega); omega
end Go.Proofs.YtcjhnkginmflhaaGreat
end

section
namespace Go.Proofs.YtcjhnkginmflhaaGreat
open Go Km

theorem OI (h : HsD) (hl : h.l.length ≤ 30) (id st : Int) : Chg Gf [.fp [fi h.clock, fi h.bg, sl h.lg (aJ h.l)] 0, .fp [fi id] 0, .fp [fi st] 0] h (dI h id) (jK h id st) := by
  intro H p c l' hp hL hcl hcp
  have hlen := jT hcl
  have hv := qg h hl
  simp [HsD.row] at hv
  have e1 : ∀ H : Heap, ldV H (some 3) (.c (.f (.fp [fi h.clock, fi h.bg, sl h.lg (aJ h.l)] 0))) = some (.a [.f (fi h.clock), .f (fi h.bg), .f (sl h.lg (aJ h.l))]) := fun _ => rfl
  have e2 : ∀ H : Heap, ldV H none (.c (.f (.fp [fi id] 0))) = some (vi id) := fun _ => rfl
  have e3 : ∀ H : Heap, ldV H none (.c (.f (.fp [fi st] 0))) = some (vi st) := fun _ => rfl
  refine jo (C := fun r H' => r = vi (dI h id) ∧ H.length ≤ H'.length ∧ (∀ i y, H[i]? = some y → i ≠ p → bI c ≠ some i → H'[i]? = some y) ∧
      (dI h id = 0 → ∃ l2, H'[p]? = some (.box [.f (fi (jK h id st).clock), .f (fi (jK h id st).bg), c] 0) ∧ LR H' c 10 (aJ l2) ∧ l2.map aQ.cl = (jK h id st).l.map aQ.cl)) aJ5 rfl fun Q hQ => ?_
  have out : dI h id ≠ 0 → ∀ (t : T) (k : List eG) , t.g 5 = vi (dI h id) → WP tab.get Gf none (.code .ret :: k) ⟨t, [], H⟩ Q := by
    intro he t k g
    exact aO (hQ _ _ (vi (dI h id)) rfl (by simp [Km.results, bG, g]) ⟨rfl, Nat.le_refl _, fun i y hy _ _ => hy, fun e => absurd e he⟩)
  refine ak (aj (.inl rfl) ?_)
  simp
  refine ak ?_
  refine ak ?_
  refine aj (.inl rfl) ?_
  simp [e1, hv]
  cases hB : dh h
  case false =>
    refine aI (by simp) (ak (aj (.inl rfl) ?_))
    have he : dI h id = 1 := by simp [dI, hB]
    simp
    exact out (by rw [he]; decide) _ _ (by rw [he]; simp)
  refine aB (by simp) (aN ?_)
  obtain ⟨i, hi, hlt, hge, hfind⟩ := J5 h hl hB id
  have hfx := A8 hB hlt hge
  simp [HsD.row] at hfind
  refine ak (aj (.inl rfl) ?_)
  simp [e1, e2, hfind]
  refine ak ?_
  refine aS ?_
  refine ak ?_
  refine aj (.inl rfl) ?_
  simp
  cases hf : fnd h.l i id
  case false =>
    rw [hf] at hfx
    simp at hfx
    have he : dI h id = 4 := by simp [dI, hB, hfx]
    refine aI (by simp) (ak (aj (.inl rfl) ?_))
    simp
    exact out (by rw [he]; decide) _ _ (by rw [he]; simp)
  rw [hf] at hfx
  simp at hfx
  have hil : i < h.l.length := (AZ hfx).1
  have Si : i < l'.length := by omega
  obtain ⟨x, hx⟩ : ∃ x, x = l'[i] := ⟨_, rfl⟩
  have hxc : x.cl = h.l[i].cl := by rw [hx]; exact get_map hcl Si hil
  have hxs : x.state = h.l[i].state := by
    have := congrArg aQ.state hxc; exact this
  rcases hL with ⟨he0, _⟩ | ⟨hne, B, ep, rfl, hRB⟩
  · have : l'.length = 0 := by have := congrArg List.length he0; simpa [aJ] using this
    omega
  have hrl : (aJ l').length = l'.length := by simp
  have hat : (aJ l')[i]? = some x.row := by rw [hx]; exact cu Si
  have hidx := hRB.at (show i < (aJ l').length by omega)
  have hst := hRB.ldc (k := 2) (x := fi x.state) (aZ _) hat rfl
  obtain ⟨H4, E5, hB4, hf4, hl4⟩ := hRB.stp (k := 2) (xs := [fi st]) (aZ _) hat (by simp)
  simp only [List.map_cons, List.map_nil] at E5
  have hov : over x.row 2 [fi st] = (aQ.row { x with state := st }) := rfl
  rw [hov, kR] at hB4
  have hBp : B ≠ p := fun e => hcp (by rw [e]; rfl)
  have hbx : ldV H none (.c (.ptr p 2 0)) = some (.c (.sl B 0 l'.length 0 ep 10)) := by simp [hp, bC]
  rw [hrl] at hidx
  refine aB (by simp) ?_
  refine ak (aj (.inl rfl) ?_)
  by_cases s1 : x.state = 1
  case neg =>
    have he : dI h id = 7 := by simp [dI, hB, hfx, hil, ← hxs, s1]
    simp [hbx, hidx, hst, s1, -aU]
    refine aI (by simp) (ak (aj (.inl rfl) ?_))
    simp
    exact out (by rw [he]; decide) _ _ (by rw [he]; simp)
  have he : dI h id = 0 := by simp [dI, hB, hfx, hil, ← hxs, s1]
  simp [hbx, hidx, hst, s1, -aU]
  refine aB (by simp) (aN (aP ?_))
  refine ak (aj (.inl rfl) ?_)
  simp [hbx, hidx, e3, E5, -aU, -dY]
  refine ak (aj (.inl rfl) ?_)
  simp
  refine aO (hQ _ _ (vi 0) rfl (by simp [Km.results, bG]) ⟨by rw [he], by show H.length ≤ H4.length; omega, fun i y hy hi hci => hf4.get hy (fun e => hci (by rw [e]; rfl)), fun _ => ⟨l'.set i { x with state := st }, hf4.get hp (Ne.symm hBp), ?_, ?_⟩⟩)
  · refine .inr ⟨fun e => ?_, B, ep, by simp, hB4⟩
    have := congrArg List.length e
    simp at this
    rw [this] at Si; simp at Si
  · have h1 : (jK h id st).l = sW i st h.l := by simp [jK, hfx]
    have h2 : l'.set i { x with state := st } = sW i st l' := by simp [sW, Si, hx]
    rw [h1, h2]
    exact aoF hcl
end Go.Proofs.YtcjhnkginmflhaaGreat
end

section
namespace Go.Proofs.YtcjhnkginmflhaaGreat
open Go Km

theorem Js (h : HsD) (hl : h.l.length ≤ 30) (hs : ∀ x ∈ h.l, x.Sm) (id st : Int) : ∃ rr : HsD, rr.cl = (if dI h id = 0 then (jK h id st).cl else dO) ∧
    Km.Pure tab.get KX [.a (h.row.map .f), vi id, vi st] = Eq (.t [.a (rr.row.map .f), vi (dI h id)]) := by
  obtain ⟨rr, hrr, hch⟩ := Bh h hl hs (OI h hl id st)
  refine ⟨rr, hrr, Km.Pure.eq ?_⟩
  refine dM aJ6 rfl fun Q hQ => ?_
  simp [HsD.row] at hch
  refine ak (aj (.inl rfl) ?_)
  simp [HsD.row]
  obtain ⟨H1, hH1⟩ : ∃ H1 : Heap, H1 = mkC 64 (C.cl Gf [C.ptr 0 0 0, C.ptr 1 0 0, C.ptr 2 0 0]) [Blk.box [C.f (fi h.clock), C.f (fi h.bg), C.f (sl h.lg (aJ h.l))] 0, Blk.box [C.f (fi id)] 0, Blk.box [C.f (fi st)] 0, Blk.box [C.f (fi 0), C.f (fi 0), C.f FC.au] 0] := ⟨_, rfl⟩
  have z3 : H1[3]? = some (.box [C.f (fi 0), C.f (fi 0), C.f FC.au] 0) := by rw [hH1]; rfl
  refine ak (aj (.inl rfl) ?_)
  simp [uM, exV, dD, deep, hch]
  rw [← hH1]
  simp [z3]
  refine aO (hQ _ _ ?_)
  simp [Km.results, bG, aT z3, exV, dD, deep, HsD.row]
/-- A function that only calls 'turn'. -/
theorem I8 (h : HsD) (hl : h.l.length ≤ 30) (hs : ∀ x ∈ h.l, x.Sm) (id : Int) : ∃ rr : HsD, rr.cl = (if dI h id = 0 then (jK h id 2).cl else dO) ∧
    Km.Pure tab.get aEp [.a (h.row.map .f), vi id] = Eq (.t [.a (rr.row.map .f), vi (dI h id)]) := by
  obtain ⟨rr, hrr, hch⟩ := Js h hl hs id 2
  refine ⟨rr, hrr, Km.Pure.eq ?_⟩
  refine dM aNV rfl fun Q hQ => ?_
  simp [HsD.row] at hch
  refine ak (aj (.inl rfl) ?_)
  simp [HsD.row]
  refine ak (aj (.inl rfl) ?_)
  simp [hch]
  refine aO (hQ _ _ ?_)
  simp [Km.results, bG, exV, dD, deep, HsD.row]
theorem Hr (h : HsD) (hl : h.l.length ≤ 30) (hs : ∀ x ∈ h.l, x.Sm) (id : Int) : ∃ rr : HsD, rr.cl = (if dI h id = 0 then (jK h id 3).cl else dO) ∧
    Km.Pure tab.get aEo [.a (h.row.map .f), vi id] = Eq (.t [.a (rr.row.map .f), vi (dI h id)]) := by
  obtain ⟨rr, hrr, hch⟩ := Js h hl hs id 3
  refine ⟨rr, hrr, Km.Pure.eq ?_⟩
  refine dM aNS rfl fun Q hQ => ?_
  simp [HsD.row] at hch
  refine ak (aj (.inl rfl) ?_)
  simp [HsD.row]
  refine ak (aj (.inl rfl) ?_)
  simp [hch]
  refine aO (hQ _ _ ?_)
  simp [Km.results, bG, exV, dD, deep, HsD.row]

theorem Ea (h : HsD) (hl : h.l.length ≤ 30) (id st : Int) : ∃ rr : HsD, rr.cl = (if dI h id = 0 then (jK h id st).cl else dO) ∧
    Km.Pure tab.get Bo [.a (h.row.map .f), vi id, vi st] = Eq (.t [.a (rr.row.map .f), vi (dI h id)]) := by
  obtain ⟨r, ⟨rr, hrr, rfl⟩, hp⟩ : ∃ r, (∃ rr : HsD, rr.cl = (if dI h id = 0 then (jK h id st).cl else dO) ∧ r = .t [.a (rr.row.map .f), vi (dI h id)]) ∧ Km.Pure tab.get Bo [.a (h.row.map .f), vi id, vi st] r := by
    refine jU aJE rfl fun Q hQ => ?_
    have hv := oq h hl
    have hfind := Eh h hl id
    simp [HsD.row] at hv hfind
    refine ak (aj (.inl rfl) ?_)
    simp [HsD.row]
    obtain ⟨H0, hH0⟩ : ∃ H0 : Heap, H0 = [.box [.f (fi h.clock), .f (fi h.bg), .f (sl h.lg (aJ h.l))] 0, .box [.f (fi 0), .f (fi 0), .f .au] 0] := ⟨_, rfl⟩
    have z0 : H0[0]? = some (.box [.f (fi h.clock), .f (fi h.bg), .f (sl h.lg (aJ h.l))] 0) := by rw [hH0]; rfl
    have z1 : H0[1]? = some (.box [.f (fi 0), .f (fi 0), .f .au] 0) := by rw [hH0]; rfl
    have zl : H0.length = 2 := by rw [hH0]; rfl
    have a0 : ldV H0 (some 3) (.c (.ptr 0 0 0)) = some (.a [.f (fi h.clock), .f (fi h.bg), .f (sl h.lg (aJ h.l))]) := by simp [z0, bC]
    have b0 : ldV H0 none (.c (.ptr 0 0 0)) = some (vi h.clock) := by simp [z0, bC]
    have b1 : ldV H0 none (.c (.ptr 0 1 0)) = some (vi h.bg) := by simp [z0, bC]
    have b2 : ldV H0 none (.c (.ptr 0 2 0)) = some (.c (.f (sl h.lg (aJ h.l)))) := by simp [z0, bC]
    have s1 : stC H0 (.ptr 1 0 0) [.f (fi 0), .f (fi 0), .f .au] = some H0 := by simp [z1]; rw [hH0]; rfl
    rw [← hH0]
    have out : dI h id ≠ 0 → ∀ (t : T) (k : List eG), t.g 6 = .c (.ptr 1 0 0) → t.g 7 = vi (dI h id) → WP tab.get Bo none (.code .ret :: k) ⟨t, [], H0⟩ Q := by
      intro he t k g6 g7
      refine aO (hQ _ _ (.t [.a (dO.row.map .f), vi (dI h id)]) ⟨dO, by simp [he]; rfl, rfl⟩ ?_)
      simp [Km.results, bG, g6, g7, z1, exV, dD, deep, dO, HsD.row, sl, Tg.fc, aJ]
    refine ak ?_
    refine ak ?_
    refine aj (.inl rfl) ?_
    simp [a0, hv, -aU]
    cases hB : dh h
    case false =>
      have he : dI h id = 1 := by simp [dI, hB]
      refine aI (by simp) (ak (aj (.inl rfl) ?_))
      simp [s1, -dY]
      exact out (by rw [he]; decide) _ _ (by simp) (by rw [he]; simp)
    refine aB (by simp) (aN ?_)
    refine ak (aj (.inl rfl) ?_)
    simp [a0, hfind, -aU]
    refine ak ?_
    refine ak ?_
    refine aj (.inl rfl) ?_
    cases hfx : fidx id h.l with
    | none =>
      have he : dI h id = 4 := by simp [dI, hB, hfx]
      simp
      refine aI (by simp) (ak (aj (.inl rfl) ?_))
      simp [s1, -dY]
      exact out (by rw [he]; decide) _ _ (by simp) (by rw [he]; simp)
    | some i =>
    have hil : i < h.l.length := (AZ hfx).1
    obtain ⟨x, hx⟩ : ∃ x, x = h.l[i] := ⟨_, rfl⟩
    have hidx := fun H : Heap => dJ (H := H) (g := h.lg) (rows := aJ h.l) (sz := 10) (k := .i64) (i := (i : Int)) (by omega) (by simp; omega)
    simp only [Int.toNat_natCast] at hidx
    have l2 := fun H : Heap => vG (H := H) (k := 2) (aZ h.l) (cu hil) rfl
    simp only [← hx] at l2
    simp [show ¬ (i : Int) < 0 by omega]
    refine aB (by simp) (aN ?_)
    refine ak ?_
    refine ak ?_
    refine aj (.inl rfl) ?_
    by_cases q1 : x.state = 1
    case neg =>
      have he : dI h id = 7 := by simp [dI, hB, hfx, hil, ← hx, q1]
      simp [b2, hidx, l2, q1, -aU]
      refine aI (by simp) (ak (aj (.inl rfl) ?_))
      simp [s1, -dY]
      exact out (by rw [he]; decide) _ _ (by simp) (by rw [he]; simp)
    have he : dI h id = 0 := by simp [dI, hB, hfx, hil, ← hx, q1]
    simp [b2, hidx, l2, q1, -aU]
    refine aB (by simp) (aN ?_)
    obtain ⟨H1, hH1⟩ : ∃ H1 : Heap, H1 = H0 ++ [.box [.f (fi h.clock), .f (fi h.bg), .f .au] 0] := ⟨_, rfl⟩
    have y0 : H1[0]? = some (.box [.f (fi h.clock), .f (fi h.bg), .f (sl h.lg (aJ h.l))] 0) := by rw [hH1, List.getElem?_append_left (by omega)]; exact z0
    have y1 : H1[1]? = some (.box [.f (fi 0), .f (fi 0), .f .au] 0) := by rw [hH1, List.getElem?_append_left (by omega)]; exact z1
    have y2 : H1[2]? = some (.box [.f (fi h.clock), .f (fi h.bg), .f .au] 0) := by rw [hH1, List.getElem?_append_right (by omega), zl]; rfl
    refine ak (aj (.inl rfl) ?_)
    simp [b0, b1, -aU]
    rw [← hH1]
    obtain ⟨c', H2, happ, hL2, hK2, hb2⟩ := (LR.nil H1 10).aH2 (by intro r hr; cases hr) (by decide) (aZ h.l) (bytes := 112) (ig (by simp; omega) (by decide)) h.lg
    simp only [List.nil_append] at hL2
    have hc' : ∀ i, bI c' = some i → 3 ≤ i := fun i hi => by
      rcases hb2 with e | e
      · rw [e] at hi; simp [bI] at hi
      · rw [e] at hi; cases hi; rw [hH1]; simp; omega
    have nn : ∀ i, bI (.f .au) ≠ some i := fun i => by simp [bI]
    have w0 : H2[0]? = _ := hK2.2 0 _ y0 (nn 0)
    have w1 : H2[1]? = _ := hK2.2 1 _ y1 (nn 1)
    have w2 : H2[2]? = _ := hK2.2 2 _ y2 (nn 2)
    obtain ⟨H3, hH3⟩ : ∃ H3 : Heap, H3 = H2.set 2 (.box [.f (fi h.clock), .f (fi h.bg), c'] 0) := ⟨_, rfl⟩
    have v1 : H3[1]? = some (.box [.f (fi 0), .f (fi 0), .f .au] 0) := by rw [hH3, List.getElem?_set_ne (by omega)]; exact w1
    have v2 : H3[2]? = some (.box [.f (fi h.clock), .f (fi h.bg), c'] 0) := by rw [hH3]; exact List.getElem?_set_self (aT w2)
    have hst : stC H2 (.ptr 2 2 0) [c'] = some H3 := by rw [hH3]; simp [w2, over]
    have hL3 : LR H3 c' 10 (aJ h.l) := by rw [hH3]; exact hL2.set (fun e => by have := hc' _ e; omega) _
    have r0 : ldV H1 none (.c (.ptr 0 2 0)) = some (.c (.f (sl h.lg (aJ h.l)))) := by simp [y0, bC]
    have r2 : ldV H1 none (.c (.ptr 2 2 0)) = some (.c (.f .au)) := by simp [y2, bC]
    refine ak (aj (.inl rfl) ?_)
    simp [zl, r0, r2, happ, hst, -aU, -dY]
    rcases hL3 with ⟨he0, _⟩ | ⟨hne, B, ep, rfl, hRB⟩
    · have : h.l.length = 0 := by have := congrArg List.length he0; simpa [aJ] using this
      omega
    have hrl : (aJ h.l).length = h.l.length := by simp
    have hat : (aJ h.l)[i]? = some x.row := by rw [hx]; exact cu hil
    have hidx3 := hRB.at (show i < (aJ h.l).length by omega)
    rw [hrl] at hidx3 v2
    obtain ⟨H4, E5, hB4, hf4, hl4⟩ := hRB.stp (k := 2) (xs := [fi st]) (aZ _) hat (by simp)
    simp only [List.map_cons, List.map_nil] at E5
    have hov : over x.row 2 [fi st] = (aQ.row { x with state := st }) := rfl
    rw [hov, kR] at hB4
    have hB3 : 3 ≤ B := hc' B rfl
    have u1 : H4[1]? = _ := hf4.get v1 (by omega)
    have u2 : H4[2]? = _ := hf4.get v2 (by omega)
    have r3 : ldV H3 none (.c (.ptr 2 2 0)) = some (.c (.sl B 0 h.l.length 0 ep 10)) := by simp [v2, bC]
    refine ak (aj (.inl rfl) ?_)
    simp [r3, hidx3, E5, -aU, -dY]
    have hL4 : LR H4 (.sl B 0 h.l.length 0 ep 10) 10 (aJ (h.l.set i { x with state := st })) := by
      refine .inr ⟨fun e => ?_, B, ep, by simp, hB4⟩
      have := congrArg List.length e
      simp at this
      rw [this] at hil; simp at hil
    obtain ⟨g, hg⟩ := hL4.exU (aZ _)
    have hg' := hg (H4.set 1 (.box [.f (fi h.clock), .f (fi h.bg), .sl B 0 h.l.length 0 ep 10] 0)) 63 (fun i y hy hi => by
      have : (1 : Nat) ≠ i := by rintro rfl; cases hi; omega
      rw [List.getElem?_set_ne this]; exact hy)
    have q4 : ldV H4 (some 3) (.c (.ptr 2 0 0)) = some (.a [.f (fi h.clock), .f (fi h.bg), .sl B 0 h.l.length 0 ep 10]) := by simp [u2, bC]
    have q5 : stC H4 (.ptr 1 0 0) [.f (fi h.clock), .f (fi h.bg), .sl B 0 h.l.length 0 ep 10] = some (H4.set 1 (.box [.f (fi h.clock), .f (fi h.bg), .sl B 0 h.l.length 0 ep 10] 0)) := by simp [u1, over]
    refine ak (aj (.inl rfl) ?_)
    simp [q4, q5, -aU, -dY]
    have hR : (jK h id st).l = h.l.set i { x with state := st } := by simp [jK, hfx, sW, hil, hx]
    refine aO (hQ _ _ (.t [.a ((⟨h.clock, h.bg, g, h.l.set i { x with state := st }⟩ : HsD).row.map .f), vi (dI h id)]) ⟨⟨h.clock, h.bg, g, h.l.set i { x with state := st }⟩, ?_, rfl⟩ ?_)
    · rw [if_pos he, HsD.cl, HsD.cl, hR]; rfl
    · simp [Km.results, bG, aT u1, exV, dD, deep, HsD.row, hg', he]
  exact ⟨rr, hrr, hp.eq⟩
end Go.Proofs.YtcjhnkginmflhaaGreat
end

section
namespace Go.Proofs.YtcjhnkginmflhaaGreat
open Go Km

theorem En (h : HsD) (hl : h.l.length ≤ 30) (id : Int) : ∃ rr : HsD, rr.cl = (if dI h id = 0 then (jK h id 2).cl else dO) ∧
    Km.Pure tab.get Ub [.a (h.row.map .f), vi id] = Eq (.t [.a (rr.row.map .f), vi (dI h id)]) := by
  obtain ⟨rr, hrr, hch⟩ := Ea h hl id 2
  refine ⟨rr, hrr, Km.Pure.eq ?_⟩
  refine dM aJQ rfl fun Q hQ => ?_
  simp [HsD.row] at hch
  refine ak (aj (.inl rfl) ?_)
  simp [HsD.row]
  refine ak (aj (.inl rfl) ?_)
  simp [hch]
  refine aO (hQ _ _ ?_)
  simp [Km.results, bG, exV, dD, deep, HsD.row]
theorem Eb (h : HsD) (hl : h.l.length ≤ 30) (id : Int) : ∃ rr : HsD, rr.cl = (if dI h id = 0 then (jK h id 3).cl else dO) ∧
    Km.Pure tab.get Ua [.a (h.row.map .f), vi id] = Eq (.t [.a (rr.row.map .f), vi (dI h id)]) := by
  obtain ⟨rr, hrr, hch⟩ := Ea h hl id 3
  refine ⟨rr, hrr, Km.Pure.eq ?_⟩
  refine dM aJM rfl fun Q hQ => ?_
  simp [HsD.row] at hch
  refine ak (aj (.inl rfl) ?_)
  simp [HsD.row]
  refine ak (aj (.inl rfl) ?_)
  simp [hch]
  refine aO (hQ _ _ ?_)
  simp [Km.results, bG, exV, dD, deep, HsD.row]

/-! ### Safe -/
def sfB (n : Int) : Bool := decide (-2251799813685248 ≤ n) && decide (n ≤ 2251799813685248)
theorem D9 (n : Int) : Kf tab.get aEm [vi n] (vb (sfB n)) := by
  refine jD aNQ rfl fun H Q hQ => ?_
  refine ak (aj (.inl rfl) ?_)
  simp
  refine ak (aj (.inl rfl) ?_)
  by_cases k : -2251799813685248 ≤ n
  · simp [k]
    refine aO (hQ _ _ ?_)
    simp [sfB, k]
  · simp [k]
    refine aO (hQ _ _ ?_)
    simp [sfB, k]
def oh (a b d : Int) : Bool := jO d && sfB a && sfB b && decide (a + d < b - d)
theorem aoH (a b d : Int) : Km.Pure tab.get aEn [vi a, vi b, vi d] = Eq (vb (oh a b d)) := Km.Pure.eq (by
  refine dM aNR rfl fun Q hQ => ?_
  have f1 := fun H => (D9 a).ev H
  have f2 := fun H => (D9 b).ev H
  refine ak (aj (.inl rfl) ?_)
  simp
  refine ak (aj (.inl rfl) ?_)
  simp
  refine ak (aj (.inl rfl) ?_)
  cases m : jO d
  · simp [oV, m]
    refine aO (hQ _ _ ?_)
    simp [oh, m]
  cases sa : sfB a
  · simp [oV, m, dU, f1, sa]
    refine aO (hQ _ _ ?_)
    simp [oh, m, sa]
  cases sb : sfB b
  · simp [oV, m, dU, f1, f2, sa, sb]
    refine aO (hQ _ _ ?_)
    simp [oh, m, sa, sb]
  have hm := m
  have ha := sa
  have hb := sb
  simp [jO] at hm
  simp [sfB] at ha hb
  simp [oV, m, dU, f1, f2, sa, sb, wrap64 (n := a + d) (by omega) (by omega), wrap64 (n := b - d) (by omega) (by omega)]
  refine aO (hQ _ _ ?_)
  simp [oh, m, sa, sb])
theorem P6 (a b d : Int) : Km.Pure tab.get KN [vi a, vi b, vi d] = Eq (vb (oh a b d)) := Km.Pure.eq (by
  refine dM aJL rfl fun Q hQ => ?_
  refine ak (aj (.inl rfl) ?_)
  simp
  have bad : oh a b d = false → ∀ t : T, t.g 25 = vb true → WP tab.get KN none [.code Lp, .code Ll] ⟨t, [], []⟩ Q := by
    intro he t g
    refine aI (by simp [g]) (ak (aj (.inl rfl) ?_))
    simp
    refine aO (hQ _ _ ?_)
    simp [he]
  refine ak ?_
  refine ak ?_
  refine aj (.inl rfl) ?_
  cases m : jO d
  · simp [kE, m]
    exact bad (by simp [oh, m]) _ (by simp)
  by_cases a1 : a < -2251799813685248
  · simp [kE, m, a1]
    exact bad (by simp [oh, sfB, show ¬ -2251799813685248 ≤ a by omega]) _ (by simp)
  by_cases a2 : 2251799813685248 < a
  · simp [kE, m, a1, a2]
    exact bad (by simp [oh, sfB, show ¬ a ≤ 2251799813685248 by omega]) _ (by simp)
  by_cases b1 : b < -2251799813685248
  · simp [kE, m, a1, a2, b1]
    exact bad (by simp [oh, sfB, show ¬ -2251799813685248 ≤ b by omega]) _ (by simp)
  by_cases b2 : 2251799813685248 < b
  · simp [kE, m, a1, a2, b1, b2]
    exact bad (by simp [oh, sfB, show ¬ b ≤ 2251799813685248 by omega]) _ (by simp)
  simp [kE, m, a1, a2, b1, b2]
  refine aB (by simp) (aN ?_)
  have hm := m
  simp [jO] at hm
  refine ak (aj (.inl rfl) ?_)
  simp [wrap64 (n := a + d) (by omega) (by omega), wrap64 (n := b - d) (by omega) (by omega)]
  refine aO (hQ _ _ ?_)
  have sa : sfB a = true := by simp [sfB]; omega
  have sb : sfB b = true := by simp [sfB]; omega
  simp [oh, m, sa, sb])
end Go.Proofs.YtcjhnkginmflhaaGreat
end

section
namespace Go.Proofs.YtcjhnkginmflhaaGreat
open Go Km

/-! ### No aGl: nothing can be admitted -/
theorem LC (n lo hi : Int) : Km.Pure tab.get F6 [vi n, vi lo, vi hi] = Eq (vb (decide (lo ≤ n) && decide (n ≤ hi))) := Kf.eq (by
  refine jD aJt rfl fun H Q hQ => ?_
  refine ak (aj (.inl rfl) ?_)
  simp
  refine ak (aj (.inl rfl) ?_)
  by_cases k : lo ≤ n
  · simp [k]
    refine aO (hQ _ _ ?_)
    simp [k]
  · simp [k]
    refine aO (hQ _ _ ?_)
    simp [k])
theorem x9 (s : aF) : Km.Pure tab.get KF [.c (.f .au), .a (s.row.map .f)] = Eq (vb false) := Km.Pure.eq (by
  refine dM aJu rfl fun Q hQ => ?_
  refine ak (aj (.inl rfl) ?_)
  simp [aF.row]
  refine ak (aj (.inl rfl) ?_)
  have hw := LC s.room 0 (-1)
  have e : (decide (0 ≤ s.room) && decide (s.room ≤ -1)) = false := by
    by_cases k : 0 ≤ s.room
    · simp [show ¬ s.room ≤ -1 by omega]
    · simp [k]
  rw [e] at hw
  by_cases k : 1 ≤ s.meet
  · simp [k, hw, bY, wrap64 (n := -1) (by decide) (by decide)]
    refine aO (hQ _ _ ?_)
    simp
  · simp [k]
    refine aO (hQ _ _ ?_)
    simp)
theorem Ec : Km.Pure tab.get aBT [.c (.f .au)] = Eq (vi 0) := Km.Pure.eq (tK (m := 3000) (d := 60) (by kernel_rfl))
theorem Nj (g : Tg) (l : List aF) (hl : l.length ≤ 4096) : Km.Pure tab.get TR [.c (.f .au), .c (.f (sl g (aA l)))] = Eq (vb l.isEmpty) := Km.Pure.eq (by
  refine dM aJv rfl fun Q hQ => ?_
  refine ak (aj (.inl rfl) ?_)
  simp
  refine ak ?_
  refine ak ?_
  refine aj (.inl rfl) ?_
  simp [Ec, show ¬ (4096 : Int) < l.length by omega]
  refine aB (by simp) (aN ?_)
  refine ak ?_
  refine ak (aj (.inl rfl) ?_)
  simp
  refine jh l.length (fun j t H => t.g 0 = .c (.f .au) ∧ t.g 15 = .c (.f (sl g (aA l))) ∧ j = 0) (by omega) (by decide) (by decide) (by simp) (by simp) ⟨by simp, by simp, rfl⟩ ?_ ?_
  · rintro j t H hj ⟨g0, g15, rfl⟩ ha hb next
    have hidx := dJ (H := H) (g := g) (rows := aA l) (sz := 7) (k := .i64) (i := ((0 : Nat) : Int)) (by omega) (by simp; omega)
    have hld := fP (H := H) (aY l) (eP hj)
    rw [Int.toNat_natCast] at hidx
    obtain ⟨x, hx⟩ : ∃ x, x = l[0] := ⟨_, rfl⟩
    rw [← hx] at hld
    have hxl : x.row.length = 7 := rfl
    have hn := x9 x
    simp at hidx hld
    refine aS ?_
    refine ak (aj (.inl rfl) ?_)
    simp [ha, g15, hidx, hld, hxl]
    obtain ⟨H3, hH3⟩ : ∃ H3 : Heap, H3 = H ++ [.box (x.row.map .f) 0] := ⟨_, rfl⟩
    have q : ldV H3 (some 7) (.c (.ptr H.length 0 0)) = some (.a (x.row.map .f)) := by rw [hH3]; simp [bC, aF.row]
    rw [← hH3]
    refine ak ?_
    refine aj (.inl rfl) ?_
    simp [g0, q, hn, -aU]
    refine aI (by simp) (ak (aj (.inl rfl) ?_))
    simp
    refine aO (hQ _ _ ?_)
    have : l ≠ [] := by rintro rfl; simp at hj
    simp [this]
  · rintro t H ⟨g0, g15, hl0⟩ - -
    refine ak (aj (.inl rfl) ?_)
    simp
    refine aO (hQ _ _ ?_)
    have : l = [] := List.length_eq_zero_iff.1 hl0
    simp [this])
theorem NK (g : Tg) (l : List aF) (hl : l.length ≤ 4096) (s : aF) : Km.Pure tab.get KG [.c (.f .au), .c (.f (sl g (aA l))), .a (s.row.map .f)] = Eq (.t [.c (.f .pW), vb false]) := Km.Pure.eq (by
  refine dM aJw rfl fun Q hQ => ?_
  have h1 := Nj g l hl
  have h2 := x9 s
  have hsl : s.row.length = 7 := rfl
  refine ak (aj (.inl rfl) ?_)
  simp
  have q : ∀ H : Heap, H = [.box (s.row.map .f) 0] → ldV H (some 7) (.c (.ptr 0 0 0)) = some (.a (s.row.map .f)) := fun H e => by rw [e]; simp [bC, aF.row]
  obtain ⟨H0, hH0⟩ : ∃ H0 : Heap, H0 = [.box (s.row.map .f) 0] := ⟨_, rfl⟩
  have q := q H0 hH0
  rw [← hH0]
  refine ak ?_
  refine ak ?_
  refine aj (.inl rfl) ?_
  have hno : ∀ t : T, t.g 19 = vb true → WP tab.get KG none [.code La, .code KZ] ⟨t, [], H0⟩ Q := by
    intro t g
    refine aI (by simp [g]) (ak (aj (.inl rfl) ?_))
    simp
    refine aO (hQ _ _ ?_)
    simp [Km.results, bG, exV, dD, deep]
  cases he : l.isEmpty
  · rw [he] at h1
    simp [h1]
    exact hno _ (by simp)
  · rw [he] at h1
    simp [h1, h2, q, -aU]
    exact hno _ (by simp))
theorem Je (g : Tg) (l : List aF) (hl : l.length ≤ 4096) (s : aF) : Km.Pure tab.get TU [.c (.f .au), .c (.f (sl g (aA l))), .a (s.row.map .f)] = Eq (.t [.a [.f (fi 0), .f (fi 0), .f (fi 0), .f (fi 0), .f (fi 0), .f (fi 0), .f (fi 0), .f (fi 0)], vi 1]) := Km.Pure.eq (by
  refine dM aJx rfl fun Q hQ => ?_
  have h1 := NK g l hl s
  refine ak (aj (.inl rfl) ?_)
  simp
  obtain ⟨H0, hH0⟩ : ∃ H0 : Heap, H0 = [.box (s.row.map .f) 0, .box [.f (fi 0), .f (fi 0), .f (fi 0), .f (fi 0), .f (fi 0), .f (fi 0), .f (fi 0), .f (fi 0)] 0] := ⟨_, rfl⟩
  have q : ldV H0 (some 7) (.c (.ptr 0 0 0)) = some (.a (s.row.map .f)) := by rw [hH0]; simp [bC, aF.row]
  have z1 : H0[1]? = some (.box [.f (fi 0), .f (fi 0), .f (fi 0), .f (fi 0), .f (fi 0), .f (fi 0), .f (fi 0), .f (fi 0)] 0) := by rw [hH0]; rfl
  rw [← hH0]
  refine ak (aj (.inl rfl) ?_)
  simp [q, h1, -aU]
  refine ak ?_
  refine ak (aj (.inl rfl) ?_)
  simp
  refine aI (by simp) (ak (aj (.inl rfl) ?_))
  simp [z1]
  refine aO (hQ _ _ ?_)
  simp [Km.results, bG, exV, dD, deep, aT z1])
end Go.Proofs.YtcjhnkginmflhaaGreat
end

section
namespace Go.Proofs.YtcjhnkginmflhaaGreat
open Go Km

/-! ### The reference, with no aGl -/
theorem tq : Km.Pure tab.get aBU [.c (.f .au)] = Eq (vi 0) := Km.Pure.eq (tK (m := 3000) (d := 60) (by kernel_rfl))
theorem wJ (s : aF) : Km.Pure tab.get KT [.a (s.row.map .f), vi 0] = Eq (vb false) := Km.Pure.eq (by
  refine dM aJR rfl fun Q hQ => ?_
  refine ak (aj (.inl rfl) ?_)
  simp [aF.row]
  refine ak (aj (.inl rfl) ?_)
  by_cases k : 1 ≤ s.meet
  · by_cases k2 : 0 ≤ s.room
    · simp [k, k2, show ¬ s.room < 0 by omega]
      refine aO (hQ _ _ ?_)
      simp
    · simp [k, k2]
      refine aO (hQ _ _ ?_)
      simp
  · simp [k]
    refine aO (hQ _ _ ?_)
    simp)
theorem Hg (g : Tg) (l : List aF) (hl : l.length ≤ 4096) : Km.Pure tab.get Ud [.c (.f (sl g (aA l))), vi 0] = Eq (vb l.isEmpty) := Km.Pure.eq (by
  refine dM aJT rfl fun Q hQ => ?_
  refine ak (aj (.inl rfl) ?_)
  simp
  refine ak ?_
  refine ak (aj (.inl rfl) ?_)
  simp [show ¬ (4096 : Int) < l.length by omega]
  refine aB (by simp) (aN ?_)
  refine ak ?_
  refine ak (aj (.inl rfl) ?_)
  simp
  refine iU l.length (fun j t H => t.g 0 = .c (.f (sl g (aA l))) ∧ t.g 1 = vi 0 ∧ j = 0) (by omega) rfl (by simp) ⟨by simp, by simp, rfl⟩ ?_ ?_ ?_
  · rintro j t H L hj ⟨g0, g1, h0⟩ ha hk
    simp [ha, g0]
    exact hk _ ⟨by simp [g0], by simp [g1], h0⟩ (by simp [ha]) (by simp)
  · rintro j t H hj ⟨g0, g1, rfl⟩ ha next
    have hidx := dJ (H := H) (g := g) (rows := aA l) (sz := 7) (k := .i64) (i := ((0 : Nat) : Int)) (by omega) (by simp; omega)
    have hld := fP (H := H) (aY l) (eP hj)
    rw [Int.toNat_natCast] at hidx
    obtain ⟨x, hx⟩ : ∃ x, x = l[0] := ⟨_, rfl⟩
    rw [← hx] at hld
    have hn := wJ x
    simp at hidx hld
    refine aS ?_
    refine ak (aj (.inl rfl) ?_)
    simp [ha, g0, g1, hidx, hld, hn]
    refine aI (by simp) (ak (aj (.inl rfl) ?_))
    simp
    refine aO (hQ _ _ ?_)
    have : l ≠ [] := by rintro rfl; simp at hj
    simp [this]
  · rintro t H ⟨g0, g1, hl0⟩ ha
    refine ak (aj (.inl rfl) ?_)
    simp
    refine aO (hQ _ _ ?_)
    have : l = [] := List.length_eq_zero_iff.1 hl0
    simp [this])
theorem Ef (g : Tg) (l : List aF) (hl : l.length ≤ 4096) (s : aF) : Km.Pure tab.get Uc [.c (.f .au), .c (.f (sl g (aA l))), .a (s.row.map .f)] = Eq (vb false) := Km.Pure.eq (by
  refine dM aJS rfl fun Q hQ => ?_
  have h1 := Hg g l hl
  have h2 := wJ s
  refine ak (aj (.inl rfl) ?_)
  simp
  obtain ⟨H0, hH0⟩ : ∃ H0 : Heap, H0 = [.box (s.row.map .f) 0] := ⟨_, rfl⟩
  have q : ldV H0 (some 7) (.c (.ptr 0 0 0)) = some (.a (s.row.map .f)) := by rw [hH0]; simp [bC, aF.row]
  rw [← hH0]
  refine ak (aj (.inl rfl) ?_)
  cases he : l.isEmpty
  · rw [he] at h1
    simp [tq, h1, bY]
    refine aO (hQ _ _ ?_)
    simp
  · rw [he] at h1
    simp [tq, h1, h2, q, bY, -aU]
    refine aO (hQ _ _ ?_)
    simp)
theorem Ep (g : Tg) (l : List aF) (hl : l.length ≤ 4096) (s : aF) : Km.Pure tab.get Ue [.c (.f .au), .c (.f (sl g (aA l))), .a (s.row.map .f)] = Eq (.t [.a [.f (fi 0), .f (fi 0), .f (fi 0), .f (fi 0), .f (fi 0), .f (fi 0), .f (fi 0), .f (fi 0)], vi 1]) := Km.Pure.eq (by
  refine dM aJU rfl fun Q hQ => ?_
  have h1 := Ef g l hl s
  refine ak (aj (.inl rfl) ?_)
  simp
  obtain ⟨H0, hH0⟩ : ∃ H0 : Heap, H0 = [.box (s.row.map .f) 0, .box [.f (fi 0), .f (fi 0), .f (fi 0), .f (fi 0), .f (fi 0), .f (fi 0), .f (fi 0), .f (fi 0)] 0] := ⟨_, rfl⟩
  have q : ldV H0 (some 7) (.c (.ptr 0 0 0)) = some (.a (s.row.map .f)) := by rw [hH0]; simp [bC, aF.row]
  have z1 : H0[1]? = some (.box [.f (fi 0), .f (fi 0), .f (fi 0), .f (fi 0), .f (fi 0), .f (fi 0), .f (fi 0), .f (fi 0)] 0) := by rw [hH0]; rfl
  rw [← hH0]
  refine ak ?_
  refine ak (aj (.inl rfl) ?_)
  simp [q, h1, -aU]
  refine aI (by simp) (ak (aj (.inl rfl) ?_))
  simp [z1]
  refine aO (hQ _ _ ?_)
  simp [Km.results, bG, exV, dD, deep, aT z1])
end Go.Proofs.YtcjhnkginmflhaaGreat
end

section
namespace Go.Proofs.YtcjhnkginmflhaaGreat
open Go Km

/-! ### aOo, by the reference -/
def bM (h : HsD) (x : aQ) : Int := if dh h = false ∨ x.id < 1 ∨ x.state ≠ 1 ∨ jO x.dl = false then 1 else if (fidx x.id h.l).isSome then 5 else if x.dl < h.clock then 17 else 0
def iZ (h : HsD) (x : aQ) : Int := if bM h x = 0 then 1 else bM h x
theorem Hu (h : HsD) (hl : h.l.length ≤ 30) (x : aQ) : Km.Pure tab.get KH [.a (h.row.map .f), .a (x.row.map .f)] = Eq (vi (bM h x)) := Km.Pure.eq (by
  refine dM aJy rfl fun Q hQ => ?_
  have hv := oq h hl
  have hf := Eh h hl x.id
  have hhl : h.row.length = 3 := rfl
  have hxl : x.row.length = 10 := rfl
  refine ak (aj (.inl rfl) ?_)
  simp
  obtain ⟨H0, hH0⟩ : ∃ H0 : Heap, H0 = [.box (h.row.map .f) 0, .box (x.row.map .f) 0] := ⟨_, rfl⟩
  have a0 : ldV H0 (some 3) (.c (.ptr 0 0 0)) = some (.a (h.row.map .f)) := by rw [hH0]; simp [bC, HsD.row]
  have a1 : ldV H0 none (.c (.ptr 0 0 0)) = some (vi h.clock) := by rw [hH0]; simp [bC, HsD.row]
  have a2 : ldV H0 none (.c (.ptr 0 2 0)) = some (.c (.f (sl h.lg (aJ h.l)))) := by rw [hH0]; simp [bC, HsD.row]
  have x0 : ldV H0 none (.c (.ptr 1 0 0)) = some (vi x.id) := by rw [hH0]; simp [bC, aQ.row]
  have x1 : ldV H0 none (.c (.ptr 1 1 0)) = some (vi x.dl) := by rw [hH0]; simp [bC, aQ.row]
  have x2 : ldV H0 none (.c (.ptr 1 2 0)) = some (vi x.state) := by rw [hH0]; simp [bC, aQ.row]
  rw [← hH0]
  have bad : bM h x = 1 → ∀ t : T, t.g 23 = vb true → WP tab.get KH none [.code Le, .code Lc] ⟨t, [], H0⟩ Q := by
    intro he t g
    refine aI (by simp [g]) (ak (aj (.inl rfl) ?_))
    simp
    refine aO (hQ _ _ ?_)
    simp [he]
  refine ak ?_
  refine ak ?_
  refine aj (.inl rfl) ?_
  cases hB : dh h
  case false =>
    simp [a0, hv, hB, -aU]
    exact bad (by simp [bM, hB]) _ (by simp)
  by_cases k1 : x.id < 1
  · simp [a0, hv, hB, x0, k1, -aU]
    exact bad (by simp [bM, k1]) _ (by simp)
  by_cases k2 : x.state = 1
  case neg =>
    simp [a0, hv, hB, x0, x2, k1, k2, -aU]
    exact bad (by simp [bM, k2]) _ (by simp)
  cases m : jO x.dl
  case false =>
    simp [a0, hv, hB, x0, x1, x2, k1, k2, kE, m, -aU]
    exact bad (by simp [bM, m]) _ (by simp)
  simp [a0, hv, hB, x0, x1, x2, k1, k2, kE, m, -aU]
  refine aB (by simp) (aN ?_)
  refine ak ?_
  refine ak ?_
  refine aj (.inl rfl) ?_
  cases hfx : fidx x.id h.l with
  | some i =>
    rw [hfx] at hf
    simp [a0, x0, hf, -aU]
    refine aI (by simp) (ak (aj (.inl rfl) ?_))
    simp
    refine aO (hQ _ _ ?_)
    have : bM h x = 5 := by simp [bM, hB, k1, k2, m, hfx]
    simp [this]
  | none =>
  rw [hfx] at hf
  simp [a0, x0, hf, -aU]
  refine aB (by simp) (aN ?_)
  refine ak ?_
  refine ak ?_
  refine aj (.inl rfl) ?_
  by_cases k3 : x.dl < h.clock
  · simp [x1, a1, k3, -aU]
    refine aI (by simp) (ak (aj (.inl rfl) ?_))
    simp
    refine aO (hQ _ _ ?_)
    have : bM h x = 17 := by simp [bM, hB, k1, k2, m, hfx, k3]
    simp [this]
  simp [x1, a1, k3, -aU]
  refine aB (by simp) (aN ?_)
  refine ak ?_
  refine ak ?_
  refine aj (.inl rfl) ?_
  simp [a2, show ¬ (4096 : Int) ≤ h.l.length by omega, -aU]
  refine aB (by simp) (aN ?_)
  refine ak (aj (.inl rfl) ?_)
  simp
  refine aO (hQ _ _ ?_)
  have : bM h x = 0 := by simp [bM, hB, k1, k2, m, hfx, k3]
  simp [this])
theorem Hl (s : aF) : Km.Pure tab.get F7 [.c (.f .au), .a (s.row.map .f)] = Eq (vb false) := by simpa [aA, sl, Tg.fc] using JF .nil [] (by simp) s
theorem DK (h : HsD) (hl : h.l.length ≤ 30) : ∃ g A, A.length ≤ 60 ∧ Km.Pure tab.get KI [.a (h.row.map .f), .c (.f .au)] = Eq (.c (.f (sl g (aA A)))) := by
  obtain ⟨r, ⟨g, A, hA, rfl⟩, hp⟩ : ∃ r, (∃ (g : Tg) (A : List aF), A.length ≤ 60 ∧ r = .c (.f (sl g (aA A)))) ∧ Km.Pure tab.get KI [.a (h.row.map .f), .c (.f .au)] r := by
    refine jU aJF rfl fun Q hQ => ?_
    obtain ⟨gl, hlive⟩ := Ee h hl
    obtain ⟨B, hB⟩ : ∃ B, B = (if dh h then iO [] h.l else []) := ⟨_, rfl⟩
    rw [← hB] at hlive
    have hBl : B.length ≤ 30 := by
      rw [hB]; split
      · have := qR h.l []; simp at this; omega
      · simp
    have hhl : h.row.length = 3 := rfl
    refine ak (aj (.inl rfl) ?_)
    simp
    obtain ⟨H0, hH0⟩ : ∃ H0 : Heap, H0 = [.box (h.row.map .f) 0] := ⟨_, rfl⟩
    have a0 : ldV H0 (some 3) (.c (.ptr 0 0 0)) = some (.a (h.row.map .f)) := by rw [hH0]; simp [bC, HsD.row]
    rw [← hH0]
    refine ak (aj (.inl rfl) ?_)
    simp
    refine ak ?_
    refine ak (aj (.inl rfl) ?_)
    simp
    refine iU 0 (fun j t H => t.g 1 = .c (.f .au) ∧ t.g 2 = .c (.ptr 0 0 0) ∧ t.g 5 = .c (.f .au) ∧ H = H0) (by omega) rfl (by simp) ⟨by simp, by simp, by simp, rfl⟩ ?_ ?_ ?_
    · rintro j t H L hj ⟨g1, g2, g5, rfl⟩ ha hk
      simp [ha, g1, bY]
      exact hk _ ⟨by simp [g1], by simp [g2], by simp [g5], rfl⟩ (by simp [ha]) (by simp)
    · intro j t H hj; omega
    · rintro t H ⟨g1, g2, g5, rfl⟩ ha
      refine ak (aj (.inl rfl) ?_)
      simp [g2, a0, hlive, -aU]
      refine ak ?_
      refine ak (aj (.inl rfl) ?_)
      simp
      refine iU B.length (fun j t H' => t.g 1 = .c (.f .au) ∧ t.g 7 = .c (.f (sl gl (aA B))) ∧ ∃ (g : Tg) (A : List aF), t.g 5 = .c (.f (sl g (aA A))) ∧ A.length ≤ j) (by omega) rfl (by simp) ⟨by simp [g1], by simp, .nil, [], by simp [g5, aA, sl, Tg.fc], by simp⟩ ?_ ?_ ?_
      · rintro j t H L hj ⟨g1, g7, hA⟩ ha hk
        simp [ha, g7]
        exact hk _ ⟨by simp [g1], by simp [g7], by simpa using hA⟩ (by simp [ha]) (by simp)
      · rintro j t H hj ⟨g1, g7, g, A, g5, hA⟩ ha next
        have hidx := fun H : Heap => dJ (H := H) (g := gl) (rows := aA B) (sz := 7) (k := .i64) (i := (j : Int)) (by omega) (by simp; omega)
        have hld := fun H : Heap => fP (H := H) (aY B) (eP hj)
        simp only [Int.toNat_natCast] at hidx
        obtain ⟨g', hins⟩ := tH g A (by omega) B[j]
        have hh := Hl B[j]
        refine aS ?_
        refine ak (aj (.inl rfl) ?_)
        simp [ha, g1, g7, hidx, hld, hh]
        refine aI (by simp) (aj (.inl rfl) ?_)
        simp [ha, g5, g7, hidx, hld, hins]
        exact aP (next _ _ ⟨by simp [g1], by simp [g7], g', pX B[j] A, by simp, by rw [yP]; omega⟩ (by simp [ha]))
      · rintro t H ⟨g1, g7, g, A, g5, hA⟩ ha
        refine ak (aj (.inl rfl) ?_)
        simp [g5]
        refine aO (hQ _ _ (.c (.f (sl g (aA A)))) ⟨g, A, by omega, rfl⟩ ?_)
        simp
  exact ⟨g, A, hA, hp.eq⟩
end Go.Proofs.YtcjhnkginmflhaaGreat
end

section
namespace Go.Proofs.YtcjhnkginmflhaaGreat
open Go Km

def iK : List C := [.f (fi 0), .f (fi 0), .f (fi 0), .f (fi 0), .f (fi 0), .f (fi 0), .f (fi 0), .f (fi 0)]
theorem LV (h : HsD) (hl : h.l.length ≤ 30) (x : aQ) : Km.Pure tab.get KQ [.a (h.row.map .f), .a [.f .au, .f .au], .a (x.row.map .f)] = Eq (.t [.a (dO.row.map .f), .a iK, vi (iZ h x)]) := Km.Pure.eq (by
  refine dM aJO rfl fun Q hQ => ?_
  have hr := Hu h hl x
  obtain ⟨g, A, hA, aNs⟩ := DK h hl
  have hadm := Ep g A (by omega) x.stand
  have hhl : h.row.length = 3 := rfl
  have hxl : x.row.length = 10 := rfl
  refine ak (aj (.inl rfl) ?_)
  simp
  obtain ⟨H0, hH0⟩ : ∃ H0 : Heap, H0 = [.box (h.row.map .f) 0, .box [.f .au, .f .au] 0, .box (x.row.map .f) 0, .box [.f (fi 0), .f (fi 0), .f .au] 0, .box iK 0] := ⟨_, rfl⟩
  have a0 : ldV H0 (some 3) (.c (.ptr 0 0 0)) = some (.a (h.row.map .f)) := by rw [hH0]; simp [bC, HsD.row]
  have p0 : ldV H0 none (.c (.ptr 1 0 0)) = some (.c (.f .au)) := by rw [hH0]; simp [bC]
  have p1 : ldV H0 none (.c (.ptr 1 1 0)) = some (.c (.f .au)) := by rw [hH0]; simp [bC]
  have x0 : ldV H0 (some 10) (.c (.ptr 2 0 0)) = some (.a (x.row.map .f)) := by rw [hH0]; simp [bC, aQ.row]
  have x3 : ldV H0 (some 7) (.c (.ptr 2 3 0)) = some (.a (x.stand.row.map .f)) := by rw [hH0]; simp [bC, aQ.row, aF.row]
  have z3 : H0[3]? = some (.box [.f (fi 0), .f (fi 0), .f .au] 0) := by rw [hH0]; rfl
  have z4 : H0[4]? = some (.box iK 0) := by rw [hH0]; rfl
  have s3 : ∀ H : Heap, H[3]? = some (.box [.f (fi 0), .f (fi 0), .f .au] 0) → stC H (.ptr 3 0 0) [.f (fi 0), .f (fi 0), .f .au] = some H := fun H hz => by
    simp [hz]
    have e := (List.getElem?_eq_some_iff.1 hz)
    obtain ⟨hlt, e⟩ := e
    conv => rhs; rw [← List.set_getElem_self (as := H) hlt]
    rw [e]
  have s4 : ∀ H : Heap, H[4]? = some (.box iK 0) → stC H (.ptr 4 0 0) [.f (fi 0), .f (fi 0), .f (fi 0), .f (fi 0), .f (fi 0), .f (fi 0), .f (fi 0), .f (fi 0)] = some H := fun H hz => by
    simp [hz, iK]
    have e := (List.getElem?_eq_some_iff.1 hz)
    obtain ⟨hlt, e⟩ := e
    conv => rhs; rw [← List.set_getElem_self (as := H) hlt]
    rw [e]; rfl
  simp only [iK] at hH0
  rw [← hH0]
  have out : ∀ (t : T) (H : Heap) (k : List eG), H[3]? = some (.box [.f (fi 0), .f (fi 0), .f .au] 0) → H[4]? = some (.box iK 0) → t.g 6 = .c (.ptr 3 0 0) → t.g 7 = .c (.ptr 4 0 0) → t.g 8 = vi (iZ h x) → WP tab.get KQ none (.code .ret :: k) ⟨t, [], H⟩ Q := by
    intro t H k z3 z4 g6 g7 g8
    have q3 : ldV H (some 3) (.c (.ptr 3 0 0)) = some (.a [.f (fi 0), .f (fi 0), .f .au]) := by simp [z3, bC]
    have q4 : ldV H (some 8) (.c (.ptr 4 0 0)) = some (.a iK) := by simp [z4, bC, iK]
    refine aO (hQ _ _ ?_)
    simp [Km.results, bG, g6, g7, g8, q3, q4, exV, dD, deep, dO, HsD.row, iK, sl, Tg.fc, aJ, -aU]
  refine ak (aj (.inl rfl) ?_)
  simp [a0, x0, hr, -aU]
  refine ak ?_
  refine ak ?_
  refine aj (.inl rfl) ?_
  simp
  by_cases he : bM h x = 0
  case neg =>
    have hg : iZ h x = bM h x := by simp [iZ, he]
    refine aI (by simp [he]) (ak (aj (.inl rfl) ?_))
    simp [s3 H0 z3, s4 H0 z4, -dY]
    exact out _ _ _ z3 z4 (by simp) (by simp) (by simp [hg])
  have hg : iZ h x = 1 := by simp [iZ, he]
  refine aB (by simp [he]) (aN ?_)
  refine ak (aj (.inl rfl) ?_)
  simp [a0, p0, p1, x3, aNs, hadm, -aU]
  obtain ⟨H1, hH1⟩ : ∃ H1 : Heap, H1 = H0 ++ [.box [.f (fi 0), .f (fi 0), .f (fi 0), .f (fi 0), .f (fi 0), .f (fi 0), .f (fi 0), .f (fi 0)] 0] := ⟨_, rfl⟩
  have y3 : H1[3]? = some (.box [.f (fi 0), .f (fi 0), .f .au] 0) := by rw [hH1, List.getElem?_append_left (aT z3)]; exact z3
  have y4 : H1[4]? = some (.box iK 0) := by rw [hH1, List.getElem?_append_left (aT z4)]; exact z4
  rw [← hH1]
  refine ak ?_
  refine ak ?_
  refine aj (.inl rfl) ?_
  simp
  refine aI (by simp) (ak (aj (.inl rfl) ?_))
  simp [s3 H1 y3, s4 H1 y4, -dY]
  exact out _ _ _ y3 y4 (by simp) (by simp) (by simp [hg]))
end Go.Proofs.YtcjhnkginmflhaaGreat
end

section
namespace Go.Proofs.YtcjhnkginmflhaaGreat
open Go Km

/-! ### Concat -/
theorem LR.added {H : Heap} {c : C} {sz : Nat} {rows : List (List FC)} (h : LR H c sz rows) (hg : Grid sz rows) : fA H sz (.c c) = some (rows.length, rows.flatten.map .f) := by
  rcases h with ⟨rfl, rfl | rfl⟩ | ⟨hne, b, ep, rfl, h2⟩
  · simp [fA, bY, dA]
  · simp [fA, bY, dA]
  · have hl := h2.len (o := 0) (l := rows.length) (c := 0)
    unfold RB at h2
    have hf : rows.length * sz = rows.flatten.length := (fM hg).symm
    have hc : dA H sz (.sl b 0 rows.length 0 ep sz) = some (rows.flatten.map .f) := by
      simp only [dA, h2]
      rw [if_pos ⟨trivial, trivial, by rw [List.length_map, hf]; omega⟩, List.drop_zero, List.take_of_length_le (by rw [List.length_map, hf]; exact Nat.le_refl _)]
    simp only [fA, hl, hc]

theorem aB1 (t : T) (H : Heap) (sz bytes : Nat) (zs : List FC) (x n : Arg) : xOp t H (.qc sz bytes zs x n) = zu H sz bytes zs (x.ev t) (n.ev t) := rfl
theorem apR (H : Heap) (n : Nat) (hn : n ≤ 1000) : ∃ r H', Ev tab.get (.fn TJ) [.c (.f .au), vi n] H r H' ∧
    ((n = 0 ∧ r = .c (.f .au) ∧ H' = H) ∨ (0 < n ∧ r = .c (.sl H.length 0 0 0 0 7) ∧ ∃ cs : List C, cs.length = n * 7 ∧ H' = H ++ [.opn 7 cs 0 0 .loc])) := by
  refine jo aJl rfl fun Q hQ => ?_
  refine ak (aj (.inl rfl) ?_)
  simp
  refine ak ?_
  refine ak (aj (.inl rfl) ?_)
  simp [show ¬ (n : Int) < 0 by omega]
  refine aB (by simp) (aN ?_)
  refine ak ?_
  refine ak (aj (.inl rfl) ?_)
  simp [bY, kJ, wrap64 (n := (0 : Int)) (by decide) (by decide), wrap64 (n := (n : Int)) (by omega) (by omega)]
  refine ak (aj (.inl rfl) ?_)
  simp
  rcases Nat.eq_zero_or_pos n with rfl | hp
  · refine aB (by simp) (aN ?_)
    refine ak (aj (.inl rfl) ?_)
    simp
    exact aO (hQ _ _ (.c (.f .au)) rfl (by simp [Km.results, bG]) (.inl ⟨rfl, rfl, rfl⟩))
  · refine aI (by simp; omega) ?_
    have e1 : iM H 7 (.c (.f .au)) none (some (vi 0)) none = some (.c (.f .au)) := rfl
    have e2 : ∃ cs : List C, cs.length = n * 7 ∧ zu H 7 88 [fi 0, fi 0, fi 0, fi 0, .au, fi 0, .au] (.c (.f .au)) (vi n) = some (.c (.sl H.length 0 n 0 0 7), H ++ [.opn 7 cs 0 0 .loc]) := by
      refine ⟨(dQ n [fi 0, fi 0, fi 0, fi 0, .au, fi 0, .au]).map .f, by simp [lu], ?_⟩
      have hi : jF (vi n) = some (n : Int) := rfl
      simp [zu, hi, show ¬ n = 0 by omega, show ¬ (n : Int) ≤ 0 by omega, ig (n := n) (b := 88) (by omega) (by decide)]
    obtain ⟨cs, hcs, e2⟩ := e2
    have e3 : iM (H ++ [.opn 7 cs 0 0 .loc]) 7 (.c (.sl H.length 0 n 0 0 7)) none (some (vi 0)) none = some (.c (.sl H.length 0 0 0 0 7)) := by
      have hb : cO n n none (some (vi ((0 : Nat) : Int))) none = some (0, 0, n) := by simp only [cO, bnd_nat (Nat.zero_le n)]; rfl
      have hat : (H ++ [Blk.opn 7 cs 0 0 .loc])[H.length]? = some (Blk.opn 7 cs 0 0 .loc) := by simp
      simp only [iM, hat, and_self, if_true]
      rw [show (vi 0 : V) = vi ((0 : Nat) : Int) from rfl, hb]
      simp
    refine aj (.inl rfl) ?_
    simp [bY, kJ, e1, aB1, e2, e3]
    refine ak (aj (.inl rfl) ?_)
    simp
    exact aO (hQ _ _ (.c (.sl H.length 0 0 0 0 7)) rfl (by simp [Km.results, bG]) (.inr ⟨hp, rfl, cs, hcs, rfl⟩))
theorem NH {H : Heap} {b : Nat} {c : C} {o : List aF} (hb : H[b]? = some (.box [.f .au, c] 0)) (hL : LR H c 7 (aA o)) (ho : o.length ≤ 40) :
    ∃ r H', Ev tab.get (.fn TK) [.c (.sl b 0 2 2 0 1)] H r H' ∧ ∃ c2, r = .c c2 ∧ Kp H H' ∧ LR H' c2 7 (aA o) := by
  refine jo aJn rfl fun Q hQ => ?_
  have i0 : ∀ H1 : Heap, H1[b]? = some (.box [.f .au, c] 0) → bH H1 1 none (.c (.sl b 0 2 2 0 1)) (vi 0) = some (.c (.ptr b 0 0)) := fun H1 h => by
    simp [bH, show jF (vi 0) = some (0 : Int) from rfl, h]
  have i1 : ∀ H1 : Heap, H1[b]? = some (.box [.f .au, c] 0) → bH H1 1 none (.c (.sl b 0 2 2 0 1)) (vi 1) = some (.c (.ptr b 1 0)) := fun H1 h => by
    simp [bH, show jF (vi 1) = some (1 : Int) from rfl, h]
  have l0 : ∀ H1 : Heap, H1[b]? = some (.box [.f .au, c] 0) → ldV H1 none (.c (.ptr b 0 0)) = some (.c (.f .au)) := fun H1 h => by simp [h, bC]
  have l1 : ∀ H1 : Heap, H1[b]? = some (.box [.f .au, c] 0) → ldV H1 none (.c (.ptr b 1 0)) = some (.c c) := fun H1 h => by simp [h, bC]
  have hlen := hL.len
  simp at hlen
  refine ak (aj (.inl rfl) ?_)
  simp
  refine ak (aj (.inl rfl) ?_)
  simp
  refine ak ?_
  refine ak (aj (.inl rfl) ?_)
  simp [bY, hb]
  refine jh 2 (fun j t H1 => H1 = H ∧ t.g 0 = .c (.sl b 0 2 2 0 1) ∧ t.g 9 = .c (.sl b 0 2 2 0 1) ∧ t.g 3 = vi (if j = 2 then (o.length : Int) else 0)) (by omega) (by decide) (by decide) (by simp) (by simp) ⟨rfl, by simp, by simp, by simp⟩ ?_ ?_
  · rintro j t H1 hj ⟨rfl, g0, g9, g3⟩ ha hb2 next
    refine aS ?_
    refine ak (aj (.inl rfl) ?_)
    have h0 : bY H1 (.f .au) = some 0 := rfl
    rcases (by omega : j = 0 ∨ j = 1) with rfl | rfl
    · simp [ha, g9, i0 H1 hb, l0 H1 hb, -aU]
      refine ak (aj (.inl rfl) ?_)
      simp [g3, h0, wrap64 (n := (0 : Int)) (by decide) (by decide)]
      refine ak (aj (.inl rfl) ?_)
      simp
      exact aB (by simp) (aN (aP (next _ _ ⟨rfl, by simp [g0], by simp [g9], by simp⟩ (by simp [ha]) (by simp [hb2]))))
    · simp [ha, g9, i1 H1 hb, l1 H1 hb, -aU]
      refine ak (aj (.inl rfl) ?_)
      simp [g3, hlen, wrap64 (n := (o.length : Int)) (by omega) (by omega)]
      refine ak (aj (.inl rfl) ?_)
      simp [show ¬ (o.length : Int) < 0 by omega]
      exact aB (by simp) (aN (aP (next _ _ ⟨rfl, by simp [g0], by simp [g9], by simp⟩ (by simp [ha]) (by simp [hb2]))))
  · rintro t H1 ⟨rfl, g0, g9, g3⟩ - -
    obtain ⟨r, H2, hgr, hgc⟩ := apR H1 o.length (by omega)
    have hgr := hgr.eq
    refine ak (aj (.inl rfl) ?_)
    simp at g3
    simp [g3, hgr]
    have hk2 : Kp H1 H2 := by
      rcases hgc with ⟨_, _, rfl⟩ | ⟨_, _, cs, _, rfl⟩
      · exact Kp.refl _
      · exact Kp.push _ _
    have b2 : H2[b]? = some (.box [.f .au, c] 0) := by rw [hk2.2 b (aT hb)]; exact hb
    have hL2 : LR H2 c 7 (aA o) := hL.keep fun i y hy _ => by rw [hk2.2 i (aT hy)]; exact hy
    have hadd := LR.added hL2 (aY o)
    have hnil : fA H2 7 (.c (.f .au)) = some (0, []) := rfl
    have ap0 : dH H2 7 88 r (.c (.f .au)) = some (r, H2) := by
      rcases hgc with ⟨_, rfl, rfl⟩ | ⟨_, rfl, cs, _, rfl⟩
      · simp [dH, hnil]
      · simp [dH, hnil]
    have ap1 : ∃ c2 H3, dH H2 7 88 r (.c c) = some (.c c2, H3) ∧ Kp H1 H3 ∧ LR H3 c2 7 (aA o) := by
      rcases hgc with ⟨h0, rfl, rfl⟩ | ⟨hp, rfl, cs, hcs, rfl⟩
      · have : o = [] := List.length_eq_zero_iff.1 h0
        subst this
        simp at hadd
        exact ⟨.f .au, H2, by simp [dH, hadd], Kp.refl _, LR.nil _ _⟩
      · have hat : (H1 ++ [Blk.opn 7 cs 0 0 .loc])[H1.length]? = some (Blk.opn 7 cs 0 0 .loc) := by simp
        have hfl : (aA o).flatten.length = o.length * 7 := by have := fM (aY o); simpa using this
        have hov : over cs 0 ((aA o).flatten.map C.f) = (aA o).flatten.map C.f := by
          simp only [over, List.take_zero, List.nil_append, List.length_map, Nat.zero_add]
          rw [List.drop_of_length_le (by omega), List.append_nil]
        refine ⟨.sl H1.length 0 o.length 0 0 7, H1 ++ [.opn 7 ((aA o).flatten.map .f) 0 0 .loc], ?_, Kp.push _ _, .inr ⟨?_, H1.length, 0, by simp, by simp [RB]⟩⟩
        · simp only [dH, hadd, hat, and_self, if_true]
          rw [if_neg (by decide), if_neg (by rw [nR]; omega), if_neg (by rintro ⟨_, h, _⟩; omega), if_pos ⟨trivial, Nat.le_refl _, by rw [List.length_map]; omega⟩]
          simp only [Nat.zero_mul, Nat.add_zero, Nat.zero_add, hov, nR]
          simp
        · intro e
          have : (aA o).length = 0 := by rw [e]; rfl
          rw [nR] at this; omega
    obtain ⟨c2, H3, ap1, k3, L3⟩ := ap1
    refine ak ?_
    refine ak (aj (.inl rfl) ?_)
    simp [bY, g0, b2]
    refine jh 2 (fun j t Hx => t.g 25 = .c (.sl b 0 2 2 0 1) ∧ ((j = 2 ∧ t.g 6 = .c c2 ∧ Hx = H3) ∨ (j < 2 ∧ t.g 6 = r ∧ Hx = H2))) (by omega) (by decide) (by decide) (by simp) (by simp) ⟨by simp, .inr ⟨by omega, by simp, rfl⟩⟩ ?_ ?_
    · rintro j t Hx hj ⟨g25, h1 | ⟨_, g6, rfl⟩⟩ ha hb2 next
      · omega
      refine aS ?_
      refine ak (aj (.inl rfl) ?_)
      rcases (by omega : j = 0 ∨ j = 1) with rfl | rfl
      · simp [ha, g25, i0 Hx b2, l0 Hx b2, -aU]
        refine aj (.inl rfl) ?_
        simp [g6, ap0]
        exact aP (next _ _ ⟨by simp [g25], .inr ⟨by omega, by simp, rfl⟩⟩ (by simp [ha]) (by simp [hb2]))
      · simp [ha, g25, i1 Hx b2, l1 Hx b2, -aU]
        refine aj (.inl rfl) ?_
        simp [g6, ap1]
        exact aP (next _ _ ⟨by simp [g25], .inl ⟨rfl, by simp, rfl⟩⟩ (by simp [ha]) (by simp [hb2]))
    · rintro t Hx ⟨g25, ⟨_, g6, rfl⟩ | ⟨h1, _⟩⟩ - -
      · refine ak (aj (.inl rfl) ?_)
        simp [g6]
        exact aO (hQ _ _ (.c c2) rfl (by simp [Km.results, bG]) ⟨c2, rfl, k3, L3⟩)
      · omega
end Go.Proofs.YtcjhnkginmflhaaGreat
end

section
namespace Go.Proofs.YtcjhnkginmflhaaGreat
open Go Km

theorem LR.mkB {H : Heap} {c : C} {sz : Nat} {rows : List (List FC)} (h : LR H c sz rows) (hg : Grid sz rows) (n : Nat) {i : Nat} {cs : List C} {fl : Nat} (hi : H[i]? = some (.box cs fl)) : (mkC (n + 1) c H)[i]? = some (.box cs fl) := by
  have hn := h.Rh hi
  rcases h with ⟨_, rfl | rfl⟩ | ⟨hne, b, ep, rfl, h2⟩
  · exact hi
  · exact hi
  · unfold RB at h2
    have e : ∃ y, mkC (n + 1) (.sl b 0 rows.length 0 ep sz) H = H.set b y := by
      refine ⟨.opn sz (rows.flatten.map .f) (Nat.max 0 (0 + rows.length * sz)) ep .loc, ?_⟩
      simp only [aBE, h2]
      rw [J4]
      intro x hx
      have hx := List.mem_of_mem_drop (List.mem_of_mem_take hx)
      obtain ⟨m, _, rfl⟩ := List.mem_map.1 hx
      exact ⟨_, rfl⟩
    obtain ⟨y, e⟩ := e
    have : b ≠ i := by rintro rfl; exact hn rfl
    rw [e, List.getElem?_set_ne this]; exact hi

theorem Sl (h : HsD) (hl : h.l.length ≤ 30) (hs : ∀ x ∈ h.l, x.Sm) (x : aQ) : Km.Pure tab.get TW [.a (h.row.map .f), .c (.f .au), .c (.f .au), .a (x.row.map .f)] = Eq (.t [.a (dO.row.map .f), .a iK, vi (iZ h x)]) := Km.Pure.eq (by
  refine dM aNU rfl fun Q hQ => ?_
  have hv := qg h hl
  have hhl : h.row.length = 3 := rfl
  have hxl : x.row.length = 10 := rfl
  refine ak (aj (.inl rfl) ?_)
  simp
  obtain ⟨H0, hH0⟩ : ∃ H0 : Heap, H0 = [.box (h.row.map .f) 0, .box (x.row.map .f) 0, .box [.f (fi 0), .f (fi 0), .f .au] 0, .box iK 0] := ⟨_, rfl⟩
  have a0 : ∀ H : Heap, H[0]? = some (.box (h.row.map .f) 0) → ldV H (some 3) (.c (.ptr 0 0 0)) = some (.a (h.row.map .f)) := fun H hz => by simp [hz, bC, HsD.row]
  have a1 : ldV H0 none (.c (.ptr 0 0 0)) = some (vi h.clock) := by rw [hH0]; simp [bC, HsD.row]
  have a2 : ldV H0 none (.c (.ptr 0 2 0)) = some (.c (.f (sl h.lg (aJ h.l)))) := by rw [hH0]; simp [bC, HsD.row]
  have x0 : ldV H0 none (.c (.ptr 1 0 0)) = some (vi x.id) := by rw [hH0]; simp [bC, aQ.row]
  have x1 : ldV H0 none (.c (.ptr 1 1 0)) = some (vi x.dl) := by rw [hH0]; simp [bC, aQ.row]
  have x2 : ldV H0 none (.c (.ptr 1 2 0)) = some (vi x.state) := by rw [hH0]; simp [bC, aQ.row]
  have x3 : ∀ H : Heap, H[1]? = some (.box (x.row.map .f) 0) → ldV H (some 7) (.c (.ptr 1 3 0)) = some (.a (x.stand.row.map .f)) := fun H hz => by simp [hz, bC, aQ.row, aF.row]
  have z0 : H0[0]? = some (.box (h.row.map .f) 0) := by rw [hH0]; rfl
  have z1 : H0[1]? = some (.box (x.row.map .f) 0) := by rw [hH0]; rfl
  have z2 : H0[2]? = some (.box [.f (fi 0), .f (fi 0), .f .au] 0) := by rw [hH0]; rfl
  have z3 : H0[3]? = some (.box iK 0) := by rw [hH0]; rfl
  have s2 : ∀ H : Heap, H[2]? = some (.box [.f (fi 0), .f (fi 0), .f .au] 0) → stC H (.ptr 2 0 0) [.f (fi 0), .f (fi 0), .f .au] = some H := fun H hz => by
    simp [hz]
    obtain ⟨hlt, e⟩ := List.getElem?_eq_some_iff.1 hz
    conv => rhs; rw [← List.set_getElem_self (as := H) hlt]
    rw [e]
  have s3 : ∀ H : Heap, H[3]? = some (.box iK 0) → stC H (.ptr 3 0 0) [.f (fi 0), .f (fi 0), .f (fi 0), .f (fi 0), .f (fi 0), .f (fi 0), .f (fi 0), .f (fi 0)] = some H := fun H hz => by
    simp [hz, iK]
    obtain ⟨hlt, e⟩ := List.getElem?_eq_some_iff.1 hz
    conv => rhs; rw [← List.set_getElem_self (as := H) hlt]
    rw [e]; rfl
  simp only [iK] at hH0
  rw [← hH0]
  have out : ∀ (t : T) (H : Heap) (k : List eG), H[2]? = some (.box [.f (fi 0), .f (fi 0), .f .au] 0) → H[3]? = some (.box iK 0) → t.g 8 = .c (.ptr 2 0 0) → t.g 9 = .c (.ptr 3 0 0) → t.g 10 = vi (iZ h x) → WP tab.get TW none (.code .ret :: k) ⟨t, [], H⟩ Q := by
    intro t H k z3 z4 g6 g7 g8
    have q3 : ldV H (some 3) (.c (.ptr 2 0 0)) = some (.a [.f (fi 0), .f (fi 0), .f .au]) := by simp [z3, bC]
    have q4 : ldV H (some 8) (.c (.ptr 3 0 0)) = some (.a iK) := by simp [z4, bC, iK]
    refine aO (hQ _ _ ?_)
    simp [Km.results, bG, g6, g7, g8, q3, q4, exV, dD, deep, dO, HsD.row, iK, sl, Tg.fc, aJ, -aU]
  have bad : bM h x = 1 → ∀ t : T, t.g 8 = .c (.ptr 2 0 0) → t.g 9 = .c (.ptr 3 0 0) → t.g 35 = vb true → WP tab.get TW none [.code ZU, .code ZT] ⟨t, [], H0⟩ Q := by
    intro he t g8 g9 g
    have hg : iZ h x = 1 := by simp [iZ, he]
    refine aI (by simp [g]) (ak (aj (.inl rfl) ?_))
    simp [g8, g9, s2 H0 z2, s3 H0 z3, -dY]
    exact out _ _ _ z2 z3 (by simp [g8]) (by simp [g9]) (by simp [hg])
  refine ak ?_
  refine ak ?_
  refine aj (.inl rfl) ?_
  cases hB : dh h
  case false =>
    simp [a0 H0 z0, hv, hB, -aU]
    exact bad (by simp [bM, hB]) _ (by simp) (by simp) (by simp)
  by_cases k1 : x.id < 1
  · simp [a0 H0 z0, hv, hB, x0, k1, -aU]
    exact bad (by simp [bM, k1]) _ (by simp) (by simp) (by simp)
  by_cases k2 : x.state = 1
  case neg =>
    simp [a0 H0 z0, hv, hB, x0, x2, k1, k2, -aU]
    exact bad (by simp [bM, k2]) _ (by simp) (by simp) (by simp)
  cases m : jO x.dl
  case false =>
    simp [a0 H0 z0, hv, hB, x0, x1, x2, k1, k2, oV, m, -aU]
    exact bad (by simp [bM, m]) _ (by simp) (by simp) (by simp)
  simp [a0 H0 z0, hv, hB, x0, x1, x2, k1, k2, oV, m, -aU]
  refine aB (by simp) (aN ?_)
  obtain ⟨i, hi, hlt, hge, hfind⟩ := J5 h hl hB x.id
  have hfx := A8 hB hlt hge
  refine ak (aj (.inl rfl) ?_)
  simp [a0 H0 z0, x0, hfind, -aU]
  refine ak ?_
  refine aS ?_
  refine ak (aj (.inl rfl) ?_)
  simp
  cases hf : fnd h.l i x.id
  case true =>
    rw [hf] at hfx
    simp at hfx
    have he : bM h x = 5 := by simp [bM, hB, k1, k2, m, hfx]
    have hg : iZ h x = 5 := by simp [iZ, he]
    refine aI (by simp) (ak (aj (.inl rfl) ?_))
    simp [s2 H0 z2, s3 H0 z3, -dY]
    exact out _ _ _ z2 z3 (by simp) (by simp) (by simp [hg])
  rw [hf] at hfx
  simp at hfx
  refine aB (by simp) ?_
  refine ak (aj (.inl rfl) ?_)
  by_cases k3 : x.dl < h.clock
  · have he : bM h x = 17 := by simp [bM, hB, k1, k2, m, hfx, k3]
    have hg : iZ h x = 17 := by simp [iZ, he]
    simp [x1, a1, k3, -aU]
    refine aI (by simp) (ak (aj (.inl rfl) ?_))
    simp [s2 H0 z2, s3 H0 z3, -dY]
    exact out _ _ _ z2 z3 (by simp) (by simp) (by simp [hg])
  have he : bM h x = 0 := by simp [bM, hB, k1, k2, m, hfx, k3]
  have hg : iZ h x = 1 := by simp [iZ, he]
  simp [x1, a1, k3, -aU]
  refine aB (by simp) ?_
  refine ak (aj (.inl rfl) ?_)
  simp [a2, show ¬ (h.l.length : Int) = 4096 by omega, -aU]
  refine aB (by simp) (aN (aP ?_))
  obtain ⟨r1, H1, he1, c1, o, rfl, hk1, hL1, hu, hb1⟩ := Bf h hl hs H0
  have he1 := he1.eq
  have hol : o.length ≤ 30 := by
    have h1 := congrArg List.length hu
    simp at h1
    have h2 := sN (l := fK h.l) (acc := [])
    have h3 : (fK h.l).length ≤ h.l.length := by simp only [fK, List.length_map]; exact List.length_filter_le _ _
    simp at h2; omega
  obtain ⟨H2, hH2⟩ : ∃ H2 : Heap, H2 = H1 ++ [.box [.f .au, c1] 0] := ⟨_, rfl⟩
  have q2 : H2[H1.length]? = some (.box [.f .au, c1] 0) := by rw [hH2]; simp
  have hk2 : Kp H0 H2 := by rw [hH2]; exact ⟨by have := hk1.1; simp; omega, fun b' l => by rw [List.getElem?_append_left (Nat.lt_of_lt_of_le l hk1.1)]; exact hk1.2 b' l⟩
  have hL2 : LR H2 c1 7 (aA o) := by rw [hH2]; exact hL1.push _
  obtain ⟨r3, H3, he3, c3, rfl, hk3, hL3⟩ := NH q2 hL2 (by omega)
  have he3 := he3.eq
  have aNv : Kp H0 H3 := ⟨Nat.le_trans hk2.1 hk3.1, fun b' l => (hk3.2 b' (Nat.lt_of_lt_of_le l hk2.1)).trans (hk2.2 b' l)⟩
  obtain ⟨r4, H4, he4, rfl, hK4, o', hL4, hpo, -⟩ := Jw hL3 (by omega)
  have he4 := he4.eq
  have aOx : o'.length ≤ 30 := by rw [hpo.length_eq]; exact hol
  have up3 : ∀ (i : Nat) cs fl, H0[i]? = some (.box cs fl) → H4[i]? = some (.box cs fl) := fun i cs fl hy => by
    have h3 : H3[i]? = some (.box cs fl) := by rw [aNv.2 i (aT hy)]; exact hy
    exact hK4.2 i _ h3 (hL3.Rh h3)
  obtain ⟨g, hex⟩ := hL4.ex (aY _) 63
  have hadm := Je g o' (by omega) x.stand
  obtain ⟨H5, hH5⟩ : ∃ H5 : Heap, H5 = mkC 64 c3 H4 := ⟨_, rfl⟩
  have up5 : ∀ (i : Nat) cs fl, H0[i]? = some (.box cs fl) → H5[i]? = some (.box cs fl) := fun i cs fl hy => by rw [hH5]; exact LR.mkB hL4 (aY _) 63 (up3 i cs fl hy)
  obtain ⟨H6, hH6⟩ : ∃ H6 : Heap, H6 = H5 ++ [.box [.f (fi 0), .f (fi 0), .f (fi 0), .f (fi 0), .f (fi 0), .f (fi 0), .f (fi 0), .f (fi 0)] 0] := ⟨_, rfl⟩
  have up6 : ∀ (i : Nat) cs fl, H0[i]? = some (.box cs fl) → H6[i]? = some (.box cs fl) := fun i cs fl hy => by
    have := up5 i cs fl hy
    rw [hH6, List.getElem?_append_left (aT this)]; exact this
  refine ak (aj (.inl rfl) ?_)
  simp [a0 H0 z0, he1, -aU]
  rw [← hH2]
  simp [he3]
  refine ak (aj (.inl rfl) ?_)
  simp [he4]
  refine ak (aj (.inl rfl) ?_)
  simp [x3 H4 (up3 1 _ _ z1), exV, dD, deep, hex, hadm, -aU]
  rw [← hH5]
  try simp
  rw [← hH6]
  refine ak ?_
  refine ak ?_
  refine aj (.inl rfl) ?_
  simp
  refine aI (by simp) (ak (aj (.inl rfl) ?_))
  simp [s2 H6 (up6 2 _ _ z2), s3 H6 (up6 3 _ _ z3), -dY]
  exact out _ _ _ (up6 2 _ _ z2) (up6 3 _ _ z3) (by simp) (by simp) (by simp [hg]))
end Go.Proofs.YtcjhnkginmflhaaGreat
end

