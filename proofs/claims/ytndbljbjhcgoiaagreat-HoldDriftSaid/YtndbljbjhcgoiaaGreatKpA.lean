/-
  The small machine with an oracle for comparisons of integers.
-/
import Derived.Test.YtndbljbjhcgoiaaGreatK4

set_option linter.unusedVariables false
set_option linter.unusedSimpArgs false
set_option linter.unusedSectionVars false

namespace Km
open Go

/-- What the oracle said of two numbers. -/
structure Fact where
  op : BinOp
  x : Int
  y : Int
  b : Bool

def cmpI (op : BinOp) (x y : Int) : Option Bool :=
  match op with
  | .eql => some (x == y)
  | .neq => some (x != y)
  | .lss => some (decide (x < y))
  | .leq => some (decide (x ≤ y))
  | .gtr => some (decide (x > y))
  | .geq => some (decide (x ≥ y))
  | _ => none

def isCmp : BinOp → Bool
  | .eql | .neq | .lss | .leq | .gtr | .geq => true
  | _ => false

def Fact.holds (f : Fact) : Prop := cmpI f.op f.x f.y = some f.b

/-- The oracle: what is to come ('none': look), and what it has said. -/
structure Or where
  orc : List (Option Bool)
  log : List Fact

def Or.good (o : Or) : Prop := ∀ f ∈ o.log, f.holds

abbrev CallO := Callee → List V → Heap → Or → Option (V × Heap × Or)

def pureCallO (call : CallO) (c : Nat) (args : List V) (H : Heap) (o : Or) : Option (V × Heap × Or) :=
  match mapO (exV1 deep H) args with
  | none => none
  | some fs => match call (.fn c) fs [] o with
    | none => none
    | some (r, H', o') => match exV deep H' r with
      | none => none
      | some r' => some (r', args.foldl (mkV deep) H, o')

def oneCallO (call : CallO) (h : Bool) (c : Nat) (args : List V) (H : Heap) (o : Or) : Option (V × Heap × Or) :=
  if h then call (.fn c) args H o else pureCallO call c args H o

def plainO (s : St) (op : AOp) (o : Or) : Option (V × St × Or) :=
  match xOp s.regs s.heap op with
  | some (v, H) => some (v, { s with heap := H }, o)
  | none => none

def binO (s : St) (bop : BinOp) (x y : Arg) (o : Or) : Option (V × St × Or) :=
  if isCmp bop then
    match x.ev s.regs, y.ev s.regs with
    | .c (.f (.int k a)), .c (.f (.int k' b)) => match o.orc with
      | [] => none
      | q :: rest => match q with
        | some r => if k = k' then some (.c (.f (.bool r)), s, ⟨rest, ⟨bop, a, b, r⟩ :: o.log⟩) else none
        | none => plainO s (.bin bop x y) ⟨rest, o.log⟩
    | _, _ => plainO s (.bin bop x y) o
  else plainO s (.bin bop x y) o

def xOneO (call : CallO) (s : St) (op : AOp) (o : Or) : Option (V × St × Or) :=
  match op with
  | .call f args h => match oneCallO call h f (argsV s.regs args) s.heap o with
    | some (v, H, o) => some (v, { s with heap := H }, o)
    | none => none
  | .calld x args _ => match calleeV (x.ev s.regs) (argsV s.regs args) with
    | some (c, args) => match call c args s.heap o with
      | some (v, H, o) => some (v, { s with heap := H }, o)
      | none => none
    | none => none
  | .recover => some (.c (.f .nili), s, o)
  | .defer x args => match calleeV (x.ev s.regs) (argsV s.regs args) with
    | some (.fn f, args) => some (.top, { s with defs := .fn f args :: s.defs }, o)
    | _ => none
  | .bin bop x y => binO s bop x y o
  | op => plainO s op o

def xStepO (call : CallO) (s : St) (p : AOper) (o : Or) : Option (St × Or) :=
  match wanted s.regs p.g with
  | some true => match xOneO call s p.op o with
    | some (v, s', o') => some ({ s' with regs := putR s'.regs p.dst v }, o')
    | none => none
  | some false => some ({ s with regs := putR s.regs p.dst (.t []) }, o)
  | none => none

def xOpsO (call : CallO) : List AOper → St → Or → Option (St × Or)
  | [], s, o => some (s, o)
  | p :: ps, s, o => match xStepO call s p o with
    | some (s', o') => xOpsO call ps s' o'
    | none => none

def xStatesO (call : CallO) : List AOper → St → Or → Option (List St × Or)
  | [], s, o => some ([s], o)
  | p :: ps, s, o => match xStepO call s p o with
    | some (s', o') => match xStatesO call ps s' o' with
      | some (ss, o2) => some (s :: ss, o2)
      | none => none
    | none => none

def xRegionO (call : CallO) (ops : List AOper) (chk : List (Nat × Nat)) (s : St) (o : Or) : Option (St × Or) :=
  match chk with
  | [] => xOpsO call ops s o
  | c :: cs => match xStatesO call ops s o with
    | some (ss, o') => if (c :: cs).all (sameAt ops ss) then (ss.getLast?).map (·, o') else none
    | none => none

def runO (call : CallO) : Nat → List AItem → St → Or → Option (Option ACode × St × Or)
  | 0, _, _, _ => none
  | m + 1, todo, s, o =>
    match todo with
    | [] => some (none, s, o)
    | .inBlock _ :: k => runO call m k s o
    | .inLoop c :: k => runO call m (.code c :: .inLoop c :: k) s o
    | .inScope _ :: k => runO call m k s o
    | .code (.label _) :: k => runO call m k s o
    | .code (.scope a) :: k => runO call m (.code a :: .inScope a :: k) s o
    | .code .skip :: k => runO call m k s o
    | .code .ret :: _ => some (some .ret, s, o)
    | .code (.exit id) :: k => match exitTo id k with
      | some k => runO call m k s o
      | none => none
    | .code (.seq a b) :: k => runO call m (.code a :: .code b :: k) s o
    | .code (.block id a) :: k => runO call m (.code a :: .inBlock id :: k) s o
    | .code (.loop a) :: k => runO call m (.code a :: .inLoop a :: k) s o
    | .code (.cond c a b) :: k => match c.ev s.regs with
      | .c (.f (.bool v)) => runO call m (.code (if v then a else b) :: k) s o
      | _ => none
    | .code (.region ops chk) :: k =>
      match xRegionO call ops chk s o with
      | some (s, o) => runO call m k s o
      | none => none
    | _ => none

def runDefsO (call : CallO) : List ADef → Heap → Or → Option (Heap × Or)
  | [], H, o => some (H, o)
  | .coll _ :: _, _, _ => none
  | .fn f args :: ds, H, o => match call (.fn f) args H o with
    | some (_, H, o) => runDefsO call ds H o
    | none => none

def callO (tab : Nat → Option AFunc) (m : Nat) : Nat → CallO
  | 0, _, _, _, _ => none
  | d + 1, .fn f, args, H, o =>
    match tab f with
    | none => none
    | some af => if args.length = af.ps.length then match runO (callO tab m d) m [.code af.body] ⟨setAll af.ps args .e, [], H⟩ o with
      | some (_, s, o) => match runDefsO (callO tab m d) s.defs s.heap o with
        | some (H, o) => (results s.regs H af.results).map (·, H, o)
        | none => none
      | none => none
      else none
  | _ + 1, .yield _, _, _, _ => none

/-- What the one call gives the other gives, where all that was said is true. -/
def SimC (c' : CallO) (c : CallF) : Prop :=
  ∀ f args H o r H' o', c' f args H o = some (r, H', o') → o'.good → c f args H = some (r, H') ∧ o.good

theorem pureCallO_ok {c' : CallO} {c : CallF} (h : SimC c' c) {f args H o r H' o'} (e : pureCallO c' f args H o = some (r, H', o')) (g : o'.good) :
    pureCall c f args H = some (r, H') ∧ o.good := by
  unfold pureCallO at e
  unfold pureCall
  split at e
  · cases e
  · rename_i fs hf
    split at e
    · cases e
    · rename_i r1 H1 o1 h1
      split at e
      · cases e
      · rename_i r2 h2
        cases e
        obtain ⟨a, b⟩ := h _ _ _ _ _ _ _ h1 g
        simp only [hf, a, h2]
        exact ⟨trivial, b⟩

theorem oneCallO_ok {c' : CallO} {c : CallF} (h : SimC c' c) {s f args H o r H' o'} (e : oneCallO c' s f args H o = some (r, H', o')) (g : o'.good) :
    oneCall c s f args H = some (r, H') ∧ o.good := by
  unfold oneCallO at e
  unfold oneCall
  split at e
  · rename_i hs
    simp only [hs, if_true]
    exact h _ _ _ _ _ _ _ e g
  · rename_i hs
    simp only [hs]
    exact pureCallO_ok h e g

theorem plainO_ok {s : St} {op : AOp} {o o' : Or} {v : V} {s' : St} (e : plainO s op o = some (v, s', o')) (g : o'.good) :
    ((xOp s.regs s.heap op).map fun r => (r.1, ({ s with heap := r.2 } : St))) = some (v, s') ∧ o.good := by
  unfold plainO at e
  split at e
  · rename_i v1 H1 h1
    cases e
    rw [h1]
    exact ⟨rfl, g⟩
  · cases e

theorem cmp_bin {op : BinOp} {k : IntKind} {a b : Int} {r : Bool} (h : cmpI op a b = some r) : binI op k a b = some (.c (.f (.bool r))) := by
  unfold cmpI at h
  split at h <;> cases h <;> rfl

theorem binO_ok {s : St} {bop : BinOp} {x y : Arg} {o o' : Or} {v : V} {s' : St} (e : binO s bop x y o = some (v, s', o')) (g : o'.good) :
    ((xOp s.regs s.heap (.bin bop x y)).map fun r => (r.1, ({ s with heap := r.2 } : St))) = some (v, s') ∧ o.good := by
  unfold binO at e
  split at e
  · rename_i hc
    split at e
    · rename_i k a k' b hx hy
      split at e
      · cases e
      · rename_i q rest ho
        split at e
        · rename_i r
          split at e
          · rename_i hk
            cases e
            have hf : cmpI bop a b = some r := g ⟨bop, a, b, r⟩ (List.mem_cons_self ..)
            have hg : o.good := fun f hm => g f (List.mem_cons_of_mem _ hm)
            refine ⟨?_, hg⟩
            subst hk
            have hb : binV bop (.c (.f (.int k a))) (.c (.f (.int k b))) = some (.c (.f (.bool r))) := by
              cases bop <;> first | (exact absurd hc Bool.false_ne_true) | (show (if k = k then binI _ k a b else none) = _; rw [if_pos rfl]; exact cmp_bin hf)
            show ((binV bop (x.ev s.regs) (y.ev s.regs)).map (·, s.heap)).map _ = _
            rw [hx, hy, hb]
            rfl
          · cases e
        · obtain ⟨h1, h2⟩ := plainO_ok e g
          exact ⟨h1, h2⟩
    · exact plainO_ok e g
  · exact plainO_ok e g

theorem xOneO_ok {c' : CallO} {c : CallF} (h : SimC c' c) {s : St} {op : AOp} {o o' : Or} {v : V} {s' : St} (e : xOneO c' s op o = some (v, s', o')) (g : o'.good) :
    xOne c s op = some (v, s') ∧ o.good := by
  cases op with
  | call f args hs =>
    simp only [xOneO] at e
    split at e
    · rename_i v1 H1 o1 h1
      cases e
      obtain ⟨a, b⟩ := oneCallO_ok h h1 g
      exact ⟨by simp only [xOne, a]; rfl, b⟩
    · cases e
  | calld x args hs =>
    simp only [xOneO] at e
    split at e
    · rename_i f as h0
      split at e
      · rename_i v1 H1 o1 h1
        cases e
        obtain ⟨a, b⟩ := h _ _ _ _ _ _ _ h1 g
        exact ⟨by simp only [xOne, h0, a]; rfl, b⟩
      · cases e
    · cases e
  | recover => cases e; exact ⟨rfl, g⟩
  | defer x args =>
    simp only [xOneO] at e
    split at e
    · rename_i f as h0
      cases e
      exact ⟨by simp only [xOne, h0], g⟩
    · cases e
  | bin bop x y => exact binO_ok e g
  | _ =>
    simp only [xOneO] at e
    obtain ⟨a, b⟩ := plainO_ok e g
    exact ⟨a, b⟩

theorem xStepO_ok {c' : CallO} {c : CallF} (h : SimC c' c) {s : St} {p : AOper} {o o' : Or} {s' : St} (e : xStepO c' s p o = some (s', o')) (g : o'.good) :
    xStep c s p = some s' ∧ o.good := by
  unfold xStepO at e
  unfold xStep
  split at e
  · rename_i hw
    split at e
    · rename_i v s1 o1 h1
      cases e
      obtain ⟨a, b⟩ := xOneO_ok h h1 g
      simp only [hw, a]
      exact ⟨trivial, b⟩
    · cases e
  · rename_i hw
    cases e
    simp only [hw]
    exact ⟨trivial, g⟩
  · cases e

theorem xOpsO_ok {c' : CallO} {c : CallF} (h : SimC c' c) : ∀ (ps : List AOper) {s : St} {o o' : Or} {s' : St}, xOpsO c' ps s o = some (s', o') → o'.good → xOps c ps s = some s' ∧ o.good
  | [], s, o, o', s', e, g => by cases e; exact ⟨rfl, g⟩
  | p :: ps, s, o, o', s', e, g => by
    simp only [xOpsO] at e
    split at e
    · rename_i s1 o1 h1
      obtain ⟨a, b⟩ := xOpsO_ok h ps e g
      obtain ⟨a', b'⟩ := xStepO_ok h h1 b
      exact ⟨by simp only [xOps, a', a], b'⟩
    · cases e

theorem xStatesO_ok {c' : CallO} {c : CallF} (h : SimC c' c) : ∀ (ps : List AOper) {s : St} {o o' : Or} {ss : List St}, xStatesO c' ps s o = some (ss, o') → o'.good → xStates c ps s = some ss ∧ o.good
  | [], s, o, o', ss, e, g => by cases e; exact ⟨rfl, g⟩
  | p :: ps, s, o, o', ss, e, g => by
    simp only [xStatesO] at e
    split at e
    · rename_i s1 o1 h1
      split at e
      · rename_i ss1 o2 h2
        cases e
        obtain ⟨a, b⟩ := xStatesO_ok h ps h2 g
        obtain ⟨a', b'⟩ := xStepO_ok h h1 b
        exact ⟨by simp only [xStates, a', a], b'⟩
      · cases e
    · cases e

theorem xRegionO_ok {c' : CallO} {c : CallF} (h : SimC c' c) {ops : List AOper} {chk : List (Nat × Nat)} {s : St} {o o' : Or} {s' : St} (e : xRegionO c' ops chk s o = some (s', o')) (g : o'.good) :
    xRegion c ops chk s = some s' ∧ o.good := by
  cases chk with
  | nil => exact xOpsO_ok h ops e g
  | cons k ks =>
    simp only [xRegionO] at e
    split at e
    · rename_i ss o1 h1
      split at e
      · rename_i hall
        cases hl : ss.getLast? with
        | none => rw [hl] at e; cases e
        | some s1 =>
          rw [hl] at e
          cases e
          obtain ⟨a, b⟩ := xStatesO_ok h ops h1 g
          refine ⟨?_, b⟩
          simp only [xRegion, a]
          rw [if_pos hall]
          exact hl
      · cases e
    · cases e

theorem runO_ok {c' : CallO} {c : CallF} (h : SimC c' c) {fn : Nat} : ∀ (m : Nat) (todo : List AItem) {s : St} {o o' : Or} {j : Option ACode} {s' : St}, runO c' m todo s o = some (j, s', o') → o'.good →
    run c fn m none todo s = some (j, s') ∧ o.good
  | 0, todo, s, o, o', j, s', e, g => by cases e
  | m + 1, todo, s, o, o', j, s', e, g => by
    cases todo with
    | nil => cases e; exact ⟨rfl, g⟩
    | cons it k =>
      cases it with
      | inBlock id => exact runO_ok h m k e g
      | inLoop a => exact runO_ok h m _ e g
      | inScope a => exact runO_ok h m k e g
      | endRF b => cases e
      | begR => cases e
      | code a =>
        cases a with
        | skip => exact runO_ok h m k e g
        | label l => exact runO_ok h m k e g
        | scope a => exact runO_ok h m _ e g
        | ret => cases e; exact ⟨rfl, g⟩
        | seq a b => exact runO_ok h m _ e g
        | block id a => exact runO_ok h m _ e g
        | loop a => exact runO_ok h m _ e g
        | goto l => cases e
        | bad => cases e
        | rangeF f ps a b => cases e
        | exit id =>
          simp only [runO] at e
          split at e
          · rename_i k1 hk
            obtain ⟨a, b⟩ := runO_ok h m k1 e g
            exact ⟨by simp only [run, hk]; exact a, b⟩
          · cases e
        | cond q a b =>
          simp only [runO] at e
          split at e
          · rename_i v hv
            obtain ⟨a, b⟩ := runO_ok h m _ e g
            exact ⟨by simp only [run, hv]; exact a, b⟩
          · cases e
        | region ops chk =>
          simp only [runO] at e
          split at e
          · rename_i s1 o1 h1
            obtain ⟨a, b⟩ := runO_ok h m k e g
            obtain ⟨a', b'⟩ := xRegionO_ok h h1 b
            refine ⟨?_, b'⟩
            simp only [run, a']
            simpa using a
          · cases e

theorem runDefsO_ok {c' : CallO} {c : CallF} (h : SimC c' c) : ∀ (ds : List ADef) {H : Heap} {o o' : Or} {H' : Heap}, runDefsO c' ds H o = some (H', o') → o'.good → runDefs c ds H = some H' ∧ o.good
  | [], H, o, o', H', e, g => by cases e; exact ⟨rfl, g⟩
  | .coll b :: ds, H, o, o', H', e, g => by cases e
  | .fn f args :: ds, H, o, o', H', e, g => by
    simp only [runDefsO] at e
    split at e
    · rename_i v H1 o1 h1
      obtain ⟨a, b⟩ := runDefsO_ok h ds e g
      obtain ⟨a', b'⟩ := h _ _ _ _ _ _ _ h1 b
      exact ⟨by simp only [runDefs, a']; exact a, b'⟩
    · cases e

/-- **The oracle told the truth: the answer stands.** -/
theorem callO_ok (tab : Nat → Option AFunc) (m : Nat) : ∀ d, SimC (callO tab m d) (callF tab (fun _ _ _ => none) m d)
  | 0 => fun f args H o r H' o' e g => by cases e
  | d + 1 => fun f args H o r H' o' e g => by
    cases f with
    | yield b => cases e
    | fn f =>
      simp only [callO] at e
      split at e
      · cases e
      · rename_i af hf
        split at e
        · rename_i hl
          split at e
          · rename_i j s1 o1 h1
            split at e
            · rename_i H2 o2 h2
              cases hr : results s1.regs H2 af.results with
              | none => rw [hr] at e; cases e
              | some v =>
                rw [hr] at e
                cases e
                obtain ⟨a, b⟩ := runDefsO_ok (callO_ok tab m d) _ h2 g
                obtain ⟨a', b'⟩ := runO_ok (callO_ok tab m d) (fn := f) m _ h1 b
                refine ⟨?_, b'⟩
                simp only [callF, hf, if_pos hl, a', a, hr]
                rfl
            · cases e
          · cases e
        · cases e
      
end Km
