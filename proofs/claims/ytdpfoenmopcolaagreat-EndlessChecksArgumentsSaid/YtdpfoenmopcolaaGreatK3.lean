/-
  Our own small machine for Go code by value, held against the model: part 3. No program in sight.
-/
import Derived.Test.YtdpfoenmopcolaaGreatK2
import Derived.Test.YtdpfoenmopcolaaGreatK1

set_option linter.unusedVariables false
set_option linter.unusedSimpArgs false
set_option linter.unusedSectionVars false

section
namespace Km
open Go

variable {Q : Program} {σ : Nat → FuncId} {X : Wd} {call : CallF}

def isLp (X : Wd) (b : Nat) : Prop := ∃ f t p a c s q d, X.H[b]? = some (.lp f t p a c s q d)

theorem isLp.ext {X X' : Wd} (hx : Ext X.H.length X X') {b : Nat} (h : isLp X b) : isLp X' b ∧ ∀ L, X.rho b = some L → X'.rho b = some L := by
  obtain ⟨f, t, p, a, c, s, q, d, hb⟩ := h
  obtain ⟨blk', hb', hk⟩ := hx.keep b (List.getElem?_eq_some_iff.1 hb).1 _ hb
  cases blk' <;> simp only at hk
  exact ⟨⟨_, _, _, _, _, _, _, _, hb'⟩, hk.2⟩

inductive ItemR (Q : Program) (σ : Nat → FuncId) (n : Nat) (X : Wd) : AItem → Item → Prop
  | code {a : ACode} {c : Code} (h : mCode Q σ n c a = true) : ItemR Q σ n X (.code a) (.code c)
  | inBlock (id : Nat) : ItemR Q σ n X (.inBlock id) (.inBlock id)
  | inLoop {a : ACode} {c : Code} (h : mCode Q σ n c a = true) : ItemR Q σ n X (.inLoop a) (.inLoop c)
  | endRF {b : Nat} {L : Loc} (h : X.rho b = some L) (hl : isLp X b) : ItemR Q σ n X (.endRF b) (.endRangeFunc L.c)
  | begR : ItemR Q σ n X .begR .beginRound
  | inScope {a : ACode} {c : Code} (h : mCode Q σ n c a = true) (hs : spineOK a = true) : ItemR Q σ n X (.inScope a) (.inScope c)

theorem ItemR.ext {n : Nat} {X X' : Wd} (hx : Ext X.H.length X X') {x : AItem} {y : Item} (h : ItemR Q σ n X x y) : ItemR Q σ n X' x y := by
  cases h with
  | code h => exact .code h
  | inBlock id => exact .inBlock id
  | inLoop h => exact .inLoop h
  | endRF h hl => exact .endRF ((hl.ext hx).2 _ h) (hl.ext hx).1
  | begR => exact .begR
  | inScope h hs => exact .inScope h hs

def RoR (X : Wd) : Option Nat → Option Nat → Prop
  | none, none => True
  | some b, some l => ∃ L, X.rho b = some L ∧ L.c = l ∧ isLp X b
  | _, _ => False

theorem RoR.ext {X X' : Wd} (hx : Ext X.H.length X X') {ro ro' : Option Nat} (h : RoR X ro ro') : RoR X' ro ro' := by
  cases ro <;> cases ro' <;> simp only [RoR] at h ⊢
  obtain ⟨L, h1, h2, h3⟩ := h
  exact ⟨L, (h3.ext hx).2 _ h1, h2, (h3.ext hx).1⟩

theorem exitTo_ok {n : Nat} (id : Nat) : ∀ (k : List AItem) (ks : List Item), A2 (ItemR Q σ n X) k ks →
    match Km.exitTo id k with
    | some k' => ∃ ks', Go.exitTo id ks = some ks' ∧ A2 (ItemR Q σ n X) k' ks'
    | none => Go.exitTo id ks = none
  | [], ks, h => by
    have : ks = [] := List.eq_nil_of_length_eq_zero h.len.symm
    subst this; rfl
  | x :: k, [], h => by have := h.len; simp at this
  | x :: k, y :: ks, h => by
    obtain ⟨h1, h2⟩ := h.of_cons
    have ih := exitTo_ok id k ks h2
    cases h1 with
    | inBlock id' =>
      simp only [Km.exitTo, Go.exitTo]
      by_cases he : (id' == id) = true
      · simp only [he, if_true]; exact ⟨ks, rfl, h2⟩
      · simp only [he, Bool.false_eq_true, if_false]; exact ih
    | _ => exact ih

theorem findLabel_ok {n : Nat} (l : Nat) : ∀ (a : ACode) (c : Code), mCode Q σ n c a = true → spineOK a = true →
    match Km.findLabel a l with
    | some r => ∃ r', Go.findLabel c l = some r' ∧ mCode Q σ n r' r = true
    | none => Go.findLabel c l = none := by
  intro a
  induction a with
  | seq a b iha ihb =>
    intro c h hs
    simp only [spineOK, Bool.and_eq_true] at hs
    cases c with
    | seq c d =>
      simp only [mCode, Bool.and_eq_true] at h
      have h1 := iha c h.1 hs.1
      simp only [Km.findLabel, Go.findLabel]
      cases hf : Km.findLabel a l with
      | some r =>
        rw [hf] at h1
        obtain ⟨r', h2, h3⟩ := h1
        simp only [h2]
        exact ⟨_, rfl, by simp [mCode, h3, h.2]⟩
      | none =>
        rw [hf] at h1
        simp only [h1]
        exact ihb d h.2 hs.2
    | _ => simp [mCode] at h
  | label l' =>
    intro c h _
    cases c with
    | label l2 =>
      simp only [mCode, beq_iff_eq] at h
      subst h
      simp only [Km.findLabel, Go.findLabel]
      by_cases he : (l2 == l) = true
      · simp only [he, if_true]; exact ⟨_, rfl, by simp [mCode]⟩
      · simp only [he, Bool.false_eq_true, if_false]
    | _ => simp [mCode] at h
  | bad => intro c h hs; simp [spineOK] at hs
  | _ => intro c h _; cases c <;> simp_all [mCode, Km.findLabel, Go.findLabel]

theorem gotoIn_ok {n : Nat} (l : Nat) : ∀ (k : List AItem) (ks : List Item), A2 (ItemR Q σ n X) k ks →
    match Km.gotoIn l k with
    | some k' => ∃ ks', Go.gotoIn l ks = some ks' ∧ A2 (ItemR Q σ n X) k' ks'
    | none => Go.gotoIn l ks = none
  | [], ks, h => by
    have : ks = [] := List.eq_nil_of_length_eq_zero h.len.symm
    subst this; rfl
  | x :: k, [], h => by have := h.len; simp at this
  | x :: k, y :: ks, h => by
    obtain ⟨h1, h2⟩ := h.of_cons
    have ih := gotoIn_ok l k ks h2
    cases h1 with
    | inScope hm hs =>
      rename_i a c
      have h3 := findLabel_ok (Q := Q) (σ := σ) l a c hm hs
      simp only [Km.gotoIn, Go.gotoIn]
      cases hf : Km.findLabel a l with
      | some r =>
        rw [hf] at h3
        obtain ⟨r', h4, h5⟩ := h3
        simp only [h4]
        exact ⟨_, rfl, A2.cons (.code h5) (A2.cons (.inScope hm hs) h2)⟩
      | none =>
        rw [hf] at h3
        simp only [h3]
        exact ih
    | _ => exact ih

/-- How a frame ends: by which jump. -/
def EndR : Option ACode → List Item → Prop
  | none, items => items = []
  | some .ret, items => ∃ k, items = .code .ret :: k
  | some (.exit id), items => ∃ k, items = .code (.exit id) :: k ∧ Go.exitTo id k = none
  | _, _ => False

end Km
end

section
namespace Km
open Go

variable {Q : Program} {σ : Nat → FuncId} {X : Wd} {call : CallF}

/-- What a loop's record is. -/
theorem loop_of {b : Nat} {L : Loc} (hS : SR Q σ X) (hL : X.rho b = some L) {f : Nat} {t : T} {ps : List P} {as bd : ACode} {q : LoopSt} {pend : Option ACode} {d : Nat} (hb : X.H[b]? = some (.lp f t ps as bd q pend d)) :
    ∃ (n : Nat) (us : Array Value) (ps' : Array Tmp) (as' bd' : Code) (pend' : Option Code) (Ld : Loc),
      X.w.heap[L.c]? = some (.loop { state := q.of, pending := pend', fn := σ f, tmps := us, params := ps', assign := as', body := bd', defers := Ld.c }) ∧
      n ≤ us.size ∧ RR σ X t us ∧ all2 (fun p (q : P) => q.toNat == p && decide (p < n)) ps'.toList ps = true ∧ mCode Q σ n as' as = true ∧ mCode Q σ n bd' bd = true ∧ mJump Q σ n pend pend' ∧ X.rho d = some Ld ∧ ∃ o, X.H[d]? = some (.dfr o) := by
  obtain ⟨_, _, blk, hb', hbr⟩ := hS.br b L hL
  rw [hb] at hb'; cases hb'
  exact hbr

theorem putObj_heap {w : World} {k : Nat} {o : Obj} (hk : k < w.heap.size) : (w.putObj k o).heap.size = w.heap.size ∧ (w.putObj k o).heap[k]? = some o ∧ (∀ j, j ≠ k → (w.putObj k o).heap[j]? = w.heap[j]?) ∧
    (w.putObj k o).os = w.os ∧ (w.putObj k o).tape = w.tape ∧ (w.putObj k o).output = w.output := by
  refine ⟨by simp [World.putObj], by simp [World.putObj, hk], fun j hj => ?_, rfl, rfl, rfl⟩
  simp [World.putObj, Array.getElem?_setIfInBounds_ne (Ne.symm hj)]

/-- A record turns. -/
theorem turn_lp (hS : SR Q σ X) {b : Nat} {L : Loc} (hL : X.rho b = some L) {f : Nat} {t : T} {ps : List P} {as bd : ACode} {q q' : LoopSt} {pend pend1 : Option ACode} {d : Nat} (hb : X.H[b]? = some (.lp f t ps as bd q pend d))
    {n : Nat} {us : Array Value} {ps' : Array Tmp} {as' bd' : Code} {pend' : Option Code} {Ld : Loc}
    (h2 : n ≤ us.size) (h3 : RR σ X t us) (h4 : all2 (fun p (q : P) => q.toNat == p && decide (p < n)) ps'.toList ps = true) (h5 : mCode Q σ n as' as = true) (h6 : mCode Q σ n bd' bd = true) (h7 : mJump Q σ n pend1 pend') (h8 : X.rho d = some Ld) (h9 : ∃ o, X.H[d]? = some (.dfr o)) :
    SR Q σ { X with H := X.H.set b (.lp f t ps as bd q' pend1 d), w := X.w.putObj L.c (.loop { state := q'.of, pending := pend', fn := σ f, tmps := us, params := ps', assign := as', body := bd', defers := Ld.c }) } ∧
    Ext X.H.length X { X with H := X.H.set b (.lp f t ps as bd q' pend1 d), w := X.w.putObj L.c (.loop { state := q'.of, pending := pend', fn := σ f, tmps := us, params := ps', assign := as', body := bd', defers := Ld.c }) } := by
  obtain ⟨m, us0, ps0, as0, bd0, pd0, Ld0, hobj, _⟩ := loop_of hS hL hb
  have hlt : b < X.H.length := (List.getElem?_eq_some_iff.1 hb).1
  refine SR.turnObj (o' := .loop { state := q'.of, pending := pend', fn := σ f, tmps := us, params := ps', assign := as', body := bd', defers := Ld.c }) (blk' := .lp f t ps as bd q' pend1 d) hS hb hL hobj (by simp) (by simp)
    (fun blk hblk => ⟨.lp f t ps as bd q' pend1 d, by simp [hlt], by rw [hb] at hblk; cases hblk; exact ⟨⟨rfl, rfl, rfl, rfl, rfl, rfl⟩, fun L h => h⟩⟩)
    (fun X' hx' hw1 _ hrho hH => ?_)
  obtain ⟨o, h9⟩ := h9
  refine ⟨n, us, ps', as', bd', pend', Ld, hw1, h2, RR.ext' σ hx' h3, h4, h5, h6, h7, by rw [hrho]; exact h8, o, ?_⟩
  have hne : b ≠ d := fun e => by rw [e, h9] at hb; cases hb
  rw [hH, List.getElem?_set_ne hne]; exact h9

end Km
end

section
namespace Km
open Go

variable {Q : Program} {σ : Nat → FuncId} {call : CallF}

/-- What is known of a frame under way. -/
structure Way (Q : Program) (σ : Nat → FuncId) (fn : Nat) (n : Nat) (b : Frame) (cs : List Frame) (ro : Option Nat) (todo : List AItem) (items : List Item) (s : St) (X : Wd) (a : Act) : Prop where
  fr : Fr Q σ n X s a
  items : A2 (ItemR Q σ n X) todo items
  ro : RoR X ro b.roundOf
  kind : okFrame b cs
  fn : b.fn = σ fn

theorem Way.ext {fn n : Nat} {b : Frame} {cs : List Frame} {ro : Option Nat} {todo : List AItem} {items : List Item} {s s' : St} {X X' : Wd} {a a' : Act} (h : Way Q σ fn n b cs ro todo items s X a) {todo' : List AItem} {items' : List Item} (hx : Ext X.H.length X X') (hF : Fr Q σ n X' s' a')
    (hi : A2 (ItemR Q σ n X) todo' items') : Way Q σ fn n b cs ro todo' items' s' X' a' :=
  ⟨hF, hi.weak fun _ _ h => h.ext hx, h.ro.ext hx, h.kind, h.fn⟩

theorem Way.to {fn n : Nat} {b : Frame} {cs : List Frame} {ro : Option Nat} {todo : List AItem} {items : List Item} {s : St} {X : Wd} {a : Act} (h : Way Q σ fn n b cs ro todo items s X a) {todo' : List AItem} {items' : List Item}
    (hi : A2 (ItemR Q σ n X) todo' items') : Way Q σ fn n b cs ro todo' items' s X a := ⟨h.fr, hi, h.ro, h.kind, h.fn⟩

def RunOK (Q : Program) (σ : Nat → FuncId) (call : CallF) (fn m : Nat) : Prop :=
  ∀ (n : Nat) (b : Frame) (cs : List Frame) ro todo items s X a jump s', run call fn m ro todo s = some (jump, s') → Way Q σ fn n b cs ro todo items s X a →
    ∃ X' a' items', Steps Q (lone (b.atR a items) cs X.w) (lone (b.atR a' items') cs X'.w) ∧ Fr Q σ n X' s' a' ∧ Ext X.H.length X X' ∧ a'.tmps.size = a.tmps.size ∧ EndR jump items'

theorem stepR_inScope {b : Frame} {a : Act} {k : List Item} {cs : List Frame} {w : World} {body : Code} : step Q (lone (b.atR a (.inScope body :: k)) cs w) = .next (lone (b.atR a k) cs w) :=
  step_lone_go (by simp [stepG, stepG.exec, Frame.atR])

theorem stepR_scope {b : Frame} {a : Act} {k : List Item} {cs : List Frame} {w : World} {body : Code} : step Q (lone (b.atR a (.code (.scope body) :: k)) cs w) = .next (lone (b.atR a (.code body :: .inScope body :: k)) cs w) :=
  step_lone_go (by simp [stepG, stepG.exec, Frame.atR])

theorem run_ok (hC : CallOK Q σ call) (hmix : Q.follows .mixedOrders = true) (fn : Nat) : ∀ m, RunOK Q σ call fn m := by
  intro m
  induction m with
  | zero => intro n b cs ro todo items s X a jump s' h; simp [run] at h
  | succ m ih =>
    intro n b cs ro todo items s X a jump s' h hW
    -- one step of the machine and on
    have go : ∀ {todo' items'}, run call fn m ro todo' s = some (jump, s') → A2 (ItemR Q σ n X) todo' items' → step Q (lone (b.atR a items) cs X.w) = .next (lone (b.atR a items') cs X.w) →
        ∃ X' a' items', Steps Q (lone (b.atR a items) cs X.w) (lone (b.atR a' items') cs X'.w) ∧ Fr Q σ n X' s' a' ∧ Ext X.H.length X X' ∧ a'.tmps.size = a.tmps.size ∧ EndR jump items' := by
      intro todo' items' hr hi hst
      obtain ⟨X', a', it, g1, g2⟩ := ih n b cs ro todo' items' s X a jump s' hr (hW.to hi)
      exact ⟨X', a', it, .head hst g1, g2⟩
    cases todo with
    | nil =>
      have : items = [] := List.eq_nil_of_length_eq_zero hW.items.len.symm
      subst this
      simp only [run, Option.some.injEq, Prod.mk.injEq] at h
      obtain ⟨rfl, rfl⟩ := h
      exact ⟨X, a, [], Steps.refl _ _, hW.fr, Ext.refl _ _, rfl, rfl⟩
    | cons x k =>
      cases items with
      | nil => have := hW.items.len; simp at this
      | cons it ks =>
        obtain ⟨hx, hks⟩ := hW.items.of_cons
        cases hx with
        | inBlock id => exact go (by simpa [run] using h) hks stepR_inBlock
        | inLoop hm => exact go (by simpa [run] using h) (A2.cons (.code hm) (A2.cons (.inLoop hm) hks)) stepR_inLoop
        | inScope hm hs => exact go (by simpa [run] using h) hks stepR_inScope
        | endRF hb hl =>
          rename_i bb L
          simp only [run] at h
          split at h
          · rename_i f t ps as bd q pend d hlp
            split at h
            · simp at h
            · rename_i hq
              rw [← hW.fr.heap] at hlp
              obtain ⟨m0, us, ps', as', bd', pend', Ld, hobj, h2, h3, h4, h5, h6, h7, h8, h9⟩ := loop_of hW.fr.sr hb hlp
              obtain ⟨g1, g2⟩ := turn_lp hW.fr.sr hb hlp (q' := .exhausted) h2 h3 h4 h5 h6 h7 h8 h9
              have hne : (q.of) ≠ LoopState.busy := by cases q <;> simp [LoopSt.of] at hq ⊢
              have hst := stepR_endRangeFunc (P := Q) (b := b) (a := a) (k := ks) (cs := cs) (run_endLoop (P := Q) hobj hne)
              have key : ∀ {todo' items'}, run call fn m ro todo' { s with heap := s.heap.set bb (.lp f t ps as bd .exhausted pend d) } = some (jump, s') → A2 (ItemR Q σ n X) todo' items' → items' = (pend'.map Item.code).toList ++ ks →
                  ∃ X' a' items', Steps Q (lone (b.atR a (.endRangeFunc L.c :: ks)) cs X.w) (lone (b.atR a' items') cs X'.w) ∧ Fr Q σ n X' s' a' ∧ Ext X.H.length X X' ∧ a'.tmps.size = a.tmps.size ∧ EndR jump items' := by
                intro todo' items' hr hi he
                obtain ⟨X', a', it, k1, k2, k3, k4, k5⟩ := ih n b cs ro todo' items' _ _ a jump s' hr (hW.ext (a' := a) g2 ⟨by rw [← hW.fr.heap], g1, by simpa [World.putObj] using hW.fr.b, hW.fr.regs.ext' σ g2, hW.fr.defs.ext' g2, hW.fr.size⟩ hi)
                rw [he] at k1
                exact ⟨X', a', it, .head hst k1, k2, g2.trans (k3.mono g2.len), k4, k5⟩
              split at h
              · cases pend' with
                | none => exact key h hks rfl
                | some c => exact h7.elim
              · cases pend' with
                | none => exact h7.elim
                | some c =>
                  have h7 : mCode Q σ m0 c .ret = true := h7
                  cases c <;> simp [mCode] at h7
                  exact key h (A2.cons (.code (by simp [mCode])) hks) rfl
              · rename_i id
                cases pend' with
                | none => exact h7.elim
                | some c =>
                  have h7 : mCode Q σ m0 c (.exit id) = true := h7
                  cases c <;> simp [mCode] at h7
                  subst h7
                  exact key h (A2.cons (.code (by simp [mCode])) hks) rfl
              · simp at h
          · simp at h
        | begR =>
          simp only [run] at h
          split at h
          · simp at h
          · rename_i bb
            split at h
            · rename_i f t ps as bd pend d hlp
              have hro := hW.ro
              cases hbr : b.roundOf with
              | none => rw [hbr] at hro; exact hro.elim
              | some l =>
                rw [hbr] at hro
                obtain ⟨L, hL, rfl, _⟩ := hro
                rw [← hW.fr.heap] at hlp
                obtain ⟨m0, us, ps', as', bd', pend', Ld, hobj, h2, h3, h4, h5, h6, h7, h8, h9⟩ := loop_of hW.fr.sr hL hlp
                obtain ⟨g1, g2⟩ := turn_lp hW.fr.sr hL hlp (q' := .busy) h2 h3 h4 h5 h6 h7 h8 h9
                have hst := stepR_beginRound (P := Q) (b := b) (a := a) (k := ks) (cs := cs) hbr (run_beginRound (P := Q) hobj rfl)
                obtain ⟨X', a', it, k1, k2, k3, k4, k5⟩ := ih n b cs _ k ks _ _ a jump s' h (hW.ext (a' := a) g2 ⟨by rw [← hW.fr.heap], g1, by simpa [World.putObj] using hW.fr.b, hW.fr.regs.ext' σ g2, hW.fr.defs.ext' g2, hW.fr.size⟩ hks)
                exact ⟨X', a', it, .head hst k1, k2, g2.trans (k3.mono g2.len), k4, k5⟩
            · simp at h
        | code hm =>
          rename_i ac c
          cases ac with
          | bad => simp [run] at h
          | skip => cases c <;> simp [mCode] at hm; exact go (by simpa [run] using h) hks stepR_skip
          | label l => cases c <;> simp [mCode] at hm; exact go (by simpa [run] using h) hks stepR_label
          | scope p =>
            cases c <;> simp [mCode] at hm
            exact go (by simpa [run] using h) (A2.cons (.code hm.1) (A2.cons (.inScope hm.1 hm.2) hks)) stepR_scope
          | goto l =>
            cases c <;> simp [mCode] at hm
            subst hm
            rename_i l'
            have hex := gotoIn_ok (Q := Q) (σ := σ) (n := n) (X := X) l' k ks hks
            simp only [run] at h
            split at h
            · rename_i k' hk'
              rw [hk'] at hex
              obtain ⟨ks', he, hks'⟩ := hex
              exact go h hks' (stepR_goto he)
            · simp at h
          | ret =>
            cases c <;> simp [mCode] at hm
            simp only [run, Option.some.injEq, Prod.mk.injEq] at h
            obtain ⟨rfl, rfl⟩ := h
            exact ⟨X, a, _, Steps.refl _ _, hW.fr, Ext.refl _ _, rfl, ks, rfl⟩
          | seq p q =>
            cases c <;> simp [mCode] at hm
            exact go (by simpa [run] using h) (A2.cons (.code hm.1) (A2.cons (.code hm.2) hks)) stepR_seq
          | block id p =>
            cases c <;> simp [mCode] at hm
            obtain ⟨rfl, hm⟩ := hm
            exact go (by simpa [run] using h) (A2.cons (.code hm) (A2.cons (.inBlock _) hks)) stepR_block
          | loop p =>
            cases c <;> simp [mCode] at hm
            exact go (by simpa [run] using h) (A2.cons (.code hm) (A2.cons (.inLoop hm) hks)) stepR_loop
          | exit id =>
            cases c <;> simp [mCode] at hm
            subst hm
            rename_i id'
            have hex := exitTo_ok (Q := Q) (σ := σ) (n := n) (X := X) id' k ks hks
            simp only [run] at h
            split at h
            · rename_i k' hk'
              rw [hk'] at hex
              obtain ⟨ks', he, hks'⟩ := hex
              exact go h hks' (stepR_exit he)
            · rename_i hk'
              rw [hk'] at hex
              split at h
              · simp only [Option.some.injEq, Prod.mk.injEq] at h
                obtain ⟨rfl, rfl⟩ := h
                exact ⟨X, a, _, Steps.refl _ _, hW.fr, Ext.refl _ _, rfl, ks, rfl, hex⟩
              · simp at h
          | cond x p q =>
            cases c <;> simp [mCode] at hm
            simp only [run] at h
            split at h
            · rename_i v hv
              have hx := mA_ok hW.fr.regs hm.1.1
              rw [hv] at hx
              have hx' : FCR σ X.F X.w (.bool v) _ := hx
              have he : ∀ u, FCR σ X.F X.w (.bool v) u → u = .bool v := fun u hu => by cases hu; rfl
              refine go h ?_ (stepR_cond (he _ hx'))
              cases v
              · exact A2.cons (.code hm.2) hks
              · exact A2.cons (.code hm.1.2) hks
            · simp at h
          | region aos chk =>
            cases c with
            | region id ops draw =>
              simp only [run] at h
              split at h
              · simp at h
              · rename_i hro
                split at h
                · rename_i s1 h1
                  have hnr : ∀ y ∈ aos, noRound y.op b := by
                    intro y hy
                    unfold noRound
                    cases ro with
                    | none =>
                      refine .inl ?_
                      have := hW.ro
                      cases hb : b.roundOf with
                      | none => rfl
                      | some l => rw [hb] at this; exact this.elim
                    | some r =>
                      simp only [Option.isSome_some, Bool.true_and, Bool.not_eq_true', Bool.not_eq_false] at hro
                      exact .inr (List.all_eq_true.1 hro y hy)
                  obtain ⟨X1, a1, g1, g2, g3, g4⟩ := region_ok hC hmix hm hW.kind hnr (k := ks) hW.fr h1
                  obtain ⟨X', a', it, k1, k2, k3, k4, k5⟩ := ih n b cs ro k ks s1 X1 a1 jump s' h (hW.ext g3 g2 hks)
                  exact ⟨X', a', it, g1.trans k1, k2, g3.trans (k3.mono g3.len), k4.trans g4, k5⟩
                · simp at h
            | _ => simp [mCode] at hm
          | rangeF f ps as bd =>
            cases c with
            | rangeFunc f' ps' as' bd' =>
              simp only [mCode, Bool.and_eq_true] at hm
              obtain ⟨⟨⟨hm1, hm2⟩, hm3⟩, hm4⟩ := hm
              simp only [run] at h
              split at h
              · simp at h
              · rename_i hro
                have hrn : b.roundOf = none := by
                  have := hW.ro
                  cases ro with
                  | some r => simp at hro
                  | none =>
                    cases hb : b.roundOf with
                    | none => rfl
                    | some l => rw [hb] at this; exact this.elim
                split at h
                · rename_i g args hcal
                  split at h
                  · rename_i r2 H2 hcall
                    obtain ⟨X1, w1, H1, S1, E1, r1, B1⟩ := SR.new hW.fr.sr hW.fr.b (.dfr true) (Adds.alloc X.w (.deferred (some []))) 0 (fun X' hx hw hF hH => by
                      show X'.w.heap[X.w.heap.size]? = _
                      rw [hw]; exact (Adds.alloc X.w (.deferred (some []))).new)
                    have hd1 : X1.H[X.H.length]? = some (.dfr true) := by rw [H1]; simp
                    have hdlt : X.H.length < X1.H.length := by rw [H1]; simp
                    have hsz1 : X1.w.heap.size = X.w.heap.size + 1 := by rw [w1]; simp
                    obtain ⟨X2, w2, H2', S2, E2, r2', B2⟩ := SR.new S1 B1 (.lp fn s.regs ps as bd .ready none s.heap.length)
                      (Adds.alloc X1.w (.loop { state := .ready, pending := none, fn := b.fn, tmps := a.tmps, params := ps', assign := as', body := bd', defers := X.w.heap.size })) 0 (fun X' hx hw hF hH => by
                        obtain ⟨blk', hb', hk'⟩ := hx.keep X.H.length hdlt _ hd1
                        cases blk' <;> simp only at hk'
                        refine ⟨n, a.tmps, ps', as', bd', none, ⟨X.w.heap.size, 0⟩, ?_, hW.fr.size, RR.ext' σ hx (RR.ext' σ E1 hW.fr.regs), hm2, hm3, hm4, trivial, ?_, ?_⟩
                        · show X'.w.heap[X1.w.heap.size]? = _
                          rw [hw, (Adds.alloc X1.w (.loop { state := .ready, pending := none, fn := b.fn, tmps := a.tmps, params := ps', assign := as', body := bd', defers := X.w.heap.size })).new, hW.fn]; rfl
                        · rw [← hW.fr.heap]; exact hk' _ r1
                        · rw [← hW.fr.heap]; exact ⟨_, hb'⟩)
                    have hx2 : Ext X.H.length X X2 := E1.trans (E2.mono E1.len)
                    have hH2 : X2.H = s.heap ++ [.dfr true, .lp fn s.regs ps as bd .ready none s.heap.length] := by rw [H2', H1, ← hW.fr.heap]; simp
                    have hl1 : X1.H.length = s.heap.length + 1 := by rw [H1, ← hW.fr.heap]; simp
                    have hlp : isLp X2 (s.heap.length + 1) := ⟨fn, s.regs, ps, as, bd, .ready, none, s.heap.length, by rw [hH2, List.getElem?_append_right (by omega)]; simp⟩
                    rw [hl1, hsz1] at r2'
                    have harg : A2 (VR σ X2) [.c (.yl (s.heap.length + 1))] [.func (.yield (X.w.heap.size + 1)) #[] #[]] := A2.cons ⟨⟨X.w.heap.size + 1, 0⟩, r2', hlp, rfl⟩ A2.nil
                    obtain ⟨fst, cap, hv1, hv2⟩ := calleeV_ok hcal (VR.ext' σ hx2 (mA_ok hW.fr.regs hm1)) harg
                    rw [← hH2] at hcall
                    have hen := hC.enters _ _ _ _ hcall
                    let a1 : Act := { a with defers := { target := .collected X.w.heap.size, args := #[] } :: a.defers }
                    obtain ⟨fr, X3, u, q1, ⟨l1, l2, l3, l4, fn', l5, l6⟩, q3, q4, q5, q6, q7⟩ := hC.fn g args _ r2 H2 hcall X2 _ .normal (b.atR a1 (.inRangeFunc (X.w.heap.size + 1) :: ks) :: cs) rfl S2 B2 hv2 (.inl rfl)
                    have hst : step Q (lone (b.atR a (.code (.rangeFunc f' ps' as' bd') :: ks)) cs X.w) = .next (lone (Frame.enter Q (σ g) (fst.toArray ++ #[.func (.yield (X.w.heap.size + 1)) #[] #[]] ++ cap.toArray) .normal) (b.atR a1 (.inRangeFunc (X.w.heap.size + 1) :: ks) :: cs) X2.w) := by
                      refine stepR_rangeFunc (P := Q) (b := b) (a := a) (k := ks) (cs := cs) (l := X.w.heap.size + 1) (mark := [{ target := .collected X.w.heap.size, args := #[] }]) (w₁ := X2.w) (w₁' := X2.w) (d := { target := .fn (.func (σ g)) cap.toArray, args := fst.toArray ++ #[.func (.yield (X.w.heap.size + 1)) #[] #[]] }) ?_ ?_ ?_
                      · rw [hrn, run_enterLoop_outer, w2, w1]
                      · simp only [resolve, hv1, Deferred.ofValue, Sem.run_bind, Sem.run_pure, Result.andThen_ok]; simp [Act.eval]
                      · exact run_invoke_fn hen
                    have hx3 : Ext X.H.length X X3 := hx2.trans (q6.mono hx2.len)
                    have hback := step_leave_returned (P := Q) (c := b.atR a1 (.inRangeFunc (X.w.heap.size + 1) :: ks)) (cs := cs) (show fr.leaving Q X3.w (.returned u) from ⟨l1, l2, l3, fn', by rw [l4]; exact l5, l6⟩)
                    rw [finish_atR_inRangeFunc] at hback
                    have hlp3 := hlp.ext q6
                    have hdf : DefR σ X3 (.coll s.heap.length) { target := .collected X.w.heap.size, args := #[] } := by
                      obtain ⟨blk', hb', hk'⟩ := (E2.trans (q6.mono E2.len)).keep X.H.length hdlt _ hd1
                      cases blk' <;> simp only at hk'
                      rw [← hW.fr.heap]
                      exact ⟨⟨X.w.heap.size, 0⟩, _, hk' _ r1, hb', rfl⟩
                    obtain ⟨X', a', it, k1, k2, k3, k4, k5⟩ := ih n b cs ro (.endRF (s.heap.length + 1) :: k) (.endRangeFunc (X.w.heap.size + 1) :: ks) _ X3 a1 jump s' h
                      ⟨⟨q3, q4, q7, RR.ext' σ hx3 hW.fr.regs, A2.cons hdf (hW.fr.defs.ext' hx3), hW.fr.size⟩, A2.cons (.endRF (hlp3.2 _ r2') hlp3.1) (hks.weak fun _ _ h => h.ext hx3), hW.ro.ext hx3, hW.kind, hW.fn⟩
                    refine ⟨X', a', it, .head hst (Steps.trans ?_ (.head hback k1)), k2, hx3.trans (k3.mono hx3.len), k4, k5⟩
                    simpa using q1
                  · simp at h
                · simp at h
            | _ => simp [mCode] at hm

end Km
end

section
namespace Km
open Go

variable {Q : Program} {σ : Nat → FuncId} {X : Wd} {call : CallF}

/-- Functions that are taken by what is known of them. -/
def PrimOK (Q : Program) (σ : Nat → FuncId) (prim : Nat → List V → Heap → Option (Option (V × Heap))) : Prop :=
  ∀ f args H r H', prim f args H = some (some (r, H')) →
    (∀ as w, (callFunc (σ f) as).run Q w = .ok (.enter (σ f) as) w) ∧
    ∀ (X : Wd) us kind cs, X.H = H → SR Q σ X → X.B ≤ X.w.heap.size → A2 (VR σ X) args us → okKind kind cs →
      ∃ fr X' u, Steps Q (lone (Frame.enter Q (σ f) us.toArray kind) cs X.w) (lone fr cs X'.w) ∧ Leaves Q (σ f) kind fr u X'.w ∧ Post Q σ X r H' X' u

/-- The table beside the loaded program. -/
structure Env (Q : Program) (σ : Nat → FuncId) (tab : Nat → Option AFunc) (prim : Nat → List V → Heap → Option (Option (V × Heap))) : Prop where
  mix : Q.follows .mixedOrders = true
  fn : ∀ f af, tab f = some af → ∃ fn, Q.funcs[σ f]? = some fn ∧ mFunc Q σ fn af = true
  prim : PrimOK Q σ prim

theorem setAll_get : ∀ (ps : List P) (args : List V) (t : T) (s : Nat), ps.map P.toNat = List.range' s ps.length → args.length = ps.length → ∀ q : P,
    (setAll ps args t).get q = if s ≤ q.toNat then (args[q.toNat - s]?).getD (t.get q) else t.get q
  | [], args, t, s, _, hl, q => by
    have : args = [] := List.eq_nil_of_length_eq_zero hl
    subst this
    simp [setAll]
  | p :: ps, [], t, s, _, hl, q => by simp at hl
  | p :: ps, v :: vs, t, s, hp, hl, q => by
    simp only [List.map_cons, List.length_cons, List.range'_succ, List.cons.injEq] at hp
    have ih := setAll_get ps vs (t.set p v) (s + 1) hp.2 (by simpa using hl) q
    simp only [setAll, ih]
    by_cases hq : p = q
    · subst hq
      rw [if_neg (by omega), T.get_set]
      simp [hp.1]
    · have hne : q.toNat ≠ s := fun e => hq (P.toNat_inj (hp.1.trans e.symm))
      simp only [T.get_set, hq, if_false]
      by_cases hs : s ≤ q.toNat
      · have h1 : s + 1 ≤ q.toNat := by omega
        have h2 : q.toNat - s = (q.toNat - (s + 1)) + 1 := by omega
        simp [h1, hs, h2]
      · have h1 : ¬ (s + 1 ≤ q.toNat) := by omega
        simp [h1, hs]

theorem RR.setAll : ∀ (ps : List P) (ps' : List Tmp) (args : List V) (us : List Value) (regs : T) (tmps : Array Value) (n : Nat), n ≤ tmps.size → RR σ X regs tmps → A2 (VR σ X) args us → args.length = ps.length →
    all2 (fun p (q : P) => q.toNat == p && decide (p < n)) ps' ps = true → RR σ X (Km.setAll ps args regs) ((ps'.zip us).foldl (fun tmps (t, a) => tmps.setIfInBounds t a) tmps)
  | [], ps', args, us, regs, tmps, n, hn, hR, hA, hl, h => by
    have : args = [] := List.eq_nil_of_length_eq_zero hl
    subst this
    have : us = [] := List.eq_nil_of_length_eq_zero hA.len.symm
    subst this
    simpa [Km.setAll] using hR
  | p :: ps, [], args, us, regs, tmps, n, hn, hR, hA, hl, h => by simp [all2] at h
  | p :: ps, p' :: ps', [], us, regs, tmps, n, hn, hR, hA, hl, h => by simp at hl
  | p :: ps, p' :: ps', v :: vs, [], regs, tmps, n, hn, hR, hA, hl, h => by have := hA.len; simp at this
  | p :: ps, p' :: ps', v :: vs, u :: us, regs, tmps, n, hn, hR, hA, hl, h => by
    simp only [all2, Bool.and_eq_true, beq_iff_eq, decide_eq_true_eq] at h
    obtain ⟨⟨h1, h2⟩, h3⟩ := h
    obtain ⟨hvu, hA⟩ := hA.of_cons
    subst h1
    refine RR.setAll ps ps' vs us _ _ n (by simpa using hn) (RR.set σ hR (by omega) hvu) hA (by simpa using hl) h3

theorem setAll_size : ∀ (l : List (Tmp × Value)) (tmps : Array Value), (l.foldl (fun tmps (t, a) => tmps.setIfInBounds t a) tmps).size = tmps.size
  | [], _ => rfl
  | x :: l, tmps => by rw [List.foldl_cons, setAll_size l]; simp

/-- A frame that is no round ends by its end or by 'return'. -/
theorem run_jump (fn : Nat) : ∀ m todo s jump s', run call fn m none todo s = some (jump, s') → jump = none ∨ jump = some .ret := by
  intro m
  induction m with
  | zero => intro todo s jump s' h; simp [run] at h
  | succ m ih =>
    intro todo s jump s' h
    unfold run at h
    split at h
    all_goals first
      | exact ih _ _ _ _ h
      | (simp at h; done)
      | skip
    · simp only [Option.some.injEq, Prod.mk.injEq] at h; exact .inl h.1.symm
    · split at h
      · split at h
        · simp at h
        · split at h
          · exact ih _ _ _ _ h
          · exact ih _ _ _ _ h
          · exact ih _ _ _ _ h
          · simp at h
      · simp at h
    · split at h
      · exact ih _ _ _ _ h
      · simp at h
    · simp only [Option.some.injEq, Prod.mk.injEq] at h; exact .inr h.1.symm
    · split at h
      · exact ih _ _ _ _ h
      · simp at h
    · split at h
      · exact ih _ _ _ _ h
      · simp at h
    · split at h
      · simp at h
      · split at h
        · exact ih _ _ _ _ h
        · simp at h
    · split at h
      · simp at h
      · simp only at h
        split at h
        · split at h
          · exact ih _ _ _ _ h
          · simp at h
        · simp at h

/-- What the function's row says. -/
theorem mFunc_parts {fn : Func} {af : AFunc} (h : mFunc Q σ fn af = true) : ∃ c, fn.name ≠ "runtime.NumGoroutine" ∧ fn.body = some c ∧ mCode Q σ fn.ntmps c af.body = true ∧
    all2 (mRes Q fn.ntmps) fn.results.toList af.results = true ∧ af.ps.map P.toNat = List.range af.ps.length := by
  simp only [mFunc, Bool.and_eq_true, bne_iff_ne, ne_eq, decide_eq_true_eq] at h
  obtain ⟨⟨⟨h1, h2⟩, h3⟩, h4⟩ := h
  cases hb : fn.body with
  | none => rw [hb] at h2; simp at h2
  | some c => rw [hb] at h2; exact ⟨c, h1, rfl, h2, h3, h4⟩

theorem run_callFunc {f : FuncId} {fn : Func} {c : Code} (hf : Q.funcs[f]? = some fn) (hn : fn.name ≠ "runtime.NumGoroutine") (hb : fn.body = some c) (as : Array Value) (w : World) : (callFunc f as).run Q w = .ok (.enter f as) w := by
  simp [callFunc, hf, hn, hb]

/-- A frame that returns. -/
def Returning (g : FuncId) (kind : CallKind) (tmps : Array Value) (ds : List Deferred) (fr : Frame) : Prop :=
  fr.mode = .returning ∧ fr.defers = ds ∧ fr.kind = kind ∧ fr.fn = g ∧ fr.tmps = tmps

theorem step_collected {fr : Frame} {cs : List Frame} {w w' : World} {b : Nat} {as : Array Value} {ds : List Deferred} (hm : fr.mode = .returning) (hd : fr.defers = { target := .collected b, args := as } :: ds)
    (hr : (Instr.takeDeferred b).run Q w = .ok [] w') : step Q (lone fr cs w) = .next (lone { fr with defers := ds } cs w') :=
  step_lone_go (by simp [stepG, unwind, hm, hd, Sem.runT_eq, hr])

theorem step_deferred {fr : Frame} {cs : List Frame} {w : World} {f : FuncId} {cap as as' : Array Value} {ds : List Deferred} (hm : fr.mode = .returning) (hd : fr.defers = { target := .fn (.func f) cap, args := as } :: ds)
    (hr : (invoke (.fn (.func f) cap) as).run Q w = .ok (.enter f as') w) : step Q (lone fr cs w) = .next (lone (Frame.enter Q f as' .deferred) ({ fr with defers := ds } :: cs) w) :=
  step_lone_go (by simp [stepG, unwind, hm, hd, callDeferred, Sem.runT_eq, hr])

theorem step_leave_deferred {fr c : Frame} {cs : List Frame} {w : World} {v : Value} {f : FuncId} (h : Leaves Q f .deferred fr v w) (hc : c.mode = .returning) :
    step Q (lone fr (c :: cs) w) = .next (lone c cs w) := by
  obtain ⟨hm, hd, hk, hf, fn, h1, h2⟩ := h
  rw [← hf] at h1
  exact step_lone_go (by simp [stepG, unwind, doReturn, hm, hd, hk, h1, Sem.runT_eq, h2, hc])

theorem Returning.pop {g : FuncId} {kind : CallKind} {tmps : Array Value} {d : Deferred} {ds : List Deferred} {fr : Frame} (h : Returning g kind tmps (d :: ds) fr) : Returning g kind tmps ds { fr with defers := ds } :=
  ⟨h.1, rfl, h.2.2.1, h.2.2.2.1, h.2.2.2.2⟩

/-- The deferred calls of a frame that returns. -/
theorem defs_ok (hC : CallOK Q σ call) {g : FuncId} {kind : CallKind} {tmps : Array Value} {cs : List Frame} : ∀ (ds : List ADef) (X : Wd) (ms : List Deferred) (fr : Frame) (H' : Heap),
    runDefs call ds X.H = some H' → SR Q σ X → X.B ≤ X.w.heap.size → DefsR σ X ds ms → Returning g kind tmps ms fr →
    ∃ fr' X', Steps Q (lone fr cs X.w) (lone fr' cs X'.w) ∧ Returning g kind tmps [] fr' ∧ X'.H = H' ∧ SR Q σ X' ∧ X'.B ≤ X'.w.heap.size ∧ Ext X.H.length X X'
  | [], X, ms, fr, H', h, hS, hB, hD, hR => by
    have : ms = [] := List.eq_nil_of_length_eq_zero hD.len.symm
    subst this
    simp only [runDefs, Option.some.injEq] at h
    exact ⟨fr, X, Steps.refl _ _, hR, h, hS, hB, Ext.refl _ _⟩
  | d :: ds, X, [], fr, H', h, hS, hB, hD, hR => by have := hD.len; simp at this
  | .coll b :: ds, X, m :: ms, fr, H', h, hS, hB, hD, hR => by
    obtain ⟨⟨L, o, h1, h2, rfl⟩, hD'⟩ := A2.of_cons hD
    simp only [runDefs] at h
    split at h
    · rename_i hb
      obtain ⟨_, _, blk, hb', hbr⟩ := hS.br b L h1
      rw [hb] at hb'; cases hb'
      have hobj : X.w.heap[L.c]? = some (.deferred (some [])) := hbr
      obtain ⟨g1, g2⟩ := SR.turnObj (o' := .deferred none) (blk' := .dfr false) hS hb h1 hobj (by simp) (by simp)
        (fun blk hblk => ⟨.dfr false, by simp [(List.getElem?_eq_some_iff.1 hb).1], by rw [hb] at hblk; cases hblk; exact fun L h => h⟩)
        (fun X' hx' hw1 _ hrho hH => hw1)
      obtain ⟨fr', X', k1, k2, k3, k4, k5, k6⟩ := defs_ok hC ds _ ms { fr with defers := ms } H' h g1 (by simpa using hB) (DefsR.ext' g2 hD') hR.pop
      exact ⟨fr', X', .head (step_collected hR.1 hR.2.1 (run_takeDeferred hobj)) k1, k2, k3, k4, k5, g2.trans (k6.mono g2.len)⟩
    · simp at h
  | .fn f args :: ds, X, m :: ms, fr, H', h, hS, hB, hD, hR => by
    obtain ⟨⟨us, cap, rfl, hA⟩, hD'⟩ := A2.of_cons hD
    simp only [runDefs] at h
    split at h
    · rename_i r H1 hcall
      have hen := hC.enters f args _ _ hcall
      obtain ⟨fr1, X1, u, q1, q2, q3, q4, q5, q6, q7⟩ := hC.fn f args _ r H1 hcall X _ .deferred ({ fr with defers := ms } :: cs) rfl hS hB hA (.inr ⟨rfl, _, _, rfl, hR.1⟩)
      rw [← q3] at h
      obtain ⟨fr', X', k1, k2, k3, k4, k5, k6⟩ := defs_ok hC ds X1 ms { fr with defers := ms } H' h q4 q7 (DefsR.ext' q6 hD') hR.pop
      refine ⟨fr', X', .head (step_deferred (as' := us ++ cap) hR.1 hR.2.1 (run_invoke_fn hen)) (Steps.trans ?_ (.head (step_leave_deferred (c := { fr with defers := ms }) q2 hR.1) k1)), k2, k3, k4, k5, q6.trans (k6.mono q6.len)⟩
      have e : (us.toList ++ cap.toList).toArray = us ++ cap := by apply Array.ext'; simp
      rw [e] at q1
      exact q1
    · simp at h

/-- A result variable. -/
theorem res_ok (hS : SR Q σ X) {n : Nat} {regs : T} {tmps : Array Value} (hR : RR σ X regs tmps) {r : ResultVar} {a : ARes} (hm : mRes Q n r a = true) {v : V}
    (h : resOne regs X.H a = some v) : ∃ u, (match r with | .tmp t => pure (tmps.getD t undef) | .cell a t => do loadVar t (← asAddr (tmps.getD a undef)) : Sem Value).run Q X.w = .ok u X.w ∧ VR1 σ X v u := by
  cases r with
  | tmp t =>
    cases a with
    | tmp p =>
      simp only [mRes, Bool.and_eq_true, beq_iff_eq, decide_eq_true_eq] at hm
      have hv := hR p
      rw [hm.1] at hv
      simp only [resOne] at h
      refine ⟨_, rfl, ?_⟩
      split at h
      · simp at h
      · rename_i hne
        simp only [Option.some.injEq] at h
        rw [h] at hv
        cases v with
        | t vs => exact absurd h (hne vs)
        | top => trivial
        | c x => exact hv
        | a xs => exact hv
    | cell p k => simp [mRes] at hm
  | cell t ty =>
    cases a with
    | tmp p => simp [mRes] at hm
    | cell p k =>
      simp only [mRes, Bool.and_eq_true, beq_iff_eq, decide_eq_true_eq] at hm
      have hv := hR p
      rw [hm.1.1] at hv
      simp only [resOne] at h
      cases hx : regs.get p with
      | c x =>
        rw [hx] at h hv
        simp only [ldV, Option.bind_eq_some_iff] at h
        obtain ⟨cs, h1, h2⟩ := h
        obtain ⟨c, o, us, he, h3, h4⟩ := cellsAt_ok hS hv h1
        obtain ⟨u, h5, h6⟩ := takeV_ok hm.2 h3 h4 h2
        refine ⟨u, by simp [he, asAddr, h5], ?_⟩
        cases k with
        | none => cases cs with
          | nil => simp [takeV] at h2
          | cons y ys => simp only [takeV, Option.some.injEq] at h2; subst h2; exact h6
        | some k =>
          simp only [takeV] at h2
          split at h2
          · simp only [Option.some.injEq] at h2; subst h2; exact h6
          · simp at h2
      | _ => rw [hx] at h; simp [ldV] at h

theorem results_ok (hS : SR Q σ X) {fn : Func} {rs : List ARes} (hm : all2 (mRes Q fn.ntmps) fn.results.toList rs = true) {regs : T} {tmps : Array Value} (hR : RR σ X regs tmps) {v : V}
    (h : Km.results regs X.H rs = some v) : ∃ u, (Go.results fn tmps).run Q X.w = .ok u X.w ∧ VR σ X v u := by
  have key : ∀ (rs : List ARes) (qs : List ResultVar) (vs : List V), all2 (mRes Q fn.ntmps) qs rs = true → mapO (resOne regs X.H) rs = some vs →
      ∃ us : List Value, (qs.mapM (fun r => match r with | .tmp t => pure (tmps.getD t undef) | .cell a t => do loadVar t (← asAddr (tmps.getD a undef)) : ResultVar → Sem Value)).run Q X.w = .ok us X.w ∧ A2 (VR1 σ X) vs us := by
    intro rs
    induction rs with
    | nil =>
      intro qs vs h1 h2
      cases qs with
      | nil => simp only [mapO, Option.some.injEq] at h2; subst h2; exact ⟨[], rfl, A2.nil⟩
      | cons q qs => simp [all2] at h1
    | cons a rs ih =>
      intro qs vs h1 h2
      cases qs with
      | nil => simp [all2] at h1
      | cons q qs =>
        simp only [all2, Bool.and_eq_true] at h1
        simp only [mapO] at h2
        split at h2
        · simp at h2
        · rename_i v1 e1
          split at h2
          · simp at h2
          · rename_i vs1 e2
            simp only [Option.some.injEq] at h2; subst h2
            obtain ⟨u, g1, g2⟩ := res_ok hS hR h1.1 e1
            obtain ⟨us, g3, g4⟩ := ih qs vs1 h1.2 e2
            refine ⟨u :: us, ?_, A2.cons g2 g4⟩
            rw [List.mapM_cons, Sem.run_bind, g1]
            simp only [Result.andThen_ok, Sem.run_bind, g3, Sem.run_pure]
  unfold Km.results at h
  have fin : ∀ vs, mapO (resOne regs X.H) rs = some vs → ∃ us : List Value, (Go.results fn tmps).run Q X.w = .ok (if h : us.toArray.size = 1 then us.toArray[0] else .tuple us.toArray) X.w ∧ A2 (VR1 σ X) vs us := by
    intro vs hvs
    obtain ⟨us, g1, g2⟩ := key rs fn.results.toList vs hm hvs
    refine ⟨us, ?_, g2⟩
    unfold Go.results
    rw [Array.mapM_eq_mapM_toList, Sem.run_bind, Sem.run_map]
    exact (congrArg (fun r : Result (List Value) => (r.andThen fun a w' => Result.ok a.toArray w').andThen fun a w' => Sem.run Q (pure (if h : a.size = 1 then a[0] else Value.tuple a)) w') g1).trans rfl
  split at h
  · rename_i v1 hvs
    simp only [Option.some.injEq] at h; subst h
    obtain ⟨us, g1, g2⟩ := fin _ hvs
    match us, g2 with
    | [u], g2 => exact ⟨u, g1, VR.of1 σ g2.of_cons.1⟩
    | [], g2 => have := g2.len; simp at this
    | _ :: _ :: _, g2 => have := g2.len; simp at this
  · rename_i vs hne hvs
    simp only [Option.some.injEq] at h; subst h
    obtain ⟨us, g1, g2⟩ := fin _ hvs
    refine ⟨.tuple us.toArray, ?_, us, rfl, g2⟩
    rw [g1, dif_neg]
    intro hsz
    match us, hsz with
    | [u], _ =>
      match vs, g2 with
      | [v1], _ => exact hne v1 rfl
      | [], g2 => have := g2.len; simp at this
      | _ :: _ :: _, g2 => have := g2.len; simp at this
    | [], hsz => simp at hsz
    | _ :: _ :: _, hsz => simp at hsz
  · simp at h

end Km
end

section
namespace Km
open Go

variable {Q : Program} {σ : Nat → FuncId} {tab : Nat → Option AFunc} {prim : Nat → List V → Heap → Option (Option (V × Heap))}

theorem fn_ok (hE : Env Q σ tab prim) {m : Nat} {call : CallF} (hC : CallOK Q σ call) {f : Nat} {af : AFunc} (htab : tab f = some af) {args : List V} (hlen : args.length = af.ps.length) {jump : Option ACode} {s' : St} {X : Wd}
    (hrun : run call f m none [.code af.body] ⟨setAll af.ps args .e, [], X.H⟩ = some (jump, s')) {H' : Heap} (hdefs : runDefs call s'.defs s'.heap = some H') {r : V} (hres : Km.results s'.regs H' af.results = some r)
    {us : List Value} {kind : CallKind} {cs : List Frame} (hS : SR Q σ X) (hB : X.B ≤ X.w.heap.size) (hA : A2 (VR σ X) args us) (hk : okKind kind cs) :
    ∃ fr X' u, Steps Q (lone (Frame.enter Q (σ f) us.toArray kind) cs X.w) (lone fr cs X'.w) ∧ Leaves Q (σ f) kind fr u X'.w ∧ Post Q σ X r H' X' u := by
  obtain ⟨fn, hf, hm⟩ := hE.fn f af htab
  obtain ⟨c, hname, hbody, hcode, hrs, hps⟩ := mFunc_parts hm
  let b : Frame := Frame.enter Q (σ f) us.toArray kind
  let a0 : Act := { tmps := us.toArray ++ Array.replicate (fn.ntmps - us.toArray.size) undef, defers := [] }
  have hb : b = b.atR a0 [.code c] := by
    simp [b, a0, Frame.enter, Frame.atR, hf, hbody]
  have hsz : fn.ntmps ≤ a0.tmps.size := by simp [a0]; omega
  have hRR : RR σ X (setAll af.ps args .e) a0.tmps := by
    intro p
    rw [setAll_get af.ps args .e 0 (by rw [hps, List.range_eq_range']) hlen p]
    simp only [Nat.zero_le, if_true, Nat.sub_zero]
    by_cases hp : p.toNat < args.length
    · have hx := List.getElem?_eq_getElem hp
      have hp' : p.toNat < us.length := hA.len ▸ hp
      have hy := List.getElem?_eq_getElem hp'
      have hv := hA.2 _ _ _ hx hy
      rw [hx]
      have : a0.tmps.getD p.toNat undef = us[p.toNat] := by
        simp [a0, Array.getD_eq_getD_getElem?, Array.getElem?_append, hp']
      rw [this]; exact hv
    · rw [List.getElem?_eq_none (by omega)]
      cases p <;> trivial
  have hF : Fr Q σ fn.ntmps X ⟨setAll af.ps args .e, [], X.H⟩ a0 := ⟨rfl, hS, hB, hRR, A2.nil, hsz⟩
  have hW : Way Q σ f fn.ntmps b cs none [.code af.body] [.code c] ⟨setAll af.ps args .e, [], X.H⟩ X a0 := ⟨hF, A2.cons (.code hcode) A2.nil, trivial, hk, rfl⟩
  obtain ⟨X1, a1, items', s1, F1, E1, _, J1⟩ := run_ok hC hE.mix f m fn.ntmps b cs none _ _ _ X a0 jump s' hrun hW
  have hret : ∃ fr1, Steps Q (lone (b.atR a1 items') cs X1.w) (lone fr1 cs X1.w) ∧ Returning (σ f) kind a1.tmps a1.defers fr1 := by
    rcases run_jump f m _ _ _ _ hrun with rfl | rfl
    · have : items' = [] := J1
      subst this
      exact ⟨_, .one (stepR_end rfl), rfl, rfl, rfl, rfl, rfl⟩
    · obtain ⟨k, rfl⟩ := J1
      exact ⟨_, .one (stepR_ret rfl), rfl, rfl, rfl, rfl, rfl⟩
  obtain ⟨fr1, s2, R1⟩ := hret
  rw [← F1.heap] at hdefs
  obtain ⟨fr2, X2, s3, R2, h1, h2, h3, h4⟩ := defs_ok hC (cs := cs) s'.defs X1 a1.defers fr1 H' hdefs F1.sr F1.b F1.defs R1
  rw [← h1] at hres
  obtain ⟨u, g1, g2⟩ := results_ok h2 hrs (RR.ext' σ h4 F1.regs) hres
  refine ⟨fr2, X2, u, ?_, ⟨R2.1, R2.2.1, R2.2.2.1, R2.2.2.2.1, fn, hf, by rw [R2.2.2.2.2]; exact g1⟩, h1, h2, g2, E1.trans (h4.mono E1.len), h3⟩
  show Steps Q (lone b cs X.w) _
  rw [hb]
  exact s1.trans (s2.trans s3)

theorem yield_ok (hE : Env Q σ tab prim) {m : Nat} {call : CallF} (hC : CallOK Q σ call) {b : Nat} {f : Nat} {tmps : T} {ps : List P} {as bd : ACode} {q : LoopSt} {pd : Option ACode} {d : Nat} {X : Wd} (hlp : X.H[b]? = some (.lp f tmps ps as bd q pd d))
    {args : List V} (hlen : args.length = ps.length) {jump : Option ACode} {s' : St} (hrun : run call f m (some b) [.code as, .begR, .code bd] ⟨setAll ps args tmps, [], X.H⟩ = some (jump, s')) (hdefs : s'.defs.isEmpty = true)
    {f' : Nat} {tmps' : T} {ps' : List P} {as' bd' : ACode} {q' : LoopSt} {pd' : Option ACode} {d' : Nat} (hlp' : s'.heap[b]? = some (.lp f' tmps' ps' as' bd' q' pd' d'))
    {us : List Value} {c : Frame} {cs : List Frame} {L : Loc} (hS : SR Q σ X) (hB : X.B ≤ X.w.heap.size) (hA : A2 (VR σ X) args us) (hL : X.rho b = some L) :
    ∃ f tmps as bd X' u, (Instr.yield L.c us.toArray).run Q X.w = .ok (.round L.c f tmps as bd) X.w ∧
      Steps Q (lone (Frame.round L.c f tmps as bd .normal) (c :: cs) X.w) (lone (c.finish u) cs X'.w) ∧ Post Q σ X (.bool jump.isNone) (s'.heap.set b (.lp f' tmps' ps' as' bd' (if jump.isNone then .ready else .done) jump d')) X' u := by
  obtain ⟨n, ts, qs, as0, bd0, pend0, Ld, hobj, h2, h3, h4, h5, h6, h7, h8, h9⟩ := loop_of hS hL hlp
  have hq := (all2_A2 h4).len
  have hsz : us.toArray.size = qs.size := by
    have := hA.len
    simp only [Array.length_toList] at hq
    simp; omega
  have hy := run_yield (P := Q) (args := us.toArray) hobj hsz
  let T0 : Array Value := (qs.zip us.toArray).foldl (fun tmps (t, a) => tmps.setIfInBounds t a) ts
  have hT0 : T0 = (qs.toList.zip us).foldl (fun tmps (t, a) => tmps.setIfInBounds t a) ts := by
    simp only [T0]
    rw [← Array.foldl_toList]
    simp
  let a0 : Act := { tmps := T0, defers := [] }
  let B : Frame := Frame.round L.c (σ f) T0 as0 bd0 .normal
  have hB0 : B = B.atR a0 [.code as0, .beginRound, .code bd0] := by simp [B, a0, Frame.round, Frame.atR]
  have hRR : RR σ X (setAll ps args tmps) T0 := by
    rw [hT0]; exact RR.setAll ps qs.toList args us tmps ts n h2 h3 hA hlen h4
  have hn : n ≤ T0.size := by rw [hT0, setAll_size]; exact h2
  have hF : Fr Q σ n X ⟨setAll ps args tmps, [], X.H⟩ a0 := ⟨rfl, hS, hB, hRR, A2.nil, hn⟩
  have hisl : isLp X b := ⟨_, _, _, _, _, _, _, _, hlp⟩
  have hW : Way Q σ f n B (c :: cs) (some b) [.code as, .begR, .code bd] [.code as0, .beginRound, .code bd0] ⟨setAll ps args tmps, [], X.H⟩ X a0 :=
    ⟨hF, A2.cons (.code h5) (A2.cons .begR (A2.cons (.code h6) A2.nil)), ⟨L, hL, rfl, hisl⟩, .inl rfl, rfl⟩
  obtain ⟨X1, a1, items', s1, F1, E1, _, J1⟩ := run_ok hC hE.mix f m n B (c :: cs) (some b) _ _ _ X a0 jump s' hrun hW
  have hL1 := (hisl.ext E1).2 _ hL
  rw [← F1.heap] at hlp'
  obtain ⟨n1, ts1, qs1, as1, bd1, pend1, Ld1, hobj1, k2, k3, k4, k5, k6, k7, k8, k9⟩ := loop_of F1.sr hL1 hlp'
  have fin : ∀ (jump' : Option Code), mJump Q σ n1 jump jump' → jump'.isNone = jump.isNone → step Q (lone (B.atR a1 items') (c :: cs) X1.w) = .next (lone (c.finish (.bool jump'.isNone)) cs (X1.w.putObj L.c (.loop { state := if jump'.isNone then .ready else .done, pending := jump', fn := σ f', tmps := ts1, params := qs1, assign := as1, body := bd1, defers := Ld1.c }))) →
      ∃ f tmps as bd X' u, (Instr.yield L.c us.toArray).run Q X.w = .ok (.round L.c f tmps as bd) X.w ∧
      Steps Q (lone (Frame.round L.c f tmps as bd .normal) (c :: cs) X.w) (lone (c.finish u) cs X'.w) ∧ Post Q σ X (.bool jump.isNone) (s'.heap.set b (.lp f' tmps' ps' as' bd' (if jump.isNone then .ready else .done) jump d')) X' u := by
    intro jump' hj hn hst
    obtain ⟨g1, g2⟩ := turn_lp F1.sr hL1 hlp' (q' := if jump.isNone then .ready else .done) (pend1 := jump) (pend' := jump') k2 k3 k4 k5 k6 hj k8 k9
    have hq : (if jump.isNone then LoopSt.ready else LoopSt.done).of = (if jump'.isNone then LoopState.ready else LoopState.done) := by
      rw [hn]; cases jump <;> rfl
    rw [hq] at g1 g2
    refine ⟨σ f, T0, as0, bd0, _, .bool jump'.isNone, hy, ?_, ?_, g1, ?_, E1.trans (g2.mono E1.len), ?_⟩
    · show Steps Q (lone B (c :: cs) X.w) _
      rw [hB0]
      exact s1.trans (.one hst)
    · rw [← F1.heap]
    · rw [hn]; exact VR.mkBool _
    · have := F1.b
      simpa [World.putObj] using this
  cases jump with
  | none =>
    have : items' = [] := J1
    subst this
    exact fin none trivial rfl (stepR_round_end rfl rfl (run_endRound (P := Q) none hobj1))
  | some j =>
    cases j with
    | ret =>
      obtain ⟨k, rfl⟩ := J1
      exact fin (some .ret) (by simp [mJump, mCode]) rfl (stepR_round_ret rfl rfl (run_endRound (P := Q) (some .ret) hobj1))
    | exit id =>
      obtain ⟨k, rfl, hx⟩ := J1
      exact fin (some (.exit id)) (by simp [mJump, mCode]) rfl (stepR_round_exit rfl rfl hx (run_endRound (P := Q) (some (.exit id)) hobj1))
    | _ => exact J1.elim

/-- **Every call.** -/
theorem callF_ok (hE : Env Q σ tab prim) (m : Nat) : ∀ d, CallOK Q σ (callF tab prim m d) := by
  intro d
  induction d with
  | zero => exact ⟨fun f args H r h => by simp [callF] at h, fun f args H r H' h => by simp [callF] at h, fun b args H r H' h => by simp [callF] at h⟩
  | succ d hC =>
    refine ⟨fun f args H r h => ?_, fun f args H r H' h X us kind cs hX hS hB hA hk => ?_, fun b args H r H' h X us c cs L hX hS hB hA hL => ?_⟩
    · simp only [callF] at h
      split at h
      · rename_i r' hp
        obtain ⟨r0, H0⟩ := r
        exact (hE.prim f args H r0 H0 (by rw [hp, h])).1
      · split at h
        · simp at h
        · rename_i af htab
          obtain ⟨fn, hf, hm⟩ := hE.fn f af htab
          obtain ⟨c, hname, hbody, _⟩ := mFunc_parts hm
          exact run_callFunc hf hname hbody
    · simp only [callF] at h
      split at h
      · rename_i r' hp
        exact (hE.prim f args H r H' (by rw [hp, h])).2 X us kind cs hX hS hB hA hk
      · split at h
        · simp at h
        · rename_i af htab
          split at h
          · rename_i hlen
            split at h
            · rename_i jump s' hrun
              split at h
              · rename_i H1 hdefs
                simp only [Option.map_eq_some_iff, Prod.mk.injEq] at h
                obtain ⟨r1, hres, rfl, rfl⟩ := h
                subst hX
                exact fn_ok hE hC htab hlen hrun hdefs hres hS hB hA hk
              · simp at h
            · simp at h
          · simp at h
    · simp only [callF] at h
      split at h
      · rename_i f tmps ps as bd q pd d' hlp
        split at h
        · rename_i hlen
          split at h
          · rename_i jump s' hrun
            split at h
            · rename_i hd
              split at h
              · rename_i f' tmps' ps' as' bd' q' pd' d'' hlp'
                simp only [Option.some.injEq, Prod.mk.injEq] at h
                obtain ⟨rfl, rfl⟩ := h
                subst hX
                exact yield_ok hE hC hlp hlen hrun hd hlp' hS hB hA hL
              · simp at h
            · simp at h
          · simp at h
        · simp at h
      · simp at h

/-- **A closed call**: in every world, on every tape. -/
theorem closed_calls (hE : Env Q σ tab prim) {m d f : Nat} {b : Bool} {H' : Heap} (h : callF tab prim m d (.fn f) [] [] = some (.c (.f (.bool b)), H')) (W : World) :
    Calls Q (σ f) #[] W fun e w' => e = .returned (.bool b) ∧ RowKit.Below W.heap.size W w' := by
  intro cs
  let X : Wd := ⟨fun _ => none, fun _ _ => False, [], W, W.heap.size⟩
  have hS : SR Q σ X := ⟨fun b L h => by simp [X] at h, fun b b' L L' h => by simp [X] at h, fun c i h => h.elim⟩
  obtain ⟨fr, X', u, h1, ⟨l1, l2, l3, l4, fn, l5, l6⟩, h3, h4, h5, h6, h7⟩ := (callF_ok hE m d).fn f [] [] _ H' h X [] .normal cs rfl hS (Nat.le_refl _) A2.nil (.inl rfl)
  have hu := VR.bool h5
  subst hu
  refine ⟨.returned (.bool b), X'.w, fr, ⟨rfl, ⟨h6.os, h6.tape, h6.output, h6.size, fun k hk => h6.frame k hk (fun b L h => by simp [X] at h)⟩⟩, h1, l4, l1, l2, l3, fn, by rw [l4]; exact l5, l6⟩

end Km
end

section
namespace Km
open Go

/-- What an operation does to the heap. -/
inductive Eff where
  | no
  | set (b : Nat) (x : Blk)
  | push (x : Blk)

def Eff.app (H : Heap) : Eff → Heap
  | .no => H
  | .set b x => H.set b x
  | .push x => H ++ [x]

def cellsAtG (g : Nat → Option Blk) : C → Option (List C)
  | .ptr b off ep => match g b with
    | some (.box cs _) => some (cs.drop off)
    | some (.opn _ cs _ e .loc) => if ep = e then some (cs.drop off) else none
    | _ => none
  | .f (.fp cs off) => some ((cs.drop off).map .f)
  | _ => none

def ldVG (g : Nat → Option Blk) (n : Option Nat) : V → Option V
  | .c x => (cellsAtG g x).bind (takeV n)
  | _ => none

def slLenG (g : Nat → Option Blk) : C → Option Nat
  | .sl b _ l _ ep sz => match g b with
    | some (.box _ _) => some l
    | some (.opn s _ _ e _) => if ep = e ∧ sz = s then some l else none
    | _ => none
  | .f .nils => some 0
  | .f .es => some 0
  | .f (.fs _ l) => some l
  | _ => none

def slCellsG (g : Nat → Option Blk) (sz : Nat) : C → Option (List C)
  | .sl b o l _ ep s => match g b with
    | some (.box cs _) => if o + l * sz ≤ cs.length then some ((cs.drop o).take (l * sz)) else none
    | some (.opn s' cs _ e _) => if ep = e ∧ s = s' ∧ o + l * sz ≤ cs.length then some ((cs.drop o).take (l * sz)) else none
    | _ => none
  | .f .nils => some []
  | .f .es => some []
  | .f (.fs cs l) => if cs.length = l * sz then some (cs.map .f) else none
  | _ => none

def isNilG (g : Nat → Option Blk) : EqK → C → Option Bool
  | .ptr, .f .nilp => some true
  | .ptr, .f (.fp _ _) => some false
  | .ptr, .ptr _ _ _ => some false
  | .sl, .f .nils => some true
  | .sl, .f .es => some false
  | .sl, .f (.fs _ _) => some false
  | .sl, .sl b _ _ _ ep sz => match g b with
    | some (.box _ _) => some false
    | some (.opn s _ _ e st) => if ep = e ∧ sz = s then some (st == .nil) else none
    | _ => none
  | .fn, .f .nilf => some true
  | .fn, .f (.fn _ _) => some false
  | .fn, .cl _ _ => some false
  | .fn, .bm _ _ => some false
  | .ifc, .f .nili => some true
  | _, _ => none

def eqVG (g : Nat → Option Blk) : EqK → V → V → Option Bool
  | .bool, .c x, .c y => eqP .bool x y
  | .st ks, .a xs, .a ys => eqL ks xs ys
  | .ptr, .c x, .c (.f .nilp) => isNilG g .ptr x
  | .sl, .c x, .c (.f .nils) => isNilG g .sl x
  | .fn, .c x, .c (.f .nilf) => isNilG g .fn x
  | .ifc, .c x, .c (.f .nili) => isNilG g .ifc x
  | _, _, _ => none

def sliceVG (g : Nat → Option Blk) (sz : Nat) (x : V) (lo hi mx : Option V) : Option V :=
  match x with
  | .c (.f .nils) => match boundsV 0 0 lo hi mx with
    | some _ => some (.c (.f .nils))
    | none => none
  | .c (.f .es) => match boundsV 0 0 lo hi mx with
    | some _ => some (.c (.f .es))
    | none => none
  | .c (.f (.fs cs n)) => match boundsV n n lo hi mx with
    | some (l, h, m) =>
      if mx.isSome ∧ m = l then some (.c (.f .es)) else
      some (.c (.f (.fs ((cs.drop (l * sz)).take ((h - l) * sz)) (h - l))))
    | none => none
  | .c (.sl b o n cap ep s) => match g b with
    | some (.box _ _) => match boundsV n cap lo hi mx with
      | some (l, h, m) => if m = l then some (.c (.f .es)) else some (.c (.sl b (o + l * sz) (h - l) (m - l) ep s))
      | none => none
    | some (.opn s' _ _ e st) =>
      if ep = e ∧ s = sz ∧ s' = sz then
        match st with
        | .loc => match boundsV n n lo hi mx with
          | some (l, h, m) =>
            if mx.isSome ∧ m = l then some (.c (.f .es))
            else if l = h ∧ 0 < l then some (.c (.f (.fs [] 0)))
            else if mx.isSome then none
            else some (.c (.sl b (o + l * sz) (h - l) 0 ep s))
          | none => none
        | .nil => match boundsV 0 0 lo hi mx with
          | some _ => some (.c (.f .nils))
          | none => none
        | .es => match boundsV 0 0 lo hi mx with
          | some _ => some (.c (.f .es))
          | none => none
      else none
    | _ => none
  | _ => none

def slarrVG (g : Nat → Option Blk) (n sz : Nat) (x : V) (lo hi mx : Option V) : Option V :=
  match x with
  | .c (.ptr b off _) => match g b with
    | some (.box cs _) => match boundsV n n lo hi mx with
      | some (l, h, m) => if off + n * sz ≤ cs.length then (if m = l then some (.c (.f .es)) else some (.c (.sl b (off + l * sz) (h - l) (m - l) 0 sz))) else none
      | none => none
    | _ => none
  | .c (.f (.fp cs off)) => match boundsV n n lo hi mx with
      | some (l, h, m) => if off + n * sz ≤ cs.length then (if m = l then some (.c (.f .es)) else some (.c (.f (.fs ((cs.drop (off + l * sz)).take ((h - l) * sz)) (h - l))))) else none
      | none => none
  | _ => none

def indexAVG (g : Nat → Option Blk) (sz : Nat) (arr : Option Nat) (x i : V) : Option V :=
  match intV i with
  | none => none
  | some i =>
    if 0 ≤ i then
      match arr, x with
      | none, .c (.sl b o l _ ep s) => if i < l then
          (match g b with
            | some (.box _ _) => some (.c (.ptr b (o + i.toNat * sz) ep))
            | some (.opn s' _ _ e .loc) => if ep = e ∧ s = s' then some (.c (.ptr b (o + i.toNat * sz) ep)) else none
            | _ => none) else none
      | none, .c (.f (.fs cs l)) => if i < l then some (.c (.f (.fp cs (i.toNat * sz)))) else none
      | some n, .c (.ptr b o ep) => if i < n then some (.c (.ptr b (o + i.toNat * sz) ep)) else none
      | some n, .c (.f (.fp cs o)) => if i < n then some (.c (.f (.fp cs (o + i.toNat * sz)))) else none
      | _, _ => none
    else none

def lookupVG (g : Nat → Option Blk) (ck : CK) (z : FC) : V → V → Option V
  | .c (.f .nilm), .c (.f k) => if isKey ck k then some (lkR z none) else none
  | .c (.mp b), .c (.f k) => match g b with
    | some (.map es) => if isKey ck k then (mpFind ck k es).map (lkR z) else none
    | _ => none
  | _, _ => none

def cvbsVG (g : Nat → Option Blk) : V → Option V
  | .c x => match slLenG g x with
    | some _ => match slCellsG g 1 x with
      | some cs => (mapO (fun c => match c with | C.f (.int .u8 n) => some (UInt8.ofNat n.toNat) | _ => none) cs).map fun l => .c (.f (.str ⟨l.toArray⟩))
      | none => none
    | none => none
  | _ => none

def addedVG (g : Nat → Option Blk) (sz : Nat) : V → Option (Nat × List C)
  | .c (.f (.str s)) => if sz = 1 then some (s.size, s.toList.map fun b => .f (.int .u8 b.toNat)) else none
  | .c x => match slLenG g x, slCellsG g sz x with
    | some l, some cs => some (l, cs)
    | _, _ => none
  | _ => none

def slCapG (g : Nat → Option Blk) : C → Option Nat
  | .sl b _ _ c ep sz => match g b with
    | some (.box _ _) => some c
    | some (.opn s _ _ e .nil) => if ep = e ∧ sz = s then some 0 else none
    | some (.opn s _ _ e .es) => if ep = e ∧ sz = s then some 0 else none
    | _ => none
  | .f .nils => some 0
  | .f .es => some 0
  | _ => none

def entryVG (g : Nat → Option Blk) : V → Option V
  | .c (.mi b) => match g b with
    | some (.mit m _ true) => match g m with
      | some (.map [e]) => some (.t [.c (.f e.1), mV e.2])
      | _ => none
    | _ => none
  | _ => none

def stCG (g : Nat → Option Blk) (x : C) (xs : List C) : Option Eff :=
  match x with
  | .ptr b off ep => match g b with
    | some (.box cs fl) => if fl ≤ off ∧ off + xs.length ≤ cs.length then some (.set b (.box (over cs off xs) fl)) else none
    | some (.opn sz cs fl e .loc) => if ep = e ∧ fl ≤ off ∧ off + xs.length ≤ cs.length then some (.set b (.opn sz (over cs off xs) fl e .loc)) else none
    | _ => none
  | _ => none

def nextVG (g : Nat → Option Blk) : V → Option (V × Eff)
  | .c (.it b) => match g b with
    | some (.it s pos) =>
      if pos < s.size then
        let r := Utf8.decode s pos
        some (.t [.bool true, .int .i64 pos, .int .i32 r.1], .set b (.it s (pos + r.2)))
      else some (.t [.bool false], .no)
    | _ => none
  | _ => none

def appendVG (g : Nat → Option Blk) (n0 : Nat) (sz bytes : Nat) (x y : V) : Option (V × Eff) :=
  match addedVG g sz y with
  | none => none
  | some (m, ys) =>
    if sz = 0 then none else
    match x with
    | .c (.f .nils) => if m = 0 then some (.c (.f .nils), .no) else
        if roomOK m bytes then some (.c (.sl n0 0 m 0 0 sz), .push (.opn sz ys 0 0 .loc)) else none
    | .c (.f .es) => if m = 0 then some (.c (.f .es), .no) else
        if roomOK m bytes then some (.c (.sl n0 0 m 0 0 sz), .push (.opn sz ys 0 0 .loc)) else none
    | .c (.sl b o l cap ep s) => match g b with
      | some (.box cs fl) =>
        if l + m ≤ cap then
          if fl ≤ o + l * sz ∧ o + l * sz + ys.length ≤ cs.length then some (.c (.sl b o (l + m) cap ep s), .set b (.box (over cs (o + l * sz) ys) fl)) else none
        else if roomOK (l + m) bytes ∧ o + l * sz ≤ cs.length then some (.c (.sl n0 0 (l + m) 0 0 sz), .push (.opn sz ((cs.drop o).take (l * sz) ++ ys) 0 0 .loc)) else none
      | some (.opn s' cs fl e st) =>
        if ep = e ∧ s' = sz ∧ s = sz then
          if m = 0 then some (x, .no)
          else if o = 0 ∧ l * sz = cs.length ∧ fl ≤ cs.length then
            if roomOK (l + m) bytes then some (.c (.sl b 0 (l + m) 0 (ep + 1) sz), .set b (.opn sz (cs ++ ys) fl (e + 1) .loc)) else none
          else if st = .loc ∧ fl ≤ o + l * sz ∧ o + l * sz + ys.length ≤ cs.length then
            some (.c (.sl b o (l + m) 0 ep sz), .set b (.opn sz (over cs (o + l * sz) ys) fl e .loc))
          else none
        else none
      | _ => none
    | _ => none

def copyVG (g : Nat → Option Blk) (sz : Nat) (x y : V) : Option (V × Eff) :=
  match addedVG g sz y, x with
  | some _, .c (.f .nils) => some (.int .i64 0, .no)
  | some _, .c (.f .es) => some (.int .i64 0, .no)
  | some (m, ys), .c (.sl b o l _ ep s') =>
    let n := Nat.min m l
    match g b with
    | some (.box cs fl) => if fl ≤ o ∧ o + n * sz ≤ cs.length then some (.int .i64 n, .set b (.box (over cs o (ys.take (n * sz))) fl)) else none
    | some (.opn s cs fl e .loc) => if ep = e ∧ s' = s ∧ s = sz ∧ fl ≤ o ∧ o + n * sz ≤ cs.length then some (.int .i64 n, .set b (.opn s (over cs o (ys.take (n * sz))) fl e .loc)) else none
    | _ => none
  | _, _ => none

def clearVG (g : Nat → Option Blk) (sz : Nat) (zs : List FC) (x : V) : Option Eff :=
  match x with
  | .c y => match slLenG g y with
    | some 0 => some .no
    | some l =>
      if zs.length = sz then
        match y with
        | .sl b o _ _ ep s => match g b with
          | some (.box _ _) => stCG g (.ptr b o ep) ((repl l zs).map .f)
          | some (.opn s' _ _ e .loc) => if ep = e ∧ s = s' then stCG g (.ptr b o ep) ((repl l zs).map .f) else none
          | _ => none
        | _ => none
      else none
    | none => none
  | _ => none

def appzVG (g : Nat → Option Blk) (n0 : Nat) (sz bytes : Nat) (zs : List FC) (x n : V) : Option (V × Eff) :=
  match intV n with
  | some n =>
    if 0 ≤ n ∧ zs.length = sz then
      match x with
      | .c (.f .nils) => if n.toNat = 0 then some (.c (.f .nils), .no) else
          if roomOK n.toNat bytes then some (.c (.sl n0 0 n.toNat 0 0 sz), .push (.opn sz ((repl n.toNat zs).map .f) 0 0 .loc)) else none
      | .c (.f .es) => if n.toNat = 0 then some (.c (.f .es), .no) else
          if roomOK n.toNat bytes then some (.c (.sl n0 0 n.toNat 0 0 sz), .push (.opn sz ((repl n.toNat zs).map .f) 0 0 .loc)) else none
      | _ => none
    else none
  | none => none

def nextmVG (g : Nat → Option Blk) : V → Option (V × Eff)
  | .c (.mi b) => match g b with
    | some (.mit m since done) => match g m with
      | some (.map []) => if done then none else some (.t [.bool false], .no)
      | some (.map [e]) => if done then some (.t [.bool false], .no) else if since = 1 then some (.t [.bool true, .c (.f e.1), mV e.2], .set b (.mit m 1 true)) else none
      | _ => none
    | _ => none
  | _ => none

def rangemVG (g : Nat → Option Blk) (n0 : Nat) : V → Option (V × Eff)
  | .c (.mp b) => match g b with
    | some (.map es) => if es.length ≤ 1 then some (.c (.mi n0), .push (.mit b es.length false)) else none
    | _ => none
  | _ => none

def xOpG (regs : T) (g : Nat → Option Blk) (n0 : Nat) : AOp → Option (V × Eff)
  | .mov x => some (x.ev regs, .no)
  | .pre o sz => if o = .loc ∨ sz = 0 then none else some (.c (.sl n0 0 0 0 0 sz), .push (.opn sz [] 0 0 o))
  | .pick c a b => match c.ev regs with
    | .c (.f (.bool v)) => some ((if v then a else b).ev regs, .no)
    | _ => none
  | .alloc zs => some (.c (.ptr n0 0 0), .push (.box (zs.map .f) 0))
  | .box x => match (x.ev regs).cells? with
    | some xs => some (.c (.ptr n0 0 0), .push (.box xs 0))
    | none => none
  | .build zs ps => (partsV regs (zs.map .f) ps).map fun cs => (.a cs, .no)
  | .bslice sz zs n ps =>
    if n = 0 then (if ps.isEmpty then some (.c (.f .es), .no) else none) else
    (partsV regs ((repl n zs).map .f) (ps.map fun p => (p.1 * sz, sz, p.2))).map fun cs => (.c (.sl n0 0 n n 0 sz), .push (.box cs 0))
  | .load n x => (ldVG g n (x.ev regs)).map (·, .no)
  | .store n x y => match x.ev regs, (y.ev regs).cells? with
    | .c p, some xs => if xs.length = n then (stCG g p xs).map (.top, ·) else none
    | _, _ => none
  | .nilchk x => match x.ev regs with
    | .c (.ptr b o e) => some (.c (.ptr b o e), .no)
    | .c (.f (.fp cs o)) => some (.c (.f (.fp cs o)), .no)
    | _ => none
  | .bin op x y => (binV op (x.ev regs) (y.ev regs)).map (·, .no)
  | .eq neg k x y => (eqVG g k (x.ev regs) (y.ev regs)).map fun b => (.bool (if neg then !b else b), .no)
  | .un op x => (unV op (x.ev regs)).map (·, .no)
  | .cvi k x => match x.ev regs with
    | .c (.f (.int _ n)) => some (.int k (k.wrap n), .no)
    | _ => none
  | .cvid x => match x.ev regs with
    | .c (.f (.str s)) => some (.c (.f (.str s)), .no)
    | _ => none
  | .cvbs x => (cvbsVG g (x.ev regs)).map (·, .no)
  | .cvsb x => match x.ev regs with
    | .c (.f (.str s)) => if s.size < 2 ^ 48 then some (.c (.sl n0 0 s.size 0 0 1), .push (.opn 1 (s.toList.map fun b => .f (.int .u8 b.toNat)) 0 0 .loc)) else none
    | _ => none
  | .mkfn f caps => (mapO capC (argsV regs caps)).map fun xs => (.c (.cl f xs), .no)
  | .mkmap => some (.c (.mp n0), .push (.map []))
  | .lookup ck z m k => (lookupVG g ck z (m.ev regs) (k.ev regs)).map (·, .no)
  | .mapup ck m k v => match m.ev regs, k.ev regs, cellM (v.ev regs) with
    | .c (.mp b), .c (.f k), some v => match g b with
      | some (.map es) => if isKey ck k then (mpPut ck k v es).map fun es => (.top, .set b (.map es)) else none
      | _ => none
    | _, _, _ => none
  | .mkslice sz bytes zs l c => match intV (l.ev regs), intV (c.ev regs) with
    | some l, some c =>
      if 0 ≤ l ∧ l ≤ c ∧ roomOK c.toNat bytes = true ∧ zs.length = sz then
        (if c = 0 then some (.c (.f .es), .no) else
        some (.c (.sl n0 0 l.toNat c.toNat 0 sz), .push (.box ((repl c.toNat zs).map .f) 0)))
      else none
    | _, _ => none
  | .slice sz x lo hi mx => (sliceVG g sz (x.ev regs) (lo.map (·.ev regs)) (hi.map (·.ev regs)) (mx.map (·.ev regs))).map (·, .no)
  | .slarr n sz x lo hi mx => (slarrVG g n sz (x.ev regs) (lo.map (·.ev regs)) (hi.map (·.ev regs)) (mx.map (·.ev regs))).map (·, .no)
  | .slstr x lo hi => (slstrV (x.ev regs) (lo.map (·.ev regs)) (hi.map (·.ev regs))).map (·, .no)
  | .fieldA off x => (fieldAV off (x.ev regs)).map (·, .no)
  | .field off n x => (fieldV off n (x.ev regs)).map (·, .no)
  | .indexA sz arr x i => (indexAVG g sz arr (x.ev regs) (i.ev regs)).map (·, .no)
  | .idxs x i => (idxsV (x.ev regs) (i.ev regs)).map (·, .no)
  | .idxa len sz n x i => (idxaV len sz n (x.ev regs) (i.ev regs)).map (·, .no)
  | .range x => match x.ev regs with
    | .c (.f (.str s)) => some (.c (.it n0), .push (.it s 0))
    | _ => none
  | .next x => nextVG g (x.ev regs)
  | .extract x i => match x.ev regs with
    | .t vs => (vs[i]?).map (·, .no)
    | _ => none
  | .lenA n => some (.int .i64 n, .no)
  | .lens x => match x.ev regs with
    | .c (.f (.str s)) => some (.int .i64 (s.size : Nat), .no)
    | _ => none
  | .len x => match x.ev regs with
    | .c y => match slLenG g y with
      | some n => some (.int .i64 (n : Nat), .no)
      | none => none
    | _ => none
  | .append sz bytes x y => appendVG g n0 sz bytes (x.ev regs) (y.ev regs)
  | .copy sz x y => copyVG g sz (x.ev regs) (y.ev regs)
  | .maxs lo xs => (maxV lo (argsV regs xs)).map (·, .no)
  | .clear sz zs x => (clearVG g sz zs (x.ev regs)).map (.t [], ·)
  | .appz sz bytes zs x n => appzVG g n0 sz bytes zs (x.ev regs) (n.ev regs)
  | .rangem x => rangemVG g n0 (x.ev regs)
  | .nextm x => nextmVG g (x.ev regs)
  | .entry x => (entryVG g (x.ev regs)).map (·, .no)
  | .mkbm f xs => (mapO capC (argsV regs xs)).map fun xs => (.c (.bm f xs), .no)
  | .cap x => match x.ev regs with
    | .c y => match slCapG g y with
      | some n => some (.int .i64 (n : Nat), .no)
      | none => none
    | _ => none
  | _ => none

/-! ### They are the machine's -/

def gt (H : Heap) : Nat → Option Blk := fun b => H[b]?

theorem cellsAtG_eq (H : Heap) : cellsAtG (gt H) = cellsAt H := by funext x; unfold cellsAtG cellsAt gt; rfl
theorem ldVG_eq (H : Heap) : ldVG (gt H) = ldV H := by funext n x; unfold ldVG ldV; rw [cellsAtG_eq]; rfl
theorem slLenG_eq (H : Heap) : slLenG (gt H) = slLen H := by funext x; unfold slLenG slLen gt; rfl
theorem slCellsG_eq (H : Heap) : slCellsG (gt H) = slCells H := by funext n x; unfold slCellsG slCells gt; rfl
theorem isNilG_eq (H : Heap) : isNilG (gt H) = isNil H := by funext k x; unfold isNilG isNil gt; rfl
theorem eqVG_eq (H : Heap) : eqVG (gt H) = eqV H := by funext k x y; unfold eqVG eqV; rw [isNilG_eq]; rfl
theorem sliceVG_eq (H : Heap) : sliceVG (gt H) = sliceV H := by funext n x a b c; unfold sliceVG sliceV gt; rfl
theorem slarrVG_eq (H : Heap) : slarrVG (gt H) = slarrV H := by funext m n x a b c; unfold slarrVG slarrV gt; rfl
theorem indexAVG_eq (H : Heap) : indexAVG (gt H) = indexAV H := by funext n a x i; unfold indexAVG indexAV gt; rfl
theorem lookupVG_eq (H : Heap) : lookupVG (gt H) = lookupV H := by funext k z x y; unfold lookupVG lookupV gt; rfl
theorem cvbsVG_eq (H : Heap) : cvbsVG (gt H) = cvbsV H := by funext x; unfold cvbsVG cvbsV; rw [slLenG_eq, slCellsG_eq]; rfl
theorem addedVG_eq (H : Heap) : addedVG (gt H) = addedV H := by funext n x; unfold addedVG addedV; rw [slLenG_eq, slCellsG_eq]; rfl

theorem slCapG_eq (H : Heap) : slCapG (gt H) = slCap H := by funext x; unfold slCapG slCap gt; rfl
theorem entryVG_eq (H : Heap) : entryVG (gt H) = entryV H := by funext x; unfold entryVG entryV gt; rfl

/-- With its effect carried out. -/
def app2 (H : Heap) (r : Option (V × Eff)) : Option (V × Heap) := r.map fun r => (r.1, r.2.app H)

theorem stCG_eq (H : Heap) (x : C) (xs : List C) : (stCG (gt H) x xs).map (·.app H) = stC H x xs := by
  cases x with
  | ptr b off ep =>
    simp only [stCG, stC, gt]
    cases h : H[b]? with
    | none => rfl
    | some blk =>
      cases blk with
      | box cs fl => simp only; split <;> rfl
      | opn sz cs fl e st => cases st <;> simp only <;> first | rfl | (split <;> rfl)
      | _ => rfl
  | _ => rfl

theorem nextVG_eq (H : Heap) (x : V) : app2 H (nextVG (gt H) x) = nextV H x := by
  cases x with
  | c x =>
    cases x with
    | it b =>
      simp only [nextVG, nextV, gt, app2]
      cases h : H[b]? with
      | none => rfl
      | some blk =>
        cases blk with
        | it s pos => simp only; split <;> rfl
        | _ => rfl
    | _ => rfl
  | _ => rfl

theorem copyVG_eq (H : Heap) (sz : Nat) (x y : V) : app2 H (copyVG (gt H) sz x y) = copyV H sz x y := by
  unfold copyVG copyV app2
  rw [addedVG_eq]
  cases ha : addedV H sz y with
  | none => rfl
  | some r =>
    obtain ⟨m, ys⟩ := r
    cases x with
    | c x =>
      cases x with
      | f x => cases x <;> rfl
      | sl b o l cap ep s =>
        simp only [gt]
        cases h : H[b]? with
        | none => rfl
        | some blk =>
          cases blk with
          | box cs fl => simp only; split <;> rfl
          | opn sz cs fl e st => cases st <;> simp only <;> first | rfl | (split <;> rfl)
          | _ => rfl
      | _ => rfl
    | _ => rfl

theorem appendVG_eq (H : Heap) (sz bytes : Nat) (x y : V) : app2 H (appendVG (gt H) H.length sz bytes x y) = appendV H sz bytes x y := by
  unfold appendVG appendV app2
  rw [addedVG_eq]
  cases ha : addedV H sz y with
  | none => rfl
  | some r =>
    obtain ⟨m, ys⟩ := r
    simp only
    by_cases h0 : sz = 0
    · simp [h0]
    · simp only [h0, if_false]
      cases x with
      | c x =>
        cases x with
        | f x => cases x <;> first | rfl | (simp only; repeat' (first | rfl | split))
        | sl b o l cap ep s =>
          simp only [gt]
          cases h : H[b]? with
          | none => rfl
          | some blk =>
            cases blk with
            | box cs fl => simp only; repeat' (first | rfl | split)
            | opn sz cs fl e st => simp only; repeat' (first | rfl | split)
            | _ => rfl
        | _ => rfl
      | _ => rfl

theorem clearVG_eq (H : Heap) (sz : Nat) (zs : List FC) (x : V) : (clearVG (gt H) sz zs x).map (·.app H) = clearV H sz zs x := by
  unfold clearVG clearV
  cases x with
  | c y =>
    simp only [slLenG_eq]
    cases slLen H y with
    | none => rfl
    | some l =>
      cases l with
      | zero => rfl
      | succ l =>
        simp only
        split
        · cases y with
          | sl b o l' c ep s =>
            simp only [gt]
            cases h : H[b]? with
            | none => rfl
            | some blk =>
              cases blk with
              | box cs fl => exact stCG_eq H _ _
              | opn s' cs fl e st =>
                cases st <;> simp only <;> first | rfl | skip
                split
                · exact stCG_eq H _ _
                · rfl
              | _ => rfl
          | _ => rfl
        · rfl
  | _ => rfl

theorem appzVG_eq (H : Heap) (sz bytes : Nat) (zs : List FC) (x n : V) : app2 H (appzVG (gt H) H.length sz bytes zs x n) = appzV H sz bytes zs x n := by
  unfold appzVG appzV app2
  cases intV n with
  | none => rfl
  | some n =>
    simp only
    split
    · cases x with
      | c x =>
        cases x with
        | f x => cases x <;> first | rfl | (simp only; repeat' (first | rfl | split))
        | _ => rfl
      | _ => rfl
    · rfl

theorem nextmVG_eq (H : Heap) (x : V) : app2 H (nextmVG (gt H) x) = nextmV H x := by
  cases x with
  | c x =>
    cases x with
    | mi b =>
      simp only [nextmVG, nextmV, gt, app2]
      cases h : H[b]? with
      | none => rfl
      | some blk =>
        cases blk with
        | mit m since done =>
          simp only
          cases h2 : H[m]? with
          | none => rfl
          | some blk2 =>
            cases blk2 with
            | map es =>
              match es with
              | [] => simp only; split <;> rfl
              | [e] => simp only; repeat' (first | rfl | split)
              | _ :: _ :: _ => rfl
            | _ => rfl
        | _ => rfl
    | _ => rfl
  | _ => rfl

theorem rangemVG_eq (H : Heap) (x : V) : app2 H (rangemVG (gt H) H.length x) = rangemV H x := by
  cases x with
  | c x =>
    cases x with
    | mp b =>
      simp only [rangemVG, rangemV, gt, app2]
      cases h : H[b]? with
      | none => rfl
      | some blk =>
        cases blk with
        | map es => simp only; split <;> rfl
        | _ => rfl
    | _ => rfl
  | _ => rfl

theorem app2_no {H : Heap} (o : Option V) : app2 H (o.map (·, .no)) = o.map (·, H) := by cases o <;> rfl

theorem xOpG_eq (regs : T) (H : Heap) (op : AOp) : app2 H (xOpG regs (gt H) H.length op) = xOp regs H op := by
  cases op <;> simp only [xOpG, xOp, app2_no, ldVG_eq, sliceVG_eq, slarrVG_eq, indexAVG_eq, lookupVG_eq, cvbsVG_eq, appendVG_eq, copyVG_eq, nextVG_eq, appzVG_eq, nextmVG_eq, rangemVG_eq, entryVG_eq]
  all_goals first | rfl | skip
  case pre o sz => split <;> rfl
  case pick c a b =>
    generalize c.ev regs = v
    cases v <;> try rfl
    rename_i x; cases x <;> try rfl
    rename_i x; cases x <;> rfl
  case box x => generalize (x.ev regs).cells? = o; cases o <;> rfl
  case build zs ps => cases partsV regs (zs.map .f) ps <;> rfl
  case bslice sz zs n ps =>
    split
    · split <;> rfl
    · simp only [app2, Option.map_map]; rfl
  case store n x y =>
    generalize x.ev regs = v
    generalize (y.ev regs).cells? = o
    cases v <;> cases o <;> try rfl
    simp only
    split
    · rw [← stCG_eq]; simp only [app2, Option.map_map]; rfl
    · rfl
  case nilchk x =>
    generalize x.ev regs = v
    cases v <;> try rfl
    rename_i x; cases x <;> try rfl
    rename_i x; cases x <;> rfl
  case eq neg k x y => rw [eqVG_eq]; simp only [app2, Option.map_map]; rfl
  case cvi k x =>
    generalize x.ev regs = v
    cases v <;> try rfl
    rename_i x; cases x <;> try rfl
    rename_i x; cases x <;> rfl
  case cvid x =>
    generalize x.ev regs = v
    cases v <;> try rfl
    rename_i x; cases x <;> try rfl
    rename_i x; cases x <;> rfl
  case cvsb x =>
    generalize x.ev regs = v
    cases v <;> try rfl
    rename_i x; cases x <;> try rfl
    rename_i x; cases x <;> try rfl
    simp only
    split <;> rfl
  case mkfn f caps => simp only [app2, Option.map_map]; rfl
  case mapup ck m k v =>
    generalize m.ev regs = m
    generalize k.ev regs = k
    generalize cellM (v.ev regs) = v
    cases m <;> try rfl
    rename_i m; cases m <;> try rfl
    cases k <;> try rfl
    rename_i k; cases k <;> try rfl
    cases v <;> try rfl
    simp only [gt]
    rename_i b k v
    cases H[b]? with
    | none => rfl
    | some blk =>
      cases blk <;> try rfl
      simp only
      split
      · simp only [app2, Option.map_map]; rfl
      · rfl
  case mkslice sz bytes zs l c =>
    generalize intV (l.ev regs) = l
    generalize intV (c.ev regs) = c
    cases l <;> cases c <;> try rfl
    simp only
    split
    · split <;> rfl
    · rfl
  case range x =>
    generalize x.ev regs = v
    cases v <;> try rfl
    rename_i x; cases x <;> try rfl
    rename_i x; cases x <;> rfl
  case extract x i =>
    generalize x.ev regs = v
    cases v <;> try rfl
    simp only [app2_no]
  case len x =>
    generalize x.ev regs = v
    cases v <;> try rfl
    rw [slLenG_eq]
    simp only
    rename_i y
    cases slLen H y <;> rfl
  case lens x =>
    generalize x.ev regs = v
    cases v <;> try rfl
    rename_i x; cases x <;> try rfl
    rename_i x; cases x <;> rfl
  case clear sz zs x => rw [← clearVG_eq]; simp only [app2, Option.map_map]; rfl
  case mkbm f caps => simp only [app2, Option.map_map]; rfl
  case cap x =>
    generalize x.ev regs = v
    cases v <;> try rfl
    rw [slCapG_eq]
    simp only
    rename_i y
    cases slCap H y <;> rfl

end Km
end

section
set_option linter.unusedVariables false
namespace Km
open Go

/-! ### Trees -/

inductive BT (α : Type) where
  | e
  | n (l : BT α) (x : α) (r : BT α)

def BT.get {α : Type} : BT α → Nat → Option α
  | .e, _ => none
  | .n l x r, b => match b with
    | 0 => some x
    | m + 1 => if m % 2 = 0 then l.get (m / 2) else r.get (m / 2)

abbrev HT := BT Blk

def bgetK {α : Type} (b : Nat) (t : BT α) (k : α → Prop) : Prop :=
  BT.rec (motive := fun _ => Nat → Prop) (fun _ => False)
    (fun _ x _ ihl ihr b => Nat.rec (motive := fun _ => Prop) (k x) (fun m _ => Nat.rec (motive := fun _ => Prop) (ihl (Nat.div m 2)) (fun _ _ => ihr (Nat.div m 2)) (Nat.mod m 2)) b) t b

def bsetK {α : Type} (x : α) (t : BT α) : Nat → (BT α → Prop) → Prop :=
  BT.rec (motive := fun _ => Nat → (BT α → Prop) → Prop) (fun _ _ => False)
    (fun l y r ihl ihr b k => Nat.rec (motive := fun _ => Prop) (k (.n l x r))
      (fun m _ => Nat.rec (motive := fun _ => Prop) (ihl (Nat.div m 2) fun l' => k (.n l' y r)) (fun _ _ => ihr (Nat.div m 2) fun r' => k (.n l y r')) (Nat.mod m 2)) b) t

def bpushK {α : Type} (x : α) (t : BT α) : Nat → (BT α → Prop) → Prop :=
  BT.rec (motive := fun _ => Nat → (BT α → Prop) → Prop) (fun b k => Nat.rec (motive := fun _ => Prop) (k (.n .e x .e)) (fun _ _ => False) b)
    (fun l y r ihl ihr b k => Nat.rec (motive := fun _ => Prop) False
      (fun m _ => Nat.rec (motive := fun _ => Prop) (ihl (Nat.div m 2) fun l' => k (.n l' y r)) (fun _ _ => ihr (Nat.div m 2) fun r' => k (.n l y r')) (Nat.mod m 2)) b) t

theorem mod2 (m : Nat) : m % 2 = 0 ∨ m % 2 = 1 := by omega

theorem bgetK_ok {α : Type} {t : BT α} : ∀ {b : Nat} {k : α → Prop}, bgetK b t k → ∃ x, t.get b = some x ∧ k x := by
  induction t with
  | e => intro b k h; exact h.elim
  | n l x r ihl ihr =>
    intro b k h
    cases b with
    | zero => exact ⟨x, rfl, h⟩
    | succ m =>
      have h' : Nat.rec (motive := fun _ => Prop) (bgetK (m / 2) l k) (fun _ _ => bgetK (m / 2) r k) (m % 2) := h
      rcases mod2 m with e | e <;> rw [e] at h'
      · obtain ⟨y, g1, g2⟩ := ihl h'
        exact ⟨y, by simp [BT.get, e, g1], g2⟩
      · obtain ⟨y, g1, g2⟩ := ihr h'
        exact ⟨y, by simp [BT.get, e, g1], g2⟩

/-- The tree t' is t with x at b. -/
def PutAt {α : Type} (t t' : BT α) (b : Nat) (x : α) : Prop := ∀ i, t'.get i = if i = b then some x else t.get i

theorem PutAt.left {α : Type} {l l' r : BT α} {y x : α} {m : Nat} (e : m % 2 = 0) (h : PutAt l l' (m / 2) x) : PutAt (.n l y r) (.n l' y r) (m + 1) x := by
  intro i
  cases i with
  | zero => simp [BT.get]
  | succ j =>
    simp only [BT.get, h (j / 2)]
    rcases mod2 j with e' | e'
    · have : (j / 2 = m / 2) ↔ (j = m) := by omega
      simp [e', this]
    · have : j ≠ m := by omega
      simp [e', this]

theorem PutAt.right {α : Type} {l r' r : BT α} {y x : α} {m : Nat} (e : m % 2 = 1) (h : PutAt r r' (m / 2) x) : PutAt (.n l y r) (.n l y r') (m + 1) x := by
  intro i
  cases i with
  | zero => simp [BT.get]
  | succ j =>
    simp only [BT.get, h (j / 2)]
    rcases mod2 j with e' | e'
    · have : j ≠ m := by omega
      simp [e', this]
    · have : (j / 2 = m / 2) ↔ (j = m) := by omega
      simp [e', this]

theorem bsetK_ok {α : Type} {x : α} {t : BT α} : ∀ {b : Nat} {k : BT α → Prop}, bsetK x t b k → ∃ t', PutAt t t' b x ∧ (∃ y, t.get b = some y) ∧ k t' := by
  induction t with
  | e => intro b k h; exact h.elim
  | n l y r ihl ihr =>
    intro b k h
    cases b with
    | zero =>
      refine ⟨.n l x r, fun i => ?_, ⟨y, rfl⟩, h⟩
      cases i <;> simp [BT.get]
    | succ m =>
      have h' : Nat.rec (motive := fun _ => Prop) (bsetK x l (m / 2) fun l' => k (.n l' y r)) (fun _ _ => bsetK x r (m / 2) fun r' => k (.n l y r')) (m % 2) := h
      rcases mod2 m with e | e <;> rw [e] at h'
      · obtain ⟨l', g1, ⟨z, g2⟩, g3⟩ := ihl h'
        exact ⟨_, g1.left e, ⟨z, by simp [BT.get, e, g2]⟩, g3⟩
      · obtain ⟨l', g1, ⟨z, g2⟩, g3⟩ := ihr h'
        exact ⟨_, g1.right e, ⟨z, by simp [BT.get, e, g2]⟩, g3⟩

theorem bpushK_ok {α : Type} {x : α} {t : BT α} : ∀ {b : Nat} {k : BT α → Prop}, bpushK x t b k → ∃ t', PutAt t t' b x ∧ k t' := by
  induction t with
  | e =>
    intro b k h
    cases b with
    | zero =>
      refine ⟨.n .e x .e, fun i => ?_, h⟩
      cases i <;> simp [BT.get]
    | succ m => exact h.elim
  | n l y r ihl ihr =>
    intro b k h
    cases b with
    | zero => exact h.elim
    | succ m =>
      have h' : Nat.rec (motive := fun _ => Prop) (bpushK x l (m / 2) fun l' => k (.n l' y r)) (fun _ _ => bpushK x r (m / 2) fun r' => k (.n l y r')) (m % 2) := h
      rcases mod2 m with e | e <;> rw [e] at h'
      · obtain ⟨l', g1, g3⟩ := ihl h'
        exact ⟨_, g1.left e, g3⟩
      · obtain ⟨l', g1, g3⟩ := ihr h'
        exact ⟨_, g1.right e, g3⟩

/-- The tree stands for the heap. -/
def HRel (H : Heap) (t : HT) : Prop := t.get = gt H

theorem HRel.nil : HRel [] .e := by funext b; simp [BT.get, gt]

theorem HRel.set {H : Heap} {t t' : HT} (h : HRel H t) {b : Nat} {x : Blk} (hp : PutAt t t' b x) (hb : ∃ y, t.get b = some y) : HRel (H.set b x) t' := by
  funext i
  obtain ⟨y, hy⟩ := hb
  rw [h] at hy
  have hlt : b < H.length := (List.getElem?_eq_some_iff.1 hy).1
  rw [hp i, h]
  simp only [gt]
  by_cases e : i = b
  · subst e; simp [hlt]
  · simp [e, List.getElem?_set_ne (Ne.symm e)]

theorem HRel.push {H : Heap} {t t' : HT} (h : HRel H t) {x : Blk} (hp : PutAt t t' H.length x) : HRel (H ++ [x]) t' := by
  funext i
  rw [hp i, h]
  simp only [gt]
  by_cases e : i = H.length
  · subst e; simp
  · by_cases hi : i < H.length
    · simp [e, List.getElem?_append_left hi]
    · rw [List.getElem?_append_right (by omega)]
      have : i - H.length ≠ 0 := by omega
      simp [e, List.getElem?_eq_none (l := H) (i := i) (by omega), this]

/-! ### Values reckoned -/

def forceN (n : Nat) (k : Nat → Prop) : Prop := Nat.rec (motive := fun _ => Prop) (k 0) (fun m _ => k (Nat.succ m)) n
def forceI (n : Int) (k : Int → Prop) : Prop := Int.rec (motive := fun _ => Prop) (fun n => forceN n fun n => k (.ofNat n)) (fun n => forceN n fun n => k (.negSucc n)) n
def forceB (b : Bool) (k : Bool → Prop) : Prop := Bool.rec (motive := fun _ => Prop) (k false) (k true) b

theorem forceN_eq (n : Nat) (k : Nat → Prop) : forceN n k = k n := by cases n <;> rfl
theorem forceI_eq (n : Int) (k : Int → Prop) : forceI n k = k n := by cases n <;> simp only [forceI, forceN_eq]
theorem forceB_eq (b : Bool) (k : Bool → Prop) : forceB b k = k b := by cases b <;> rfl

def forceF (x : FC) (k : FC → Prop) : Prop := match x with
  | .bool b => forceB b fun b => k (.bool b)
  | .int j n => forceI n fun n => k (.int j n)
  | .fp cs o => forceN o fun o => k (.fp cs o)
  | .fs cs l => forceN l fun l => k (.fs cs l)
  | x => k x

theorem forceF_eq (x : FC) (k : FC → Prop) : forceF x k = k x := by cases x <;> simp only [forceF, forceN_eq, forceI_eq, forceB_eq]

def forceC (x : C) (k : C → Prop) : Prop := match x with
  | .f x => forceF x fun x => k (.f x)
  | .ptr b o e => forceN b fun b => forceN o fun o => forceN e fun e => k (.ptr b o e)
  | .sl b o l c e s => forceN b fun b => forceN o fun o => forceN l fun l => forceN c fun c => forceN e fun e => forceN s fun s => k (.sl b o l c e s)
  | x => k x

theorem forceC_eq (x : C) (k : C → Prop) : forceC x k = k x := by cases x <;> simp only [forceC, forceN_eq, forceF_eq]

def forceL (xs : List C) : (List C → Prop) → Prop :=
  List.rec (motive := fun _ => (List C → Prop) → Prop) (fun k => k []) (fun x _ ih k => forceC x fun x => ih fun xs => k (x :: xs)) xs

theorem forceL_eq : ∀ (xs : List C) (k : List C → Prop), forceL xs k = k xs
  | [], k => rfl
  | x :: xs, k => by
    show forceC x (fun x => forceL xs fun xs => k (x :: xs)) = _
    rw [forceC_eq, forceL_eq xs]

def forceV1 (v : V) (k : V → Prop) : Prop := match v with
  | .c x => forceC x fun x => k (.c x)
  | .a xs => forceL xs fun xs => k (.a xs)
  | v => k v

theorem forceV1_eq (v : V) (k : V → Prop) : forceV1 v k = k v := by cases v <;> simp only [forceV1, forceC_eq, forceL_eq]

def forceVs (xs : List V) : (List V → Prop) → Prop :=
  List.rec (motive := fun _ => (List V → Prop) → Prop) (fun k => k []) (fun x _ ih k => forceV1 x fun x => ih fun xs => k (x :: xs)) xs

theorem forceVs_eq : ∀ (xs : List V) (k : List V → Prop), forceVs xs k = k xs
  | [], k => rfl
  | x :: xs, k => by
    show forceV1 x (fun x => forceVs xs fun xs => k (x :: xs)) = _
    rw [forceV1_eq, forceVs_eq xs]

def forceV (v : V) (k : V → Prop) : Prop := match v with
  | .c x => forceC x fun x => k (.c x)
  | .a xs => forceL xs fun xs => k (.a xs)
  | .t vs => forceVs vs fun vs => k (.t vs)
  | .top => k .top

theorem forceV_eq (v : V) (k : V → Prop) : forceV v k = k v := by cases v <;> simp only [forceV, forceC_eq, forceL_eq, forceVs_eq]

def forceX (x : Blk) (k : Blk → Prop) : Prop := match x with
  | .box cs fl => forceL cs fun cs => forceN fl fun fl => k (.box cs fl)
  | .opn sz cs fl e st => forceL cs fun cs => forceN fl fun fl => forceN e fun e => k (.opn sz cs fl e st)
  | .it s p => forceN p fun p => k (.it s p)
  | x => k x

theorem forceX_eq (x : Blk) (k : Blk → Prop) : forceX x k = k x := by cases x <;> simp only [forceX, forceN_eq, forceL_eq]

/-! ### Slots -/

def getK (p : P) : T → (V → Prop) → Prop :=
  P.rec (motive := fun _ => T → (V → Prop) → Prop)
    (fun t k => T.rec (motive := fun _ => Prop) (k .top) (fun _ v _ _ _ => k v) t)
    (fun _ ih t k => T.rec (motive := fun _ => Prop) (k .top) (fun l _ _ _ _ => ih l k) t)
    (fun _ ih t k => T.rec (motive := fun _ => Prop) (k .top) (fun _ _ r _ _ => ih r k) t) p

theorem getK_eq : ∀ (p : P) (t : T) (k : V → Prop), getK p t k = k (t.get p)
  | .h, .e, k => rfl
  | .h, .n _ _ _, k => rfl
  | .o p, .e, k => rfl
  | .o p, .n l _ _, k => getK_eq p l k
  | .i p, .e, k => rfl
  | .i p, .n _ _ r, k => getK_eq p r k

def setK (p : P) (w : V) : T → (T → Prop) → Prop :=
  P.rec (motive := fun _ => T → (T → Prop) → Prop)
    (fun t k => T.rec (motive := fun _ => Prop) (k (.n .e w .e)) (fun l _ r _ _ => k (.n l w r)) t)
    (fun _ ih t k => T.rec (motive := fun _ => Prop) (ih .e fun l => k (.n l .top .e)) (fun l v r _ _ => ih l fun l => k (.n l v r)) t)
    (fun _ ih t k => T.rec (motive := fun _ => Prop) (ih .e fun r => k (.n .e .top r)) (fun l v r _ _ => ih r fun r => k (.n l v r)) t) p

theorem setK_eq (w : V) : ∀ (p : P) (t : T) (k : T → Prop), setK p w t k = k (t.set p w)
  | .h, .e, k => rfl
  | .h, .n _ _ _, k => rfl
  | .o p, .e, k => setK_eq w p .e _
  | .o p, .n l _ _, k => setK_eq w p l _
  | .i p, .e, k => setK_eq w p .e _
  | .i p, .n _ _ r, k => setK_eq w p r _

def evK (x : Arg) (r : T) (k : V → Prop) : Prop := Arg.rec (motive := fun _ => Prop) (fun p => getK p r k) (fun v => k v) x
theorem evK_eq (x : Arg) (r : T) (k : V → Prop) : evK x r k = k (x.ev r) := by cases x; exact getK_eq _ _ _; rfl

def argsK (xs : List Arg) (r : T) : (List V → Prop) → Prop :=
  List.rec (motive := fun _ => (List V → Prop) → Prop) (fun k => k []) (fun x _ ih k => evK x r fun v => ih fun vs => k (v :: vs)) xs
theorem argsK_eq (r : T) : ∀ (xs : List Arg) (k : List V → Prop), argsK xs r k = k (argsV r xs)
  | [], k => rfl
  | x :: xs, k => by
    show evK x r (fun v => argsK xs r fun vs => k (v :: vs)) = _
    rw [evK_eq, argsK_eq r xs]; rfl

def putK (d : Option P) (r : T) (v : V) (k : T → Prop) : Prop := Option.rec (motive := fun _ => Prop) (k r) (fun d => setK d v r k) d
theorem putK_eq (d : Option P) (r : T) (v : V) (k : T → Prop) : putK d r v k = k (putR r d v) := by cases d; rfl; exact setK_eq _ _ _ _

def setAllK (ps : List P) : List V → T → (T → Prop) → Prop :=
  List.rec (motive := fun _ => List V → T → (T → Prop) → Prop) (fun _ r k => k r)
    (fun p _ ih vs r k => List.rec (motive := fun _ => Prop) (k r) (fun v vs _ => setK p v r fun r => ih vs r k) vs) ps
theorem setAllK_eq : ∀ (ps : List P) (vs : List V) (r : T) (k : T → Prop), setAllK ps vs r k = k (setAll ps vs r)
  | [], vs, r, k => by cases vs <;> rfl
  | p :: ps, [], r, k => rfl
  | p :: ps, v :: vs, r, k => by
    show setK p v r (fun r => setAllK ps vs r k) = _
    rw [setK_eq, setAllK_eq ps]; rfl

/-! ### Lists of cells -/

def nthK {α : Type} (n : Nat) : List α → (α → Prop) → Prop :=
  Nat.rec (motive := fun _ => List α → (α → Prop) → Prop) (fun xs k => List.rec (motive := fun _ => Prop) False (fun x _ _ => k x) xs)
    (fun _ ih xs k => List.rec (motive := fun _ => Prop) False (fun _ xs _ => ih xs k) xs) n
theorem nthK_ok {α : Type} : ∀ {n : Nat} {xs : List α} {k : α → Prop}, nthK n xs k → ∃ x, xs[n]? = some x ∧ k x
  | 0, [], _, h => h.elim
  | 0, x :: _, _, h => ⟨x, rfl, h⟩
  | n + 1, [], _, h => h.elim
  | n + 1, _ :: xs, k, h => nthK_ok (n := n) (xs := xs) (k := k) h

def dropK {α : Type} (n : Nat) : List α → (List α → Prop) → Prop :=
  Nat.rec (motive := fun _ => List α → (List α → Prop) → Prop) (fun xs k => k xs)
    (fun _ ih xs k => List.rec (motive := fun _ => Prop) (k []) (fun _ xs _ => ih xs k) xs) n
theorem dropK_eq {α : Type} : ∀ (n : Nat) (xs : List α) (k : List α → Prop), dropK n xs k = k (xs.drop n)
  | 0, xs, k => rfl
  | n + 1, [], k => rfl
  | n + 1, _ :: xs, k => dropK_eq n xs k

/-- All behind the first n, if there are so many. -/
def dropSK {α : Type} (n : Nat) : List α → (List α → Prop) → Prop :=
  Nat.rec (motive := fun _ => List α → (List α → Prop) → Prop) (fun xs k => k xs)
    (fun _ ih xs k => List.rec (motive := fun _ => Prop) False (fun _ xs _ => ih xs k) xs) n
theorem dropSK_ok {α : Type} : ∀ {n : Nat} {xs : List α} {k : List α → Prop}, dropSK n xs k → n ≤ xs.length ∧ k (xs.drop n)
  | 0, xs, k, h => ⟨by simp, h⟩
  | n + 1, [], k, h => h.elim
  | n + 1, x :: xs, k, h => by
    obtain ⟨h1, h2⟩ := dropSK_ok (n := n) (xs := xs) (k := k) h
    exact ⟨by simp; omega, h2⟩

/-- The first n, if there are so many. -/
def takeK {α : Type} (n : Nat) : List α → (List α → Prop) → Prop :=
  Nat.rec (motive := fun _ => List α → (List α → Prop) → Prop) (fun _ k => k [])
    (fun _ ih xs k => List.rec (motive := fun _ => Prop) False (fun x xs _ => ih xs fun ys => k (x :: ys)) xs) n
theorem takeK_ok {α : Type} : ∀ {n : Nat} {xs : List α} {k : List α → Prop}, takeK n xs k → n ≤ xs.length ∧ k (xs.take n)
  | 0, xs, k, h => ⟨by simp, by have h' : k [] := h; simpa using h'⟩
  | n + 1, [], k, h => h.elim
  | n + 1, x :: xs, k, h => by
    obtain ⟨h1, h2⟩ := takeK_ok (n := n) (xs := xs) (k := fun ys => k (x :: ys)) h
    exact ⟨by simp; omega, by simpa using h2⟩

/-- xs laid over cs from the start, if there is room. -/
def layK {α : Type} (xs : List α) : List α → (List α → Prop) → Prop :=
  List.rec (motive := fun _ => List α → (List α → Prop) → Prop) (fun cs k => k cs)
    (fun x _ ih cs k => List.rec (motive := fun _ => Prop) False (fun _ cs _ => ih cs fun ys => k (x :: ys)) cs) xs
theorem layK_ok {α : Type} : ∀ {xs cs : List α} {k : List α → Prop}, layK xs cs k → xs.length ≤ cs.length ∧ k (xs ++ cs.drop xs.length)
  | [], cs, k, h => ⟨by simp, by have h' : k cs := h; simpa using h'⟩
  | x :: xs, [], k, h => h.elim
  | x :: xs, c :: cs, k, h => by
    obtain ⟨h1, h2⟩ := layK_ok (xs := xs) (cs := cs) (k := fun ys => k (x :: ys)) h
    exact ⟨by simp; omega, by simpa using h2⟩

def overK {α : Type} (xs : List α) (off : Nat) : List α → (List α → Prop) → Prop :=
  Nat.rec (motive := fun _ => List α → (List α → Prop) → Prop) (fun cs k => layK xs cs k)
    (fun _ ih cs k => List.rec (motive := fun _ => Prop) False (fun c cs _ => ih cs fun ys => k (c :: ys)) cs) off
theorem overK_ok {α : Type} {xs : List α} : ∀ {off : Nat} {cs : List α} {k : List α → Prop}, overK xs off cs k → off + xs.length ≤ cs.length ∧ k (over cs off xs)
  | 0, cs, k, h => by
    obtain ⟨h1, h2⟩ := layK_ok (xs := xs) (cs := cs) (k := k) h
    exact ⟨by omega, by simpa [over] using h2⟩
  | n + 1, [], k, h => h.elim
  | n + 1, c :: cs, k, h => by
    obtain ⟨h1, h2⟩ := overK_ok (off := n) (cs := cs) (k := fun ys => k (c :: ys)) h
    refine ⟨by simp; omega, ?_⟩
    have : n + 1 + xs.length = (n + xs.length) + 1 := by omega
    simpa [over, this] using h2

def catK {α : Type} (xs ys : List α) : (List α → Prop) → Prop :=
  List.rec (motive := fun _ => (List α → Prop) → Prop) (fun k => k ys) (fun x _ ih k => ih fun zs => k (x :: zs)) xs
theorem catK_eq {α : Type} (ys : List α) : ∀ (xs : List α) (k : List α → Prop), catK xs ys k = k (xs ++ ys)
  | [], k => rfl
  | x :: xs, k => catK_eq ys xs fun zs => k (x :: zs)

def fzK (zs : List FC) : (List C → Prop) → Prop :=
  List.rec (motive := fun _ => (List C → Prop) → Prop) (fun k => k []) (fun z _ ih k => ih fun cs => k (.f z :: cs)) zs
theorem fzK_eq : ∀ (zs : List FC) (k : List C → Prop), fzK zs k = k (zs.map .f)
  | [], k => rfl
  | z :: zs, k => fzK_eq zs fun cs => k (.f z :: cs)

/-! ### Numbers -/

def ltB : Int → Int → Bool
  | .ofNat a, .ofNat b => Nat.ble (Nat.succ a) b
  | .ofNat _, .negSucc _ => false
  | .negSucc _, .ofNat _ => true
  | .negSucc a, .negSucc b => Nat.ble (Nat.succ b) a
theorem ltB_eq (x y : Int) : ltB x y = decide (x < y) := by
  have e : ∀ n : Nat, Int.ofNat n = (n : Int) := fun _ => rfl
  cases x <;> cases y <;> simp only [ltB] <;> rw [Bool.eq_iff_iff] <;> simp only [Nat.ble_eq, decide_eq_true_eq, Bool.false_eq_true, false_iff, true_iff, e, Nat.succ_eq_add_one] <;> omega

def eqB : Int → Int → Bool
  | .ofNat a, .ofNat b => Nat.beq a b
  | .negSucc a, .negSucc b => Nat.beq a b
  | _, _ => false
theorem eqB_eq (x y : Int) : eqB x y = (x == y) := by
  have e : ∀ n : Nat, Int.ofNat n = (n : Int) := fun _ => rfl
  cases x <;> cases y <;> simp only [eqB] <;> rw [Bool.eq_iff_iff] <;> simp only [Nat.beq_eq, beq_iff_eq, Bool.false_eq_true, false_iff, e] <;> omega

/-- A number into its kind. -/
def wrapK (j : IntKind) (n : Int) (k : Int → Prop) : Prop := match j with
  | .i64 => Int.rec (motive := fun _ => Prop)
      (fun n => forceN n fun n => Bool.rec (motive := fun _ => Prop) (forceI (IntKind.i64.wrap (.ofNat n)) k) (k (.ofNat n)) (Nat.ble n 9223372036854775807))
      (fun n => forceN n fun n => Bool.rec (motive := fun _ => Prop) (forceI (IntKind.i64.wrap (.negSucc n)) k) (k (.negSucc n)) (Nat.ble n 9223372036854775807)) n
  | j => forceI (j.wrap n) k

theorem wrap64_in {n : Int} (h1 : -9223372036854775808 ≤ n) (h2 : n ≤ 9223372036854775807) : IntKind.i64.wrap n = n := by
  simp only [IntKind.wrap, IntKind.bits, IntKind.signed]
  have e1 : (2 ^ 64 : Int) = 18446744073709551616 := by decide
  have e2 : (2 ^ (64 - 1) : Int) = 9223372036854775808 := by decide
  simp only [e1, e2, Bool.true_and, decide_eq_true_eq]
  split <;> omega

theorem wrapK_eq (j : IntKind) (n : Int) (k : Int → Prop) : wrapK j n k = k (j.wrap n) := by
  cases j <;> simp only [wrapK, forceI_eq]
  cases n with
  | ofNat n =>
    simp only [forceN_eq]
    cases h : Nat.ble n 9223372036854775807 with
    | false => rfl
    | true =>
      have := Nat.le_of_ble_eq_true h
      have e : Int.ofNat n = (n : Int) := rfl
      rw [wrap64_in (by rw [e]; omega) (by rw [e]; omega)]
  | negSucc n =>
    simp only [forceN_eq]
    cases h : Nat.ble n 9223372036854775807 with
    | false => rfl
    | true =>
      have := Nat.le_of_ble_eq_true h
      rw [wrap64_in (by omega) (by omega)]

end Km
end

section
set_option linter.unusedVariables false
namespace Km
open Go

def beqK (a b : Nat) (p : Prop) : Prop := Bool.rec (motive := fun _ => Prop) False p (Nat.beq a b)
def bleK (a b : Nat) (p : Prop) : Prop := Bool.rec (motive := fun _ => Prop) False p (Nat.ble a b)
def boolK (b : Bool) (p : Prop) : Prop := Bool.rec (motive := fun _ => Prop) False p b
def optK {α : Type} (o : Option α) (k : α → Prop) : Prop := Option.rec (motive := fun _ => Prop) False k o

theorem beqK_ok {a b : Nat} {p : Prop} (h : beqK a b p) : a = b ∧ p := by
  unfold beqK at h
  cases e : Nat.beq a b with
  | false => rw [e] at h; exact h.elim
  | true => rw [e] at h; exact ⟨Nat.eq_of_beq_eq_true e, h⟩
theorem bleK_ok {a b : Nat} {p : Prop} (h : bleK a b p) : a ≤ b ∧ p := by
  unfold bleK at h
  cases e : Nat.ble a b with
  | false => rw [e] at h; exact h.elim
  | true => rw [e] at h; exact ⟨Nat.le_of_ble_eq_true e, h⟩
theorem boolK_ok {b : Bool} {p : Prop} (h : boolK b p) : b = true ∧ p := by cases b; exact h.elim; exact ⟨rfl, h⟩
theorem optK_ok {α : Type} {o : Option α} {k : α → Prop} (h : optK o k) : ∃ x, o = some x ∧ k x := by cases o; exact h.elim; exact ⟨_, rfl, h⟩

/-! ### What an operation does to the heap -/

def pushK (x : Blk) (t : HT) (n : Nat) (k : HT → Nat → Prop) : Prop := bpushK x t n fun t => forceN (Nat.succ n) fun n => k t n

theorem pushK_ok {H : Heap} {t : HT} (h : HRel H t) {x : Blk} {k : HT → Nat → Prop} (hk : pushK x t H.length k) : ∃ t', HRel (H ++ [x]) t' ∧ k t' (H ++ [x]).length := by
  obtain ⟨t', h1, h2⟩ := bpushK_ok hk
  rw [forceN_eq] at h2
  exact ⟨t', h.push h1, by simpa using h2⟩

theorem setK'_ok {H : Heap} {t : HT} (h : HRel H t) {b : Nat} {x : Blk} {k : HT → Prop} (hk : bsetK x t b k) : ∃ t', HRel (H.set b x) t' ∧ k t' := by
  obtain ⟨t', h1, h2, h3⟩ := bsetK_ok hk
  exact ⟨t', h.set h1 h2, h3⟩

def effK (e : Eff) (t : HT) (n : Nat) (k : HT → Nat → Prop) : Prop :=
  Eff.rec (motive := fun _ => Prop) (k t n) (fun b x => forceX x fun x => bsetK x t b fun t => k t n) (fun x => forceX x fun x => pushK x t n k) e

theorem effK_ok {H : Heap} {t : HT} (h : HRel H t) {e : Eff} {k : HT → Nat → Prop} (hk : effK e t H.length k) : ∃ t', HRel (e.app H) t' ∧ k t' (e.app H).length := by
  cases e with
  | no => exact ⟨t, h, hk⟩
  | set b x =>
    have hk : forceX x fun x => bsetK x t b fun t => k t H.length := hk
    rw [forceX_eq] at hk
    obtain ⟨t', h1, h2⟩ := setK'_ok h hk
    exact ⟨t', h1, by simpa [Eff.app] using h2⟩
  | push x =>
    have hk : forceX x fun x => pushK x t H.length k := hk
    rw [forceX_eq] at hk
    exact pushK_ok h hk

/-- Any operation, by the machine's own text. -/
def genK (op : AOp) (r : T) (t : HT) (n : Nat) (k : V → HT → Nat → Prop) : Prop :=
  optK (xOpG r t.get n op) fun r => Prod.rec (motive := fun _ => Prop) (fun v e => forceV v fun v => effK e t n (k v)) r

/-- What is asked of an operation's evaluation. -/
def OpS (op : AOp) (r : T) (m : HT → Nat → (V → HT → Nat → Prop) → Prop) : Prop :=
  ∀ (H : Heap) (t : HT) (k : V → HT → Nat → Prop), HRel H t → m t H.length k → ∃ v H' t', xOp r H op = some (v, H') ∧ HRel H' t' ∧ k v t' H'.length

theorem genK_ok (op : AOp) (r : T) : OpS op r (genK op r) := by
  intro H t k h hk
  obtain ⟨⟨v, e⟩, h1, h2⟩ := optK_ok hk
  have h2 : forceV v fun v => effK e t H.length (k v) := h2
  rw [forceV_eq] at h2
  obtain ⟨t', h3, h4⟩ := effK_ok h h2
  refine ⟨v, e.app H, t', ?_, h3, h4⟩
  rw [h] at h1
  rw [← xOpG_eq, h1]; rfl

/-! ### Parts -/

def cellsK (v : V) (k : List C → Prop) : Prop := match v with
  | .c x => k [x]
  | .a xs => k xs
  | _ => False
theorem cellsK_ok {v : V} {k : List C → Prop} (h : cellsK v k) : ∃ xs, v.cells? = some xs ∧ k xs := by
  cases v with
  | c x => exact ⟨_, rfl, h⟩
  | a xs => exact ⟨_, rfl, h⟩
  | _ => exact h.elim

def pickK (n : Option Nat) (off : Nat) (cs : List C) (k : V → Prop) : Prop :=
  Option.rec (motive := fun _ => Prop) (nthK off cs fun c => k (.c c)) (fun m => dropK off cs fun cs => takeK m cs fun cs => k (.a cs)) n
theorem pickK_ok {n : Option Nat} {off : Nat} {cs : List C} {k : V → Prop} (h : pickK n off cs k) : ∃ v, takeV n (cs.drop off) = some v ∧ k v := by
  cases n with
  | none =>
    obtain ⟨c, h1, h2⟩ := nthK_ok h
    refine ⟨.c c, ?_, h2⟩
    rw [← Nat.add_zero off, ← List.getElem?_drop] at h1
    cases e : cs.drop off with
    | nil => rw [e] at h1; simp at h1
    | cons y ys => rw [e] at h1; simp at h1; subst h1; rfl
  | some m =>
    have h : dropK off cs fun cs => takeK m cs fun cs => k (.a cs) := h
    rw [dropK_eq] at h
    obtain ⟨h1, h2⟩ := takeK_ok h
    exact ⟨_, if_pos h1, h2⟩

def pickFK (n : Option Nat) (off : Nat) (cs : List FC) (k : V → Prop) : Prop :=
  Option.rec (motive := fun _ => Prop) (nthK off cs fun c => k (.c (.f c))) (fun m => dropK off cs fun cs => takeK m cs fun cs => fzK cs fun cs => k (.a cs)) n
theorem pickFK_ok {n : Option Nat} {off : Nat} {cs : List FC} {k : V → Prop} (h : pickFK n off cs k) : ∃ v, takeV n ((cs.drop off).map .f) = some v ∧ k v := by
  cases n with
  | none =>
    obtain ⟨c, h1, h2⟩ := nthK_ok h
    refine ⟨.c (.f c), ?_, h2⟩
    rw [← Nat.add_zero off, ← List.getElem?_drop] at h1
    cases e : cs.drop off with
    | nil => rw [e] at h1; simp at h1
    | cons y ys => rw [e] at h1; simp at h1; subst h1; rfl
  | some m =>
    have h : dropK off cs fun cs => takeK m cs fun cs => fzK cs fun cs => k (.a cs) := h
    rw [dropK_eq] at h
    obtain ⟨h1, h2⟩ := takeK_ok h
    rw [fzK_eq] at h2
    refine ⟨_, if_pos (by simpa using h1), ?_⟩
    rw [← List.map_take]; exact h2

def ldK (t : HT) (n : Option Nat) (x : V) (k : V → Prop) : Prop := match x with
  | .c (.ptr b off ep) => bgetK b t fun blk => match blk with
    | .box cs _ => pickK n off cs k
    | .opn _ cs _ e .loc => beqK ep e (pickK n off cs k)
    | _ => False
  | .c (.f (.fp cs off)) => pickFK n off cs k
  | _ => False

theorem ldK_ok {H : Heap} {t : HT} (h : HRel H t) {n : Option Nat} {x : V} {k : V → Prop} (hk : ldK t n x k) : ∃ v, ldV H n x = some v ∧ k v := by
  unfold ldK at hk
  split at hk
  · rename_i b off ep
    obtain ⟨blk, h1, h2⟩ := bgetK_ok hk
    rw [h] at h1
    have h1 : H[b]? = some blk := h1
    split at h2
    · obtain ⟨v, h3, h4⟩ := pickK_ok h2
      exact ⟨v, by simp [ldV, cellsAt, h1, h3], h4⟩
    · obtain ⟨h5, h2⟩ := beqK_ok h2
      obtain ⟨v, h3, h4⟩ := pickK_ok h2
      exact ⟨v, by simp [ldV, cellsAt, h1, h3, h5], h4⟩
    · exact h2.elim
  · obtain ⟨v, h3, h4⟩ := pickFK_ok hk
    exact ⟨v, by simp only [ldV, cellsAt, Option.bind_some, h3], h4⟩
  · exact hk.elim

def stK (t : HT) (x : C) (xs : List C) (k : HT → Prop) : Prop := match x with
  | .ptr b off ep => bgetK b t fun blk => match blk with
    | .box cs fl => bleK fl off (overK xs off cs fun cs => bsetK (.box cs fl) t b k)
    | .opn sz cs fl e .loc => beqK ep e (bleK fl off (overK xs off cs fun cs => bsetK (.opn sz cs fl e .loc) t b k))
    | _ => False
  | _ => False

theorem stK_ok {H : Heap} {t : HT} (h : HRel H t) {x : C} {xs : List C} {k : HT → Prop} (hk : stK t x xs k) : ∃ H' t', stC H x xs = some H' ∧ HRel H' t' ∧ H'.length = H.length ∧ k t' := by
  unfold stK at hk
  split at hk
  · rename_i b off ep
    obtain ⟨blk, h1, h2⟩ := bgetK_ok hk
    rw [h] at h1
    have h1 : H[b]? = some blk := h1
    split at h2
    · obtain ⟨h3, h2⟩ := bleK_ok h2
      obtain ⟨h4, h2⟩ := overK_ok h2
      obtain ⟨t', h5, h6⟩ := setK'_ok h h2
      exact ⟨_, t', by simp [stC, h1, h3, h4], h5, by simp, h6⟩
    · obtain ⟨h0, h2⟩ := beqK_ok h2
      obtain ⟨h3, h2⟩ := bleK_ok h2
      obtain ⟨h4, h2⟩ := overK_ok h2
      obtain ⟨t', h5, h6⟩ := setK'_ok h h2
      exact ⟨_, t', by simp [stC, h1, h0, h3, h4], h5, by simp, h6⟩
    · exact h2.elim
  · exact hk.elim

def binIK (op : BinOp) (j : IntKind) (x y : Int) (k : V → Prop) : Prop := match op with
  | .add => wrapK j (Int.add x y) fun n => k (.c (.f (.int j n)))
  | .sub => wrapK j (Int.sub x y) fun n => k (.c (.f (.int j n)))
  | .mul => wrapK j (Int.mul x y) fun n => k (.c (.f (.int j n)))
  | .eql => forceB (eqB x y) fun b => k (.c (.f (.bool b)))
  | .neq => forceB (!eqB x y) fun b => k (.c (.f (.bool b)))
  | .lss => forceB (ltB x y) fun b => k (.c (.f (.bool b)))
  | .leq => forceB (!ltB y x) fun b => k (.c (.f (.bool b)))
  | .gtr => forceB (ltB y x) fun b => k (.c (.f (.bool b)))
  | .geq => forceB (!ltB x y) fun b => k (.c (.f (.bool b)))
  | op => optK (binI op j x y) fun v => forceV v k

theorem not_lt_dec (x y : Int) : (!decide (x < y)) = decide (y ≤ x) := by
  rw [Bool.eq_iff_iff]; simp

theorem binIK_ok {op : BinOp} {j : IntKind} {x y : Int} {k : V → Prop} (h : binIK op j x y k) : ∃ v, binI op j x y = some v ∧ k v := by
  cases op
  case add => simp only [binIK, wrapK_eq] at h; exact ⟨_, rfl, h⟩
  case sub => simp only [binIK, wrapK_eq] at h; exact ⟨_, rfl, h⟩
  case mul => simp only [binIK, wrapK_eq] at h; exact ⟨_, rfl, h⟩
  case eql => simp only [binIK, forceB_eq, eqB_eq] at h; exact ⟨_, rfl, h⟩
  case neq => simp only [binIK, forceB_eq, eqB_eq] at h; exact ⟨_, rfl, h⟩
  case lss => simp only [binIK, forceB_eq, ltB_eq] at h; exact ⟨_, rfl, h⟩
  case leq => simp only [binIK, forceB_eq, ltB_eq, not_lt_dec] at h; exact ⟨_, rfl, h⟩
  case gtr => simp only [binIK, forceB_eq, ltB_eq] at h; exact ⟨_, rfl, h⟩
  case geq => simp only [binIK, forceB_eq, ltB_eq, not_lt_dec] at h; exact ⟨_, rfl, h⟩
  all_goals
    simp only [binIK] at h
    obtain ⟨v, h1, h2⟩ := optK_ok h
    rw [forceV_eq] at h2
    exact ⟨v, h1, h2⟩

/-- The same kind? -/
def kindK (j j' : IntKind) (p : Prop) : Prop := match j, j' with
  | .i64, .i64 => p
  | j, j' => boolK (decide (j = j')) p
theorem kindK_ok {j j' : IntKind} {p : Prop} (h : kindK j j' p) : j = j' ∧ p := by
  unfold kindK at h
  split at h
  · exact ⟨rfl, h⟩
  · obtain ⟨h1, h2⟩ := boolK_ok h
    exact ⟨of_decide_eq_true h1, h2⟩

def binK (op : BinOp) (x y : V) (k : V → Prop) : Prop := match x, y with
  | .c (.f (.int j a)), .c (.f (.int j' b)) => match op with
    | .shl => optK (binV .shl x y) fun v => forceV v k
    | .shr => optK (binV .shr x y) fun v => forceV v k
    | op => kindK j j' (binIK op j a b k)
  | x, y => optK (binV op x y) fun v => forceV v k

theorem binK_ok {op : BinOp} {x y : V} {k : V → Prop} (h : binK op x y k) : ∃ v, binV op x y = some v ∧ k v := by
  have gen : (optK (binV op x y) fun v => forceV v k) → ∃ v, binV op x y = some v ∧ k v := by
    intro h
    obtain ⟨v, h1, h2⟩ := optK_ok h
    rw [forceV_eq] at h2
    exact ⟨v, h1, h2⟩
  unfold binK at h
  split at h
  · rename_i j a j' b
    split at h
    · exact gen h
    · exact gen h
    · rename_i h1 h2
      obtain ⟨e, h'⟩ := kindK_ok h
      subst e
      obtain ⟨v, h3, h4⟩ := binIK_ok h'
      refine ⟨v, ?_, h4⟩
      cases op <;> first | exact absurd rfl h1 | exact absurd rfl h2 | (simp only [binV, if_true]; exact h3)
  · exact gen h

def natK (v : V) (k : Nat → Prop) : Prop := match v with
  | .c (.f (.int _ (.ofNat m))) => k m
  | _ => False
theorem natK_ok {v : V} {k : Nat → Prop} (h : natK v k) : ∃ m, intV v = some (Int.ofNat m) ∧ k m := by
  unfold natK at h
  split at h
  · exact ⟨_, rfl, h⟩
  · exact h.elim

def indexK (t : HT) (sz : Nat) (arr : Option Nat) (x i : V) (k : V → Prop) : Prop := natK i fun m => match arr with
  | none => match x with
    | .c (.sl b o l _ ep s) => bleK (Nat.succ m) l (bgetK b t fun blk => match blk with
      | .box _ _ => forceN (Nat.add o (Nat.mul m sz)) fun o => k (.c (.ptr b o ep))
      | .opn s' _ _ e .loc => beqK ep e (beqK s s' (forceN (Nat.add o (Nat.mul m sz)) fun o => k (.c (.ptr b o ep))))
      | _ => False)
    | .c (.f (.fs cs l)) => bleK (Nat.succ m) l (forceN (Nat.mul m sz) fun o => k (.c (.f (.fp cs o))))
    | _ => False
  | some n => match x with
    | .c (.ptr b o ep) => bleK (Nat.succ m) n (forceN (Nat.add o (Nat.mul m sz)) fun o => k (.c (.ptr b o ep)))
    | .c (.f (.fp cs o)) => bleK (Nat.succ m) n (forceN (Nat.add o (Nat.mul m sz)) fun o => k (.c (.f (.fp cs o))))
    | _ => False

theorem indexK_ok {H : Heap} {t : HT} (h : HRel H t) {sz : Nat} {arr : Option Nat} {x i : V} {k : V → Prop} (hk : indexK t sz arr x i k) : ∃ v, indexAV H sz arr x i = some v ∧ k v := by
  obtain ⟨m, hi, hk⟩ := natK_ok hk
  have h0 : (0 : Int) ≤ Int.ofNat m := Int.natCast_nonneg m
  have hlt : ∀ l : Nat, Nat.succ m ≤ l → Int.ofNat m < (l : Int) := fun l hl => Int.ofNat_lt.2 hl
  have hto : (Int.ofNat m).toNat = m := rfl
  simp only at hk
  split at hk
  · split at hk
    · rename_i b o l cap ep s _
      obtain ⟨h1, hk⟩ := bleK_ok hk
      obtain ⟨blk, h2, h3⟩ := bgetK_ok hk
      rw [h] at h2
      have h2 : H[b]? = some blk := h2
      split at h3
      · rw [forceN_eq] at h3
        exact ⟨_, by simp only [indexAV, hi, if_pos h0, if_pos (hlt _ h1), h2, hto]; rfl, h3⟩
      · obtain ⟨h4, h3⟩ := beqK_ok h3
        obtain ⟨h5, h3⟩ := beqK_ok h3
        rw [forceN_eq] at h3
        exact ⟨_, by simp only [indexAV, hi, if_pos h0, if_pos (hlt _ h1), h2, hto, h4, h5, and_self, if_true]; rfl, h4 ▸ h3⟩
      · exact h3.elim
    · obtain ⟨h1, hk⟩ := bleK_ok hk
      rw [forceN_eq] at hk
      exact ⟨_, by simp only [indexAV, hi, if_pos h0, if_pos (hlt _ h1), hto]; rfl, hk⟩
    · exact hk.elim
  · split at hk
    · obtain ⟨h1, hk⟩ := bleK_ok hk
      rw [forceN_eq] at hk
      exact ⟨_, by simp only [indexAV, hi, if_pos h0, if_pos (hlt _ h1), hto]; rfl, hk⟩
    · obtain ⟨h1, hk⟩ := bleK_ok hk
      rw [forceN_eq] at hk
      exact ⟨_, by simp only [indexAV, hi, if_pos h0, if_pos (hlt _ h1), hto]; rfl, hk⟩
    · exact hk.elim

def lenK (t : HT) (x : V) (k : Nat → Prop) : Prop := match x with
  | .c (.sl b _ l _ ep sz) => bgetK b t fun blk => match blk with
    | .box _ _ => k l
    | .opn s _ _ e _ => beqK ep e (beqK sz s (k l))
    | _ => False
  | .c (.f .nils) => k 0
  | .c (.f .es) => k 0
  | .c (.f (.fs _ l)) => k l
  | _ => False

theorem lenK_ok {H : Heap} {t : HT} (h : HRel H t) {x : V} {k : Nat → Prop} (hk : lenK t x k) : ∃ y n, x = .c y ∧ slLen H y = some n ∧ k n := by
  unfold lenK at hk
  split at hk
  · rename_i b o l cap ep sz
    obtain ⟨blk, h2, h3⟩ := bgetK_ok hk
    rw [h] at h2
    have h2 : H[b]? = some blk := h2
    split at h3
    · exact ⟨_, l, rfl, by simp [slLen, h2], h3⟩
    · obtain ⟨h4, h3⟩ := beqK_ok h3
      obtain ⟨h5, h3⟩ := beqK_ok h3
      exact ⟨_, l, rfl, by simp [slLen, h2, h4, h5], h3⟩
    · exact h3.elim
  · exact ⟨_, 0, rfl, rfl, hk⟩
  · exact ⟨_, 0, rfl, rfl, hk⟩
  · exact ⟨_, _, rfl, rfl, hk⟩
  · exact hk.elim

def partsK (r : T) (ps : List (Nat × Nat × Arg)) : List C → (List C → Prop) → Prop :=
  List.rec (motive := fun _ => List C → (List C → Prop) → Prop) (fun cs k => k cs)
    (fun p _ ih cs k => Prod.rec (motive := fun _ => Prop) (fun off q => Prod.rec (motive := fun _ => Prop) (fun n x => evK x r fun v => cellsK v fun xs => beqK xs.length n (overK xs off cs fun cs => ih cs k)) q) p) ps
theorem partsK_ok (r : T) : ∀ {ps : List (Nat × Nat × Arg)} {cs : List C} {k : List C → Prop}, partsK r ps cs k → ∃ cs', partsV r cs ps = some cs' ∧ k cs'
  | [], cs, k, h => ⟨cs, rfl, h⟩
  | (off, n, x) :: ps, cs, k, h => by
    have h : evK x r fun v => cellsK v fun xs => beqK xs.length n (overK xs off cs fun cs => partsK r ps cs k) := h
    rw [evK_eq] at h
    obtain ⟨xs, h1, h⟩ := cellsK_ok h
    obtain ⟨h2, h⟩ := beqK_ok h
    obtain ⟨h3, h⟩ := overK_ok h
    obtain ⟨cs', h4, h5⟩ := partsK_ok r h
    exact ⟨cs', by simp [partsV, h1, h2, h4] at h3 ⊢; omega, h5⟩

def addedK (t : HT) (sz : Nat) (y : V) (k : Nat → List C → Prop) : Prop := match y with
  | .c (.f .nils) => k 0 []
  | .c (.f .es) => k 0 []
  | .c (.f (.fs cs l)) => beqK cs.length (Nat.mul l sz) (fzK cs fun cs => k l cs)
  | .c (.sl b o l _ ep s) => bgetK b t fun blk => match blk with
    | .box cs _ => dropSK o cs fun cs => takeK (Nat.mul l sz) cs fun cs => k l cs
    | .opn s' cs _ e _ => beqK ep e (beqK s s' (beqK s' sz (dropSK o cs fun cs => takeK (Nat.mul l sz) cs fun cs => k l cs)))
    | _ => False
  | y => optK (addedVG t.get sz y) fun r => Prod.rec (motive := fun _ => Prop) (fun n cs => forceL cs fun cs => k n cs) r

theorem addedK_ok {H : Heap} {t : HT} (h : HRel H t) {sz : Nat} {y : V} {k : Nat → List C → Prop} (hk : addedK t sz y k) :
    ∃ n cs, addedV H sz y = some (n, cs) ∧ k n cs := by
  unfold addedK at hk
  split at hk
  · exact ⟨0, [], rfl, hk⟩
  · exact ⟨0, [], rfl, hk⟩
  · rename_i cs l
    obtain ⟨h1, hk⟩ := beqK_ok hk
    rw [fzK_eq] at hk
    have h1 : cs.length = l * sz := h1
    exact ⟨l, _, by simp only [addedV, slLen, slCells, h1, if_true], hk⟩
  · rename_i b o l cap ep s
    obtain ⟨blk, h2, h3⟩ := bgetK_ok hk
    rw [h] at h2
    have h2 : H[b]? = some blk := h2
    split at h3
    · obtain ⟨h8, h3⟩ := dropSK_ok h3
      obtain ⟨h4, h5⟩ := takeK_ok h3
      have h4 : l * sz ≤ _ := h4
      rw [List.length_drop] at h4
      refine ⟨l, _, ?_, h5⟩
      simp only [addedV, slLen, slCells, h2]
      rw [if_pos (by omega)]; rfl
    · obtain ⟨h4, h3⟩ := beqK_ok h3
      obtain ⟨h5, h3⟩ := beqK_ok h3
      obtain ⟨h6, h3⟩ := beqK_ok h3
      obtain ⟨h8, h3⟩ := dropSK_ok h3
      obtain ⟨h9, h7⟩ := takeK_ok h3
      have h9 : l * sz ≤ _ := h9
      rw [List.length_drop] at h9
      subst h4 h5 h6
      refine ⟨l, _, ?_, h7⟩
      simp only [addedV, slLen, slCells, h2, and_self, if_true]
      rw [if_pos ⟨trivial, trivial, by omega⟩]; rfl
    · exact h3.elim
  · obtain ⟨⟨n, cs⟩, h1, h2⟩ := optK_ok hk
    have h2 : forceL cs fun cs => k n cs := h2
    rw [forceL_eq] at h2
    rw [h, addedVG_eq] at h1
    exact ⟨n, cs, h1, h2⟩

/-- Is there room? -/
def roomK (need bytes : Nat) (p : Prop) : Prop := bleK (Nat.mul (Nat.add (Nat.mul 2 need) 768) bytes) 281474976710656 (bleK (Nat.succ need) 281474976710656 p)
theorem roomK_ok {need bytes : Nat} {p : Prop} (h : roomK need bytes p) : roomOK need bytes = true ∧ p := by
  obtain ⟨h1, h⟩ := bleK_ok h
  obtain ⟨h2, h⟩ := bleK_ok h
  refine ⟨?_, h⟩
  have e : (2 : Nat) ^ 48 = 281474976710656 := by decide
  simp only [roomOK, Bool.and_eq_true, decide_eq_true_eq, e]
  exact ⟨h1, h2⟩

def appK (t : HT) (n : Nat) (sz bytes : Nat) (x y : V) (k : V → HT → Nat → Prop) : Prop :=
  addedK t sz y fun m ys => Nat.rec (motive := fun _ => Prop) False (fun _ _ => match x with
    | .c (.f .nils) => Nat.rec (motive := fun _ => Prop) (k (.c (.f .nils)) t n) (fun _ _ => roomK m bytes (forceN m fun m => pushK (.opn sz ys 0 0 .loc) t n fun t n' => k (.c (.sl n 0 m 0 0 sz)) t n')) m
    | .c (.f .es) => Nat.rec (motive := fun _ => Prop) (k (.c (.f .es)) t n) (fun _ _ => roomK m bytes (forceN m fun m => pushK (.opn sz ys 0 0 .loc) t n fun t n' => k (.c (.sl n 0 m 0 0 sz)) t n')) m
    | .c (.sl b o l cap ep s) => bgetK b t fun blk => match blk with
      | .box cs fl => Bool.rec (motive := fun _ => Prop)
          (forceN (Nat.add l m) fun lm => roomK lm bytes (dropSK o cs fun cs => takeK (Nat.mul l sz) cs fun cs => catK cs ys fun cs => pushK (.opn sz cs 0 0 .loc) t n fun t n' => k (.c (.sl n 0 lm 0 0 sz)) t n'))
          (forceN (Nat.add l m) fun lm => bleK fl (Nat.add o (Nat.mul l sz)) (overK ys (Nat.add o (Nat.mul l sz)) cs fun cs => bsetK (.box cs fl) t b fun t => k (.c (.sl b o lm cap ep s)) t n))
          (Nat.ble (Nat.add l m) cap)
      | .opn s' cs fl e st => beqK ep e (beqK s' sz (beqK s sz (Nat.rec (motive := fun _ => Prop) (k x t n) (fun _ _ =>
          forceN (Nat.add l m) fun lm => Bool.rec (motive := fun _ => Prop)
            (match st with
              | .loc => bleK fl (Nat.add o (Nat.mul l sz)) (overK ys (Nat.add o (Nat.mul l sz)) cs fun cs => bsetK (.opn sz cs fl e .loc) t b fun t => k (.c (.sl b o lm 0 ep sz)) t n)
              | _ => False)
            (roomK lm bytes (forceN (Nat.succ e) fun e' => catK cs ys fun cs => bsetK (.opn sz cs fl e' .loc) t b fun t => k (.c (.sl b 0 lm 0 e' sz)) t n))
            (and (and (Nat.beq o 0) (Nat.beq (Nat.mul l sz) cs.length)) (Nat.ble fl cs.length))) m)))
      | _ => False
    | _ => False) sz

theorem appK_ok {H : Heap} {t : HT} (h : HRel H t) {sz bytes : Nat} {x y : V} {k : V → HT → Nat → Prop} (hk : appK t H.length sz bytes x y k) :
    ∃ v H' t', appendV H sz bytes x y = some (v, H') ∧ HRel H' t' ∧ k v t' H'.length := by
  obtain ⟨m, ys, ha, hk⟩ := addedK_ok h hk
  unfold appendV
  rw [ha]
  cases sz with
  | zero => exact hk.elim
  | succ sz' =>
    simp only at hk ⊢
    rw [if_neg (by omega)]
    split at hk
    · cases m with
      | zero => exact ⟨_, H, t, rfl, h, hk⟩
      | succ m' =>
        simp only at hk
        obtain ⟨h1, hk⟩ := roomK_ok hk
        rw [forceN_eq] at hk
        obtain ⟨t', h2, h3⟩ := pushK_ok h hk
        exact ⟨_, _, t', by simp only [Nat.add_one_ne_zero, if_false, h1, if_true], h2, h3⟩
    · cases m with
      | zero => exact ⟨_, H, t, rfl, h, hk⟩
      | succ m' =>
        simp only at hk
        obtain ⟨h1, hk⟩ := roomK_ok hk
        rw [forceN_eq] at hk
        obtain ⟨t', h2, h3⟩ := pushK_ok h hk
        exact ⟨_, _, t', by simp only [Nat.add_one_ne_zero, if_false, h1, if_true], h2, h3⟩
    · rename_i b o l cap ep s _
      obtain ⟨blk, h2, hk⟩ := bgetK_ok hk
      rw [h] at h2
      have h2 : H[b]? = some blk := h2
      simp only [h2]
      split at hk
      · rename_i cs fl _
        simp only
        cases hc : Nat.ble (Nat.add l m) cap with
        | false =>
          rw [hc] at hk
          have hc' : ¬ (l + m ≤ cap) := fun e => by have := Nat.ble_eq_true_of_le e; rw [show Nat.ble (Nat.add l m) cap = Nat.ble (l + m) cap from rfl, this] at hc; cases hc
          simp only [forceN_eq] at hk
          obtain ⟨h3, hk⟩ := roomK_ok hk
          obtain ⟨h4, hk⟩ := dropSK_ok hk
          obtain ⟨h5, hk⟩ := takeK_ok hk
          rw [catK_eq] at hk
          obtain ⟨t', h6, h7⟩ := pushK_ok h hk
          rw [List.length_drop] at h5
          have h5 : l * (sz' + 1) ≤ _ := h5
          rw [if_neg hc', if_pos ⟨h3, by omega⟩]
          exact ⟨_, _, t', rfl, h6, h7⟩
        | true =>
          rw [hc] at hk
          have hc' : l + m ≤ cap := Nat.le_of_ble_eq_true hc
          simp only [forceN_eq] at hk
          obtain ⟨h3, hk⟩ := bleK_ok hk
          obtain ⟨h4, hk⟩ := overK_ok hk
          obtain ⟨t', h6, h7⟩ := setK'_ok h hk
          rw [if_pos hc', if_pos ⟨h3, h4⟩]
          exact ⟨_, _, t', rfl, h6, by simpa using h7⟩
      · rename_i s' cs fl e st _
        simp only
        obtain ⟨h3, hk⟩ := beqK_ok hk
        obtain ⟨h4, hk⟩ := beqK_ok hk
        obtain ⟨h5, hk⟩ := beqK_ok hk
        rw [if_pos ⟨h3, h4, h5⟩]
        cases m with
        | zero => rw [if_pos rfl]; exact ⟨_, H, t, rfl, h, hk⟩
        | succ m' =>
          rw [if_neg (by omega)]
          simp only [forceN_eq] at hk
          cases hc : and (and (Nat.beq o 0) (Nat.beq (Nat.mul l (sz' + 1)) cs.length)) (Nat.ble fl cs.length) with
          | true =>
            rw [hc] at hk
            simp only [Bool.and_eq_true] at hc
            have c1 := Nat.eq_of_beq_eq_true hc.1.1
            have c2 := Nat.eq_of_beq_eq_true hc.1.2
            have c3 := Nat.le_of_ble_eq_true hc.2
            simp only at hk
            obtain ⟨h6, hk⟩ := roomK_ok hk
            rw [catK_eq] at hk
            obtain ⟨t', h7, h8⟩ := setK'_ok h hk
            have h6 : roomOK (l + (m' + 1)) bytes = true := h6
            rw [if_pos ⟨c1, c2, c3⟩, if_pos h6]
            subst h3
            exact ⟨_, _, t', rfl, h7, by simpa using h8⟩
          | false =>
            rw [hc] at hk
            have hn : ¬ (o = 0 ∧ l * (sz' + 1) = cs.length ∧ fl ≤ cs.length) := by
              rintro ⟨c1, c2, c3⟩
              rw [c1, show Nat.mul l (sz' + 1) = cs.length from c2, Nat.ble_eq_true_of_le c3] at hc
              simp at hc
            rw [if_neg hn]
            simp only at hk
            split at hk
            · obtain ⟨h6, hk⟩ := bleK_ok hk
              obtain ⟨h7, hk⟩ := overK_ok hk
              obtain ⟨t', h8, h9⟩ := setK'_ok h hk
              rw [if_pos ⟨rfl, h6, h7⟩]
              exact ⟨_, _, t', rfl, h8, by simpa using h9⟩
            · exact hk.elim
      · exact hk.elim
    · exact hk.elim

end Km
end

section
set_option linter.unusedVariables false
namespace Km
open Go

abbrev CallK := Callee → List V → HT → Nat → (V → HT → Nat → Prop) → Prop

/-- What is asked of the evaluation of calls. -/
def CallS (call : CallF) (callK : CallK) : Prop :=
  ∀ (c : Callee) (args : List V) (H : Heap) (t : HT) (k : V → HT → Nat → Prop), HRel H t → callK c args t H.length k → ∃ v H' t', call c args H = some (v, H') ∧ HRel H' t' ∧ k v t' H'.length

/-! ### Freezing -/

def exsK {α β : Type} (g : α → (β → Prop) → Prop) (xs : List α) : (List β → Prop) → Prop :=
  List.rec (motive := fun _ => (List β → Prop) → Prop) (fun k => k []) (fun x _ ih k => g x fun y => ih fun ys => k (y :: ys)) xs
theorem exsK_ok {α β : Type} {g : α → (β → Prop) → Prop} {f : α → Option β} (hg : ∀ x k, g x k → ∃ y, f x = some y ∧ k y) : ∀ {xs : List α} {k : List β → Prop}, exsK g xs k → ∃ ys, mapO f xs = some ys ∧ k ys
  | [], k, h => ⟨[], rfl, h⟩
  | x :: xs, k, h => by
    obtain ⟨y, h1, h⟩ := hg x _ h
    obtain ⟨ys, h2, h3⟩ := exsK_ok hg (xs := xs) h
    exact ⟨y :: ys, by simp [mapO, h1, h2], h3⟩

def exK (t : HT) (m : Nat) : C → (FC → Prop) → Prop :=
  Nat.rec (motive := fun _ => C → (FC → Prop) → Prop) (fun x k => match x with
      | .f y => k y
      | _ => False)
    (fun _ ih x k => match x with
      | .f y => k y
      | .ptr b off _ => bgetK b t fun blk => match blk with
        | .box cs _ => exsK ih cs fun fs => k (.fp fs off)
        | _ => False
      | .sl b o l _ ep sz => bgetK b t fun blk => match blk with
        | .box cs _ => dropSK o cs fun cs => takeK (Nat.mul l sz) cs fun cs => exsK ih cs fun fs => k (.fs fs l)
        | .opn s cs _ e .loc => beqK ep e (beqK sz s (dropSK o cs fun cs => takeK (Nat.mul l sz) cs fun cs => exsK ih cs fun fs => k (.fs fs l)))
        | .opn s cs _ e .nil => beqK ep e (beqK sz s (k .nils))
        | .opn s cs _ e .es => beqK ep e (beqK sz s (k .es))
        | _ => False
      | .cl f caps => exsK ih caps fun fs => k (.fn f fs)
      | _ => False) m

theorem exK_ok {H : Heap} {t : HT} (h : HRel H t) : ∀ (m : Nat) (x : C) (k : FC → Prop), exK t m x k → ∃ y, exC m H x = some y ∧ k y := by
  intro m
  induction m with
  | zero =>
    intro x k hk
    cases x with
    | f y => exact ⟨y, rfl, hk⟩
    | _ => exact hk.elim
  | succ m ih =>
    intro x k hk
    cases x with
    | f y => exact ⟨y, rfl, hk⟩
    | ptr b off ep =>
      obtain ⟨blk, h1, h2⟩ := bgetK_ok hk
      rw [h] at h1
      have h1 : H[b]? = some blk := h1
      cases blk with
      | box cs fl =>
        obtain ⟨fs, h3, h4⟩ := exsK_ok ih h2
        exact ⟨_, by simp only [exC, h1, h3]; rfl, h4⟩
      | _ => exact h2.elim
    | sl b o l cap ep sz =>
      obtain ⟨blk, h1, h2⟩ := bgetK_ok hk
      rw [h] at h1
      have h1 : H[b]? = some blk := h1
      cases blk with
      | box cs fl =>
        obtain ⟨h5, h2⟩ := dropSK_ok h2
        obtain ⟨h6, h2⟩ := takeK_ok h2
        obtain ⟨fs, h3, h4⟩ := exsK_ok ih h2
        rw [List.length_drop] at h6
        have h6 : l * sz ≤ _ := h6
        have h3 : mapO (exC m H) ((cs.drop o).take (l * sz)) = some fs := h3
        exact ⟨_, by simp only [exC, h1]; rw [if_pos (by omega), h3]; rfl, h4⟩
      | opn s cs fl e st =>
        cases st with
        | loc =>
          obtain ⟨h7, h2⟩ := beqK_ok h2
          obtain ⟨h8, h2⟩ := beqK_ok h2
          obtain ⟨h5, h2⟩ := dropSK_ok h2
          obtain ⟨h6, h2⟩ := takeK_ok h2
          obtain ⟨fs, h3, h4⟩ := exsK_ok ih h2
          rw [List.length_drop] at h6
          have h6 : l * sz ≤ _ := h6
          have h3 : mapO (exC m H) ((cs.drop o).take (l * sz)) = some fs := h3
          exact ⟨_, by simp only [exC, h1]; rw [if_pos ⟨h7, h8, by omega⟩, h3]; rfl, h4⟩
        | nil =>
          obtain ⟨h7, h2⟩ := beqK_ok h2
          obtain ⟨h8, h2⟩ := beqK_ok h2
          exact ⟨_, by simp only [exC, h1]; rw [if_pos ⟨h7, h8⟩], h2⟩
        | es =>
          obtain ⟨h7, h2⟩ := beqK_ok h2
          obtain ⟨h8, h2⟩ := beqK_ok h2
          exact ⟨_, by simp only [exC, h1]; rw [if_pos ⟨h7, h8⟩], h2⟩
      | _ => exact h2.elim
    | cl f caps =>
      obtain ⟨fs, h3, h4⟩ := exsK_ok ih hk
      exact ⟨_, by simp only [exC, h3]; rfl, h4⟩
    | _ => exact hk.elim

def exV1K (t : HT) (v : V) (k : V → Prop) : Prop := match v with
  | .c x => exK t deep x fun y => k (.c (.f y))
  | .a xs => exsK (exK t deep) xs fun ys => fzK ys fun cs => k (.a cs)
  | _ => False
theorem exV1K_ok {H : Heap} {t : HT} (h : HRel H t) (v : V) (k : V → Prop) (hk : exV1K t v k) : ∃ y, exV1 deep H v = some y ∧ k y := by
  cases v with
  | c x =>
    obtain ⟨y, h1, h2⟩ := exK_ok h deep x _ hk
    exact ⟨_, by simp only [exV1, h1]; rfl, h2⟩
  | a xs =>
    obtain ⟨ys, h1, h2⟩ := exsK_ok (exK_ok h deep) hk
    rw [fzK_eq] at h2
    exact ⟨_, by simp only [exV1, h1]; rfl, h2⟩
  | _ => exact hk.elim

def exVK (t : HT) (v : V) (k : V → Prop) : Prop := match v with
  | .t vs => exsK (exV1K t) vs fun vs => k (.t vs)
  | v => exV1K t v k
theorem exVK_ok {H : Heap} {t : HT} (h : HRel H t) (v : V) (k : V → Prop) (hk : exVK t v k) : ∃ y, exV deep H v = some y ∧ k y := by
  cases v with
  | t vs =>
    obtain ⟨ys, h1, h2⟩ := exsK_ok (exV1K_ok h) hk
    exact ⟨_, by simp only [exV, h1]; rfl, h2⟩
  | c x => exact exV1K_ok h (.c x) k hk
  | a xs => exact exV1K_ok h (.a xs) k hk
  | top => exact hk.elim

/-! ### Marking -/

def mksK {α : Type} (g : α → HT → (HT → Prop) → Prop) (xs : List α) : HT → (HT → Prop) → Prop :=
  List.rec (motive := fun _ => HT → (HT → Prop) → Prop) (fun t k => k t) (fun x _ ih t k => g x t fun t => ih t k) xs

def MkS {α : Type} (g : α → HT → (HT → Prop) → Prop) (f : Heap → α → Heap) : Prop := ∀ (x : α) (H : Heap) (t : HT) (k : HT → Prop), HRel H t → g x t k → ∃ t', HRel (f H x) t' ∧ k t'

theorem mksK_ok {α : Type} {g : α → HT → (HT → Prop) → Prop} {f : Heap → α → Heap} (hg : MkS g f) : ∀ (xs : List α) (H : Heap) (t : HT) (k : HT → Prop), HRel H t → mksK g xs t k → ∃ t', HRel (xs.foldl f H) t' ∧ k t'
  | [], H, t, k, h, hk => ⟨t, h, hk⟩
  | x :: xs, H, t, k, h, hk => by
    obtain ⟨t1, h1, h2⟩ := hg x H t _ h hk
    exact mksK_ok hg xs _ t1 k h1 h2

def mkK (m : Nat) : C → HT → (HT → Prop) → Prop :=
  Nat.rec (motive := fun _ => C → HT → (HT → Prop) → Prop) (fun _ t k => k t)
    (fun _ ih x t k => match x with
      | .f _ => k t
      | .ptr b _ _ => bgetK b t fun blk => match blk with
        | .box cs fl => forceN (Nat.max fl cs.length) fun fl => bsetK (.box cs fl) t b fun t => mksK ih cs t k
        | _ => k t
      | .sl b o l _ _ sz => bgetK b t fun blk => match blk with
        | .box cs fl => forceN (Nat.max fl (Nat.add o (Nat.mul l sz))) fun fl => bsetK (.box cs fl) t b fun t => dropK o cs fun cs => takeK (Nat.mul l sz) cs fun cs => mksK ih cs t k
        | .opn s cs fl e st => forceN (Nat.max fl (Nat.add o (Nat.mul l sz))) fun fl => bsetK (.opn s cs fl e st) t b fun t => dropK o cs fun cs => takeK (Nat.mul l sz) cs fun cs => mksK ih cs t k
        | _ => k t
      | .cl _ caps => mksK ih caps t k
      | _ => k t) m

theorem mkK_ok : ∀ (m : Nat), MkS (mkK m) (fun H x => mkC m x H) := by
  intro m
  induction m with
  | zero => intro x H t k h hk; exact ⟨t, by cases x <;> exact h, hk⟩
  | succ m ih =>
    intro x H t k h hk
    cases x with
    | f y => exact ⟨t, h, hk⟩
    | ptr b off ep =>
      obtain ⟨blk, h1, h2⟩ := bgetK_ok hk
      rw [h] at h1
      have h1 : H[b]? = some blk := h1
      cases blk with
      | box cs fl =>
        change forceN _ _ at h2
        rw [forceN_eq] at h2
        obtain ⟨t1, h3, h4⟩ := setK'_ok h h2
        simp only [mkC, h1]
        exact mksK_ok ih cs _ t1 k h3 h4
      | _ => simp only [mkC, h1]; exact ⟨t, h, h2⟩
    | sl b o l cap ep sz =>
      obtain ⟨blk, h1, h2⟩ := bgetK_ok hk
      rw [h] at h1
      have h1 : H[b]? = some blk := h1
      cases blk with
      | box cs fl =>
        change forceN _ _ at h2
        rw [forceN_eq] at h2
        obtain ⟨t1, h3, h4⟩ := setK'_ok h h2
        rw [dropK_eq] at h4
        obtain ⟨_, h4⟩ := takeK_ok h4
        simp only [mkC, h1]
        exact mksK_ok ih _ _ t1 k h3 h4
      | opn s cs fl e st =>
        change forceN _ _ at h2
        rw [forceN_eq] at h2
        obtain ⟨t1, h3, h4⟩ := setK'_ok h h2
        rw [dropK_eq] at h4
        obtain ⟨_, h4⟩ := takeK_ok h4
        simp only [mkC, h1]
        exact mksK_ok ih _ _ t1 k h3 h4
      | _ => simp only [mkC, h1]; exact ⟨t, h, h2⟩
    | cl f caps =>
      simp only [mkC]
      exact mksK_ok ih _ _ t k h hk
    | _ => exact ⟨t, h, hk⟩

def mkVK (v : V) (t : HT) (k : HT → Prop) : Prop := match v with
  | .c x => mkK deep x t k
  | .a xs => mksK (mkK deep) xs t k
  | _ => k t
theorem mkVK_ok : MkS mkVK (mkV deep) := by
  intro v H t k h hk
  cases v with
  | c x => exact mkK_ok deep x H t k h hk
  | a xs => exact mksK_ok (mkK_ok deep) xs H t k h hk
  | _ => exact ⟨t, h, hk⟩

/-- A call by value. -/
def pureK (call : CallK) (f : Nat) (vs : List V) (t : HT) (n : Nat) (k : V → HT → Nat → Prop) : Prop :=
  exsK (exV1K t) vs fun fs => call (.fn f) fs .e 0 fun rv t' _ => exVK t' rv fun rv => mksK mkVK vs t fun t => k rv t n

theorem pureK_ok {call : CallF} {callK : CallK} (hc : CallS call callK) {f : Nat} {vs : List V} {H : Heap} {t : HT} {k : V → HT → Nat → Prop} (h : HRel H t) (hk : pureK callK f vs t H.length k) :
    ∃ v H' t', pureCall call f vs H = some (v, H') ∧ HRel H' t' ∧ k v t' H'.length := by
  obtain ⟨fs, h1, hk⟩ := exsK_ok (exV1K_ok h) hk
  obtain ⟨rv, H1, t1, h2, h3, hk⟩ := hc (.fn f) fs [] .e _ HRel.nil hk
  obtain ⟨rv', h4, hk⟩ := exVK_ok h3 rv _ hk
  obtain ⟨t', h5, hk⟩ := mksK_ok mkVK_ok vs H t _ h hk
  refine ⟨rv', _, t', by simp only [pureCall, h1, h2, h4], h5, ?_⟩
  rw [← (mkVs_le deep vs H).1]; exact hk

/-! ### One operation -/

abbrev Arm := CallK → T → List ADef → HT → Nat → (V → List ADef → HT → Nat → Prop) → Prop

def aGen (op : AOp) : Arm := fun _ r d t n k => genK op r t n fun v t n => k v d t n
def aMov (x : Arg) : Arm := fun _ r d t n k => evK x r fun v => k v d t n
def aPick (c a b : Arg) : Arm := fun _ r d t n k => evK c r fun v => match v with
  | .c (.f (.bool v)) => Bool.rec (motive := fun _ => Prop) (evK b r fun v => k v d t n) (evK a r fun v => k v d t n) v
  | _ => False
def aAlloc (zs : List FC) : Arm := fun _ r d t n k => fzK zs fun cs => pushK (.box cs 0) t n fun t n' => k (.c (.ptr n 0 0)) d t n'
def aBox (x : Arg) : Arm := fun _ r d t n k => evK x r fun v => cellsK v fun xs => pushK (.box xs 0) t n fun t n' => k (.c (.ptr n 0 0)) d t n'
def aBuild (zs : List FC) (ps : List (Nat × Nat × Arg)) : Arm := fun _ r d t n k => fzK zs fun cs => partsK r ps cs fun cs => k (.a cs) d t n
def aLoad (m : Option Nat) (x : Arg) : Arm := fun _ r d t n k => evK x r fun v => ldK t m v fun v => k v d t n
def aStore (m : Nat) (x y : Arg) : Arm := fun _ r d t n k => evK x r fun v => evK y r fun y => cellsK y fun xs => beqK xs.length m (match v with
  | .c p => stK t p xs fun t => k .top d t n
  | _ => False)
def aNilchk (x : Arg) : Arm := fun _ r d t n k => evK x r fun v => match v with
  | .c (.ptr b o e) => k (.c (.ptr b o e)) d t n
  | .c (.f (.fp cs o)) => k (.c (.f (.fp cs o))) d t n
  | _ => False
def aBin (op : BinOp) (x y : Arg) : Arm := fun _ r d t n k => evK x r fun x => evK y r fun y => binK op x y fun v => k v d t n
def aCvi (j : IntKind) (x : Arg) : Arm := fun _ r d t n k => evK x r fun v => match v with
  | .c (.f (.int _ m)) => wrapK j m fun m => k (.c (.f (.int j m))) d t n
  | _ => False
def aFieldA (off : Nat) (x : Arg) : Arm := fun _ r d t n k => evK x r fun v => match v with
  | .c (.ptr b o e) => forceN (Nat.add o off) fun o => k (.c (.ptr b o e)) d t n
  | .c (.f (.fp cs o)) => forceN (Nat.add o off) fun o => k (.c (.f (.fp cs o))) d t n
  | _ => False
def aField (off : Nat) (m : Option Nat) (x : Arg) : Arm := fun _ r d t n k => evK x r fun v => match v with
  | .a xs => pickK m off xs fun v => k v d t n
  | _ => False
def aIndexA (sz : Nat) (arr : Option Nat) (x i : Arg) : Arm := fun _ r d t n k => evK x r fun x => evK i r fun i => indexK t sz arr x i fun v => k v d t n
def aExtract (x : Arg) (i : Nat) : Arm := fun _ r d t n k => evK x r fun v => match v with
  | .t vs => nthK i vs fun v => k v d t n
  | _ => False
def aCall (f : Nat) (args : List Arg) (h : Bool) : Arm := fun call r d t n k => argsK args r fun vs =>
  Bool.rec (motive := fun _ => Prop) (pureK call f vs t n fun v t n => k v d t n) (call (.fn f) vs t n fun v t n => k v d t n) h
def aCalld (x : Arg) (args : List Arg) (_ : Bool) : Arm := fun call r d t n k => evK x r fun x => argsK args r fun vs =>
  optK (calleeV x vs) fun ca => Prod.rec (motive := fun _ => Prop) (fun c vs => call c vs t n fun v t n => k v d t n) ca
def aLenA (m : Nat) : Arm := fun _ r d t n k => k (.c (.f (.int .i64 (.ofNat m)))) d t n
def aLen (x : Arg) : Arm := fun _ r d t n k => evK x r fun v => lenK t v fun m => k (.c (.f (.int .i64 (.ofNat m)))) d t n
def aAppend (sz bytes : Nat) (x y : Arg) : Arm := fun _ r d t n k => evK x r fun x => evK y r fun y => appK t n sz bytes x y fun v t n => k v d t n
def aRecover : Arm := fun _ r d t n k => k (.c (.f .nili)) d t n
def aDefer (x : Arg) (args : List Arg) : Arm := fun _ r d t n k => evK x r fun x => argsK args r fun vs =>
  optK (calleeV x vs) fun ca => Prod.rec (motive := fun _ => Prop) (fun c vs => Callee.rec (motive := fun _ => Prop) (fun f => k .top (.fn f vs :: d) t n) (fun _ => False) c) ca

/-- One operation. -/
def oneK (op : AOp) : Arm :=
  AOp.rec (motive := fun _ => Arm)
    aMov (fun o s => aGen (.pre o s)) aPick aAlloc aBox aBuild (fun a b c e => aGen (.bslice a b c e)) aLoad aStore aNilchk aBin
    (fun a b c e => aGen (.eq a b c e)) (fun a b => aGen (.un a b)) aCvi (fun a => aGen (.cvid a)) (fun a => aGen (.cvbs a)) (fun a => aGen (.cvsb a)) (fun a b => aGen (.mkfn a b)) (aGen .mkmap)
    (fun a b c e => aGen (.lookup a b c e)) (fun a b c e => aGen (.mapup a b c e)) (fun a b c e f => aGen (.mkslice a b c e f)) (fun a b c e f => aGen (.slice a b c e f)) (fun a b c e f g => aGen (.slarr a b c e f g)) (fun a b c => aGen (.slstr a b c))
    aFieldA aField aIndexA (fun a b => aGen (.idxs a b)) (fun a b c e f => aGen (.idxa a b c e f)) (fun a => aGen (.range a)) (fun a => aGen (.next a)) aExtract aCall aCalld aLen aLenA (fun a => aGen (.lens a)) (fun a => aGen (.cap a))
    aAppend (fun a b c => aGen (.copy a b c)) (fun a b => aGen (.maxs a b)) (fun a b c e f => aGen (.appz a b c e f)) (fun a b c => aGen (.clear a b c)) (fun a => aGen (.rangem a)) (fun a => aGen (.nextm a)) (fun a => aGen (.entry a)) (fun a b => aGen (.mkbm a b)) aRecover aDefer (aGen .bad) op

theorem oneK_ok {call : CallF} {callK : CallK} (hc : CallS call callK) (op : AOp) {r : T} {d : List ADef} {H : Heap} {t : HT} {k : V → List ADef → HT → Nat → Prop} (h : HRel H t) (hk : oneK op callK r d t H.length k) :
    ∃ v d' H' t', xOne call ⟨r, d, H⟩ op = some (v, ⟨r, d', H'⟩) ∧ HRel H' t' ∧ k v d' t' H'.length := by
  -- an operation that calls nothing
  have go : ∀ {v H' t'}, xOne call ⟨r, d, H⟩ op = (xOp r H op).map (fun r' => (r'.1, ⟨r, d, r'.2⟩)) → xOp r H op = some (v, H') → HRel H' t' → k v d t' H'.length →
      ∃ v d' H' t', xOne call ⟨r, d, H⟩ op = some (v, ⟨r, d', H'⟩) ∧ HRel H' t' ∧ k v d' t' H'.length :=
    fun h1 h2 h3 h4 => ⟨_, d, _, _, by rw [h1, h2]; rfl, h3, h4⟩
  have gen : xOne call ⟨r, d, H⟩ op = (xOp r H op).map (fun r' => (r'.1, ⟨r, d, r'.2⟩)) → aGen op callK r d t H.length k →
      ∃ v d' H' t', xOne call ⟨r, d, H⟩ op = some (v, ⟨r, d', H'⟩) ∧ HRel H' t' ∧ k v d' t' H'.length := fun h1 h2 => by
    obtain ⟨v, H', t', h3, h4, h5⟩ := genK_ok op r H t _ h h2
    exact go h1 h3 h4 h5
  cases op
  case mov x =>
    have hk : aMov x callK r d t H.length k := hk
    unfold aMov at hk; rw [evK_eq] at hk
    exact go rfl rfl h hk
  case pick c a b =>
    have hk : aPick c a b callK r d t H.length k := hk
    unfold aPick at hk; rw [evK_eq] at hk
    split at hk
    · rename_i v hv
      cases v with
      | true =>
        simp only [evK_eq] at hk
        exact go rfl (by simp only [xOp, hv]; rfl) h hk
      | false =>
        simp only [evK_eq] at hk
        exact go rfl (by simp only [xOp, hv]; rfl) h hk
    · exact hk.elim
  case alloc zs =>
    have hk : aAlloc zs callK r d t H.length k := hk
    unfold aAlloc at hk; rw [fzK_eq] at hk
    obtain ⟨t', h1, h2⟩ := pushK_ok h hk
    exact go rfl rfl h1 h2
  case box x =>
    have hk : aBox x callK r d t H.length k := hk
    unfold aBox at hk; rw [evK_eq] at hk
    obtain ⟨xs, h3, hk⟩ := cellsK_ok hk
    obtain ⟨t', h1, h2⟩ := pushK_ok h hk
    exact go rfl (by simp only [xOp, h3]) h1 h2
  case build zs ps =>
    have hk : aBuild zs ps callK r d t H.length k := hk
    unfold aBuild at hk; rw [fzK_eq] at hk
    obtain ⟨cs, h3, hk⟩ := partsK_ok r hk
    exact go rfl (by simp only [xOp, h3]; rfl) h hk
  case load m x =>
    have hk : aLoad m x callK r d t H.length k := hk
    unfold aLoad at hk; rw [evK_eq] at hk
    obtain ⟨v, h3, hk⟩ := ldK_ok h hk
    exact go rfl (by simp only [xOp, h3]; rfl) h hk
  case store m x y =>
    have hk : aStore m x y callK r d t H.length k := hk
    unfold aStore at hk; rw [evK_eq, evK_eq] at hk
    obtain ⟨xs, h3, hk⟩ := cellsK_ok hk
    obtain ⟨h4, hk⟩ := beqK_ok hk
    split at hk
    · rename_i p hp
      obtain ⟨H', t', h5, h6, h7, hk⟩ := stK_ok h hk
      exact go rfl (by simp only [xOp, hp, h3, h4, if_true, h5]; rfl) h6 (by rw [h7]; exact hk)
    · exact hk.elim
  case nilchk x =>
    have hk : aNilchk x callK r d t H.length k := hk
    unfold aNilchk at hk; rw [evK_eq] at hk
    split at hk
    · rename_i hv; exact go rfl (by simp only [xOp, hv]) h hk
    · rename_i hv; exact go rfl (by simp only [xOp, hv]) h hk
    · exact hk.elim
  case bin op x y =>
    have hk : aBin op x y callK r d t H.length k := hk
    unfold aBin at hk; rw [evK_eq, evK_eq] at hk
    obtain ⟨v, h3, hk⟩ := binK_ok hk
    exact go rfl (by simp only [xOp, h3]; rfl) h hk
  case cvi j x =>
    have hk : aCvi j x callK r d t H.length k := hk
    unfold aCvi at hk; rw [evK_eq] at hk
    split at hk
    · rename_i hv
      simp only [wrapK_eq] at hk
      exact go rfl (by simp only [xOp, hv]; rfl) h hk
    · exact hk.elim
  case fieldA off x =>
    have hk : aFieldA off x callK r d t H.length k := hk
    unfold aFieldA at hk; rw [evK_eq] at hk
    split at hk
    · rename_i hv; rw [forceN_eq] at hk; exact go rfl (by simp only [xOp, hv, fieldAV]; rfl) h hk
    · rename_i hv; rw [forceN_eq] at hk; exact go rfl (by simp only [xOp, hv, fieldAV]; rfl) h hk
    · exact hk.elim
  case field off m x =>
    have hk : aField off m x callK r d t H.length k := hk
    unfold aField at hk; rw [evK_eq] at hk
    split at hk
    · rename_i hv
      obtain ⟨v, h3, hk⟩ := pickK_ok hk
      exact go rfl (by simp only [xOp, hv, fieldV, h3]; rfl) h hk
    · exact hk.elim
  case indexA sz arr x i =>
    have hk : aIndexA sz arr x i callK r d t H.length k := hk
    unfold aIndexA at hk; rw [evK_eq, evK_eq] at hk
    obtain ⟨v, h3, hk⟩ := indexK_ok h hk
    exact go rfl (by simp only [xOp, h3]; rfl) h hk
  case extract x i =>
    have hk : aExtract x i callK r d t H.length k := hk
    unfold aExtract at hk; rw [evK_eq] at hk
    split at hk
    · rename_i hv
      obtain ⟨v, h3, hk⟩ := nthK_ok hk
      exact go rfl (by simp only [xOp, hv, h3]; rfl) h hk
    · exact hk.elim
  case call f args hh =>
    have hk : aCall f args hh callK r d t H.length k := hk
    unfold aCall at hk; rw [argsK_eq] at hk
    cases hh with
    | false =>
      obtain ⟨v, H', t', h1, h2, h3⟩ := pureK_ok hc h hk
      exact ⟨v, d, H', t', by simp only [xOne, oneCall, Bool.false_eq_true, if_false, h1]; rfl, h2, h3⟩
    | true =>
      obtain ⟨v, H', t', h1, h2, h3⟩ := hc _ _ H t _ h hk
      exact ⟨v, d, H', t', by simp only [xOne, oneCall, if_true, h1]; rfl, h2, h3⟩
  case calld x args hh =>
    have hk : aCalld x args hh callK r d t H.length k := hk
    unfold aCalld at hk; rw [evK_eq, argsK_eq] at hk
    obtain ⟨⟨c, vs⟩, h1, hk⟩ := optK_ok hk
    obtain ⟨v, H', t', h2, h3, h4⟩ := hc c vs H t _ h hk
    exact ⟨v, d, H', t', by simp only [xOne, h1, h2]; rfl, h3, h4⟩
  case len x =>
    have hk : aLen x callK r d t H.length k := hk
    unfold aLen at hk; rw [evK_eq] at hk
    obtain ⟨y, m, h1, h2, hk⟩ := lenK_ok h hk
    exact go rfl (by simp only [xOp, h1, h2]; rfl) h hk
  case lenA m =>
    have hk : aLenA m callK r d t H.length k := hk
    exact go rfl rfl h hk
  case append sz bytes x y =>
    have hk : aAppend sz bytes x y callK r d t H.length k := hk
    unfold aAppend at hk; rw [evK_eq, evK_eq] at hk
    obtain ⟨v, H', t', h1, h2, h3⟩ := appK_ok h hk
    exact go rfl (by simp only [xOp, h1]) h2 h3
  case recover =>
    have hk : aRecover callK r d t H.length k := hk
    exact ⟨_, d, H, t, rfl, h, hk⟩
  case defer x args =>
    have hk : aDefer x args callK r d t H.length k := hk
    unfold aDefer at hk; rw [evK_eq, argsK_eq] at hk
    obtain ⟨⟨c, vs⟩, h1, hk⟩ := optK_ok hk
    cases c with
    | fn f => exact ⟨_, .fn f vs :: d, H, t, by simp only [xOne, h1], h, hk⟩
    | yield b => exact hk.elim
  all_goals exact gen rfl hk

end Km
end

section
set_option linter.unusedVariables false
namespace Km
open Go

/-! ### Regions -/

def wantK (g : Option (P × Bool)) (r : T) (yes no : Prop) : Prop :=
  Option.rec (motive := fun _ => Prop) yes (fun pw => Prod.rec (motive := fun _ => Prop) (fun p w => getK p r fun v => match v with
    | .c (.f (.bool b)) => Bool.rec (motive := fun _ => Prop) (Bool.rec (motive := fun _ => Prop) yes no w) (Bool.rec (motive := fun _ => Prop) no yes w) b
    | .t [] => no
    | _ => False) pw) g
theorem wantK_ok {g : Option (P × Bool)} {r : T} {yes no : Prop} (h : wantK g r yes no) : (wanted r g = some true ∧ yes) ∨ (wanted r g = some false ∧ no) := by
  cases g with
  | none => exact .inl ⟨rfl, h⟩
  | some pw =>
    obtain ⟨p, w⟩ := pw
    change getK p r _ at h
    rw [getK_eq] at h
    simp only [wanted]
    split at h
    · rename_i b hv
      rw [hv]
      cases b <;> cases w
      · exact .inl ⟨rfl, h⟩
      · exact .inr ⟨rfl, h⟩
      · exact .inr ⟨rfl, h⟩
      · exact .inl ⟨rfl, h⟩
    · rename_i hv; rw [hv]; exact .inr ⟨rfl, h⟩
    · exact h.elim

abbrev KSt := T → List ADef → HT → Nat → Prop

def stepK (o : AOper) (call : CallK) (r : T) (d : List ADef) (t : HT) (n : Nat) (k : KSt) : Prop :=
  AOper.rec (motive := fun _ => Prop) (fun dst op g => wantK g r (oneK op call r d t n fun v d t n => putK dst r v fun r => k r d t n) (putK dst r (.t []) fun r => k r d t n)) o

theorem stepK_ok {call : CallF} {callK : CallK} (hc : CallS call callK) {o : AOper} {r : T} {d : List ADef} {H : Heap} {t : HT} {k : KSt} (h : HRel H t) (hk : stepK o callK r d t H.length k) :
    ∃ s' t', xStep call ⟨r, d, H⟩ o = some s' ∧ HRel s'.heap t' ∧ k s'.regs s'.defs t' s'.heap.length := by
  obtain ⟨dst, op, g⟩ := o
  rcases wantK_ok hk with ⟨hw, hk⟩ | ⟨hw, hk⟩
  · obtain ⟨v, d', H', t', h1, h2, h3⟩ := oneK_ok hc op h hk
    rw [putK_eq] at h3
    exact ⟨⟨putR r dst v, d', H'⟩, t', by simp only [xStep, hw, h1], h2, h3⟩
  · rw [putK_eq] at hk
    exact ⟨⟨putR r dst (.t []), d, H⟩, t, by simp only [xStep, hw], h, hk⟩

def opsK (ops : List AOper) (call : CallK) : T → List ADef → HT → Nat → KSt → Prop :=
  List.rec (motive := fun _ => T → List ADef → HT → Nat → KSt → Prop) (fun r d t n k => k r d t n) (fun o _ ih r d t n k => stepK o call r d t n fun r d t n => ih r d t n k) ops

theorem opsK_ok {call : CallF} {callK : CallK} (hc : CallS call callK) : ∀ {ops : List AOper} {r : T} {d : List ADef} {H : Heap} {t : HT} {k : KSt}, HRel H t → opsK ops callK r d t H.length k →
    ∃ s' t', xOps call ops ⟨r, d, H⟩ = some s' ∧ HRel s'.heap t' ∧ k s'.regs s'.defs t' s'.heap.length
  | [], r, d, H, t, k, h, hk => ⟨⟨r, d, H⟩, t, rfl, h, hk⟩
  | o :: ops, r, d, H, t, k, h, hk => by
    obtain ⟨s1, t1, h1, h2, h3⟩ := stepK_ok hc h hk
    obtain ⟨s2, t2, h4, h5, h6⟩ := opsK_ok hc (r := s1.regs) (d := s1.defs) (H := s1.heap) h2 h3
    exact ⟨s2, t2, by simp only [xOps, h1]; exact h4, h5, h6⟩

/-- A state on the way. -/
structure Snap where
  r : T
  d : List ADef
  t : HT
  n : Nat

def statesK (ops : List AOper) (call : CallK) : T → List ADef → HT → Nat → (List Snap → KSt) → Prop :=
  List.rec (motive := fun _ => T → List ADef → HT → Nat → (List Snap → KSt) → Prop) (fun r d t n k => k [⟨r, d, t, n⟩] r d t n)
    (fun o _ ih r d t n k => stepK o call r d t n fun r' d' t' n' => ih r' d' t' n' fun ss r'' d'' t'' n'' => k (⟨r, d, t, n⟩ :: ss) r'' d'' t'' n'') ops

def SnapR (s : St) (x : Snap) : Prop := x.r = s.regs ∧ x.d = s.defs ∧ HRel s.heap x.t ∧ x.n = s.heap.length

inductive Snaps : List St → List Snap → Prop
  | nil : Snaps [] []
  | cons {s : St} {x : Snap} {ss : List St} {xs : List Snap} (h : SnapR s x) (hs : Snaps ss xs) : Snaps (s :: ss) (x :: xs)

theorem Snaps.get {ss : List St} {xs : List Snap} (h : Snaps ss xs) : ∀ (i : Nat) (x : Snap), xs[i]? = some x → ∃ s, ss[i]? = some s ∧ SnapR s x := by
  induction h with
  | nil => intro i x hx; simp at hx
  | cons h hs ih =>
    intro i x hx
    cases i with
    | zero => simp at hx; subst hx; exact ⟨_, rfl, h⟩
    | succ i => simpa using ih i x (by simpa using hx)

theorem statesK_ok {call : CallF} {callK : CallK} (hc : CallS call callK) : ∀ {ops : List AOper} {r : T} {d : List ADef} {H : Heap} {t : HT} {k : List Snap → KSt}, HRel H t → statesK ops callK r d t H.length k →
    ∃ ss xs s' t', xStates call ops ⟨r, d, H⟩ = some ss ∧ Snaps ss xs ∧ ss.getLast? = some s' ∧ HRel s'.heap t' ∧ k xs s'.regs s'.defs t' s'.heap.length
  | [], r, d, H, t, k, h, hk => ⟨[⟨r, d, H⟩], [⟨r, d, t, H.length⟩], ⟨r, d, H⟩, t, rfl, .cons ⟨rfl, rfl, h, rfl⟩ .nil, rfl, h, hk⟩
  | o :: ops, r, d, H, t, k, h, hk => by
    obtain ⟨s1, t1, h1, h2, h3⟩ := stepK_ok hc h hk
    obtain ⟨ss, xs, s2, t2, h4, h5, h6, h7, h8⟩ := statesK_ok hc (r := s1.regs) (d := s1.defs) (H := s1.heap) h2 h3
    refine ⟨⟨r, d, H⟩ :: ss, ⟨r, d, t, H.length⟩ :: xs, s2, t2, by simp only [xStates, h1]; rw [h4], .cons ⟨rfl, rfl, h, rfl⟩ h5, ?_, h7, h8⟩
    cases ss with
    | nil => simp at h6
    | cons a as => simpa using h6

def sameK (ops : List AOper) (xs : List Snap) (c : Nat × Nat) : Bool :=
  match ops[c.1]?, xs[c.1]?, xs[c.2]? with
  | some o, some s, some s' => match wanted s.r o.g with
    | some false => true
    | _ => match xOpG s.r s.t.get s.n o.op, xOpG s.r s'.t.get s'.n o.op with
      | some (v, _), some (v', _) => v.beq v'
      | _, _ => false
  | _, _, _ => false

theorem sameK_ok {ops : List AOper} {ss : List St} {xs : List Snap} (h : Snaps ss xs) {c : Nat × Nat} (hc : sameK ops xs c = true) : sameAt ops ss c = true := by
  unfold sameK at hc
  split at hc
  · rename_i o x x' h1 h2 h3
    obtain ⟨s, g1, g2, g3, g4, g5⟩ := h.get _ _ h2
    obtain ⟨s', k1, k2, k3, k4, k5⟩ := h.get _ _ h3
    unfold sameAt
    rw [h1, g1, k1]
    simp only
    rw [← g2]
    split at hc
    · rename_i hw; rw [hw]
    · split at hc
      · rename_i v e v' e' h4 h5
        rw [g4, g5] at h4
        rw [k4, k5] at h5
        have e1 := xOpG_eq x.r s.heap o.op
        rw [h4] at e1
        have e2 := xOpG_eq x.r s'.heap o.op
        rw [h5] at e2
        rw [← e1, ← e2]
        split
        · rfl
        · exact hc
      · simp at hc
  · simp at hc

def regionK (ops : List AOper) (chk : List (Nat × Nat)) (call : CallK) (r : T) (d : List ADef) (t : HT) (n : Nat) (k : KSt) : Prop :=
  List.rec (motive := fun _ => Prop) (opsK ops call r d t n k) (fun _ _ _ => statesK ops call r d t n fun xs r d t n => boolK (chk.all (sameK ops xs)) (k r d t n)) chk

theorem regionK_ok {call : CallF} {callK : CallK} (hc : CallS call callK) {ops : List AOper} {chk : List (Nat × Nat)} {r : T} {d : List ADef} {H : Heap} {t : HT} {k : KSt} (h : HRel H t) (hk : regionK ops chk callK r d t H.length k) :
    ∃ s' t', xRegion call ops chk ⟨r, d, H⟩ = some s' ∧ HRel s'.heap t' ∧ k s'.regs s'.defs t' s'.heap.length := by
  cases chk with
  | nil => exact opsK_ok hc h hk
  | cons c cs =>
    have hk : statesK ops callK r d t H.length (fun xs r d t n => boolK ((c :: cs).all (sameK ops xs)) (k r d t n)) := hk
    obtain ⟨ss, xs, s', t', h1, h2, h3, h4, h5⟩ := statesK_ok hc h hk
    obtain ⟨h6, h7⟩ := boolK_ok h5
    refine ⟨s', t', ?_, h4, h7⟩
    simp only [xRegion, h1]
    rw [if_pos, h3]
    rw [List.all_eq_true] at h6 ⊢
    exact fun c hc => sameK_ok h2 (h6 c hc)

/-! ### Frames -/

abbrev Go1 := Option Nat → List AItem → KSt
abbrev KEnd := Option ACode → KSt
abbrev CodeArm := CallK → Nat → KEnd → Go1 → Option Nat → List AItem → KSt

def cSkip : CodeArm := fun _ _ _ go ro rest r d t n => go ro rest r d t n
def cRegion (ops : List AOper) (chk : List (Nat × Nat)) : CodeArm := fun call _ _ go ro rest r d t n =>
  Option.rec (motive := fun _ => Prop) (regionK ops chk call r d t n fun r d t n => go ro rest r d t n)
    (fun _ => boolK (ops.all (·.op.roundOK)) (regionK ops chk call r d t n fun r d t n => go ro rest r d t n)) ro
def cSeq (a b : ACode) (_ _ : CodeArm) : CodeArm := fun _ _ _ go ro rest r d t n => go ro (.code a :: .code b :: rest) r d t n
def cCond (c : Arg) (a b : ACode) (_ _ : CodeArm) : CodeArm := fun _ _ _ go ro rest r d t n => evK c r fun v => match v with
  | .c (.f (.bool v)) => Bool.rec (motive := fun _ => Prop) (go ro (.code b :: rest) r d t n) (go ro (.code a :: rest) r d t n) v
  | _ => False
def cBlock (id : Nat) (a : ACode) (_ : CodeArm) : CodeArm := fun _ _ _ go ro rest r d t n => go ro (.code a :: .inBlock id :: rest) r d t n
def cLoop (a : ACode) (_ : CodeArm) : CodeArm := fun _ _ _ go ro rest r d t n => go ro (.code a :: .inLoop a :: rest) r d t n
def cRangeF (f : Arg) (ps : List P) (as bd : ACode) (_ _ : CodeArm) : CodeArm := fun call fn _ go ro rest r d t n =>
  Option.rec (motive := fun _ => Prop)
    (pushK (.dfr true) t n fun t n1 => pushK (.lp fn r ps as bd .ready none n) t n1 fun t n2 => evK f r fun x =>
      optK (calleeV x [.c (.yl n1)]) fun ca => Prod.rec (motive := fun _ => Prop) (fun c vs => Callee.rec (motive := fun _ => Prop)
        (fun g => call (.fn g) vs t n2 fun _ t n' => go none (.endRF n1 :: rest) r (.coll n :: d) t n') (fun _ => False) c) ca)
    (fun _ => False) ro
def cExit (id : Nat) : CodeArm := fun _ _ kend go ro rest r d t n =>
  Option.rec (motive := fun _ => Prop) (Option.rec (motive := fun _ => Prop) False (fun _ => kend (some (.exit id)) r d t n) ro) (fun k => go ro k r d t n) (exitTo id rest)
def cRet : CodeArm := fun _ _ kend _ _ _ r d t n => kend (some .ret) r d t n
def cBad : CodeArm := fun _ _ _ _ _ _ _ _ _ _ => False

def cScope (a : ACode) (_ : CodeArm) : CodeArm := fun _ _ _ go ro rest r d t n => go ro (.code a :: .inScope a :: rest) r d t n
def cLabel (_ : Nat) : CodeArm := cSkip
def cGoto (l : Nat) : CodeArm := fun _ _ _ go ro rest r d t n => optK (gotoIn l rest) fun k => go ro k r d t n

def codeK (c : ACode) : CodeArm := ACode.rec (motive := fun _ => CodeArm) cSkip cRegion cSeq cCond cBlock cLoop cRangeF cExit cRet cBad cScope cLabel cGoto c

def iBlock (_ : Nat) : CodeArm := cSkip
def iLoop (c : ACode) : CodeArm := fun _ _ _ go ro rest r d t n => go ro (.code c :: .inLoop c :: rest) r d t n
def iEndRF (b : Nat) : CodeArm := fun _ _ _ go ro rest r d t n => bgetK b t fun blk => match blk with
  | .lp f tmps ps as bd st pending dd => boolK (match st with | .busy => false | _ => true) (bsetK (.lp f tmps ps as bd .exhausted pending dd) t b fun t => match pending with
    | none => go ro rest r d t n
    | some .ret => go ro (.code .ret :: rest) r d t n
    | some (.exit id) => go ro (.code (.exit id) :: rest) r d t n
    | some _ => False)
  | _ => False
def iBegR : CodeArm := fun _ _ _ go ro rest r d t n => Option.rec (motive := fun _ => Prop) False (fun b => bgetK b t fun blk => match blk with
  | .lp f tmps ps as bd .ready pending dd => bsetK (.lp f tmps ps as bd .busy pending dd) t b fun t => go ro rest r d t n
  | _ => False) ro

def iScope (_ : ACode) : CodeArm := cSkip

def itemK (x : AItem) : CodeArm := AItem.rec (motive := fun _ => CodeArm) codeK iBlock iLoop iEndRF iBegR iScope x

def runK (call : CallK) (fn : Nat) (kend : KEnd) (m : Nat) : Go1 :=
  Nat.rec (motive := fun _ => Go1) (fun _ _ _ _ _ _ => False)
    (fun _ ih ro todo r d t n => List.rec (motive := fun _ => Prop) (kend none r d t n) (fun x rest _ => itemK x call fn kend ih ro rest r d t n) todo) m

def EndS (call : CallF) (fn m : Nat) (ro : Option Nat) (todo : List AItem) (s : St) (kend : KEnd) : Prop :=
  ∃ jump s' t', run call fn m ro todo s = some (jump, s') ∧ HRel s'.heap t' ∧ kend jump s'.regs s'.defs t' s'.heap.length

theorem runK_ok {call : CallF} {callK : CallK} (hc : CallS call callK) (fn : Nat) (kend : KEnd) : ∀ (m : Nat) (ro : Option Nat) (todo : List AItem) (r : T) (d : List ADef) (H : Heap) (t : HT),
    HRel H t → runK callK fn kend m ro todo r d t H.length → EndS call fn m ro todo ⟨r, d, H⟩ kend := by
  intro m
  induction m with
  | zero => intro ro todo r d H t h hk; exact hk.elim
  | succ m ih =>
    intro ro todo r d H t h hk
    have go : ∀ {todo'} {s' : St} {t' : HT}, run call fn (m + 1) ro todo ⟨r, d, H⟩ = run call fn m ro todo' s' → HRel s'.heap t' → runK callK fn kend m ro todo' s'.regs s'.defs t' s'.heap.length → EndS call fn (m + 1) ro todo ⟨r, d, H⟩ kend := by
      intro todo' s' t' h1 h2 h3
      obtain ⟨jump, s'', t'', g1, g2, g3⟩ := ih ro todo' s'.regs s'.defs s'.heap t' h2 h3
      exact ⟨jump, s'', t'', by rw [h1]; exact g1, g2, g3⟩
    cases todo with
    | nil => exact ⟨none, ⟨r, d, H⟩, t, rfl, h, hk⟩
    | cons x rest =>
      have hk : itemK x callK fn kend (runK callK fn kend m) ro rest r d t H.length := hk
      cases x with
      | inBlock id => exact go (s' := ⟨r, d, H⟩) (by simp only [run]) h hk
      | inLoop c => exact go (s' := ⟨r, d, H⟩) (by simp only [run]) h hk
      | inScope c => exact go (s' := ⟨r, d, H⟩) (by simp only [run]) h hk
      | endRF b =>
        have hk : iEndRF b callK fn kend (runK callK fn kend m) ro rest r d t H.length := hk
        unfold iEndRF at hk
        obtain ⟨blk, h1, h2⟩ := bgetK_ok hk
        rw [h] at h1
        have h1 : H[b]? = some blk := h1
        split at h2
        · rename_i f tmps ps as bd st pending dd _
          obtain ⟨h3, h2⟩ := boolK_ok h2
          obtain ⟨t', h4, h5⟩ := setK'_ok h h2
          have hst : st ≠ .busy := by rintro rfl; simp at h3
          have hl : H.length = (H.set b (.lp f tmps ps as bd .exhausted pending dd)).length := by simp
          rw [hl] at h5
          split at h5
          · exact go (s' := ⟨r, d, H.set b (.lp f tmps ps as bd .exhausted none dd)⟩) (by simp only [run, h1, if_neg hst]) h4 h5
          · exact go (s' := ⟨r, d, H.set b (.lp f tmps ps as bd .exhausted (some .ret) dd)⟩) (by simp only [run, h1, if_neg hst]) h4 h5
          · exact go (s' := ⟨r, d, H.set b (.lp f tmps ps as bd .exhausted (some (.exit _)) dd)⟩) (by simp only [run, h1, if_neg hst]) h4 h5
          · exact h5.elim
        · exact h2.elim
      | begR =>
        have hk : iBegR callK fn kend (runK callK fn kend m) ro rest r d t H.length := hk
        cases ro with
        | none => exact hk.elim
        | some b =>
          obtain ⟨blk, h1, h2⟩ := bgetK_ok hk
          rw [h] at h1
          have h1 : H[b]? = some blk := h1
          split at h2
          · rename_i f tmps ps as bd pending dd _
            obtain ⟨t', h4, h5⟩ := setK'_ok h h2
            have hl : H.length = (H.set b (.lp f tmps ps as bd .busy pending dd)).length := by simp
            rw [hl] at h5
            exact go (s' := ⟨r, d, H.set b (.lp f tmps ps as bd .busy pending dd)⟩) (by simp only [run, h1]) h4 h5
          · exact h2.elim
      | code c =>
        cases c with
        | skip => exact go (s' := ⟨r, d, H⟩) (by simp only [run]) h hk
        | label l => exact go (s' := ⟨r, d, H⟩) (by simp only [run]) h hk
        | scope a => exact go (s' := ⟨r, d, H⟩) (by simp only [run]) h hk
        | goto l =>
          obtain ⟨k', he, hk⟩ := optK_ok (show optK (gotoIn l rest) (fun k' => runK callK fn kend m ro k' r d t H.length) from hk)
          exact go (s' := ⟨r, d, H⟩) (by simp only [run, he]) h hk
        | bad => exact hk.elim
        | ret => exact ⟨some .ret, ⟨r, d, H⟩, t, rfl, h, hk⟩
        | seq a b => exact go (s' := ⟨r, d, H⟩) (by simp only [run]) h hk
        | block id a => exact go (s' := ⟨r, d, H⟩) (by simp only [run]) h hk
        | loop a => exact go (s' := ⟨r, d, H⟩) (by simp only [run]) h hk
        | exit id =>
          have hk : cExit id callK fn kend (runK callK fn kend m) ro rest r d t H.length := hk
          unfold cExit at hk
          cases he : exitTo id rest with
          | some k' =>
            rw [he] at hk
            exact go (s' := ⟨r, d, H⟩) (by simp only [run, he]) h hk
          | none =>
            rw [he] at hk
            cases ro with
            | none => exact hk.elim
            | some b => exact ⟨some (.exit id), ⟨r, d, H⟩, t, by simp only [run, he, Option.isSome_some, if_true], h, hk⟩
        | cond c a b =>
          have hk : cCond c a b (codeK a) (codeK b) callK fn kend (runK callK fn kend m) ro rest r d t H.length := hk
          unfold cCond at hk
          rw [evK_eq] at hk
          split at hk
          · rename_i v hv
            cases v with
            | true => exact go (s' := ⟨r, d, H⟩) (by simp only [run, hv, if_true]) h hk
            | false => exact go (s' := ⟨r, d, H⟩) (by simp only [run, hv, Bool.false_eq_true, if_false]) h hk
          · exact hk.elim
        | region ops chk =>
          have key : (ro.isSome && !ops.all (·.op.roundOK)) = false ∧ regionK ops chk callK r d t H.length (fun r d t n => runK callK fn kend m ro rest r d t n) := by
            cases ro with
            | none => exact ⟨rfl, hk⟩
            | some b =>
              obtain ⟨h1, h2⟩ := boolK_ok (show boolK (ops.all (·.op.roundOK)) (regionK ops chk callK r d t H.length (fun r d t n => runK callK fn kend m (some b) rest r d t n)) from hk)
              exact ⟨by rw [h1]; rfl, h2⟩
          obtain ⟨s', t', h1, h2, h3⟩ := regionK_ok hc h key.2
          exact go (s' := s') (by simp only [run, key.1, Bool.false_eq_true, if_false, h1]) h2 h3
        | rangeF f ps as bd =>
          have hk : cRangeF f ps as bd (codeK as) (codeK bd) callK fn kend (runK callK fn kend m) ro rest r d t H.length := hk
          cases ro with
          | some b => exact hk.elim
          | none =>
            unfold cRangeF at hk
            obtain ⟨t1, h1, hk⟩ := pushK_ok h hk
            obtain ⟨t2, h2, hk⟩ := pushK_ok h1 hk
            rw [evK_eq] at hk
            obtain ⟨⟨c, vs⟩, h3, hk⟩ := optK_ok hk
            have e1 : (H ++ [Blk.dfr true]).length = H.length + 1 := by simp
            have e2 : H ++ [Blk.dfr true] ++ [Blk.lp fn r ps as bd .ready none H.length] = H ++ [.dfr true, .lp fn r ps as bd .ready none H.length] := by simp
            rw [e1] at h3
            rw [e2] at h2
            cases c with
            | yield b => exact hk.elim
            | fn g =>
              have hk : callK (.fn g) vs t2 (H ++ [Blk.dfr true] ++ [Blk.lp fn r ps as bd .ready none H.length]).length (fun _ t n' => runK callK fn kend m none (.endRF (H ++ [Blk.dfr true]).length :: rest) r (.coll H.length :: d) t n') := hk
              rw [e2, e1] at hk
              obtain ⟨v, H', t', h4, h5, h6⟩ := hc _ _ _ _ _ h2 hk
              exact go (s' := ⟨r, .coll H.length :: d, H'⟩) (by simp only [run, Option.isSome_none, Bool.false_eq_true, if_false, h3, h4]) h5 h6

/-! ### Calls -/

def defsK (call : CallK) (ds : List ADef) : HT → Nat → (HT → Nat → Prop) → Prop :=
  List.rec (motive := fun _ => HT → Nat → (HT → Nat → Prop) → Prop) (fun t n k => k t n)
    (fun x _ ih t n k => ADef.rec (motive := fun _ => Prop)
      (fun b => bgetK b t fun blk => match blk with
        | .dfr true => bsetK (.dfr false) t b fun t => ih t n k
        | _ => False)
      (fun f args => call (.fn f) args t n fun _ t n => ih t n k) x) ds

theorem defsK_ok {call : CallF} {callK : CallK} (hc : CallS call callK) : ∀ {ds : List ADef} {H : Heap} {t : HT} {k : HT → Nat → Prop}, HRel H t → defsK callK ds t H.length k → ∃ H' t', runDefs call ds H = some H' ∧ HRel H' t' ∧ k t' H'.length
  | [], H, t, k, h, hk => ⟨H, t, rfl, h, hk⟩
  | .coll b :: ds, H, t, k, h, hk => by
    obtain ⟨blk, h1, h2⟩ := bgetK_ok hk
    rw [h] at h1
    have h1 : H[b]? = some blk := h1
    split at h2
    · obtain ⟨t1, h3, h4⟩ := setK'_ok h h2
      have hl : H.length = (H.set b (.dfr false)).length := by simp
      have h4 : defsK callK ds t1 H.length k := h4
      rw [hl] at h4
      obtain ⟨H', t', h5, h6, h7⟩ := defsK_ok hc h3 h4
      exact ⟨H', t', by simp only [runDefs, h1]; exact h5, h6, h7⟩
    · exact h2.elim
  | .fn f args :: ds, H, t, k, h, hk => by
    obtain ⟨v, H1, t1, h1, h2, h3⟩ := hc _ _ H t _ h hk
    obtain ⟨H', t', h5, h6, h7⟩ := defsK_ok hc (ds := ds) h2 h3
    exact ⟨H', t', by simp only [runDefs, h1]; exact h5, h6, h7⟩

def resK (r : T) (t : HT) (a : ARes) (k : V → Prop) : Prop := ARes.rec (motive := fun _ => Prop)
  (fun p => getK p r fun v => match v with
    | .t _ => False
    | v => k v)
  (fun p m => getK p r fun v => ldK t m v k) a

theorem resK_ok {H : Heap} {t : HT} (h : HRel H t) {r : T} (a : ARes) (k : V → Prop) (hk : resK r t a k) : ∃ v, resOne r H a = some v ∧ k v := by
  cases a with
  | tmp p =>
    change getK p r _ at hk
    rw [getK_eq] at hk
    simp only [resOne]
    cases hv : r.get p with
    | t vs => rw [hv] at hk; exact hk.elim
    | _ => rw [hv] at hk; exact ⟨_, rfl, hk⟩
  | cell p m =>
    change getK p r _ at hk
    rw [getK_eq] at hk
    exact ldK_ok h hk

def resultsK (r : T) (t : HT) (rs : List ARes) (k : V → Prop) : Prop := exsK (resK r t) rs fun vs => match vs with
  | [v] => k v
  | vs => k (.t vs)
theorem resultsK_ok {H : Heap} {t : HT} (h : HRel H t) {r : T} {rs : List ARes} {k : V → Prop} (hk : resultsK r t rs k) : ∃ v, Km.results r H rs = some v ∧ k v := by
  obtain ⟨vs, h1, h2⟩ := exsK_ok (resK_ok h) hk
  unfold Km.results
  rw [h1]
  split at h2
  · exact ⟨_, rfl, h2⟩
  · rename_i hne
    refine ⟨.t vs, ?_, h2⟩
    match vs, hne with
    | [v], hne => exact absurd rfl (hne v)
    | [], _ => rfl
    | _ :: _ :: _, _ => rfl

def fnK (tab : BT AFunc) (m : Nat) (call : CallK) (f : Nat) (args : List V) (t : HT) (n : Nat) (k : V → HT → Nat → Prop) : Prop :=
  bgetK f tab fun af => AFunc.rec (motive := fun _ => Prop) (fun ps rs body => beqK args.length ps.length (setAllK ps args .e fun r =>
    runK call f (fun _ r d t n => defsK call d t n fun t n => resultsK r t rs fun v => k v t n) m none [.code body] r [] t n)) af

def yieldK (m : Nat) (call : CallK) (b : Nat) (args : List V) (t : HT) (n : Nat) (k : V → HT → Nat → Prop) : Prop :=
  bgetK b t fun blk => match blk with
    | .lp f tmps ps as bd _ _ _ => beqK args.length ps.length (setAllK ps args tmps fun r =>
        runK call f (fun jump _ d t n => boolK d.isEmpty (bgetK b t fun blk => match blk with
          | .lp f' tmps' ps' as' bd' _ _ d' => match jump with
            | none => bsetK (.lp f' tmps' ps' as' bd' .ready none d') t b fun t => k (.c (.f (.bool true))) t n
            | some j => bsetK (.lp f' tmps' ps' as' bd' .done (some j) d') t b fun t => k (.c (.f (.bool false))) t n
          | _ => False)) m (some b) [.code as, .begR, .code bd] r [] t n)
    | _ => False

def callK (tab : BT AFunc) (m : Nat) (dep : Nat) : CallK :=
  Nat.rec (motive := fun _ => CallK) (fun _ _ _ _ _ => False)
    (fun _ ih c args t n k => Callee.rec (motive := fun _ => Prop) (fun f => fnK tab m ih f args t n k) (fun b => yieldK m ih b args t n k) c) dep

def noPrim : Nat → List V → Heap → Option (Option (V × Heap)) := fun _ _ _ => none

theorem callK_ok (tab : BT AFunc) (m : Nat) : ∀ dep, CallS (callF tab.get noPrim m dep) (callK tab m dep) := by
  intro dep
  induction dep with
  | zero => intro c args H t k h hk; exact hk.elim
  | succ dep ih =>
    intro c args H t k h hk
    cases c with
    | fn f =>
      obtain ⟨af, h1, hk⟩ := bgetK_ok (show fnK tab m (callK tab m dep) f args t H.length k from hk)
      obtain ⟨ps, rs, body⟩ := af
      obtain ⟨h2, hk⟩ := beqK_ok hk
      rw [setAllK_eq] at hk
      obtain ⟨jump, s', t', h3, h4, hk⟩ := runK_ok ih f _ m none [.code body] _ [] H t h hk
      obtain ⟨H', t'', h5, h6, hk⟩ := defsK_ok ih h4 hk
      obtain ⟨v, h7, hk⟩ := resultsK_ok h6 hk
      exact ⟨v, H', t'', by simp only [callF, noPrim, h1, h2, if_true, h3, h5, h7]; rfl, h6, hk⟩
    | yield b =>
      obtain ⟨blk, h1, hk⟩ := bgetK_ok (show yieldK m (callK tab m dep) b args t H.length k from hk)
      rw [h] at h1
      have h1 : H[b]? = some blk := h1
      split at hk
      · obtain ⟨h2, hk⟩ := beqK_ok hk
        rw [setAllK_eq] at hk
        obtain ⟨jump, s', t', h3, h4, hk⟩ := runK_ok ih _ _ m (some b) _ _ [] H t h hk
        obtain ⟨h5, hk⟩ := boolK_ok hk
        obtain ⟨blk', h6, hk⟩ := bgetK_ok hk
        rw [h4] at h6
        have h6 : s'.heap[b]? = some blk' := h6
        split at hk
        · cases jump with
          | none =>
            obtain ⟨t'', h7, h8⟩ := setK'_ok h4 hk
            exact ⟨_, _, t'', by simp only [callF, h1, h2, if_true, h3, h5, h6]; rfl, h7, by rw [List.length_set]; exact h8⟩
          | some j =>
            obtain ⟨t'', h7, h8⟩ := setK'_ok h4 hk
            exact ⟨_, _, t'', by simp only [callF, h1, h2, if_true, h3, h5, h6]; rfl, h7, by rw [List.length_set]; exact h8⟩
        · exact hk.elim
      · exact hk.elim

/-- Is it true? -/
def isTrue (v : V) (_ : HT) (_ : Nat) : Prop := match v with
  | .c (.f (.bool b)) => Bool.rec (motive := fun _ => Prop) False True b
  | _ => False

/-- **What the kernel reckons.** -/
theorem callK_true {tab : BT AFunc} {m dep f : Nat} (h : callK tab m dep (.fn f) [] .e 0 isTrue) : ∃ H', callF tab.get noPrim m dep (.fn f) [] [] = some (.c (.f (.bool true)), H') := by
  obtain ⟨v, H', t', h1, h2, h3⟩ := callK_ok tab m dep (.fn f) [] [] .e isTrue HRel.nil h
  refine ⟨H', ?_⟩
  rw [h1]
  unfold isTrue at h3
  split at h3
  · rename_i b
    cases b with
    | true => rfl
    | false => exact h3.elim
  · exact h3.elim

end Km
end

section
namespace Km
open Go

theorem all_e {P : Nat → AFunc → Prop} : ∀ i a, (BT.e : BT AFunc).get i = some a → P i a := fun i a h => by cases i <;> cases h

theorem all_n {P : Nat → AFunc → Prop} {l r : BT AFunc} {x : AFunc} (hl : ∀ i a, l.get i = some a → P (2 * i + 1) a) (hx : P 0 x)
    (hr : ∀ i a, r.get i = some a → P (2 * i + 2) a) : ∀ i a, (BT.n l x r).get i = some a → P i a := by
  intro i a h
  cases i with
  | zero => cases h; exact hx
  | succ m =>
    have h' : (if m % 2 = 0 then l.get (m / 2) else r.get (m / 2)) = some a := h
    split at h'
    · have := hl _ _ h'
      rwa [show 2 * (m / 2) + 1 = m + 1 by omega] at this
    · have := hr _ _ h'
      rwa [show 2 * (m / 2) + 2 = m + 1 by omega] at this

theorem noPrim_ok (Q : Program) (σ : Nat → FuncId) : PrimOK Q σ noPrim := fun f args H r H' h => by cases h

/-- What the kernel reckoned, at any bounds. -/
theorem reckoned {tab : BT AFunc} {f : Nat} (h : ∃ m dep, callK tab m dep (.fn f) [] .e 0 isTrue = True) : ∃ m dep H', callF tab.get noPrim m dep (.fn f) [] [] = some (.c (.f (.bool true)), H') := by
  obtain ⟨m, dep, h⟩ := h
  obtain ⟨H', h'⟩ := callK_true (of_eq_true h)
  exact ⟨m, dep, H', h'⟩

/-- A closed call that answers true in the small machine answers true in the model. -/
theorem answers {Q : Program} {σ : Nat → FuncId} {tab : BT AFunc} (hE : Env Q σ tab.get noPrim) {f : Nat}
    (h : ∃ m dep H', callF tab.get noPrim m dep (.fn f) [] [] = some (.c (.f (.bool true)), H')) (W : World) :
    Calls Q (σ f) #[] W fun e w' => e = .returned (.bool true) ∧ RowKit.Below W.heap.size W w' := by
  obtain ⟨m, dep, H', h⟩ := h
  exact closed_calls hE h W

end Km
end

section
namespace Km
open Go

/-- The second evaluator answers wherever the first does, and alike. -/
def CallLe (c1 c2 : CallF) : Prop := ∀ c args H r, c1 c args H = some r → c2 c args H = some r

section
variable {c1 c2 : CallF} (hc : CallLe c1 c2)
include hc

theorem pureCall_mono {c : Nat} {args : List V} {H : Heap} {r : V × Heap} (h : pureCall c1 c args H = some r) : pureCall c2 c args H = some r := by
  unfold pureCall at h ⊢
  split at h
  · simp at h
  · rename_i fs hfs
    split at h
    · simp at h
    · rename_i r0 H0 h0
      simp only [hc _ _ _ _ h0]
      exact h

theorem oneCall_mono {b : Bool} {c : Nat} {args : List V} {H : Heap} {r : V × Heap} (h : oneCall c1 b c args H = some r) : oneCall c2 b c args H = some r := by
  unfold oneCall at h ⊢
  split at h
  · rename_i hb; simp only [hb, if_true]; exact hc _ _ _ _ h
  · rename_i hb; simp only [hb]; exact pureCall_mono hc h

theorem xOne_mono {s : St} {op : AOp} {r : V × St} (h : xOne c1 s op = some r) : xOne c2 s op = some r := by
  cases op with
  | call f args b =>
    simp only [xOne, Option.map_eq_some_iff] at h ⊢
    obtain ⟨a, ha, rfl⟩ := h
    exact ⟨a, oneCall_mono hc ha, rfl⟩
  | calld x args b =>
    simp only [xOne] at h ⊢
    split at h
    · simp only [Option.map_eq_some_iff] at h ⊢
      obtain ⟨a, ha, rfl⟩ := h
      exact ⟨a, hc _ _ _ _ ha, rfl⟩
    · simp at h
  | _ => exact h

theorem xStep_mono {s s' : St} {o : AOper} (h : xStep c1 s o = some s') : xStep c2 s o = some s' := by
  unfold xStep at h ⊢
  cases hw : wanted s.regs o.g with
  | none => simp [hw] at h
  | some b =>
    cases b with
    | false => simpa [hw] using h
    | true =>
      simp only [hw] at h ⊢
      cases h1 : xOne c1 s o.op with
      | none => simp [h1] at h
      | some x =>
        obtain ⟨v, s1⟩ := x
        rw [xOne_mono hc h1]
        rw [h1] at h
        exact h

theorem xOps_mono : ∀ (os : List AOper) (s : St) {s' : St}, xOps c1 os s = some s' → xOps c2 os s = some s'
  | [], s, s', h => h
  | o :: os, s, s', h => by
    simp only [xOps] at h ⊢
    split at h
    · rename_i s1 h1
      simp only [xStep_mono hc h1]
      exact xOps_mono os s1 h
    · simp at h

theorem xStates_mono : ∀ (os : List AOper) (s : St) {ss : List St}, xStates c1 os s = some ss → xStates c2 os s = some ss
  | [], s, ss, h => h
  | o :: os, s, ss, h => by
    simp only [xStates] at h ⊢
    split at h
    · rename_i s1 h1
      simp only [xStep_mono hc h1]
      split at h
      · rename_i ss1 h2
        simp only [xStates_mono os s1 h2]
        exact h
      · simp at h
    · simp at h

theorem xRegion_mono {ops : List AOper} {chk : List (Nat × Nat)} {s s' : St} (h : xRegion c1 ops chk s = some s') : xRegion c2 ops chk s = some s' := by
  unfold xRegion at h ⊢
  split at h
  · exact xOps_mono hc _ _ h
  · split at h
    · rename_i ss hss
      simp only [xStates_mono hc _ _ hss]
      exact h
    · simp at h

theorem run_mono {fn : Nat} : ∀ (n n' : Nat) (ro : Option Nat) (todo : List AItem) (s : St) {r : Option ACode × St}, n ≤ n' →
    run c1 fn n ro todo s = some r → run c2 fn n' ro todo s = some r
  | 0, _, _, _, _, _, _, h => by simp [run] at h
  | n + 1, 0, _, _, _, _, hn, _ => by omega
  | n + 1, n' + 1, ro, todo, s, r, hn, h => by
    have ih := fun ro todo s r h => run_mono (fn := fn) n n' ro todo s (r := r) (by omega) h
    match todo, h with
    | [], h => exact h
    | .inBlock _ :: k, h => exact ih _ _ _ _ h
    | .inLoop c :: k, h => exact ih _ _ _ _ h
    | .endRF b :: k, h =>
      simp only [run] at h ⊢
      split at h
      · rename_i f tmps ps as bd st pending d hb
        try simp only [hb]
        split at h
        · simp at h
        · rename_i hst
          try simp only [hst, if_false]
          split at h
          · exact ih _ _ _ _ h
          · exact ih _ _ _ _ h
          · exact ih _ _ _ _ h
          · simp at h
      · simp at h
    | .begR :: k, h =>
      simp only [run] at h ⊢
      split at h
      · simp at h
      · rename_i b
        split at h
        · rename_i hb
          try simp only [hb]
          exact ih _ _ _ _ h
        · simp at h
    | .code .skip :: k, h => exact ih _ _ _ _ h
    | .inScope _ :: k, h => exact ih _ _ _ _ h
    | .code (.label _) :: k, h => exact ih _ _ _ _ h
    | .code (.scope a) :: k, h => exact ih _ _ _ _ h
    | .code (.goto l) :: k, h =>
      simp only [run] at h ⊢
      split at h
      · rename_i hk; (try simp only [hk]); exact ih _ _ _ _ h
      · simp at h
    | .code .bad :: _, h => simp [run] at h
    | .code .ret :: _, h => exact h
    | .code (.exit id) :: k, h =>
      simp only [run] at h ⊢
      split at h
      · rename_i hk; (try simp only [hk]); exact ih _ _ _ _ h
      · rename_i hk; (try simp only [hk]); exact h
    | .code (.seq a b) :: k, h => exact ih _ _ _ _ h
    | .code (.block id a) :: k, h => exact ih _ _ _ _ h
    | .code (.loop a) :: k, h => exact ih _ _ _ _ h
    | .code (.cond c a b) :: k, h =>
      simp only [run] at h ⊢
      split at h
      · rename_i v hv; (try simp only [hv]); exact ih _ _ _ _ h
      · simp at h
    | .code (.region ops chk) :: k, h =>
      simp only [run] at h ⊢
      split at h
      · simp at h
      · rename_i hro
        try simp only [hro]
        split at h
        · rename_i s1 h1
          try simp only [xRegion_mono hc h1]
          exact ih _ _ _ _ h
        · simp at h
    | .code (.rangeF f ps as bd) :: k, h =>
      simp only [run] at h ⊢
      split at h
      · simp at h
      · rename_i hro
        try simp only [hro]
        split at h
        · rename_i g args hg
          try simp only [hg]
          split at h
          · rename_i v H1 h1
            try simp only [hc _ _ _ _ h1]
            exact ih _ _ _ _ h
          · simp at h
        · simp at h

theorem runDefs_mono : ∀ (ds : List ADef) (H : Heap) {H' : Heap}, runDefs c1 ds H = some H' → runDefs c2 ds H = some H'
  | [], H, H', h => h
  | .coll b :: ds, H, H', h => by
    simp only [runDefs] at h ⊢
    split at h
    · rename_i hb; exact runDefs_mono ds _ h
    · simp at h
  | .fn f args :: ds, H, H', h => by
    simp only [runDefs] at h ⊢
    split at h
    · rename_i v H1 h1
      try simp only [hc _ _ _ _ h1]
      exact runDefs_mono ds _ h
    · simp at h
end

variable {tab : Nat → Option AFunc} {prim : Nat → List V → Heap → Option (Option (V × Heap))}

theorem callF_mono {m m' : Nat} (hm : m ≤ m') : ∀ (d d' : Nat), d ≤ d' → CallLe (callF tab prim m d) (callF tab prim m' d')
  | 0, _, _, _, _, _, _, h => by simp [callF] at h
  | d + 1, 0, hd, _, _, _, _, _ => by omega
  | d + 1, d' + 1, hd, c, args, H, r, h => by
    have ih : CallLe (callF tab prim m d) (callF tab prim m' d') := callF_mono hm d d' (by omega)
    match c, h with
    | .fn f, h =>
      simp only [callF] at h ⊢
      split at h
      · rename_i r' hp; (try simp only [hp]); exact h
      · rename_i hp
        try simp only [hp]
        split at h
        · simp at h
        · rename_i af haf
          try simp only [haf]
          split at h
          · rename_i hl
            try simp only [hl, if_true]
            split at h
            · rename_i j s hs
              try simp only [run_mono ih m m' _ _ _ hm hs]
              split at h
              · rename_i H1 h1
                try simp only [runDefs_mono ih _ _ h1]
                exact h
              · simp at h
            · simp at h
          · simp at h
    | .yield b, h =>
      simp only [callF] at h ⊢
      split at h
      · rename_i f tmps ps as bd q1 q2 q3 hb
        try simp only [hb]
        split at h
        · rename_i hl
          try simp only [hl, if_true]
          split at h
          · rename_i j s hs
            try simp only [run_mono ih m m' _ _ _ hm hs]
            exact h
          · simp at h
        · simp at h
      · simp at h

end Km
end

section
namespace Km
open Go

section
variable (tab : Nat → Option AFunc)

abbrev CF (m d : Nat) : CallF := callF tab noPrim m d

/-- A call comes to a result and a heap. -/
def Ev (c : Callee) (args : List V) (H : Heap) (r : V) (H' : Heap) : Prop := ∃ m d, CF tab m d c args H = some (r, H')

/-- A call by value, of frozen arguments: its result, frozen. -/
def Pure (f : Nat) (args : List V) (r : V) : Prop := ∃ r0 H', Ev tab (.fn f) args [] r0 H' ∧ exV deep H' r0 = some r

/-- A frame's run comes to an end in Q. -/
def WP (fn : Nat) (ro : Option Nat) (todo : List AItem) (s : St) (Q : Option ACode → St → Prop) : Prop :=
  ∃ n m d j s', run (CF tab m d) fn n ro todo s = some (j, s') ∧ Q j s'

/-- One operation, and what is asked of it. -/
def ONE (s : St) (op : AOp) (K : V → St → Prop) : Prop :=
  match op with
  | .call f args h =>
    if h then ∃ r H', Ev tab (.fn f) (argsV s.regs args) s.heap r H' ∧ K r { s with heap := H' }
    else ∃ fs r, mapO (exV1 deep s.heap) (argsV s.regs args) = some fs ∧ Pure tab f fs r ∧ K r { s with heap := (argsV s.regs args).foldl (mkV deep) s.heap }
  | .calld x args _ => ∃ c as r H', calleeV (x.ev s.regs) (argsV s.regs args) = some (c, as) ∧ Ev tab c as s.heap r H' ∧ K r { s with heap := H' }
  | .recover => K (.c (.f .nili)) s
  | .defer x args => ∃ f as, calleeV (x.ev s.regs) (argsV s.regs args) = some (.fn f, as) ∧ K .top { s with defs := .fn f as :: s.defs }
  | op => ∃ v H', xOp s.regs s.heap op = some (v, H') ∧ K v { s with heap := H' }

/-- A row of operations. -/
def OPS : List AOper → St → (St → Prop) → Prop
  | [], s, K => K s
  | o :: os, s, K => match wanted s.regs o.g with
    | some true => ONE tab s o.op fun v s' => OPS os { s' with regs := putR s'.regs o.dst v } K
    | some false => OPS os { s with regs := putR s.regs o.dst (.t []) } K
    | none => False

/-- A row of operations, and the states between them. -/
def OPSC : List AOper → List St → St → (List St → St → Prop) → Prop
  | [], acc, s, K => K (acc ++ [s]) s
  | o :: os, acc, s, K => match wanted s.regs o.g with
    | some true => ONE tab s o.op fun v s' => OPSC os (acc ++ [s]) { s' with regs := putR s'.regs o.dst v } K
    | some false => OPSC os (acc ++ [s]) { s with regs := putR s.regs o.dst (.t []) } K
    | none => False

variable {tab}
variable {c : Callee} {args : List V} {H H' : Heap} {r : V}

theorem cf_le {m m' d d' : Nat} (hm : m ≤ m') (hd : d ≤ d') : CallLe (CF tab m d) (CF tab m' d') := callF_mono hm d d' hd

theorem Ev.det {r2 : V} {H2 : Heap} (h1 : Ev tab c args H r H') (h2 : Ev tab c args H r2 H2) : r = r2 ∧ H' = H2 := by
  obtain ⟨m, d, h1⟩ := h1
  obtain ⟨m', d', h2⟩ := h2
  have e1 := cf_le (tab := tab) (Nat.le_max_left m m') (Nat.le_max_left d d') _ _ _ _ h1
  have e2 := cf_le (tab := tab) (Nat.le_max_right m m') (Nat.le_max_right d d') _ _ _ _ h2
  rw [e1] at e2
  simpa using e2

theorem Pure.det {f : Nat} {r2 : V} (h1 : Pure tab f args r) (h2 : Pure tab f args r2) : r = r2 := by
  obtain ⟨a, H1, ha, h1⟩ := h1
  obtain ⟨b, H2, hb, h2⟩ := h2
  obtain ⟨rfl, rfl⟩ := ha.det hb
  rw [h1] at h2
  simpa using h2

theorem ONE_sound {s : St} {op : AOp} {K : V → St → Prop} (h : ONE tab s op K) : ∃ m d v s', xOne (CF tab m d) s op = some (v, s') ∧ K v s' := by
  cases op with
  | call f args b =>
    simp only [ONE] at h
    split at h
    · rename_i hb
      obtain ⟨r, H', ⟨m, d, h1⟩, h2⟩ := h
      exact ⟨m, d, r, _, by simp [xOne, oneCall, hb, h1], h2⟩
    · rename_i hb
      obtain ⟨fs, r, h0, ⟨r0, H0, ⟨m, d, h1⟩, h2⟩, h3⟩ := h
      exact ⟨m, d, r, _, by simp [xOne, oneCall, hb, pureCall, h0, h1, h2], h3⟩
  | calld x args b =>
    obtain ⟨c, as, r, H', h0, ⟨m, d, h1⟩, h2⟩ := h
    exact ⟨m, d, r, _, by simp [xOne, h0, h1], h2⟩
  | recover => exact ⟨0, 0, _, _, rfl, h⟩
  | «defer» x args =>
    obtain ⟨f, as, h0, h1⟩ := h
    exact ⟨0, 0, .top, _, by simp [xOne, h0], h1⟩
  | _ =>
    obtain ⟨v, H', h0, h1⟩ := h
    exact ⟨0, 0, v, _, by simp [xOne, h0], h1⟩

theorem OPS_sound : ∀ (os : List AOper) (s : St) {K : St → Prop}, OPS tab os s K → ∃ m d s', xOps (CF tab m d) os s = some s' ∧ K s'
  | [], s, K, h => ⟨0, 0, s, rfl, h⟩
  | o :: os, s, K, h => by
    simp only [OPS] at h
    split at h
    · rename_i hw
      obtain ⟨m, d, v, s1, h1, h2⟩ := ONE_sound h
      obtain ⟨m', d', s', h3, h4⟩ := OPS_sound os _ h2
      refine ⟨max m m', max d d', s', ?_, h4⟩
      have e1 := xOne_mono (cf_le (tab := tab) (Nat.le_max_left m m') (Nat.le_max_left d d')) h1
      have e3 := xOps_mono (cf_le (tab := tab) (Nat.le_max_right m m') (Nat.le_max_right d d')) os _ h3
      simp only [xOps, xStep, hw, e1, e3]
    · rename_i hw
      obtain ⟨m', d', s', h3, h4⟩ := OPS_sound os _ h
      exact ⟨m', d', s', by simp only [xOps, xStep, hw, h3], h4⟩
    · exact h.elim

theorem OPSC_sound : ∀ (os : List AOper) (acc : List St) (s : St) {K : List St → St → Prop}, OPSC tab os acc s K →
    ∃ m d ss s', xStates (CF tab m d) os s = some ss ∧ ss.getLast? = some s' ∧ K (acc ++ ss) s'
  | [], acc, s, K, h => ⟨0, 0, [s], s, rfl, rfl, h⟩
  | o :: os, acc, s, K, h => by
    simp only [OPSC] at h
    split at h
    · rename_i hw
      obtain ⟨m, d, v, s1, h1, h2⟩ := ONE_sound h
      obtain ⟨m', d', ss, s', h3, h4, h5⟩ := OPSC_sound os _ _ h2
      refine ⟨max m m', max d d', s :: ss, s', ?_, ?_, by simpa using h5⟩
      · have e1 := xOne_mono (cf_le (tab := tab) (Nat.le_max_left m m') (Nat.le_max_left d d')) h1
        have e3 := xStates_mono (cf_le (tab := tab) (Nat.le_max_right m m') (Nat.le_max_right d d')) os _ h3
        simp only [xStates, xStep, hw, e1, e3]
      · rw [List.getLast?_cons, h4]; rfl
    · rename_i hw
      obtain ⟨m', d', ss, s', h3, h4, h5⟩ := OPSC_sound os _ _ h
      refine ⟨m', d', s :: ss, s', by simp only [xStates, xStep, hw, h3], ?_, by simpa using h5⟩
      rw [List.getLast?_cons, h4]; rfl
    · exact h.elim

/-! ### A frame's items -/

variable {fn : Nat} {ro : Option Nat} {k : List AItem} {s : St} {Q : Option ACode → St → Prop} {a b : ACode}

theorem kw_of {todo : List AItem} {todo' : List AItem} {s' : St} (h : WP tab fn ro todo' s' Q)
    (hs : ∀ m d n, run (CF tab m d) fn (n + 1) ro todo s = run (CF tab m d) fn n ro todo' s') : WP tab fn ro todo s Q := by
  obtain ⟨n, m, d, j, s1, h1, h2⟩ := h
  exact ⟨n + 1, m, d, j, s1, by rw [hs, h1], h2⟩

theorem kw_nil (h : Q none s) : WP tab fn ro [] s Q := ⟨1, 0, 0, none, s, rfl, h⟩
theorem kw_inBlock {i : Nat} (h : WP tab fn ro k s Q) : WP tab fn ro (.inBlock i :: k) s Q := kw_of h fun _ _ _ => rfl
theorem kw_inScope (h : WP tab fn ro k s Q) : WP tab fn ro (.inScope a :: k) s Q := kw_of h fun _ _ _ => rfl
theorem kw_inLoop (h : WP tab fn ro (.code a :: .inLoop a :: k) s Q) : WP tab fn ro (.inLoop a :: k) s Q := kw_of h fun _ _ _ => rfl
theorem kw_skip (h : WP tab fn ro k s Q) : WP tab fn ro (.code .skip :: k) s Q := kw_of h fun _ _ _ => rfl
theorem kw_label {l : Nat} (h : WP tab fn ro k s Q) : WP tab fn ro (.code (.label l) :: k) s Q := kw_of h fun _ _ _ => rfl
theorem kw_scope (h : WP tab fn ro (.code a :: .inScope a :: k) s Q) : WP tab fn ro (.code (.scope a) :: k) s Q := kw_of h fun _ _ _ => rfl
theorem kw_seq (h : WP tab fn ro (.code a :: .code b :: k) s Q) : WP tab fn ro (.code (.seq a b) :: k) s Q := kw_of h fun _ _ _ => rfl
theorem kw_block {i : Nat} (h : WP tab fn ro (.code a :: .inBlock i :: k) s Q) : WP tab fn ro (.code (.block i a) :: k) s Q := kw_of h fun _ _ _ => rfl
theorem kw_ret (h : Q (some .ret) s) : WP tab fn ro (.code .ret :: k) s Q := ⟨1, 0, 0, some .ret, s, rfl, h⟩
theorem kw_exit {i : Nat} {k' : List AItem} (he : exitTo i k = some k') (h : WP tab fn ro k' s Q) : WP tab fn ro (.code (.exit i) :: k) s Q :=
  kw_of h fun _ _ _ => by simp only [run, he]
theorem kw_exit_out {i b : Nat} (he : exitTo i k = none) (h : Q (some (.exit i)) s) : WP tab fn (some b) (.code (.exit i) :: k) s Q :=
  ⟨1, 0, 0, some (.exit i), s, by simp [run, he], h⟩
theorem kw_goto {l : Nat} {k' : List AItem} (he : gotoIn l k = some k') (h : WP tab fn ro k' s Q) : WP tab fn ro (.code (.goto l) :: k) s Q :=
  kw_of h fun _ _ _ => by simp only [run, he]

theorem kw_cond {c : Arg} {v : Bool} (hc : c.ev s.regs = .c (.f (.bool v))) (h : WP tab fn ro (.code (if v then a else b) :: k) s Q) :
    WP tab fn ro (.code (.cond c a b) :: k) s Q := kw_of h fun _ _ _ => by simp only [run, hc]
theorem kw_cond_t {c : Arg} (hc : c.ev s.regs = .c (.f (.bool true))) (h : WP tab fn ro (.code a :: k) s Q) :
    WP tab fn ro (.code (.cond c a b) :: k) s Q := kw_cond hc h
theorem kw_cond_f {c : Arg} (hc : c.ev s.regs = .c (.f (.bool false))) (h : WP tab fn ro (.code b :: k) s Q) :
    WP tab fn ro (.code (.cond c a b) :: k) s Q := kw_cond hc h
theorem kw_if {c : Arg} {p : Prop} [Decidable p] (hc : c.ev s.regs = .c (.f (.bool (decide p)))) (h1 : p → WP tab fn ro (.code a :: k) s Q) (h2 : ¬ p → WP tab fn ro (.code b :: k) s Q) :
    WP tab fn ro (.code (.cond c a b) :: k) s Q := by
  by_cases hp : p
  · exact kw_cond_t (by simpa [hp] using hc) (h1 hp)
  · exact kw_cond_f (by simpa [hp] using hc) (h2 hp)
theorem kw_ifb {c : Arg} {v : Bool} (hc : c.ev s.regs = .c (.f (.bool v))) (h1 : v = true → WP tab fn ro (.code a :: k) s Q) (h2 : v = false → WP tab fn ro (.code b :: k) s Q) :
    WP tab fn ro (.code (.cond c a b) :: k) s Q := by
  cases v
  · exact kw_cond_f hc (h2 rfl)
  · exact kw_cond_t hc (h1 rfl)

theorem run_le {m m' d d' n n' : Nat} {todo : List AItem} {x : Option ACode × St} (hm : m ≤ m') (hd : d ≤ d') (hn : n ≤ n')
    (h : run (CF tab m d) fn n ro todo s = some x) : run (CF tab m' d') fn n' ro todo s = some x :=
  run_mono (cf_le hm hd) n n' ro todo s hn h

theorem kw_region {ops : List AOper} (hr : ro = none ∨ ops.all (·.op.roundOK) = true) (h : OPS tab ops s fun s' => WP tab fn ro k s' Q) :
    WP tab fn ro (.code (.region ops []) :: k) s Q := by
  obtain ⟨m, d, s', h1, n, m', d', j, s2, h2, h3⟩ := OPS_sound ops s h
  refine ⟨n + 1, max m m', max d d', j, s2, ?_, h3⟩
  have e1 := xOps_mono (cf_le (tab := tab) (Nat.le_max_left m m') (Nat.le_max_left d d')) ops _ h1
  have e2 := run_le (Nat.le_max_right m m') (Nat.le_max_right d d') (Nat.le_refl n) h2
  have hro : (ro.isSome && !ops.all (·.op.roundOK)) = false := by
    rcases hr with rfl | hr
    · rfl
    · rw [hr]; simp
  simp only [run, hro, xRegion, e1, e2]
  simp

theorem xStates_head {c : CallF} : ∀ (os : List AOper) (s : St) {ss : List St}, xStates c os s = some ss → ∃ tl, ss = s :: tl
  | [], s, ss, h => ⟨[], by simpa [xStates] using h.symm⟩
  | o :: os, s, ss, h => by
    simp only [xStates] at h
    split at h
    · split at h
      · rename_i ss1 _; exact ⟨ss1, by simpa using h.symm⟩
      · simp at h
    · simp at h

theorem xStates_last {c : CallF} : ∀ (os : List AOper) (s : St) {ss : List St} {s' : St}, xStates c os s = some ss → ss.getLast? = some s' → xOps c os s = some s'
  | [], s, ss, s', h, hl => by simp [xStates] at h; subst h; simp at hl; simp [xOps, hl]
  | o :: os, s, ss, s', h, hl => by
    simp only [xStates] at h
    cases hs : xStep c s o with
    | none => simp [hs] at h
    | some s1 =>
      simp only [hs] at h
      cases hss : xStates c os s1 with
      | none => simp [hss] at h
      | some ss1 =>
        simp [hss] at h
        subst h
        simp only [xOps, hs]
        refine xStates_last os s1 hss ?_
        obtain ⟨tl, rfl⟩ := xStates_head os s1 hss
        simpa using hl

theorem kw_regionc {ops : List AOper} {chk : List (Nat × Nat)} (hr : ro = none ∨ ops.all (·.op.roundOK) = true)
    (h : OPSC tab ops [] s fun ss s' => chk.all (sameAt ops ss) = true ∧ WP tab fn ro k s' Q) :
    WP tab fn ro (.code (.region ops chk) :: k) s Q := by
  obtain ⟨m, d, ss, s', h1, hl, hk, n, m', d', j, s2, h2, h3⟩ := OPSC_sound ops [] s h
  have hro : (ro.isSome && !ops.all (·.op.roundOK)) = false := by
    rcases hr with rfl | hr
    · rfl
    · rw [hr]; simp
  have e1 := xStates_mono (cf_le (tab := tab) (Nat.le_max_left m m') (Nat.le_max_left d d')) ops _ h1
  have e2 := run_le (Nat.le_max_right m m') (Nat.le_max_right d d') (Nat.le_refl n) h2
  have hx : xRegion (CF tab (max m m') (max d d')) ops chk s = some s' := by
    cases chk with
    | nil =>
      simp only [xRegion]
      exact xStates_last _ _ e1 hl
    | cons x xs =>
      simp only [xRegion, e1]
      rw [if_pos (by simpa using hk), hl]
  refine ⟨n + 1, max m m', max d d', j, s2, ?_, h3⟩
  simp only [run, hro, hx, e2]
  simp

/-- A loop, by a measure. -/
theorem kw_loop (I : Nat → St → Prop) (n : Nat) (h0 : I n s)
    (step : ∀ n s, I n s → (∀ n' s', n' < n → I n' s' → WP tab fn ro (.inLoop a :: k) s' Q) → WP tab fn ro (.code a :: .inLoop a :: k) s Q) :
    WP tab fn ro (.code (.loop a) :: k) s Q := by
  have key : ∀ n s, I n s → WP tab fn ro (.code a :: .inLoop a :: k) s Q := by
    intro n
    induction n using Nat.strongRecOn with
    | _ n ih =>
      intro s hs
      exact step n s hs fun n' s' hn hs' => kw_inLoop (ih n' hn s' hs')
  exact kw_of (key n s h0) fun _ _ _ => rfl

/-! ### Calls -/

/-- What a frame's end comes to. -/
def Fin (tab : Nat → Option AFunc) (af : AFunc) (r : V) (H' : Heap) (s : St) : Prop :=
  ∃ m d H1, runDefs (CF tab m d) s.defs s.heap = some H1 ∧ results s.regs H1 af.results = some r ∧ H1 = H'

theorem ev_fn {f : Nat} {af : AFunc} (ht : tab f = some af) (hl : args.length = af.ps.length)
    (h : WP tab f none [.code af.body] ⟨setAll af.ps args .e, [], H⟩ fun _ s => Fin tab af r H' s) : Ev tab (.fn f) args H r H' := by
  obtain ⟨n, m, d, j, s, h1, m', d', H1, h2, h3, rfl⟩ := h
  obtain ⟨M, hM1, hM2, hM3⟩ : ∃ M, m ≤ M ∧ m' ≤ M ∧ n ≤ M := ⟨max (max m m') n, by omega, by omega, by omega⟩
  obtain ⟨E, hE1, hE2⟩ : ∃ E, d ≤ E ∧ d' ≤ E := ⟨max d d', by omega, by omega⟩
  refine ⟨M, E + 1, ?_⟩
  have e1 : run (CF tab M E) f M none [.code af.body] ⟨setAll af.ps args .e, [], H⟩ = some (j, s) := run_le hM1 hE1 hM3 h1
  have e2 := runDefs_mono (cf_le (tab := tab) hM2 hE2) _ _ h2
  have hp : noPrim f args H = none := rfl
  simp only [CF] at e1 e2 ⊢
  simp only [callF, hp, ht, hl, if_true, e1, e2, h3, Option.map_some]

/-- A function without deferred calls: its result by value. -/
def FinP (res : List ARes) (r : V) (s : St) : Prop := s.defs = [] ∧ ∃ r0, results s.regs s.heap res = some r0 ∧ exV deep s.heap r0 = some r

theorem pure_fn {f : Nat} {ps : List P} {res : List ARes} {body : ACode} (ht : tab f = some ⟨ps, res, body⟩) (hl : args.length = ps.length)
    (h : ∀ Q : Option ACode → St → Prop, (∀ j s, FinP res r s → Q j s) → WP tab f none [.code body] ⟨setAll ps args .e, [], []⟩ Q) : Pure tab f args r := by
  have h' := h (fun _ s => FinP res r s) fun _ _ h => h
  obtain ⟨n, m, d, j, s, h1, hd, r0, h2, h3⟩ := h'
  exact ⟨r0, s.heap, ev_fn ht hl ⟨n, m, d, j, s, h1, 0, 0, s.heap, by rw [hd]; rfl, h2, rfl⟩, h3⟩

end
end Km
end

