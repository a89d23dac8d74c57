/-
  Our own small machine for closed runs of Go code, held against the model: its regions, its loops and its calls. No program in sight.
-/
import Derived.Test.YtndbljbjhcgoiaaGreatK2
import Derived.Orders

set_option linter.unusedVariables false
set_option linter.unusedSimpArgs false
set_option linter.unusedSectionVars false

section
namespace Km
open Go

variable {Q : Program} {σ : Nat → FuncId} {X : Wd} {call : CallF}

theorem exV1_le {n : Nat} {H H' : Heap} (h : HLe H H') (v : V) : exV1 n H' v = exV1 n H v := by
  cases v with
  | c x => simp only [exV1, exC_le n h]
  | a xs => simp only [exV1, mapO_congr (fun x _ => exC_le n h x)]
  | _ => rfl

/-- **A call by value**: in a world whose heap is already ahead. -/
theorem pure_ok (hC : CallOK Q σ call) (hS : SR Q σ X) (hB : X.B ≤ X.w.heap.size) {f : Nat} {args : List V} {us : List Value} {H H' : Heap} {r' : V} (hp : pureCall call f args H = some (r', H')) (hH : HExt H' X.H) (ha : A2 (VR σ X) args us) (cs : List Frame) :
    (∀ as w, (callFunc (σ f) as).run Q w = .ok (.enter (σ f) as) w) ∧
    ∃ fr X' u, Steps Q (lone (Frame.enter Q (σ f) us.toArray .normal) cs X.w) (lone fr cs X'.w) ∧ Leaves Q (σ f) .normal fr u X'.w ∧ Post Q σ X r' X.H X' u ∧ X'.rho = X.rho := by
  unfold pureCall at hp
  split at hp
  · simp at hp
  · rename_i fs hfs
    split at hp
    · simp at hp
    · rename_i r Hc hcall
      split at hp
      · simp at hp
      · rename_i r'' hr
        simp only [Option.some.injEq, Prod.mk.injEq] at hp
        obtain ⟨rfl, rfl⟩ := hp
        have hle := mkVs_le deep args H
        have hmk := mkVs_marked deep args H
        obtain ⟨h1, h2, h3⟩ := SR.flag hS
        have hfs := mapO_A2 hfs
        have hfa : A2 (VR σ X.flag.inner) fs us := by
          refine ⟨by rw [← hfs.len]; exact ha.len, fun i y u hy hu => ?_⟩
          have hi : i < args.length := by rw [hfs.len]; exact (List.getElem?_eq_some_iff.1 hy).1
          have hx := List.getElem?_eq_getElem hi
          have he : exV1 deep H args[i] = some y := hfs.2 i _ _ hx hy
          have hv := VR.ext' σ h2 (ha.2 i _ _ hx hu)
          rw [← exV1_le hle] at he
          have hv1 : VR1 σ X.flag args[i] u := by
            cases hai : args[i] with
            | c x => rw [hai] at hv; exact hv
            | a xs => rw [hai] at hv; exact hv
            | top => trivial
            | t vs => rw [hai] at he; simp [exV1] at he
          exact VR.of1 σ (frzV1 h1 h3 hH he (hmk _ (List.getElem_mem hi)) hv1 X.flag.inner rfl rfl)
        obtain ⟨fr, Y, u, g1, g2, g3, g4, g5, g6, g7⟩ := hC.fn f fs [] r Hc hcall X.flag.inner us .normal cs rfl (SR.inner h1) (Nat.le_refl _) hfa (.inl rfl)
        obtain ⟨k1, k2, k3⟩ := SR.outer h1 hB g4 g6
        refine ⟨hC.enters f fs [] _ hcall, fr, { X.flag with F := Y.fullF.F, w := Y.w }, u, g1, g2, ⟨rfl, k1, ?_, h2.trans (k2.mono (Nat.le_refl _)), k3⟩, rfl⟩
        rw [← g3] at hr
        exact frz_result g4 hr g5 _ rfl rfl

theorem op_of_mCall {o : Oper} {f : Nat} {xs : List Arg} {h : Bool} (hm : mOp Q σ o (.call f xs h) = true) : ∃ c, o.op = .call c ∧ c.callee = .value (.func (σ f)) ∧ mAs σ xs c.args = true := by
  simp only [mOp] at hm
  split at hm
  · rename_i c ho
    simp only [mCall] at hm
    split at hm
    · rename_i g hg
      simp only [Bool.and_eq_true, beq_iff_eq] at hm
      exact ⟨c, ho, by rw [hg, hm.1], hm.2⟩
    · simp at hm
  · simp at hm

theorem op_of_mCalld {o : Oper} {x : Arg} {xs : List Arg} {h : Bool} (hm : mOp Q σ o (.calld x xs h) = true) : ∃ c y, o.op = .call c ∧ c.callee = .value y ∧ mA σ x y = true ∧ mAs σ xs c.args = true := by
  simp only [mOp] at hm
  split at hm
  · rename_i c ho
    simp only [mCall] at hm
    split at hm
    · rename_i y hy
      simp only [Bool.and_eq_true] at hm
      exact ⟨c, y, ho, hy, hm.1, hm.2⟩
    · simp at hm
  · simp at hm

theorem notDefer {o : Oper} {c : Call} (h : o.op = .call c) : ∀ c, o.op ≠ .defer c := fun c' e => by rw [h] at e; cases e

/-- A call of a known function by value, in its frame. -/
theorem callPure_ok (hC : CallOK Q σ call) (hS : SR Q σ X) (hB : X.B ≤ X.w.heap.size) {a : Act} {regs : T} (hR : RR σ X regs a.tmps) {o : Oper} {f : Nat} {xs : List Arg} {h : Bool} (hm : mOp Q σ o (.call f xs h) = true)
    {H H' : Heap} {v : V} (hp : pureCall call f (argsV regs xs) H = some (v, H')) (hH : HExt H' X.H) : OpSteps Q σ X o a v X.H := by
  obtain ⟨c, ho, hc, hxs⟩ := op_of_mCall hm
  have ha := mAs_ok hR hxs
  have hen := (pure_ok hC hS hB hp hH ha []).1
  refine OpSteps.of_enter (notDefer ho) (f := σ f) (us := c.args.map a.eval) ?_ fun cs => ?_
  · rw [run_callVal ho hc (fn := .func (σ f)) (fst := #[]) (cap := #[]) rfl, run_invoke_fn hen]; simp
  · obtain ⟨_, fr, X', u, h1, h2, h3, _⟩ := pure_ok hC hS hB hp hH ha cs
    exact ⟨fr, X', u, by rw [Array.toArray_toList] at h1; exact h1, h2, h3⟩

/-- The same, with what it leaves where it was. -/
theorem callPure_rho (hC : CallOK Q σ call) (hS : SR Q σ X) (hB : X.B ≤ X.w.heap.size) {a : Act} {regs : T} (hR : RR σ X regs a.tmps) {o : Oper} {f : Nat} {xs : List Arg} {h : Bool} (hm : mOp Q σ o (.call f xs h) = true)
    {H H' : Heap} {v : V} (hp : pureCall call f (argsV regs xs) H = some (v, H')) (hH : HExt H' X.H)
    (b : Frame) (ops : Array Oper) (i : Nat) (rest : List Nat) (k : List Item) (cs : List Frame) (hoi : ops[i]? = some o) (hw : Region.wanted o (yielded ops a.tmps) = true) :
    ∃ X' u, Steps Q (lone (b.atR a (.inRegion ops (i :: rest) :: k)) cs X.w) (lone (b.atR (a.put o.dst u) (.inRegion ops rest :: k)) cs X'.w) ∧ Post Q σ X v X.H X' u ∧ X'.rho = X.rho := by
  obtain ⟨c, ho, hc, hxs⟩ := op_of_mCall hm
  have ha := mAs_ok hR hxs
  obtain ⟨hen, fr, X', u, h1, ⟨l1, l2, l3, l4, fn, l5, l6⟩, h3, h4⟩ := pure_ok hC hS hB hp hH ha (b.atR a (.inRegion ops (i :: rest) :: k) :: cs)
  rw [Array.toArray_toList] at h1
  have hrun : (execOp a.eval o).run Q X.w = .ok (.enter (σ f) (c.args.map a.eval)) X.w := by
    rw [run_callVal ho hc (fn := .func (σ f)) (fst := #[]) (cap := #[]) rfl, run_invoke_fn hen]; simp
  refine ⟨X', u, .head (step_lone_go (fr' := Frame.enter Q (σ f) (c.args.map a.eval) .normal) (cs' := b.atR a (.inRegion ops (i :: rest) :: k) :: cs) (w' := X.w) ?_) (h1.trans (.one ?_)), h3, h4⟩
  · rw [stepGR_op hoi hw, Oper.semAt_eq _ _ _ (notDefer ho)]
    simp [stepG.apply, Sem.runT_eq, hrun, Frame.atR]
  · have hfin := Frame.finish_atR b a ops i rest k u
    rw [hoi] at hfin
    simp only [Option.bind_some] at hfin
    rw [← hfin]
    exact step_leave_returned ⟨l1, l2, l3, fn, by rw [l4]; exact l5, l6⟩

/-- A call of a known function on the shared heap, in its frame. -/
theorem callHeap_ok (hC : CallOK Q σ call) (hS : SR Q σ X) (hB : X.B ≤ X.w.heap.size) {a : Act} {regs : T} (hR : RR σ X regs a.tmps) {o : Oper} {f : Nat} {xs : List Arg} {h : Bool} (hm : mOp Q σ o (.call f xs h) = true)
    {H' : Heap} {v : V} (hp : call (.fn f) (argsV regs xs) X.H = some (v, H')) : OpSteps Q σ X o a v H' := by
  obtain ⟨c, ho, hc, hxs⟩ := op_of_mCall hm
  have ha := mAs_ok hR hxs
  have hen := hC.enters _ _ _ _ hp
  refine OpSteps.of_enter (notDefer ho) (f := σ f) (us := c.args.map a.eval) ?_ fun cs => ?_
  · rw [run_callVal ho hc (fn := .func (σ f)) (fst := #[]) (cap := #[]) rfl, run_invoke_fn hen]; simp
  · obtain ⟨fr, X', u, h1, h2, h3⟩ := hC.fn _ _ _ _ _ hp X _ .normal cs rfl hS hB ha (.inl rfl)
    exact ⟨fr, X', u, by rw [Array.toArray_toList] at h1; exact h1, h2, h3⟩

/-- A call of a function value, in its frame. -/
theorem calld_ok (hC : CallOK Q σ call) (hS : SR Q σ X) (hB : X.B ≤ X.w.heap.size) {a : Act} {regs : T} (hR : RR σ X regs a.tmps) {o : Oper} {x : Arg} {xs : List Arg} {h : Bool} (hm : mOp Q σ o (.calld x xs h) = true)
    {H' : Heap} {v : V} {c : Callee} {args : List V} (hcal : calleeV (x.ev regs) (argsV regs xs) = some (c, args)) (hp : call c args X.H = some (v, H')) : OpSteps Q σ X o a v H' := by
  obtain ⟨cl, y, ho, hc, hy, hxs⟩ := op_of_mCalld hm
  have ha := mAs_ok hR hxs
  have hv := calleeV_ok hcal (mA_ok hR hy) ha
  cases c with
  | fn f =>
    obtain ⟨fst, cap, hv1, hv2⟩ := hv
    have hen := hC.enters _ _ _ _ hp
    refine OpSteps.of_enter (notDefer ho) (f := σ f) (us := fst.toArray ++ cl.args.map a.eval ++ cap.toArray) ?_ fun cs => ?_
    · rw [run_callVal ho hc hv1, run_invoke_fn hen]
    · obtain ⟨fr, X', u, h1, h2, h3⟩ := hC.fn _ _ _ _ _ hp X _ .normal cs rfl hS hB hv2 (.inl rfl)
      refine ⟨fr, X', u, ?_, h2, h3⟩
      have e : (fst ++ (cl.args.map a.eval).toList ++ cap).toArray = fst.toArray ++ cl.args.map a.eval ++ cap.toArray := by simp
      rw [e] at h1; exact h1
  | yield b =>
    obtain ⟨rfl, L, hL, hv1⟩ := hv
    have key := fun c cs => hC.yield b _ _ _ _ hp X _ c cs L rfl hS hB ha hL
    obtain ⟨f, tmps, as, bd, _, _, hrun, _⟩ := key default []
    refine OpSteps.of_round (notDefer ho) (l := L.c) (f := f) (tmps := tmps) (as := as) (bd := bd) ?_ fun c cs => ?_
    · rw [run_callVal ho hc hv1, Array.empty_append]; rw [Array.toArray_toList] at hrun; exact hrun
    · obtain ⟨f', tmps', as', bd', X', u, hrun', h1, h2⟩ := key c cs
      rw [hrun] at hrun'
      simp only [Result.ok.injEq, Next.round.injEq, true_and, and_true] at hrun'
      obtain ⟨rfl, rfl, rfl, rfl⟩ := hrun'
      exact ⟨X', u, h1, h2⟩

end Km
end

section
namespace Km
open Go

variable {Q : Program} {σ : Nat → FuncId} {X : Wd} {call : CallF}

/-- A deferred call, or the mark of a loop's deferred calls. -/
def DefR (σ : Nat → FuncId) (X : Wd) : ADef → Deferred → Prop
  | .coll b, d => ∃ L o, X.rho b = some L ∧ X.H[b]? = some (.dfr o) ∧ d = { target := .collected L.c, args := #[] }
  | .fn f args, d => ∃ us cap : Array Value, d = { target := .fn (.func (σ f)) cap, args := us } ∧ A2 (VR σ X) args (us.toList ++ cap.toList)

theorem DefR.extW' {X X' : Wd} (hx : ExtW X.H.length X X') {x : ADef} {d : Deferred} (h : DefR σ X x d) : DefR σ X' x d := by
  cases x with
  | coll b =>
    obtain ⟨L, o, h1, h2, h3⟩ := h
    obtain ⟨blk', h4, h5⟩ := hx.keep b (List.getElem?_eq_some_iff.1 h2).1 _ h2
    cases blk' <;> simp only at h5
    exact ⟨L, _, h5 L h1, h4, h3⟩
  | fn f args =>
    obtain ⟨us, cap, h1, h2⟩ := h
    exact ⟨us, cap, h1, h2.imp fun _ _ h => VR.extW' σ hx h⟩

def DefsR (σ : Nat → FuncId) (X : Wd) (ds : List ADef) (ms : List Deferred) : Prop := A2 (DefR σ X) ds ms

theorem DefR.ext' {X X' : Wd} (hx : Ext X.H.length X X') {x : ADef} {d : Deferred} (h : DefR σ X x d) : DefR σ X' x d := DefR.extW' hx.W h
theorem DefsR.extW' {X X' : Wd} (hx : ExtW X.H.length X X') {ds : List ADef} {ms : List Deferred} (h : DefsR σ X ds ms) : DefsR σ X' ds ms := h.imp fun _ _ h => DefR.extW' hx h
theorem DefsR.ext' {X X' : Wd} (hx : Ext X.H.length X X') {ds : List ADef} {ms : List Deferred} (h : DefsR σ X ds ms) : DefsR σ X' ds ms := h.imp fun _ _ h => DefR.ext' hx h

/-- An operation in its frame, with the deferred calls. -/
def OpStepsD (Q : Program) (σ : Nat → FuncId) (X : Wd) (o : Oper) (a : Act) (ok : Frame → Prop) (v : V) (H' : Heap) (ds : List ADef) : Prop :=
  ∀ (b : Frame) (ops : Array Oper) (i : Nat) (rest : List Nat) (k : List Item) (cs : List Frame), ops[i]? = some o → Region.wanted o (yielded ops a.tmps) = true → okFrame b cs → ok b →
    ∃ (X' : Wd) (u : Value) (a' : Act), Steps Q (lone (b.atR a (.inRegion ops (i :: rest) :: k)) cs X.w) (lone (b.atR (a'.put o.dst u) (.inRegion ops rest :: k)) cs X'.w) ∧ Post Q σ X v H' X' u ∧ a'.tmps = a.tmps ∧ DefsR σ X' ds a'.defers

theorem OpSteps.withD {o : Oper} {a : Act} {v : V} {H' : Heap} (h : OpSteps Q σ X o a v H') {ds : List ADef} (hd : DefsR σ X ds a.defers) {ok : Frame → Prop} : OpStepsD Q σ X o a ok v H' ds := by
  intro b ops i rest k cs ho hw hk _
  obtain ⟨X', u, h1, h2⟩ := h b ops i rest k cs ho hw hk
  exact ⟨X', u, a, h1, h2, rfl, hd.ext' h2.2.2.2.1⟩

theorem OpSteps.ahead (hS : SR Q σ X) {H1 H' : Heap} (hH : HExt X.H H1) {o : Oper} {a : Act} {v : V} (h : OpSteps Q σ { X with H := H1 } o a v H') : OpSteps Q σ X o a v H' := by
  intro b ops i rest k cs ho hw hk
  obtain ⟨X', u, h1, h2, h3, h4, h5, h6⟩ := h b ops i rest k cs ho hw hk
  exact ⟨X', u, h1, h2, h3, h4, (SR.ahead hS hH).2.trans (h5.mono hH.len), h6⟩

/-- In a frame that is no round. -/
def noRound (op : AOp) (b : Frame) : Prop := b.roundOf = none ∨ op.roundOK = true

theorem recover_ok (hS : SR Q σ X) (hB : X.B ≤ X.w.heap.size) {a : Act} {o : Oper} (hm : mOp Q σ o .recover = true) {ds : List ADef} (hd : DefsR σ X ds a.defers) : OpStepsD Q σ X o a (noRound .recover) (.c (.f .nili)) X.H ds := by
  intro b ops i rest k cs ho hw hk hr
  have hr : b.roundOf = none := hr.elim id fun h => by simp [AOp.roundOK] at h
  simp only [mOp] at hm
  split at hm
  · rename_i c hc
    simp only [mCall] at hm
    split at hm
    · rename_i hcal
      have hrun : (execOp a.eval o).run Q X.w = .ok .recover X.w := by
        simp [execOp, hc, resolve, hcal, invoke, builtin]
      refine ⟨X, .nilIface, a, .one (step_lone_go ?_), ⟨rfl, hS, FCR.nili, Ext.refl _ _, hB⟩, rfl, hd⟩
      rw [stepGR_op ho hw, Oper.semAt_eq _ _ _ (notDefer hc)]
      have hfin := Frame.finish_atR b a ops i rest k .nilIface
      rw [ho] at hfin
      simp only [Option.bind_some] at hfin
      rw [← hfin]
      have hno : tryRecover (b.atR a (.inRegion ops (i :: rest) :: k)) cs = none := okKind.noRecover hk
      have hro : (b.atR a (.inRegion ops (i :: rest) :: k)).roundOf = none := hr
      simp [stepG.apply, Sem.runT_eq, hrun, hno, hro]
    · simp at hm
  · simp at hm

theorem defer_ok (hS : SR Q σ X) (hB : X.B ≤ X.w.heap.size) {a : Act} {regs : T} (hR : RR σ X regs a.tmps) {o : Oper} {x : Arg} {xs : List Arg} (hm : mOp Q σ o (.defer x xs) = true) {ds : List ADef} (hd : DefsR σ X ds a.defers)
    {f : Nat} {args : List V} (hc : calleeV (x.ev regs) (argsV regs xs) = some (.fn f, args)) : OpStepsD Q σ X o a (noRound (.defer x xs)) .top X.H (.fn f args :: ds) := by
  intro b ops i rest k cs ho hw hk hr
  have hr : b.roundOf = none := hr.elim id fun h => by simp [AOp.roundOK] at h
  simp only [mOp] at hm
  split at hm
  · rename_i c hcop
    split at hm
    · rename_i y hy
      simp only [Bool.and_eq_true] at hm
      have hv := calleeV_ok hc (mA_ok hR hm.1) (mAs_ok hR hm.2)
      obtain ⟨fst, cap, hv1, hv2⟩ := hv
      have hrun : (execOp a.eval o).run Q X.w = .ok (.defer { target := .fn (.func (σ f)) cap.toArray, args := fst.toArray ++ c.args.map a.eval }) X.w := by
        simp [execOp, hcop, resolve, hy, hv1, Deferred.ofValue]
      refine ⟨X, undef, { a with defers := { target := .fn (.func (σ f)) cap.toArray, args := fst.toArray ++ c.args.map a.eval } :: a.defers }, .one (step_lone_go ?_), ⟨rfl, hS, trivial, Ext.refl _ _, hB⟩, rfl, A2.cons ⟨_, _, rfl, by simpa using hv2⟩ hd⟩
      rw [stepGR_op ho hw, hr, Oper.semAt_none]
      have hfin := Frame.finish_atR b { a with defers := { target := .fn (.func (σ f)) cap.toArray, args := fst.toArray ++ c.args.map a.eval } :: a.defers } ops i rest k undef
      rw [ho] at hfin
      simp only [Option.bind_some] at hfin
      rw [← hfin]
      simp [stepG.apply, Sem.runT_eq, hrun, Frame.atR]
    · simp at hm
  · simp at hm

theorem mOp_notDefer {o : Oper} {op : AOp} (hm : mOp Q σ o op = true) (h1 : ∀ x xs, op ≠ .defer x xs) (h2 : op ≠ .bad) : ∀ c, o.op ≠ .defer c := by
  intro c hc
  cases op
  case pre o sz => cases o <;> simp [mOp, hc] at hm
  case defer x xs => exact h1 _ _ rfl
  case bad => exact h2 rfl
  all_goals simp [mOp, hc] at hm

/-- **One operation, in the order of the text.** -/
theorem xOne_ok (hC : CallOK Q σ call) (hS : SR Q σ X) (hB : X.B ≤ X.w.heap.size) {a : Act} {s s' : St} (hH : X.H = s.heap) (hR : RR σ X s.regs a.tmps) (hd : DefsR σ X s.defs a.defers) {o : Oper} {op : AOp} (hm : mOp Q σ o op = true) {v : V}
    (h : xOne call s op = some (v, s')) : OpStepsD Q σ X o a (noRound op) v s'.heap s'.defs ∧ s'.regs = s.regs := by
  by_cases hp : (∃ f xs h, op = .call f xs h) ∨ (∃ x xs h, op = .calld x xs h) ∨ op = .recover ∨ ∃ x xs, op = .defer x xs
  · rcases hp with ⟨f, xs, hh, rfl⟩ | ⟨x, xs, hh, rfl⟩ | rfl | ⟨x, xs, rfl⟩
    · simp only [xOne, Option.map_eq_some_iff, Prod.mk.injEq] at h
      obtain ⟨⟨v', H'⟩, h1, rfl, rfl⟩ := h
      refine ⟨OpSteps.withD ?_ hd, rfl⟩
      unfold oneCall at h1
      split at h1
      · exact callHeap_ok hC hS hB hR hm (hH ▸ h1)
      · have hle : HExt X.H H' := by
          have h1' := h1
          unfold pureCall at h1'
          split at h1'
          · simp at h1'
          · split at h1'
            · simp at h1'
            · split at h1'
              · simp at h1'
              · simp only [Option.some.injEq, Prod.mk.injEq] at h1'
                rw [← h1'.2, hH]
                exact (mkVs_le _ _ _).ext
        obtain ⟨g1, g2⟩ := SR.ahead hS hle
        refine OpSteps.ahead hS hle ?_
        exact callPure_ok hC (X := { X with H := H' }) g1 hB (hR.ext' σ g2) hm h1 (HExt.refl _)
    · simp only [xOne] at h
      split at h
      · rename_i c args hc
        simp only [Option.map_eq_some_iff, Prod.mk.injEq] at h
        obtain ⟨⟨v', H'⟩, h1, rfl, rfl⟩ := h
        exact ⟨OpSteps.withD (calld_ok hC hS hB hR hm hc (hH ▸ h1)) hd, rfl⟩
      · simp at h
    · simp only [xOne, Option.some.injEq, Prod.mk.injEq] at h
      obtain ⟨rfl, rfl⟩ := h
      rw [← hH]
      exact ⟨recover_ok hS hB hm hd, rfl⟩
    · simp only [xOne] at h
      split at h
      · rename_i f args hc
        simp only [Option.some.injEq, Prod.mk.injEq] at h
        obtain ⟨rfl, rfl⟩ := h
        refine ⟨?_, rfl⟩
        rw [← hH]
        exact defer_ok hS hB hR hm hd hc
      · simp at h
  · have hx : (xOp s.regs s.heap op).map (fun r => (r.1, { s with heap := r.2 })) = some (v, s') := by
      cases op <;> first | exact h | (exfalso; apply hp; simp)
    simp only [Option.map_eq_some_iff, Prod.mk.injEq] at hx
    obtain ⟨⟨v', H'⟩, h1, rfl, rfl⟩ := hx
    refine ⟨OpSteps.withD (OpSteps.of_ok (mOp_notDefer hm ?_ ?_) (xOp_ok hS hB hR hm (hH ▸ h1))) hd, rfl⟩
    · rintro x xs rfl; exact hp (.inr (.inr (.inr ⟨x, xs, rfl⟩)))
    · rintro rfl; simp [xOp] at h1

end Km
end

section
namespace Km
open Go

variable {Q : Program} {σ : Nat → FuncId} {X : Wd} {call : CallF}

/-- A frame's state stands for the frame. -/
structure Fr (Q : Program) (σ : Nat → FuncId) (n : Nat) (X : Wd) (s : St) (a : Act) : Prop where
  heap : X.H = s.heap
  sr : SR Q σ X
  b : X.B ≤ X.w.heap.size
  regs : RR σ X s.regs a.tmps
  defs : DefsR σ X s.defs a.defers
  size : n ≤ a.tmps.size

theorem wanted_ok {n : Nat} {ops : Array Oper} {o : Oper} {ao : AOper} (hm : mOper Q σ n ops o ao = true) {regs : T} {tmps : Array Value} (hR : ∀ p w', ao.g = some (p, w') → VR σ X (regs.get p) (tmps.getD p.toNat undef)) (hn : n ≤ tmps.size) {w : Bool} (h : wanted regs ao.g = some w) :
    Region.wanted o (yielded ops tmps) = w := by
  simp only [mOper, Bool.and_eq_true] at hm
  obtain ⟨_, hg⟩ := hm
  unfold Region.wanted
  cases hog : o.guard with
  | none =>
    rw [hog] at hg
    cases hag : ao.g with
    | none => rw [hag] at h; simp only [wanted, Option.some.injEq] at h; simpa using h
    | some q => rw [hag] at hg; simp at hg
  | some jw =>
    obtain ⟨j, wv⟩ := jw
    rw [hog] at hg
    cases hag : ao.g with
    | none => rw [hag] at hg; simp at hg
    | some q =>
      obtain ⟨p, w'⟩ := q
      rw [hag] at hg h
      simp only [Bool.and_eq_true, beq_iff_eq] at hg
      obtain ⟨rfl, hg⟩ := hg
      split at hg
      · rename_i d hd
        simp only [Bool.and_eq_true, beq_iff_eq, decide_eq_true_eq] at hg
        obtain ⟨hpd, hdn⟩ := hg
        have hv := hR p _ hag
        rw [hpd] at hv
        have hlt : d < tmps.size := Nat.lt_of_lt_of_le hdn hn
        have hget : tmps.getD d undef = tmps[d] := by simp [Array.getD, hlt]
        rw [hget] at hv
        simp only [wanted] at h
        simp only [yielded, hd, Option.bind_some, Array.getElem?_eq_getElem hlt]
        split at h
        · rename_i bv hb
          rw [hb] at hv
          simp only [Option.some.injEq] at h
          have hv' : FCR σ X.F X.w (.bool bv) tmps[d] := hv
          generalize tmps[d] = u at hv'
          cases hv'
          subst h; simp
        · rename_i hb
          rw [hb] at hv
          obtain ⟨us, hus, hl⟩ := hv
          simp only [Option.some.injEq] at h
          subst h
          rw [hus]; simp
        · simp at h
      · simp at hg

/-- Where the result goes. -/
theorem put_ok {n : Nat} {ops : Array Oper} {o : Oper} {ao : AOper} (hm : mOper Q σ n ops o ao = true) {regs : T} {a : Act} (hR : RR σ X regs a.tmps) (hn : n ≤ a.tmps.size) {v : V} {u : Value} (hv : VR σ X v u) :
    RR σ X (putR regs ao.dst v) (a.put o.dst u).tmps ∧ (a.put o.dst u).tmps.size = a.tmps.size ∧ (a.put o.dst u).defers = a.defers := by
  simp only [mOper, Bool.and_eq_true] at hm
  obtain ⟨⟨_, hd⟩, _⟩ := hm
  split at hd
  · rename_i d p h1 h2
    simp only [Bool.and_eq_true, beq_iff_eq, decide_eq_true_eq] at hd
    obtain ⟨rfl, hdn⟩ := hd
    rw [h1, h2]
    exact ⟨RR.set σ hR (Nat.lt_of_lt_of_le hdn hn) hv, by simp [Act.put], rfl⟩
  · rename_i h1 h2
    rw [h1, h2]
    exact ⟨hR, rfl, rfl⟩
  · simp at hd

theorem VR.undef : VR σ X (.t []) undef := ⟨[], rfl, A2.nil⟩

/-- **One operation and its guard, in the order of the text.** -/
theorem xStep_ok (hC : CallOK Q σ call) {n : Nat} {s s' : St} {a : Act} (hF : Fr Q σ n X s a) {ops : Array Oper} {o : Oper} {ao : AOper} (hm : mOper Q σ n ops o ao = true) (h : xStep call s ao = some s')
    {b : Frame} {i : Nat} {rest : List Nat} {k : List Item} {cs : List Frame} (ho : ops[i]? = some o) (hk : okFrame b cs) (hr : noRound ao.op b) :
    ∃ X' a', Steps Q (lone (b.atR a (.inRegion ops (i :: rest) :: k)) cs X.w) (lone (b.atR a' (.inRegion ops rest :: k)) cs X'.w) ∧ Fr Q σ n X' s' a' ∧ Ext X.H.length X X' ∧ a'.tmps.size = a.tmps.size := by
  unfold xStep at h
  split at h
  · rename_i hw
    have hw := wanted_ok hm (fun p w' _ => hF.regs p) hF.size hw
    split at h
    · rename_i v s1 h1
      simp only [Option.some.injEq] at h
      subst h
      have hmop : mOp Q σ o ao.op = true := by simp only [mOper, Bool.and_eq_true] at hm; exact hm.1.1
      obtain ⟨h2, h3⟩ := xOne_ok hC hF.sr hF.b hF.heap hF.regs hF.defs hmop h1
      obtain ⟨X', u, a', g1, ⟨g2, g3, g4, g5, g6⟩, g7, g8⟩ := h2 b ops i rest k cs ho hw hk hr
      obtain ⟨p1, p2, p3⟩ := put_ok hm (X := X') (a := a') (by rw [g7]; exact hF.regs.ext' σ g5) (by rw [g7]; exact hF.size) g4
      refine ⟨X', a'.put o.dst u, g1, ⟨g2, g3, g6, ?_, by rw [p3]; exact g8, by rw [p2, g7]; exact hF.size⟩, g5, by rw [p2, g7]⟩
      simpa [h3] using p1
    · simp at h
  · rename_i hw
    have hw := wanted_ok hm (fun p w' _ => hF.regs p) hF.size hw
    simp only [Option.some.injEq] at h
    subst h
    obtain ⟨p1, p2, p3⟩ := put_ok hm hF.regs hF.size (VR.undef (σ := σ) (X := X))
    refine ⟨X, a.put o.dst undef, .one ?_, ⟨hF.heap, hF.sr, hF.b, p1, by rw [p3]; exact hF.defs, by rw [p2]; exact hF.size⟩, Ext.refl _ _, p2⟩
    have := stepR_op_skip (P := Q) (b := b) (a := a) (k := k) (cs := cs) (w := X.w) (ops := ops) (i := i) (rest := rest) (by simp [ho, hw])
    rw [ho] at this
    exact this
  · simp at h

/-- The rest of a region in the order of its text. -/
theorem xOps_ok (hC : CallOK Q σ call) {n : Nat} {ops : Array Oper} {b : Frame} {k : List Item} {cs : List Frame} (hk : okFrame b cs) : ∀ (aos : List AOper) (j : Nat) (X : Wd) (s s' : St) (a : Act), Fr Q σ n X s a →
    all2 (mOper Q σ n ops) (ops.toList.drop j) aos = true → (∀ ao ∈ aos, noRound ao.op b) → xOps call aos s = some s' →
    ∃ X' a', Steps Q (lone (b.atR a (.inRegion ops ((List.range ops.size).drop j) :: k)) cs X.w) (lone (b.atR a' k) cs X'.w) ∧ Fr Q σ n X' s' a' ∧ Ext X.H.length X X' ∧ a'.tmps.size = a.tmps.size
  | [], j, X, s, s', a, hF, hm, _, h => by
    simp only [xOps, Option.some.injEq] at h; subst h
    have hl : (List.range ops.size).drop j = [] := by
      cases hd : ops.toList.drop j with
      | nil =>
        have := List.drop_eq_nil_iff.1 hd
        simp at this
        rw [List.drop_eq_nil_iff]; simpa using this
      | cons x xs => rw [hd] at hm; simp [all2] at hm
    rw [hl]
    exact ⟨X, a, .one stepR_region_end, hF, Ext.refl _ _, rfl⟩
  | ao :: aos, j, X, s, s', a, hF, hm, hr, h => by
    cases hd : ops.toList.drop j with
    | nil => rw [hd] at hm; simp [all2] at hm
    | cons o os =>
      rw [hd] at hm
      simp only [all2, Bool.and_eq_true] at hm
      have hj : j < ops.toList.length := by
        rcases Nat.lt_or_ge j ops.toList.length with h1 | h1
        · exact h1
        · rw [List.drop_eq_nil_iff.2 h1] at hd; simp at hd
      have hdr := List.drop_eq_getElem_cons hj
      rw [hd] at hdr
      simp only [List.cons.injEq] at hdr
      obtain ⟨ho, hos⟩ := hdr
      simp only [xOps] at h
      split at h
      · rename_i s1 h1
        have hlist : (List.range ops.size).drop j = j :: (List.range ops.size).drop (j + 1) := by
          rw [List.drop_eq_getElem_cons (by simpa using hj)]; simp
        rw [hlist]
        obtain ⟨X1, a1, g1, g2, g3, g4⟩ := xStep_ok hC hF hm.1 h1 (b := b) (i := j) (rest := (List.range ops.size).drop (j + 1)) (k := k) (cs := cs) (by simp at hj; simp [hj, ho]) hk (hr _ (by simp))
        obtain ⟨X2, a2, k1, k2, k3, k4⟩ := xOps_ok hC hk aos (j + 1) X1 s1 s' a1 g2 (by rw [← hos]; exact hm.2) (fun ao h => hr ao (by simp [h])) h
        refine ⟨X2, a2, g1.trans k1, k2, g3.trans (k3.mono ?_), k4.trans g4⟩
        have := g3.keep
        rcases Nat.lt_or_ge X1.H.length X.H.length with hlt | hge
        · obtain ⟨blk', hb', _⟩ := g3.keep X1.H.length hlt _ (List.getElem?_eq_getElem hlt)
          have := (List.getElem?_eq_some_iff.1 hb').1; omega
        · exact hge
      · simp at h

end Km
end

section
namespace Km
open Go

theorem ev_congr {r r' : T} {x : Arg} (h : ∀ p ∈ x.rd, r.get p = r'.get p) : x.ev r = x.ev r' := by
  cases x with
  | r p => exact h p (by simp [Arg.rd])
  | k v => rfl

theorem oev_congr {r r' : T} {x : Option Arg} (h : ∀ p ∈ oRd x, r.get p = r'.get p) : x.map (·.ev r) = x.map (·.ev r') := by
  cases x with
  | none => rfl
  | some x => simp only [Option.map_some]; rw [ev_congr h]

theorem argsV_congr {r r' : T} {xs : List Arg} (h : ∀ p ∈ xs.flatMap Arg.rd, r.get p = r'.get p) : argsV r xs = argsV r' xs := by
  unfold argsV
  refine List.map_congr_left fun x hx => ev_congr fun p hp => h p (List.mem_flatMap.2 ⟨x, hx, hp⟩)

theorem partsV_congr {r r' : T} : ∀ (ps : List (Nat × Nat × Arg)) (cs : List C), (∀ p ∈ ps.flatMap (fun q => q.2.2.rd), r.get p = r'.get p) → partsV r cs ps = partsV r' cs ps
  | [], cs, _ => rfl
  | (off, n, x) :: ps, cs, h => by
    simp only [partsV]
    rw [ev_congr (x := x) (r := r) (r' := r') fun p hp => h p (by simp [hp])]
    split
    · split
      · exact partsV_congr ps _ fun p hp => h p (by simp only [List.flatMap_cons, List.mem_append]; exact .inr hp)
      · rfl
    · rfl

theorem xOp_rd {r r' : T} {H : Heap} {op : AOp} (h : ∀ p ∈ op.rd, r.get p = r'.get p) : xOp r H op = xOp r' H op := by
  have e : ∀ x : Arg, (∀ p ∈ x.rd, p ∈ op.rd) → x.ev r = x.ev r' := fun x hx => ev_congr fun p hp => h p (hx p hp)
  have oe : ∀ x : Option Arg, (∀ p ∈ oRd x, p ∈ op.rd) → x.map (·.ev r) = x.map (·.ev r') := fun x hx => oev_congr fun p hp => h p (hx p hp)
  cases op
  case build zs ps => simp only [xOp]; rw [partsV_congr ps _ h]
  case bslice sz zs n ps =>
    simp only [xOp]
    rw [partsV_congr (r := r) (r' := r') (ps.map fun p => (p.1 * sz, sz, p.2)) _ fun p hp => h p (by
      simp only [List.mem_flatMap, List.mem_map] at hp
      obtain ⟨q, ⟨q', hq', rfl⟩, hq⟩ := hp
      exact List.mem_flatMap.2 ⟨q', hq', hq⟩)]
  case mkfn f xs => simp only [xOp]; rw [argsV_congr h]
  case pick c a b =>
    simp only [xOp]
    rw [e c (by simp +contextual [AOp.rd])]
    split
    · rename_i v _; cases v <;> simp [e a (by simp +contextual [AOp.rd]), e b (by simp +contextual [AOp.rd])]
    · rfl
  case slice sz x lo hi mx => simp only [xOp]; rw [e x (by simp +contextual [AOp.rd]), oe lo (by simp +contextual [AOp.rd]), oe hi (by simp +contextual [AOp.rd]), oe mx (by simp +contextual [AOp.rd])]
  case slarr n sz x lo hi mx => simp only [xOp]; rw [e x (by simp +contextual [AOp.rd]), oe lo (by simp +contextual [AOp.rd]), oe hi (by simp +contextual [AOp.rd]), oe mx (by simp +contextual [AOp.rd])]
  case slstr x lo hi => simp only [xOp]; rw [e x (by simp +contextual [AOp.rd]), oe lo (by simp +contextual [AOp.rd]), oe hi (by simp +contextual [AOp.rd])]
  case mapup ck m k v => simp only [xOp]; rw [e m (by simp +contextual [AOp.rd]), e k (by simp +contextual [AOp.rd]), e v (by simp +contextual [AOp.rd])]
  case mov x => simp only [xOp]; rw [e x (by simp +contextual [AOp.rd])]
  case box x => simp only [xOp]; rw [e x (by simp +contextual [AOp.rd])]
  case load n x => simp only [xOp]; rw [e x (by simp +contextual [AOp.rd])]
  case nilchk x => simp only [xOp]; rw [e x (by simp +contextual [AOp.rd])]
  case un o x => simp only [xOp]; rw [e x (by simp +contextual [AOp.rd])]
  case cvi k x => simp only [xOp]; rw [e x (by simp +contextual [AOp.rd])]
  case cvid x => simp only [xOp]; rw [e x (by simp +contextual [AOp.rd])]
  case cvbs x => simp only [xOp]; rw [e x (by simp +contextual [AOp.rd])]
  case cvsb x => simp only [xOp]; rw [e x (by simp +contextual [AOp.rd])]
  case fieldA o x => simp only [xOp]; rw [e x (by simp +contextual [AOp.rd])]
  case field o n x => simp only [xOp]; rw [e x (by simp +contextual [AOp.rd])]
  case range x => simp only [xOp]; rw [e x (by simp +contextual [AOp.rd])]
  case next x => simp only [xOp]; rw [e x (by simp +contextual [AOp.rd])]
  case extract x i => simp only [xOp]; rw [e x (by simp +contextual [AOp.rd])]
  case len x => simp only [xOp]; rw [e x (by simp +contextual [AOp.rd])]
  case lens x => simp only [xOp]; rw [e x (by simp +contextual [AOp.rd])]
  case cap x => simp only [xOp]; rw [e x (by simp +contextual [AOp.rd])]
  case entry x => simp only [xOp]; rw [e x (by simp +contextual [AOp.rd])]
  case rangem x => simp only [xOp]; rw [e x (by simp +contextual [AOp.rd])]
  case nextm x => simp only [xOp]; rw [e x (by simp +contextual [AOp.rd])]
  case clear s z x => simp only [xOp]; rw [e x (by simp +contextual [AOp.rd])]
  case maxs lo xs => simp only [xOp]; rw [argsV_congr h]
  case mkbm f xs => simp only [xOp]; rw [argsV_congr h]
  case appz s b z x y => simp only [xOp]; rw [e x (by simp +contextual [AOp.rd]), e y (by simp +contextual [AOp.rd])]
  case store n x y => simp only [xOp]; rw [e x (by simp +contextual [AOp.rd]), e y (by simp +contextual [AOp.rd])]
  case bin o x y => simp only [xOp]; rw [e x (by simp +contextual [AOp.rd]), e y (by simp +contextual [AOp.rd])]
  case eq n k x y => simp only [xOp]; rw [e x (by simp +contextual [AOp.rd]), e y (by simp +contextual [AOp.rd])]
  case indexA s a x y => simp only [xOp]; rw [e x (by simp +contextual [AOp.rd]), e y (by simp +contextual [AOp.rd])]
  case idxs x y => simp only [xOp]; rw [e x (by simp +contextual [AOp.rd]), e y (by simp +contextual [AOp.rd])]
  case idxa l s n x y => simp only [xOp]; rw [e x (by simp +contextual [AOp.rd]), e y (by simp +contextual [AOp.rd])]
  case append s b x y => simp only [xOp]; rw [e x (by simp +contextual [AOp.rd]), e y (by simp +contextual [AOp.rd])]
  case copy s x y => simp only [xOp]; rw [e x (by simp +contextual [AOp.rd]), e y (by simp +contextual [AOp.rd])]
  case lookup c z x y => simp only [xOp]; rw [e x (by simp +contextual [AOp.rd]), e y (by simp +contextual [AOp.rd])]
  case mkslice s b z x y => simp only [xOp]; rw [e x (by simp +contextual [AOp.rd]), e y (by simp +contextual [AOp.rd])]
  all_goals rfl

theorem xOne_rd {call : CallF} {s : St} {r' : T} {op : AOp} (h : ∀ p ∈ op.rd, s.regs.get p = r'.get p) {v : V} {s' : St} (hx : xOne call s op = some (v, s')) : xOne call { s with regs := r' } op = some (v, { s' with regs := r' }) := by
  by_cases hp : (∃ f xs h, op = .call f xs h) ∨ (∃ x xs h, op = .calld x xs h) ∨ op = .recover ∨ ∃ x xs, op = .defer x xs
  · rcases hp with ⟨f, xs, hh, rfl⟩ | ⟨x, xs, hh, rfl⟩ | rfl | ⟨x, xs, rfl⟩
    · simp only [xOne, Option.map_eq_some_iff, Prod.mk.injEq] at hx ⊢
      obtain ⟨q, h1, rfl, rfl⟩ := hx
      rw [argsV_congr h] at h1
      exact ⟨q, h1, rfl, rfl⟩
    · simp only [xOne] at hx ⊢
      rw [ev_congr (x := x) (r := s.regs) (r' := r') (fun p hp => h p (by simp [AOp.rd, hp])), argsV_congr (xs := xs) (r := s.regs) (r' := r') (fun p hp => h p (by simp only [AOp.rd, List.mem_append]; exact .inr hp))] at hx
      split at hx
      · simp only [Option.map_eq_some_iff, Prod.mk.injEq] at hx ⊢
        obtain ⟨q, h1, rfl, rfl⟩ := hx
        exact ⟨q, h1, rfl, rfl⟩
      · simp at hx
    · simp only [xOne, Option.some.injEq, Prod.mk.injEq] at hx ⊢
      obtain ⟨rfl, rfl⟩ := hx
      exact ⟨rfl, rfl⟩
    · simp only [xOne] at hx ⊢
      rw [ev_congr (x := x) (r := s.regs) (r' := r') (fun p hp => h p (by simp [AOp.rd, hp])), argsV_congr (xs := xs) (r := s.regs) (r' := r') (fun p hp => h p (by simp only [AOp.rd, List.mem_append]; exact .inr hp))] at hx
      split at hx
      · simp only [Option.some.injEq, Prod.mk.injEq] at hx ⊢
        obtain ⟨rfl, rfl⟩ := hx
        exact ⟨rfl, rfl⟩
      · simp at hx
  · have hx1 : (xOp s.regs s.heap op).map (fun r => (r.1, { s with heap := r.2 })) = some (v, s') := by
      cases op <;> first | exact hx | (exfalso; apply hp; simp)
    have hx2 : xOne call { s with regs := r' } op = (xOp r' s.heap op).map (fun r => (r.1, { s with regs := r', heap := r.2 })) := by
      cases op <;> first | rfl | (exfalso; apply hp; simp)
    rw [hx2, ← xOp_rd h]
    simp only [Option.map_eq_some_iff, Prod.mk.injEq] at hx1 ⊢
    obtain ⟨q, h1, rfl, rfl⟩ := hx1
    exact ⟨q, h1, rfl, rfl⟩

/-- What only reads slots. -/
theorem xOp_p {r : T} {op : AOp} (hc : cls op = .p) (H H' : Heap) : xOp r H' op = (xOp r H op).map fun q => (q.1, H') := by
  cases op <;> simp only [cls, reduceCtorEq] at hc <;> simp only [xOp]
  all_goals first
    | (simp [Function.comp_def]; done)
    | (split <;> simp [Function.comp_def]; done)
    | (split <;> (first | rfl | (split <;> rfl)))

end Km
end

section
namespace Km
open Go

/-- For a heap read at b: the later heap reads alike. -/
theorem ext_cases {H H' : Heap} (hH : HExt H H') (b : Nat) : H[b]? = none ∨ (∃ cs fl fl', H[b]? = some (.box cs fl) ∧ H'[b]? = some (.box cs fl')) ∨
    (∃ s cs fl fl' e st, H[b]? = some (.opn s cs fl e st) ∧ H'[b]? = some (.opn s cs fl' e st)) ∨ ∃ blk, H[b]? = some blk ∧ H'[b]? = some blk := by
  cases hb : H[b]? with
  | none => exact .inl rfl
  | some blk =>
    obtain ⟨blk', hb', hl⟩ := hH b _ hb
    cases blk <;> cases blk' <;> simp only [blkLe, reduceCtorEq] at hl
    · obtain ⟨rfl, _⟩ := hl; exact .inr (.inl ⟨_, _, _, rfl, hb'⟩)
    · obtain ⟨rfl, rfl, _, rfl, rfl⟩ := hl; exact .inr (.inr (.inl ⟨_, _, _, _, _, _, rfl, hb'⟩))
    all_goals (rw [← hl] at hb'; exact .inr (.inr (.inr ⟨_, rfl, hb'⟩)))

variable {H H' : Heap}

theorem cellsAt_ext (hH : HExt H H') {x : C} {cs : List C} (h : cellsAt H x = some cs) : cellsAt H' x = some cs := by
  cases x with
  | ptr b off ep =>
    simp only [cellsAt] at h ⊢
    rcases ext_cases hH b with e | ⟨cs, fl, fl', e, e'⟩ | ⟨s, cs, fl, fl', e0, st, e, e'⟩ | ⟨blk, e, e'⟩
    · simp [e] at h
    · rw [e] at h; rw [e']; exact h
    · rw [e] at h; rw [e']; cases st <;> exact h
    · rw [e] at h; rw [e']; exact h
  | f x => cases x <;> exact h
  | _ => simp [cellsAt] at h

theorem ldV_ext (hH : HExt H H') {n : Option Nat} {x : V} {v : V} (h : ldV H n x = some v) : ldV H' n x = some v := by
  cases x with
  | c x =>
    simp only [ldV, Option.bind_eq_some_iff] at h ⊢
    obtain ⟨cs, h1, h2⟩ := h
    exact ⟨cs, cellsAt_ext hH h1, h2⟩
  | _ => simp [ldV] at h

theorem slLen_ext (hH : HExt H H') {x : C} {n : Nat} (h : slLen H x = some n) : slLen H' x = some n := by
  cases x with
  | sl b o l c ep sz =>
    simp only [slLen] at h ⊢
    rcases ext_cases hH b with e | ⟨cs, fl, fl', e, e'⟩ | ⟨s, cs, fl, fl', e0, st, e, e'⟩ | ⟨blk, e, e'⟩
    · simp [e] at h
    all_goals (rw [e] at h; rw [e']; exact h)
  | f x => cases x <;> exact h
  | _ => simp [slLen] at h

theorem slCells_ext (hH : HExt H H') {sz : Nat} {x : C} {cs : List C} (h : slCells H sz x = some cs) : slCells H' sz x = some cs := by
  cases x with
  | sl b o l c ep s =>
    simp only [slCells] at h ⊢
    rcases ext_cases hH b with e | ⟨cs, fl, fl', e, e'⟩ | ⟨s, cs, fl, fl', e0, st, e, e'⟩ | ⟨blk, e, e'⟩
    · simp [e] at h
    all_goals (rw [e] at h; rw [e']; exact h)
  | f x => cases x <;> exact h
  | _ => simp [slCells] at h

theorem isNil_ext (hH : HExt H H') {k : EqK} {x : C} {b : Bool} (h : isNil H k x = some b) : isNil H' k x = some b := by
  cases k <;> cases x <;> first | exact h | (simp [isNil] at h; done) | skip
  case sl.sl bb o l c ep s =>
    simp only [isNil] at h ⊢
    rcases ext_cases hH bb with e | ⟨cs, fl, fl', e, e'⟩ | ⟨s, cs, fl, fl', e0, st, e, e'⟩ | ⟨blk, e, e'⟩
    · simp [e] at h
    all_goals (rw [e] at h; rw [e']; exact h)
  all_goals (rename_i y; cases y <;> exact h)

theorem eqV_ext (hH : HExt H H') {k : EqK} {x y : V} {b : Bool} (h : eqV H k x y = some b) : eqV H' k x y = some b := by
  unfold eqV at h
  split at h
  · exact h
  · exact h
  · exact isNil_ext hH h
  · exact isNil_ext hH h
  · exact isNil_ext hH h
  · exact isNil_ext hH h
  · simp at h

theorem sliceV_ext (hH : HExt H H') {sz : Nat} {x : V} {lo hi mx : Option V} {v : V} (h : sliceV H sz x lo hi mx = some v) : sliceV H' sz x lo hi mx = some v := by
  unfold sliceV at h
  split at h
  · exact h
  · exact h
  · exact h
  · rename_i b o n cap ep s
    simp only [sliceV]
    rcases ext_cases hH b with e | ⟨cs, fl, fl', e, e'⟩ | ⟨s, cs, fl, fl', e0, st, e, e'⟩ | ⟨blk, e, e'⟩
    · simp [e] at h
    all_goals (rw [e] at h; rw [e']; exact h)
  · simp at h

theorem slarrV_ext (hH : HExt H H') {n sz : Nat} {x : V} {lo hi mx : Option V} {v : V} (h : slarrV H n sz x lo hi mx = some v) : slarrV H' n sz x lo hi mx = some v := by
  unfold slarrV at h
  split at h
  · rename_i b off ep
    simp only [slarrV]
    rcases ext_cases hH b with e | ⟨cs, fl, fl', e, e'⟩ | ⟨s, cs, fl, fl', e0, st, e, e'⟩ | ⟨blk, e, e'⟩
    · simp [e] at h
    all_goals (rw [e] at h; rw [e']; exact h)
  · exact h
  · simp at h

theorem indexAV_ext (hH : HExt H H') {sz : Nat} {arr : Option Nat} {x i : V} {v : V} (h : indexAV H sz arr x i = some v) : indexAV H' sz arr x i = some v := by
  unfold indexAV at h ⊢
  split at h
  · simp at h
  · split at h
    · rename_i hi
      simp only [hi, if_true]
      split at h
      · rename_i b o l c ep s
        split at h
        · rename_i hl
          simp only [hl, if_true]
          rcases ext_cases hH b with e | ⟨cs, fl, fl', e, e'⟩ | ⟨s, cs, fl, fl', e0, st, e, e'⟩ | ⟨blk, e, e'⟩
          · simp [e] at h
          · rw [e] at h; rw [e']; exact h
          · rw [e] at h; rw [e']; cases st <;> exact h
          · rw [e] at h; rw [e']; exact h
        · simp at h
      · exact h
      · exact h
      · exact h
      · simp at h
    · simp at h

theorem lookupV_ext (hH : HExt H H') {ck : CK} {z : FC} {m k : V} {v : V} (h : lookupV H ck z m k = some v) : lookupV H' ck z m k = some v := by
  unfold lookupV at h
  split at h
  · exact h
  · rename_i b k
    simp only [lookupV]
    rcases ext_cases hH b with e | ⟨cs, fl, fl', e, e'⟩ | ⟨s, cs, fl, fl', e0, st, e, e'⟩ | ⟨blk, e, e'⟩
    · simp [e] at h
    all_goals (rw [e] at h; rw [e']; exact h)
  · simp at h

theorem cvbsV_ext (hH : HExt H H') {x v : V} (h : cvbsV H x = some v) : cvbsV H' x = some v := by
  cases x with
  | c x =>
    simp only [cvbsV] at h ⊢
    split at h
    · rename_i n hn
      split at h
      · rename_i cs hcs
        rw [slLen_ext hH hn, slCells_ext hH hcs]; exact h
      · simp at h
    · simp at h
  | _ => simp [cvbsV] at h

theorem slCap_ext (hH : HExt H H') {x : C} {n : Nat} (h : slCap H x = some n) : slCap H' x = some n := by
  cases x with
  | sl b o l c ep sz =>
    simp only [slCap] at h ⊢
    rcases ext_cases hH b with e | ⟨cs, fl, fl', e, e'⟩ | ⟨s, cs, fl, fl', e0, st, e, e'⟩ | ⟨blk, e, e'⟩
    · simp [e] at h
    · rw [e] at h; rw [e']; exact h
    · rw [e] at h; rw [e']; cases st <;> exact h
    · rw [e] at h; rw [e']; exact h
  | f x => cases x <;> exact h
  | _ => simp [slCap] at h

theorem map_ext (hH : HExt H H') {b : Nat} {es : List (FC × C)} (h : H[b]? = some (.map es)) : H'[b]? = some (.map es) := by
  obtain ⟨blk', h1, h2⟩ := hH b _ h
  cases blk' <;> simp only [blkLe, reduceCtorEq, Blk.map.injEq] at h2
  subst h2; exact h1

theorem mit_ext (hH : HExt H H') {b m s : Nat} {d : Bool} (h : H[b]? = some (.mit m s d)) : H'[b]? = some (.mit m s d) := by
  obtain ⟨blk', h1, h2⟩ := hH b _ h
  cases blk' <;> simp only [blkLe, reduceCtorEq, Blk.mit.injEq] at h2
  obtain ⟨rfl, rfl, rfl⟩ := h2; exact h1

theorem entryV_ext (hH : HExt H H') {x v : V} (h : entryV H x = some v) : entryV H' x = some v := by
  unfold entryV at h
  split at h
  · split at h
    · rename_i hb
      split at h
      · rename_i hm
        simp only [entryV, mit_ext hH hb, map_ext hH hm]; exact h
      · simp at h
    · simp at h
  · simp at h

/-- **What only reads reads alike in a later heap.** -/
theorem xOp_r {r : T} {op : AOp} (hc : cls op = .r) (hH : HExt H H') {v : V} {H1 : Heap} (h : xOp r H op = some (v, H1)) : H1 = H ∧ xOp r H' op = some (v, H') := by
  cases op <;> first | (simp only [xOp, reduceCtorEq] at h; done) | (simp only [cls, reduceCtorEq] at hc; done) | simp only [xOp] at h ⊢
  case len x =>
    split at h
    · rename_i y hy
      split at h
      · rename_i n hn
        simp only [Option.some.injEq, Prod.mk.injEq] at h
        obtain ⟨rfl, rfl⟩ := h
        simp only [slLen_ext hH hn]
        simp
      · simp at h
    · simp at h
  case cap x =>
    split at h
    · rename_i y hy
      split at h
      · rename_i n hn
        simp only [Option.some.injEq, Prod.mk.injEq] at h
        obtain ⟨rfl, rfl⟩ := h
        simp only [slCap_ext hH hn]
        simp
      · simp at h
    · simp at h
  all_goals
    simp only [Option.map_eq_some_iff, Prod.mk.injEq] at h
    obtain ⟨q, h1, rfl, rfl⟩ := h
    refine ⟨rfl, ?_⟩
  case entry => rw [entryV_ext hH h1]; rfl
  case load => rw [ldV_ext hH h1]; rfl
  case eq => rw [eqV_ext hH h1]; rfl
  case slice => rw [sliceV_ext hH h1]; rfl
  case slarr => rw [slarrV_ext hH h1]; rfl
  case indexA => rw [indexAV_ext hH h1]; rfl
  case lookup => rw [lookupV_ext hH h1]; rfl
  case cvbs => rw [cvbsV_ext hH h1]; rfl

/-- What lays a block lays one, or none. -/
theorem xOp_a {r : T} {op : AOp} (hc : cls op = .a) {v : V} {H1 : Heap} (h : xOp r H op = some (v, H1)) : H1 = H ∨ ∃ blk, H1 = H ++ [blk] := by
  cases op <;> first | (simp only [cls, reduceCtorEq] at hc; done) | simp only [xOp] at h
  case call => simp at h
  case alloc zs => simp only [Option.some.injEq, Prod.mk.injEq] at h; exact .inr ⟨_, h.2.symm⟩
  case mkmap => simp only [Option.some.injEq, Prod.mk.injEq] at h; exact .inr ⟨_, h.2.symm⟩
  case box x =>
    split at h
    · simp only [Option.some.injEq, Prod.mk.injEq] at h; exact .inr ⟨_, h.2.symm⟩
    · simp at h
  case bslice sz zs n ps =>
    split at h
    · split at h
      · simp only [Option.some.injEq, Prod.mk.injEq] at h; exact .inl h.2.symm
      · simp at h
    · simp only [Option.map_eq_some_iff, Prod.mk.injEq] at h
      obtain ⟨q, h1, rfl, rfl⟩ := h
      exact .inr ⟨_, rfl⟩
  case mkslice sz b zs x y =>
    split at h
    · split at h
      · split at h
        · simp only [Option.some.injEq, Prod.mk.injEq] at h; exact .inl h.2.symm
        · simp only [Option.some.injEq, Prod.mk.injEq] at h; exact .inr ⟨_, h.2.symm⟩
      · simp at h
    · simp at h

end Km
end

section
namespace Km
open Go

variable {Q : Program} {σ : Nat → FuncId} {X : Wd}

theorem fillBox (hS : SR Q σ X) (hB : X.B ≤ X.w.heap.size) {n : Nat} {cs : List C} {fl : Nat} (hn : X.H[n]? = some (.box cs fl)) (hr : X.rho n = none) {us : List Value} (h : A2 (CR σ X) cs us) (e : TypeId) :
    ∃ X', X'.w = X.w.alloc (.cells us.toArray e) ∧ X'.H = X.H ∧ SR Q σ X' ∧ Ext X.H.length X X' ∧ X'.rho n = some ⟨X.w.heap.size, 0⟩ ∧ X'.B ≤ X'.w.heap.size ∧ ∀ b, b ≠ n → X'.rho b = X.rho b := by
  obtain ⟨h1, h2⟩ := SR.fill hS hB hn hr (Adds.alloc X.w (.cells us.toArray e)) 0 (fun hx => ⟨us, rowAt_new (Adds.alloc _ _), A2.ext' σ hx h, fun i _ hf => by
    have := hS.fb _ _ hf; simp at this⟩)
  exact ⟨{ X with rho := fun b => if b = n then some ⟨X.w.heap.size, 0⟩ else X.rho b, w := X.w.alloc (.cells us.toArray e) }, rfl, rfl, h1, h2, by simp, by simp; omega, fun b hb => by simp [hb]⟩

/-- The heap is ahead; its hole, if one is laid, is filled. -/
def FillOK (Q : Program) (σ : Nat → FuncId) (X : Wd) (n : Nat) (v : V) (s : Sem Next) (e : Prop) : Prop :=
  ∃ X' u, s.run Q X.w = .ok (.value u) X'.w ∧ Post Q σ X v X.H X' u ∧ (∀ b, b ≠ n → X'.rho b = X.rho b) ∧ (e → X'.rho = X.rho)

theorem fill_ptr (hS : SR Q σ X) (hB : X.B ≤ X.w.heap.size) {n : Nat} {cs : List C} {fl : Nat} (hn : X.H[n]? = some (.box cs fl)) (hr : X.rho n = none) {us : List Value} (h : A2 (CR σ X) cs us) (e : TypeId) {s : Sem Next} {e' : Prop} (he : ¬ e')
    (hs : s.run Q X.w = .ok (.value (.pointer (some ⟨X.w.heap.size, 0, none⟩))) (X.w.alloc (.cells us.toArray e))) : FillOK Q σ X n (.c (.ptr n 0 0)) s e' := by
  obtain ⟨X', h1, h2, h3, h4, h5, h6, h7⟩ := fillBox hS hB hn hr h e
  refine ⟨X', _, by rw [h1]; exact hs, ⟨h2, h3, ?_, h4, h6⟩, h7, fun h => absurd h he⟩
  exact ⟨_, h5, by rw [h2, hn]⟩

theorem fill_sl (hS : SR Q σ X) (hB : X.B ≤ X.w.heap.size) {n : Nat} {cs : List C} {fl : Nat} (hn : X.H[n]? = some (.box cs fl)) (hr : X.rho n = none) {us : List Value} (h : A2 (CR σ X) cs us) (e : TypeId) {s : Sem Next} {l c sz : Nat} (hlc : l ≤ c) {e' : Prop} (he : ¬ e')
    (hs : s.run Q X.w = .ok (.value (.slice (some ⟨X.w.heap.size, 0, none⟩) l c)) (X.w.alloc (.cells us.toArray e))) : FillOK Q σ X n (.c (.sl n 0 l c 0 sz)) s e' := by
  obtain ⟨X', h1, h2, h3, h4, h5, h6, h7⟩ := fillBox hS hB hn hr h e
  refine ⟨X', _, by rw [h1]; exact hs, ⟨h2, h3, ?_, h4, h6⟩, h7, fun h => absurd h he⟩
  simp only [VR, VR1, CR, CR1, h2, hn]
  exact ⟨_, h5, hlc, rfl⟩

theorem hole_of {H H1 : Heap} {cs : List C} (h : HExt (H ++ [.box cs 0]) H1) : ∃ fl, H1[H.length]? = some (.box cs fl) := by
  obtain ⟨blk', hb, hl⟩ := h H.length (.box cs 0) (by simp)
  cases blk' <;> simp only [blkLe, reduceCtorEq] at hl
  obtain ⟨rfl, _⟩ := hl
  exact ⟨_, hb⟩

theorem skip_rho {w' : World} {o : Obj} (hS : SR Q σ X) (hw : Adds X.w w' o) (hB : X.B ≤ X.w.heap.size) : ∃ X' : Wd, X'.w = w' ∧ X'.H = X.H ∧ SR Q σ X' ∧ Ext X.H.length X X' ∧ X'.B ≤ X'.w.heap.size ∧ X'.rho = X.rho := by
  have hx : Ext X.H.length X { X with w := w' } := Ext.one hS X.H.length rfl (fun _ _ => Iff.rfl) (fun k hk _ => hw.old hk)
    (fun L i h => by rw [SR.rho0 hS] at h; simp at h) (fun h => absurd h (Nat.lt_irrefl _)) (fun _ _ _ => rfl) (fun _ _ => rfl) (fun L h => .inl ⟨L, h, rfl⟩) (by show _ ≤ w'.heap.size; rw [hw.size]; omega) hw.os hw.tape hw.output
  refine ⟨{ X with w := w' }, rfl, rfl, SR.step Q σ hS hx X.H.length (fun _ _ => rfl) (fun _ _ => rfl) (fun b L _ hb => hw.old (hS.br b L hb).2.1)
    (fun _ _ _ _ _ h => h) (fun L h => by change X.rho X.H.length = some L at h; rw [SR.rho0 hS] at h; simp at h) (fun c i h => ?_), hx, ?_, rfl⟩
  · have := hS.fb c i h; show c < w'.heap.size; rw [hw.size]; omega
  · show X.B ≤ w'.heap.size; rw [hw.size]; omega

/-- **What lays a block, in a world whose heap holds it already.** -/
theorem lays_ok (hS : SR Q σ X) (hB : X.B ≤ X.w.heap.size) {a : Act} {regs : T} (hR : RR σ X regs a.tmps) {o : Oper} {op : AOp} (hc : cls op = .a) (hm : mOp Q σ o op = true) {H H1 : Heap} {v : V} (h : xOp regs H op = some (v, H1))
    (hH : HExt H1 X.H) (hr : H1.length ≠ H.length → X.rho H.length = none) : FillOK Q σ X H.length v (execOp a.eval o) (H1.length = H.length) := by
  cases op <;> first | (simp only [cls, reduceCtorEq] at hc; done) | skip
  case call f xs h' => simp [xOp] at h
  case alloc zs =>
    simp only [xOp, Option.some.injEq, Prod.mk.injEq] at h
    obtain ⟨rfl, rfl⟩ := h
    obtain ⟨fl, hn⟩ := hole_of hH
    simp only [mOp] at hm
    split at hm
    · rename_i t ho
      obtain ⟨z, us, h1, h2, h3, _⟩ := tZero_ok (σ := σ) (X := X) hm X.w
      refine fill_ptr hS hB hn (hr (by simp)) h3 t (by simp) ?_
      simp only [execOp, ho]
      refine ex_v ?_
      simp [Instr.alloc, h1, newVar, newRow, h2]
    · simp at hm
  case mkmap =>
    simp only [xOp, Option.some.injEq, Prod.mk.injEq] at h
    obtain ⟨rfl, rfl⟩ := h
    have hn : X.H[H.length]? = some (.map []) := by
      obtain ⟨blk', hb, hl⟩ := hH H.length (.map []) (by simp)
      cases blk' <;> simp only [blkLe, reduceCtorEq, Blk.map.injEq] at hl
      subst hl; exact hb
    simp only [mOp] at hm
    split at hm
    · rename_i t ho
      have hr := hr (by simp)
      obtain ⟨h1, h2⟩ := SR.fill hS hB hn hr (Adds.alloc X.w (.map #[] 0)) 0 (fun hx => ⟨[], (Adds.alloc _ _).new, A2.nil, by simp⟩)
      refine ⟨{ X with rho := fun b => if b = H.length then some ⟨X.w.heap.size, 0⟩ else X.rho b, w := X.w.alloc (.map #[] 0) }, .map (some X.w.heap.size), ?_, ⟨rfl, h1, ⟨⟨X.w.heap.size, 0⟩, by simp, ⟨[], hn⟩, rfl⟩, h2, by show X.B ≤ _; simp; omega⟩, fun b hb => by simp [hb], fun h => by simp at h⟩
      simp [execOp, ho, Instr.makeMap]
    · simp at hm
  case box x =>
    simp only [xOp] at h
    split at h
    · rename_i xs hxs
      simp only [Option.some.injEq, Prod.mk.injEq] at h
      obtain ⟨rfl, rfl⟩ := h
      obtain ⟨fl, hn⟩ := hole_of hH
      simp only [mOp] at hm
      split at hm
      · rename_i t y ho
        obtain ⟨us, h2, h3⟩ := cells_ok (mA_ok hR hm) hxs
        refine fill_ptr hS hB hn (hr (by simp)) h3 t (by simp) ?_
        simp only [execOp, ho]
        refine ex_v ?_
        simp [Instr.box, newVar, newRow, h2]
      · simp at hm
    · simp at h
  case bslice sz zs n ps =>
    simp only [mOp] at hm
    split at hm
    · rename_i t n' qs ho
      simp only [Bool.and_eq_true, beq_iff_eq, decide_eq_true_eq] at hm
      obtain ⟨⟨⟨⟨rfl, hbig⟩, he⟩, hsz0⟩, hq⟩ := hm
      obtain ⟨e, hu, he⟩ := elem_ok he
      simp only [Bool.and_eq_true, decide_eq_true_eq] at he
      obtain ⟨⟨hsz, hz⟩, hzl⟩ := he
      obtain ⟨z, us, hz1, hz2, hz3, _⟩ := tZero_ok (σ := σ) (X := X) hz X.w
      have hul : us.length = sz := by have := hz3.len; simp at this; omega
      simp only [xOp] at h
      split at h
      · rename_i hn
        subst hn
        split at h
        · rename_i hps
          simp only [Option.some.injEq, Prod.mk.injEq] at h
          obtain ⟨rfl, rfl⟩ := h
          have hqs : qs.toList = [] := by
            have := (all2_A2 hq).len
            simp only [List.isEmpty_iff] at hps
            rw [hps] at this
            exact List.eq_nil_of_length_eq_zero this.symm
          have hqs : qs = #[] := by apply Array.ext'; simpa using hqs
          obtain ⟨X', h1, h2, h3, h4, h5, h6⟩ := skip_rho hS (Adds.alloc X.w (.cells #[] e)) hB
          refine ⟨X', .slice (some ⟨X.w.heap.size, 0, none⟩) 0 0, ?_, ⟨h2, h3, FCR.es _, h4, h5⟩, fun b _ => by rw [h6], fun _ => h6⟩
          rw [h1]
          simp only [execOp, ho]
          refine ex_v ?_
          simp [Instr.buildSlice, run_und hu, run_sz hsz, hqs, Instr.fill, newRow, show Array.range 0 = (#[] : Array Nat) from rfl]
        · simp at h
      · rename_i hn
        simp only [Option.map_eq_some_iff, Prod.mk.injEq] at h
        obtain ⟨cs, hcs, rfl, rfl⟩ := h
        obtain ⟨fl, hnn⟩ := hole_of hH
        obtain ⟨us', h5, h6⟩ := fill_ok (place := fun i => some (i * sz, sz)) (ps := qs.toList) hR (qs := ps.map fun p => (p.1 * sz, sz, p.2)) (A2.map ((all2_A2 hq).imp fun q p hqp => by
          simp only [Bool.and_eq_true, beq_iff_eq] at hqp
          exact ⟨by rw [hqp.1], hqp.2⟩)) (zeros_ok hz3 n') hcs
        refine fill_sl hS hB hnn (hr (by simp)) h6 e (Nat.le_refl _) (by simp) ?_
        simp only [execOp, ho]
        refine ex_v ?_
        have hnz : n' * sz ≠ 0 := by
          intro h0; rcases Nat.mul_eq_zero.1 h0 with h0 | h0 <;> omega
        have hze := zeros_eq us n' (by omega)
        rw [hul] at hze
        simp only [Instr.buildSlice, Sem.run_bind, run_und hu, run_sz hsz, Result.andThen_ok, if_neg (show ¬ n' * sz > 2 ^ 24 by omega), Sem.run_ite, if_neg hnz, hz1, Sem.run_pure, hz2]
        simp only [Array.toList_map]
        rw [hze]
        simp [h5, newRow]
    · simp at hm
  case mkslice sz bytes zs x y =>
    simp only [mOp] at hm
    split at hm
    · rename_i t x' y' ho
      simp only [Bool.and_eq_true, decide_eq_true_eq] at hm
      obtain ⟨⟨⟨hx, hy⟩, he⟩, hpos⟩ := hm
      have hx := mA_ok hR hx
      have hy := mA_ok hR hy
      obtain ⟨e, hu, he⟩ := elem_ok he
      simp only [Bool.and_eq_true] at he
      obtain ⟨⟨hsz, hby⟩, hz⟩ := he
      obtain ⟨z, us, hz1, hz2, hz3, inf, hi1, hi2⟩ := tZero_ok (σ := σ) (X := X) hz X.w
      obtain ⟨inf', hb1, hb2⟩ := run_by hby X.w
      simp only [xOp] at h
      split at h
      · rename_i l c hl hc
        obtain ⟨kl, hxl⟩ := intV_ok hx hl
        obtain ⟨kc, hyc⟩ := intV_ok hy hc
        split at h
        · rename_i hcond
          obtain ⟨h0, hlc, hroom, hzl⟩ := hcond
          unfold roomOK at hroom
          simp only [Bool.and_eq_true, decide_eq_true_eq] at hroom
          have hul : us.length = sz := by have := hz3.len; simp at this; omega
          have hwl := wrap_small (n := l) h0 (by omega)
          have hwc := wrap_small (n := c) (by omega) (by omega)
          have hnat : c.toNat * bytes ≤ 2 ^ 48 := by
            have : c.toNat * bytes ≤ (2 * c.toNat + 768) * bytes := Nat.mul_le_mul_right _ (by omega)
            omega
          have hbig : ¬ ((bytes : Int) * c > 2 ^ 48) := by
            have e1 : (bytes : Int) * c = ((c.toNat * bytes : Nat) : Int) := by
              rw [Int.natCast_mul, Int.mul_comm]; congr 1; omega
            rw [e1]; omega
          have hrow : ((Array.range (c.toNat * sz)).map fun i => us.toArray[i % us.toArray.size]!) = (repl c.toNat us).toArray := by
            have := zeros_eq us c.toNat (by omega); rwa [hul] at this
          have run : (execOp a.eval o).run Q X.w = .ok (.value (.slice (some ⟨X.w.heap.size, 0, none⟩) l.toNat c.toNat)) (X.w.alloc (.cells (repl c.toNat us).toArray e)) := by
            simp only [execOp, ho]
            refine ex_v ?_
            rw [hxl, hyc]
            have hc1 : ¬ c < 0 := by omega
            have hl1 : ¬ l < 0 := by omega
            have hlc1 : ¬ l > c := by omega
            by_cases hc0 : c.toNat * sz = 0
            · have hr0 : repl c.toNat us = [] := List.eq_nil_of_length_eq_zero (by rw [repl_len, hul]; exact hc0)
              have hcond2 : ((decide (c < 0) || decide ((bytes : Int) * c > 2 ^ 48)) || decide (l < 0) || decide (l > c)) = false := by rw [decide_eq_false hc1, decide_eq_false hl1, decide_eq_false hlc1, decide_eq_false hbig]; rfl
              simp only [Instr.makeSlice, Sem.run_bind, run_und hu, asInt, asIntOf, Sem.run_pure, Result.andThen_ok, hb1, hb2, hwl, hwc, run_askRoom, run_sz hsz]
              simp only [hcond2, Bool.false_eq_true, if_false, Sem.run_ite, if_pos hc0, Sem.run_bind, Result.andThen_ok, Sem.run_pure, run_askRoom, run_sz hsz, newRow, run_newObj]
              rw [hc0, hr0, show (Array.map (fun x => (#[] : Array Value)[x % (#[] : Array Value).size]!) (Array.range 0)) = #[] from by simp [show Array.range 0 = (#[] : Array Nat) from rfl]]; rfl
            · simp only [Instr.makeSlice, Sem.run_bind, run_und hu, asInt, asIntOf, Sem.run_pure, Result.andThen_ok, hb1, hb2, hwl, hwc, run_askRoom, run_sz hsz]
              have hcond2 : ((decide (c < 0) || decide ((bytes : Int) * c > 2 ^ 48)) || decide (l < 0) || decide (l > c)) = false := by rw [decide_eq_false hc1, decide_eq_false hl1, decide_eq_false hlc1, decide_eq_false hbig]; rfl
              simp only [hcond2, Bool.false_eq_true, if_false, Sem.run_ite, if_neg hc0, Sem.run_bind, hz1, hz2, Result.andThen_ok, Sem.run_pure, run_askRoom, run_sz hsz, hrow, newRow, run_newObj]
              rfl
          split at h
          · rename_i hc0
            subst hc0
            simp only [Option.some.injEq, Prod.mk.injEq] at h
            obtain ⟨rfl, rfl⟩ := h
            have : l = 0 := by omega
            subst this
            obtain ⟨X', g1, g2, g3, g4, g5, g6⟩ := skip_rho hS (Adds.alloc X.w (.cells (repl (0 : Int).toNat us).toArray e)) hB
            exact ⟨X', _, by rw [g1]; exact run, ⟨g2, g3, FCR.es _, g4, g5⟩, fun b _ => by rw [g6], fun _ => g6⟩
          · simp only [Option.some.injEq, Prod.mk.injEq] at h
            obtain ⟨rfl, rfl⟩ := h
            obtain ⟨fl, hnn⟩ := hole_of hH
            exact fill_sl hS hB hnn (hr (by simp)) (zeros_ok hz3 c.toNat) e (by omega) (by simp) run
        · simp at h
      · simp at h
    · simp at hm

end Km
end

section
namespace Km
open Go

theorem maskOf_bit {acc : List Nat} {o : Oper} {i : Nat} : (maskOf acc o).testBit i = true ↔ ∃ e ∈ o.after.toList, Region.binds .any e = true ∧ (e.on = i ∨ (acc.getD e.on 0).testBit i = true) := by
  unfold maskOf
  have key : ∀ (l : List Edge) (s : Nat), (l.foldl (fun s e => if Region.binds .any e then s ||| 2 ^ e.on ||| acc.getD e.on 0 else s) s).testBit i = true ↔
      s.testBit i = true ∨ ∃ e ∈ l, Region.binds .any e = true ∧ (e.on = i ∨ (acc.getD e.on 0).testBit i = true) := by
    intro l
    induction l with
    | nil => intro s; simp
    | cons e l ih =>
      intro s
      simp only [List.foldl_cons, ih, List.mem_cons, exists_eq_or_imp]
      by_cases hb : Region.binds .any e = true
      · simp only [hb, if_true, Nat.testBit_or, Bool.or_eq_true, Nat.testBit_two_pow, decide_eq_true_eq, true_and, or_assoc]
      · simp [hb]
  rw [key]; simp

theorem masks_len : ∀ (os : List Oper) (acc : List Nat), (masks os acc).length = acc.length + os.length
  | [], acc => by simp [masks]
  | o :: os, acc => by rw [masks, masks_len]; simp; omega

theorem masks_old : ∀ (os : List Oper) (acc : List Nat) (k : Nat), k < acc.length → (masks os acc)[k]? = acc[k]?
  | [], acc, k, _ => rfl
  | o :: os, acc, k, h => by
    rw [masks, masks_old os _ k (by simp; omega), List.getElem?_append_left h]

theorem masks_new : ∀ (os : List Oper) (acc : List Nat) (t : Nat) (o : Oper), os[t]? = some o → (masks os acc)[acc.length + t]? = some (maskOf ((masks os acc).take (acc.length + t)) o)
  | [], acc, t, o, h => by simp at h
  | o' :: os, acc, 0, o, h => by
    simp only [List.getElem?_cons_zero, Option.some.injEq] at h
    subst h
    have hold : ∀ k, k < acc.length → (masks os (acc ++ [maskOf acc o']))[k]? = acc[k]? := fun k hk => by rw [masks_old os _ k (by simp; omega), List.getElem?_append_left hk]
    have htake : (masks os (acc ++ [maskOf acc o'])).take acc.length = acc := by
      apply List.ext_getElem?
      intro k
      rw [List.getElem?_take]
      split
      · rename_i hk; exact hold k hk
      · rename_i hk; rw [List.getElem?_eq_none (by omega)]
    rw [masks, Nat.add_zero, htake, masks_old os _ _ (by simp)]
    simp
  | o' :: os, acc, t + 1, o, h => by
    simp only [List.getElem?_cons_succ] at h
    have := masks_new os (acc ++ [maskOf acc o']) t o h
    rw [masks]
    rw [show acc.length + (t + 1) = (acc ++ [maskOf acc o']).length + t by simp; omega]
    exact this

/-- Who comes before whom. -/
theorem anc_iff {ops : List Oper} {i j : Nat} {o : Oper} (hj : ops[j]? = some o) :
    anc (masks ops []) i j = true ↔ ∃ e ∈ o.after.toList, Region.binds .any e = true ∧ (e.on = i ∨ (e.on < j ∧ anc (masks ops []) i e.on = true)) := by
  have h := masks_new ops [] j o hj
  simp only [List.length_nil, Nat.zero_add] at h
  unfold anc
  rw [List.getD_eq_getElem?_getD, h, Option.getD_some, maskOf_bit]
  have hg : ∀ k, ((masks ops []).take j).getD k 0 = if k < j then (masks ops []).getD k 0 else 0 := by
    intro k
    simp only [List.getD_eq_getElem?_getD, List.getElem?_take]
    split <;> simp
  constructor
  · rintro ⟨e, he, hb, h⟩
    refine ⟨e, he, hb, h.imp id fun h => ?_⟩
    rw [hg] at h
    split at h
    · rename_i hk; exact ⟨hk, h⟩
    · simp at h
  · rintro ⟨e, he, hb, h⟩
    refine ⟨e, he, hb, h.imp id fun h => ?_⟩
    rw [hg, if_pos h.1]; exact h.2

/-- A set of operations that holds with each one what it waits for. -/
def Closed (ops : List Oper) (D : Nat → Prop) : Prop := ∀ j o, D j → ops[j]? = some o → ∀ e ∈ o.after.toList, Region.binds .any e = true → D e.on

theorem Closed.below {ops : List Oper} {D : Nat → Prop} (h : Closed ops D) {i : Nat} : ∀ (j : Nat), D j → anc (masks ops []) i j = true → D i := by
  intro j
  induction j using Nat.strongRecOn with
  | ind j ih =>
    intro hj ha
    cases ho : ops[j]? with
    | none =>
      exfalso
      unfold Km.anc at ha
      have : (masks ops []).length ≤ j := by rw [masks_len]; simpa using List.getElem?_eq_none_iff.1 ho
      rw [List.getD_eq_getElem?_getD, List.getElem?_eq_none this] at ha
      simp at ha
    | some o =>
      obtain ⟨e, he, hb, h1 | ⟨h1, h2⟩⟩ := (anc_iff ho).1 ha
      · exact h1 ▸ h j o hj ho e he hb
      · exact ih e.on h1 (h j o hj ho e he hb) h2

theorem Closed.ready {ops : List Oper} {D : Nat → Prop} (h : Closed ops D) {i j : Nat} {o : Oper} (ho : ops[j]? = some o) (hr : ∀ e ∈ o.after.toList, Region.binds .any e = true → D e.on) (ha : anc (masks ops []) i j = true) : D i := by
  obtain ⟨e, he, hb, h1 | ⟨h1, h2⟩⟩ := (anc_iff ho).1 ha
  · exact h1 ▸ hr e he hb
  · exact h.below e.on (hr e he hb) h2

def isW (aos : List AOper) (j : Nat) : Prop := ∃ y, aos[j]? = some y ∧ cls y.op = .w

theorem mem_wPlaces {aos : List AOper} {j : Nat} : j ∈ wPlaces aos ↔ isW aos j := by
  unfold wPlaces isW
  rw [List.mem_filter, List.mem_range]
  constructor
  · rintro ⟨_, h⟩
    split at h
    · rename_i y hy; exact ⟨y, hy, by simpa using h⟩
    · simp at h
  · rintro ⟨y, hy, hc⟩
    exact ⟨(List.getElem?_eq_some_iff.1 hy).1, by simp [hy, hc]⟩

theorem takeWhile_spec {α : Type} (p : α → Bool) : ∀ (l : List α), (∀ k, k < (l.takeWhile p).length → ∃ y, l[k]? = some y ∧ p y = true) ∧ ((l.takeWhile p).length = l.length ∨ ∃ y, l[(l.takeWhile p).length]? = some y ∧ p y = false)
  | [] => by simp
  | x :: l => by
    by_cases hp : p x = true
    · rw [List.takeWhile_cons_of_pos hp]
      obtain ⟨h1, h2⟩ := takeWhile_spec p l
      refine ⟨fun k hk => ?_, ?_⟩
      · cases k with
        | zero => exact ⟨x, rfl, hp⟩
        | succ k => exact h1 k (by simpa using hk)
      · rcases h2 with h2 | h2
        · exact .inl (by simp [h2])
        · exact .inr (by simpa using h2)
    · rw [List.takeWhile_cons_of_neg hp]
      exact ⟨by simp, .inr ⟨x, rfl, by simpa using hp⟩⟩

theorem phase_spec {aos : List AOper} {i : Nat} (hi : i ≤ aos.length) : i ≤ phase aos i ∧ phase aos i ≤ aos.length ∧ (phase aos i = aos.length ∨ isW aos (phase aos i)) ∧ ∀ j, i ≤ j → j < phase aos i → ¬ isW aos j := by
  unfold phase
  obtain ⟨h1, h2⟩ := takeWhile_spec (fun y : AOper => decide (cls y.op ≠ .w)) (aos.drop i)
  have hle : ((aos.drop i).takeWhile fun y => decide (cls y.op ≠ .w)).length ≤ (aos.drop i).length := by
    rcases Nat.lt_or_ge (aos.drop i).length ((aos.drop i).takeWhile fun y => decide (cls y.op ≠ .w)).length with h | h
    · obtain ⟨y, hy, _⟩ := h1 _ h
      have := (List.getElem?_eq_some_iff.1 hy).1; omega
    · exact h
  simp only [List.length_drop] at hle h2
  refine ⟨by omega, by omega, ?_, fun j hj hlt => ?_⟩
  · rcases h2 with h2 | ⟨y, hy, hc⟩
    · exact .inl (by omega)
    · rw [List.getElem?_drop] at hy
      exact .inr ⟨y, hy, by simpa using hc⟩
  · obtain ⟨y, hy, hc⟩ := h1 (j - i) (by omega)
    rw [List.getElem?_drop, show i + (j - i) = j by omega] at hy
    rintro ⟨y', hy', hc'⟩
    rw [hy] at hy'; cases hy'
    simp [hc'] at hc

/-- What the check of a drawn region says. -/
structure Ord (ops : List Oper) (aos : List AOper) (chk : List (Nat × Nat)) : Prop where
  back : ∀ j o, j < aos.length → ops[j]? = some o → ∀ e ∈ o.after.toList, Region.binds .any e = true → e.on < j
  two : ∀ i j x y, i < j → aos[i]? = some x → aos[j]? = some y → anc (masks ops []) i j = true ∨ (x.apart y = true ∧ (clsOK x y = true ∨ (j = fstEarly (masks ops []) aos ∧ cls x.op = .w)))
  ear : ∀ y, aos[fstEarly (masks ops []) aos]? = some y → (∃ zs, y.op = .alloc zs) ∧ y.g = none ∧ ∃ p, y.dst = some p ∧ ∀ i z, aos[i]? = some z → p ∈ z.rd → ∀ e, isW aos e → e < fstEarly (masks ops []) aos → anc (masks ops []) e i = true
  rd : ∀ i x e, aos[i]? = some x → cls x.op = .r → isW aos e ∨ e = aos.length → mayAt (masks ops []) aos i e = true → e = phase aos i ∨ (i, e) ∈ chk

theorem ordOK_ord {ops : List Oper} {aos : List AOper} {chk : List (Nat × Nat)} (h : ordOK ops aos chk = true) : Ord ops aos chk := by
  simp only [ordOK, Bool.and_eq_true] at h
  obtain ⟨⟨⟨h1, h2⟩, h4⟩, h3⟩ := h
  refine ⟨fun j o hj ho e he hb => ?_, fun i j x y hij hx hy => ?_, fun y hy => ?_, fun i x e hx hc he hm => ?_⟩
  · rw [List.all_eq_true] at h1
    have hmem : (o, j) ∈ ops.zip (List.range aos.length) := by
      refine List.mem_of_getElem? (i := j) ?_
      rw [List.getElem?_zip_eq_some]
      exact ⟨ho, by simp [hj]⟩
    have := h1 _ hmem
    rw [List.all_eq_true] at this
    simpa [hb] using this e he
  · rw [List.all_eq_true] at h2
    have := h2 j (by simpa using (List.getElem?_eq_some_iff.1 hy).1)
    rw [List.all_eq_true] at this
    have := this i (by simpa using hij)
    rw [hx, hy] at this
    simpa using this
  · unfold earlyOK at h4
    rw [hy] at h4
    simp only [Bool.and_eq_true, Option.isNone_iff_eq_none] at h4
    obtain ⟨⟨h5, h6⟩, h7⟩ := h4
    refine ⟨?_, h5, ?_⟩
    · split at h6
      · exact ⟨_, by assumption⟩
      · simp at h6
    · split at h7
      · rename_i p hp
        refine ⟨p, hp, fun i z hz hpz e he hlt => ?_⟩
        rw [List.all_eq_true] at h7
        have := h7 i (by simpa using (List.getElem?_eq_some_iff.1 hz).1)
        rw [hz] at this
        simp only [Bool.or_eq_true, Bool.not_eq_true', List.contains_eq_mem, decide_eq_false_iff_not, List.all_eq_true] at this
        rcases this with h | h
        · exact absurd hpz h
        · have := h e (mem_wPlaces.2 he)
          simpa [hlt] using this
      · simp at h7
  · rw [List.all_eq_true] at h3
    have := h3 i (by simpa using (List.getElem?_eq_some_iff.1 hx).1)
    rw [hx] at this
    simp only [hc, if_true] at this
    rw [List.all_eq_true] at this
    have := this e (by
      rw [List.mem_append]
      rcases he with he | he
      · exact .inl (mem_wPlaces.2 he)
      · exact .inr (by simp [he]))
    simpa [hm] using this

end Km
end

section
namespace Km
open Go

variable {Q : Program} {σ : Nat → FuncId} {X : Wd} {call : CallF}

theorem Ext.len {X X' : Wd} (h : Ext X.H.length X X') : X.H.length ≤ X'.H.length := by
  rcases Nat.lt_or_ge X'.H.length X.H.length with hlt | hge
  · obtain ⟨blk', hb', _⟩ := h.keep X'.H.length hlt _ (List.getElem?_eq_getElem hlt)
    have := (List.getElem?_eq_some_iff.1 hb').1; omega
  · exact hge

theorem xOne_regs {s s' : St} {op : AOp} {v : V} (h : xOne call s op = some (v, s')) : s'.regs = s.regs := by
  have := xOne_rd (r' := s.regs) (fun _ _ => rfl) h
  rw [show ({ s with regs := s.regs } : St) = s from rfl, h] at this
  simp only [Option.some.injEq, Prod.mk.injEq, true_and] at this
  rw [this]

/-- What a step does to the slots. -/
theorem xStep_regs {s s' : St} {y : AOper} (h : xStep call s y = some s') : ∃ v, s'.regs = putR s.regs y.dst v := by
  unfold xStep at h
  split at h
  · split at h
    · rename_i v s1 h1
      cases h
      exact ⟨v, by rw [xOne_regs h1]⟩
    · simp at h
  · cases h; exact ⟨_, rfl⟩
  · simp at h

theorem putR_get {regs : T} {d : Option P} {v : V} {p : P} : (putR regs d v).get p = if d = some p then v else regs.get p := by
  cases d with
  | none => simp [putR]
  | some q => simp only [putR, T.get_set, Option.some.injEq]

/-- What does not write but leaves the heap's blocks. -/
theorem xStep_heap {s s' : St} {y : AOper} (hc : cls y.op ≠ .w) (h : xStep call s y = some s') : HExt s.heap s'.heap ∧ s'.defs = s.defs := by
  unfold xStep at h
  split at h
  · split at h
    · rename_i v s1 h1
      cases h
      by_cases hp : (∃ f xs h, y.op = .call f xs h) ∨ (∃ x xs h, y.op = .calld x xs h) ∨ y.op = .recover ∨ ∃ x xs, y.op = .defer x xs
      · rcases hp with ⟨f, xs, hh, e⟩ | ⟨x, xs, hh, e⟩ | e | ⟨x, xs, e⟩
        · rw [e] at h1 hc
          cases hh
          · simp only [xOne, oneCall, Bool.false_eq_true, if_false, Option.map_eq_some_iff, Prod.mk.injEq] at h1
            obtain ⟨⟨v', H'⟩, h1, rfl, rfl⟩ := h1
            refine ⟨?_, rfl⟩
            unfold pureCall at h1
            split at h1
            · simp at h1
            · split at h1
              · simp at h1
              · split at h1
                · simp at h1
                · simp only [Option.some.injEq, Prod.mk.injEq] at h1
                  show HExt s.heap H'
                  rw [← h1.2]
                  exact (mkVs_le _ _ _).ext
          · exact absurd rfl hc
        · rw [e] at hc; exact absurd rfl hc
        · rw [e] at hc; exact absurd rfl hc
        · rw [e] at hc; exact absurd rfl hc
      · have hx : (xOp s.regs s.heap y.op).map (fun r => (r.1, { s with heap := r.2 })) = some (v, s1) := by
          generalize y.op = op at h1 hp
          cases op <;> first | exact h1 | (exfalso; apply hp; simp)
        simp only [Option.map_eq_some_iff, Prod.mk.injEq] at hx
        obtain ⟨⟨v', H'⟩, h2, rfl, rfl⟩ := hx
        clear h1
        have h1 := h2
        clear h2
        refine ⟨?_, rfl⟩
        show HExt s.heap H'
        cases hcl : cls y.op with
        | p =>
          have := xOp_p (r := s.regs) hcl s.heap s.heap
          rw [h1] at this
          simp only [Option.map_some, Option.some.injEq, Prod.mk.injEq] at this
          rw [this.2]; exact HExt.refl _
        | r => rw [(xOp_r hcl (HExt.refl _) h1).1]; exact HExt.refl _
        | a =>
          rcases xOp_a hcl h1 with e | ⟨cs, e⟩
          · rw [e]; exact HExt.refl _
          · rw [e]; exact HExt.append _ _
        | c =>
          generalize y.op = op at h1 hcl
          cases op <;> first | (simp only [cls, reduceCtorEq] at hcl; done) | (simp [xOp] at h1; done)
        | w => exact absurd hcl hc
    · simp at h
  · cases h; exact ⟨HExt.refl _, rfl⟩
  · simp at h

/-- The slots of a list, and no others. -/
def rdTree (regs : T) (ps : List P) : T := ps.foldl (fun t p => t.set p (regs.get p)) .e

theorem rdTree_get (regs : T) (ps : List P) (p : P) : (rdTree regs ps).get p = if p ∈ ps then regs.get p else .top := by
  have key : ∀ (ps : List P) (t : T), (ps.foldl (fun t p => t.set p (regs.get p)) t).get p = if p ∈ ps then regs.get p else t.get p := by
    intro ps
    induction ps with
    | nil => intro t; simp
    | cons q ps ih =>
      intro t
      simp only [List.foldl_cons, ih, T.get_set, List.mem_cons]
      by_cases h1 : p ∈ ps
      · simp [h1]
      · by_cases h2 : q = p
        · subst h2; simp [h1]
        · have : ¬ p = q := fun e => h2 e.symm
          simp [h1, h2, this]
  have := key ps .e
  unfold rdTree
  rw [this]
  rfl

/-- A drawn region and its run in the order of the text. -/
structure Reg (Q : Program) (σ : Nat → FuncId) (call : CallF) (n : Nat) (ops : Array Oper) (aos : List AOper) (chk : List (Nat × Nat)) (st : Nat → St) : Prop where
  mops : all2 (mOper Q σ n ops) ops.toList aos = true
  ord : Ord ops.toList aos chk
  step : ∀ i y, aos[i]? = some y → xStep call (st i) y = some (st (i + 1))
  chkd : ∀ i e y, (i, e) ∈ chk → aos[i]? = some y → wanted (st i).regs y.g = some true → ∃ v H1 H2, xOp (st i).regs (st i).heap y.op = some (v, H1) ∧ xOp (st i).regs (st e).heap y.op = some (v, H2)

/-- A variable's block that lies in the world and not yet in the heap. -/
structure PendB (σ : Nat → FuncId) (X : Wd) (c : Nat) (zs : List FC) : Prop where
  blk : ∃ us t, X.w.heap[c]? = some (.cells us.toArray t (0, 0)) ∧ A2 (CR σ X) (zs.map .f) us
  b : X.B ≤ c
  img : ∀ b L, X.rho b = some L → L.c ≠ c
  f : ∀ i, ¬ X.F c i

theorem PendB.lt {c : Nat} {zs : List FC} (h : PendB σ X c zs) : c < X.w.heap.size := by
  obtain ⟨us, t, h1, _⟩ := h.blk
  exact (Array.getElem?_eq_some_iff.1 h1).1

theorem PendB.ext {X X' : Wd} (hx : Ext X.H.length X X') {c : Nat} {zs : List FC} (h : PendB σ X c zs) : PendB σ X' c zs := by
  have hlt := h.lt
  obtain ⟨us, t, h1, h2⟩ := h.blk
  refine ⟨⟨us, t, by rw [hx.frame c hlt h.img]; exact h1, A2.ext' σ hx h2⟩, by rw [hx.B]; exact h.b, fun b L hb => ?_, fun i hi => ?_⟩
  · rcases hx.img b L hb with ⟨b0, L0, g1, g2⟩ | g1
    · rw [← g2]; exact h.img b0 L0 g1
    · omega
  · rcases hx.Fnew c i hi with g | g | ⟨b, L, g1, g2⟩
    · exact h.f i g
    · omega
    · exact h.img b L g1 g2

/-- It comes to lie in the heap. -/
theorem SR.assign (hS : SR Q σ X) {n c : Nat} {zs : List FC} {fl : Nat} (hp : PendB σ X c zs) (hn : X.H[n]? = some (.box (zs.map .f) fl)) (hr : X.rho n = none) :
    SR Q σ { X with rho := fun b => if b = n then some ⟨c, 0⟩ else X.rho b } ∧ ExtW X.H.length X { X with rho := fun b => if b = n then some ⟨c, 0⟩ else X.rho b } ∧ VR σ { X with rho := fun b => if b = n then some ⟨c, 0⟩ else X.rho b } (.c (.ptr n 0 0)) (.pointer (some ⟨c, 0, none⟩)) := by
  have hW : ExtW X.H.length X { X with rho := fun b => if b = n then some ⟨c, 0⟩ else X.rho b } := by
    refine ⟨fun _ _ h => h, fun _ _ _ => rfl, fun b _ blk hb => ⟨blk, hb, ?_⟩⟩
    have : ∀ L, X.rho b = some L → (if b = n then some (⟨c, 0⟩ : Loc) else X.rho b) = some L := fun L hL => by
      by_cases e : b = n
      · subst e; rw [hr] at hL; simp at hL
      · rw [if_neg e]; exact hL
    cases blk <;> simp only [true_and, and_self] <;> first | exact this | (exact .inl ⟨trivial, trivial, this⟩) | (exact ⟨rfl, .inl ⟨rfl, rfl, this⟩⟩) | (exact .inl this) | simpa using this
  obtain ⟨us, t, h1, h2⟩ := hp.blk
  refine ⟨⟨fun b L hb => ?_, fun b b' L L' hb hb' hc => ?_, hS.fb⟩, hW, ⟨⟨c, 0⟩, by simp, by rw [hn]⟩⟩
  · by_cases e : b = n
    · subst e
      simp only [if_true, Option.some.injEq] at hb
      subst hb
      exact ⟨hp.b, hp.lt, _, hn, us, ⟨t, (0, 0), h1, fun i _ => by simp⟩, A2.extW' σ hW h2, fun i _ => hp.f i⟩
    · simp only [e, if_false] at hb
      obtain ⟨g1, g2, blk, g3, g4⟩ := hS.br b L hb
      exact ⟨g1, g2, blk, g3, BR.extW Q σ hW rfl (fun _ h => h) g4⟩
  · simp only at hb hb'
    by_cases e : b = n <;> by_cases e' : b' = n
    · rw [e, e']
    · rw [if_pos e] at hb; rw [if_neg e'] at hb'; cases hb; exact absurd hc.symm (hp.img b' L' hb')
    · rw [if_neg e] at hb; rw [if_pos e'] at hb'; cases hb'; exact absurd hc (hp.img b L hb)
    · rw [if_neg e] at hb; rw [if_neg e'] at hb'; exact hS.inj b b' L L' hb hb' hc

/-- The place of the variable that may be laid early. -/
abbrev eJ (ops : Array Oper) (aos : List AOper) : Nat := fstEarly (masks ops.toList []) aos

/-- A slot that holds such a variable. -/
def Pend (σ : Nat → FuncId) (X0 : Wd) (ops : Array Oper) (aos : List AOper) (E : Nat) (X : Wd) (a : Act) (p : P) (K : Nat) : Prop :=
  ∃ y zs c, K = eJ ops aos + 1 ∧ E ≤ eJ ops aos ∧ aos[eJ ops aos]? = some y ∧ y.dst = some p ∧ y.op = .alloc zs ∧ a.tmps.getD p.toNat undef = .pointer (some ⟨c, 0, none⟩) ∧ X0.w.heap.size ≤ c ∧ PendB σ X c zs

/-- The state between two operations: those of D are done, and E is the next one that writes. -/
structure Inv (Q : Program) (σ : Nat → FuncId) (X0 : Wd) (n : Nat) (ops : Array Oper) (aos : List AOper) (st : Nat → St) (D : Nat → Prop) (E : Nat) (X : Wd) (a : Act) : Prop where
  closed : Closed ops.toList D
  dlt : ∀ j, D j → j < aos.length
  eN : E ≤ aos.length
  eW : E = aos.length ∨ isW aos E
  eD : ¬ D E
  wD : ∀ j, isW aos j → j < E → D j
  heap : X.H = (st E).heap
  ext : Ext X0.H.length X0 X
  sr : SR Q σ X
  b : X.B ≤ X.w.heap.size
  defs : DefsR σ X (st E).defs a.defers
  size : n ≤ a.tmps.size
  slots : ∀ p, ∃ K, K ≤ aos.length ∧ (VR σ X ((st K).regs.get p) (a.tmps.getD p.toNat undef) ∨ Pend σ X0 ops aos E X a p K) ∧ ∀ j y, aos[j]? = some y → y.dst = some p → (j < K ↔ D j)
  holes : ∀ j y, j < E → ¬ D j → aos[j]? = some y → cls y.op = .a → (st (j + 1)).heap.length ≠ (st j).heap.length → X.rho (st j).heap.length = none

section
variable {n : Nat} {ops : Array Oper} {aos : List AOper} {chk : List (Nat × Nat)} {st : Nat → St}

theorem Reg.regs_range (R : Reg Q σ call n ops aos chk st) {p : P} {lo : Nat} : ∀ (hi : Nat), lo ≤ hi → hi ≤ aos.length → (∀ j y, lo ≤ j → j < hi → aos[j]? = some y → y.dst ≠ some p) → (st lo).regs.get p = (st hi).regs.get p
  | 0, h, _, _ => by rw [Nat.le_zero.1 h]
  | hi + 1, h, hn, hw => by
    rcases Nat.lt_or_ge hi lo with h1 | h1
    · rw [show lo = hi + 1 by omega]
    · rw [Reg.regs_range R hi h1 (by omega) fun j y h2 h3 => hw j y h2 (by omega)]
      have hy := List.getElem?_eq_getElem (show hi < aos.length by omega)
      obtain ⟨v, hv⟩ := xStep_regs (R.step hi _ hy)
      rw [hv, putR_get, if_neg (hw hi _ h1 (by omega) hy)]

theorem Reg.heap_range (R : Reg Q σ call n ops aos chk st) {lo : Nat} : ∀ (hi : Nat), lo ≤ hi → hi ≤ aos.length → (∀ j, lo ≤ j → j < hi → ¬ isW aos j) → HExt (st lo).heap (st hi).heap ∧ (st hi).defs = (st lo).defs
  | 0, h, _, _ => by rw [Nat.le_zero.1 h]; exact ⟨HExt.refl _, rfl⟩
  | hi + 1, h, hn, hw => by
    rcases Nat.lt_or_ge hi lo with h1 | h1
    · rw [show lo = hi + 1 by omega]; exact ⟨HExt.refl _, rfl⟩
    · obtain ⟨g1, g2⟩ := Reg.heap_range R hi h1 (by omega) fun j h2 h3 => hw j h2 (by omega)
      have hy := List.getElem?_eq_getElem (show hi < aos.length by omega)
      obtain ⟨k1, k2⟩ := xStep_heap (fun hc => hw hi h1 (by omega) ⟨_, hy, hc⟩) (R.step hi _ hy)
      exact ⟨g1.trans k1, k2.trans g2⟩

theorem Reg.at (R : Reg Q σ call n ops aos chk st) {i : Nat} {y : AOper} (hy : aos[i]? = some y) : ∃ o, ops[i]? = some o ∧ mOper Q σ n ops o y = true := by
  have := all2_A2 R.mops
  have hi : i < ops.toList.length := by rw [this.len]; exact (List.getElem?_eq_some_iff.1 hy).1
  have hx := List.getElem?_eq_getElem hi
  refine ⟨ops.toList[i], by rw [← Array.getElem?_toList]; exact hx, this.2 i _ _ hx hy⟩

/-- Two operations of which one waits for the other. -/
theorem Reg.before (R : Reg Q σ call n ops aos chk st) {i j : Nat} {x y : AOper} (hij : i < j) (hx : aos[i]? = some x) (hy : aos[j]? = some y) (h : x.apart y = false ∨ (clsOK x y = false ∧ (j = eJ ops aos → cls x.op ≠ .w))) : anc (masks ops.toList []) i j = true := by
  rcases R.ord.two i j x y hij hx hy with h1 | ⟨h1, h2⟩
  · exact h1
  · rcases h with h | ⟨h, h'⟩
    · rw [h1] at h; simp at h
    · rcases h2 with h2 | ⟨h2, h3⟩
      · rw [h2] at h; simp at h
      · exact absurd h3 (h' h2)

theorem Ext.assign {X0 X1 : Wd} (h : Ext X0.H.length X0 X1) {n c : Nat} (hW : ExtW X1.H.length X1 { X1 with rho := fun b => if b = n then some ⟨c, 0⟩ else X1.rho b }) (hc : X0.w.heap.size ≤ c) : Ext X0.H.length X0 { X1 with rho := fun b => if b = n then some ⟨c, 0⟩ else X1.rho b } where
  B := h.B
  F := h.F
  Fnew := h.Fnew
  fw := h.fw
  keep := fun b hb => (h.keep b hb).trans (hW.keep b (Nat.lt_of_lt_of_le hb h.len))
  img := fun b L hb => by
    simp only at hb
    by_cases e : b = n
    · rw [if_pos e] at hb; cases hb; exact .inr hc
    · rw [if_neg e] at hb; exact h.img b L hb
  size := h.size
  os := h.os
  tape := h.tape
  output := h.output
  frame := h.frame

/-- The early variable's operation does not write. -/
theorem Reg.eJ_cls (R : Reg Q σ call n ops aos chk st) {y : AOper} (hy : aos[eJ ops aos]? = some y) : cls y.op = .a := by
  obtain ⟨⟨zs, h⟩, _⟩ := R.ord.ear y hy
  rw [h]; rfl

theorem apart_wr {x y : AOper} {p : P} (h : x.dst = some p) (h' : p ∈ y.rd) : x.apart y = false := by
  simp [AOper.apart, h, h']
theorem apart_ww {x y : AOper} {p : P} (h : x.dst = some p) (h' : y.dst = some p) : x.apart y = false := by
  simp [AOper.apart, h, h']
theorem apart_rw {x y : AOper} {p : P} (h : p ∈ x.rd) (h' : y.dst = some p) : x.apart y = false := by
  simp [AOper.apart, h, h']

/-- An operation that may come next. -/
structure Ready (ops : Array Oper) (aos : List AOper) (D : Nat → Prop) (i : Nat) (o : Oper) (y : AOper) : Prop where
  ho : ops[i]? = some o
  hy : aos[i]? = some y
  hD : ¬ D i
  pre : ∀ e ∈ o.after.toList, Region.binds .any e = true → D e.on

variable {X0 : Wd} {D : Nat → Prop} {E i : Nat} {a : Act} {o : Oper} {y : AOper}

theorem Ready.of_anc (hI : Inv Q σ X0 n ops aos st D E X a) (hr : Ready ops aos D i o y) {j : Nat} (h : anc (masks ops.toList []) j i = true) : D j :=
  hI.closed.ready (by simpa using hr.ho) hr.pre h

theorem Ready.not_anc (hI : Inv Q σ X0 n ops aos st D E X a) (hr : Ready ops aos D i o y) {j : Nat} (h : anc (masks ops.toList []) i j = true) : ¬ D j :=
  fun hj => hr.hD (hI.closed.below j hj h)

/-- What it reads stands in the slots. -/
theorem Reg.reads (R : Reg Q σ call n ops aos chk st) (hI : Inv Q σ X0 n ops aos st D E X a) (hr : Ready ops aos D i o y) {p : P} (hp : p ∈ y.rd) : VR σ X ((st i).regs.get p) (a.tmps.getD p.toNat undef) := by
  obtain ⟨K, hK, hv, hw⟩ := hI.slots p
  have hi : i < aos.length := (List.getElem?_eq_some_iff.1 hr.hy).1
  have hv : VR σ X ((st K).regs.get p) (a.tmps.getD p.toNat undef) := by
    rcases hv with hv | ⟨z, zs, c, _, hE, hz, hd, _⟩
    · exact hv
    · exfalso
      obtain ⟨_, _, p', hp', hwait⟩ := R.ord.ear z hz
      rw [hd] at hp'; cases hp'
      have hlt := (List.getElem?_eq_some_iff.1 hz).1
      rcases hI.eW with h4 | hWE
      · omega
      · have hne : E ≠ eJ ops aos := by
          intro e
          obtain ⟨q, hq, hqc⟩ := hWE
          rw [e] at hq
          rw [R.eJ_cls hq] at hqc; cases hqc
        exact hI.eD (hr.of_anc hI (hwait i y hr.hy hp E hWE (show E < eJ ops aos by omega)))
  rcases Nat.le_total K i with h | h
  · rw [← R.regs_range i h (by omega) fun j z h1 h2 hz hd => ?_]
    · exact hv
    · have := hr.of_anc hI (R.before h2 hz hr.hy (.inl (apart_wr hd hp)))
      have := (hw j z hz hd).2 this
      omega
  · rw [R.regs_range K h hK fun j z h1 h2 hz hd => ?_]
    · exact hv
    · have hDj := (hw j z hz hd).1 h2
      rcases Nat.lt_or_ge i j with h3 | h3
      · exact hr.not_anc hI (R.before h3 hr.hy hz (.inl (apart_rw hp hd))) hDj
      · have : j = i := by omega
        subst this; exact hr.hD hDj

/-- The next state. -/
theorem Reg.fin (R : Reg Q σ call n ops aos chk st) (hI : Inv Q σ X0 n ops aos st D E X a) (hr : Ready ops aos D i o y) {X1 : Wd} {a1 : Act} {u : Value} {v : V} {E' : Nat} (hS : SR Q σ X1) (hB : X1.B ≤ X1.w.heap.size) (hx0 : Ext X0.H.length X0 X1)
    (hm : ∀ v u, VR σ X v u → VR σ X1 v u) (hpd : ∀ y zs c p, E ≤ eJ ops aos → aos[eJ ops aos]? = some y → y.op = .alloc zs → y.dst = some p → D (eJ ops aos) → a.tmps.getD p.toNat undef = .pointer (some ⟨c, 0, none⟩) → X0.w.heap.size ≤ c → PendB σ X c zs → if E' ≤ eJ ops aos then PendB σ X1 c zs else VR σ X1 ((st (eJ ops aos + 1)).regs.get p) (.pointer (some ⟨c, 0, none⟩)))
    (hv : VR σ X1 v u ∨ (i = eJ ops aos ∧ E' ≤ eJ ops aos ∧ ∃ zs c, y.op = .alloc zs ∧ u = .pointer (some ⟨c, 0, none⟩) ∧ X0.w.heap.size ≤ c ∧ PendB σ X1 c zs))
    (ht : a1.tmps = (a.put o.dst u).tmps) (hreg : (st (i + 1)).regs = putR (st i).regs y.dst v) (h1 : E' ≤ aos.length) (h2 : E' = aos.length ∨ isW aos E') (h3 : ¬ (D E' ∨ E' = i)) (h4 : ∀ j, isW aos j → j < E' → D j ∨ j = i)
    (hH : X1.H = (st E').heap) (hd : DefsR σ X1 (st E').defs a1.defers)
    (hh : ∀ j y, j < E' → ¬ (D j ∨ j = i) → aos[j]? = some y → cls y.op = .a → (st (j + 1)).heap.length ≠ (st j).heap.length → X1.rho (st j).heap.length = none) :
    Inv Q σ X0 n ops aos st (fun j => D j ∨ j = i) E' X1 a1 := by
  have hi : i < aos.length := (List.getElem?_eq_some_iff.1 hr.hy).1
  obtain ⟨o', ho', hmo⟩ := R.at hr.hy
  rw [hr.ho] at ho'; cases ho'
  have hsz : (a.put o.dst u).tmps.size = a.tmps.size := by cases o.dst <;> simp [Act.put]
  refine ⟨fun j oj hj hoj e he hb => ?_, fun j hj => hj.elim (hI.dlt j) fun h => h ▸ hi, h1, h2, h3, h4, hH, hx0, hS, hB, hd, by rw [ht, hsz]; exact hI.size, fun p => ?_, hh⟩
  · rcases hj with hj | rfl
    · exact .inl (hI.closed j oj hj hoj e he hb)
    · have : oj = o := by have := hr.ho; simp at hoj; rw [this] at hoj; cases hoj; rfl
      subst this
      exact .inl (hr.pre e he hb)
  · by_cases hdst : y.dst = some p
    · have hslot : a1.tmps.getD p.toNat undef = u := by
        rw [ht]
        simp only [mOper, Bool.and_eq_true] at hmo
        have hmd := hmo.1.2
        rw [hdst] at hmd
        split at hmd
        · rename_i d p' e1 e2
          simp only [Bool.and_eq_true, beq_iff_eq, decide_eq_true_eq] at hmd
          cases e2
          have hlt : d < a.tmps.size := Nat.lt_of_lt_of_le hmd.2 hI.size
          rw [e1, hmd.1]
          simp only [Act.put]
          simp [hlt]
        · rename_i e2; simp at e2
        · simp at hmd
      refine ⟨i + 1, hi, ?_, fun j z hz hzd => ⟨fun h => ?_, fun h => ?_⟩⟩
      · rcases hv with hv | ⟨hiJ, hE, zs, c, g1, g2, g3, g4⟩
        · left; rw [hreg, putR_get, if_pos hdst, hslot]; exact hv
        · right; exact ⟨y, zs, c, by rw [hiJ], hE, by rw [← hiJ]; exact hr.hy, hdst, g1, by rw [hslot]; exact g2, g3, g4⟩
      · rcases Nat.lt_or_ge j i with h' | h'
        · exact .inl (hr.of_anc hI (R.before h' hz hr.hy (.inl (apart_ww hzd hdst))))
        · exact .inr (by omega)
      · rcases h with h | rfl
        · rcases Nat.lt_or_ge i j with h' | h'
          · exact absurd h (hr.not_anc hI (R.before h' hr.hy hz (.inl (apart_ww hdst hzd))))
          · omega
        · omega
    · obtain ⟨K, hK, hv', hw⟩ := hI.slots p
      have e : a1.tmps.getD p.toNat undef = a.tmps.getD p.toNat undef := by
        rw [ht]
        simp only [mOper, Bool.and_eq_true] at hmo
        have hmd := hmo.1.2
        split at hmd
        · rename_i d p' e1 e2
          simp only [Bool.and_eq_true, beq_iff_eq, decide_eq_true_eq] at hmd
          have hne : d ≠ p.toNat := fun e => hdst (by rw [e2, P.toNat_inj (hmd.1.trans e)])
          rw [e1]
          simp [Act.put, Array.getD_eq_getD_getElem?, Array.getElem?_setIfInBounds_ne hne]
        · rename_i e1 e2; rw [e1]; rfl
        · simp at hmd
      refine ⟨K, hK, ?_, fun j z hz hzd => ?_⟩
      · rcases hv' with hv' | ⟨z, zs, c, g1, g2, g3, g4, g5, g6, g7, g8⟩
        · left; rw [e]; exact hm _ _ hv'
        · have hDJ : D (eJ ops aos) := (hw _ z g3 g4).1 (by omega)
          have := hpd z zs c p g2 g3 g5 g4 hDJ g6 g7 g8
          split at this
          · rename_i hE
            right; exact ⟨z, zs, c, g1, hE, g3, g4, g5, by rw [e]; exact g6, g7, this⟩
          · left; rw [e, g6, g1]; exact this
      · rw [hw j z hz hzd]
        exact ⟨.inl, fun h => h.elim id fun h => absurd (by rw [h] at hz; rw [hr.hy] at hz; cases hz; exact hzd) hdst⟩

end
end Km
end

section
namespace Km
open Go

variable {Q : Program} {σ : Nat → FuncId} {X : Wd} {call : CallF}
variable {n : Nat} {ops : Array Oper} {aos : List AOper} {chk : List (Nat × Nat)} {st : Nat → St}
variable {X0 : Wd} {D : Nat → Prop} {E i : Nat} {a : Act} {o : Oper} {y : AOper}

theorem clsOK_wx {x y : AOper} (h : cls x.op = .w) (h' : cls y.op ≠ .p) (h'' : cls y.op ≠ .r) : clsOK x y = false := by
  unfold clsOK; rw [h]; cases hy : cls y.op <;> simp_all
theorem clsOK_xw {x y : AOper} (h : cls y.op = .w) (h' : cls x.op ≠ .p) (h'' : cls x.op ≠ .r) : clsOK x y = false := by
  unfold clsOK; rw [h]; cases hx : cls x.op <;> simp_all

theorem Reg.not_eJ (R : Reg Q σ call n ops aos chk st) {j : Nat} {z : AOper} (hz : aos[j]? = some z) (hc : cls z.op ≠ .a) : j ≠ eJ ops aos := by
  rintro rfl; exact hc (R.eJ_cls hz)

/-- What writes comes when it is the next one that writes. -/
theorem Reg.w_at (R : Reg Q σ call n ops aos chk st) (hI : Inv Q σ X0 n ops aos st D E X a) (hr : Ready ops aos D i o y) (hc : cls y.op = .w) : i = E := by
  have hi : i < aos.length := (List.getElem?_eq_some_iff.1 hr.hy).1
  rcases Nat.lt_trichotomy i E with h | h | h
  · exact absurd (hI.wD i ⟨y, hr.hy, hc⟩ h) hr.hD
  · exact h
  · rcases hI.eW with h1 | ⟨z, hz, hzc⟩
    · omega
    · exact absurd (hr.of_anc hI (R.before h hz hr.hy (.inr ⟨clsOK_wx hzc (by simp [hc]) (by simp [hc]), fun e => absurd e (R.not_eJ hr.hy (by simp [hc]))⟩))) hI.eD

/-- What lays or calls comes between the two that write around it. -/
theorem Reg.ac_at (R : Reg Q σ call n ops aos chk st) (hI : Inv Q σ X0 n ops aos st D E X a) (hr : Ready ops aos D i o y) (h1 : cls y.op ≠ .p) (h2 : cls y.op ≠ .r) (h3 : cls y.op ≠ .w) (hJ : i = eJ ops aos → i < E) : i < E ∧ ∀ j, i ≤ j → j < E → ¬ isW aos j := by
  have hi : i < aos.length := (List.getElem?_eq_some_iff.1 hr.hy).1
  refine ⟨?_, fun j hj hjE hw => ?_⟩
  · rcases Nat.lt_trichotomy i E with h | h | h
    · exact h
    · rcases hI.eW with h4 | ⟨z, hz, hzc⟩
      · omega
      · rw [← h, hr.hy] at hz; cases hz; exact absurd hzc h3
    · rcases hI.eW with h4 | ⟨z, hz, hzc⟩
      · omega
      · exact absurd (hr.of_anc hI (R.before h hz hr.hy (.inr ⟨clsOK_wx hzc h1 h2, fun e => by have := hJ e; omega⟩))) hI.eD
  · have hDj := hI.wD j hw hjE
    obtain ⟨z, hz, hzc⟩ := hw
    rcases Nat.lt_or_ge i j with h | h
    · exact hr.not_anc hI (R.before h hr.hy hz (.inr ⟨clsOK_xw hzc h1 h2, fun _ => h3⟩)) hDj
    · have : j = i := by omega
      subst this; exact hr.hD hDj

/-- What reads the heap reads what it would in its own place. -/
theorem Reg.r_at (R : Reg Q σ call n ops aos chk st) (hI : Inv Q σ X0 n ops aos st D E X a) (hr : Ready ops aos D i o y) (hc : cls y.op = .r) (hw : wanted (st i).regs y.g = some true) {v : V} {H1 : Heap} (h : xOp (st i).regs (st i).heap y.op = some (v, H1)) :
    H1 = (st i).heap ∧ xOp (st i).regs X.H y.op = some (v, X.H) := by
  have hi : i < aos.length := (List.getElem?_eq_some_iff.1 hr.hy).1
  refine ⟨(xOp_r hc (HExt.refl _) h).1, ?_⟩
  have hmay : mayAt (masks ops.toList []) aos i E = true := by
    unfold mayAt
    rw [List.all_eq_true]
    intro j hj
    have hjw := mem_wPlaces.1 hj
    split
    · rename_i hlt
      have hDj := hI.wD j hjw hlt
      cases ha : anc (masks ops.toList []) i j with
      | false => rfl
      | true => exact absurd hDj (hr.not_anc hI ha)
    · rename_i hlt
      cases ha : anc (masks ops.toList []) j i with
      | false => rfl
      | true =>
        exfalso
        have hDj := hr.of_anc hI ha
        rcases Nat.lt_or_ge E j with h1 | h1
        · rcases hI.eW with h4 | ⟨z, hz, hzc⟩
          · have := hI.dlt j hDj; omega
          · obtain ⟨z', hz', hzc'⟩ := hjw
            exact hI.eD (hI.closed.below j hDj (R.before h1 hz hz' (.inr ⟨clsOK_wx hzc (by simp [hzc']) (by simp [hzc']), fun e => absurd e (R.not_eJ hz' (by simp [hzc']))⟩)))
        · have : j = E := by omega
          subst this; exact hI.eD hDj
  rw [hI.heap]
  rcases R.ord.rd i y E hr.hy hc (hI.eW.symm) hmay with he | he
  · obtain ⟨p1, _, _, p4⟩ := phase_spec (aos := aos) (i := i) (by omega)
    rw [← he] at p1 p4
    exact (xOp_r hc (R.heap_range E p1 hI.eN p4).1 h).2
  · obtain ⟨v', H1', H2', g1, g2⟩ := R.chkd i E y he hr.hy hw
    rw [h] at g1; cases g1
    have := (xOp_r hc (HExt.refl _) g2).1
    rw [this] at g2; exact g2

/-- What the early variable's operation does. -/
theorem Reg.eJ_step (R : Reg Q σ call n ops aos chk st) {z : AOper} (hz : aos[eJ ops aos]? = some z) {zs : List FC} (hop : z.op = .alloc zs) {p : P} (hd : z.dst = some p) :
    (st (eJ ops aos + 1)).heap = (st (eJ ops aos)).heap ++ [.box (zs.map .f) 0] ∧ (st (eJ ops aos + 1)).regs.get p = .c (.ptr (st (eJ ops aos)).heap.length 0 0) := by
  obtain ⟨_, hg, _⟩ := R.ord.ear z hz
  have h := R.step _ z hz
  simp only [xStep, hg, wanted, hop, xOne, xOp, Option.map_some, Option.some.injEq] at h
  rw [← h]
  exact ⟨rfl, by rw [putR_get, if_pos hd]⟩

/-- Behind what writes: the next one that writes, and the heap before it. -/
theorem Reg.after_w (R : Reg Q σ call n ops aos chk st) (hI : Inv Q σ X0 n ops aos st D E X a) (hr : Ready ops aos D i o y) (hc : cls y.op = .w) {X1 : Wd} {a1 : Act} {u : Value} {v : V} (hS : SR Q σ X1) (hB : X1.B ≤ X1.w.heap.size) (hx : Ext X.H.length X X1)
    (hv : VR σ X1 v u) (ht : a1.tmps = (a.put o.dst u).tmps) (hreg : (st (i + 1)).regs = putR (st i).regs y.dst v) (hH : X1.H = (st (i + 1)).heap) (hd : DefsR σ X1 (st (i + 1)).defs a1.defers) :
    ∃ E' X2, X2.w = X1.w ∧ Inv Q σ X0 n ops aos st (fun j => D j ∨ j = i) E' X2 a1 := by
  have hi : i < aos.length := (List.getElem?_eq_some_iff.1 hr.hy).1
  have hiE := R.w_at hI hr hc
  subst hiE
  obtain ⟨p1, p2, p3, p4⟩ := phase_spec (aos := aos) (i := i + 1) (by omega)
  obtain ⟨q1, q2⟩ := R.heap_range _ p1 p2 p4
  rw [← hH] at q1
  obtain ⟨k1, k2⟩ := SR.ahead hS q1
  have hx2 : Ext X.H.length X { X1 with H := (st (phase aos (i + 1))).heap } := hx.trans (k2.mono hx.len)
  have hx0 : Ext X0.H.length X0 { X1 with H := (st (phase aos (i + 1))).heap } := hI.ext.trans (hx2.mono hI.ext.len)
  have hE1 : ¬ (D (phase aos (i + 1)) ∨ phase aos (i + 1) = i) := by
    rintro (h | h)
    · rcases p3 with h1 | ⟨z, hz, hzc⟩
      · have := hI.dlt _ h; omega
      · exact hr.not_anc hI (R.before p1 hr.hy hz (.inr ⟨clsOK_wx hc (by simp [hzc]) (by simp [hzc]), fun e => absurd e (R.not_eJ hz (by simp [hzc]))⟩)) h
    · omega
  have hW1 : ∀ j, isW aos j → j < phase aos (i + 1) → D j ∨ j = i := by
    intro j hjw hj
    rcases Nat.lt_trichotomy j i with h | h | h
    · exact .inl (hI.wD j hjw h)
    · exact .inr h
    · exact absurd hjw (p4 j h hj)
  have hd2 : DefsR σ { X1 with H := (st (phase aos (i + 1))).heap } (st (phase aos (i + 1))).defs a1.defers := by rw [q2]; exact hd.ext' k2
  have iJ : i ≠ eJ ops aos := R.not_eJ hr.hy (by simp [hc])
  -- the holes behind i
  have holes : ∀ j z, j < phase aos (i + 1) → ¬ (D j ∨ j = i) → aos[j]? = some z → cls z.op = .a → (st (j + 1)).heap.length ≠ (st j).heap.length → i < j ∧ X1.rho (st j).heap.length = none := by
    intro j z hj hD hz hzc hlay
    rcases Nat.lt_trichotomy j i with h | h | h
    · exact absurd (.inl (hr.of_anc hI (R.before h hz hr.hy (.inr ⟨clsOK_xw hc (by simp [hzc]) (by simp [hzc]), fun e => absurd e iJ⟩)))) hD
    · exact absurd (.inr h) hD
    · have hle := (R.heap_range j h (by omega) fun k h1 h2 => p4 k h1 (by omega)).1.len
      rw [← hH] at hle
      refine ⟨h, ?_⟩
      cases hrho : X1.rho (st j).heap.length with
      | none => rfl
      | some L => have := SR.lt hS hrho; omega
  by_cases hP : ∃ z zs c p, i ≤ eJ ops aos ∧ eJ ops aos < phase aos (i + 1) ∧ aos[eJ ops aos]? = some z ∧ z.op = .alloc zs ∧ z.dst = some p ∧ D (eJ ops aos) ∧ a.tmps.getD p.toNat undef = .pointer (some ⟨c, 0, none⟩) ∧ X0.w.heap.size ≤ c ∧ PendB σ X c zs
  · obtain ⟨z, zs, c, p, g1, g2, g3, g4, g5, g6, g7, g8, g9⟩ := hP
    obtain ⟨s1, s2⟩ := R.eJ_step g3 g4 g5
    have hJlt : i < eJ ops aos := by omega
    have hlen1 : (st (i + 1)).heap.length ≤ (st (eJ ops aos)).heap.length := (R.heap_range _ hJlt (by omega) fun k h1 h2 => p4 k h1 (by omega)).1.len
    obtain ⟨fl, hbox⟩ : ∃ fl, (st (phase aos (i + 1))).heap[(st (eJ ops aos)).heap.length]? = some (.box (zs.map .f) fl) := by
      have hr2 := (R.heap_range (phase aos (i + 1)) (show eJ ops aos + 1 ≤ _ by omega) p2 fun k h1 h2 => p4 k (by omega) h2).1
      rw [s1] at hr2
      exact hole_of hr2
    have hpb : PendB σ { X1 with H := (st (phase aos (i + 1))).heap } c zs := g9.ext hx2
    have hrn : X1.rho (st (eJ ops aos)).heap.length = none := by
      cases hrho : X1.rho (st (eJ ops aos)).heap.length with
      | none => rfl
      | some L => have := SR.lt hS hrho; rw [hH] at this; omega
    obtain ⟨a1', a2', a3'⟩ := SR.assign k1 hpb hbox hrn
    refine ⟨phase aos (i + 1), { X1 with H := (st (phase aos (i + 1))).heap, rho := fun b => if b = (st (eJ ops aos)).heap.length then some ⟨c, 0⟩ else X1.rho b }, rfl, R.fin hI hr a1' hB (hx0.assign a2' g8) (fun v u h => VR.extW' σ a2' (VR.ext' σ hx2 h)) ?_ (.inl (VR.extW' σ a2' (VR.ext' σ k2 hv))) ht hreg p2 p3 hE1 hW1 rfl (DefsR.extW' a2' hd2) ?_⟩
    · intro z' zs' c' p' _ e2 _ e4 _ e6 _ _
      rw [g3] at e2; cases e2
      rw [g5] at e4; cases e4
      rw [g7] at e6
      simp only [Value.pointer.injEq, Option.some.injEq, Addr.mk.injEq, true_and, and_true] at e6
      subst e6
      rw [if_neg (by omega), s2]
      exact a3'
    · intro j w hj hD hw hwc hlay
      obtain ⟨f1, f2⟩ := holes j w hj hD hw hwc hlay
      show (if (st j).heap.length = (st (eJ ops aos)).heap.length then some (⟨c, 0⟩ : Loc) else X1.rho (st j).heap.length) = none
      rw [if_neg, f2]
      intro e
      rcases Nat.lt_trichotomy j (eJ ops aos) with h | h | h
      · have h1 := (R.heap_range (lo := j + 1) (eJ ops aos) h (by omega) fun k h1 h2 => p4 k (by omega) (by omega)).1.len
        have h2 := (xStep_heap (by simp [hwc]) (R.step j w hw)).1.len
        clear hx0 hx2 k1 k2
        omega
      · exact hD (.inl (by rw [h]; exact g6))
      · have h1 := (R.heap_range (lo := eJ ops aos + 1) j h (by omega) fun k h1 h2 => p4 k (by omega) (by omega)).1.len
        rw [s1, List.length_append] at h1
        simp only [List.length_cons, List.length_nil] at h1
        omega
  · refine ⟨phase aos (i + 1), { X1 with H := (st (phase aos (i + 1))).heap }, rfl, R.fin hI hr k1 hB hx0 (fun v u h => VR.ext' σ hx2 h) ?_ (.inl (VR.ext' σ k2 hv)) ht hreg p2 p3 hE1 hW1 rfl hd2 (fun j z h1 h2 h3 h4 h5 => (holes j z h1 h2 h3 h4 h5).2)⟩
    intro z zs c p g1 g2 g3 g4 g5 g6 g7 g8
    by_cases hle : phase aos (i + 1) ≤ eJ ops aos
    · rw [if_pos hle]; exact g8.ext hx2
    · exact absurd ⟨z, zs, c, p, g1, by omega, g2, g3, g4, g5, g6, g7, g8⟩ hP

/-- Behind what does not write. -/
theorem Reg.after_n (R : Reg Q σ call n ops aos chk st) (hI : Inv Q σ X0 n ops aos st D E X a) (hr : Ready ops aos D i o y) (hc : cls y.op ≠ .w) {X1 : Wd} {a1 : Act} {u : Value} {v : V} (hS : SR Q σ X1) (hB : X1.B ≤ X1.w.heap.size) (hx : Ext X.H.length X X1)
    (hv : VR σ X1 v u ∨ (i = eJ ops aos ∧ E ≤ eJ ops aos ∧ ∃ zs c, y.op = .alloc zs ∧ u = .pointer (some ⟨c, 0, none⟩) ∧ X0.w.heap.size ≤ c ∧ PendB σ X1 c zs)) (ht : a1.tmps = (a.put o.dst u).tmps) (hreg : (st (i + 1)).regs = putR (st i).regs y.dst v) (hH : X1.H = X.H) (hd : DefsR σ X1 (st E).defs a1.defers)
    (hh : ∀ j z, j < E → ¬ (D j ∨ j = i) → aos[j]? = some z → cls z.op = .a → (st (j + 1)).heap.length ≠ (st j).heap.length → X1.rho (st j).heap.length = none) :
    Inv Q σ X0 n ops aos st (fun j => D j ∨ j = i) E X1 a1 := by
  refine R.fin hI hr hS hB (hI.ext.trans (hx.mono hI.ext.len)) (fun v u h => VR.ext' σ hx h) (fun z zs c p g1 _ _ _ _ _ _ g8 => by rw [if_pos g1]; exact g8.ext hx) hv ht hreg hI.eN hI.eW ?_ (fun j h1 h2 => .inl (hI.wD j h1 h2)) (hH.trans hI.heap) hd hh
  rintro (h | h)
  · exact hI.eD h
  · have hi : i < aos.length := (List.getElem?_eq_some_iff.1 hr.hy).1
    rcases hI.eW with h1 | ⟨z, hz, hzc⟩
    · omega
    · rw [h, hr.hy] at hz; cases hz; exact hc hzc

theorem Reg.same_holes (hI : Inv Q σ X0 n ops aos st D E X a) {X1 : Wd} (h : X1.rho = X.rho) : ∀ j z, j < E → ¬ (D j ∨ j = i) → aos[j]? = some z → cls z.op = .a → (st (j + 1)).heap.length ≠ (st j).heap.length → X1.rho (st j).heap.length = none :=
  fun j z h1 h2 h3 h4 h5 => by rw [h]; exact hI.holes j z h1 (fun h => h2 (.inl h)) h3 h4 h5

/-- The hole that is filled is no other's. -/
theorem Reg.other_hole (R : Reg Q σ call n ops aos chk st) (hI : Inv Q σ X0 n ops aos st D E X a) (hr : Ready ops aos D i o y) (hc : cls y.op = .a) (hJ : i = eJ ops aos → i < E) (hlay : (st (i + 1)).heap.length ≠ (st i).heap.length) {j : Nat} {z : AOper} (hj : j < E) (hD : ¬ (D j ∨ j = i)) (hz : aos[j]? = some z) (hzc : cls z.op = .a)
    (hlayj : (st (j + 1)).heap.length ≠ (st j).heap.length) : (st j).heap.length ≠ (st i).heap.length := by
  have hi : i < aos.length := (List.getElem?_eq_some_iff.1 hr.hy).1
  obtain ⟨g1, g2⟩ := R.ac_at hI hr (by simp [hc]) (by simp [hc]) (by simp [hc]) hJ
  have nW : ∀ k, j ≤ k → k < E → ¬ isW aos k := by
    intro k h1 h2 hw
    have hDk := hI.wD k hw h2
    obtain ⟨w, hw1, hw2⟩ := hw
    rcases Nat.lt_or_ge j k with h | h
    · exact hD (.inl (hI.closed.below k hDk (R.before h hz hw1 (.inr ⟨clsOK_xw hw2 (by simp [hzc]) (by simp [hzc]), fun _ => by simp [hzc]⟩))))
    · have : k = j := by omega
      subst this; exact hD (.inl hDk)
  have stepLt : ∀ k w, aos[k]? = some w → cls w.op = .a → (st (k + 1)).heap.length ≠ (st k).heap.length → (st k).heap.length < (st (k + 1)).heap.length := by
    intro k w hw hwc hne
    have := (xStep_heap (by simp [hwc]) (R.step k w hw)).1.len
    omega
  rcases Nat.lt_trichotomy j i with h | h | h
  · have h1 := stepLt j z hz hzc hlayj
    have h2 : (st (j + 1)).heap.length ≤ (st i).heap.length := (R.heap_range i h (by omega) fun k h3 h4 => nW k (by omega) (by omega)).1.len
    omega
  · exact absurd (.inr h) hD
  · have h1 := stepLt i y hr.hy hc hlay
    have h2 : (st (i + 1)).heap.length ≤ (st j).heap.length := (R.heap_range j h (by have := hI.eN; omega) fun k h3 h4 => g2 k (by omega) (by omega)).1.len
    omega

end Km
end

section
namespace Km
open Go

variable {Q : Program} {σ : Nat → FuncId} {X : Wd} {call : CallF}
variable {n : Nat} {ops : Array Oper} {aos : List AOper} {chk : List (Nat × Nat)} {st : Nat → St}
variable {X0 : Wd} {D : Nat → Prop} {E i : Nat} {a : Act} {o : Oper} {y : AOper}

/-- A new block of the world that is none of ours. -/
theorem skip_plain {w' : World} {ob : Obj} (hS : SR Q σ X) (hw : Adds X.w w' ob) : SR Q σ { X with w := w' } ∧ Ext X.H.length X { X with w := w' } := by
  have hx : Ext X.H.length X { X with w := w' } := Ext.one hS X.H.length rfl (fun _ _ => Iff.rfl) (fun k hk _ => hw.old hk)
    (fun L i h => by rw [SR.rho0 hS] at h; simp at h) (fun h => absurd h (Nat.lt_irrefl _)) (fun _ _ _ => rfl) (fun _ _ => rfl) (fun L h => .inl ⟨L, h, rfl⟩) (by show _ ≤ w'.heap.size; rw [hw.size]; omega) hw.os hw.tape hw.output
  refine ⟨SR.step Q σ hS hx X.H.length (fun _ _ => rfl) (fun _ _ => rfl) (fun b L _ hb => hw.old (hS.br b L hb).2.1)
    (fun _ _ _ _ _ h => h) (fun L h => by change X.rho X.H.length = some L at h; rw [SR.rho0 hS] at h; simp at h) (fun c i h => ?_), hx⟩
  have := hS.fb c i h; show c < w'.heap.size; rw [hw.size]; omega

theorem opRd_sub {y : AOper} {p : P} (h : p ∈ y.op.rd) : p ∈ y.rd := by unfold AOper.rd; exact List.mem_append.2 (.inr h)
theorem gRd_sub {y : AOper} {p : P} {w : Bool} (h : y.g = some (p, w)) : p ∈ y.rd := by unfold AOper.rd; rw [h]; simp

/-- **One step of a drawn region.** -/
theorem Reg.step_ok (hC : CallOK Q σ call) (R : Reg Q σ call n ops aos chk st) (hI : Inv Q σ X0 n ops aos st D E X a) (hr : Ready ops aos D i o y) {b : Frame} {rest : List Nat} {k : List Item} {cs : List Frame} (hk : okFrame b cs) (hnr : noRound y.op b) :
    ∃ E' X' a', Steps Q (lone (b.atR a (.inRegion ops (i :: rest) :: k)) cs X.w) (lone (b.atR a' (.inRegion ops rest :: k)) cs X'.w) ∧ Inv Q σ X0 n ops aos st (fun j => D j ∨ j = i) E' X' a' ∧ a'.tmps.size = a.tmps.size := by
  have hi : i < aos.length := (List.getElem?_eq_some_iff.1 hr.hy).1
  obtain ⟨o', ho', hm⟩ := R.at hr.hy
  rw [hr.ho] at ho'; cases ho'
  have hstep := R.step i y hr.hy
  have hread : ∀ p ∈ y.rd, VR σ X ((st i).regs.get p) (a.tmps.getD p.toNat undef) := fun p hp => R.reads hI hr hp
  have hmop : mOp Q σ o y.op = true := by simp only [mOper, Bool.and_eq_true] at hm; exact hm.1.1
  have psz : ∀ u, (a.put o.dst u).tmps.size = a.tmps.size := fun u => by cases o.dst <;> simp [Act.put]
  have pdf : ∀ (a : Act) u, (a.put o.dst u).defers = a.defers := fun a u => by cases o.dst <;> rfl
  have ptm : ∀ (a a' : Act) u, a'.tmps = a.tmps → (a'.put o.dst u).tmps = (a.put o.dst u).tmps := fun a a' u h => by cases o.dst <;> simp [Act.put, h]
  unfold xStep at hstep
  split at hstep
  · rename_i hwt
    have hw := wanted_ok hm (regs := (st i).regs) (tmps := a.tmps) (X := X) (fun p w' hg => hread p (gRd_sub hg)) hI.size hwt
    split at hstep
    · rename_i v s1 h1
      simp only [Option.some.injEq] at hstep
      have hreg : (st (i + 1)).regs = putR (st i).regs y.dst v := by rw [← hstep, ← xOne_regs h1]
      have hheap : (st (i + 1)).heap = s1.heap := by rw [← hstep]
      have hdefs : (st (i + 1)).defs = s1.defs := by rw [← hstep]
      -- the slots that it reads, and no others
      have hagree : ∀ p ∈ y.op.rd, (st i).regs.get p = (rdTree (st i).regs y.op.rd).get p := fun p hp => by rw [rdTree_get, if_pos hp]
      have hRR : RR σ X (rdTree (st i).regs y.op.rd) a.tmps := fun p => by
        rw [rdTree_get]
        split
        · rename_i hp; exact hread p (opRd_sub hp)
        · trivial
      have h1' := xOne_rd hagree h1
      by_cases hcw : cls y.op = .w
      · have hiE := R.w_at hI hr hcw
        obtain ⟨g1, g2⟩ := xOne_ok hC hI.sr hI.b (s := { st i with regs := rdTree (st i).regs y.op.rd }) (by rw [hI.heap, ← hiE]) hRR (by rw [hiE]; exact hI.defs) hmop h1'
        obtain ⟨X1, u, a1, k1, ⟨k2, k3, k4, k5, k6⟩, k7, k8⟩ := g1 b ops i rest k cs hr.ho hw hk hnr
        obtain ⟨E', X2, q1, q2⟩ := R.after_w hI hr hcw (a1 := a1.put o.dst u) k3 k6 k5 k4 (ptm a a1 u k7) hreg (by rw [k2, hheap]) (by rw [hdefs, pdf]; exact k8)
        exact ⟨E', X2, a1.put o.dst u, by rw [q1]; exact k1, q2, by rw [ptm a a1 u k7, psz]⟩
      · -- what does not write
        have hnd : ∀ c, o.op ≠ .defer c := mOp_notDefer hmop (fun x xs e => hcw (by rw [e]; rfl)) (fun e => by rw [e] at h1; simp [xOne, xOp] at h1)
        have one : ∀ {u : Value} {w' : World}, (execOp a.eval o).run Q X.w = .ok (.value u) w' → Steps Q (lone (b.atR a (.inRegion ops (i :: rest) :: k)) cs X.w) (lone (b.atR (a.put o.dst u) (.inRegion ops rest :: k)) cs w') := by
          intro u w' hrun
          refine .one (step_lone_go ?_)
          rw [stepGR_op hr.ho hw, Oper.semAt_eq _ _ _ hnd]
          have hfin := Frame.finish_atR b a ops i rest k u
          rw [hr.ho] at hfin
          simp only [Option.bind_some] at hfin
          rw [← hfin]
          simp [stepG.apply, Sem.runT_eq, hrun]
        by_cases hcc : cls y.op = .c
        · -- a call by value
          obtain ⟨f, xs, hop⟩ : ∃ f xs, y.op = .call f xs false := by
            generalize y.op = op at hcc
            cases op <;> first | (simp only [cls, reduceCtorEq] at hcc; done) | skip
            rename_i f xs hh
            cases hh
            · exact ⟨f, xs, rfl⟩
            · simp [cls] at hcc
          have hRR' := hRR
          rw [hop] at h1' hmop hRR'
          simp only [xOne, oneCall, Bool.false_eq_true, if_false, Option.map_eq_some_iff, Prod.mk.injEq] at h1'
          obtain ⟨⟨v', H'⟩, hp, rfl, hs1⟩ := h1'
          have hH' : H' = (st (i + 1)).heap := by
            rw [hheap]; simp only [St.mk.injEq] at hs1; exact hs1.2.2
          obtain ⟨g1, g2⟩ := R.ac_at hI hr (by simp [hcc]) (by simp [hcc]) (by simp [hcc]) (fun e => absurd e (R.not_eJ hr.hy (by simp [hcc])))
          have hHE : HExt H' X.H := by
            rw [hH', hI.heap]
            exact (R.heap_range E g1 hI.eN fun j h1 h2 => g2 j (by omega) h2).1
          obtain ⟨X1, u, k1, ⟨k2, k3, k4, k5, k6⟩, k7⟩ := callPure_rho hC hI.sr hI.b hRR' hmop hp hHE b ops i rest k cs hr.ho hw
          exact ⟨E, X1, a.put o.dst u, k1, R.after_n hI hr hcw k3 k6 k5 (.inl k4) rfl hreg k2 (by rw [pdf]; exact hI.defs.ext' k5) (Reg.same_holes hI k7), psz u⟩
        · have hx : (xOp (rdTree (st i).regs y.op.rd) (st i).heap y.op) = some (v, s1.heap) := by
            have hne : ¬ ((∃ f xs h, y.op = .call f xs h) ∨ (∃ x xs h, y.op = .calld x xs h) ∨ y.op = .recover ∨ ∃ x xs, y.op = .defer x xs) := by
              rintro (⟨f, xs, hh, e⟩ | ⟨x, xs, hh, e⟩ | e | ⟨x, xs, e⟩) <;> rw [e] at hcw hcc
              · cases hh
                · exact hcc rfl
                · exact hcw rfl
              · exact hcw rfl
              · exact hcw rfl
              · exact hcw rfl
            have hx : (xOp (rdTree (st i).regs y.op.rd) (st i).heap y.op).map (fun r => (r.1, ({ st i with regs := rdTree (st i).regs y.op.rd, heap := r.2 } : St))) = some (v, { s1 with regs := rdTree (st i).regs y.op.rd }) := by
              generalize rdTree (st i).regs y.op.rd = r at h1' 
              generalize y.op = op at h1' hne
              cases op <;> first | exact h1' | (exfalso; apply hne; simp)
            simp only [Option.map_eq_some_iff, Prod.mk.injEq, St.mk.injEq] at hx
            obtain ⟨⟨v', H'⟩, h2, rfl, _, _, h3⟩ := hx
            rw [h2]; simp only at h3; rw [h3]
          by_cases hca : cls y.op = .a
          · by_cases hearly : i = eJ ops aos ∧ E ≤ i
            · -- a variable, laid early
              obtain ⟨hiJ, hEi⟩ := hearly
              obtain ⟨⟨zs, hop⟩, _, _⟩ := R.ord.ear y (show aos[eJ ops aos]? = some y from hiJ ▸ hr.hy)
              have hx' := hx
              rw [hop] at hx' hmop
              simp only [xOp, Option.some.injEq, Prod.mk.injEq] at hx'
              obtain ⟨rfl, _⟩ := hx'
              simp only [mOp] at hmop
              split at hmop
              · rename_i t ho
                obtain ⟨z, us, h1z, h2z, h3z, _⟩ := tZero_ok (σ := σ) (X := X) hmop X.w
                have hrun : (execOp a.eval o).run Q X.w = .ok (.value (.pointer (some ⟨X.w.heap.size, 0, none⟩))) (X.w.alloc (.cells us.toArray t)) := by
                  simp only [execOp, ho]
                  refine ex_v ?_
                  simp [Instr.alloc, h1z, newVar, newRow, h2z]
                obtain ⟨e1, e2⟩ := skip_plain hI.sr (Adds.alloc X.w (.cells us.toArray t))
                refine ⟨E, { X with w := X.w.alloc (.cells us.toArray t) }, a.put o.dst (.pointer (some ⟨X.w.heap.size, 0, none⟩)), one hrun, R.after_n hI hr hcw e1 (by have := hI.b; simp; omega) e2 (.inr ⟨hiJ, by rw [← hiJ]; exact hEi, zs, X.w.heap.size, hop, rfl, hI.ext.size, ?_⟩) rfl hreg rfl (by rw [pdf]; exact hI.defs.ext' e2) (Reg.same_holes hI rfl), psz _⟩
                exact ⟨⟨us, t, (Adds.alloc X.w (.cells us.toArray t)).new, A2.ext' σ e2 h3z⟩, hI.b, fun b L hb => by have := (hI.sr.br b L hb).2.1; omega, fun j hj => by have := hI.sr.fb _ j hj; omega⟩
              · simp at hmop
            have hJ : i = eJ ops aos → i < E := fun e => by
              rcases Nat.lt_or_ge i E with h | h
              · exact h
              · exact absurd ⟨e, h⟩ hearly
            obtain ⟨g1, g2⟩ := R.ac_at hI hr (by simp [hca]) (by simp [hca]) (by simp [hca]) hJ
            have hHE : HExt s1.heap X.H := by
              rw [← hheap, hI.heap]
              exact (R.heap_range E g1 hI.eN fun j h1 h2 => g2 j (by omega) h2).1
            obtain ⟨X1, u, k1, ⟨k2, k3, k4, k5, k6⟩, k7, k8⟩ := lays_ok hI.sr hI.b hRR hca hmop hx hHE (fun hne => hI.holes i y g1 hr.hD hr.hy hca (by rw [hheap]; exact hne))
            refine ⟨E, X1, a.put o.dst u, one k1, R.after_n hI hr hcw k3 k6 k5 (.inl k4) rfl hreg k2 (by rw [pdf]; exact hI.defs.ext' k5) ?_, psz u⟩
            by_cases hlay : (st (i + 1)).heap.length = (st i).heap.length
            · exact Reg.same_holes hI (k8 (by rw [← hheap]; exact hlay))
            · intro j z h2 h3 h4 h5 h6
              rw [k7 _ (R.other_hole hI hr hca hJ hlay h2 h3 h4 h5 h6)]
              exact hI.holes j z h2 (fun h => h3 (.inl h)) h4 h5 h6
          · -- only reads
            have hpr : cls y.op = .p ∨ cls y.op = .r := by cases hcl : cls y.op <;> simp_all
            have hx0 : xOp (st i).regs (st i).heap y.op = some (v, s1.heap) := by rw [xOp_rd hagree]; exact hx
            have hxX : xOp (rdTree (st i).regs y.op.rd) X.H y.op = some (v, X.H) := by
              rcases hpr with hcl | hcl
              · have := xOp_p (r := rdTree (st i).regs y.op.rd) hcl (st i).heap X.H
                rw [hx] at this; simpa using this
              · rw [← xOp_rd hagree]; exact (R.r_at hI hr hcl hwt hx0).2
            obtain ⟨_, u, k1, k2⟩ := rd_ok hI.sr hRR hmop hpr hxX
            exact ⟨E, X, a.put o.dst u, one k1, R.after_n hI hr hcw hI.sr hI.b (Ext.refl _ _) (.inl k2) rfl hreg rfl (by rw [pdf]; exact hI.defs) (Reg.same_holes hI rfl), psz u⟩
    · simp at hstep
  · rename_i hwt
    have hw := wanted_ok hm (regs := (st i).regs) (tmps := a.tmps) (X := X) (fun p w' hg => hread p (gRd_sub hg)) hI.size hwt
    simp only [Option.some.injEq] at hstep
    have hreg : (st (i + 1)).regs = putR (st i).regs y.dst (.t []) := by rw [← hstep]
    have hheap : (st (i + 1)).heap = (st i).heap := by rw [← hstep]
    have hdefs : (st (i + 1)).defs = (st i).defs := by rw [← hstep]
    have hst : Steps Q (lone (b.atR a (.inRegion ops (i :: rest) :: k)) cs X.w) (lone (b.atR (a.put o.dst undef) (.inRegion ops rest :: k)) cs X.w) := by
      refine .one ?_
      have := stepR_op_skip (P := Q) (b := b) (a := a) (k := k) (cs := cs) (w := X.w) (ops := ops) (i := i) (rest := rest) (by simp [hr.ho, hw])
      rw [hr.ho] at this
      exact this
    by_cases hcw : cls y.op = .w
    · have hiE := R.w_at hI hr hcw
      obtain ⟨E', X2, q1, q2⟩ := R.after_w hI hr hcw (a1 := a.put o.dst undef) hI.sr hI.b (Ext.refl _ _) VR.undef rfl hreg (by rw [hI.heap, hheap, hiE]) (by rw [hdefs, pdf, hiE]; exact hI.defs)
      exact ⟨E', X2, a.put o.dst undef, by rw [q1]; exact hst, q2, psz _⟩
    · exact ⟨E, X, a.put o.dst undef, hst, R.after_n hI hr hcw hI.sr hI.b (Ext.refl _ _) (.inl VR.undef) rfl hreg rfl (by rw [pdf]; exact hI.defs) (Reg.same_holes hI rfl), psz _⟩
  · simp at hstep

end Km
end

section
namespace Km
open Go

variable {Q : Program} {σ : Nat → FuncId} {X : Wd} {call : CallF}
variable {n : Nat} {ops : Array Oper} {aos : List AOper} {chk : List (Nat × Nat)} {st : Nat → St}

def LD (listed : Array Bool) (j : Nat) : Prop := listed.getD j false = true

theorem LD_set {listed : Array Bool} {i : Nat} (hi : i < listed.size) : LD (listed.setIfInBounds i true) = fun j => LD listed j ∨ j = i := by
  funext j
  apply propext
  unfold LD
  by_cases h : i = j
  · subst h; simp [hi]
  · have : j ≠ i := fun e => h e.symm
    simp [Array.getD_eq_getD_getElem?, Array.getElem?_setIfInBounds_ne h, this]

theorem mem_ready' {listed : Array Bool} {i : Nat} (h : i ∈ Region.ready .any ops listed) : i < ops.size ∧ ¬ LD listed i ∧ ∃ o, ops[i]? = some o ∧ ∀ e ∈ o.after.toList, Region.binds .any e = true → LD listed e.on := by
  unfold Region.ready at h
  simp only [List.mem_filter, List.mem_range, Bool.and_eq_true, Bool.not_eq_true'] at h
  obtain ⟨h1, h2, h3⟩ := h
  refine ⟨h1, fun hd => ?_, ?_⟩
  · unfold LD at hd
    simp only [Array.getD_eq_getD_getElem?] at h2 hd
    cases hl : listed[i]? with
    | none => rw [hl] at h2; simp at h2
    | some bb => rw [hl] at h2 hd; simp at h2 hd; rw [h2] at hd; simp at hd
  · have ho := Array.getElem?_eq_getElem h1
    rw [ho] at h3
    simp only [Option.map_some, Option.getD_some] at h3
    refine ⟨ops[i], ho, fun e he hb => ?_⟩
    rw [← Array.all_toList, List.all_eq_true] at h3
    have := h3 e he
    simpa [hb, LD] using this

/-- Something is ready as long as something is left. -/
theorem ready_ne (hord : Ord ops.toList aos chk) (hl : aos.length = ops.size) {listed : Array Bool} (hsz : listed.size = ops.size) {j : Nat} (hj : j < ops.size) (hD : ¬ LD listed j) : Region.ready .any ops listed ≠ [] := by
  have key : ∀ m, m < ops.size → ¬ LD listed m → ∃ i, i ∈ Region.ready .any ops listed := by
    intro m
    induction m using Nat.strongRecOn with
    | ind m ih =>
      intro hm hmD
      have ho := Array.getElem?_eq_getElem hm
      by_cases hall : ∀ e ∈ ops[m].after.toList, Region.binds .any e = true → LD listed e.on
      · refine ⟨m, ?_⟩
        unfold Region.ready
        simp only [List.mem_filter, List.mem_range, Bool.and_eq_true, Bool.not_eq_true', ho, Option.map_some, Option.getD_some]
        refine ⟨hm, ?_, ?_⟩
        · unfold LD at hmD
          have hlt : m < listed.size := by omega
          simp [hlt] at hmD ⊢
          exact hmD
        · rw [← Array.all_toList, List.all_eq_true]
          intro e he
          by_cases hb : Region.binds .any e = true
          · have := hall e he hb; unfold LD at this; simp [this]
          · simp [hb]
      · simp only [Classical.not_forall] at hall
        obtain ⟨e, he, hb, hne⟩ := hall
        have := hord.back m ops[m] (by omega) (by simp [hm]) e he hb
        exact ih e.on this (by omega) hne
  obtain ⟨i, hi⟩ := key j hj hD
  intro h; rw [h] at hi; simp at hi

/-- **A drawn region, from any point of it on.** -/
theorem drawn_go (hC : CallOK Q σ call) (R : Reg Q σ call n ops aos chk st) {b : Frame} {k : List Item} {cs : List Frame} (hk : okFrame b cs) (hnr : ∀ y ∈ aos, noRound y.op b) :
    ∀ (X0 : Wd) (fuel t : Nat) (listed : Array Bool) (U : List Nat) (E : Nat) (X : Wd) (a : Act), listed.size = ops.size → U.Nodup → (∀ j, j < ops.size → (¬ LD listed j ↔ j ∈ U)) → U.length ≤ fuel → Inv Q σ X0 n ops aos st (LD listed) E X a →
    ∃ D' E' X' a', Steps Q (lone (b.atR a (.inRegion ops (Region.linearise.go .any ops fuel t listed []) :: k)) cs X.w) (lone (b.atR a' k) cs X'.w) ∧ Inv Q σ X0 n ops aos st D' E' X' a' ∧ (∀ j, j < ops.size → D' j) ∧ a'.tmps.size = a.tmps.size := by
  have hlen : aos.length = ops.size := by have := (all2_A2 R.mops).len; simpa using this.symm
  intro X0 fuel
  induction fuel with
  | zero =>
    intro t listed U E X a hsz hU hUD hUl hI
    refine ⟨LD listed, E, X, a, ?_, hI, fun j hj => ?_, rfl⟩
    · simp only [Region.linearise.go, List.reverse_nil]
      exact .one stepR_region_end
    · have hnil : U = [] := List.eq_nil_of_length_eq_zero (by omega)
      refine Classical.byContradiction fun h => ?_
      have := (hUD j hj).1 h
      rw [hnil] at this; simp at this
  | succ fuel ih =>
    intro t listed U E X a hsz hU hUD hUl hI
    simp only [Region.linearise.go]
    change ∃ D' E' X' a', Steps Q (lone (b.atR a (.inRegion ops (match (Region.ready .any ops listed)[t % (Region.ready .any ops listed).length]? with
      | some i => Region.linearise.go .any ops fuel (t / (Region.ready .any ops listed).length) (listed.setIfInBounds i true) [i]
      | none => [].reverse) :: k)) cs X.w) _ ∧ _
    cases hi : (Region.ready .any ops listed)[t % (Region.ready .any ops listed).length]? with
    | none =>
      have hnil : Region.ready .any ops listed = [] := by
        cases hr : Region.ready .any ops listed with
        | nil => rfl
        | cons x xs =>
          rw [hr] at hi
          have hlt : t % (x :: xs).length < (x :: xs).length := Nat.mod_lt _ (by simp)
          rw [List.getElem?_eq_none_iff] at hi
          omega
      refine ⟨LD listed, E, X, a, ?_, hI, fun j hj => ?_, rfl⟩
      · exact .one stepR_region_end
      · exact Classical.byContradiction fun h => ready_ne R.ord hlen hsz hj h hnil
    | some i =>
      simp only []
      rw [linearise_go_acc, List.reverse_singleton, List.singleton_append]
      obtain ⟨r1, r2, o, r3, r4⟩ := mem_ready' (List.mem_of_getElem? hi)
      have hy := List.getElem?_eq_getElem (show i < aos.length by omega)
      have hr : Ready ops aos (LD listed) i o aos[i] := ⟨r3, hy, r2, r4⟩
      obtain ⟨E', X1, a1, g1, g2, g4⟩ := R.step_ok hC hI hr (b := b) (rest := Region.linearise.go .any ops fuel (t / (Region.ready .any ops listed).length) (listed.setIfInBounds i true) []) (k := k) (cs := cs) hk (hnr _ (List.getElem_mem _))
      rw [← LD_set (by omega)] at g2
      have hmem : i ∈ U := (hUD i r1).1 r2
      obtain ⟨D', E2, X2, a2, k1, k2, k3, k5⟩ := ih (t / (Region.ready .any ops listed).length) (listed.setIfInBounds i true) (U.erase i) E' X1 a1 (by simpa using hsz) (hU.erase i)
        (fun j hj => by
          rw [hU.mem_erase_iff, ← hUD j hj, LD_set (by omega)]
          constructor
          · intro h; exact ⟨fun e => h (.inr e), fun h' => h (.inl h')⟩
          · rintro ⟨h1, h2⟩ (h | h)
            · exact h2 h
            · exact h1 h)
        (by rw [List.length_erase_of_mem hmem]; omega) g2
      exact ⟨D', E2, X2, a2, g1.trans k1, k2, k3, k5.trans g4⟩

/-- **A drawn region.** -/
theorem drawn_ok (hC : CallOK Q σ call) (hmix : Q.follows .mixedOrders = true) (R : Reg Q σ call n ops aos chk st) {b : Frame} {k : List Item} {cs : List Frame} (hk : okFrame b cs) (hnr : ∀ y ∈ aos, noRound y.op b) {X : Wd} {a : Act} (hF : Fr Q σ n X (st 0) a) (id : Nat) :
    ∃ X' a', Steps Q (lone (b.atR a (.code (.region id ops true) :: k)) cs X.w) (lone (b.atR a' k) cs X'.w) ∧ Fr Q σ n X' (st aos.length) a' ∧ Ext X.H.length X X' ∧ a'.tmps.size = a.tmps.size := by
  have hlen : aos.length = ops.size := by have := (all2_A2 R.mops).len; simpa using this.symm
  -- the tape is drawn from
  let X0 : Wd := { X with w := { X.w with drawn := X.w.drawn + 1 } }
  have hx0 : Ext X.H.length X X0 :=
    { B := rfl, F := fun _ _ h => h, Fnew := fun _ _ h => .inl h, fw := fun _ _ _ => rfl, keep := fun b _ blk hb => ⟨blk, hb, by cases blk <;> simp [X0]⟩
      img := fun b L h => .inl ⟨b, L, h, rfl⟩, size := Nat.le_refl _, os := rfl, tape := rfl, output := rfl, frame := fun _ _ _ => rfl }
  have hS0 : SR Q σ X0 := by
    refine ⟨fun b L hb => ?_, hF.sr.inj, hF.sr.fb⟩
    obtain ⟨h1, h2, blk, h3, h4⟩ := hF.sr.br b L hb
    exact ⟨h1, h2, blk, h3, BR.ext Q σ hx0 rfl (fun _ h => h) h4⟩
  obtain ⟨p1, p2, p3, p4⟩ := phase_spec (aos := aos) (i := 0) (by omega)
  obtain ⟨q1, q2⟩ := R.heap_range _ p1 p2 p4
  have hH0 : X0.H = (st 0).heap := hF.heap
  rw [← hH0] at q1
  obtain ⟨k1, k2⟩ := SR.ahead hS0 q1
  have hx1 : Ext X.H.length X { X0 with H := (st (phase aos 0)).heap } := hx0.trans k2
  have hnone : ∀ j, ¬ LD (Array.replicate ops.size false) j := fun j h => by
    unfold LD at h
    simp only [Array.getD_eq_getD_getElem?, Array.getElem?_replicate] at h
    split at h <;> simp at h
  have hI : Inv Q σ { X0 with H := (st (phase aos 0)).heap } n ops aos st (LD (Array.replicate ops.size false)) (phase aos 0) { X0 with H := (st (phase aos 0)).heap } a := by
    refine ⟨fun j o h => absurd h (hnone j), fun j h => absurd h (hnone j), p2, p3, hnone _, fun j h1 h2 => absurd h1 (p4 j (Nat.zero_le _) h2), rfl, Ext.refl _ _, k1, hF.b, by rw [q2]; exact hF.defs.ext' hx1, hF.size,
      fun p => ⟨0, Nat.zero_le _, .inl (VR.ext' σ hx1 (hF.regs p)), fun j y _ _ => ⟨fun h => by omega, fun h => absurd h (hnone j)⟩⟩, fun j y h1 _ h3 h4 h5 => ?_⟩
    show X.rho _ = none
    have hle := (R.heap_range j (Nat.zero_le _) (by omega) fun k h1 h2 => p4 k h1 (by omega)).1.len
    cases hrho : X.rho (st j).heap.length with
    | none => rfl
    | some L => have := SR.lt hF.sr hrho; rw [hF.heap] at this; omega
  obtain ⟨D', E', X', a', g1, g2, g3, g5⟩ := drawn_go hC R hk hnr (k := k) { X0 with H := (st (phase aos 0)).heap } ops.size (X.w.tape X.w.drawn (.order b.fn id)) (Array.replicate ops.size false) (List.range ops.size) (phase aos 0) { X0 with H := (st (phase aos 0)).heap } a (by simp) List.nodup_range
    (fun j hj => ⟨fun _ => by simpa using hj, fun _ => hnone j⟩) (by simp) hI
  have hE : E' = aos.length := by
    rcases g2.eW with h | ⟨z, hz, _⟩
    · exact h
    · exact absurd (g3 E' (by have := (List.getElem?_eq_some_iff.1 hz).1; omega)) g2.eD
  subst hE
  refine ⟨X', a', .head stepR_region_draw ?_, ⟨g2.heap, g2.sr, g2.b, fun p => ?_, g2.defs, g2.size⟩, hx1.trans (g2.ext.mono (hx1.len)), g5⟩
  · simp only [Region.schedule, hmix, Bool.true_or, if_true]
    exact g1
  · obtain ⟨K, hK, hv, hw⟩ := g2.slots p
    have hv : VR σ X' ((st K).regs.get p) (a'.tmps.getD p.toNat undef) := by
      rcases hv with hv | ⟨z, zs, c, _, hE, hz, _⟩
      · exact hv
      · have := (List.getElem?_eq_some_iff.1 hz).1; omega
    rw [← R.regs_range aos.length hK (Nat.le_refl _) fun j y h1 h2 hy hd => ?_]
    · exact hv
    · have := (hw j y hy hd).2 (g3 j (by omega)); omega

end Km
end

section
namespace Km
open Go

variable {Q : Program} {σ : Nat → FuncId} {X : Wd} {call : CallF}

theorem all2b_eq {α : Type} {f : α → α → Bool} (hf : ∀ x y, f x y = true → x = y) : ∀ {xs ys : List α}, all2b f xs ys = true → xs = ys
  | [], [], _ => rfl
  | x :: xs, y :: ys, h => by
    simp only [all2b, Bool.and_eq_true] at h
    rw [hf x y h.1, all2b_eq hf h.2]
  | [], _ :: _, h => by simp [all2b] at h
  | _ :: _, [], h => by simp [all2b] at h

theorem FC.beq_eq : ∀ (n : Nat) (a b : FC), FC.beq n a b = true → a = b := by
  intro n
  induction n with
  | zero =>
    intro a b h
    cases a <;> cases b <;> simp_all [FC.beq]
  | succ n ih =>
    intro a b h
    cases a <;> cases b <;> simp_all [FC.beq]
    all_goals exact all2b_eq ih h.2

theorem C.beq_eq {a b : C} (h : a.beq b = true) : a = b := by
  cases a <;> cases b <;> simp_all [C.beq]
  exact FC.beq_eq _ _ _ h

theorem V.beq_eq {a b : V} (h : a.beq b = true) : a = b := by
  cases a <;> cases b <;> simp only [V.beq, Bool.false_eq_true] at h
  · rw [C.beq_eq h]
  · rename_i xs ys
    simp only [Bool.and_eq_true, beq_iff_eq, List.all_eq_true] at h
    congr 1
    refine List.ext_getElem h.1 fun i h1 h2 => C.beq_eq (h.2 (xs[i], ys[i]) ?_)
    exact List.mem_of_getElem? (i := i) (by rw [List.getElem?_zip_eq_some]; exact ⟨List.getElem?_eq_getElem h1, List.getElem?_eq_getElem h2⟩)

/-- The states of a run in the order of the text. -/
theorem states_of : ∀ {aos : List AOper} {s s' : St}, xOps call aos s = some s' → ∃ ss : List St, xStates call aos s = some ss ∧ ss.getLast? = some s'
  | [], s, s', h => by simp only [xOps, Option.some.injEq] at h; subst h; exact ⟨[s], rfl, rfl⟩
  | o :: os, s, s', h => by
    simp only [xOps] at h
    split at h
    · rename_i s1 h1
      obtain ⟨ss, h2, h3⟩ := states_of h
      refine ⟨s :: ss, by simp [xStates, h1, h2], ?_⟩
      cases ss with
      | nil => simp at h3
      | cons x xs => simpa using h3
    · simp at h

theorem states_spec : ∀ {aos : List AOper} {s : St} {ss : List St}, xStates call aos s = some ss → ss.length = aos.length + 1 ∧ ss[0]? = some s ∧
    ∀ i y, aos[i]? = some y → ∃ u v, ss[i]? = some u ∧ ss[i + 1]? = some v ∧ xStep call u y = some v
  | [], s, ss, h => by
    simp only [xStates, Option.some.injEq] at h; subst h
    exact ⟨rfl, rfl, fun i y h => by simp at h⟩
  | o :: os, s, ss, h => by
    simp only [xStates] at h
    split at h
    · rename_i s1 h1
      split at h
      · rename_i ss' h2
        simp only [Option.some.injEq] at h; subst h
        obtain ⟨g1, g2, g3⟩ := states_spec h2
        refine ⟨by simp [g1], rfl, fun i y hy => ?_⟩
        cases i with
        | zero =>
          simp only [List.getElem?_cons_zero, Option.some.injEq] at hy
          subst hy
          exact ⟨s, s1, rfl, by simpa using g2, h1⟩
        | succ i => simpa using g3 i y (by simpa using hy)
      · simp at h
    · simp at h

theorem states_ops : ∀ {aos : List AOper} {s : St} {ss : List St} {s' : St}, xStates call aos s = some ss → ss.getLast? = some s' → xOps call aos s = some s'
  | [], s, ss, s', h, hl => by simp only [xStates, Option.some.injEq] at h; subst h; simpa [xOps] using hl
  | o :: os, s, ss, s', h, hl => by
    simp only [xStates] at h
    split at h
    · rename_i s1 h1
      split at h
      · rename_i ss' h2
        simp only [Option.some.injEq] at h; subst h
        have := (states_spec h2).1
        simp only [xOps, h1]
        refine states_ops h2 ?_
        cases ss' with
        | nil => simp at this
        | cons x xs => simpa using hl
      · simp at h
    · simp at h

/-- **Every region.** -/
theorem region_ok (hC : CallOK Q σ call) (hmix : Q.follows .mixedOrders = true) {n : Nat} {id : Nat} {ops : Array Oper} {draw : Bool} {aos : List AOper} {chk : List (Nat × Nat)} (hm : mCode Q σ n (.region id ops draw) (.region aos chk) = true)
    {b : Frame} {k : List Item} {cs : List Frame} (hk : okFrame b cs) (hnr : ∀ y ∈ aos, noRound y.op b) {X : Wd} {a : Act} {s s' : St} (hF : Fr Q σ n X s a) (h : xRegion call aos chk s = some s') :
    ∃ X' a', Steps Q (lone (b.atR a (.code (.region id ops draw) :: k)) cs X.w) (lone (b.atR a' k) cs X'.w) ∧ Fr Q σ n X' s' a' ∧ Ext X.H.length X X' ∧ a'.tmps.size = a.tmps.size := by
  simp only [mCode, Bool.and_eq_true, Bool.or_eq_true, Bool.not_eq_true'] at hm
  obtain ⟨hops, hord⟩ := hm
  -- the run in the order of the text, and the checks
  obtain ⟨ss, h1, h2, h3⟩ : ∃ ss : List St, xStates call aos s = some ss ∧ ss.getLast? = some s' ∧ ∀ c ∈ chk, sameAt aos ss c = true := by
    unfold xRegion at h
    split at h
    · obtain ⟨ss, g1, g2⟩ := states_of h
      exact ⟨ss, g1, g2, by simp⟩
    · split at h
      · rename_i ss hss
        split at h
        · rename_i hall
          exact ⟨ss, hss, h, List.all_eq_true.1 hall⟩
        · simp at h
      · simp at h
  cases draw with
  | false =>
    obtain ⟨X', a', g1, g2⟩ := xOps_ok hC hk (k := k) aos 0 X s s' a hF (by simpa using hops) hnr (states_ops h1 h2)
    exact ⟨X', a', .head stepR_region (by simpa using g1), g2⟩
  | true =>
    obtain ⟨g1, g2, g3⟩ := states_spec h1
    let st : Nat → St := fun i => ss.getD i s
    have hst : ∀ i u, ss[i]? = some u → st i = u := fun i u hu => by simp [st, List.getD_eq_getElem?_getD, hu]
    have R : Reg Q σ call n ops aos chk st := by
      refine ⟨hops, ordOK_ord (hord.resolve_left (by simp)), fun i y hy => ?_, fun i e y hc hy hw => ?_⟩
      · obtain ⟨u, v, e1, e2, e3⟩ := g3 i y hy
        rw [hst _ _ e1, hst _ _ e2]; exact e3
      · have hs := h3 _ hc
        simp only [sameAt, hy] at hs
        split at hs
        · rename_i o s1 s2 e1 e2 e3
          cases e1
          rw [hst _ _ e2] at hw ⊢
          rw [hst _ _ e3]
          rw [hw] at hs
          simp only at hs
          split at hs
          · rename_i v x1 v' x2 e4 e5
            rw [← V.beq_eq hs] at e5
            exact ⟨v, x1, x2, e4, e5⟩
          · simp at hs
        · simp at hs
    have h0 : st 0 = s := hst 0 s g2
    have hN : st aos.length = s' := hst _ _ (by rw [List.getLast?_eq_getElem?, g1] at h2; simpa using h2)
    rw [← h0] at hF
    rw [← hN]
    exact drawn_ok hC hmix R hk hnr hF id

end Km
end

section
namespace Km
open Go

variable {Q : Program} {σ : Nat → FuncId} {X : Wd} {call : CallF}

def isLp (X : Wd) (b : Nat) : Prop := ∃ f t p a c s q d, X.H[b]? = some (.lp f t p a c s q d)

theorem isLp.ext {X X' : Wd} (hx : Ext X.H.length X X') {b : Nat} (h : isLp X b) : isLp X' b ∧ ∀ L, X.rho b = some L → X'.rho b = some L := by
  obtain ⟨f, t, p, a, c, s, q, d, hb⟩ := h
  obtain ⟨blk', hb', hk⟩ := hx.keep b (List.getElem?_eq_some_iff.1 hb).1 _ hb
  cases blk' <;> simp only at hk
  exact ⟨⟨_, _, _, _, _, _, _, _, hb'⟩, hk.2⟩

inductive ItemR (Q : Program) (σ : Nat → FuncId) (n : Nat) (X : Wd) : AItem → Item → Prop
  | code {a : ACode} {c : Code} (h : mCode Q σ n c a = true) : ItemR Q σ n X (.code a) (.code c)
  | inBlock (id : Nat) : ItemR Q σ n X (.inBlock id) (.inBlock id)
  | inLoop {a : ACode} {c : Code} (h : mCode Q σ n c a = true) : ItemR Q σ n X (.inLoop a) (.inLoop c)
  | endRF {b : Nat} {L : Loc} (h : X.rho b = some L) (hl : isLp X b) : ItemR Q σ n X (.endRF b) (.endRangeFunc L.c)
  | begR : ItemR Q σ n X .begR .beginRound
  | inScope {a : ACode} {c : Code} (h : mCode Q σ n c a = true) (hs : spineOK a = true) : ItemR Q σ n X (.inScope a) (.inScope c)

theorem ItemR.ext {n : Nat} {X X' : Wd} (hx : Ext X.H.length X X') {x : AItem} {y : Item} (h : ItemR Q σ n X x y) : ItemR Q σ n X' x y := by
  cases h with
  | code h => exact .code h
  | inBlock id => exact .inBlock id
  | inLoop h => exact .inLoop h
  | endRF h hl => exact .endRF ((hl.ext hx).2 _ h) (hl.ext hx).1
  | begR => exact .begR
  | inScope h hs => exact .inScope h hs

def RoR (X : Wd) : Option Nat → Option Nat → Prop
  | none, none => True
  | some b, some l => ∃ L, X.rho b = some L ∧ L.c = l ∧ isLp X b
  | _, _ => False

theorem RoR.ext {X X' : Wd} (hx : Ext X.H.length X X') {ro ro' : Option Nat} (h : RoR X ro ro') : RoR X' ro ro' := by
  cases ro <;> cases ro' <;> simp only [RoR] at h ⊢
  obtain ⟨L, h1, h2, h3⟩ := h
  exact ⟨L, (h3.ext hx).2 _ h1, h2, (h3.ext hx).1⟩

theorem exitTo_ok {n : Nat} (id : Nat) : ∀ (k : List AItem) (ks : List Item), A2 (ItemR Q σ n X) k ks →
    match Km.exitTo id k with
    | some k' => ∃ ks', Go.exitTo id ks = some ks' ∧ A2 (ItemR Q σ n X) k' ks'
    | none => Go.exitTo id ks = none
  | [], ks, h => by
    have : ks = [] := List.eq_nil_of_length_eq_zero h.len.symm
    subst this; rfl
  | x :: k, [], h => by have := h.len; simp at this
  | x :: k, y :: ks, h => by
    obtain ⟨h1, h2⟩ := h.of_cons
    have ih := exitTo_ok id k ks h2
    cases h1 with
    | inBlock id' =>
      simp only [Km.exitTo, Go.exitTo]
      by_cases he : (id' == id) = true
      · simp only [he, if_true]; exact ⟨ks, rfl, h2⟩
      · simp only [he, Bool.false_eq_true, if_false]; exact ih
    | _ => exact ih

theorem findLabel_ok {n : Nat} (l : Nat) : ∀ (a : ACode) (c : Code), mCode Q σ n c a = true → spineOK a = true →
    match Km.findLabel a l with
    | some r => ∃ r', Go.findLabel c l = some r' ∧ mCode Q σ n r' r = true
    | none => Go.findLabel c l = none := by
  intro a
  induction a with
  | seq a b iha ihb =>
    intro c h hs
    simp only [spineOK, Bool.and_eq_true] at hs
    cases c with
    | seq c d =>
      simp only [mCode, Bool.and_eq_true] at h
      have h1 := iha c h.1 hs.1
      simp only [Km.findLabel, Go.findLabel]
      cases hf : Km.findLabel a l with
      | some r =>
        rw [hf] at h1
        obtain ⟨r', h2, h3⟩ := h1
        simp only [h2]
        exact ⟨_, rfl, by simp [mCode, h3, h.2]⟩
      | none =>
        rw [hf] at h1
        simp only [h1]
        exact ihb d h.2 hs.2
    | _ => simp [mCode] at h
  | label l' =>
    intro c h _
    cases c with
    | label l2 =>
      simp only [mCode, beq_iff_eq] at h
      subst h
      simp only [Km.findLabel, Go.findLabel]
      by_cases he : (l2 == l) = true
      · simp only [he, if_true]; exact ⟨_, rfl, by simp [mCode]⟩
      · simp only [he, Bool.false_eq_true, if_false]
    | _ => simp [mCode] at h
  | bad => intro c h hs; simp [spineOK] at hs
  | _ => intro c h _; cases c <;> simp_all [mCode, Km.findLabel, Go.findLabel]

theorem gotoIn_ok {n : Nat} (l : Nat) : ∀ (k : List AItem) (ks : List Item), A2 (ItemR Q σ n X) k ks →
    match Km.gotoIn l k with
    | some k' => ∃ ks', Go.gotoIn l ks = some ks' ∧ A2 (ItemR Q σ n X) k' ks'
    | none => Go.gotoIn l ks = none
  | [], ks, h => by
    have : ks = [] := List.eq_nil_of_length_eq_zero h.len.symm
    subst this; rfl
  | x :: k, [], h => by have := h.len; simp at this
  | x :: k, y :: ks, h => by
    obtain ⟨h1, h2⟩ := h.of_cons
    have ih := gotoIn_ok l k ks h2
    cases h1 with
    | inScope hm hs =>
      rename_i a c
      have h3 := findLabel_ok (Q := Q) (σ := σ) l a c hm hs
      simp only [Km.gotoIn, Go.gotoIn]
      cases hf : Km.findLabel a l with
      | some r =>
        rw [hf] at h3
        obtain ⟨r', h4, h5⟩ := h3
        simp only [h4]
        exact ⟨_, rfl, A2.cons (.code h5) (A2.cons (.inScope hm hs) h2)⟩
      | none =>
        rw [hf] at h3
        simp only [h3]
        exact ih
    | _ => exact ih

/-- How a frame ends: by which jump. -/
def EndR : Option ACode → List Item → Prop
  | none, items => items = []
  | some .ret, items => ∃ k, items = .code .ret :: k
  | some (.exit id), items => ∃ k, items = .code (.exit id) :: k ∧ Go.exitTo id k = none
  | _, _ => False

end Km
end

section
namespace Km
open Go

variable {Q : Program} {σ : Nat → FuncId} {X : Wd} {call : CallF}

/-- What a loop's record is. -/
theorem loop_of {b : Nat} {L : Loc} (hS : SR Q σ X) (hL : X.rho b = some L) {f : Nat} {t : T} {ps : List P} {as bd : ACode} {q : LoopSt} {pend : Option ACode} {d : Nat} (hb : X.H[b]? = some (.lp f t ps as bd q pend d)) :
    ∃ (n : Nat) (us : Array Value) (ps' : Array Tmp) (as' bd' : Code) (pend' : Option Code) (Ld : Loc),
      X.w.heap[L.c]? = some (.loop { state := q.of, pending := pend', fn := σ f, tmps := us, params := ps', assign := as', body := bd', defers := Ld.c }) ∧
      n ≤ us.size ∧ RR σ X t us ∧ all2 (fun p (q : P) => q.toNat == p && decide (p < n)) ps'.toList ps = true ∧ mCode Q σ n as' as = true ∧ mCode Q σ n bd' bd = true ∧ mJump Q σ n pend pend' ∧ X.rho d = some Ld ∧ ∃ o, X.H[d]? = some (.dfr o) := by
  obtain ⟨_, _, blk, hb', hbr⟩ := hS.br b L hL
  rw [hb] at hb'; cases hb'
  exact hbr

theorem putObj_heap {w : World} {k : Nat} {o : Obj} (hk : k < w.heap.size) : (w.putObj k o).heap.size = w.heap.size ∧ (w.putObj k o).heap[k]? = some o ∧ (∀ j, j ≠ k → (w.putObj k o).heap[j]? = w.heap[j]?) ∧
    (w.putObj k o).os = w.os ∧ (w.putObj k o).tape = w.tape ∧ (w.putObj k o).output = w.output := by
  refine ⟨by simp [World.putObj], by simp [World.putObj, hk], fun j hj => ?_, rfl, rfl, rfl⟩
  simp [World.putObj, Array.getElem?_setIfInBounds_ne (Ne.symm hj)]

/-- A record turns. -/
theorem turn_lp (hS : SR Q σ X) {b : Nat} {L : Loc} (hL : X.rho b = some L) {f : Nat} {t : T} {ps : List P} {as bd : ACode} {q q' : LoopSt} {pend pend1 : Option ACode} {d : Nat} (hb : X.H[b]? = some (.lp f t ps as bd q pend d))
    {n : Nat} {us : Array Value} {ps' : Array Tmp} {as' bd' : Code} {pend' : Option Code} {Ld : Loc}
    (h2 : n ≤ us.size) (h3 : RR σ X t us) (h4 : all2 (fun p (q : P) => q.toNat == p && decide (p < n)) ps'.toList ps = true) (h5 : mCode Q σ n as' as = true) (h6 : mCode Q σ n bd' bd = true) (h7 : mJump Q σ n pend1 pend') (h8 : X.rho d = some Ld) (h9 : ∃ o, X.H[d]? = some (.dfr o)) :
    SR Q σ { X with H := X.H.set b (.lp f t ps as bd q' pend1 d), w := X.w.putObj L.c (.loop { state := q'.of, pending := pend', fn := σ f, tmps := us, params := ps', assign := as', body := bd', defers := Ld.c }) } ∧
    Ext X.H.length X { X with H := X.H.set b (.lp f t ps as bd q' pend1 d), w := X.w.putObj L.c (.loop { state := q'.of, pending := pend', fn := σ f, tmps := us, params := ps', assign := as', body := bd', defers := Ld.c }) } := by
  obtain ⟨m, us0, ps0, as0, bd0, pd0, Ld0, hobj, _⟩ := loop_of hS hL hb
  have hlt : b < X.H.length := (List.getElem?_eq_some_iff.1 hb).1
  refine SR.turnObj (o' := .loop { state := q'.of, pending := pend', fn := σ f, tmps := us, params := ps', assign := as', body := bd', defers := Ld.c }) (blk' := .lp f t ps as bd q' pend1 d) hS hb hL hobj (by simp) (by simp)
    (fun blk hblk => ⟨.lp f t ps as bd q' pend1 d, by simp [hlt], by rw [hb] at hblk; cases hblk; exact ⟨⟨rfl, rfl, rfl, rfl, rfl, rfl⟩, fun L h => h⟩⟩)
    (fun X' hx' hw1 _ hrho hH => ?_)
  obtain ⟨o, h9⟩ := h9
  refine ⟨n, us, ps', as', bd', pend', Ld, hw1, h2, RR.ext' σ hx' h3, h4, h5, h6, h7, by rw [hrho]; exact h8, o, ?_⟩
  have hne : b ≠ d := fun e => by rw [e, h9] at hb; cases hb
  rw [hH, List.getElem?_set_ne hne]; exact h9

end Km
end

section
namespace Km
open Go

variable {Q : Program} {σ : Nat → FuncId} {call : CallF}

/-- What is known of a frame under way. -/
structure Way (Q : Program) (σ : Nat → FuncId) (fn : Nat) (n : Nat) (b : Frame) (cs : List Frame) (ro : Option Nat) (todo : List AItem) (items : List Item) (s : St) (X : Wd) (a : Act) : Prop where
  fr : Fr Q σ n X s a
  items : A2 (ItemR Q σ n X) todo items
  ro : RoR X ro b.roundOf
  kind : okFrame b cs
  fn : b.fn = σ fn

theorem Way.ext {fn n : Nat} {b : Frame} {cs : List Frame} {ro : Option Nat} {todo : List AItem} {items : List Item} {s s' : St} {X X' : Wd} {a a' : Act} (h : Way Q σ fn n b cs ro todo items s X a) {todo' : List AItem} {items' : List Item} (hx : Ext X.H.length X X') (hF : Fr Q σ n X' s' a')
    (hi : A2 (ItemR Q σ n X) todo' items') : Way Q σ fn n b cs ro todo' items' s' X' a' :=
  ⟨hF, hi.imp fun _ _ h => h.ext hx, h.ro.ext hx, h.kind, h.fn⟩

theorem Way.to {fn n : Nat} {b : Frame} {cs : List Frame} {ro : Option Nat} {todo : List AItem} {items : List Item} {s : St} {X : Wd} {a : Act} (h : Way Q σ fn n b cs ro todo items s X a) {todo' : List AItem} {items' : List Item}
    (hi : A2 (ItemR Q σ n X) todo' items') : Way Q σ fn n b cs ro todo' items' s X a := ⟨h.fr, hi, h.ro, h.kind, h.fn⟩

def RunOK (Q : Program) (σ : Nat → FuncId) (call : CallF) (fn m : Nat) : Prop :=
  ∀ (n : Nat) (b : Frame) (cs : List Frame) ro todo items s X a jump s', run call fn m ro todo s = some (jump, s') → Way Q σ fn n b cs ro todo items s X a →
    ∃ X' a' items', Steps Q (lone (b.atR a items) cs X.w) (lone (b.atR a' items') cs X'.w) ∧ Fr Q σ n X' s' a' ∧ Ext X.H.length X X' ∧ a'.tmps.size = a.tmps.size ∧ EndR jump items'

theorem stepR_inScope {b : Frame} {a : Act} {k : List Item} {cs : List Frame} {w : World} {body : Code} : step Q (lone (b.atR a (.inScope body :: k)) cs w) = .next (lone (b.atR a k) cs w) :=
  step_lone_go (by simp [stepG, stepG.exec, Frame.atR])

theorem stepR_scope {b : Frame} {a : Act} {k : List Item} {cs : List Frame} {w : World} {body : Code} : step Q (lone (b.atR a (.code (.scope body) :: k)) cs w) = .next (lone (b.atR a (.code body :: .inScope body :: k)) cs w) :=
  step_lone_go (by simp [stepG, stepG.exec, Frame.atR])

theorem run_ok (hC : CallOK Q σ call) (hmix : Q.follows .mixedOrders = true) (fn : Nat) : ∀ m, RunOK Q σ call fn m := by
  intro m
  induction m with
  | zero => intro n b cs ro todo items s X a jump s' h; simp [run] at h
  | succ m ih =>
    intro n b cs ro todo items s X a jump s' h hW
    -- one step of the machine and on
    have go : ∀ {todo' items'}, run call fn m ro todo' s = some (jump, s') → A2 (ItemR Q σ n X) todo' items' → step Q (lone (b.atR a items) cs X.w) = .next (lone (b.atR a items') cs X.w) →
        ∃ X' a' items', Steps Q (lone (b.atR a items) cs X.w) (lone (b.atR a' items') cs X'.w) ∧ Fr Q σ n X' s' a' ∧ Ext X.H.length X X' ∧ a'.tmps.size = a.tmps.size ∧ EndR jump items' := by
      intro todo' items' hr hi hst
      obtain ⟨X', a', it, g1, g2⟩ := ih n b cs ro todo' items' s X a jump s' hr (hW.to hi)
      exact ⟨X', a', it, .head hst g1, g2⟩
    cases todo with
    | nil =>
      have : items = [] := List.eq_nil_of_length_eq_zero hW.items.len.symm
      subst this
      simp only [run, Option.some.injEq, Prod.mk.injEq] at h
      obtain ⟨rfl, rfl⟩ := h
      exact ⟨X, a, [], Steps.refl _ _, hW.fr, Ext.refl _ _, rfl, rfl⟩
    | cons x k =>
      cases items with
      | nil => have := hW.items.len; simp at this
      | cons it ks =>
        obtain ⟨hx, hks⟩ := hW.items.of_cons
        cases hx with
        | inBlock id => exact go (by simpa [run] using h) hks stepR_inBlock
        | inLoop hm => exact go (by simpa [run] using h) (A2.cons (.code hm) (A2.cons (.inLoop hm) hks)) stepR_inLoop
        | inScope hm hs => exact go (by simpa [run] using h) hks stepR_inScope
        | endRF hb hl =>
          rename_i bb L
          simp only [run] at h
          split at h
          · rename_i f t ps as bd q pend d hlp
            split at h
            · simp at h
            · rename_i hq
              rw [← hW.fr.heap] at hlp
              obtain ⟨m0, us, ps', as', bd', pend', Ld, hobj, h2, h3, h4, h5, h6, h7, h8, h9⟩ := loop_of hW.fr.sr hb hlp
              obtain ⟨g1, g2⟩ := turn_lp hW.fr.sr hb hlp (q' := .exhausted) h2 h3 h4 h5 h6 h7 h8 h9
              have hne : (q.of) ≠ LoopState.busy := by cases q <;> simp [LoopSt.of] at hq ⊢
              have hst := stepR_endRangeFunc (P := Q) (b := b) (a := a) (k := ks) (cs := cs) (run_endLoop (P := Q) hobj hne)
              have key : ∀ {todo' items'}, run call fn m ro todo' { s with heap := s.heap.set bb (.lp f t ps as bd .exhausted pend d) } = some (jump, s') → A2 (ItemR Q σ n X) todo' items' → items' = (pend'.map Item.code).toList ++ ks →
                  ∃ X' a' items', Steps Q (lone (b.atR a (.endRangeFunc L.c :: ks)) cs X.w) (lone (b.atR a' items') cs X'.w) ∧ Fr Q σ n X' s' a' ∧ Ext X.H.length X X' ∧ a'.tmps.size = a.tmps.size ∧ EndR jump items' := by
                intro todo' items' hr hi he
                obtain ⟨X', a', it, k1, k2, k3, k4, k5⟩ := ih n b cs ro todo' items' _ _ a jump s' hr (hW.ext (a' := a) g2 ⟨by rw [← hW.fr.heap], g1, by simpa [World.putObj] using hW.fr.b, hW.fr.regs.ext' σ g2, hW.fr.defs.ext' g2, hW.fr.size⟩ hi)
                rw [he] at k1
                exact ⟨X', a', it, .head hst k1, k2, g2.trans (k3.mono g2.len), k4, k5⟩
              split at h
              · cases pend' with
                | none => exact key h hks rfl
                | some c => exact h7.elim
              · cases pend' with
                | none => exact h7.elim
                | some c =>
                  have h7 : mCode Q σ m0 c .ret = true := h7
                  cases c <;> simp [mCode] at h7
                  exact key h (A2.cons (.code (by simp [mCode])) hks) rfl
              · rename_i id
                cases pend' with
                | none => exact h7.elim
                | some c =>
                  have h7 : mCode Q σ m0 c (.exit id) = true := h7
                  cases c <;> simp [mCode] at h7
                  subst h7
                  exact key h (A2.cons (.code (by simp [mCode])) hks) rfl
              · simp at h
          · simp at h
        | begR =>
          simp only [run] at h
          split at h
          · simp at h
          · rename_i bb
            split at h
            · rename_i f t ps as bd pend d hlp
              have hro := hW.ro
              cases hbr : b.roundOf with
              | none => rw [hbr] at hro; exact hro.elim
              | some l =>
                rw [hbr] at hro
                obtain ⟨L, hL, rfl, _⟩ := hro
                rw [← hW.fr.heap] at hlp
                obtain ⟨m0, us, ps', as', bd', pend', Ld, hobj, h2, h3, h4, h5, h6, h7, h8, h9⟩ := loop_of hW.fr.sr hL hlp
                obtain ⟨g1, g2⟩ := turn_lp hW.fr.sr hL hlp (q' := .busy) h2 h3 h4 h5 h6 h7 h8 h9
                have hst := stepR_beginRound (P := Q) (b := b) (a := a) (k := ks) (cs := cs) hbr (run_beginRound (P := Q) hobj rfl)
                obtain ⟨X', a', it, k1, k2, k3, k4, k5⟩ := ih n b cs _ k ks _ _ a jump s' h (hW.ext (a' := a) g2 ⟨by rw [← hW.fr.heap], g1, by simpa [World.putObj] using hW.fr.b, hW.fr.regs.ext' σ g2, hW.fr.defs.ext' g2, hW.fr.size⟩ hks)
                exact ⟨X', a', it, .head hst k1, k2, g2.trans (k3.mono g2.len), k4, k5⟩
            · simp at h
        | code hm =>
          rename_i ac c
          cases ac with
          | bad => simp [run] at h
          | skip => cases c <;> simp [mCode] at hm; exact go (by simpa [run] using h) hks stepR_skip
          | label l => cases c <;> simp [mCode] at hm; exact go (by simpa [run] using h) hks stepR_label
          | scope p =>
            cases c <;> simp [mCode] at hm
            exact go (by simpa [run] using h) (A2.cons (.code hm.1) (A2.cons (.inScope hm.1 hm.2) hks)) stepR_scope
          | goto l =>
            cases c <;> simp [mCode] at hm
            subst hm
            rename_i l'
            have hex := gotoIn_ok (Q := Q) (σ := σ) (n := n) (X := X) l' k ks hks
            simp only [run] at h
            split at h
            · rename_i k' hk'
              rw [hk'] at hex
              obtain ⟨ks', he, hks'⟩ := hex
              exact go h hks' (stepR_goto he)
            · simp at h
          | ret =>
            cases c <;> simp [mCode] at hm
            simp only [run, Option.some.injEq, Prod.mk.injEq] at h
            obtain ⟨rfl, rfl⟩ := h
            exact ⟨X, a, _, Steps.refl _ _, hW.fr, Ext.refl _ _, rfl, ks, rfl⟩
          | seq p q =>
            cases c <;> simp [mCode] at hm
            exact go (by simpa [run] using h) (A2.cons (.code hm.1) (A2.cons (.code hm.2) hks)) stepR_seq
          | block id p =>
            cases c <;> simp [mCode] at hm
            obtain ⟨rfl, hm⟩ := hm
            exact go (by simpa [run] using h) (A2.cons (.code hm) (A2.cons (.inBlock _) hks)) stepR_block
          | loop p =>
            cases c <;> simp [mCode] at hm
            exact go (by simpa [run] using h) (A2.cons (.code hm) (A2.cons (.inLoop hm) hks)) stepR_loop
          | exit id =>
            cases c <;> simp [mCode] at hm
            subst hm
            rename_i id'
            have hex := exitTo_ok (Q := Q) (σ := σ) (n := n) (X := X) id' k ks hks
            simp only [run] at h
            split at h
            · rename_i k' hk'
              rw [hk'] at hex
              obtain ⟨ks', he, hks'⟩ := hex
              exact go h hks' (stepR_exit he)
            · rename_i hk'
              rw [hk'] at hex
              split at h
              · simp only [Option.some.injEq, Prod.mk.injEq] at h
                obtain ⟨rfl, rfl⟩ := h
                exact ⟨X, a, _, Steps.refl _ _, hW.fr, Ext.refl _ _, rfl, ks, rfl, hex⟩
              · simp at h
          | cond x p q =>
            cases c <;> simp [mCode] at hm
            simp only [run] at h
            split at h
            · rename_i v hv
              have hx := mA_ok hW.fr.regs hm.1.1
              rw [hv] at hx
              have hx' : FCR σ X.F X.w (.bool v) _ := hx
              have he : ∀ u, FCR σ X.F X.w (.bool v) u → u = .bool v := fun u hu => by cases hu; rfl
              refine go h ?_ (stepR_cond (he _ hx'))
              cases v
              · exact A2.cons (.code hm.2) hks
              · exact A2.cons (.code hm.1.2) hks
            · simp at h
          | region aos chk =>
            cases c with
            | region id ops draw =>
              simp only [run] at h
              split at h
              · simp at h
              · rename_i hro
                split at h
                · rename_i s1 h1
                  have hnr : ∀ y ∈ aos, noRound y.op b := by
                    intro y hy
                    unfold noRound
                    cases ro with
                    | none =>
                      refine .inl ?_
                      have := hW.ro
                      cases hb : b.roundOf with
                      | none => rfl
                      | some l => rw [hb] at this; exact this.elim
                    | some r =>
                      simp only [Option.isSome_some, Bool.true_and, Bool.not_eq_true', Bool.not_eq_false] at hro
                      exact .inr (List.all_eq_true.1 hro y hy)
                  obtain ⟨X1, a1, g1, g2, g3, g4⟩ := region_ok hC hmix hm hW.kind hnr (k := ks) hW.fr h1
                  obtain ⟨X', a', it, k1, k2, k3, k4, k5⟩ := ih n b cs ro k ks s1 X1 a1 jump s' h (hW.ext g3 g2 hks)
                  exact ⟨X', a', it, g1.trans k1, k2, g3.trans (k3.mono g3.len), k4.trans g4, k5⟩
                · simp at h
            | _ => simp [mCode] at hm
          | rangeF f ps as bd =>
            cases c with
            | rangeFunc f' ps' as' bd' =>
              simp only [mCode, Bool.and_eq_true] at hm
              obtain ⟨⟨⟨hm1, hm2⟩, hm3⟩, hm4⟩ := hm
              simp only [run] at h
              split at h
              · simp at h
              · rename_i hro
                have hrn : b.roundOf = none := by
                  have := hW.ro
                  cases ro with
                  | some r => simp at hro
                  | none =>
                    cases hb : b.roundOf with
                    | none => rfl
                    | some l => rw [hb] at this; exact this.elim
                split at h
                · rename_i g args hcal
                  split at h
                  · rename_i r2 H2 hcall
                    obtain ⟨X1, w1, H1, S1, E1, r1, B1⟩ := SR.new hW.fr.sr hW.fr.b (.dfr true) (Adds.alloc X.w (.deferred (some []))) 0 (fun X' hx hw hF hH => by
                      show X'.w.heap[X.w.heap.size]? = _
                      rw [hw]; exact (Adds.alloc X.w (.deferred (some []))).new)
                    have hd1 : X1.H[X.H.length]? = some (.dfr true) := by rw [H1]; simp
                    have hdlt : X.H.length < X1.H.length := by rw [H1]; simp
                    have hsz1 : X1.w.heap.size = X.w.heap.size + 1 := by rw [w1]; simp
                    obtain ⟨X2, w2, H2', S2, E2, r2', B2⟩ := SR.new S1 B1 (.lp fn s.regs ps as bd .ready none s.heap.length)
                      (Adds.alloc X1.w (.loop { state := .ready, pending := none, fn := b.fn, tmps := a.tmps, params := ps', assign := as', body := bd', defers := X.w.heap.size })) 0 (fun X' hx hw hF hH => by
                        obtain ⟨blk', hb', hk'⟩ := hx.keep X.H.length hdlt _ hd1
                        cases blk' <;> simp only at hk'
                        refine ⟨n, a.tmps, ps', as', bd', none, ⟨X.w.heap.size, 0⟩, ?_, hW.fr.size, RR.ext' σ hx (RR.ext' σ E1 hW.fr.regs), hm2, hm3, hm4, trivial, ?_, ?_⟩
                        · show X'.w.heap[X1.w.heap.size]? = _
                          rw [hw, (Adds.alloc X1.w (.loop { state := .ready, pending := none, fn := b.fn, tmps := a.tmps, params := ps', assign := as', body := bd', defers := X.w.heap.size })).new, hW.fn]; rfl
                        · rw [← hW.fr.heap]; exact hk' _ r1
                        · rw [← hW.fr.heap]; exact ⟨_, hb'⟩)
                    have hx2 : Ext X.H.length X X2 := E1.trans (E2.mono E1.len)
                    have hH2 : X2.H = s.heap ++ [.dfr true, .lp fn s.regs ps as bd .ready none s.heap.length] := by rw [H2', H1, ← hW.fr.heap]; simp
                    have hl1 : X1.H.length = s.heap.length + 1 := by rw [H1, ← hW.fr.heap]; simp
                    have hlp : isLp X2 (s.heap.length + 1) := ⟨fn, s.regs, ps, as, bd, .ready, none, s.heap.length, by rw [hH2, List.getElem?_append_right (by omega)]; simp⟩
                    rw [hl1, hsz1] at r2'
                    have harg : A2 (VR σ X2) [.c (.yl (s.heap.length + 1))] [.func (.yield (X.w.heap.size + 1)) #[] #[]] := A2.cons ⟨⟨X.w.heap.size + 1, 0⟩, r2', hlp, rfl⟩ A2.nil
                    obtain ⟨fst, cap, hv1, hv2⟩ := calleeV_ok hcal (VR.ext' σ hx2 (mA_ok hW.fr.regs hm1)) harg
                    rw [← hH2] at hcall
                    have hen := hC.enters _ _ _ _ hcall
                    let a1 : Act := { a with defers := { target := .collected X.w.heap.size, args := #[] } :: a.defers }
                    obtain ⟨fr, X3, u, q1, ⟨l1, l2, l3, l4, fn', l5, l6⟩, q3, q4, q5, q6, q7⟩ := hC.fn g args _ r2 H2 hcall X2 _ .normal (b.atR a1 (.inRangeFunc (X.w.heap.size + 1) :: ks) :: cs) rfl S2 B2 hv2 (.inl rfl)
                    have hst : step Q (lone (b.atR a (.code (.rangeFunc f' ps' as' bd') :: ks)) cs X.w) = .next (lone (Frame.enter Q (σ g) (fst.toArray ++ #[.func (.yield (X.w.heap.size + 1)) #[] #[]] ++ cap.toArray) .normal) (b.atR a1 (.inRangeFunc (X.w.heap.size + 1) :: ks) :: cs) X2.w) := by
                      refine stepR_rangeFunc (P := Q) (b := b) (a := a) (k := ks) (cs := cs) (l := X.w.heap.size + 1) (mark := [{ target := .collected X.w.heap.size, args := #[] }]) (w₁ := X2.w) (w₁' := X2.w) (d := { target := .fn (.func (σ g)) cap.toArray, args := fst.toArray ++ #[.func (.yield (X.w.heap.size + 1)) #[] #[]] }) ?_ ?_ ?_
                      · rw [hrn, run_enterLoop_outer, w2, w1]
                      · simp only [resolve, hv1, Deferred.ofValue, Sem.run_bind, Sem.run_pure, Result.andThen_ok]; simp [Act.eval]
                      · exact run_invoke_fn hen
                    have hx3 : Ext X.H.length X X3 := hx2.trans (q6.mono hx2.len)
                    have hback := step_leave_returned (P := Q) (c := b.atR a1 (.inRangeFunc (X.w.heap.size + 1) :: ks)) (cs := cs) (show fr.leaving Q X3.w (.returned u) from ⟨l1, l2, l3, fn', by rw [l4]; exact l5, l6⟩)
                    rw [finish_atR_inRangeFunc] at hback
                    have hlp3 := hlp.ext q6
                    have hdf : DefR σ X3 (.coll s.heap.length) { target := .collected X.w.heap.size, args := #[] } := by
                      obtain ⟨blk', hb', hk'⟩ := (E2.trans (q6.mono E2.len)).keep X.H.length hdlt _ hd1
                      cases blk' <;> simp only at hk'
                      rw [← hW.fr.heap]
                      exact ⟨⟨X.w.heap.size, 0⟩, _, hk' _ r1, hb', rfl⟩
                    obtain ⟨X', a', it, k1, k2, k3, k4, k5⟩ := ih n b cs ro (.endRF (s.heap.length + 1) :: k) (.endRangeFunc (X.w.heap.size + 1) :: ks) _ X3 a1 jump s' h
                      ⟨⟨q3, q4, q7, RR.ext' σ hx3 hW.fr.regs, A2.cons hdf (hW.fr.defs.ext' hx3), hW.fr.size⟩, A2.cons (.endRF (hlp3.2 _ r2') hlp3.1) (hks.imp fun _ _ h => h.ext hx3), hW.ro.ext hx3, hW.kind, hW.fn⟩
                    refine ⟨X', a', it, .head hst (Steps.trans ?_ (.head hback k1)), k2, hx3.trans (k3.mono hx3.len), k4, k5⟩
                    simpa using q1
                  · simp at h
                · simp at h
            | _ => simp [mCode] at hm

end Km
end

section
namespace Km
open Go

variable {Q : Program} {σ : Nat → FuncId} {X : Wd} {call : CallF}

/-- Functions that are taken by what is known of them. -/
def PrimOK (Q : Program) (σ : Nat → FuncId) (prim : Nat → List V → Heap → Option (Option (V × Heap))) : Prop :=
  ∀ f args H r H', prim f args H = some (some (r, H')) →
    (∀ as w, (callFunc (σ f) as).run Q w = .ok (.enter (σ f) as) w) ∧
    ∀ (X : Wd) us kind cs, X.H = H → SR Q σ X → X.B ≤ X.w.heap.size → A2 (VR σ X) args us → okKind kind cs →
      ∃ fr X' u, Steps Q (lone (Frame.enter Q (σ f) us.toArray kind) cs X.w) (lone fr cs X'.w) ∧ Leaves Q (σ f) kind fr u X'.w ∧ Post Q σ X r H' X' u

/-- The table beside the loaded program. -/
structure Env (Q : Program) (σ : Nat → FuncId) (tab : Nat → Option AFunc) (prim : Nat → List V → Heap → Option (Option (V × Heap))) : Prop where
  mix : Q.follows .mixedOrders = true
  fn : ∀ f af, tab f = some af → ∃ fn, Q.funcs[σ f]? = some fn ∧ mFunc Q σ fn af = true
  prim : PrimOK Q σ prim

theorem setAll_get : ∀ (ps : List P) (args : List V) (t : T) (s : Nat), ps.map P.toNat = List.range' s ps.length → args.length = ps.length → ∀ q : P,
    (setAll ps args t).get q = if s ≤ q.toNat then (args[q.toNat - s]?).getD (t.get q) else t.get q
  | [], args, t, s, _, hl, q => by
    have : args = [] := List.eq_nil_of_length_eq_zero hl
    subst this
    simp [setAll]
  | p :: ps, [], t, s, _, hl, q => by simp at hl
  | p :: ps, v :: vs, t, s, hp, hl, q => by
    simp only [List.map_cons, List.length_cons, List.range'_succ, List.cons.injEq] at hp
    have ih := setAll_get ps vs (t.set p v) (s + 1) hp.2 (by simpa using hl) q
    simp only [setAll, ih]
    by_cases hq : p = q
    · subst hq
      rw [if_neg (by omega), T.get_set]
      simp [hp.1]
    · have hne : q.toNat ≠ s := fun e => hq (P.toNat_inj (hp.1.trans e.symm))
      simp only [T.get_set, hq, if_false]
      by_cases hs : s ≤ q.toNat
      · have h1 : s + 1 ≤ q.toNat := by omega
        have h2 : q.toNat - s = (q.toNat - (s + 1)) + 1 := by omega
        simp [h1, hs, h2]
      · have h1 : ¬ (s + 1 ≤ q.toNat) := by omega
        simp [h1, hs]

theorem RR.setAll : ∀ (ps : List P) (ps' : List Tmp) (args : List V) (us : List Value) (regs : T) (tmps : Array Value) (n : Nat), n ≤ tmps.size → RR σ X regs tmps → A2 (VR σ X) args us → args.length = ps.length →
    all2 (fun p (q : P) => q.toNat == p && decide (p < n)) ps' ps = true → RR σ X (Km.setAll ps args regs) ((ps'.zip us).foldl (fun tmps (t, a) => tmps.setIfInBounds t a) tmps)
  | [], ps', args, us, regs, tmps, n, hn, hR, hA, hl, h => by
    have : args = [] := List.eq_nil_of_length_eq_zero hl
    subst this
    have : us = [] := List.eq_nil_of_length_eq_zero hA.len.symm
    subst this
    simpa [Km.setAll] using hR
  | p :: ps, [], args, us, regs, tmps, n, hn, hR, hA, hl, h => by simp [all2] at h
  | p :: ps, p' :: ps', [], us, regs, tmps, n, hn, hR, hA, hl, h => by simp at hl
  | p :: ps, p' :: ps', v :: vs, [], regs, tmps, n, hn, hR, hA, hl, h => by have := hA.len; simp at this
  | p :: ps, p' :: ps', v :: vs, u :: us, regs, tmps, n, hn, hR, hA, hl, h => by
    simp only [all2, Bool.and_eq_true, beq_iff_eq, decide_eq_true_eq] at h
    obtain ⟨⟨h1, h2⟩, h3⟩ := h
    obtain ⟨hvu, hA⟩ := hA.of_cons
    subst h1
    refine RR.setAll ps ps' vs us _ _ n (by simpa using hn) (RR.set σ hR (by omega) hvu) hA (by simpa using hl) h3

theorem setAll_size : ∀ (l : List (Tmp × Value)) (tmps : Array Value), (l.foldl (fun tmps (t, a) => tmps.setIfInBounds t a) tmps).size = tmps.size
  | [], _ => rfl
  | x :: l, tmps => by rw [List.foldl_cons, setAll_size l]; simp

/-- A frame that is no round ends by its end or by 'return'. -/
theorem run_jump (fn : Nat) : ∀ m todo s jump s', run call fn m none todo s = some (jump, s') → jump = none ∨ jump = some .ret := by
  intro m
  induction m with
  | zero => intro todo s jump s' h; simp [run] at h
  | succ m ih =>
    intro todo s jump s' h
    unfold run at h
    split at h
    all_goals first
      | exact ih _ _ _ _ h
      | (simp at h; done)
      | skip
    · simp only [Option.some.injEq, Prod.mk.injEq] at h; exact .inl h.1.symm
    · split at h
      · split at h
        · simp at h
        · split at h
          · exact ih _ _ _ _ h
          · exact ih _ _ _ _ h
          · exact ih _ _ _ _ h
          · simp at h
      · simp at h
    · split at h
      · exact ih _ _ _ _ h
      · simp at h
    · simp only [Option.some.injEq, Prod.mk.injEq] at h; exact .inr h.1.symm
    · split at h
      · exact ih _ _ _ _ h
      · simp at h
    · split at h
      · exact ih _ _ _ _ h
      · simp at h
    · split at h
      · simp at h
      · split at h
        · exact ih _ _ _ _ h
        · simp at h
    · split at h
      · simp at h
      · simp only at h
        split at h
        · split at h
          · exact ih _ _ _ _ h
          · simp at h
        · simp at h

/-- What the function's row says. -/
theorem mFunc_parts {fn : Func} {af : AFunc} (h : mFunc Q σ fn af = true) : ∃ c, fn.name ≠ "runtime.NumGoroutine" ∧ fn.body = some c ∧ mCode Q σ fn.ntmps c af.body = true ∧
    all2 (mRes Q fn.ntmps) fn.results.toList af.results = true ∧ af.ps.map P.toNat = List.range af.ps.length := by
  simp only [mFunc, Bool.and_eq_true, bne_iff_ne, ne_eq, decide_eq_true_eq] at h
  obtain ⟨⟨⟨h1, h2⟩, h3⟩, h4⟩ := h
  cases hb : fn.body with
  | none => rw [hb] at h2; simp at h2
  | some c => rw [hb] at h2; exact ⟨c, h1, rfl, h2, h3, h4⟩

theorem run_callFunc {f : FuncId} {fn : Func} {c : Code} (hf : Q.funcs[f]? = some fn) (hn : fn.name ≠ "runtime.NumGoroutine") (hb : fn.body = some c) (as : Array Value) (w : World) : (callFunc f as).run Q w = .ok (.enter f as) w := by
  simp [callFunc, hf, hn, hb]

/-- A frame that returns. -/
def Returning (g : FuncId) (kind : CallKind) (tmps : Array Value) (ds : List Deferred) (fr : Frame) : Prop :=
  fr.mode = .returning ∧ fr.defers = ds ∧ fr.kind = kind ∧ fr.fn = g ∧ fr.tmps = tmps

theorem step_collected {fr : Frame} {cs : List Frame} {w w' : World} {b : Nat} {as : Array Value} {ds : List Deferred} (hm : fr.mode = .returning) (hd : fr.defers = { target := .collected b, args := as } :: ds)
    (hr : (Instr.takeDeferred b).run Q w = .ok [] w') : step Q (lone fr cs w) = .next (lone { fr with defers := ds } cs w') :=
  step_lone_go (by simp [stepG, unwind, hm, hd, Sem.runT_eq, hr])

theorem step_deferred {fr : Frame} {cs : List Frame} {w : World} {f : FuncId} {cap as as' : Array Value} {ds : List Deferred} (hm : fr.mode = .returning) (hd : fr.defers = { target := .fn (.func f) cap, args := as } :: ds)
    (hr : (invoke (.fn (.func f) cap) as).run Q w = .ok (.enter f as') w) : step Q (lone fr cs w) = .next (lone (Frame.enter Q f as' .deferred) ({ fr with defers := ds } :: cs) w) :=
  step_lone_go (by simp [stepG, unwind, hm, hd, callDeferred, Sem.runT_eq, hr])

theorem step_leave_deferred {fr c : Frame} {cs : List Frame} {w : World} {v : Value} {f : FuncId} (h : Leaves Q f .deferred fr v w) (hc : c.mode = .returning) :
    step Q (lone fr (c :: cs) w) = .next (lone c cs w) := by
  obtain ⟨hm, hd, hk, hf, fn, h1, h2⟩ := h
  rw [← hf] at h1
  exact step_lone_go (by simp [stepG, unwind, doReturn, hm, hd, hk, h1, Sem.runT_eq, h2, hc])

theorem Returning.pop {g : FuncId} {kind : CallKind} {tmps : Array Value} {d : Deferred} {ds : List Deferred} {fr : Frame} (h : Returning g kind tmps (d :: ds) fr) : Returning g kind tmps ds { fr with defers := ds } :=
  ⟨h.1, rfl, h.2.2.1, h.2.2.2.1, h.2.2.2.2⟩

/-- The deferred calls of a frame that returns. -/
theorem defs_ok (hC : CallOK Q σ call) {g : FuncId} {kind : CallKind} {tmps : Array Value} {cs : List Frame} : ∀ (ds : List ADef) (X : Wd) (ms : List Deferred) (fr : Frame) (H' : Heap),
    runDefs call ds X.H = some H' → SR Q σ X → X.B ≤ X.w.heap.size → DefsR σ X ds ms → Returning g kind tmps ms fr →
    ∃ fr' X', Steps Q (lone fr cs X.w) (lone fr' cs X'.w) ∧ Returning g kind tmps [] fr' ∧ X'.H = H' ∧ SR Q σ X' ∧ X'.B ≤ X'.w.heap.size ∧ Ext X.H.length X X'
  | [], X, ms, fr, H', h, hS, hB, hD, hR => by
    have : ms = [] := List.eq_nil_of_length_eq_zero hD.len.symm
    subst this
    simp only [runDefs, Option.some.injEq] at h
    exact ⟨fr, X, Steps.refl _ _, hR, h, hS, hB, Ext.refl _ _⟩
  | d :: ds, X, [], fr, H', h, hS, hB, hD, hR => by have := hD.len; simp at this
  | .coll b :: ds, X, m :: ms, fr, H', h, hS, hB, hD, hR => by
    obtain ⟨⟨L, o, h1, h2, rfl⟩, hD'⟩ := A2.of_cons hD
    simp only [runDefs] at h
    split at h
    · rename_i hb
      obtain ⟨_, _, blk, hb', hbr⟩ := hS.br b L h1
      rw [hb] at hb'; cases hb'
      have hobj : X.w.heap[L.c]? = some (.deferred (some [])) := hbr
      obtain ⟨g1, g2⟩ := SR.turnObj (o' := .deferred none) (blk' := .dfr false) hS hb h1 hobj (by simp) (by simp)
        (fun blk hblk => ⟨.dfr false, by simp [(List.getElem?_eq_some_iff.1 hb).1], by rw [hb] at hblk; cases hblk; exact fun L h => h⟩)
        (fun X' hx' hw1 _ hrho hH => hw1)
      obtain ⟨fr', X', k1, k2, k3, k4, k5, k6⟩ := defs_ok hC ds _ ms { fr with defers := ms } H' h g1 (by simpa using hB) (DefsR.ext' g2 hD') hR.pop
      exact ⟨fr', X', .head (step_collected hR.1 hR.2.1 (run_takeDeferred hobj)) k1, k2, k3, k4, k5, g2.trans (k6.mono g2.len)⟩
    · simp at h
  | .fn f args :: ds, X, m :: ms, fr, H', h, hS, hB, hD, hR => by
    obtain ⟨⟨us, cap, rfl, hA⟩, hD'⟩ := A2.of_cons hD
    simp only [runDefs] at h
    split at h
    · rename_i r H1 hcall
      have hen := hC.enters f args _ _ hcall
      obtain ⟨fr1, X1, u, q1, q2, q3, q4, q5, q6, q7⟩ := hC.fn f args _ r H1 hcall X _ .deferred ({ fr with defers := ms } :: cs) rfl hS hB hA (.inr ⟨rfl, _, _, rfl, hR.1⟩)
      rw [← q3] at h
      obtain ⟨fr', X', k1, k2, k3, k4, k5, k6⟩ := defs_ok hC ds X1 ms { fr with defers := ms } H' h q4 q7 (DefsR.ext' q6 hD') hR.pop
      refine ⟨fr', X', .head (step_deferred (as' := us ++ cap) hR.1 hR.2.1 (run_invoke_fn hen)) (Steps.trans ?_ (.head (step_leave_deferred (c := { fr with defers := ms }) q2 hR.1) k1)), k2, k3, k4, k5, q6.trans (k6.mono q6.len)⟩
      have e : (us.toList ++ cap.toList).toArray = us ++ cap := by apply Array.ext'; simp
      rw [e] at q1
      exact q1
    · simp at h

/-- A result variable. -/
theorem res_ok (hS : SR Q σ X) {n : Nat} {regs : T} {tmps : Array Value} (hR : RR σ X regs tmps) {r : ResultVar} {a : ARes} (hm : mRes Q n r a = true) {v : V}
    (h : resOne regs X.H a = some v) : ∃ u, (match r with | .tmp t => pure (tmps.getD t undef) | .cell a t => do loadVar t (← asAddr (tmps.getD a undef)) : Sem Value).run Q X.w = .ok u X.w ∧ VR1 σ X v u := by
  cases r with
  | tmp t =>
    cases a with
    | tmp p =>
      simp only [mRes, Bool.and_eq_true, beq_iff_eq, decide_eq_true_eq] at hm
      have hv := hR p
      rw [hm.1] at hv
      simp only [resOne] at h
      refine ⟨_, rfl, ?_⟩
      split at h
      · simp at h
      · rename_i hne
        simp only [Option.some.injEq] at h
        rw [h] at hv
        cases v with
        | t vs => exact absurd h (hne vs)
        | top => trivial
        | c x => exact hv
        | a xs => exact hv
    | cell p k => simp [mRes] at hm
  | cell t ty =>
    cases a with
    | tmp p => simp [mRes] at hm
    | cell p k =>
      simp only [mRes, Bool.and_eq_true, beq_iff_eq, decide_eq_true_eq] at hm
      have hv := hR p
      rw [hm.1.1] at hv
      simp only [resOne] at h
      cases hx : regs.get p with
      | c x =>
        rw [hx] at h hv
        simp only [ldV, Option.bind_eq_some_iff] at h
        obtain ⟨cs, h1, h2⟩ := h
        obtain ⟨c, o, us, he, h3, h4⟩ := cellsAt_ok hS hv h1
        obtain ⟨u, h5, h6⟩ := takeV_ok hm.2 h3 h4 h2
        refine ⟨u, by simp [he, asAddr, h5], ?_⟩
        cases k with
        | none => cases cs with
          | nil => simp [takeV] at h2
          | cons y ys => simp only [takeV, Option.some.injEq] at h2; subst h2; exact h6
        | some k =>
          simp only [takeV] at h2
          split at h2
          · simp only [Option.some.injEq] at h2; subst h2; exact h6
          · simp at h2
      | _ => rw [hx] at h; simp [ldV] at h

theorem results_ok (hS : SR Q σ X) {fn : Func} {rs : List ARes} (hm : all2 (mRes Q fn.ntmps) fn.results.toList rs = true) {regs : T} {tmps : Array Value} (hR : RR σ X regs tmps) {v : V}
    (h : Km.results regs X.H rs = some v) : ∃ u, (Go.results fn tmps).run Q X.w = .ok u X.w ∧ VR σ X v u := by
  have key : ∀ (rs : List ARes) (qs : List ResultVar) (vs : List V), all2 (mRes Q fn.ntmps) qs rs = true → mapO (resOne regs X.H) rs = some vs →
      ∃ us : List Value, (qs.mapM (fun r => match r with | .tmp t => pure (tmps.getD t undef) | .cell a t => do loadVar t (← asAddr (tmps.getD a undef)) : ResultVar → Sem Value)).run Q X.w = .ok us X.w ∧ A2 (VR1 σ X) vs us := by
    intro rs
    induction rs with
    | nil =>
      intro qs vs h1 h2
      cases qs with
      | nil => simp only [mapO, Option.some.injEq] at h2; subst h2; exact ⟨[], rfl, A2.nil⟩
      | cons q qs => simp [all2] at h1
    | cons a rs ih =>
      intro qs vs h1 h2
      cases qs with
      | nil => simp [all2] at h1
      | cons q qs =>
        simp only [all2, Bool.and_eq_true] at h1
        simp only [mapO] at h2
        split at h2
        · simp at h2
        · rename_i v1 e1
          split at h2
          · simp at h2
          · rename_i vs1 e2
            simp only [Option.some.injEq] at h2; subst h2
            obtain ⟨u, g1, g2⟩ := res_ok hS hR h1.1 e1
            obtain ⟨us, g3, g4⟩ := ih qs vs1 h1.2 e2
            refine ⟨u :: us, ?_, A2.cons g2 g4⟩
            rw [List.mapM_cons, Sem.run_bind, g1]
            simp only [Result.andThen_ok, Sem.run_bind, g3, Sem.run_pure]
  unfold Km.results at h
  have fin : ∀ vs, mapO (resOne regs X.H) rs = some vs → ∃ us : List Value, (Go.results fn tmps).run Q X.w = .ok (if h : us.toArray.size = 1 then us.toArray[0] else .tuple us.toArray) X.w ∧ A2 (VR1 σ X) vs us := by
    intro vs hvs
    obtain ⟨us, g1, g2⟩ := key rs fn.results.toList vs hm hvs
    refine ⟨us, ?_, g2⟩
    unfold Go.results
    rw [Array.mapM_eq_mapM_toList, Sem.run_bind, Sem.run_map]
    exact (congrArg (fun r : Result (List Value) => (r.andThen fun a w' => Result.ok a.toArray w').andThen fun a w' => Sem.run Q (pure (if h : a.size = 1 then a[0] else Value.tuple a)) w') g1).trans rfl
  split at h
  · rename_i v1 hvs
    simp only [Option.some.injEq] at h; subst h
    obtain ⟨us, g1, g2⟩ := fin _ hvs
    match us, g2 with
    | [u], g2 => exact ⟨u, g1, VR.of1 σ g2.of_cons.1⟩
    | [], g2 => have := g2.len; simp at this
    | _ :: _ :: _, g2 => have := g2.len; simp at this
  · rename_i vs hne hvs
    simp only [Option.some.injEq] at h; subst h
    obtain ⟨us, g1, g2⟩ := fin _ hvs
    refine ⟨.tuple us.toArray, ?_, us, rfl, g2⟩
    rw [g1, dif_neg]
    intro hsz
    match us, hsz with
    | [u], _ =>
      match vs, g2 with
      | [v1], _ => exact hne v1 rfl
      | [], g2 => have := g2.len; simp at this
      | _ :: _ :: _, g2 => have := g2.len; simp at this
    | [], hsz => simp at hsz
    | _ :: _ :: _, hsz => simp at hsz
  · simp at h

end Km
end

