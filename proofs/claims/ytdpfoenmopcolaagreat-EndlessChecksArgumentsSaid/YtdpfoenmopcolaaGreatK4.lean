/-
  Our own small machine for Go code by value, held against the model: part 4. No program in sight.
-/
import Derived.Test.YtdpfoenmopcolaaGreatK3
import Derived.ChangeArms
import Derived.DataReads
import Derived.Deep.Slices
import Derived.ProofKit
import Derived.RowKit3
import Derived.Below
import Derived.Carry
import Derived.Laws.IdiomArrays

set_option linter.unusedVariables false
set_option linter.unusedSimpArgs false
set_option linter.unusedSectionVars false

section
namespace Km
open Go

@[simp] theorem ex2 {α β : Type} {a : α} {b : β} {P : α → β → Prop} : (∃ v w, (a = v ∧ b = w) ∧ P v w) ↔ P a b :=
  ⟨fun ⟨_, _, ⟨rfl, rfl⟩, h⟩ => h, fun h => ⟨a, b, ⟨rfl, rfl⟩, h⟩⟩

/-! ### Slots by number -/

def P.natF : Nat → Nat → P
  | 0, _ => .h
  | k + 1, n => if n = 0 then .h else if n % 2 = 1 then .o (natF k ((n - 1) / 2)) else .i (natF k ((n - 2) / 2))
/-- Slot number n. -/
def P.nat (n : Nat) : P := P.natF n n

theorem natF_toNat : ∀ (k n : Nat), n ≤ k → (P.natF k n).toNat = n
  | 0, n, hn => by simp [P.natF, P.toNat]; omega
  | k + 1, n, hn => by
    unfold P.natF
    split
    · simp [P.toNat, *]
    · split
      · simp [P.toNat]; rw [natF_toNat k _ (by omega)]; omega
      · simp [P.toNat]; rw [natF_toNat k _ (by omega)]; omega
theorem nat_toNat (n : Nat) : (P.nat n).toNat = n := natF_toNat n n (Nat.le_refl n)
theorem nat_ne {a b : Nat} (hab : a ≠ b) : P.nat a ≠ P.nat b := fun e => hab (by rw [← nat_toNat a, ← nat_toNat b, e])

theorem T.get_set_self (v : V) : ∀ (p : P) (t : T), (t.set p v).get p = v
  | .h, .e => rfl
  | .h, .n _ _ _ => rfl
  | .o p, .e => T.get_set_self v p .e
  | .o p, .n l _ _ => T.get_set_self v p l
  | .i p, .e => T.get_set_self v p .e
  | .i p, .n _ _ r => T.get_set_self v p r
theorem T.get_set_ne (v : V) : ∀ (p q : P) (t : T), p ≠ q → (t.set p v).get q = t.get q
  | .h, .h, _, h => absurd rfl h
  | .h, .o q, .e, _ => by cases q <;> rfl
  | .h, .i q, .e, _ => by cases q <;> rfl
  | .h, .o _, .n _ _ _, _ => rfl
  | .h, .i _, .n _ _ _, _ => rfl
  | .o _, .h, .e, _ => rfl
  | .o _, .h, .n _ _ _, _ => rfl
  | .i _, .h, .e, _ => rfl
  | .i _, .h, .n _ _ _, _ => rfl
  | .o p, .o q, .e, h => by
    show (T.set .e p v).get q = _
    rw [T.get_set_ne v p q .e (fun e => h (by rw [e]))]
    cases q <;> rfl
  | .o p, .o q, .n l _ _, h => T.get_set_ne v p q l (fun e => h (by rw [e]))
  | .o p, .i q, .e, h => by
    show T.get .e q = _
    cases q <;> rfl
  | .o _, .i _, .n _ _ _, _ => rfl
  | .i p, .o q, .e, h => by
    show T.get .e q = _
    cases q <;> rfl
  | .i _, .o _, .n _ _ _, _ => rfl
  | .i p, .i q, .e, h => by
    show (T.set .e p v).get q = _
    rw [T.get_set_ne v p q .e (fun e => h (by rw [e]))]
    cases q <;> rfl
  | .i p, .i q, .n _ _ r, h => T.get_set_ne v p q r (fun e => h (by rw [e]))

def T.g (t : T) (n : Nat) : V := t.get (P.nat n)
def T.s (t : T) (n : Nat) (v : V) : T := t.set (P.nat n) v
@[simp] theorem T.g_s (t : T) (n m : Nat) (v : V) : (t.s n v).g m = if n = m then v else t.g m := by
  unfold T.g T.s
  split
  · rename_i h; subst h; exact T.get_set_self v _ t
  · rename_i h; exact T.get_set_ne v _ _ t (nat_ne h)
@[simp] theorem T.g_e (n : Nat) : T.e.g n = .top := by unfold T.g; cases P.nat n <;> rfl

/-- An argument: slot n. -/
def R (n : Nat) : Arg := .r (P.nat n)
def D (n : Nat) : Option P := some (P.nat n)
def G (n : Nat) (w : Bool) : Option (P × Bool) := some (P.nat n, w)
/-- Values by short names. -/
abbrev vi (n : Int) : V := .c (.f (.int .i64 n))
abbrev vb (b : Bool) : V := .c (.f (.bool b))
abbrev fi (n : Int) : FC := .int .i64 n

@[simp] theorem R_ev (t : T) (n : Nat) : (R n).ev t = t.g n := rfl
@[simp] theorem k_ev (t : T) (v : V) : (Arg.k v).ev t = v := rfl
@[simp] theorem putR_D (t : T) (n : Nat) (v : V) : putR t (D n) v = t.s n v := rfl
@[simp] theorem putR_none (t : T) (v : V) : putR t none v = t := rfl
@[simp] theorem get_nat (t : T) (n : Nat) : t.get (P.nat n) = t.g n := rfl
@[simp] theorem setAll_cons (n : Nat) (ps : List P) (v : V) (vs : List V) (t : T) : setAll (P.nat n :: ps) (v :: vs) t = setAll ps vs (t.s n v) := rfl
@[simp] theorem setAll_nil (vs : List V) (t : T) : setAll [] vs t = t := rfl
@[simp] theorem wanted_none (t : T) : wanted t none = some true := rfl
@[simp] theorem wanted_G (t : T) (n : Nat) (w : Bool) : wanted t (G n w) = match t.g n with
    | .c (.f (.bool b)) => some (b == w)
    | .t [] => some false
    | _ => none := rfl

attribute [simp] argsV

/-- Evaluation in order: what stands behind waits till the first part has come to a value. The rest is no lambda: the simplifier does not look into it. -/
def KO (o : Option (V × Heap)) (t : T) (ds : List ADef) (K : V → St → Prop) : Prop := ∃ p, o = some p ∧ K p.1 ⟨t, ds, p.2⟩
@[simp] theorem KO_some (v : V) (H : Heap) (t : T) (ds : List ADef) (K : V → St → Prop) : KO (some (v, H)) t ds K ↔ K v ⟨t, ds, H⟩ := ⟨fun ⟨_, h, k⟩ => by cases h; exact k, fun k => ⟨_, rfl, k⟩⟩
def KP (P : V → Prop) (t : T) (ds : List ADef) (H : Heap) (K : V → St → Prop) : Prop := ∃ x, P x ∧ K x ⟨t, ds, H⟩
@[simp] theorem KP_eq (x : V) (t : T) (ds : List ADef) (H : Heap) (K : V → St → Prop) : KP (Eq x) t ds H K ↔ K x ⟨t, ds, H⟩ := ⟨fun ⟨_, h, k⟩ => by cases h; exact k, fun k => ⟨x, rfl, k⟩⟩
def E2 (x : V) (H : Heap) (y : V) (H' : Heap) : Prop := x = y ∧ H = H'
def KE (P : V → Heap → Prop) (t : T) (ds : List ADef) (K : V → St → Prop) : Prop := ∃ x H, P x H ∧ K x ⟨t, ds, H⟩
@[simp] theorem KE_eq (x : V) (H : Heap) (t : T) (ds : List ADef) (K : V → St → Prop) : KE (E2 x H) t ds K ↔ K x ⟨t, ds, H⟩ := ⟨fun ⟨_, _, ⟨h1, h2⟩, k⟩ => by cases h1; cases h2; exact k, fun k => ⟨x, H, ⟨rfl, rfl⟩, k⟩⟩

section
variable (tab : Nat → Option AFunc)
/-- A call by value, its arguments frozen first. -/
def KC (fs : Option (List V)) (f : Nat) (t : T) (ds : List ADef) (H : Heap) (K : V → St → Prop) : Prop := ∃ a, fs = some a ∧ KP (Pure tab f a) t ds H K
/-- A call, its callee found first. -/
def KD (c : Option (Callee × List V)) (t : T) (ds : List ADef) (H : Heap) (K : V → St → Prop) : Prop := ∃ a, c = some a ∧ KE (Ev tab a.1 a.2 H) t ds K
/-- The operations that follow. -/
def KS (os : List AOper) (L : St → Prop) (s : St) : Prop := OPS tab os s L
/-- A state, brought into its plain form first. -/
def FS (s : St) (K : St → Prop) : Prop := K s
/-- The result is laid into its slot; the operations that follow. -/
def KV (o : Option P) (os : List AOper) (L : St → Prop) (v : V) (s : St) : Prop := FS ⟨putR s.regs o v, s.defs, s.heap⟩ (KS tab os L)
/-- An operation behind a guard. -/
def GRD (w : Option Bool) (op : AOp) (o : Option P) (os : List AOper) (L : St → Prop) (s : St) : Prop :=
  match w with
  | some true => ONE tab s op (KV tab o os L)
  | some false => FS ⟨putR s.regs o (.t []), s.defs, s.heap⟩ (KS tab os L)
  | none => False
end
section
variable {tab : Nat → Option AFunc} {t : T} {ds : List ADef} {H : Heap} {K : V → St → Prop} {L : St → Prop}
@[simp] theorem KC_some (a : List V) (f : Nat) : KC tab (some a) f t ds H K ↔ KP (Pure tab f a) t ds H K := ⟨fun ⟨_, h, k⟩ => by cases h; exact k, fun k => ⟨_, rfl, k⟩⟩
@[simp] theorem KD_some (c : Callee) (a : List V) : KD tab (some (c, a)) t ds H K ↔ KE (Ev tab c a H) t ds K := ⟨fun ⟨_, h, k⟩ => by cases h; exact k, fun k => ⟨_, rfl, k⟩⟩
@[simp] theorem FS_eq (s : St) (K : St → Prop) : FS s K ↔ K s := Iff.rfl
@[simp ↓] theorem KS_eq (os : List AOper) (s : St) : KS tab os L s ↔ OPS tab os s L := Iff.rfl
@[simp ↓] theorem KV_eq (o : Option P) (os : List AOper) (v : V) : KV tab o os L v ⟨t, ds, H⟩ ↔ FS ⟨putR t o v, ds, H⟩ (KS tab os L) := Iff.rfl
@[simp ↓] theorem GRD_t (op : AOp) (o : Option P) (os : List AOper) (s : St) : GRD tab (some true) op o os L s ↔ ONE tab s op (KV tab o os L) := Iff.rfl
@[simp ↓] theorem GRD_f (op : AOp) (o : Option P) (os : List AOper) : GRD tab (some false) op o os L ⟨t, ds, H⟩ ↔ FS ⟨putR t o (.t []), ds, H⟩ (KS tab os L) := Iff.rfl
/-- At a guard that is not known. -/
theorem grd_split {b : Bool} {op : AOp} {o : Option P} {os : List AOper} {s : St} (h1 : b = true → GRD tab (some true) op o os L s) (h2 : b = false → GRD tab (some false) op o os L s) : GRD tab (some b) op o os L s := by
  cases b
  · exact h2 rfl
  · exact h1 rfl

theorem grd_not {b : Bool} {op : AOp} {o : Option P} {os : List AOper} {s : St} (h1 : b = false → GRD tab (some true) op o os L s) (h2 : b = true → GRD tab (some false) op o os L s) : GRD tab (some !b) op o os L s := by
  cases b
  · exact h1 rfl
  · exact h2 rfl
@[simp ↓] theorem OPS_nil (s : St) : OPS tab [] s L ↔ L s := Iff.rfl
@[simp ↓] theorem OPS_cons (o : Option P) (op : AOp) (os : List AOper) : OPS tab (⟨o, op, none⟩ :: os) ⟨t, ds, H⟩ L ↔ ONE tab ⟨t, ds, H⟩ op (KV tab o os L) := Iff.rfl
@[simp ↓] theorem OPS_consg (o : Option P) (op : AOp) (n : Nat) (w : Bool) (os : List AOper) :
    OPS tab (⟨o, op, G n w⟩ :: os) ⟨t, ds, H⟩ L ↔ GRD tab (wanted t (G n w)) op o os L ⟨t, ds, H⟩ := by
  simp only [OPS]
  rcases hw : wanted t (G n w) with _ | _ | _ <;> exact Iff.rfl

/-- Operations that call nothing. -/
def AOp.plain : AOp → Bool
  | .call _ _ _ | .calld _ _ _ | .recover | .defer _ _ => false
  | _ => true
theorem one_gen {op : AOp} (h : op.plain = true) : ONE tab ⟨t, ds, H⟩ op K ↔ KO (xOp t H op) t ds K := by
  have : ONE tab ⟨t, ds, H⟩ op K ↔ ∃ v H', xOp t H op = some (v, H') ∧ K v ⟨t, ds, H'⟩ := by
    cases op <;> first | exact Iff.rfl | simp [AOp.plain] at h
  rw [this]
  exact ⟨fun ⟨v, H', h, k⟩ => ⟨(v, H'), h, k⟩, fun ⟨p, h, k⟩ => ⟨p.1, p.2, h, k⟩⟩

@[simp ↓] theorem one_mov (x : Arg) : ONE tab ⟨t, ds, H⟩ (.mov x) K ↔ KO (xOp t H (.mov x)) t ds K := one_gen rfl
@[simp ↓] theorem one_pre (o : Os) (sz : Nat) : ONE tab ⟨t, ds, H⟩ (.pre o sz) K ↔ KO (xOp t H (.pre o sz)) t ds K := one_gen rfl
@[simp ↓] theorem one_pick (c a b : Arg) : ONE tab ⟨t, ds, H⟩ (.pick c a b) K ↔ KO (xOp t H (.pick c a b)) t ds K := one_gen rfl
@[simp ↓] theorem one_alloc (zs : List FC) : ONE tab ⟨t, ds, H⟩ (.alloc zs) K ↔ KO (xOp t H (.alloc zs)) t ds K := one_gen rfl
@[simp ↓] theorem one_box (x : Arg) : ONE tab ⟨t, ds, H⟩ (.box x) K ↔ KO (xOp t H (.box x)) t ds K := one_gen rfl
@[simp ↓] theorem one_build (zs : List FC) (parts : List (Nat × Nat × Arg)) : ONE tab ⟨t, ds, H⟩ (.build zs parts) K ↔ KO (xOp t H (.build zs parts)) t ds K := one_gen rfl
@[simp ↓] theorem one_bslice (sz : Nat) (zs : List FC) (len : Nat) (parts : List (Nat × Arg)) : ONE tab ⟨t, ds, H⟩ (.bslice sz zs len parts) K ↔ KO (xOp t H (.bslice sz zs len parts)) t ds K := one_gen rfl
@[simp ↓] theorem one_load (n : Option Nat) (x : Arg) : ONE tab ⟨t, ds, H⟩ (.load n x) K ↔ KO (xOp t H (.load n x)) t ds K := one_gen rfl
@[simp ↓] theorem one_store (n : Nat) (x y : Arg) : ONE tab ⟨t, ds, H⟩ (.store n x y) K ↔ KO (xOp t H (.store n x y)) t ds K := one_gen rfl
@[simp ↓] theorem one_nilchk (x : Arg) : ONE tab ⟨t, ds, H⟩ (.nilchk x) K ↔ KO (xOp t H (.nilchk x)) t ds K := one_gen rfl
@[simp ↓] theorem one_bin (op : BinOp) (x y : Arg) : ONE tab ⟨t, ds, H⟩ (.bin op x y) K ↔ KO (xOp t H (.bin op x y)) t ds K := one_gen rfl
@[simp ↓] theorem one_eq (neg : Bool) (k : EqK) (x y : Arg) : ONE tab ⟨t, ds, H⟩ (.eq neg k x y) K ↔ KO (xOp t H (.eq neg k x y)) t ds K := one_gen rfl
@[simp ↓] theorem one_un (op : UnOp) (x : Arg) : ONE tab ⟨t, ds, H⟩ (.un op x) K ↔ KO (xOp t H (.un op x)) t ds K := one_gen rfl
@[simp ↓] theorem one_cvi (k : IntKind) (x : Arg) : ONE tab ⟨t, ds, H⟩ (.cvi k x) K ↔ KO (xOp t H (.cvi k x)) t ds K := one_gen rfl
@[simp ↓] theorem one_cvid (x : Arg) : ONE tab ⟨t, ds, H⟩ (.cvid x) K ↔ KO (xOp t H (.cvid x)) t ds K := one_gen rfl
@[simp ↓] theorem one_cvbs (x : Arg) : ONE tab ⟨t, ds, H⟩ (.cvbs x) K ↔ KO (xOp t H (.cvbs x)) t ds K := one_gen rfl
@[simp ↓] theorem one_cvsb (x : Arg) : ONE tab ⟨t, ds, H⟩ (.cvsb x) K ↔ KO (xOp t H (.cvsb x)) t ds K := one_gen rfl
@[simp ↓] theorem one_mkfn (f : Nat) (caps : List Arg) : ONE tab ⟨t, ds, H⟩ (.mkfn f caps) K ↔ KO (xOp t H (.mkfn f caps)) t ds K := one_gen rfl
@[simp ↓] theorem one_mkmap : ONE tab ⟨t, ds, H⟩ .mkmap K ↔ KO (xOp t H .mkmap) t ds K := one_gen rfl
@[simp ↓] theorem one_lookup (ck : CK) (zero : FC) (m k : Arg) : ONE tab ⟨t, ds, H⟩ (.lookup ck zero m k) K ↔ KO (xOp t H (.lookup ck zero m k)) t ds K := one_gen rfl
@[simp ↓] theorem one_mapup (ck : CK) (m k v : Arg) : ONE tab ⟨t, ds, H⟩ (.mapup ck m k v) K ↔ KO (xOp t H (.mapup ck m k v)) t ds K := one_gen rfl
@[simp ↓] theorem one_mkslice (sz bytes : Nat) (zs : List FC) (l c : Arg) : ONE tab ⟨t, ds, H⟩ (.mkslice sz bytes zs l c) K ↔ KO (xOp t H (.mkslice sz bytes zs l c)) t ds K := one_gen rfl
@[simp ↓] theorem one_slice (sz : Nat) (x : Arg) (lo hi mx : Option Arg) : ONE tab ⟨t, ds, H⟩ (.slice sz x lo hi mx) K ↔ KO (xOp t H (.slice sz x lo hi mx)) t ds K := one_gen rfl
@[simp ↓] theorem one_slarr (n sz : Nat) (x : Arg) (lo hi mx : Option Arg) : ONE tab ⟨t, ds, H⟩ (.slarr n sz x lo hi mx) K ↔ KO (xOp t H (.slarr n sz x lo hi mx)) t ds K := one_gen rfl
@[simp ↓] theorem one_slstr (x : Arg) (lo hi : Option Arg) : ONE tab ⟨t, ds, H⟩ (.slstr x lo hi) K ↔ KO (xOp t H (.slstr x lo hi)) t ds K := one_gen rfl
@[simp ↓] theorem one_fieldA (off : Nat) (x : Arg) : ONE tab ⟨t, ds, H⟩ (.fieldA off x) K ↔ KO (xOp t H (.fieldA off x)) t ds K := one_gen rfl
@[simp ↓] theorem one_field (off : Nat) (n : Option Nat) (x : Arg) : ONE tab ⟨t, ds, H⟩ (.field off n x) K ↔ KO (xOp t H (.field off n x)) t ds K := one_gen rfl
@[simp ↓] theorem one_indexA (sz : Nat) (arr : Option Nat) (x i : Arg) : ONE tab ⟨t, ds, H⟩ (.indexA sz arr x i) K ↔ KO (xOp t H (.indexA sz arr x i)) t ds K := one_gen rfl
@[simp ↓] theorem one_idxs (x i : Arg) : ONE tab ⟨t, ds, H⟩ (.idxs x i) K ↔ KO (xOp t H (.idxs x i)) t ds K := one_gen rfl
@[simp ↓] theorem one_idxa (len sz : Nat) (n : Option Nat) (x i : Arg) : ONE tab ⟨t, ds, H⟩ (.idxa len sz n x i) K ↔ KO (xOp t H (.idxa len sz n x i)) t ds K := one_gen rfl
@[simp ↓] theorem one_range (x : Arg) : ONE tab ⟨t, ds, H⟩ (.range x) K ↔ KO (xOp t H (.range x)) t ds K := one_gen rfl
@[simp ↓] theorem one_next (x : Arg) : ONE tab ⟨t, ds, H⟩ (.next x) K ↔ KO (xOp t H (.next x)) t ds K := one_gen rfl
@[simp ↓] theorem one_extract (x : Arg) (i : Nat) : ONE tab ⟨t, ds, H⟩ (.extract x i) K ↔ KO (xOp t H (.extract x i)) t ds K := one_gen rfl
@[simp ↓] theorem one_len (x : Arg) : ONE tab ⟨t, ds, H⟩ (.len x) K ↔ KO (xOp t H (.len x)) t ds K := one_gen rfl
@[simp ↓] theorem one_lenA (n : Nat) : ONE tab ⟨t, ds, H⟩ (.lenA n) K ↔ KO (xOp t H (.lenA n)) t ds K := one_gen rfl
@[simp ↓] theorem one_lens (x : Arg) : ONE tab ⟨t, ds, H⟩ (.lens x) K ↔ KO (xOp t H (.lens x)) t ds K := one_gen rfl
@[simp ↓] theorem one_cap (x : Arg) : ONE tab ⟨t, ds, H⟩ (.cap x) K ↔ KO (xOp t H (.cap x)) t ds K := one_gen rfl
@[simp ↓] theorem one_append (sz bytes : Nat) (x y : Arg) : ONE tab ⟨t, ds, H⟩ (.append sz bytes x y) K ↔ KO (xOp t H (.append sz bytes x y)) t ds K := one_gen rfl
@[simp ↓] theorem one_copy (sz : Nat) (x y : Arg) : ONE tab ⟨t, ds, H⟩ (.copy sz x y) K ↔ KO (xOp t H (.copy sz x y)) t ds K := one_gen rfl
@[simp ↓] theorem one_maxs (lo : Bool) (xs : List Arg) : ONE tab ⟨t, ds, H⟩ (.maxs lo xs) K ↔ KO (xOp t H (.maxs lo xs)) t ds K := one_gen rfl
@[simp ↓] theorem one_appz (sz bytes : Nat) (zs : List FC) (x n : Arg) : ONE tab ⟨t, ds, H⟩ (.appz sz bytes zs x n) K ↔ KO (xOp t H (.appz sz bytes zs x n)) t ds K := one_gen rfl
@[simp ↓] theorem one_clear (sz : Nat) (zs : List FC) (x : Arg) : ONE tab ⟨t, ds, H⟩ (.clear sz zs x) K ↔ KO (xOp t H (.clear sz zs x)) t ds K := one_gen rfl
@[simp ↓] theorem one_rangem (x : Arg) : ONE tab ⟨t, ds, H⟩ (.rangem x) K ↔ KO (xOp t H (.rangem x)) t ds K := one_gen rfl
@[simp ↓] theorem one_nextm (x : Arg) : ONE tab ⟨t, ds, H⟩ (.nextm x) K ↔ KO (xOp t H (.nextm x)) t ds K := one_gen rfl
@[simp ↓] theorem one_entry (x : Arg) : ONE tab ⟨t, ds, H⟩ (.entry x) K ↔ KO (xOp t H (.entry x)) t ds K := one_gen rfl
@[simp ↓] theorem one_mkbm (f : Nat) (xs : List Arg) : ONE tab ⟨t, ds, H⟩ (.mkbm f xs) K ↔ KO (xOp t H (.mkbm f xs)) t ds K := one_gen rfl
@[simp ↓] theorem one_call (f : Nat) (args : List Arg) : ONE tab ⟨t, ds, H⟩ (.call f args false) K ↔
    KC tab (mapO (exV1 deep H) (argsV t args)) f t ds ((argsV t args).foldl (mkV deep) H) K := by
  simp only [ONE, KC, KP]
  constructor
  · intro h; rw [if_neg (by simp)] at h; obtain ⟨fs, r, h1, h2, h3⟩ := h; exact ⟨fs, h1, r, h2, h3⟩
  · rintro ⟨fs, h1, r, h2, h3⟩; rw [if_neg (by simp)]; exact ⟨fs, r, h1, h2, h3⟩
@[simp ↓] theorem one_callh (f : Nat) (args : List Arg) : ONE tab ⟨t, ds, H⟩ (.call f args true) K ↔ KD tab (some (.fn f, argsV t args)) t ds H K := by simp [ONE, KD, KE]
@[simp ↓] theorem one_calld (x : Arg) (args : List Arg) (h : Bool) : ONE tab ⟨t, ds, H⟩ (.calld x args h) K ↔ KD tab (calleeV (x.ev t) (argsV t args)) t ds H K := by
  simp only [ONE, KD, KE]
  constructor
  · rintro ⟨c, as, r, H', h1, h2, h3⟩; exact ⟨(c, as), h1, r, H', h2, h3⟩
  · rintro ⟨⟨c, as⟩, h1, r, H', h2, h3⟩; exact ⟨c, as, r, H', h1, h2, h3⟩
end

/-! ### What operations come to -/

def boolOf : V → Option Bool
  | .c (.f (.bool b)) => some b
  | _ => none
@[simp] theorem boolOf_vb (b : Bool) : boolOf (.c (.f (.bool b))) = some b := rfl
section
variable {t : T} {H : Heap}
@[simp] theorem x_mov (x : Arg) : xOp t H (.mov x) = some (x.ev t, H) := rfl
@[simp] theorem x_pre (o : Os) (sz : Nat) : xOp t H (.pre o sz) = if o = .loc ∨ sz = 0 then none else some (.c (.sl H.length 0 0 0 0 sz), H ++ [.opn sz [] 0 0 o]) := rfl
@[simp] theorem x_pick (c x y : Arg) : xOp t H (.pick c x y) = (boolOf (c.ev t)).map fun b => (if b then x.ev t else y.ev t, H) := by
  simp only [xOp, boolOf]
  split
  · rename_i b h; simp only [h]; cases b <;> rfl
  · rename_i h
    split
    · rename_i b h'; exact absurd h' (h b)
    · rfl
@[simp] theorem x_alloc (zs : List FC) : xOp t H (.alloc zs) = some (.c (.ptr H.length 0 0), H ++ [.box (zs.map .f) 0]) := rfl
@[simp] theorem x_box (x : Arg) : xOp t H (.box x) = (x.ev t).cells?.map fun xs => (.c (.ptr H.length 0 0), H ++ [.box xs 0]) := by
  simp only [xOp]; cases (x.ev t).cells? <;> rfl
@[simp] theorem x_build (zs : List FC) (ps : List (Nat × Nat × Arg)) : xOp t H (.build zs ps) = (partsV t (zs.map .f) ps).map fun cs => (.a cs, H) := rfl
@[simp] theorem x_bslice (sz : Nat) (zs : List FC) (n : Nat) (ps : List (Nat × Arg)) : xOp t H (.bslice sz zs n ps) =
    if n = 0 then (if ps.isEmpty then some (.c (.f .es), H) else none) else
    (partsV t ((repl n zs).map .f) (ps.map fun p => (p.1 * sz, sz, p.2))).map fun cs => (.c (.sl H.length 0 n n 0 sz), H ++ [.box cs 0]) := rfl
@[simp] theorem x_load (n : Option Nat) (x : Arg) : xOp t H (.load n x) = (ldV H n (x.ev t)).map (·, H) := rfl
def storeV (H : Heap) (n : Nat) (x y : V) : Option Heap :=
  match x, y.cells? with
  | .c p, some xs => if xs.length = n then stC H p xs else none
  | _, _ => none
@[simp] theorem x_store (n : Nat) (x y : Arg) : xOp t H (.store n x y) = (storeV H n (x.ev t) (y.ev t)).map (.top, ·) := by
  simp only [xOp, storeV]
  cases x.ev t with
  | c p => cases (y.ev t).cells? with
    | none => rfl
    | some xs => by_cases h : xs.length = n <;> simp [h]
  | _ => rfl
@[simp] theorem storeV_c (n : Nat) (p : C) (y : V) : storeV H n (.c p) y = y.cells?.bind fun xs => if xs.length = n then stC H p xs else none := by
  simp only [storeV]; cases y.cells? <;> rfl
@[simp] theorem x_bin (op : BinOp) (x y : Arg) : xOp t H (.bin op x y) = (binV op (x.ev t) (y.ev t)).map (·, H) := rfl
@[simp] theorem x_eq (neg : Bool) (k : EqK) (x y : Arg) : xOp t H (.eq neg k x y) = (eqV H k (x.ev t) (y.ev t)).map fun b => (vb (if neg then !b else b), H) := rfl
@[simp] theorem x_un (op : UnOp) (x : Arg) : xOp t H (.un op x) = (unV op (x.ev t)).map (·, H) := rfl
def cviV (k : IntKind) : V → Option V
  | .c (.f (.int _ n)) => some (.c (.f (.int k (k.wrap n))))
  | _ => none
@[simp] theorem cviV_i (k j : IntKind) (n : Int) : cviV k (.c (.f (.int j n))) = some (.c (.f (.int k (k.wrap n)))) := rfl
@[simp] theorem x_cvi (k : IntKind) (x : Arg) : xOp t H (.cvi k x) = (cviV k (x.ev t)).map (·, H) := by
  simp only [xOp, cviV]
  split
  · rename_i h; simp only [h]; rfl
  · rename_i h
    split
    · rename_i h'; exact absurd h' (h _ _)
    · rfl
@[simp] theorem x_mkfn (f : Nat) (caps : List Arg) : xOp t H (.mkfn f caps) = (mapO capC (argsV t caps)).map fun xs => (.c (.cl f xs), H) := rfl
@[simp] theorem x_mkbm (f : Nat) (caps : List Arg) : xOp t H (.mkbm f caps) = (mapO capC (argsV t caps)).map fun xs => (.c (.bm f xs), H) := rfl
@[simp] theorem x_slice (sz : Nat) (x : Arg) (lo hi mx : Option Arg) : xOp t H (.slice sz x lo hi mx) = (sliceV H sz (x.ev t) (lo.map (·.ev t)) (hi.map (·.ev t)) (mx.map (·.ev t))).map (·, H) := rfl
@[simp] theorem x_slarr (n sz : Nat) (x : Arg) (lo hi mx : Option Arg) : xOp t H (.slarr n sz x lo hi mx) = (slarrV H n sz (x.ev t) (lo.map (·.ev t)) (hi.map (·.ev t)) (mx.map (·.ev t))).map (·, H) := rfl
@[simp] theorem x_slstr (x : Arg) (lo hi : Option Arg) : xOp t H (.slstr x lo hi) = (slstrV (x.ev t) (lo.map (·.ev t)) (hi.map (·.ev t))).map (·, H) := rfl
@[simp] theorem x_fieldA (o : Nat) (x : Arg) : xOp t H (.fieldA o x) = (fieldAV o (x.ev t)).map (·, H) := rfl
@[simp] theorem x_field (o : Nat) (n : Option Nat) (x : Arg) : xOp t H (.field o n x) = (fieldV o n (x.ev t)).map (·, H) := rfl
@[simp] theorem x_indexA (sz : Nat) (arr : Option Nat) (x i : Arg) : xOp t H (.indexA sz arr x i) = (indexAV H sz arr (x.ev t) (i.ev t)).map (·, H) := rfl
@[simp] theorem x_idxs (x i : Arg) : xOp t H (.idxs x i) = (idxsV (x.ev t) (i.ev t)).map (·, H) := rfl
@[simp] theorem x_idxa (len sz : Nat) (n : Option Nat) (x i : Arg) : xOp t H (.idxa len sz n x i) = (idxaV len sz n (x.ev t) (i.ev t)).map (·, H) := rfl
def cOf : V → Option C
  | .c x => some x
  | _ => none
@[simp] theorem cOf_c (x : C) : cOf (.c x) = some x := rfl
@[simp] theorem x_len (x : Arg) : xOp t H (.len x) = ((cOf (x.ev t)).bind (slLen H)).map fun n => (vi (n : Nat), H) := by
  simp only [xOp, cOf]
  cases x.ev t with
  | c y => simp only [Option.bind_some]; cases slLen H y <;> rfl
  | _ => rfl
@[simp] theorem x_cap (x : Arg) : xOp t H (.cap x) = ((cOf (x.ev t)).bind (slCap H)).map fun n => (vi (n : Nat), H) := by
  simp only [xOp, cOf]
  cases x.ev t with
  | c y => simp only [Option.bind_some]; cases slCap H y <;> rfl
  | _ => rfl
def strOf : V → Option ByteArray
  | .c (.f (.str s)) => some s
  | _ => none
@[simp] theorem strOf_c (s : ByteArray) : strOf (.c (.f (.str s))) = some s := rfl
@[simp] theorem x_lens (x : Arg) : xOp t H (.lens x) = (strOf (x.ev t)).map fun s => (vi (s.size : Nat), H) := by
  simp only [xOp, strOf]
  split
  · rename_i h; simp only [h]; rfl
  · rename_i h
    split
    · rename_i h'; exact absurd h' (h _)
    · rfl
@[simp] theorem x_lenA (n : Nat) : xOp t H (.lenA n) = some (vi (n : Nat), H) := rfl
@[simp] theorem x_append (sz bytes : Nat) (x y : Arg) : xOp t H (.append sz bytes x y) = appendV H sz bytes (x.ev t) (y.ev t) := rfl
@[simp] theorem x_copy (sz : Nat) (x y : Arg) : xOp t H (.copy sz x y) = copyV H sz (x.ev t) (y.ev t) := rfl
@[simp] theorem x_maxs (lo : Bool) (xs : List Arg) : xOp t H (.maxs lo xs) = (maxV lo (argsV t xs)).map (·, H) := rfl
def tOf : V → Option (List V)
  | .t vs => some vs
  | _ => none
@[simp] theorem tOf_t (vs : List V) : tOf (.t vs) = some vs := rfl
@[simp] theorem x_extract (x : Arg) (i : Nat) : xOp t H (.extract x i) = (tOf (x.ev t)).bind fun vs => vs[i]?.map (·, H) := by
  simp only [xOp, tOf]
  split
  · rename_i h; simp only [h]; rfl
  · rename_i h
    split
    · rename_i h'; exact absurd h' (h _)
    · rfl
def nilchkV : V → Option V
  | .c (.ptr b o e) => some (.c (.ptr b o e))
  | .c (.f (.fp cs o)) => some (.c (.f (.fp cs o)))
  | _ => none
@[simp] theorem nilchk_ptr (b o e : Nat) : nilchkV (.c (.ptr b o e)) = some (.c (.ptr b o e)) := rfl
@[simp] theorem nilchk_fp (cs : List FC) (o : Nat) : nilchkV (.c (.f (.fp cs o))) = some (.c (.f (.fp cs o))) := rfl
@[simp] theorem x_nilchk (x : Arg) : xOp t H (.nilchk x) = (nilchkV (x.ev t)).map (·, H) := by
  simp only [xOp, nilchkV]
  split
  · rename_i h; simp only [h]; rfl
  · rename_i h; simp only [h]; rfl
  · rename_i h1 h2
    split
    · rename_i h; exact absurd h (h1 _ _ _)
    · rename_i h; exact absurd h (h2 _ _)
    · rfl
@[simp] theorem callee_fn (f : Nat) (caps : List FC) (args : List V) : calleeV (.c (.f (.fn f caps))) args = some (.fn f, args ++ caps.map fun x => .c (.f x)) := rfl
@[simp] theorem callee_cl (f : Nat) (caps : List C) (args : List V) : calleeV (.c (.cl f caps)) args = some (.fn f, args ++ caps.map .c) := rfl
@[simp] theorem callee_bm (f : Nat) (first : List C) (args : List V) : calleeV (.c (.bm f first)) args = some (.fn f, first.map .c ++ args) := rfl
end

/-! ### Values -/

section
variable {k : IntKind} {a b : Int} {H : Heap}
@[simp] theorem bin_add : binV .add (.c (.f (.int k a))) (.c (.f (.int k b))) = some (.c (.f (.int k (k.wrap (a + b))))) := by simp [binV, binI, V.int]
@[simp] theorem bin_sub : binV .sub (.c (.f (.int k a))) (.c (.f (.int k b))) = some (.c (.f (.int k (k.wrap (a - b))))) := by simp [binV, binI, V.int]
@[simp] theorem bin_mul : binV .mul (.c (.f (.int k a))) (.c (.f (.int k b))) = some (.c (.f (.int k (k.wrap (a * b))))) := by simp [binV, binI, V.int]
theorem bin_quo (h : b ≠ 0) : binV .quo (.c (.f (.int k a))) (.c (.f (.int k b))) = some (.c (.f (.int k (k.wrap (a.tdiv b))))) := by simp [binV, binI, V.int, h]
theorem bin_rem (h : b ≠ 0) : binV .rem (.c (.f (.int k a))) (.c (.f (.int k b))) = some (.c (.f (.int k (a.tmod b)))) := by simp [binV, binI, V.int, h]
@[simp] theorem bin_eql : binV .eql (.c (.f (.int k a))) (.c (.f (.int k b))) = some (vb (decide (a = b))) := by simp [binV, binI, V.bool]; rfl
@[simp] theorem bin_neq : binV .neq (.c (.f (.int k a))) (.c (.f (.int k b))) = some (vb (!decide (a = b))) := by simp [binV, binI, V.bool]; rfl
@[simp] theorem bin_lss : binV .lss (.c (.f (.int k a))) (.c (.f (.int k b))) = some (vb (decide (a < b))) := by simp [binV, binI, V.bool]
@[simp] theorem bin_leq : binV .leq (.c (.f (.int k a))) (.c (.f (.int k b))) = some (vb (decide (a ≤ b))) := by simp [binV, binI, V.bool]
@[simp] theorem bin_gtr : binV .gtr (.c (.f (.int k a))) (.c (.f (.int k b))) = some (vb (decide (b < a))) := by simp [binV, binI, V.bool]
@[simp] theorem bin_geq : binV .geq (.c (.f (.int k a))) (.c (.f (.int k b))) = some (vb (decide (b ≤ a))) := by simp [binV, binI, V.bool]
@[simp] theorem eqP_bool {x y : Bool} : eqP .bool (.f (.bool x)) (.f (.bool y)) = some (x == y) := rfl
@[simp] theorem eqP_int : eqP .int (.f (.int k a)) (.f (.int k b)) = some (a == b) := by simp [eqP]
@[simp] theorem eqP_str {x y : ByteArray} : eqP .str (.f (.str x)) (.f (.str y)) = some (x == y) := rfl
@[simp] theorem eqL_nil : eqL [] [] [] = some true := rfl
@[simp] theorem eqL_cons {q : CK} {qs : List CK} {x y : C} {xs ys : List C} : eqL (q :: qs) (x :: xs) (y :: ys) = (eqP q x y).bind fun c => (eqL qs xs ys).map fun d => c && d := by
  simp only [eqL]; cases eqP q x y <;> cases eqL qs xs ys <;> rfl
@[simp] theorem eqV_bool {x y : Bool} : eqV H .bool (.c (.f (.bool x))) (.c (.f (.bool y))) = some (x == y) := rfl
@[simp] theorem eqV_st {ks : List CK} {xs ys : List C} : eqV H (.st ks) (.a xs) (.a ys) = eqL ks xs ys := rfl
@[simp] theorem un_not {x : Bool} : unV .not (.c (.f (.bool x))) = some (vb (!x)) := rfl
@[simp] theorem fieldA_ptr {o c o' ep : Nat} : fieldAV o (.c (.ptr c o' ep)) = some (.c (.ptr c (o' + o) ep)) := rfl
@[simp] theorem fieldA_fp {o o' : Nat} {cs : List FC} : fieldAV o (.c (.f (.fp cs o'))) = some (.c (.f (.fp cs (o' + o)))) := rfl
@[simp] theorem cells_c {x : C} : (V.c x).cells? = some [x] := rfl
@[simp] theorem cells_a {xs : List C} : (V.a xs).cells? = some xs := rfl
@[simp] theorem ex_f {n : Nat} {x : FC} : exC n H (.f x) = some x := by cases n <;> rfl
@[simp] theorem ex1_c {n : Nat} {x : C} : exV1 n H (.c x) = (exC n H x).map fun y => .c (.f y) := rfl
@[simp] theorem ex_cl {n f : Nat} {caps : List C} : exC (n + 1) H (.cl f caps) = (mapO (exC n H) caps).map (.fn f) := rfl
@[simp] theorem ex_ptr {n b o e : Nat} : exC (n + 1) H (.ptr b o e) = match H[b]? with
    | some (.box cs _) => (mapO (exC n H) cs).map (.fp · o)
    | _ => none := rfl
theorem ex_sl {n b o l c ep sz : Nat} : exC (n + 1) H (.sl b o l c ep sz) = match H[b]? with
    | some (.box cs _) => if o + l * sz ≤ cs.length then (mapO (exC n H) ((cs.drop o).take (l * sz))).map (.fs · l) else none
    | some (.opn s cs _ e .loc) => if ep = e ∧ sz = s ∧ o + l * sz ≤ cs.length then (mapO (exC n H) ((cs.drop o).take (l * sz))).map (.fs · l) else none
    | some (.opn s _ _ e .nil) => if ep = e ∧ sz = s then some .nils else none
    | some (.opn s _ _ e .es) => if ep = e ∧ sz = s then some .es else none
    | _ => none := rfl
theorem mk_ptr {n b o e : Nat} : mkC (n + 1) (.ptr b o e) H = match H[b]? with
    | some (.box cs fl) => cs.foldl (fun H x => mkC n x H) (H.set b (.box cs (Nat.max fl cs.length)))
    | _ => H := rfl
theorem mk_sl {n b o l c e sz : Nat} : mkC (n + 1) (.sl b o l c e sz) H = match H[b]? with
    | some (.box cs fl) => ((cs.drop o).take (l * sz)).foldl (fun H x => mkC n x H) (H.set b (.box cs (Nat.max fl (o + l * sz))))
    | some (.opn s cs fl e st) => ((cs.drop o).take (l * sz)).foldl (fun H x => mkC n x H) (H.set b (.opn s cs (Nat.max fl (o + l * sz)) e st))
    | _ => H := rfl
theorem mk_cl {n f : Nat} {caps : List C} : mkC (n + 1) (.cl f caps) H = caps.foldl (fun H x => mkC n x H) H := rfl
@[simp] theorem mk_c {n : Nat} {x : C} : mkV n H (.c x) = mkC n x H := rfl
@[simp] theorem exV_c {n : Nat} {x : C} : exV n H (.c x) = (exC n H x).map fun y => .c (.f y) := rfl
theorem mapO_f {n : Nat} : ∀ (xs : List FC), mapO (exC n H) (xs.map .f) = some xs
  | [] => rfl
  | x :: xs => by simp [mapO, mapO_f xs]
@[simp] theorem ex1_a {n : Nat} {xs : List C} : exV1 n H (.a xs) = (mapO (exC n H) xs).map fun ys => .a (ys.map .f) := rfl
@[simp] theorem mapO_fs {n : Nat} (xs : List FC) : mapO (exC n H) (xs.map .f) = some xs := mapO_f xs
@[simp] theorem mk_a {n : Nat} {xs : List C} : mkV n H (.a xs) = xs.foldl (fun H x => mkC n x H) H := rfl
@[simp] theorem mkC_f {n : Nat} {x : FC} : mkC n (.f x) H = H := by cases n <;> rfl
@[simp] theorem foldl_mks {n : Nat} (xs : List FC) : (xs.map C.f).foldl (fun H x => mkC n x H) H = H := by
  induction xs with
  | nil => rfl
  | cons x xs ih => simp only [List.map_cons, List.foldl_cons]; rw [mkC_f]; exact ih
end

theorem wrapu8 {n : Int} (h1 : 0 ≤ n) (h2 : n ≤ 255) : IntKind.wrap .u8 n = n := by
  simp only [IntKind.wrap, IntKind.bits, IntKind.signed]
  simp
  omega
theorem idx_ptr {H : Heap} {sz n b o ep : Nat} {k : IntKind} {i : Int} (h0 : 0 ≤ i) (h1 : i < n) : indexAV H sz (some n) (.c (.ptr b o ep)) (.c (.f (.int k i))) = some (.c (.ptr b (o + i.toNat * sz) ep)) := by
  simp [indexAV, intV, h0, h1]
theorem wrap64 {n : Int} (h1 : -9223372036854775808 ≤ n) (h2 : n ≤ 9223372036854775807) : IntKind.wrap .i64 n = n := by
  simp only [IntKind.wrap, IntKind.bits, IntKind.signed]
  simp
  omega

@[simp] theorem cast_eq (a b : Nat) : ((a : Int) = (b : Int)) = (a = b) := propext Int.natCast_inj

@[simp] theorem mapO_nil {α β : Type} (g : α → Option β) : mapO g [] = some [] := rfl
@[simp] theorem mapO_cons {α β : Type} (g : α → Option β) (x : α) (xs : List α) : mapO g (x :: xs) = (g x).bind fun y => (mapO g xs).map (y :: ·) := by
  simp only [mapO]
  cases g x <;> cases mapO g xs <;> simp

/-! ### Memory -/

@[simp] theorem takeV_1 (x : C) (xs : List C) : takeV none (x :: xs) = some (.c x) := rfl
@[simp] theorem takeV_n (n : Nat) (xs : List C) : takeV (some n) xs = if n ≤ xs.length then some (.a (xs.take n)) else none := rfl
@[simp] theorem ld_ptr (H : Heap) (n : Option Nat) (b o ep : Nat) : ldV H n (.c (.ptr b o ep)) = match H[b]? with
    | some (.box cs _) => takeV n (cs.drop o)
    | some (.opn _ cs _ e .loc) => if ep = e then takeV n (cs.drop o) else none
    | _ => none := by
  simp only [ldV, cellsAt]
  split
  · rename_i h; simp only [h]; rfl
  · rename_i h; simp only [h]; split <;> rfl
  · rename_i h1 h2
    split
    · rename_i h; exact absurd h (h1 _ _)
    · rename_i h; exact absurd h (h2 _ _ _ _)
    · rfl
theorem ld_fp (H : Heap) (n : Option Nat) (cs : List FC) (o : Nat) : ldV H n (.c (.f (.fp cs o))) = takeV n ((cs.drop o).map .f) := rfl
@[simp] theorem st_ptr (H : Heap) (b o ep : Nat) (xs : List C) : stC H (.ptr b o ep) xs = match H[b]? with
    | some (.box cs fl) => if fl ≤ o ∧ o + xs.length ≤ cs.length then some (H.set b (.box (over cs o xs) fl)) else none
    | some (.opn sz cs fl e .loc) => if ep = e ∧ fl ≤ o ∧ o + xs.length ≤ cs.length then some (H.set b (.opn sz (over cs o xs) fl e .loc)) else none
    | _ => none := rfl
attribute [simp] over repl
@[simp] theorem partsV_nil (t : T) (cs : List C) : partsV t cs [] = some cs := rfl
@[simp] theorem partsV_cons (t : T) (cs : List C) (o n : Nat) (x : Arg) (ps : List (Nat × Nat × Arg)) : partsV t cs ((o, n, x) :: ps) = (x.ev t).cells?.bind fun xs => if xs.length = n ∧ o + xs.length ≤ cs.length then partsV t (over cs o xs) ps else none := by
  simp only [partsV]; cases (x.ev t).cells? <;> rfl
@[simp] theorem capC_f (x : FC) : capC (.c (.f x)) = some (.f x) := rfl
@[simp] theorem capC_ptr (b o e : Nat) : capC (.c (.ptr b o e)) = some (.ptr b o e) := rfl
@[simp] theorem capC_sl (b o l c e s : Nat) : capC (.c (.sl b o l c e s)) = some (.sl b o l c e s) := rfl

/-! ### A frame's end -/

def tmpV : V → Option V
  | .t _ => none
  | v => some v
@[simp] theorem tmpV_c (x : C) : tmpV (.c x) = some (.c x) := rfl
@[simp] theorem tmpV_a (x : List C) : tmpV (.a x) = some (.a x) := rfl
@[simp] theorem res_tmp (t : T) (H : Heap) (n : Nat) : resOne t H (.tmp (P.nat n)) = tmpV (t.g n) := by
  simp only [resOne, get_nat]
  cases t.g n <;> rfl
@[simp] theorem res_cell (t : T) (H : Heap) (n : Nat) (k : Option Nat) : resOne t H (.cell (P.nat n) k) = ldV H k (t.g n) := rfl
@[simp] theorem fin_one {t : T} {H : Heap} {x : ARes} {r : V} : FinP [x] r ⟨t, [], H⟩ ↔ ∃ r0, resOne t H x = some r0 ∧ exV deep H r0 = some r := by
  simp only [FinP, results, true_and, mapO]
  cases resOne t H x <;> simp
@[simp] theorem fin_two {t : T} {H : Heap} {x y : ARes} {a b : V} : FinP [x, y] (.t [a, b]) ⟨t, [], H⟩ ↔
    (∃ r0, resOne t H x = some r0 ∧ exV1 deep H r0 = some a) ∧ ∃ r0, resOne t H y = some r0 ∧ exV1 deep H r0 = some b := by
  simp only [FinP, results, true_and, mapO]
  cases resOne t H x with
  | none => simp
  | some u => cases resOne t H y with
    | none => simp
    | some w => cases h1 : exV1 deep H u <;> cases h2 : exV1 deep H w <;> simp [exV, h1, h2]
@[simp] theorem fin_three {t : T} {H : Heap} {x y z : ARes} {a b c : V} : FinP [x, y, z] (.t [a, b, c]) ⟨t, [], H⟩ ↔
    (∃ r0, resOne t H x = some r0 ∧ exV1 deep H r0 = some a) ∧ (∃ r0, resOne t H y = some r0 ∧ exV1 deep H r0 = some b) ∧ ∃ r0, resOne t H z = some r0 ∧ exV1 deep H r0 = some c := by
  simp only [FinP, results, true_and, mapO]
  cases resOne t H x with
  | none => simp
  | some u => cases resOne t H y with
    | none => simp
    | some w => cases resOne t H z with
      | none => simp
      | some q => cases h1 : exV1 deep H u <;> cases h2 : exV1 deep H w <;> cases h3 : exV1 deep H q <;> simp [exV, h1, h2, h3]

/-! ### Slices by value -/

/-- Which empty slice. -/
inductive Tg where | nil | es | fs
  deriving DecidableEq
def Tg.fc : Tg → FC
  | .nil => .nils
  | .es => .es
  | .fs => .fs [] 0
/-- A slice of rows. -/
def sl (g : Tg) (rows : List (List FC)) : FC := if rows.isEmpty then g.fc else .fs rows.flatten rows.length
/-- All rows have so many cells. -/
def Grid (sz : Nat) (rows : List (List FC)) : Prop := ∀ r ∈ rows, r.length = sz

theorem flatten_len {sz : Nat} : ∀ {rows : List (List FC)}, Grid sz rows → rows.flatten.length = rows.length * sz
  | [], _ => by simp
  | r :: rows, h => by
    have := flatten_len (rows := rows) fun x hx => h x (List.mem_cons_of_mem _ hx)
    simp only [List.flatten_cons, List.length_append, List.length_cons, this, h r List.mem_cons_self, Nat.add_mul, Nat.one_mul]
    omega
theorem drop_rows {sz : Nat} : ∀ {rows : List (List FC)} (j : Nat), Grid sz rows → rows.flatten.drop (j * sz) = (rows.drop j).flatten
  | rows, 0, _ => by simp
  | [], j + 1, _ => by simp
  | r :: rows, j + 1, h => by
    have hr := h r List.mem_cons_self
    have := drop_rows (rows := rows) j fun x hx => h x (List.mem_cons_of_mem _ hx)
    rw [List.flatten_cons, List.drop_succ_cons, ← this, Nat.add_mul, Nat.one_mul, List.drop_append, hr]
    simp [hr, show j * sz + sz - sz = j * sz by omega]
theorem take_rows {sz : Nat} : ∀ {rows : List (List FC)} (j : Nat), Grid sz rows → rows.flatten.take (j * sz) = (rows.take j).flatten
  | rows, 0, _ => by simp
  | [], j + 1, _ => by simp
  | r :: rows, j + 1, h => by
    have hr := h r List.mem_cons_self
    have := take_rows (rows := rows) j fun x hx => h x (List.mem_cons_of_mem _ hx)
    rw [List.flatten_cons, List.take_succ_cons, List.flatten_cons, ← this, Nat.add_mul, Nat.one_mul, List.take_append, hr]
    simp [hr, show j * sz + sz - sz = j * sz by omega]
    rw [List.take_of_length_le (by omega)]
theorem Grid.take {sz : Nat} {rows : List (List FC)} (h : Grid sz rows) (n : Nat) : Grid sz (rows.take n) := fun r hr => h r (List.mem_of_mem_take hr)
theorem Grid.drop {sz : Nat} {rows : List (List FC)} (h : Grid sz rows) (n : Nat) : Grid sz (rows.drop n) := fun r hr => h r (List.mem_of_mem_drop hr)
theorem Grid.append {sz : Nat} {a b : List (List FC)} (h : Grid sz a) (h' : Grid sz b) : Grid sz (a ++ b) := fun r hr => (List.mem_append.1 hr).elim (h r) (h' r)
theorem Grid.map {α : Type} {sz : Nat} {l : List α} {g : α → List FC} (h : ∀ x, (g x).length = sz) : Grid sz (l.map g) := fun r hr => by
  obtain ⟨x, _, rfl⟩ := List.mem_map.1 hr; exact h x

/-- Row j, from its cell k on. -/
theorem drop_row {sz j k : Nat} {rows : List (List FC)} {row : List FC} (hg : Grid sz rows) (hj : rows[j]? = some row) (hk : k ≤ sz) :
    rows.flatten.drop (j * sz + k) = row.drop k ++ (rows.drop (j + 1)).flatten := by
  have hl : j < rows.length := (List.getElem?_eq_some_iff.1 hj).1
  have hr : row.length = sz := hg row (List.mem_of_getElem? hj)
  rw [← List.drop_drop, drop_rows j hg, List.drop_eq_getElem_cons hl, List.flatten_cons]
  have : rows[j] = row := by simpa [List.getElem?_eq_getElem hl] using hj
  rw [this, List.drop_append, show k - row.length = 0 by omega]
  simp

variable {H : Heap}

/-- One cell of a row, through a frozen pointer. -/
theorem ld_row {sz j k : Nat} {rows : List (List FC)} {row : List FC} {x : FC} (hg : Grid sz rows) (hj : rows[j]? = some row) (hx : row[k]? = some x) :
    ldV H none (.c (.f (.fp rows.flatten (j * sz + k)))) = some (.c (.f x)) := by
  have hr : row.length = sz := hg row (List.mem_of_getElem? hj)
  have hk : k < row.length := (List.getElem?_eq_some_iff.1 hx).1
  have e := drop_row (k := k) hg hj (by omega)
  simp only [ldV, cellsAt, Option.bind_some, e]
  rw [List.drop_eq_getElem_cons hk]
  have : row[k] = x := by simpa [List.getElem?_eq_getElem hk] using hx
  simp [takeV, this]
/-- Several cells of a row. -/
theorem ld_rown {sz j k n : Nat} {rows : List (List FC)} {row : List FC} (hg : Grid sz rows) (hj : rows[j]? = some row) (hk : k + n ≤ sz) :
    ldV H (some n) (.c (.f (.fp rows.flatten (j * sz + k)))) = some (.a (((row.drop k).take n).map .f)) := by
  have hr : row.length = sz := hg row (List.mem_of_getElem? hj)
  have e := drop_row (k := k) hg hj (by omega)
  simp only [ldV, cellsAt, Option.bind_some, e]
  simp only [takeV]
  rw [if_pos (by simp only [List.length_map, List.length_append, List.length_drop]; omega)]
  rw [List.map_append, List.take_append_of_le_length (by simp only [List.length_map, List.length_drop]; omega), List.map_take]
/-- A whole row. -/
theorem ld_rowa {sz j : Nat} {rows : List (List FC)} {row : List FC} (hg : Grid sz rows) (hj : rows[j]? = some row) :
    ldV H (some sz) (.c (.f (.fp rows.flatten (j * sz)))) = some (.a (row.map .f)) := by
  have hr : row.length = sz := hg row (List.mem_of_getElem? hj)
  have := ld_rown (H := H) (k := 0) (n := sz) hg hj (by omega)
  simp only [Nat.add_zero, List.drop_zero] at this
  rw [this, List.take_of_length_le (by omega)]
theorem ld_row0 {sz j : Nat} {rows : List (List FC)} {row : List FC} {x : FC} (hg : Grid sz rows) (hj : rows[j]? = some row) (hx : row[0]? = some x) :
    ldV H none (.c (.f (.fp rows.flatten (j * sz)))) = some (.c (.f x)) := ld_row (k := 0) hg hj hx
/-- Slices of one-cell rows. -/
theorem ld_ints {j : Nat} {l : List Int} {x : Int} (hj : l[j]? = some x) :
    ldV H none (.c (.f (.fp (l.map fun n => [fi n]).flatten (j * 1)))) = some (vi x) :=
  ld_row0 (row := [fi x]) (Grid.map fun _ => rfl) (by rw [List.getElem?_map, hj]; rfl) rfl

@[simp] theorem len_sl (g : Tg) (rows : List (List FC)) : slLen H (.f (sl g rows)) = some rows.length := by
  cases rows with
  | nil => cases g <;> rfl
  | cons r rows => rfl
theorem idx_sl {g : Tg} {rows : List (List FC)} {sz : Nat} {k : IntKind} {i : Int} (h0 : 0 ≤ i) (h1 : i < rows.length) :
    indexAV H sz none (.c (.f (sl g rows))) (.c (.f (.int k i))) = some (.c (.f (.fp rows.flatten (i.toNat * sz)))) := by
  cases rows with
  | nil => simp at h1; omega
  | cons r rows =>
    simp only [List.length_cons] at h1
    simp [indexAV, intV, sl, h0]
    omega
theorem cells_sl {g : Tg} {rows : List (List FC)} {sz : Nat} (hg : Grid sz rows) : slCells H sz (.f (sl g rows)) = some (rows.flatten.map .f) := by
  cases rows with
  | nil => cases g <;> simp [sl, Tg.fc, slCells]
  | cons r rows =>
    have := flatten_len hg
    simp only [sl, List.isEmpty_cons, Bool.false_eq_true, if_false, slCells, this, if_true]
end Km
end

section
namespace Km
open Go

/-- Whatever lies in the heap: the call gives r; what was there stays as it was. -/
def Kf (tab : Nat → Option AFunc) (f : Nat) (args : List V) (r : V) : Prop := ∀ H, ∃ J, Ev tab (.fn f) args H r (H ++ J)

section
variable {tab : Nat → Option AFunc} {f : Nat} {args : List V} {r : V}

theorem Kf.det {r2 : V} (h1 : Kf tab f args r) (h2 : Kf tab f args r2) : r = r2 := by
  obtain ⟨_, h1⟩ := h1 []
  obtain ⟨_, h2⟩ := h2 []
  exact (h1.det h2).1
theorem Kf.pure {x : FC} (h : Kf tab f args (.c (.f x))) : Pure tab f args (.c (.f x)) := by
  obtain ⟨J, h⟩ := h []
  exact ⟨_, _, h, by simp⟩
theorem Kf.eq {x : FC} (h : Kf tab f args (.c (.f x))) : Pure tab f args = Eq (.c (.f x)) :=
  funext fun r => propext ⟨fun k => h.pure.det k, fun e => e ▸ h.pure⟩
theorem Pure.eq {r : V} (h : Pure tab f args r) : Pure tab f args = Eq r := funext fun _ => propext ⟨fun k => h.det k, fun e => e ▸ h⟩
/-- What a call leaves behind in the heap. -/
noncomputable def junk (tab : Nat → Option AFunc) (f : Nat) (args : List V) (H : Heap) : Heap := Classical.epsilon fun J => ∃ r, Ev tab (.fn f) args H r (H ++ J)
theorem Kf.ev (h : Kf tab f args r) (H : Heap) : Ev tab (.fn f) args H = E2 r (H ++ junk tab f args H) := by
  have hj : ∃ J, ∃ r, Ev tab (.fn f) args H r (H ++ J) := by obtain ⟨J, hJ⟩ := h H; exact ⟨J, r, hJ⟩
  have hs : ∃ r, Ev tab (.fn f) args H r (H ++ junk tab f args H) := Classical.epsilon_spec hj
  obtain ⟨J, hJ⟩ := h H
  obtain ⟨r', hr⟩ := hs
  obtain ⟨rfl, e⟩ := hJ.det hr
  funext x H'
  exact propext ⟨fun k => hr.det k, fun ⟨e1, e2⟩ => e1 ▸ e2 ▸ hr⟩
theorem Ev.eq {c : Callee} {H H' : Heap} (h : Ev tab c args H r H') : Ev tab c args H = E2 r H' := funext fun _ => funext fun _ => propext ⟨fun k => h.det k, fun ⟨e1, e2⟩ => e1 ▸ e2 ▸ h⟩
theorem Kf.pure_a {xs : List FC} (h : Kf tab f args (.a (xs.map .f))) : Pure tab f args (.a (xs.map .f)) := by
  obtain ⟨J, h⟩ := h []
  exact ⟨_, _, h, by simp [exV]⟩

/-- What a frame's end comes to. -/
def FinH (res : List ARes) (r : V) (H : Heap) (s : St) : Prop := s.defs = [] ∧ results s.regs s.heap res = some r ∧ ∃ J, s.heap = H ++ J

theorem kf_fn {ps : List P} {res : List ARes} {body : ACode} (ht : tab f = some ⟨ps, res, body⟩) (hl : args.length = ps.length)
    (h : ∀ (H : Heap) (Q : Option ACode → St → Prop), (∀ j s, FinH res r H s → Q j s) → WP tab f none [.code body] ⟨setAll ps args .e, [], H⟩ Q) : Kf tab f args r := by
  intro H
  have h' := h H (fun _ s => FinH res r H s) fun _ _ h => h
  obtain ⟨n, m, d, j, s, h1, hd, h2, J, h3⟩ := h'
  exact ⟨J, ev_fn ht hl ⟨n, m, d, j, s, h1, 0, 0, s.heap, by rw [hd]; rfl, by rw [h2], h3⟩⟩

@[simp] theorem finH_one {t : T} {H H' : Heap} {x : ARes} : FinH [x] r H ⟨t, [], H'⟩ ↔ resOne t H' x = some r ∧ ∃ J, H' = H ++ J := by
  simp only [FinH, results, true_and, mapO]
  cases resOne t H' x <;> simp
@[simp] theorem finH_two {t : T} {H H' : Heap} {x y : ARes} {a b : V} : FinH [x, y] (.t [a, b]) H ⟨t, [], H'⟩ ↔ (resOne t H' x = some a ∧ resOne t H' y = some b) ∧ ∃ J, H' = H ++ J := by
  simp only [FinH, results, true_and, mapO]
  cases resOne t H' x <;> cases resOne t H' y <;> simp
@[simp] theorem finH_three {t : T} {H H' : Heap} {x y z : ARes} {a b c : V} : FinH [x, y, z] (.t [a, b, c]) H ⟨t, [], H'⟩ ↔
    (resOne t H' x = some a ∧ resOne t H' y = some b ∧ resOne t H' z = some c) ∧ ∃ J, H' = H ++ J := by
  simp only [FinH, results, true_and, mapO]
  cases resOne t H' x <;> cases resOne t H' y <;> cases resOne t H' z <;> simp

@[simp] theorem app_self (H : Heap) : ∃ J, H = H ++ J := ⟨[], by simp⟩
@[simp] theorem app_more (H L : Heap) : ∃ J, H ++ L = H ++ J := ⟨L, rfl⟩
@[simp] theorem app_get0 (H L : Heap) : (H ++ L)[H.length]? = L[0]? := by rw [List.getElem?_append_right (Nat.le_refl _)]; simp
@[simp] theorem app_get (H L : Heap) (n : Nat) : (H ++ L)[H.length + n]? = L[n]? := by rw [List.getElem?_append_right (by omega)]; congr 1; omega
@[simp] theorem app_set0 (H L : Heap) (b : Blk) : (H ++ L).set H.length b = H ++ L.set 0 b := by rw [List.set_append_right _ _ (Nat.le_refl _)]; simp
@[simp] theorem app_set (H L : Heap) (n : Nat) (b : Blk) : (H ++ L).set (H.length + n) b = H ++ L.set n b := by rw [List.set_append_right _ _ (by omega)]; congr 2; omega

/-- A closed call, reckoned. -/
theorem pure_closed {m d : Nat} {x : FC} (h : (CF tab m d (.fn f) args []).map (·.1) = some (.c (.f x))) : Pure tab f args (.c (.f x)) := by
  rw [Option.map_eq_some_iff] at h
  obtain ⟨⟨r, H'⟩, h1, h2⟩ := h
  exact ⟨r, H', ⟨m, d, h1⟩, by rw [show r = .c (.f x) from h2]; simp⟩

theorem pure_closedv {m d : Nat} {x : V} (h : ((CF tab m d (.fn f) args []).bind fun p => exV deep p.2 p.1) = some x) : Pure tab f args x := by
  rw [Option.bind_eq_some_iff] at h
  obtain ⟨⟨r, H'⟩, h1, h2⟩ := h
  exact ⟨r, H', ⟨m, d, h1⟩, h2⟩
theorem pure_reckoned {b : Bool} (h : ∃ m d H', callF tab noPrim m d (.fn f) [] [] = some (.c (.f (.bool b)), H')) : Pure tab f [] (vb b) := by
  obtain ⟨m, d, H', h⟩ := h
  exact ⟨_, H', ⟨m, d, h⟩, by simp⟩

/-- A call by value whose result is one of several. -/
theorem pure_ex {S : V → Prop} {ps : List P} {res : List ARes} {body : ACode} (ht : tab f = some ⟨ps, res, body⟩) (hl : args.length = ps.length)
    (h : ∀ Q : Option ACode → St → Prop, (∀ j s r, S r → FinP res r s → Q j s) → WP tab f none [.code body] ⟨setAll ps args .e, [], []⟩ Q) : ∃ r, S r ∧ Pure tab f args r := by
  have h' := h (fun _ s => ∃ r, S r ∧ FinP res r s) fun _ _ r h1 h2 => ⟨r, h1, h2⟩
  obtain ⟨n, m, d, j, s, h1, r, hr, hd, r0, h2, h3⟩ := h'
  exact ⟨r, hr, r0, s.heap, ev_fn ht hl ⟨n, m, d, j, s, h1, 0, 0, s.heap, by rw [hd]; rfl, h2, rfl⟩, h3⟩

variable {fn i : Nat} {ro : Option Nat} {k : List AItem} {ds : List ADef} {Q : Option ACode → St → Prop}

/-- The loop's step: one further. -/
def incC (a x : Nat) : ACode := .region [⟨D x, .bin .add (R a) (.k (.c (.f (.int .i64 1)))), none⟩, ⟨D a, .mov (R x), none⟩] []
/-- A round: the test, the body, the step. -/
def roundC (i a b c x : Nat) (body : ACode) : ACode := .seq (.region [⟨D c, .bin .lss (R a) (R b), none⟩] []) (.seq (.cond (R c) .skip (.exit i)) (.seq body (incC a x)))
/-- 'for a < b': the loop as the translator lays it: the test at the head, a step at the end. -/
def forLoop (i a b c x : Nat) (body : ACode) : ACode := .block i (.loop (roundC i a b c x body))

theorem kw_for {a b c x : Nat} {body : ACode} {t : T} {H : Heap} (N : Nat) (I : Nat → T → Heap → Prop) (hN : N ≤ 9223372036854775807) (hab : a ≠ b) (hxb : x ≠ b)
    (ha : t.g a = vi 0) (hb : t.g b = vi N) (h0 : I 0 t H)
    (step : ∀ j t H, j < N → I j t H → t.g a = vi j → t.g b = vi N →
      (∀ t' H', I (j + 1) ((t'.s x (vi (j + 1 : Nat))).s a (vi (j + 1 : Nat))) H' → t'.g a = vi j → t'.g b = vi N →
        WP tab fn ro (.code (incC a x) :: .inLoop (roundC i a b c x body) :: .inBlock i :: k) ⟨t', ds, H'⟩ Q) →
      WP tab fn ro (.code body :: .code (incC a x) :: .inLoop (roundC i a b c x body) :: .inBlock i :: k) ⟨t.s c (vb true), ds, H⟩ Q)
    (done : ∀ t H, I N t H → t.g a = vi N → t.g b = vi N → WP tab fn ro k ⟨t.s c (vb false), ds, H⟩ Q) :
    WP tab fn ro (.code (forLoop i a b c x body) :: k) ⟨t, ds, H⟩ Q := by
  have hro : ∀ ops : List AOper, ops.all (·.op.roundOK) = true → ro = none ∨ ops.all (·.op.roundOK) = true := fun _ h => .inr h
  refine kw_block ?_
  refine kw_loop (fun n s => ∃ j t H, s = ⟨t, ds, H⟩ ∧ j ≤ N ∧ n = N - j ∧ I j t H ∧ t.g a = vi j ∧ t.g b = vi N) N ⟨0, t, H, rfl, by omega, by omega, h0, ha, hb⟩ ?_
  rintro n s ⟨j, t, H, rfl, hj, rfl, hI, ha, hb⟩ ih
  refine kw_seq ?_
  refine kw_region (hro _ rfl) ?_
  simp [ha, hb]
  by_cases hlt : j < N
  · rw [decide_eq_true hlt]
    refine kw_seq ?_
    refine kw_cond_t (by simp) ?_
    refine kw_skip ?_
    refine kw_seq ?_
    refine step j t H hlt hI ha hb fun t' H' hI' ha' hb' => ?_
    refine kw_region (hro _ rfl) ?_
    simp [ha']
    rw [wrap64 (by omega) (by omega)]
    refine ih (N - (j + 1)) _ (by omega) ⟨j + 1, _, H', rfl, by omega, rfl, by simpa using hI', by simp, ?_⟩
    simp [hab, hxb, hb']
  · have : j = N := by omega
    subst this
    rw [decide_eq_false hlt]
    refine kw_seq ?_
    refine kw_cond_f (by simp) ?_
    refine kw_exit (k' := k) (by simp [exitTo]) ?_
    exact done t H hI ha hb

/-- The step of a loop in three parts. -/
def incC3 (a x y : Nat) : ACode := .region [⟨D x, .mov (R a), none⟩, ⟨D y, .bin .add (R x) (.k (.c (.f (.int .i64 1)))), none⟩, ⟨D a, .mov (R y), none⟩] []
def roundC3 (i a c x y : Nat) (hd : List AOper) (body : ACode) : ACode := .seq (.seq (.region hd []) (.cond (R c) .skip (.exit i))) (.seq body (incC3 a x y))
/-- 'for ; test; a++': the test is reckoned anew in each round. -/
def cforLoop (i a c x y : Nat) (hd : List AOper) (body : ACode) : ACode := .block i (.loop (roundC3 i a c x y hd body))

theorem kw_cfor {a c x y : Nat} {hd : List AOper} {body : ACode} {t : T} {H : Heap} (N : Nat) (I : Nat → T → Heap → Prop) (hN : N ≤ 9223372036854775807) (hxy : hd.all (·.op.roundOK) = true)
    (ha : t.g a = vi 0) (h0 : I 0 t H)
    (head : ∀ j t H (L : St → Prop), j ≤ N → I j t H → t.g a = vi j → (∀ t', I j t' H → t'.g a = vi j → t'.g c = vb (decide ((j : Int) < (N : Int))) → L ⟨t', ds, H⟩) → OPS tab hd ⟨t, ds, H⟩ L)
    (step : ∀ j t H, j < N → I j t H → t.g a = vi j →
      (∀ t' H', I (j + 1) (((t'.s x (vi j)).s y (vi (j + 1 : Nat))).s a (vi (j + 1 : Nat))) H' → t'.g a = vi j →
        WP tab fn ro (.code (incC3 a x y) :: .inLoop (roundC3 i a c x y hd body) :: .inBlock i :: k) ⟨t', ds, H'⟩ Q) →
      WP tab fn ro (.code body :: .code (incC3 a x y) :: .inLoop (roundC3 i a c x y hd body) :: .inBlock i :: k) ⟨t, ds, H⟩ Q)
    (done : ∀ t H, I N t H → t.g a = vi N → WP tab fn ro k ⟨t, ds, H⟩ Q) :
    WP tab fn ro (.code (cforLoop i a c x y hd body) :: k) ⟨t, ds, H⟩ Q := by
  have hro : ∀ ops : List AOper, ops.all (·.op.roundOK) = true → ro = none ∨ ops.all (·.op.roundOK) = true := fun _ h => .inr h
  refine kw_block ?_
  refine kw_loop (fun n s => ∃ j t H, s = ⟨t, ds, H⟩ ∧ j ≤ N ∧ n = N - j ∧ I j t H ∧ t.g a = vi j) N ⟨0, t, H, rfl, by omega, by omega, h0, ha⟩ ?_
  rintro n s ⟨j, t, H, rfl, hj, rfl, hI, ha⟩ ih
  refine kw_seq ?_
  refine kw_seq ?_
  refine kw_region (hro _ hxy) ?_
  refine head j t H _ hj hI ha fun t' hI ha hc => ?_
  by_cases hlt : j < N
  · rw [decide_eq_true (by omega)] at hc
    refine kw_cond_t hc ?_
    refine kw_skip ?_
    refine kw_seq ?_
    refine step j t' H hlt hI ha fun t' H' hI' ha' => ?_
    refine kw_region (hro _ rfl) ?_
    simp [ha']
    rw [wrap64 (by omega) (by omega)]
    exact ih (N - (j + 1)) _ (by omega) ⟨j + 1, _, H', rfl, by omega, rfl, by simpa using hI', by simp⟩
  · have : j = N := by omega
    subst this
    rw [decide_eq_false (by omega)] at hc
    refine kw_cond_f hc ?_
    refine kw_exit (k' := k) (by simp [exitTo]) ?_
    exact done t' H hI ha
end
end Km
end

section
namespace Km
open Go

/-- The first index where p holds; -1 if there is none. -/
def firstI {α : Type} (l : List α) (p : α → Bool) : Int := match l.findIdx? p with | some j => j | none => -1
theorem firstI_ge {α : Type} (l : List α) (p : α → Bool) : decide (0 ≤ firstI l p) = l.any p := by
  unfold firstI
  cases h : l.findIdx? p with
  | none =>
    rw [List.findIdx?_eq_none_iff] at h
    have : l.any p = false := by rw [List.any_eq_false]; intro x hx; simp [h x hx]
    simp [this]
  | some j =>
    rw [List.findIdx?_eq_some_iff_getElem] at h
    obtain ⟨hj, hp, _⟩ := h
    have : l.any p = true := by rw [List.any_eq_true]; exact ⟨l[j], List.getElem_mem hj, hp⟩
    simp [this]
theorem firstI_at {α : Type} {l : List α} {p : α → Bool} {j : Nat} (hj : j < l.length) (hp : p l[j] = true) (hn : ∀ (i : Nat) (hi : i < j), p (l[i]'(by omega)) = false) : firstI l p = j := by
  have : l.findIdx? p = some j := by
    rw [List.findIdx?_eq_some_iff_getElem]
    exact ⟨hj, hp, fun i hi => by simp [hn i hi]⟩
  simp [firstI, this]
theorem firstI_no {α : Type} {l : List α} {p : α → Bool} (hn : ∀ (i : Nat) (hi : i < l.length), p l[i] = false) : firstI l p = -1 := by
  have : l.findIdx? p = none := by
    rw [List.findIdx?_eq_none_iff]
    intro x hx
    obtain ⟨i, hi, rfl⟩ := List.getElem_of_mem hx
    exact hn i hi
  simp [firstI, this]

def ints (l : List Int) : List (List FC) := l.map fun n => [fi n]
@[simp] theorem ints_len (l : List Int) : (ints l).length = l.length := by simp [ints]
theorem ints_grid (l : List Int) : Grid 1 (ints l) := Grid.map fun _ => rfl
theorem ld_int {j : Nat} {l : List Int} (hj : j < l.length) {H : Heap} : ldV H none (.c (.f (.fp (ints l).flatten j))) = some (vi l[j]) := by
  have := ld_ints (H := H) (List.getElem?_eq_getElem hj)
  simpa [ints] using this

variable {tab : Nat → Option AFunc}

/-! ### Index, Contains -/

def idxBody (t : List AOper) : ACode := .block 1 (.seq (.region [⟨D 10, .mov (R 8), none⟩, ⟨D 5, .mov (R 10), none⟩] []) (.seq
  (.region t []) (.cond (R 16) (.seq (.region [⟨D 17, .mov (R 5), none⟩, ⟨D 4, .mov (R 17), none⟩] []) .ret) .skip)))
def idxA (t : List AOper) : AFunc := ⟨[P.nat 0, P.nat 1], [.tmp (P.nat 4)], .seq (.region [⟨D 4, .mov (.k (.c (.f (.int .i64 0)))), none⟩] [])
  (.seq (.seq (.region [⟨D 6, .mov (R 0), none⟩, ⟨D 7, .len (R 6), none⟩, ⟨D 8, .mov (.k (.c (.f (.int .i64 0)))), none⟩] []) (forLoop 0 8 7 9 18 (idxBody t)))
  (.seq (.region [⟨D 4, .mov (.k (.c (.f (.int .i64 (-1))))), none⟩] []) .ret))⟩
/-- The test of slices.Index over ints. -/
def eqInt : List AOper := [⟨D 11, .mov (R 1), none⟩, ⟨D 12, .mov (R 0), none⟩, ⟨D 13, .mov (R 5), none⟩, ⟨D 14, .indexA 1 none (R 12) (R 13), none⟩, ⟨D 15, .load none (R 14), none⟩, ⟨D 16, .bin .eql (R 11) (R 15), none⟩]
/-- The test of slices.IndexFunc. -/
def askFn (sz : Nat) (ld : Option Nat) : List AOper := [⟨D 11, .mov (R 1), none⟩, ⟨D 12, .mov (R 0), none⟩, ⟨D 13, .mov (R 5), none⟩, ⟨D 14, .indexA sz none (R 12) (R 13), none⟩, ⟨D 15, .load ld (R 14), none⟩, ⟨D 16, .calld (R 11) [(R 15)] true, none⟩]

/-- The loop of Index and IndexFunc: whatever the test is, if it answers p at element j. -/
theorem idx_kf {f : Nat} {test : List AOper} (ht : tab f = some (idxA test)) {x y : V} {α : Type} {l : List α} {p : α → Bool} (hl : l.length ≤ 9223372036854775807)
    (hx : ∃ c, x = .c c ∧ ∀ H, slLen H c = some l.length)
    (htest : ∀ (j : Nat) (hj : j < l.length) (t : T) (H : Heap) (L : St → Prop), t.g 0 = x → t.g 1 = y → t.g 5 = vi j →
      (∀ t' J, t'.g 0 = x → t'.g 1 = y → t'.g 5 = vi j → t'.g 7 = t.g 7 → t'.g 8 = t.g 8 → t'.g 16 = vb (p l[j]) → L ⟨t', [], H ++ J⟩) → OPS tab test ⟨t, [], H⟩ L) :
    Kf tab f [x, y] (vi (firstI l p)) := by
  obtain ⟨c, rfl, hc⟩ := hx
  refine kf_fn ht rfl fun H Q hQ => ?_
  refine kw_seq ?_
  refine kw_region (.inl rfl) ?_
  simp
  refine kw_seq ?_
  refine kw_seq ?_
  refine kw_region (.inl rfl) ?_
  simp [hc]
  refine kw_for l.length (fun j t H' => t.g 0 = .c c ∧ t.g 1 = y ∧ (∃ J, H' = H ++ J) ∧ ∀ (i : Nat) (hi : i < l.length), i < j → p l[i] = false) hl (by decide) (by decide) (by simp) (by simp) (by simp) ?_ ?_
  · rintro j t _ hj ⟨h0, h1, ⟨J, rfl⟩, h2⟩ ha hb next
    refine kw_block ?_
    refine kw_seq ?_
    refine kw_region (.inl rfl) ?_
    simp [ha]
    refine kw_seq ?_
    refine kw_region (.inl rfl) ?_
    refine htest j hj _ _ _ (by simp [h0]) (by simp [h1]) (by simp) fun t' J' g0 g1 g5 g7 g8 g16 => ?_
    cases hv : p l[j] with
    | true =>
      refine kw_cond_t (by simp [g16, hv]) ?_
      refine kw_seq ?_
      refine kw_region (.inl rfl) ?_
      simp [g5]
      refine kw_ret (hQ _ _ ?_)
      have := firstI_at hj hv (fun i hi => h2 i (by omega) hi)
      simp [this]
    | false =>
      refine kw_cond_f (by simp [g16, hv]) ?_
      refine kw_skip (kw_inBlock (next _ _ ?_ (by simp [g8, ha]) (by simp [g7, hb])))
      refine ⟨by simp [g0], by simp [g1], ⟨J ++ J', by simp⟩, fun i hi hij => ?_⟩
      by_cases e : i = j
      · subst e; exact hv
      · exact h2 i hi (by omega)
  · rintro t _ ⟨h0, h1, ⟨J, rfl⟩, h2⟩ ha hb
    refine kw_seq ?_
    refine kw_region (.inl rfl) ?_
    simp
    refine kw_ret (hQ _ _ ?_)
    have := firstI_no (l := l) (p := p) (fun i hi => h2 i hi hi)
    simp [this]

theorem index_int_kf {f : Nat} (ht : tab f = some (idxA eqInt)) (g : Tg) (l : List Int) (v : Int) (hl : l.length ≤ 9223372036854775807) :
    Kf tab f [.c (.f (sl g (ints l))), vi v] (vi (firstI l (· == v))) := by
  refine idx_kf ht hl ⟨_, rfl, fun H => by simp⟩ ?_
  intro j hj t H L h0 h1 h5 hL
  simp [eqInt, h0, h1, h5, idx_sl, hj, ld_int]
  have := hL ((((((t.s 11 (vi v)).s 12 (.c (.f (sl g (ints l))))).s 13 (vi j)).s 14 (.c (.f (.fp (ints l).flatten j)))).s 15 (vi l[j])).s 16 (vb (decide (v = l[j])))) [] (by simp [h0]) (by simp [h1]) (by simp [h5]) (by simp) (by simp) (by
    have hd : decide (v = l[j]) = (l[j] == v) := by rw [Bool.eq_iff_iff]; simp; exact eq_comm
    simp only [T.g_s, if_true, hd])
  simpa using this

/-- IndexFunc over rows, by a frozen closure that answers p. -/
theorem indexf_kf {f sz : Nat} {ld : Option Nat} (ht : tab f = some (idxA (askFn sz ld))) {α : Type} (l : List α) (enc : α → List FC) (val : α → V) (p : α → Bool) (g : Tg) (k : Nat) (caps : List FC)
    (hl : l.length ≤ 9223372036854775807) (hload : ∀ (j : Nat) (hj : j < l.length) (H : Heap), ldV H ld (.c (.f (.fp (l.map enc).flatten (j * sz)))) = some (val l[j]))
    (hp : ∀ x ∈ l, Kf tab k (val x :: caps.map fun c => .c (.f c)) (vb (p x))) :
    Kf tab f [.c (.f (sl g (l.map enc))), .c (.f (.fn k caps))] (vi (firstI l p)) := by
  refine idx_kf ht hl ⟨_, rfl, fun H => by simp⟩ ?_
  intro j hj t H L h0 h1 h5 hL
  have he := (hp l[j] (List.getElem_mem hj)).ev H
  have hi := idx_sl (H := H) (g := g) (rows := l.map enc) (sz := sz) (k := .i64) (i := (j : Int)) (by omega) (by simpa using hj)
  simp [askFn, h0, h1, h5, hi, hload j hj, he]
  exact hL _ _ (by simp [h0]) (by simp [h1]) (by simp [h5]) (by simp) (by simp) (by simp)

def containsA (f : Nat) : AFunc := ⟨[P.nat 0, P.nat 1], [.tmp (P.nat 4)], .seq (.region [⟨D 4, .mov (.k (.c (.f (.bool false)))), none⟩] []) (.seq
  (.region [⟨D 5, .mov (R 0), none⟩, ⟨D 6, .mov (R 1), none⟩, ⟨D 7, .call f [(R 5), (R 6)] false, none⟩, ⟨D 8, .bin .geq (R 7) (.k (.c (.f (.int .i64 0)))), none⟩, ⟨D 4, .mov (R 8), none⟩] []) .ret)⟩
theorem contains_kf {f k : Nat} (ht : tab f = some (containsA k)) {a b : FC} {α : Type} {l : List α} {p : α → Bool} (h : Kf tab k [.c (.f a), .c (.f b)] (vi (firstI l p))) :
    Kf tab f [.c (.f a), .c (.f b)] (vb (l.any p)) := by
  refine kf_fn ht rfl fun H Q hQ => ?_
  refine kw_seq ?_
  refine kw_region (.inl rfl) ?_
  simp
  refine kw_seq ?_
  refine kw_region (.inl rfl) ?_
  have he := h.eq
  simp [he]
  refine kw_ret (hQ _ _ ?_)
  simp [firstI_ge]
end Km
end

section
namespace Km
open Go

theorem lt_of_get {H : Heap} {b : Nat} {x : Blk} (h : H[b]? = some x) : b < H.length := (List.getElem?_eq_some_iff.1 h).1

theorem mapO_imp {α β : Type} {g g' : α → Option β} : ∀ {xs : List α} {ys : List β}, (∀ x y, x ∈ xs → g x = some y → g' x = some y) → mapO g xs = some ys → mapO g' xs = some ys
  | [], ys, _, h => h
  | x :: xs, ys, hi, h => by
    simp only [mapO] at h ⊢
    cases hx : g x with
    | none => simp [hx] at h
    | some y =>
      cases hxs : mapO g xs with
      | none => simp [hx, hxs] at h
      | some zs =>
        simp only [hx, hxs] at h
        rw [hi x y List.mem_cons_self hx, mapO_imp (fun x y hm => hi x y (List.mem_cons_of_mem _ hm)) hxs]
        exact h
theorem mapO_len {α β : Type} {g : α → Option β} : ∀ {xs : List α} {ys : List β}, mapO g xs = some ys → ys.length = xs.length
  | [], ys, h => by simp [mapO] at h; subst h; rfl
  | x :: xs, ys, h => by
    simp only [mapO] at h
    cases hx : g x with
    | none => simp [hx] at h
    | some y =>
      cases hxs : mapO g xs with
      | none => simp [hx, hxs] at h
      | some zs => simp [hx, hxs] at h; subst h; simp [mapO_len hxs]
theorem mapO_append {α β : Type} {g : α → Option β} : ∀ {xs xs' : List α} {ys ys' : List β}, mapO g xs = some ys → mapO g xs' = some ys' → mapO g (xs ++ xs') = some (ys ++ ys')
  | [], xs', ys, ys', h, h' => by simp [mapO] at h; subst h; simpa using h'
  | x :: xs, xs', ys, ys', h, h' => by
    simp only [mapO, List.cons_append] at h ⊢
    cases hx : g x with
    | none => simp [hx] at h
    | some y =>
      cases hxs : mapO g xs with
      | none => simp [hx, hxs] at h
      | some zs => simp [hx, hxs] at h; subst h; simp [mapO_append hxs h']

/-- A cell by value, read through boxes alone. -/
def exB : Nat → Heap → C → Option FC
  | _, _, .f x => some x
  | 0, _, _ => none
  | n + 1, H, .ptr b off _ => match H[b]? with
    | some (.box cs _) => (mapO (exB n H) cs).map (.fp · off)
    | _ => none
  | n + 1, H, .sl b o l _ _ sz => match H[b]? with
    | some (.box cs _) => if o + l * sz ≤ cs.length then (mapO (exB n H) ((cs.drop o).take (l * sz))).map (.fs · l) else none
    | _ => none
  | _ + 1, _, _ => none
@[simp] theorem exB_f {n : Nat} {H : Heap} {x : FC} : exB n H (.f x) = some x := by cases n <;> rfl
theorem exB_sl {n b o l c ep sz : Nat} {H : Heap} : exB (n + 1) H (.sl b o l c ep sz) = match H[b]? with
    | some (.box cs _) => if o + l * sz ≤ cs.length then (mapO (exB n H) ((cs.drop o).take (l * sz))).map (.fs · l) else none
    | _ => none := rfl
@[simp] theorem mapO_exB {n : Nat} {H : Heap} : ∀ (xs : List FC), mapO (exB n H) (xs.map .f) = some xs
  | [] => rfl
  | x :: xs => by simp only [List.map_cons, mapO, exB_f, mapO_exB xs]

/-- What is read through boxes does not turn while the boxes hold what they held. -/
theorem exB_imp {H H' : Heap} (hb : ∀ (b : Nat) cs fl, H[b]? = some (.box cs fl) → ∃ fl', H'[b]? = some (.box cs fl')) : ∀ (n : Nat) (x : C) (y : FC), exB n H x = some y → exB n H' x = some y
  | n, .f x, y, h => by simpa using h
  | 0, .ptr _ _ _, _, h => by simp [exB] at h
  | 0, .sl _ _ _ _ _ _, _, h => by simp [exB] at h
  | n + 1, .ptr b off e, y, h => by
    simp only [exB] at h ⊢
    split at h
    · rename_i cs fl hcs
      obtain ⟨fl', h'⟩ := hb b cs fl hcs
      simp only [h']
      rw [Option.map_eq_some_iff] at h ⊢
      obtain ⟨zs, h1, h2⟩ := h
      exact ⟨zs, mapO_imp (fun x y _ => exB_imp hb n x y) h1, h2⟩
    · simp at h
  | n + 1, .sl b o l c e sz, y, h => by
    simp only [exB] at h ⊢
    split at h
    · rename_i cs fl hcs
      obtain ⟨fl', h'⟩ := hb b cs fl hcs
      simp only [h']
      split at h
      · rename_i hl
        rw [if_pos hl]
        rw [Option.map_eq_some_iff] at h ⊢
        obtain ⟨zs, h1, h2⟩ := h
        exact ⟨zs, mapO_imp (fun x y _ => exB_imp hb n x y) h1, h2⟩
      · simp at h
    · simp at h
  | 0, .cl _ _, _, h => by simp [exB] at h
  | 0, .yl _, _, h => by simp [exB] at h
  | 0, .mp _, _, h => by simp [exB] at h
  | 0, .it _, _, h => by simp [exB] at h
  | 0, .bm _ _, _, h => by simp [exB] at h
  | 0, .mi _, _, h => by simp [exB] at h
  | _ + 1, .cl _ _, _, h => by simp [exB] at h
  | _ + 1, .yl _, _, h => by simp [exB] at h
  | _ + 1, .mp _, _, h => by simp [exB] at h
  | _ + 1, .it _, _, h => by simp [exB] at h
  | _ + 1, .bm _ _, _, h => by simp [exB] at h
  | _ + 1, .mi _, _, h => by simp [exB] at h
theorem exB_exC {H : Heap} : ∀ (n : Nat) (x : C) (y : FC), exB n H x = some y → exC n H x = some y
  | n, .f x, y, h => by simpa using h
  | 0, .ptr _ _ _, _, h => by simp [exB] at h
  | 0, .sl _ _ _ _ _ _, _, h => by simp [exB] at h
  | n + 1, .ptr b off e, y, h => by
    simp only [exB] at h
    simp only [exC]
    split at h
    · rename_i cs fl hcs
      try simp only [hcs]
      rw [Option.map_eq_some_iff] at h ⊢
      obtain ⟨zs, h1, h2⟩ := h
      exact ⟨zs, mapO_imp (fun x y _ => exB_exC n x y) h1, h2⟩
    · simp at h
  | n + 1, .sl b o l c e sz, y, h => by
    simp only [exB] at h
    simp only [exC]
    split at h
    · rename_i cs fl hcs
      try simp only [hcs]
      split at h
      · rename_i hl
        rw [if_pos hl]
        rw [Option.map_eq_some_iff] at h ⊢
        obtain ⟨zs, h1, h2⟩ := h
        exact ⟨zs, mapO_imp (fun x y _ => exB_exC n x y) h1, h2⟩
      · simp at h
    · simp at h
  | 0, .cl _ _, _, h => by simp [exB] at h
  | 0, .yl _, _, h => by simp [exB] at h
  | 0, .mp _, _, h => by simp [exB] at h
  | 0, .it _, _, h => by simp [exB] at h
  | 0, .bm _ _, _, h => by simp [exB] at h
  | 0, .mi _, _, h => by simp [exB] at h
  | _ + 1, .cl _ _, _, h => by simp [exB] at h
  | _ + 1, .yl _, _, h => by simp [exB] at h
  | _ + 1, .mp _, _, h => by simp [exB] at h
  | _ + 1, .it _, _, h => by simp [exB] at h
  | _ + 1, .bm _ _, _, h => by simp [exB] at h
  | _ + 1, .mi _, _, h => by simp [exB] at h
theorem exB_up {H : Heap} : ∀ {n m : Nat} {x : C} {y : FC}, exB n H x = some y → n ≤ m → exB m H x = some y
  | n, m, .f x, y, h, _ => by simpa using h
  | 0, _, .ptr _ _ _, _, h, _ => by simp [exB] at h
  | 0, _, .sl _ _ _ _ _ _, _, h, _ => by simp [exB] at h
  | _ + 1, 0, _, _, _, hm => by omega
  | n + 1, m + 1, .ptr b off e, y, h, hm => by
    simp only [exB] at h ⊢
    split at h
    · rename_i cs fl hcs
      try simp only [hcs]
      rw [Option.map_eq_some_iff] at h ⊢
      obtain ⟨zs, h1, h2⟩ := h
      exact ⟨zs, mapO_imp (fun x y _ hx => exB_up hx (by omega)) h1, h2⟩
    · simp at h
  | n + 1, m + 1, .sl b o l c e sz, y, h, hm => by
    simp only [exB] at h ⊢
    split at h
    · rename_i cs fl hcs
      try simp only [hcs]
      split at h
      · rename_i hl
        rw [if_pos hl]
        rw [Option.map_eq_some_iff] at h ⊢
        obtain ⟨zs, h1, h2⟩ := h
        exact ⟨zs, mapO_imp (fun x y _ hx => exB_up hx (by omega)) h1, h2⟩
      · simp at h
    · simp at h
  | 0, _, .cl _ _, _, h, _ => by simp [exB] at h
  | 0, _, .yl _, _, h, _ => by simp [exB] at h
  | 0, _, .mp _, _, h, _ => by simp [exB] at h
  | 0, _, .it _, _, h, _ => by simp [exB] at h
  | 0, _, .bm _ _, _, h, _ => by simp [exB] at h
  | 0, _, .mi _, _, h, _ => by simp [exB] at h
  | _ + 1, _ + 1, .cl _ _, _, h, _ => by simp [exB] at h
  | _ + 1, _ + 1, .yl _, _, h, _ => by simp [exB] at h
  | _ + 1, _ + 1, .mp _, _, h, _ => by simp [exB] at h
  | _ + 1, _ + 1, .it _, _, h, _ => by simp [exB] at h
  | _ + 1, _ + 1, .bm _ _, _, h, _ => by simp [exB] at h
  | _ + 1, _ + 1, .mi _, _, h, _ => by simp [exB] at h
theorem exC_up {H : Heap} {n m : Nat} {x : C} {y : FC} (h : exB n H x = some y) (hm : n ≤ m) : exC m H x = some y := exB_exC m x y (exB_up h hm)
theorem exB_push {H : Heap} (L : Heap) {n : Nat} {x : C} {y : FC} (h : exB n H x = some y) : exB n (H ++ L) x = some y :=
  exB_imp (fun b cs fl hb => ⟨fl, by rw [List.getElem?_append_left (lt_of_get hb)]; exact hb⟩) n x y h

/-- Marking turns no more than marks. -/
def Marks (H H' : Heap) : Prop := H'.length = H.length ∧ ∀ b : Nat, match H[b]? with
  | some (.box cs _) => ∃ fl', H'[b]? = some (.box cs fl')
  | some (.opn sz cs fl ep st) => ∃ fl', H'[b]? = some (.opn sz cs fl' ep st) ∧ (st = .loc → fl ≤ cs.length → fl' ≤ cs.length)
  | o => H'[b]? = o
theorem Marks.refl (H : Heap) : Marks H H := ⟨rfl, fun b => by
  split
  · exact ⟨_, ‹_›⟩
  · exact ⟨_, ‹_›, fun _ => id⟩
  · rfl⟩
theorem Marks.box {H H' : Heap} (h : Marks H H') {b fl : Nat} {cs : List C} (hb : H[b]? = some (.box cs fl)) : ∃ fl', H'[b]? = some (.box cs fl') := by
  have := h.2 b; rw [hb] at this; exact this
theorem Marks.opn {H H' : Heap} (h : Marks H H') {b sz fl ep : Nat} {st : Os} {cs : List C} (hb : H[b]? = some (.opn sz cs fl ep st)) : ∃ fl', H'[b]? = some (.opn sz cs fl' ep st) ∧ (st = .loc → fl ≤ cs.length → fl' ≤ cs.length) := by
  have := h.2 b; rw [hb] at this; exact this
theorem Marks.trans {H H' H'' : Heap} (h : Marks H H') (h' : Marks H' H'') : Marks H H'' := ⟨by rw [h'.1, h.1], fun b => by
  have h1 := h.2 b
  split
  · rename_i cs fl hb
    rw [hb] at h1
    obtain ⟨fl', h1⟩ := h1
    exact h'.box h1
  · rename_i hb
    rw [hb] at h1
    obtain ⟨fl', h1, h2⟩ := h1
    obtain ⟨fl'', h3, h4⟩ := h'.opn h1
    exact ⟨fl'', h3, fun e x => h4 e (h2 e x)⟩
  · rename_i o hb1 hb2
    have h1 : H'[b]? = H[b]? := by
      revert h1; split
      · rename_i h; exact absurd h (hb1 _ _)
      · rename_i h; exact absurd h (hb2 _ _ _ _ _)
      · exact id
    have h2 := h'.2 b
    rw [h1] at h2
    revert h2; split
    · rename_i h; exact absurd h (hb1 _ _)
    · rename_i h; exact absurd h (hb2 _ _ _ _ _)
    · exact id⟩
theorem Marks.set_box {H : Heap} {b fl fl' : Nat} {cs : List C} (hb : H[b]? = some (.box cs fl)) : Marks H (H.set b (.box cs fl')) := ⟨by simp, fun b' => by
  by_cases e : b = b'
  · subst e; rw [hb]; exact ⟨fl', List.getElem?_set_self (lt_of_get hb)⟩
  · rw [List.getElem?_set_ne e]; exact (Marks.refl H).2 b'⟩
theorem Marks.set_opn {H : Heap} {b sz fl fl' ep : Nat} {st : Os} {cs : List C} (hb : H[b]? = some (.opn sz cs fl ep st)) (hf : st = .loc → fl ≤ cs.length → fl' ≤ cs.length) : Marks H (H.set b (.opn sz cs fl' ep st)) := ⟨by simp, fun b' => by
  by_cases e : b = b'
  · subst e; rw [hb]; exact ⟨fl', List.getElem?_set_self (lt_of_get hb), hf⟩
  · rw [List.getElem?_set_ne e]; exact (Marks.refl H).2 b'⟩
theorem Marks.exB {H H' : Heap} (h : Marks H H') {n : Nat} {x : C} {y : FC} (hx : exB n H x = some y) : exB n H' x = some y := exB_imp (fun _ _ _ hb => h.box hb) n x y hx

theorem marks_foldl {n : Nat} (ih : ∀ (x : C) (H : Heap) (y : FC), exB n H x = some y → Marks H (mkC n x H)) :
    ∀ (cs : List C) (H : Heap) (ys : List FC), mapO (exB n H) cs = some ys → Marks H (cs.foldl (fun H x => mkC n x H) H)
  | [], H, _, _ => Marks.refl H
  | c :: cs, H, ys, h => by
    simp only [mapO] at h
    cases hx : exB n H c with
    | none => simp [hx] at h
    | some y =>
      cases hxs : mapO (exB n H) cs with
      | none => simp [hx, hxs] at h
      | some zs =>
        have h1 := ih c H y hx
        exact h1.trans (marks_foldl ih cs _ zs (mapO_imp (fun x y _ => h1.exB) hxs))

/-- What is read through boxes is only marked. -/
theorem marks_mkC : ∀ (n : Nat) (x : C) (H : Heap) (y : FC), exB n H x = some y → Marks H (mkC n x H)
  | n, .f x, H, y, _ => by rw [mkC_f]; exact Marks.refl H
  | 0, .ptr _ _ _, _, _, h => by simp [exB] at h
  | 0, .sl _ _ _ _ _ _, _, _, h => by simp [exB] at h
  | n + 1, .ptr b off e, H, y, h => by
    simp only [exB] at h
    simp only [mkC]
    split at h
    · rename_i cs fl hcs
      try simp only [hcs]
      rw [Option.map_eq_some_iff] at h
      obtain ⟨zs, h1, _⟩ := h
      have h2 := Marks.set_box (fl' := Nat.max fl cs.length) hcs
      exact h2.trans (marks_foldl (marks_mkC n) _ _ zs (mapO_imp (fun x y _ => h2.exB) h1))
    · simp at h
  | n + 1, .sl b o l c e sz, H, y, h => by
    simp only [exB] at h
    simp only [mkC]
    split at h
    · rename_i cs fl hcs
      try simp only [hcs]
      split at h
      · rw [Option.map_eq_some_iff] at h
        obtain ⟨zs, h1, _⟩ := h
        have h2 := Marks.set_box (fl' := Nat.max fl (o + l * sz)) hcs
        exact h2.trans (marks_foldl (marks_mkC n) _ _ zs (mapO_imp (fun x y _ => h2.exB) h1))
      · simp at h
    · simp at h
  | 0, .cl _ _, _, _, h => by simp [exB] at h
  | 0, .yl _, _, _, h => by simp [exB] at h
  | 0, .mp _, _, _, h => by simp [exB] at h
  | 0, .it _, _, _, h => by simp [exB] at h
  | 0, .bm _ _, _, _, h => by simp [exB] at h
  | 0, .mi _, _, _, h => by simp [exB] at h
  | _ + 1, .cl _ _, _, _, h => by simp [exB] at h
  | _ + 1, .yl _, _, _, h => by simp [exB] at h
  | _ + 1, .mp _, _, _, h => by simp [exB] at h
  | _ + 1, .it _, _, _, h => by simp [exB] at h
  | _ + 1, .bm _ _, _, _, h => by simp [exB] at h
  | _ + 1, .mi _, _, _, h => by simp [exB] at h

/-! ### Lists -/

def Tg.os : Tg → Os
  | .nil => .nil
  | _ => .es

/-- In the heap the value is a slice of these rows: an empty one by value, or the whole of a growable block. 'z': it was not yet passed by value. -/
def LB (z : Bool) (H : Heap) (sz : Nat) (v : V) (g : Tg) (rows : List (List FC)) : Prop :=
  (rows = [] ∧ v = .c (.f g.fc) ∧ g ≠ .fs) ∨
  ∃ b ep fl st cs, v = .c (.sl b 0 rows.length 0 ep sz) ∧ H[b]? = some (.opn sz cs fl ep st) ∧ mapO (exB 60 H) cs = some rows.flatten ∧ fl ≤ cs.length ∧ (z = true → fl = 0) ∧
    (rows = [] → st = g.os ∧ g ≠ .fs) ∧ (rows ≠ [] → st = .loc)

variable {z : Bool} {H H' : Heap} {sz bytes : Nat} {v y : V} {g : Tg} {rows : List (List FC)} {row : List FC} {cs : List C}

theorem LB.push (h : LB z H sz v g rows) (L : Heap) : LB z (H ++ L) sz v g rows := by
  rcases h with h | ⟨b, ep, fl, st, cs, h1, h2, h3, h4⟩
  · exact .inl h
  · exact .inr ⟨b, ep, fl, st, cs, h1, by rw [List.getElem?_append_left (lt_of_get h2)]; exact h2, mapO_imp (fun x y _ => exB_push L) h3, h4⟩

theorem LB.nil0 (hg : g ≠ .fs) : LB z H sz (.c (.f g.fc)) g [] := .inl ⟨rfl, rfl, hg⟩
theorem LB.es0 : LB z H sz (.c (.f .es)) .es [] := .inl ⟨rfl, rfl, by decide⟩
theorem LB.pre (hg : g ≠ .fs) : LB z (H ++ [.opn sz [] 0 0 g.os]) sz (.c (.sl H.length 0 0 0 0 sz)) g [] :=
  .inr ⟨H.length, 0, 0, g.os, [], rfl, by simp, rfl, by simp, fun _ => rfl, fun _ => ⟨rfl, hg⟩, fun h => absurd rfl h⟩

/-- One row more. -/
theorem LB.app (h : LB z H sz v g rows) (hg : Grid sz rows) (hr : row.length = sz) (hsz : sz ≠ 0) (hy : addedV H sz y = some (1, cs)) (hc : mapO (exB 60 H) cs = some row) (hroom : roomOK (rows.length + 1) bytes = true) :
    ∃ v' H', appendV H sz bytes v y = some (v', H') ∧ LB z H' sz v' g (rows ++ [row]) ∧ H.length ≤ H'.length ∧ (∀ (b : Nat) cs fl, H[b]? = some (.box cs fl) → H'[b]? = some (.box cs fl)) := by
  rcases h with ⟨rfl, rfl, hgs⟩ | ⟨b, ep, fl, st, ds, rfl, h2, h3, h3', hz, h4, h5⟩
  · have hroom' : roomOK 1 bytes = true := by simpa using hroom
    refine ⟨.c (.sl H.length 0 1 0 0 sz), H ++ [.opn sz cs 0 0 .loc], ?_, ?_, by simp, fun b cs fl hb => by rw [List.getElem?_append_left (lt_of_get hb)]; exact hb⟩
    · cases g with
      | nil => simp [appendV, hy, hsz, Tg.fc, hroom']
      | es => simp [appendV, hy, hsz, Tg.fc, hroom']
      | fs => exact absurd rfl hgs
    · exact .inr ⟨H.length, 0, 0, .loc, cs, by simp, by simp, by simpa using mapO_imp (fun x y _ => exB_push _) hc, by simp, fun _ => rfl, fun h => by simp at h, fun _ => rfl⟩
  · have hl : rows.length * sz = ds.length := by rw [← mapO_len h3, flatten_len hg]
    have hH : ∀ (b' : Nat) cs' fl', H[b']? = some (.box cs' fl') → ∃ fl'', (H.set b (.opn sz (ds ++ cs) fl (ep + 1) .loc))[b']? = some (.box cs' fl'') := by
      intro b' cs' fl' hb'
      have : b ≠ b' := by rintro rfl; rw [h2] at hb'; cases hb'
      exact ⟨fl', by rw [List.getElem?_set_ne this]; exact hb'⟩
    refine ⟨.c (.sl b 0 (rows.length + 1) 0 (ep + 1) sz), H.set b (.opn sz (ds ++ cs) fl (ep + 1) .loc), ?_, ?_, by simp, ?_⟩
    · simp only [appendV, hy, hsz, if_false, h2, and_self, if_true]
      simp only [Nat.add_one_ne_zero, if_false]
      rw [if_pos ⟨trivial, hl, by omega⟩, hroom]
      simp
    · refine .inr ⟨b, ep + 1, fl, .loc, ds ++ cs, by simp, ?_, ?_, ?_, hz, fun h => by simp at h, fun _ => rfl⟩
      · rw [List.getElem?_set_self (lt_of_get h2)]
      · rw [List.flatten_append]
        simpa using mapO_append (mapO_imp (fun x y _ => exB_imp hH 60 x y) h3) (mapO_imp (fun x y _ => exB_imp hH 60 x y) hc)
      · simp only [List.length_append]
        omega
    · intro b' cs' fl' hb'
      have : b ≠ b' := by rintro rfl; rw [h2] at hb'; cases hb'
      rw [List.getElem?_set_ne this]; exact hb'

theorem LB.len (h : LB z H sz v g rows) : ∃ c, v = .c c ∧ slLen H c = some rows.length := by
  rcases h with ⟨rfl, rfl, hgs⟩ | ⟨b, ep, fl, st, ds, rfl, h2, h3, h3', hz, h4, h5⟩
  · cases g <;> exact ⟨_, rfl, rfl⟩
  · exact ⟨_, rfl, by simp [slLen, h2]⟩

/-- By value. -/
theorem LB.fz (h : LB z H sz v g rows) (hg : Grid sz rows) : exV1 deep H v = some (.c (.f (sl g rows))) := by
  rcases h with ⟨rfl, rfl, hgs⟩ | ⟨b, ep, fl, st, ds, rfl, h2, h3, h3', hz, h4, h5⟩
  · simp [sl]
  · have hl : rows.length * sz = ds.length := by rw [← mapO_len h3, flatten_len hg]
    cases rows with
    | nil =>
      obtain ⟨rfl, hgs⟩ := h4 rfl
      cases g with
      | nil => simp [deep, ex_sl, h2, Tg.os, sl, Tg.fc]
      | es => simp [deep, ex_sl, h2, Tg.os, sl, Tg.fc]
      | fs => exact absurd rfl hgs
    | cons r rs =>
      have := h5 (by simp)
      subst this
      have up : mapO (exC 63 H) ds = some (r :: rs).flatten := mapO_imp (fun x y _ hx => exC_up hx (by decide)) h3
      simp only [ex1_c, deep, ex_sl, h2]
      rw [if_pos ⟨trivial, trivial, by omega⟩, List.drop_zero, List.take_of_length_le (by omega), up]
      simp [sl]
theorem LB.fzV (h : LB z H sz v g rows) (hg : Grid sz rows) : exV deep H v = some (.c (.f (sl g rows))) := by
  have := h.fz hg
  obtain ⟨c, rfl, _⟩ := h.len
  exact this

/-- Passed by value, it stays what it is. -/
theorem LB.mk (h : LB z H sz v g rows) (hg : Grid sz rows) : LB false (mkV deep H v) sz v g rows := by
  rcases h with ⟨rfl, rfl, hgs⟩ | ⟨b, ep, fl, st, ds, rfl, h2, h3, h3', hz, h4, h5⟩
  · simp only [mk_c, mkC_f]
    exact .inl ⟨rfl, rfl, hgs⟩
  · have hl : rows.length * sz = ds.length := by rw [← mapO_len h3, flatten_len hg]
    have e : mkV deep H (.c (.sl b 0 rows.length 0 ep sz)) = ds.foldl (fun H x => mkC 63 x H) (H.set b (.opn sz ds (Nat.max fl (0 + rows.length * sz)) ep st)) := by
      simp only [mk_c, deep, mk_sl, h2]
      rw [List.drop_zero, List.take_of_length_le (by omega)]
    rw [e]
    have hf : Nat.max fl (0 + rows.length * sz) ≤ ds.length := by show max fl (0 + rows.length * sz) ≤ _; omega
    have m1 := Marks.set_opn (fl' := Nat.max fl (0 + rows.length * sz)) h2 (fun _ _ => hf)
    have m2 := marks_foldl (marks_mkC 63) ds _ _ (mapO_imp (fun x y _ hx => exB_up (m1.exB hx) (by decide : 60 ≤ 63)) h3)
    have hb1 : (H.set b (.opn sz ds (Nat.max fl (0 + rows.length * sz)) ep st))[b]? = some (.opn sz ds (Nat.max fl (0 + rows.length * sz)) ep st) := List.getElem?_set_self (lt_of_get h2)
    obtain ⟨fl', h6, h7⟩ := m2.opn hb1
    by_cases hr : rows = []
    · subst hr
      have : ds = [] := List.eq_nil_of_length_eq_zero (by simpa using hl.symm)
      subst this
      simp only [List.foldl_nil] at h6 ⊢
      refine .inr ⟨b, ep, _, st, [], rfl, hb1, rfl, hf, fun h => by simp at h, h4, h5⟩
    · exact .inr ⟨b, ep, fl', st, ds, rfl, h6, mapO_imp (fun x y _ => m2.exB) (mapO_imp (fun x y _ => m1.exB) h3), h7 (h5 hr) hf, fun h => by simp at h, h4, h5⟩

theorem mapO_set {α β : Type} {g : α → Option β} {c : α} {y : β} (hc : g c = some y) : ∀ {xs : List α} {ys : List β} (i : Nat), mapO g xs = some ys → mapO g (xs.set i c) = some (ys.set i y)
  | [], ys, i, h => by simp [mapO] at h; subst h; simp [mapO]
  | x :: xs, ys, i, h => by
    simp only [mapO] at h
    cases hx : g x with
    | none => simp [hx] at h
    | some w =>
      cases hxs : mapO g xs with
      | none => simp [hx, hxs] at h
      | some zs =>
        simp [hx, hxs] at h
        subst h
        cases i with
        | zero => simp [mapO, hc, hxs]
        | succ i => simp only [List.set_cons_succ, mapO, hx, mapO_set hc i hxs]
theorem over_one {α : Type} {cs : List α} {o : Nat} {c : α} (h : o < cs.length) : over cs o [c] = cs.set o c := by
  simp only [over, List.length_cons, List.length_nil]
  rw [List.set_eq_take_append_cons_drop, if_pos h]
  simp
theorem flatten_set {sz : Nat} : ∀ {rows : List (List FC)} {j k : Nat} {x : FC} {row : List FC}, Grid sz rows → rows[j]? = some row → k < sz → rows.flatten.set (j * sz + k) x = (rows.set j (row.set k x)).flatten
  | [], _, _, _, _, _, hj, _ => by simp at hj
  | r :: rows, 0, k, x, row, hg, hj, hk => by
    simp at hj; subst hj
    have := hg r List.mem_cons_self
    simp only [List.set_cons_zero, List.flatten_cons]
    rw [List.set_append_left _ _ (by omega)]
    simp
  | r :: rows, j + 1, k, x, row, hg, hj, hk => by
    have hr := hg r List.mem_cons_self
    simp only [List.set_cons_succ, List.flatten_cons]
    rw [List.set_append_right _ _ (by rw [hr, Nat.add_mul]; omega)]
    have e : (j + 1) * sz + k - r.length = j * sz + k := by rw [hr, Nat.add_mul]; omega
    rw [e, flatten_set (fun y hy => hg y (List.mem_cons_of_mem _ hy)) (by simpa using hj) hk]

/-- One cell of a row is stored. -/
theorem LB.st1 (h : LB true H sz v g rows) (hg : Grid sz rows) {j k : Nat} {c : C} {x : FC} (hj : rows[j]? = some row) (hk : k < sz) (hx : exB 60 H c = some x) :
    ∃ b ep H', indexAV H sz none v (vi j) = some (.c (.ptr b (j * sz) ep)) ∧ stC H (.ptr b (j * sz + k) ep) [c] = some H' ∧ LB true H' sz v g (rows.set j (row.set k x)) ∧ (∀ (b : Nat) cs fl, H[b]? = some (.box cs fl) → H'[b]? = some (.box cs fl)) := by
  have hjl : j < rows.length := (List.getElem?_eq_some_iff.1 hj).1
  rcases h with ⟨rfl, rfl, hgs⟩ | ⟨b, ep, fl, st, ds, rfl, h2, h3, h3', hz, h4, h5⟩
  · simp at hjl
  · have hl : rows.length * sz = ds.length := by rw [← mapO_len h3, flatten_len hg]
    have hne : rows ≠ [] := by rintro rfl; simp at hjl
    have := h5 hne
    subst this
    have hfl := hz rfl
    subst hfl
    have hlt : j * sz + k < ds.length := by
      have e1 : (j + 1) * sz ≤ rows.length * sz := Nat.mul_le_mul_right sz hjl
      rw [hl, Nat.add_mul, Nat.one_mul] at e1
      omega
    have hH : ∀ (b' : Nat) cs' fl', H[b']? = some (.box cs' fl') → ∃ fl'', (H.set b (.opn sz (ds.set (j * sz + k) c) 0 ep .loc))[b']? = some (.box cs' fl'') := by
      intro b' cs' fl' hb'
      have : b ≠ b' := by rintro rfl; rw [h2] at hb'; cases hb'
      exact ⟨fl', by rw [List.getElem?_set_ne this]; exact hb'⟩
    refine ⟨b, ep, H.set b (.opn sz (ds.set (j * sz + k) c) 0 ep .loc), ?_, ?_, ?_, fun b' cs' fl' hb' => ?_⟩
    · simp [indexAV, intV, h2, hjl]
    · rw [← over_one hlt]
      simp only [st_ptr, h2]
      rw [if_pos ⟨trivial, Nat.zero_le _, by simp only [List.length_cons, List.length_nil]; omega⟩]
    · refine .inr ⟨b, ep, 0, .loc, ds.set (j * sz + k) c, by simp, List.getElem?_set_self (lt_of_get h2), ?_, by simp, fun _ => rfl, fun h => ?_, fun _ => rfl⟩
      · rw [← flatten_set hg hj hk]
        exact mapO_imp (fun x y _ => exB_imp hH 60 x y) (mapO_set hx _ h3)
      · exact absurd (by simpa using h) hne
    · have : b ≠ b' := by rintro rfl; rw [h2] at hb'; cases hb'
      rw [List.getElem?_set_ne this]; exact hb'

/-- A slice of one fresh row in a box. -/
theorem added_box {b fl c : Nat} (h : H[b]? = some (.box cs fl)) (hc : cs.length = sz) : addedV H sz (.c (.sl b 0 1 c 0 sz)) = some (1, cs) := by
  simp [addedV, slLen, slCells, h, hc]
  rw [← hc, List.take_length]
end Km
end

section
namespace Km
open Go

/-- Fields that lie one behind the other. -/
def tiles (P : Program) : List Field → Nat → Nat → Bool
  | [], o, n => o == n
  | f :: fs, o, n => f.offset == o && tiles P fs (o + P.cellsOf f.type) n

/-- Types of plain data: numbers, bools, strings, slices, structs, arrays. -/
def simpleT (P : Program) : Nat → TypeId → Bool
  | 0, _ => false
  | n + 1, t => match P.underlying t with
    | some .bool => P.cellsOf t == 1
    | some (.int _) => P.cellsOf t == 1
    | some .string => P.cellsOf t == 1
    | some (.slice e) => P.cellsOf t == 1 && P.cellsOf e != 0 && simpleT P n e
    | some (.struct fs) => tiles P fs.toList 0 (P.cellsOf t) && fs.toList.all fun f => simpleT P n f.type
    | some (.array k e) => P.cellsOf t == k * P.cellsOf e && simpleT P n e
    | _ => false

/-- Cells one part behind the other. -/
def ShpFs (S : TypeId → List FC → Prop) : List TypeId → List FC → Prop
  | [], xs => xs = []
  | t :: ts, xs => ∃ p q, xs = p ++ q ∧ S t p ∧ ShpFs S ts q

/-- Frozen cells of a type. -/
def Shp (P : Program) : Nat → TypeId → List FC → Prop
  | 0, _, _ => False
  | n + 1, t, xs => match P.underlying t with
    | some .bool => ∃ b, xs = [.bool b]
    | some (.int k) => ∃ m, xs = [.int k m] ∧ (Lit.int k m).wf = true
    | some .string => ∃ s, xs = [.str s] ∧ s.size ≤ maxLen
    | some (.slice e) => ∃ g rows, xs = [sl g rows] ∧ Grid (P.cellsOf e) rows ∧ rows.length ≤ maxLen ∧ ∀ r ∈ rows, Shp P n e r
    | some (.struct fs) => ShpFs (Shp P n) (fs.toList.map (·.type)) xs
    | some (.array k e) => ∃ rows, xs = rows.flatten ∧ rows.length = k ∧ Grid (P.cellsOf e) rows ∧ ∀ r ∈ rows, Shp P n e r
    | _ => False

theorem flat_get {α : Type} {sz : Nat} : ∀ {rows : List (List α)} {j k : Nat} {row : List α}, (∀ r ∈ rows, r.length = sz) → rows[j]? = some row → k < sz → rows.flatten[j * sz + k]? = row[k]?
  | [], j, k, row, _, hj, _ => by simp at hj
  | r :: rows, 0, k, row, hg, hj, hk => by
    simp at hj; subst hj
    have := hg r List.mem_cons_self
    rw [List.flatten_cons, List.getElem?_append_left (by omega)]
    simp
  | r :: rows, j + 1, k, row, hg, hj, hk => by
    have hr := hg r List.mem_cons_self
    rw [List.flatten_cons, List.getElem?_append_right (by rw [hr, Nat.add_mul]; omega)]
    have e : (j + 1) * sz + k - r.length = j * sz + k := by rw [hr, Nat.add_mul]; omega
    rw [e]
    exact flat_get (rows := rows) (fun x hx => hg x (List.mem_cons_of_mem _ hx)) (by simpa using hj) hk
theorem flat_len {α : Type} {sz : Nat} : ∀ {rows : List (List α)}, (∀ r ∈ rows, r.length = sz) → rows.flatten.length = rows.length * sz
  | [], _ => by simp
  | r :: rows, h => by
    have := flat_len (rows := rows) fun x hx => h x (List.mem_cons_of_mem _ hx)
    simp only [List.flatten_cons, List.length_append, List.length_cons, this, h r List.mem_cons_self, Nat.add_mul, Nat.one_mul]
    omega

/-- All cells of blocks that lie there. -/
def oldF (w : World) : Nat → Nat → Prop := fun c _ => c < w.heap.size

theorem cell_lt {w : World} {a : Addr} {v : Value} (h : w.cell? a = some v) : a.block < w.heap.size ∧ a.spot = none := by
  unfold World.cell? at h
  split at h
  · rename_i hb
    split at h
    · simp at h
    · rename_i hs
      refine ⟨?_, by simpa using hs⟩
      exact (Array.getElem?_eq_some_iff.1 hb).1
  · simp at h

theorem A2.flatten {α β : Type} {R : α → β → Prop} {xss : List (List α)} {yss : List (List β)} (hl : xss.length = yss.length)
    (h : ∀ (i : Nat) xs ys, xss[i]? = some xs → yss[i]? = some ys → A2 R xs ys) : A2 R xss.flatten yss.flatten := by
  induction xss generalizing yss with
  | nil => cases yss with
    | nil => exact A2.nil
    | cons y ys => simp at hl
  | cons x xs ih => cases yss with
    | nil => simp at hl
    | cons y ys =>
      rw [List.flatten_cons, List.flatten_cons]
      exact (h 0 x y rfl rfl).append (ih (by simpa using hl) fun i a b ha hb => h (i + 1) a b (by simpa using ha) (by simpa using hb))

section
variable {H : Type} {enc : TypeId × Value → H} {P : Program} {w : World} {base : Nat} {spare : Nat → Bool} {held : Bool} {σ : Nat → FuncId}

/-- What a value's cells come to. -/
def Froz (σ : Nat → FuncId) (P : Program) (w : World) (n : Nat) (t : TypeId) (cs : List Value) : Prop := ∃ xs, A2 (FCR σ (oldF w) w) xs cs ∧ Shp P n t xs

theorem froz_fields {n : Nat} (ih : ∀ {t : TypeId} {fuel : Nat} {cs : List Value} {x : DataW H × List MemPlace}, simpleT P n t = true → DataW.trod enc P w base spare held fuel t cs = some x → Froz σ P w n t cs ∧ cs.length = P.cellsOf t)
    {fuel : Nat} : ∀ (fs : List Field) (o N : Nat) (cs : List Value), tiles P fs o N = true → (fs.all fun f => simpleT P n f.type) = true → cs.length = N →
      (∀ f ∈ fs, ∃ x, DataW.trod enc P w base spare held fuel f.type ((cs.drop f.offset).take (P.cellsOf f.type)) = some x) →
      ∃ xs, A2 (FCR σ (oldF w) w) xs (cs.drop o) ∧ ShpFs (Shp P n) (fs.map (·.type)) xs
  | [], o, N, cs, ht, _, hl, _ => by
    simp [tiles] at ht
    exact ⟨[], by rw [List.drop_of_length_le (by omega)]; exact A2.nil, rfl⟩
  | f :: fs, o, N, cs, ht, hs, hl, hx => by
    simp only [tiles, Bool.and_eq_true, beq_iff_eq] at ht
    simp only [List.all_cons, Bool.and_eq_true] at hs
    obtain ⟨x, hx0⟩ := hx f List.mem_cons_self
    rw [ht.1] at hx0
    obtain ⟨⟨p, hp, sp⟩, hlen⟩ := ih hs.1 hx0
    obtain ⟨q, hq, sq⟩ := froz_fields ih fs (o + P.cellsOf f.type) N cs ht.2 hs.2 hl fun g hg => hx g (List.mem_cons_of_mem _ hg)
    refine ⟨p ++ q, ?_, p, q, rfl, sp, sq⟩
    have : cs.drop o = (cs.drop o).take (P.cellsOf f.type) ++ cs.drop (o + P.cellsOf f.type) := by
      rw [← List.drop_drop, List.take_append_drop]
    rw [this]
    exact hp.append hq

theorem add_none (c o n k : Nat) : ((⟨c, o, none⟩ : Addr).add n).add k = ⟨c, o + (n + k), none⟩ := by
  unfold Addr.add
  by_cases h1 : n = 0 <;> by_cases h2 : k = 0 <;> simp [h1, h2]
  omega
theorem trod_arr {t e : TypeId} {k n : Nat} {cs : List Value} {x : DataW H × List MemPlace} (ht : P.underlying t = some (.array k e)) (h : DataW.trod enc P w base spare held (n + 1) t cs = some x) :
    cs.length = P.cellsOf t ∧ ∀ i, i < k → ∃ y, DataW.trod enc P w base spare held n e ((cs.drop (i * P.cellsOf e)).take (P.cellsOf e)) = some y := by
  unfold DataW.trod at h
  rw [ht] at h
  simp only [Option.ite_none_right_eq_some, Option.map_eq_some_iff] at h
  obtain ⟨hl, xs, hp, hd⟩ := h
  refine ⟨hl, fun i hi => ?_⟩
  have := mapM_some_get hp i i (by simp [hi])
  have hlen : xs.length = k := by simpa using mapM_some_length hp
  rw [List.getElem?_eq_getElem (by omega)] at this
  exact ⟨_, this⟩
theorem chop_flat {α : Type} {sz : Nat} : ∀ {k : Nat} {cs : List α}, cs.length = k * sz → cs = ((List.range k).map fun i => (cs.drop (i * sz)).take sz).flatten
  | 0, cs, h => by simp at h; simp [h]
  | k + 1, cs, h => by
    have h' : (cs.take (k * sz)).length = k * sz := by rw [List.length_take, h, Nat.add_mul]; omega
    have ih := chop_flat h'
    rw [List.range_succ, List.map_append, List.flatten_append]
    have e : ((List.range k).map fun i => (cs.drop (i * sz)).take sz) = (List.range k).map fun i => ((cs.take (k * sz)).drop (i * sz)).take sz := by
      refine List.map_congr_left fun i hi => ?_
      have hi' : i < k := by simpa using hi
      have : (i + 1) * sz ≤ k * sz := Nat.mul_le_mul_right _ hi'
      rw [Nat.add_mul] at this
      rw [List.drop_take, List.take_take, Nat.min_eq_left (by omega)]
    rw [e, ← ih]
    simp only [List.map_cons, List.map_nil, List.flatten_cons, List.flatten_nil, List.append_nil]
    have : (cs.drop (k * sz)).take sz = cs.drop (k * sz) := List.take_of_length_le (by rw [List.length_drop, h, Nat.add_mul]; omega)
    rw [this, List.take_append_drop]

theorem froz {n : Nat} : ∀ {t : TypeId} {fuel : Nat} {cs : List Value} {x : DataW H × List MemPlace}, simpleT P n t = true → DataW.trod enc P w base spare held fuel t cs = some x →
    Froz σ P w n t cs ∧ cs.length = P.cellsOf t := by
  induction n with
  | zero => intro t fuel cs x hs; simp [simpleT] at hs
  | succ n ih =>
    intro t fuel cs x hs h
    simp only [simpleT] at hs
    split at hs
    · rename_i ht
      obtain ⟨b, rfl, _⟩ := DataW.trod_bool ht h
      exact ⟨⟨[.bool b], .cons (.bool b) .nil, by simp only [Shp, ht]; exact ⟨b, rfl⟩⟩, by simp at hs; simp [hs]⟩
    · rename_i k ht
      obtain ⟨m, rfl, _, hw⟩ := DataW.trod_int ht h
      exact ⟨⟨[.int k m], .cons (.int k m) .nil, by simp only [Shp, ht]; exact ⟨m, rfl, hw⟩⟩, by simp at hs; simp [hs]⟩
    · rename_i ht
      obtain ⟨s, rfl, _, hw⟩ := DataW.trod_string ht h
      exact ⟨⟨[.str s], .cons (.str s) .nil, by simp only [Shp, ht]; exact ⟨s, rfl, hw⟩⟩, by simp at hs; simp [hs]⟩
    · rename_i e ht
      simp only [Bool.and_eq_true, beq_iff_eq, bne_iff_ne] at hs
      obtain ⟨⟨h1, hsz⟩, he⟩ := hs
      rcases DataW.trod_slice ht h with ⟨rfl, _⟩ | ⟨a, len, cap, elems, rest, m, _, rfl, _, hb, hl, hm, hlen, hel, _, _⟩
      · exact ⟨⟨[sl .nil []], .cons .nils .nil, by simp only [Shp, ht]; exact ⟨.nil, [], rfl, fun r hr => by simp at hr, by simp, fun r hr => by simp at hr⟩⟩, by simpa using h1.symm⟩
      · refine ⟨?_, by simpa using h1.symm⟩
        have each : ∀ i, i < len → ∃ p : List Value × List FC, w.cells? base (a.add (i * P.cellsOf e)) (P.cellsOf e) = some p.1 ∧ A2 (FCR σ (oldF w) w) p.2 p.1 ∧ Shp P n e p.2 := by
          intro i hi
          have := hel i hi
          rw [List.getElem?_eq_getElem (by omega)] at this
          obtain ⟨cs', h1, h2⟩ := Option.bind_eq_some_iff.1 this
          obtain ⟨⟨xs, ha, hs⟩, _⟩ := ih he h2
          exact ⟨(cs', xs), h1, ha, hs⟩
        obtain ⟨p, hp⟩ := Go.Deep.choose_lt each
        by_cases h0 : len = 0
        · subst h0
          refine ⟨[sl .fs []], .cons (.fs0 a cap) .nil, ?_⟩
          simp only [Shp, ht]
          exact ⟨.fs, [], rfl, fun r hr => by simp at hr, by simp, fun r hr => by simp at hr⟩
        have hspot : a.spot = none := by
          have := hp 0 (by omega)
          obtain ⟨_, hl0, hc0⟩ := World.cells?_some this.1
          have := hc0 0 (by omega)
          rw [List.getElem?_eq_getElem (by omega)] at this
          have := (cell_lt this).2
          simpa [Addr.add] using this
        obtain ⟨c, o, sp⟩ := a
        simp only at hspot
        subst hspot
        let vss := (List.range len).map fun i => (p i).1
        let rows := (List.range len).map fun i => (p i).2
        have hv : ∀ v ∈ vss, v.length = P.cellsOf e := by
          intro v hv
          obtain ⟨i, hi, rfl⟩ := List.mem_map.1 hv
          exact (World.cells?_some (hp i (by simpa using hi)).1).2.1
        have hg : Grid (P.cellsOf e) rows := by
          intro r hr
          obtain ⟨i, hi, rfl⟩ := List.mem_map.1 hr
          obtain ⟨h1, h2, _⟩ := hp i (by simpa using hi)
          rw [h2.len, (World.cells?_some h1).2.1]
        have hA : A2 (FCR σ (oldF w) w) rows.flatten vss.flatten := by
          refine A2.flatten (by simp [rows, vss]) fun i xs ys hx hy => ?_
          simp only [rows, vss, List.getElem?_map, Option.map_eq_some_iff] at hx hy
          obtain ⟨i1, e1, rfl⟩ := hx
          obtain ⟨i2, e2, rfl⟩ := hy
          rw [e1] at e2
          cases e2
          have := List.mem_of_getElem? e1
          exact (hp i1 (by simpa using this)).2.1
        have hcell : ∀ i u, vss.flatten[i]? = some u → w.cell? ⟨c, o + i, none⟩ = some u := by
          intro i u hu
          have hi : i < vss.flatten.length := (List.getElem?_eq_some_iff.1 hu).1
          rw [flat_len hv] at hi
          have hvl : vss.length = len := by simp [vss]
          rw [hvl] at hi
          have hq : i / P.cellsOf e < len := Nat.div_lt_of_lt_mul (by rw [Nat.mul_comm]; exact hi)
          have hk : i % P.cellsOf e < P.cellsOf e := Nat.mod_lt _ (by omega)
          have hi' : i = i / P.cellsOf e * P.cellsOf e + i % P.cellsOf e := by rw [Nat.mul_comm]; exact (Nat.div_add_mod _ _).symm
          have hrow : vss[i / P.cellsOf e]? = some (p (i / P.cellsOf e)).1 := by simp [vss, hq]
          rw [hi', flat_get hv hrow hk] at hu
          obtain ⟨_, _, hc⟩ := World.cells?_some (hp _ hq).1
          have := hc _ hk
          rw [hu] at this
          rw [← this, add_none, ← hi']
        refine ⟨[sl .fs rows], .cons ?_ .nil, ?_⟩
        · have hne : rows ≠ [] := by simp [rows]; omega
          have hrl : rows.length = len := by simp [rows]
          have : sl Tg.fs rows = .fs rows.flatten len := by
            cases hr : rows with
            | nil => exact absurd hr hne
            | cons r rs => simp only [sl, List.isEmpty_cons, Bool.false_eq_true, if_false]; rw [← hr, hrl]
          rw [this]
          refine .fs rows.flatten len c o cap vss.flatten hl hA.len.symm (fun i hi => ?_) hcell fun i x u hx hu => hA.2 i x u hx hu
          have hi' : i < vss.flatten.length := by rw [← hA.len]; exact hi
          exact (cell_lt (hcell i _ (List.getElem?_eq_getElem hi'))).1
        · simp only [Shp, ht]
          have hrl : rows.length = len := by simp [rows]
          refine ⟨.fs, rows, rfl, hg, by omega, fun r hr => ?_⟩
          obtain ⟨i, hi, rfl⟩ := List.mem_map.1 hr
          exact (hp i (by simpa using hi)).2.2
    · rename_i fs ht
      simp only [Bool.and_eq_true] at hs
      obtain ⟨xs, m, _, _, hl, _, hx⟩ := DataW.trod_struct ht h
      refine ⟨?_, hl⟩
      obtain ⟨ys, h1, h2⟩ := froz_fields (n := n) (fuel := m) ih fs.toList 0 _ cs hs.1 hs.2 hl fun f hf => by
        obtain ⟨i, hi⟩ := List.getElem?_of_mem hf
        rw [Array.getElem?_toList] at hi
        have := hx i f hi
        rw [this]
        have hlt : i < fs.size := (Array.getElem?_eq_some_iff.1 hi).1
        exact ⟨_, List.getElem?_eq_getElem (by omega)⟩
      exact ⟨ys, by simpa using h1, by simp only [Shp, ht]; exact h2⟩
    · rename_i k e ht
      simp only [Bool.and_eq_true, beq_iff_eq] at hs
      obtain ⟨hct, he⟩ := hs
      cases fuel with
      | zero => simp [DataW.trod] at h
      | succ m =>
      obtain ⟨hl, hx⟩ := trod_arr ht h
      refine ⟨?_, hl⟩
      have each : ∀ i, i < k → ∃ q : List FC, A2 (FCR σ (oldF w) w) q ((cs.drop (i * P.cellsOf e)).take (P.cellsOf e)) ∧ Shp P n e q := by
        intro i hi
        obtain ⟨y, hy⟩ := hx i hi
        obtain ⟨⟨q, a, b⟩, _⟩ := ih he hy
        exact ⟨q, a, b⟩
      obtain ⟨q, hq⟩ := Go.Deep.choose_lt each
      let rows := (List.range k).map q
      have hcs : cs = ((List.range k).map fun i => (cs.drop (i * P.cellsOf e)).take (P.cellsOf e)).flatten := chop_flat (by rw [hl, hct])
      refine ⟨rows.flatten, ?_, ?_⟩
      · rw [hcs]
        refine A2.flatten (by simp [rows]) fun i xs ys hx hy => ?_
        simp only [rows, List.getElem?_map, Option.map_eq_some_iff] at hx hy
        obtain ⟨i1, e1, rfl⟩ := hx
        obtain ⟨i2, e2, rfl⟩ := hy
        rw [e1] at e2
        cases e2
        have := List.mem_of_getElem? e1
        exact (hq i1 (by simpa using this)).1
      · simp only [Shp, ht]
        refine ⟨rows, rfl, by simp [rows], fun r hr => ?_, fun r hr => ?_⟩
        · obtain ⟨i, hi, rfl⟩ := List.mem_map.1 hr
          have hi' : i < k := by simpa using hi
          rw [(hq i hi').1.len, List.length_take, List.length_drop, hl, hct]
          have : (i + 1) * P.cellsOf e ≤ k * P.cellsOf e := Nat.mul_le_mul_right _ hi'
          rw [Nat.add_mul] at this
          omega
        · obtain ⟨i, hi, rfl⟩ := List.mem_map.1 hr
          exact (hq i (by simpa using hi)).2
    · simp at hs
end

/-! ### Shapes, taken apart -/

section
variable {P : Program} {n : Nat} {t e : TypeId} {xs : List FC}
theorem shp_bool (ht : P.underlying t = some .bool) (h : Shp P (n + 1) t xs) : ∃ b, xs = [.bool b] := by simpa only [Shp, ht] using h
theorem shp_int {k : IntKind} (ht : P.underlying t = some (.int k)) (h : Shp P (n + 1) t xs) : ∃ m, xs = [.int k m] ∧ (Lit.int k m).wf = true := by simpa only [Shp, ht] using h
theorem shp_str (ht : P.underlying t = some .string) (h : Shp P (n + 1) t xs) : ∃ s, xs = [.str s] ∧ s.size ≤ maxLen := by simpa only [Shp, ht] using h
theorem shp_slice (ht : P.underlying t = some (.slice e)) (h : Shp P (n + 1) t xs) : ∃ g rows, xs = [sl g rows] ∧ Grid (P.cellsOf e) rows ∧ rows.length ≤ maxLen ∧ ∀ r ∈ rows, Shp P n e r := by simpa only [Shp, ht] using h
theorem shp_struct {fs : Array Field} {ts : List TypeId} (ht : P.underlying t = some (.struct fs)) (hts : fs.toList.map (·.type) = ts) (h : Shp P (n + 1) t xs) : ShpFs (Shp P n) ts xs := by
  subst hts; simpa only [Shp, ht] using h
theorem shp_arr {k : Nat} (ht : P.underlying t = some (.array k e)) (h : Shp P (n + 1) t xs) : ∃ rows, xs = rows.flatten ∧ rows.length = k ∧ Grid (P.cellsOf e) rows ∧ ∀ r ∈ rows, Shp P n e r := by simpa only [Shp, ht] using h
theorem shp_cons {S : TypeId → List FC → Prop} {ts : List TypeId} (h : ShpFs S (t :: ts) xs) : ∃ p q, xs = p ++ q ∧ S t p ∧ ShpFs S ts q := h
theorem rows_of {α : Type} {enc : α → List FC} {p : α → Prop} : ∀ {rows : List (List FC)}, (∀ r ∈ rows, ∃ x, r = enc x ∧ p x) → ∃ l : List α, rows = l.map enc ∧ ∀ x ∈ l, p x
  | [], _ => ⟨[], rfl, by simp⟩
  | r :: rows, h => by
    obtain ⟨x, rfl, hx⟩ := h r List.mem_cons_self
    obtain ⟨l, rfl, hl⟩ := rows_of fun r hr => h r (List.mem_cons_of_mem _ hr)
    exact ⟨x :: l, rfl, fun y hy => by
      rcases List.mem_cons.1 hy with rfl | hy
      · exact hx
      · exact hl y hy⟩
theorem shp_ints (ht : P.underlying t = some (.slice e)) (he : P.underlying e = some (.int .i64)) (h : Shp P (n + 2) t xs) : ∃ g l, xs = [sl g (ints l)] ∧ l.length ≤ maxLen ∧ ∀ x ∈ l, (Lit.int .i64 x).wf = true := by
  obtain ⟨g, rows, rfl, _, hl, hr⟩ := shp_slice ht h
  obtain ⟨l, rfl, hp⟩ := rows_of (enc := fun x => [fi x]) (p := fun x => (Lit.int .i64 x).wf = true) fun r hr' => shp_int he (hr r hr')
  exact ⟨g, l, rfl, by simpa using hl, hp⟩
end
end Km
end

section
namespace Km
open Go Go.ChangeShapes Go.WideShapes Go.ChangeAt Go.RowKit

/-- An argument by value, of a type. -/
def ArgShp (P : Program) (t : TypeId) (a : V) : Prop := (∃ xs, a = .a (xs.map .f) ∧ Shp P 40 t xs ∧ (∃ d, P.underlying t = some d ∧ ((∃ fs, d = .struct fs) ∨ ∃ n e, d = .array n e))) ∨
  (∃ x, a = .c (.f x) ∧ Shp P 40 t [x])
def ArgsShp (P : Program) : List TypeId → List V → Prop
  | [], as => as = []
  | t :: ts, as => ∃ a bs, as = a :: bs ∧ ArgShp P t a ∧ ArgsShp P ts bs

section
variable {H : Type} {enc : TypeId × Value → H} {P : Program} {W W' : World}

/-- As 'post_of_same', where what was there before the call stands in blocks that do not turn. -/
theorem post_of_below {f : Func} {s : ChangeSpec} {apart fresh handsOn again : Bool} {args : Array Value} {v : Value} {ds gs : List (DataW H)} {before pa pv : List MemPlace}
    (hW : DataW.Whole enc P f.params.toList s.vars apart W args.toList ds gs before)
    (hres : ∀ (b : Nat) (sp : Nat → Bool) (hd : Bool), DataW.TrodAll enc P W' b sp hd f.resultTypes.toList (v.resultList f.resultTypes.size) (s.fn H (ds ++ gs)).results [])
    (hargs : ∀ sp : Nat → Bool, (∀ p ∈ before, sp p.block = true) → DataW.TrodAll enc P W' 0 sp true f.params.toList args.toList (s.fn H (ds ++ gs)).args pa)
    (hvars : ∀ sp : Nat → Bool, (∀ p ∈ before, sp p.block = true) → DataW.TrodVars enc P W' sp s.vars (s.fn H (ds ++ gs)).vars pv)
    (hps : before = pa ++ pv) (hb : Below W.heap.size W W')
    (hok : ∀ (j : Nat) (t : TypeId) (r : Value), f.resultTypes[j]? = some t → (v.resultList f.resultTypes.size)[j]? = some r → Value.okWide P W' .any 0 t r) :
    s.post enc P f apart fresh handsOn again W args v W' := by
  have hlt : ∀ p ∈ before, p.block < W.heap.size := fun p hp => hW.lt p hp
  have hold : ∀ p ∈ before, (fun b => decide (b < W.heap.size)) p.block = true := fun p hp => by simpa using hlt p hp
  refine ⟨ds, gs, before, [], pa, pv, hW, hres _ _ _, hargs _ hold, hvars _ hold, World.keptBut_mono (fun p hp => ⟨hp, ?_⟩) (hb.frame (· ∈ before)), fun _ => ?_⟩
  · rw [hps, List.mem_append] at hp
    exact Or.inr hp
  · obtain ⟨_, _, _, _, _, hz, hn⟩ := hW
    refine ⟨hok, _, _, ([] ++ pa) ++ pv, ⟨[] ++ pa, pv, trodAll_append (hargs _ (fun _ _ => rfl)) (hres _ _ _), hvars _ (fun _ _ => rfl), rfl, ?_, ?_⟩, ?_⟩
    · intro b off hp
      have hp' : MemPlace.cell b off ∈ before := by rw [hps]; simpa using hp
      rw [hb.frozen (p := ⟨b, off, none⟩) (hlt _ hp')]
      exact hz b off hp'
    · intro ha
      have := hn ha
      rw [hps] at this
      simpa using this
    · intro p hp _
      rw [hps]
      simpa using hp

theorem trodAll_stays (hl : laidOutB P = true) {sp : Nat → Bool} (hb : Below W.heap.size W W') : ∀ {ts : List TypeId} {vs : List Value} {ds : List (DataW H)} {ps : List MemPlace},
    (ts.all fun t => P.readableRec t && decide (t < P.types.size)) = true → DataW.TrodAll enc P W 0 (fun _ => true) true ts vs ds ps → (∀ p ∈ ps, p.block < W.heap.size) → (∀ p ∈ ps, sp p.block = true) →
    DataW.TrodAll enc P W' 0 sp true ts vs ds ps
  | [], [], [], ps, _, h, _, _ => h
  | t :: ts, v :: vs, d :: ds, ps, hr, ⟨p, q, h1, h2, e⟩, hlt, hs => by
    subst e
    simp only [List.all_cons, Bool.and_eq_true, decide_eq_true_eq] at hr
    exact ⟨p, q, WideElems.Trod_stays hl hr.1.1 hr.1.2 h1 (fun x hx => hb.same (hlt x (List.mem_append_left _ hx))) (fun x hx => hs x (List.mem_append_left _ hx)),
      trodAll_stays hl hb hr.2 h2 (fun x hx => hlt x (List.mem_append_right _ hx)) (fun x hx => hs x (List.mem_append_right _ hx)), rfl⟩
  | [], _ :: _, _, _, _, h, _, _ => by cases h
  | [], [], _ :: _, _, _, h, _, _ => by cases h
  | _ :: _, [], _, _, _, h, _, _ => by cases h
  | _ :: _, _ :: _, [], _, _, h, _, _ => by cases h

variable {σ : Nat → FuncId}

/-- The relation at the call's beginning: nothing of the small machine's own; all that lies there is frozen. -/
def X0 (W : World) : Wd := ⟨fun _ => none, oldF W, [], W, W.heap.size⟩

theorem vr_agg {xs : List FC} {cs : Array Value} (h : A2 (FCR σ (oldF W) W) xs cs.toList) : VR σ (X0 W) (.a (xs.map .f)) (.agg cs) :=
  ⟨cs.toList, by simp, A2.map (g := C.f) (h.weak fun _ _ h => h)⟩

theorem arg_froz {t : TypeId} {v : Value} {d : DataW H} {ps : List MemPlace} {base : Nat} {spare : Nat → Bool} {held : Bool} {b0 : Nat} (hs : simpleT P 40 t = true) (hval : Value.okWide P W .any b0 t v)
    (hd : DataW.Trod enc P W base spare held t v d ps) : ∃ a, VR σ (X0 W) a v ∧ ArgShp P t a := by
  obtain ⟨fuel, hf⟩ := hd
  obtain ⟨⟨xs, hA, hS⟩, hl⟩ := froz (σ := σ) hs hf
  have scalar : v.cells.toList = [v] → ∃ a, VR σ (X0 W) a v ∧ ArgShp P t a := by
    intro hv
    rw [hv] at hA
    match xs, hA.len with
    | [x], _ => exact ⟨.c (.f x), hA.of_cons.1, .inr ⟨x, rfl, hS⟩⟩
  unfold simpleT at hs
  unfold Value.okWide at hval
  split at hval
  · rename_i fs ht
    obtain ⟨cs, rfl, _, _⟩ := hval
    exact ⟨_, vr_agg hA, .inl ⟨xs, rfl, hS, _, ht, .inl ⟨_, rfl⟩⟩⟩
  · rename_i n e ht
    obtain ⟨cs, rfl, _, _⟩ := hval
    exact ⟨_, vr_agg hA, .inl ⟨xs, rfl, hS, _, ht, .inr ⟨_, _, rfl⟩⟩⟩
  · rename_i h1 h2
    refine scalar ?_
    split at hs
    · rename_i ht
      obtain ⟨b, hb, _⟩ := DataW.trod_bool ht hf
      simp only [Cell.okWide, ht, Cell.ok] at hval
      cases v <;> simp_all [Value.cells]
    · rename_i ht
      obtain ⟨b, hb, _⟩ := DataW.trod_int ht hf
      simp only [Cell.okWide, ht, Cell.ok] at hval
      cases v <;> simp_all [Value.cells]
    · rename_i ht
      obtain ⟨b, hb, _⟩ := DataW.trod_string ht hf
      simp only [Cell.okWide, ht, Cell.ok] at hval
      cases v <;> simp_all [Value.cells]
    · rename_i ht
      simp only [Cell.okWide, ht, Cell.ok] at hval
      cases v <;> simp_all [Value.cells]
    · rename_i fs ht; exact absurd ht (h1 fs)
    · rename_i n e ht; exact absurd ht (h2 n e)
    · simp at hs

theorem args_froz {base : Nat} {spare : Nat → Bool} {held : Bool} {b0 : Nat} : ∀ {ts : List TypeId} {vs : List Value} {ds : List (DataW H)} {ps : List MemPlace}, (ts.all fun t => simpleT P 40 t) = true →
    (∀ (j : Nat) t v, ts[j]? = some t → vs[j]? = some v → Value.okWide P W .any b0 t v) → DataW.TrodAll enc P W base spare held ts vs ds ps →
    ∃ as, A2 (VR σ (X0 W)) as vs ∧ ArgsShp P ts as
  | [], [], [], _, _, _, _ => ⟨[], A2.nil, rfl⟩
  | t :: ts, v :: vs, d :: ds, ps, hs, hval, ⟨p, q, h1, h2, _⟩ => by
    simp only [List.all_cons, Bool.and_eq_true] at hs
    obtain ⟨a, ha, sa⟩ := arg_froz (σ := σ) hs.1 (hval 0 t v rfl rfl) h1
    obtain ⟨bs, hb, sb⟩ := args_froz hs.2 (fun j t v h h' => hval (j + 1) t v (by simpa using h) (by simpa using h')) h2
    exact ⟨a :: bs, .cons ha hb, a, bs, rfl, sa, sb⟩
  | [], _ :: _, _, _, _, _, h => by cases h
  | [], [], _ :: _, _, _, _, h => by cases h
  | _ :: _, [], _, _, _, _, h => by cases h
  | _ :: _, _ :: _, [], _, _, _, h => by cases h

theorem ex_bool {n : Nat} {H : Heap} {v : V} {b : Bool} (h : exV (n + 1) H v = some (.c (.f (.bool b)))) : v = .c (.f (.bool b)) := by
  cases v with
  | top => simp [exV, exV1] at h
  | a xs => simp [exV, exV1] at h
  | t xs => simp [exV] at h
  | c x =>
    simp only [exV, exV1, Option.map_eq_some_iff] at h
    obtain ⟨y, hy, h⟩ := h
    cases h
    cases x with
    | f x => simpa [exC] using hy
    | ptr b o e => simp only [exC] at hy; split at hy <;> simp at hy
    | sl b o l c e s =>
      simp only [exC] at hy
      split at hy
      · split at hy <;> simp at hy
      · split at hy <;> simp at hy
      · split at hy <;> simp at hy
      · split at hy <;> simp at hy
      · simp at hy
    | cl f caps => simp [exC] at hy
    | _ => simp [exC] at hy

variable {tab : Nat → Option AFunc}

/-- A call by value in the small machine that answers true: in the model. -/
theorem pure_calls (hE : Env P σ tab noPrim) {f : Nat} {args : List V} {us : List Value} (h : Pure tab f args (vb true)) (W : World) (ha : A2 (VR σ (X0 W)) args us) :
    Calls P (σ f) us.toArray W fun e w' => e = .returned (.bool true) ∧ Below W.heap.size W w' := by
  obtain ⟨r, H', ⟨m, d, h⟩, hr⟩ := h
  have hr := ex_bool (n := 63) hr
  subst hr
  intro cs
  let X := X0 W
  have hS : SR P σ X := ⟨fun b L h => by simp [X, X0] at h, fun b b' L L' h => by simp [X, X0] at h, fun c i h => h⟩
  obtain ⟨fr, X', u, h1, ⟨l1, l2, l3, l4, fn, l5, l6⟩, h3, h4, h5, h6, h7⟩ := (callF_ok hE m d).fn f args [] _ H' h X us .normal cs rfl hS (Nat.le_refl _) ha (.inl rfl)
  have hu := VR.bool h5
  subst hu
  exact ⟨.returned (.bool true), X'.w, fr, ⟨rfl, ⟨h6.os, h6.tape, h6.output, h6.size, fun k hk => h6.frame k hk (fun b L h => by simp [X, X0] at h)⟩⟩, h1, l4, l1, l2, l3, fn, by rw [l4]; exact l5, l6⟩

/-- The row's step. -/
theorem law_step (hE : Env P σ tab noPrim) {s : ChangeSpec} {f : Func} {fi : Nat} {tb : TypeId} (hvars : s.vars = []) (hlaid : laidOutB P = true) {ts : List TypeId} (hts : f.params.toList = ts)
    (hfn : ∀ ds : List (DataW H), ds.length = ts.length → s.fn H ds = ⟨[.lit (.bool true)], ds, []⟩)
    (hres : f.resultTypes = #[tb]) (htb : P.underlying tb = some .bool) (hread : (ts.all fun t => P.readableRec t && decide (t < P.types.size)) = true) (hsimple : (ts.all fun t => simpleT P 40 t) = true)
    (hkm : ∀ as, ArgsShp P ts as → Pure tab fi as (vb true)) {apart fresh handsOn again : Bool} {base : Nat} {args : Array Value} {ds gs : List (DataW H)} {before : List MemPlace}
    (hval : ∀ (j : Nat) t v, f.params[j]? = some t → args[j]? = some v → Value.okWide P W .any base t v) (hW : DataW.Whole enc P f.params.toList s.vars apart W args.toList ds gs before) :
    Calls P (σ fi) args W fun e W' => ∃ v, e = .returned v ∧ s.post enc P f apart fresh handsOn again W args v W' := by
  have hW' := hW
  obtain ⟨p, q, hA, hV, hb, hfz, hnd⟩ := hW
  rw [hts] at hA
  rw [hvars] at hV
  obtain ⟨rfl, rfl⟩ := trodVars_none hV
  simp only [List.append_nil] at hb
  subst hb
  obtain ⟨as, h1, h2⟩ := args_froz (σ := σ) (b0 := base) hsimple (fun j t v h h' => hval j t v (by rw [← Array.getElem?_toList, hts]; exact h) (by rw [← Array.getElem?_toList]; exact h')) hA
  have hlen : ds.length = ts.length := by
    have : ∀ {ts : List TypeId} {vs : List Value} {ds : List (DataW H)} {ps : List MemPlace}, DataW.TrodAll enc P W 0 (fun _ => true) true ts vs ds ps → ds.length = ts.length := by
      intro ts
      induction ts with
      | nil => intro vs ds ps h; cases vs <;> cases ds <;> first | rfl | cases h
      | cons t ts ih => intro vs ds ps h; cases vs <;> cases ds <;> first | (obtain ⟨_, _, _, h, _⟩ := h; simp [ih h]) | cases h
    exact this hA
  have hfn' := hfn ds hlen
  have hc := pure_calls hE (hkm as h2) W h1
  rw [Array.toArray_toList] at hc
  refine hc.mono fun e W' h => ?_
  obtain ⟨he, hg⟩ := h
  subst he
  refine ⟨_, rfl, post_of_below (pa := before) (pv := []) hW' (fun b sp hd => ?_) (fun sp hsp => ?_) (fun sp _ => ?_) (by simp) hg ?_⟩
  · rw [List.append_nil, hfn', hres]
    exact trodAll_mk1 (shut_bool htb _)
  · rw [List.append_nil, hfn', hts]
    exact trodAll_stays hlaid hg hread hA (fun p hp => hW'.lt p hp) hsp
  · rw [List.append_nil, hfn', hvars]
    exact rfl
  · exact ok_one hres rfl (okWide_bool_mk htb _)
end
end Km
end

section
namespace Km
open Go

section
variable {tab : Nat → Option AFunc} {f : Nat} {args : List V} {r : V} {fn : Nat} {k : List AItem} {t : T} {ds : List ADef} {H H' : Heap} {Q : Option ACode → St → Prop}

theorem kw_rangeF {x : Arg} {ps : List P} {as bd : ACode} {g : Nat} {ar : List V} (hf : calleeV (x.ev t) [.c (.yl (H.length + 1))] = some (.fn g, ar))
    (he : Ev tab (.fn g) ar (H ++ [.dfr true, .lp fn t ps as bd .ready none H.length]) r H')
    (h : WP tab fn none (.endRF (H.length + 1) :: k) ⟨t, .coll H.length :: ds, H'⟩ Q) : WP tab fn none (.code (.rangeF x ps as bd) :: k) ⟨t, ds, H⟩ Q := by
  obtain ⟨m, d, he⟩ := he
  obtain ⟨n, m', d', j, s', h1, h2⟩ := h
  refine ⟨n + 1, max m m', max d d', j, s', ?_, h2⟩
  have e1 := cf_le (tab := tab) (Nat.le_max_left m m') (Nat.le_max_left d d') _ _ _ _ he
  have e2 := run_le (Nat.le_max_right m m') (Nat.le_max_right d d') (Nat.le_refl n) h1
  simp only [run, hf, e1, e2]
  simp

theorem kw_endRF {ro : Option Nat} {b f' d : Nat} {tm : T} {ps : List P} {as bd : ACode} {st : LoopSt} (hb : H[b]? = some (.lp f' tm ps as bd st none d)) (hst : st ≠ .busy)
    (h : WP tab fn ro k ⟨t, ds, H.set b (.lp f' tm ps as bd .exhausted none d)⟩ Q) : WP tab fn ro (.endRF b :: k) ⟨t, ds, H⟩ Q := by
  refine kw_of h fun m d n => ?_
  simp only [run, hb, if_neg hst]
theorem kw_endRF_ret {ro : Option Nat} {b f' d : Nat} {tm : T} {ps : List P} {as bd : ACode} {st : LoopSt} (hb : H[b]? = some (.lp f' tm ps as bd st (some .ret) d)) (hst : st ≠ .busy)
    (h : WP tab fn ro (.code .ret :: k) ⟨t, ds, H.set b (.lp f' tm ps as bd .exhausted (some .ret) d)⟩ Q) : WP tab fn ro (.endRF b :: k) ⟨t, ds, H⟩ Q := by
  refine kw_of h fun m d n => ?_
  simp only [run, hb, if_neg hst]
theorem kw_begR {b f' d : Nat} {tm : T} {ps : List P} {as bd : ACode} {pd : Option ACode} (hb : H[b]? = some (.lp f' tm ps as bd .ready pd d))
    (h : WP tab fn (some b) k ⟨t, ds, H.set b (.lp f' tm ps as bd .busy pd d)⟩ Q) : WP tab fn (some b) (.begR :: k) ⟨t, ds, H⟩ Q := by
  refine kw_of h fun m d n => ?_
  simp only [run, hb]

@[simp] theorem callee_yl {b : Nat} {as : List V} : calleeV (.c (.yl b)) as = some (.yield b, as) := rfl

/-- What a round comes to. -/
def FinY (b : Nat) (r : V) (H' : Heap) (j : Option ACode) (s : St) : Prop := s.defs = [] ∧ ∃ f' tm ps as bd st pd d, s.heap[b]? = some (.lp f' tm ps as bd st pd d) ∧ r = .c (.f (.bool j.isNone)) ∧
  H' = s.heap.set b (.lp f' tm ps as bd (if j.isNone then .ready else .done) j d)
theorem ev_yield {b f' d : Nat} {tm : T} {ps : List P} {as bd : ACode} {st : LoopSt} {pd : Option ACode} (hb : H[b]? = some (.lp f' tm ps as bd st pd d)) (hl : args.length = ps.length)
    (h : WP tab f' (some b) [.code as, .begR, .code bd] ⟨setAll ps args tm, [], H⟩ (FinY b r H')) : Ev tab (.yield b) args H r H' := by
  obtain ⟨n, m, d', j, s, h1, hd, f2, tm2, ps2, as2, bd2, st2, pd2, d2, h2, rfl, rfl⟩ := h
  refine ⟨max m n, d' + 1, ?_⟩
  have e1 : run (CF tab (max m n) d') f' (max m n) (some b) [.code as, .begR, .code bd] ⟨setAll ps args tm, [], H⟩ = some (j, s) := run_le (Nat.le_max_left m n) (Nat.le_refl d') (Nat.le_max_right m n) h1
  simp only [CF] at e1 ⊢
  simp only [callF, hb, hl, if_true, e1, hd, List.isEmpty_nil, h2]
  rfl

theorem ev_yield_ex {C : V → Heap → Prop} {b f' d : Nat} {tm : T} {ps : List P} {as bd : ACode} {st : LoopSt} {pd : Option ACode} (hb : H[b]? = some (.lp f' tm ps as bd st pd d)) (hl : args.length = ps.length)
    (h : ∀ Q : Option ACode → St → Prop, (∀ j s f2 tm2 ps2 as2 bd2 st2 pd2 d2, s.defs = [] → s.heap[b]? = some (.lp f2 tm2 ps2 as2 bd2 st2 pd2 d2) →
      C (.c (.f (.bool j.isNone))) (s.heap.set b (.lp f2 tm2 ps2 as2 bd2 (if j.isNone then .ready else .done) j d2)) → Q j s) → WP tab f' (some b) [.code as, .begR, .code bd] ⟨setAll ps args tm, [], H⟩ Q) : ∃ r H', Ev tab (.yield b) args H r H' ∧ C r H' := by
  have h' := h (fun j s => ∃ r H', C r H' ∧ FinY b r H' j s) fun j s f2 tm2 ps2 as2 bd2 st2 pd2 d2 h1 h2 h3 => ⟨_, _, h3, h1, f2, tm2, ps2, as2, bd2, st2, pd2, d2, h2, rfl, rfl⟩
  obtain ⟨n, m, d', j, s, h1, r, H', h2, h3⟩ := h'
  exact ⟨r, H', ev_yield hb hl ⟨n, m, d', j, s, h1, h3⟩, h2⟩

/-- A function's end, with one range over a function behind it. -/
def FinC (res : List ARes) (r : V) (s : St) : Prop := ∃ b, s.defs = [.coll b] ∧ s.heap[b]? = some (.dfr true) ∧ ∃ r0, results s.regs (s.heap.set b (.dfr false)) res = some r0 ∧ exV deep (s.heap.set b (.dfr false)) r0 = some r
theorem pure_exC {S : V → Prop} {ps : List P} {res : List ARes} {body : ACode} (ht : tab f = some ⟨ps, res, body⟩) (hl : args.length = ps.length)
    (h : ∀ Q : Option ACode → St → Prop, (∀ j s r, S r → FinP res r s ∨ FinC res r s → Q j s) → WP tab f none [.code body] ⟨setAll ps args .e, [], []⟩ Q) : ∃ r, S r ∧ Pure tab f args r := by
  have h' := h (fun _ s => ∃ r, S r ∧ (FinP res r s ∨ FinC res r s)) fun _ _ r h1 h2 => ⟨r, h1, h2⟩
  obtain ⟨n, m, d, j, s, h1, r, hr, ⟨hd, r0, h2, h3⟩ | ⟨b, hd, hb, r0, h2, h3⟩⟩ := h'
  · exact ⟨r, hr, r0, s.heap, ev_fn ht hl ⟨n, m, d, j, s, h1, 0, 0, s.heap, by rw [hd]; rfl, h2, rfl⟩, h3⟩
  · exact ⟨r, hr, r0, s.heap.set b (.dfr false), ev_fn ht hl ⟨n, m, d, j, s, h1, 0, 0, _, by rw [hd]; simp only [runDefs, hb], h2, rfl⟩, h3⟩

/-- A call's end, whatever the heap is then. -/
theorem ev_ex {C : V → Heap → Prop} {ps : List P} {res : List ARes} {body : ACode} (ht : tab f = some ⟨ps, res, body⟩) (hl : args.length = ps.length)
    (h : ∀ Q : Option ACode → St → Prop, (∀ j s r, s.defs = [] → results s.regs s.heap res = some r → C r s.heap → Q j s) → WP tab f none [.code body] ⟨setAll ps args .e, [], H⟩ Q) : ∃ r H', Ev tab (.fn f) args H r H' ∧ C r H' := by
  have h' := h (fun _ s => s.defs = [] ∧ ∃ r, results s.regs s.heap res = some r ∧ C r s.heap) fun _ _ r h1 h2 h3 => ⟨h1, r, h2, h3⟩
  obtain ⟨n, m, d, j, s, h1, hd, r, h2, h3⟩ := h'
  exact ⟨r, s.heap, ev_fn ht hl ⟨n, m, d, j, s, h1, 0, 0, s.heap, by rw [hd]; rfl, h2, rfl⟩, h3⟩
end
end Km
end

section
namespace Km
open Go

theorem xOps_append {c : CallF} : ∀ (a b : List AOper) (s : St), xOps c (a ++ b) s = (xOps c a s).bind (xOps c b)
  | [], b, s => rfl
  | o :: a, b, s => by
    simp only [List.cons_append, xOps]
    cases xStep c s o with
    | none => rfl
    | some s' => exact xOps_append a b s'

theorem xStates_of {c : CallF} : ∀ (os : List AOper) (s : St) {s' : St}, xOps c os s = some s' → ∃ ss, xStates c os s = some ss ∧ ss.getLast? = some s' ∧ ∀ i, i ≤ os.length → xOps c (os.take i) s = ss[i]?
  | [], s, s', h => by
    simp only [xOps, Option.some.injEq] at h
    subst h
    refine ⟨[s], rfl, rfl, fun i hi => ?_⟩
    have : i = 0 := by simpa using hi
    subst this
    rfl
  | o :: os, s, s', h => by
    simp only [xOps] at h
    cases hs : xStep c s o with
    | none => simp [hs] at h
    | some s1 =>
      simp only [hs] at h
      obtain ⟨ss, h1, h2, h3⟩ := xStates_of os s1 h
      refine ⟨s :: ss, by simp only [xStates, hs, h1], by rw [List.getLast?_cons, h2]; rfl, fun i hi => ?_⟩
      cases i with
      | zero => rfl
      | succ i =>
        simp only [List.take_succ_cons, xOps, hs, List.getElem?_cons_succ]
        exact h3 i (by simpa using hi)

def SameV (o : AOper) (si sj : St) : Prop := wanted si.regs o.g = some false ∨ ∃ v H1 v' H2, xOp si.regs si.heap o.op = some (v, H1) ∧ xOp si.regs sj.heap o.op = some (v', H2) ∧ v.beq v' = true

section
variable {tab : Nat → Option AFunc} {fn : Nat} {ro : Option Nat} {k : List AItem} {s : St} {Q : Option ACode → St → Prop}

/-- Operation i reads the same before operation j. -/
def SameS (tab : Nat → Option AFunc) (ops : List AOper) (s : St) (c : Nat × Nat) : Prop := c.2 ≤ ops.length ∧ ∃ o, ops[c.1]? = some o ∧
  ((c.1 ≤ c.2 ∧ OPS tab (ops.take c.1) s fun si => OPS tab ((ops.drop c.1).take (c.2 - c.1)) si fun sj => SameV o si sj) ∨
   (c.2 ≤ c.1 ∧ OPS tab (ops.take c.2) s fun sj => OPS tab ((ops.drop c.2).take (c.1 - c.2)) sj fun si => SameV o si sj))

theorem sameS_at {ops : List AOper} {c : Nat × Nat} (h : SameS tab ops s c) : ∃ m d o si sj, c.2 ≤ ops.length ∧ ops[c.1]? = some o ∧ xOps (CF tab m d) (ops.take c.1) s = some si ∧ xOps (CF tab m d) (ops.take c.2) s = some sj ∧ SameV o si sj := by
  have two : ∀ (a b : Nat) (K : St → St → Prop), a ≤ b → OPS tab (ops.take a) s (fun sa => OPS tab ((ops.drop a).take (b - a)) sa fun sb => K sa sb) →
      ∃ m d sa sb, xOps (CF tab m d) (ops.take a) s = some sa ∧ xOps (CF tab m d) (ops.take b) s = some sb ∧ K sa sb := by
    intro a b K hab h
    obtain ⟨m, d, sa, h1, h2⟩ := OPS_sound _ _ h
    obtain ⟨m', d', sb, h3, h4⟩ := OPS_sound _ _ h2
    have e1 := xOps_mono (cf_le (tab := tab) (Nat.le_max_left m m') (Nat.le_max_left d d')) _ _ h1
    have e3 := xOps_mono (cf_le (tab := tab) (Nat.le_max_right m m') (Nat.le_max_right d d')) _ _ h3
    refine ⟨max m m', max d d', sa, sb, e1, ?_, h4⟩
    have : ops.take b = ops.take a ++ (ops.drop a).take (b - a) := by
      have hb : b = a + (b - a) := by omega
      conv => lhs; rw [hb, List.take_add]
    rw [this, xOps_append, e1]
    exact e3
  obtain ⟨hj, o, ho, ⟨hij, h⟩ | ⟨hji, h⟩⟩ := h
  · obtain ⟨m, d, si, sj, h1, h2, h3⟩ := two _ _ (fun si sj => SameV o si sj) hij h
    exact ⟨m, d, o, si, sj, hj, ho, h1, h2, h3⟩
  · obtain ⟨m, d, sj, si, h1, h2, h3⟩ := two _ _ (fun sj si => SameV o si sj) hji h
    exact ⟨m, d, o, si, sj, hj, ho, h2, h1, h3⟩

theorem kw_regionk {ops : List AOper} {chk : List (Nat × Nat)} (hr : ro = none ∨ ops.all (·.op.roundOK) = true) (h : OPS tab ops s fun s' => WP tab fn ro k s' Q) (hk : ∀ c ∈ chk, SameS tab ops s c) :
    WP tab fn ro (.code (.region ops chk) :: k) s Q := by
  obtain ⟨m, d, s', h1, n, m', d', j, s2, h2, h3⟩ := OPS_sound ops s h
  have hall : ∃ M D, ∀ c ∈ chk, ∃ o si sj, c.2 ≤ ops.length ∧ ops[c.1]? = some o ∧ xOps (CF tab M D) (ops.take c.1) s = some si ∧ xOps (CF tab M D) (ops.take c.2) s = some sj ∧ SameV o si sj := by
    clear h1 h2 h
    induction chk with
    | nil => exact ⟨0, 0, fun c hc => by cases hc⟩
    | cons c cs ih =>
      obtain ⟨M, D, ih⟩ := ih fun c hc => hk c (List.mem_cons_of_mem _ hc)
      obtain ⟨m1, d1, o, si, sj, a1, a2, a3, a4, a5⟩ := sameS_at (hk c List.mem_cons_self)
      refine ⟨max M m1, max D d1, fun c' hc' => ?_⟩
      rcases List.mem_cons.1 hc' with rfl | hc'
      · have l := cf_le (tab := tab) (Nat.le_max_right M m1) (Nat.le_max_right D d1)
        exact ⟨o, si, sj, a1, a2, xOps_mono l _ _ a3, xOps_mono l _ _ a4, a5⟩
      · obtain ⟨o, si, sj, a1, a2, a3, a4, a5⟩ := ih c' hc'
        have l := cf_le (tab := tab) (Nat.le_max_left M m1) (Nat.le_max_left D d1)
        exact ⟨o, si, sj, a1, a2, xOps_mono l _ _ a3, xOps_mono l _ _ a4, a5⟩
  obtain ⟨M, D, hall⟩ := hall
  obtain ⟨MM, hm1, hm2, hm3⟩ : ∃ x, m ≤ x ∧ m' ≤ x ∧ M ≤ x := ⟨max (max m m') M, by omega, by omega, by omega⟩
  obtain ⟨DD, hd1, hd2, hd3⟩ : ∃ x, d ≤ x ∧ d' ≤ x ∧ D ≤ x := ⟨max (max d d') D, by omega, by omega, by omega⟩
  refine ⟨n + 1, MM, DD, j, s2, ?_, h3⟩
  have e1 := xOps_mono (cf_le (tab := tab) hm1 hd1) ops _ h1
  have e2 := run_le hm2 hd2 (Nat.le_refl n) h2
  have hro : (ro.isSome && !ops.all (·.op.roundOK)) = false := by
    rcases hr with rfl | hr
    · rfl
    · rw [hr]; simp
  obtain ⟨ss, f1, f2, f3⟩ := xStates_of ops s e1
  have hx : xRegion (CF tab MM DD) ops chk s = some s' := by
    cases chk with
    | nil => simpa only [xRegion] using e1
    | cons x xs =>
      simp only [xRegion, f1]
      rw [if_pos, f2]
      rw [List.all_eq_true]
      intro c hc
      obtain ⟨o, si, sj, a1, a2, a3, a4, a5⟩ := hall c hc
      have l := cf_le (tab := tab) hm3 hd3
      have hi : c.1 ≤ ops.length := by
        have := (List.getElem?_eq_some_iff.1 a2).1
        omega
      have b3 := xOps_mono l _ _ a3
      have b4 := xOps_mono l _ _ a4
      rw [f3 _ hi] at b3
      rw [f3 _ a1] at b4
      simp only [sameAt, a2, b3, b4]
      rcases a5 with hw | ⟨v, H1, v', H2, g1, g2, g3⟩
      · rw [hw]
      · split
        · rfl
        · simp only [g1, g2, g3]
  simp only [run, hro, hx, e2]
  simp
end
end Km
end

section
namespace Km
open Go

/-- A list of ints in the making. -/
def LBi (z : Bool) (H : Heap) (c : C) (l : List Int) : Prop := LB z H 1 (.c c) .nil (ints l)

theorem exB_int {n : Nat} {H : Heap} {x : C} {m : Int} (h : exB n H x = some (fi m)) : x = .f (fi m) := by
  cases x with
  | f y => simpa using h
  | ptr b o e =>
    cases n with
    | zero => simp [exB] at h
    | succ n =>
      simp only [exB] at h
      split at h
      · rw [Option.map_eq_some_iff] at h; obtain ⟨_, _, h⟩ := h; cases h
      · cases h
  | sl b o l c e sz =>
    cases n with
    | zero => simp [exB] at h
    | succ n =>
      simp only [exB] at h
      split at h
      · split at h
        · rw [Option.map_eq_some_iff] at h; obtain ⟨_, _, h⟩ := h; cases h
        · cases h
      · cases h
  | _ => cases n <;> simp [exB] at h
theorem mapO_int {n : Nat} {H : Heap} : ∀ {cs : List C} {l : List Int}, mapO (exB n H) cs = some (l.map fi) → cs = l.map fun m => .f (fi m)
  | [], [], _ => rfl
  | [], m :: l, h => by simp [mapO] at h
  | x :: cs, l, h => by
    simp only [mapO] at h
    cases hx : exB n H x with
    | none => simp [hx] at h
    | some y =>
      cases hxs : mapO (exB n H) cs with
      | none => simp [hx, hxs] at h
      | some zs =>
        simp only [hx, hxs, Option.some.injEq] at h
        cases l with
        | nil => cases h
        | cons m l =>
          simp only [List.map_cons, List.cons.injEq] at h
          obtain ⟨rfl, rfl⟩ := h
          rw [exB_int hx, mapO_int hxs]
          rfl
theorem ints_flat (l : List Int) : (ints l).flatten = l.map fi := by
  induction l with
  | nil => rfl
  | cons m l ih => simp only [ints, List.map_cons, List.flatten_cons] at ih ⊢; rw [ih]; rfl

/-- The same, told apart: nothing, or a block of its own. -/
def LBj (z : Bool) (H : Heap) (c : C) (l : List Int) : Prop :=
  (l = [] ∧ c = .f .nils) ∨ ∃ b ep fl st, c = .sl b 0 l.length 0 ep 1 ∧ H[b]? = some (.opn 1 (l.map fun m => .f (fi m)) fl ep st) ∧ fl ≤ l.length ∧ (z = true → fl = 0) ∧ (l = [] → st = .nil) ∧ (l ≠ [] → st = .loc)
theorem ints_nil {l : List Int} : ints l = [] ↔ l = [] := by cases l <;> simp [ints]
theorem LBi.j {z : Bool} {H : Heap} {c : C} {l : List Int} (h : LBi z H c l) : LBj z H c l := by
  rcases h with ⟨h1, h2, _⟩ | ⟨b, ep, fl, st, cs, h1, h2, h3, h4, h5, h6, h7⟩
  · refine .inl ⟨ints_nil.1 h1, ?_⟩
    cases h2; rfl
  · rw [ints_flat] at h3
    have hcs := mapO_int h3
    subst hcs
    simp only [V.c.injEq, ints_len] at h1
    refine .inr ⟨b, ep, fl, st, h1, h2, by simpa using h4, h5, fun e => (h6 (ints_nil.2 e)).1, fun e => h7 (fun h => e (ints_nil.1 h))⟩
theorem LBj.i {z : Bool} {H : Heap} {c : C} {l : List Int} (h : LBj z H c l) : LBi z H c l := by
  rcases h with ⟨rfl, rfl⟩ | ⟨b, ep, fl, st, rfl, h2, h4, h5, h6, h7⟩
  · exact .inl ⟨rfl, rfl, by decide⟩
  · refine .inr ⟨b, ep, fl, st, _, by simp, h2, ?_, by simpa using h4, h5, fun e => ⟨h6 (ints_nil.1 e), by decide⟩, fun e => h7 fun h => e (ints_nil.2 h)⟩
    rw [ints_flat]
    have := mapO_exB (n := 60) (H := H) (l.map fi)
    rw [List.map_map] at this
    exact this
theorem LBj.set {z : Bool} {H : Heap} {c : C} {l : List Int} (h : LBj z H c l) {b : Nat} {cs cs' : List C} {fl fl' : Nat} (hb : H[b]? = some (.box cs fl)) : LBj z (H.set b (.box cs' fl')) c l := by
  rcases h with h | ⟨b', ep, fl, st, h1, h2, h3⟩
  · exact .inl h
  · have : b ≠ b' := by rintro rfl; rw [hb] at h2; cases h2
    exact .inr ⟨b', ep, fl, st, h1, by rw [List.getElem?_set_ne this]; exact h2, h3⟩
theorem LBj.push {z : Bool} {H : Heap} {c : C} {l : List Int} (h : LBj z H c l) (L : Heap) : LBj z (H ++ L) c l := by
  rcases h with h | ⟨b', ep, fl, st, h1, h2, h3⟩
  · exact .inl h
  · exact .inr ⟨b', ep, fl, st, h1, by rw [List.getElem?_append_left (lt_of_get h2)]; exact h2, h3⟩
theorem LBj.ex {z : Bool} {H : Heap} {c : C} {l : List Int} (h : LBj z H c l) (n : Nat) : exC (n + 1) H c = some (sl .nil (ints l)) := by
  rcases h with ⟨rfl, rfl⟩ | ⟨b, ep, fl, st, rfl, h2, h4, h5, h6, h7⟩
  · rfl
  · cases l with
    | nil => obtain rfl := h6 rfl; simp [ex_sl, h2, sl, ints, Tg.fc]
    | cons m l =>
      obtain rfl := h7 (by simp)
      simp only [ex_sl, h2]
      rw [if_pos ⟨trivial, trivial, by simp⟩, List.drop_zero, List.take_of_length_le (by simp)]
      have := mapO_f (n := n) (H := H) ((m :: l).map fi)
      simp only [List.map_map] at this
      have e : (List.map (fun m => C.f (fi m)) (m :: l)) = List.map (C.f ∘ fi) (m :: l) := rfl
      rw [e, this]
      have hs : sl .nil (ints (m :: l)) = .fs (ints (m :: l)).flatten (ints (m :: l)).length := rfl
      rw [hs, ints_flat, ints_len]
      rfl
theorem foldl_f {n : Nat} : ∀ (l : List C) (H : Heap), (∀ x ∈ l, ∃ y, x = .f y) → l.foldl (fun H x => mkC n x H) H = H
  | [], _, _ => rfl
  | x :: l, H, h => by
    obtain ⟨y, rfl⟩ := h x List.mem_cons_self
    simp only [List.foldl_cons, mkC_f]
    exact foldl_f l H fun x hx => h x (List.mem_cons_of_mem _ hx)
/-- Passed by value: the boxes are kept, and the list. -/
theorem LBj.mk {z : Bool} {H : Heap} {c : C} {l : List Int} (h : LBj z H c l) (n : Nat) : LBj false (mkC (n + 1) c H) c l ∧ ∀ (b : Nat) cs fl, H[b]? = some (.box cs fl) → (mkC (n + 1) c H)[b]? = some (.box cs fl) := by
  rcases h with ⟨rfl, rfl⟩ | ⟨b, ep, fl, st, rfl, h2, h4, h5, h6, h7⟩
  · exact ⟨.inl ⟨rfl, rfl⟩, fun b cs fl h => h⟩
  · have e : mkC (n + 1) (.sl b 0 l.length 0 ep 1) H = H.set b (.opn 1 (l.map fun m => .f (fi m)) (Nat.max fl l.length) ep st) := by
      simp only [mk_sl, h2]
      rw [foldl_f]
      · simp
      · intro x hx
        have hx := List.mem_of_mem_drop (List.mem_of_mem_take hx)
        obtain ⟨m, _, rfl⟩ := List.mem_map.1 hx
        exact ⟨_, rfl⟩
    rw [e]
    refine ⟨.inr ⟨b, ep, _, st, rfl, List.getElem?_set_self (lt_of_get h2), Nat.max_le.2 ⟨h4, Nat.le_refl _⟩, by simp, h6, h7⟩, fun b' cs fl' hb' => ?_⟩
    have : b ≠ b' := by rintro rfl; rw [h2] at hb'; cases hb'
    rw [List.getElem?_set_ne this]; exact hb'
end Km
end

section
namespace Km
open Go

theorem LB.marks {z : Bool} {H : Heap} {sz : Nat} {v : V} {g : Tg} {rows : List (List FC)} (h : LB z H sz v g rows) (hg : Grid sz rows) : Marks H (mkV deep H v) := by
  rcases h with ⟨rfl, rfl, hgs⟩ | ⟨b, ep, fl, st, ds, rfl, h2, h3, h3', hz, h4, h5⟩
  · simp only [mk_c, mkC_f]
    exact Marks.refl H
  · have hl : rows.length * sz = ds.length := by rw [← mapO_len h3, flatten_len hg]
    have e : mkV deep H (.c (.sl b 0 rows.length 0 ep sz)) = ds.foldl (fun H x => mkC 63 x H) (H.set b (.opn sz ds (Nat.max fl (0 + rows.length * sz)) ep st)) := by
      simp only [mk_c, deep, mk_sl, h2]
      rw [List.drop_zero, List.take_of_length_le (by omega)]
    rw [e]
    have m1 : Marks H (H.set b (.opn sz ds (Nat.max fl (0 + rows.length * sz)) ep st)) := Marks.set_opn h2 fun _ hf => Nat.max_le.2 ⟨hf, by omega⟩
    have up : mapO (exB 63 (H.set b (.opn sz ds (Nat.max fl (0 + rows.length * sz)) ep st))) ds = some rows.flatten :=
      mapO_imp (fun x y _ hx => m1.exB (exB_up hx (by decide))) h3
    exact m1.trans (marks_foldl (marks_mkC 63) _ _ _ up)
/-- A list stays what it is where the heap is only marked. -/
theorem LB.marked {z : Bool} {H H' : Heap} {sz : Nat} {v : V} {g : Tg} {rows : List (List FC)} (h : LB z H sz v g rows) (hne : rows ≠ []) (hm : Marks H H') : LB false H' sz v g rows := by
  rcases h with ⟨rfl, _⟩ | ⟨b, ep, fl, st, ds, rfl, h2, h3, h3', hz, h4, h5⟩
  · exact absurd rfl hne
  · obtain ⟨fl', e1, e2⟩ := hm.opn h2
    exact .inr ⟨b, ep, fl', st, ds, rfl, e1, mapO_imp (fun x y _ => hm.exB) h3, e2 (h5 hne) h3', by simp, fun e => absurd e hne, h5⟩
/-- A slice of rows in a box, of cells by value. -/
theorem marks_sl {H : Heap} {b l c e sz fl : Nat} {cs : List FC} (hb : H[b]? = some (.box (cs.map .f) fl)) : Marks H (mkC deep (.sl b 0 l c e sz) H) := by
  have : mkC deep (.sl b 0 l c e sz) H = H.set b (.box (cs.map .f) (Nat.max fl (0 + l * sz))) := by
    simp only [deep, mk_sl, hb]
    rw [foldl_f]
    intro x hx
    have hx := List.mem_of_mem_drop (List.mem_of_mem_take hx)
    obtain ⟨m, _, rfl⟩ := List.mem_map.1 hx
    exact ⟨_, rfl⟩
  rw [this]
  exact Marks.set_box hb
theorem marks_opn {H : Heap} {b l c e sz fl ep : Nat} {st : Os} {cs : List FC} (hb : H[b]? = some (.opn sz (cs.map .f) fl ep st)) (hl : l * sz ≤ cs.length) : Marks H (mkC deep (.sl b 0 l c e sz) H) := by
  have : mkC deep (.sl b 0 l c e sz) H = H.set b (.opn sz (cs.map .f) (Nat.max fl (0 + l * sz)) ep st) := by
    simp only [deep, mk_sl, hb]
    rw [foldl_f]
    intro x hx
    have hx := List.mem_of_mem_drop (List.mem_of_mem_take hx)
    obtain ⟨m, _, rfl⟩ := List.mem_map.1 hx
    exact ⟨_, rfl⟩
  rw [this]
  exact Marks.set_opn hb fun _ hf => Nat.max_le.2 ⟨hf, by simpa using hl⟩
end Km
end

section
namespace Km
open Go

/-- Block b holds these rows, of cells by value; nothing of it is frozen. -/
def RB (H : Heap) (b sz ep : Nat) (rows : List (List FC)) : Prop := H[b]? = some (.opn sz (rows.flatten.map .f) 0 ep .loc)
/-- All but block b stays. -/
def Fm (b : Nat) (H H' : Heap) : Prop := H.length ≤ H'.length ∧ ∀ b' : Nat, b' ≠ b → b' < H.length → H'[b']? = H[b']?
theorem Fm.refl {b : Nat} (H : Heap) : Fm b H H := ⟨Nat.le_refl _, fun _ _ _ => rfl⟩
theorem Fm.trans {b : Nat} {H H' H'' : Heap} (h : Fm b H H') (h' : Fm b H' H'') : Fm b H H'' :=
  ⟨Nat.le_trans h.1 h'.1, fun b' e l => (h'.2 b' e (Nat.lt_of_lt_of_le l h.1)).trans (h.2 b' e l)⟩
theorem Fm.push {b : Nat} (H J : Heap) : Fm b H (H ++ J) := ⟨by simp, fun b' _ l => List.getElem?_append_left l⟩
theorem Fm.set {b : Nat} (H : Heap) (x : Blk) : Fm b H (H.set b x) := ⟨by simp, fun b' e _ => List.getElem?_set_ne (Ne.symm e)⟩
theorem Fm.get {b : Nat} {H H' : Heap} (h : Fm b H H') {b' : Nat} {x : Blk} (hb : H[b']? = some x) (e : b' ≠ b) : H'[b']? = some x := by rw [h.2 b' e (lt_of_get hb)]; exact hb

theorem set_rows {sz : Nat} {row : List FC} (hr : row.length = sz) : ∀ {rows : List (List FC)} {j : Nat}, Grid sz rows → j < rows.length →
    rows.flatten.take (j * sz) ++ row ++ rows.flatten.drop (j * sz + sz) = (rows.set j row).flatten
  | [], _, _, hj => by simp at hj
  | r :: rows, 0, hg, _ => by
    have := hg r List.mem_cons_self
    subst this
    simp
  | r :: rows, j + 1, hg, hj => by
    have hr0 := hg r List.mem_cons_self
    have ih := set_rows hr (rows := rows) (j := j) (fun x hx => hg x (List.mem_cons_of_mem _ hx)) (by simpa using hj)
    simp only [List.flatten_cons, List.set_cons_succ]
    rw [← ih]
    have e1 : (j + 1) * sz = r.length + j * sz := by rw [hr0, Nat.add_mul]; omega
    have e2 : (j + 1) * sz + sz = r.length + (j * sz + sz) := by omega
    rw [e2, e1, List.take_append, List.drop_append]
    simp [List.take_of_length_le, List.append_assoc]

section
variable {H : Heap} {b sz ep j : Nat} {rows : List (List FC)} {row : List FC}
theorem RB.lt (h : RB H b sz ep rows) : b < H.length := lt_of_get h
theorem RB.push (h : RB H b sz ep rows) (J : Heap) : RB (H ++ J) b sz ep rows := by
  unfold RB at *; rw [List.getElem?_append_left (lt_of_get h)]; exact h
theorem RB.len (h : RB H b sz ep rows) {o l c : Nat} : slLen H (.sl b o l c ep sz) = some l := by
  unfold RB at h; simp [slLen, h]
theorem RB.idx (h : RB H b sz ep rows) {n c : Nat} {k : IntKind} {i : Int} (h0 : 0 ≤ i) (hi : i < n) {o : Nat} : indexAV H sz none (.c (.sl b o n c ep sz)) (.c (.f (.int k i))) = some (.c (.ptr b (o + i.toNat * sz) ep)) := by
  unfold RB at h
  simp only [indexAV, intV, h0, hi, if_true, h, and_self]
theorem RB.ldr (h : RB H b sz ep rows) (hg : Grid sz rows) (hj : rows[j]? = some row) : ldV H (some sz) (.c (.ptr b (j * sz) ep)) = some (.a (row.map .f)) := by
  unfold RB at h
  have hlen : row.length = sz := hg row (List.mem_of_getElem? hj)
  have := drop_row (k := 0) hg hj (by omega)
  simp only [ld_ptr, h, if_true]
  rw [← List.map_drop]
  rw [Nat.add_zero] at this
  rw [this]
  have h1 : (row.map C.f ++ ((rows.drop (j + 1)).flatten.map C.f)).take sz = row.map C.f := by
    rw [List.take_append_of_le_length (by simp [hlen]), List.take_of_length_le (by simp [hlen])]
  simp [hlen]
theorem RB.str (h : RB H b sz ep rows) (hg : Grid sz rows) (hj : j < rows.length) (hr : row.length = sz) :
    ∃ H', stC H (.ptr b (j * sz) ep) (row.map .f) = some H' ∧ RB H' b sz ep (rows.set j row) ∧ Fm b H H' ∧ H'.length = H.length := by
  have hl := flatten_len hg
  have hjl : (j + 1) * sz ≤ rows.length * sz := Nat.mul_le_mul_right _ hj
  have hin : j * sz + sz ≤ rows.flatten.length := by rw [hl]; rw [Nat.add_mul] at hjl; omega
  unfold RB at h ⊢
  refine ⟨H.set b (.opn sz ((rows.set j row).flatten.map .f) 0 ep .loc), ?_, ?_, Fm.set _ _, by simp⟩
  · simp only [st_ptr, h, Nat.zero_le, true_and, List.length_map, hr, hin, if_true]
    rw [← set_rows hr hg hj]
    simp [over, hr]
  · exact List.getElem?_set_self (lt_of_get h)
theorem Fm.rb {b' : Nat} {H' : Heap} (h : Fm b' H H') (hb : RB H b sz ep rows) (e : b ≠ b') : RB H' b sz ep rows := h.get hb e
end
theorem bnd_nat {k n : Nat} (h : k ≤ n) : bnd (vi k) n = some k := by
  have : (0 : Int) ≤ k ∧ (k : Int) ≤ n := by omega
  simp [bnd, intV, this]
theorem RB.slice_from {H : Heap} {b sz ep n k : Nat} {rows : List (List FC)} (h : RB H b sz ep rows) (hk : k < n) :
    sliceV H sz (.c (.sl b 0 n 0 ep sz)) (some (vi k)) none none = some (.c (.sl b (k * sz) (n - k) 0 ep sz)) := by
  unfold RB at h
  have hb : boundsV n n (some (vi k)) none none = some (k, n, n) := by simp [boundsV, bnd_nat (Nat.le_of_lt hk)]
  simp [sliceV, h, hb]
  omega
theorem RB.slice_to {H : Heap} {b sz ep n k : Nat} {rows : List (List FC)} (h : RB H b sz ep rows) (hk : k ≤ n) (h0 : 0 < k) :
    sliceV H sz (.c (.sl b 0 n 0 ep sz)) none (some (vi k)) none = some (.c (.sl b 0 k 0 ep sz)) := by
  unfold RB at h
  have hb : boundsV n n none (some (vi k)) none = some (0, k, n) := by simp [boundsV, bnd_nat hk]
  simp [sliceV, h, hb]
  try omega
theorem RB.clr {H : Heap} {b sz ep n k : Nat} {rows : List (List FC)} {zs : List FC} (h : RB H b sz ep rows) (hg : Grid sz rows) (hn : rows.length = n) (hk : k < n) (hz : zs.length = sz) :
    ∃ H', clearV H sz zs (.c (.sl b (k * sz) (n - k) 0 ep sz)) = some H' ∧ RB H' b sz ep (rows.take k ++ List.replicate (n - k) zs) ∧ Fm b H H' := by
  have hl := flatten_len hg
  have hlen := h.len (o := k * sz) (l := n - k) (c := 0)
  have hrl : (repl (n - k) zs).length = (n - k) * sz := by
    have : Grid sz (List.replicate (n - k) zs) := fun r hr => by rw [List.eq_of_mem_replicate hr, hz]
    simpa [repl] using flatten_len this
  have hsum : k * sz + (n - k) * sz = rows.flatten.length := by rw [hl, hn, ← Nat.add_mul]; congr 1; omega
  unfold RB at h ⊢
  refine ⟨H.set b (.opn sz ((rows.take k ++ List.replicate (n - k) zs).flatten.map .f) 0 ep .loc), ?_, List.getElem?_set_self (lt_of_get h), Fm.set _ _⟩
  have hnk : n - k ≠ 0 := by omega
  have e0 : (rows.take k ++ List.replicate (n - k) zs).flatten.map C.f = over (rows.flatten.map .f) (k * sz) ((repl (n - k) zs).map .f) := by
    rw [List.flatten_append, ← take_rows k hg]
    simp only [over, List.length_map, hrl, List.map_append, List.map_take]
    rw [List.drop_eq_nil_of_le (by simp only [List.length_map]; omega)]
    simp [repl]
  simp only [clearV, hlen]
  rw [e0]
  obtain ⟨q, hq⟩ : ∃ q, n - k = q + 1 := ⟨n - k - 1, by omega⟩
  rw [hq]
  simp only [hz, if_true, h, and_self, st_ptr, Nat.zero_le, true_and, List.length_map]
  rw [← hq, hrl, if_pos (by omega)]

theorem res_one {t : T} {H : Heap} {x : ARes} {r : V} (h : resOne t H x = some r) : Km.results t H [x] = some r := by
  simp [Km.results, mapO, h]
@[simp] theorem x_clear {t : T} {H : Heap} (sz : Nat) (zs : List FC) (x : Arg) : xOp t H (.clear sz zs x) = (clearV H sz zs (x.ev t)).map (.t [], ·) := rfl
@[simp] theorem max_two {a b : Int} : maxV false [vi a, vi b] = some (vi (max a b)) := by
  have : (if a < b then b else a) = max a b := by split <;> omega
  simp only [maxV, maxsV, max2V]
  simp [this, V.int]
@[simp] theorem min_two {a b : Int} : maxV true [vi a, vi b] = some (vi (min a b)) := by
  have : (if b < a then b else a) = min a b := by split <;> omega
  simp only [maxV, maxsV, max2V]
  simp [this, V.int]
end Km
end

