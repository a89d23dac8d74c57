/-
  Our own small machine for Go code by value, held against the model: part 4. No program in sight.
-/
import Derived.Test.YtmbjejcfadllnaaGreatK3
import Derived.ChangeArms
import Derived.DataReads
import Derived.Deep.Slices
import Derived.ProofKit
import Derived.RowKit3
import Derived.Below
import Derived.Carry
import Derived.Laws.IdiomArrays
open Nat renaming le_refl → ax, add_mul → cE, mul_le_mul_right → cT, le_max_left → bN, le_max_right → bz, le_trans → bw, lt_of_lt_of_le → cJ, zero_add → cR
open Option renaming bind_some → bE, map_eq_some_iff → aq, bind_eq_some_iff → bB
open List renaming map_cons → aM, foldl_cons → cX, mem_cons_of_mem → bA, flatten_cons → b9, length_append → bp, length_cons → b7, mem_cons_self → bh, drop_append → ey, mem_map → cK, getElem?_eq_some_iff → ai, mem_of_getElem? → aL, drop_drop → dp, drop_eq_getElem_cons → bR, getElem?_eq_getElem → ae, length_map → cF, length_drop → cL, map_append → cY, take_append_of_le_length → c9, take_of_length_le → bu, getElem?_map → cP, isEmpty_cons → ei, findIdx?_eq_some_iff_getElem → ej, getElem_mem → aw, getElem?_append_left → ag, getElem?_append_right → bj, take_append_drop → cM, append_nil → df, getElem?_of_mem → cH, mem_cons → cG, getElem?_set_ne → am, set_cons_succ → eg, append_assoc → de, map_drop → ek, getElem?_set_self → az, getElem?_take → bS, getElem?_drop → bl, length_eq_zero_iff → cQ, nil_append → ef
open Bool renaming false_eq_true → aE, and_eq_true → an
open Option.some renaming injEq → ab, inj → dv
set_option linter.unusedVariables false
set_option linter.unusedSimpArgs false
set_option linter.unusedSectionVars false
set_option maxRecDepth 100000
namespace Km
section
open Go
def P.V3:Nat→Nat→P
 | 0,_=>.h
 | k+1,n=>if n=0 then .h else if n % 2=1 then .o (V3 k ((n-1) / 2))else .i (V3 k ((n-2) / 2))
def P.nat(n:Nat):P:=P.V3 n n
theorem wX:∀(k n:Nat),n≤k→(P.V3 k n).toNat=n
 | 0,n,hn=>by simp [P.V3,P.toNat];omega
 | k+1,n,hn=>by
  unfold P.V3;split
  ·simp [P.toNat, *]
  ·split
   ·simp [P.toNat];rw [wX k _ (by omega)];omega
   ·simp [P.toNat];rw [wX k _ (by omega)];omega
theorem F7(n:Nat):(P.nat n).toNat=n:=wX n n (ax n)
theorem nat_ne{a b:Nat}(hab:a≠b):P.nat a≠P.nat b:=fun e=>hab (by rw [←F7 a,←F7 b,e])
theorem T.kE(v:V):∀(p:P) (t:T),(t.set p v).get p=v
 | .h,.e=>rfl
 | .h,.n _ _ _=>rfl
 | .o p,.e=>T.kE v p .e
 | .o p,.n l _ _=>T.kE v p l
 | .i p,.e=>T.kE v p .e
 | .i p,.n _ _ r=>T.kE v p r
theorem T.nU(v:V):∀(p q:P) (t:T),p≠q→(t.set p v).get q=t.get q
 | .h,.h,_,h=>absurd rfl h
 | .h,.o q,.e,_=>by cases q<;>rfl
 | .h,.i q,.e,_=>by cases q<;>rfl
 | .h,.o _,.n _ _ _,_=>rfl
 | .h,.i _,.n _ _ _,_=>rfl
 | .o _,.h,.e,_=>rfl
 | .o _,.h,.n _ _ _,_=>rfl
 | .i _,.h,.e,_=>rfl
 | .i _,.h,.n _ _ _,_=>rfl
 | .o p,.o q,.e,h=>by
  show(T.set .e p v).get q=_
  rw [T.nU v p q .e (fun e=>h (by rw [e]))]
  cases q<;>rfl
 | .o p,.o q,.n l _ _,h=>T.nU v p q l (fun e=>h (by rw [e]))
 | .o p,.i q,.e,h=>by
  show T.get .e q=_
  cases q<;>rfl
 | .o _,.i _,.n _ _ _,_=>rfl
 | .i p,.o q,.e,h=>by
  show T.get .e q=_
  cases q<;>rfl
 | .i _,.o _,.n _ _ _,_=>rfl
 | .i p,.i q,.e,h=>by
  show(T.set .e p v).get q=_
  rw [T.nU v p q .e (fun e=>h (by rw [e]))]
  cases q<;>rfl
 | .i p,.i q,.n _ _ r,h=>T.nU v p q r (fun e=>h (by rw [e]))
def T.g(t:T)(n:Nat):V:=t.get (P.nat n)
def T.s(t:T)(n:Nat)(v:V):T:=t.set (P.nat n) v
@[simp] theorem T.g_s (t:T) (n m:Nat) (v:V):(t.s n v).g m=if n=m then v else t.g m:=by
 unfold T.g T.s;split
 ·rename_i h;subst h;exact T.kE v _ t
 ·rename_i h;exact T.nU v _ _ t (nat_ne h)
def R(n:Nat):Arg:=.r (P.nat n)
def D(n:Nat):Option P:=some (P.nat n)
def G(n:Nat)(w:Bool):Option (P × Bool):=some (P.nat n,w)
abbrev vi(n:Int):V:=.c (.f (.int .i64 n))
abbrev vb(b:Bool):V:=.c (.f (.bool b))
abbrev fi(n:Int):FC:=.int .i64 n
@[simp] theorem a0Z (t:T) (n:Nat):(R n).ev t=t.g n:=rfl
@[simp] theorem a9d (t:T) (v:V):(Arg.k v).ev t=v:=rfl
@[simp] theorem a4r (t:T) (n:Nat) (v:V):nM t (D n) v=t.s n v:=rfl
@[simp] theorem aVg (t:T) (v:V):nM t none v=t:=rfl
@[simp] theorem aH6 (t:T) (n:Nat):t.get (P.nat n)=t.g n:=rfl
@[simp] theorem aO4 (n:Nat) (ps:List P) (v:V) (vs:List V) (t:T):dJ (P.nat n::ps) (v::vs) t=dJ ps vs (t.s n v):=rfl
@[simp] theorem aPO (vs:List V) (t:T):dJ [] vs t=t:=rfl
@[simp] theorem aO0 (t:T):wanted t none=some true:=rfl
@[simp] theorem aVP (t:T) (n:Nat) (w:Bool):wanted t (G n w)=match t.g n with
  | .c (.f (.bool b))=>some (b == w)
  | .t []=>some false
  | _=>none:=rfl
attribute [simp] fC
def KO(o:Option (V × Heap))(t:T)(ds:List gI)(K:V→St→Prop):Prop:=∃ p,o=some p∧K p.1 ⟨t,ds,p.2⟩
@[simp] theorem a1S (v:V) (H:Heap) (t:T) (ds:List gI) (K:V→St→Prop):KO (some (v,H)) t ds K↔K v ⟨t,ds,H⟩:=⟨fun⟨_,h,k⟩=>by cases h;exact k,fun k=>⟨_,rfl,k⟩⟩
def KP(P:V→Prop)(t:T)(ds:List gI)(H:Heap)(K:V→St→Prop):Prop:=∃ x,P x∧K x ⟨t,ds,H⟩
@[simp] theorem a04 (x:V) (t:T) (ds:List gI) (H:Heap) (K:V→St→Prop):KP (Eq x) t ds H K↔K x ⟨t,ds,H⟩:=⟨fun⟨_,h,k⟩=>by cases h;exact k,fun k=>⟨x,rfl,k⟩⟩
def E2(x:V)(H:Heap)(y:V)(H':Heap):Prop:=x=y∧H=H'
def KE(P:V→Heap→Prop)(t:T)(ds:List gI)(K:V→St→Prop):Prop:=∃ x H,P x H∧K x ⟨t,ds,H⟩
@[simp] theorem a7p (x:V) (H:Heap) (t:T) (ds:List gI) (K:V→St→Prop):KE (E2 x H) t ds K↔K x ⟨t,ds,H⟩:=⟨fun⟨_,_,⟨h1,h2⟩,k⟩=>by cases h1;cases h2;exact k,fun k=>⟨x,H,⟨rfl,rfl⟩,k⟩⟩
section
variable(tab:Nat→Option AFunc)
def KC(fs:Option (List V))(f:Nat)(t:T)(ds:List gI)(H:Heap)(K:V→St→Prop):Prop:=∃ a,fs=some a∧KP (Pure tab f a) t ds H K
def KD(c:Option (Callee × List V))(t:T)(ds:List gI)(H:Heap)(K:V→St→Prop):Prop:=∃ a,c=some a∧KE (Ev tab a.1 a.2 H) t ds K
def KS(os:List AOper)(L:St→Prop)(s:St):Prop:=OPS tab os s L
def FS(s:St)(K:St→Prop):Prop:=K s
def KV(o:Option P)(os:List AOper)(L:St→Prop)(v:V)(s:St):Prop:=FS ⟨nM s.regs o v,s.defs,s.heap⟩ (KS tab os L)
def GRD(w:Option Bool)(op:AOp)(o:Option P)(os:List AOper)(L:St→Prop)(s:St):Prop:=
 match w with
 | some true=>ONE tab s op (KV tab o os L)
 | some false=>FS ⟨nM s.regs o (.t []),s.defs,s.heap⟩ (KS tab os L)
 | none=>False
end
section
variable{tab:Nat→Option AFunc}{t:T}{ds:List gI}{H:Heap}{K:V→St→Prop}{L:St→Prop}
@[simp] theorem aID (a:List V) (f:Nat):KC tab (some a) f t ds H K↔KP (Pure tab f a) t ds H K:=⟨fun⟨_,h,k⟩=>by cases h;exact k,fun k=>⟨_,rfl,k⟩⟩
@[simp] theorem a1T (c:Callee) (a:List V):KD tab (some (c,a)) t ds H K↔KE (Ev tab c a H) t ds K:=⟨fun⟨_,h,k⟩=>by cases h;exact k,fun k=>⟨_,rfl,k⟩⟩
@[simp] theorem a8c (s:St) (K:St→Prop):FS s K↔K s:=Iff.rfl
@[simp ↓] theorem a7o (os:List AOper) (s:St):KS tab os L s↔OPS tab os s L:=Iff.rfl
@[simp ↓] theorem a7n (o:Option P) (os:List AOper) (v:V):KV tab o os L v ⟨t,ds,H⟩↔FS ⟨nM t o v,ds,H⟩ (KS tab os L):=Iff.rfl
@[simp ↓] theorem a7q (op:AOp) (o:Option P) (os:List AOper) (s:St):GRD tab (some true) op o os L s↔ONE tab s op (KV tab o os L):=Iff.rfl
@[simp ↓] theorem a7r (op:AOp) (o:Option P) (os:List AOper):GRD tab (some false) op o os L ⟨t,ds,H⟩↔FS ⟨nM t o (.t []),ds,H⟩ (KS tab os L):=Iff.rfl
@[simp ↓] theorem a1Q (s:St):OPS tab [] s L↔L s:=Iff.rfl
@[simp ↓] theorem a02 (o:Option P) (op:AOp) (os:List AOper):OPS tab (⟨o,op,none⟩::os) ⟨t,ds,H⟩ L↔ONE tab ⟨t,ds,H⟩ op (KV tab o os L):=Iff.rfl
@[simp ↓] theorem aVC (o:Option P) (op:AOp) (n:Nat) (w:Bool) (os:List AOper) :
  OPS tab (⟨o,op,G n w⟩::os) ⟨t,ds,H⟩ L↔GRD tab (wanted t (G n w)) op o os L ⟨t,ds,H⟩:=by
 simp only [OPS];rcases hw:wanted t (G n w)with _ | _ | _<;>exact Iff.rfl
def AOp.plain:AOp→Bool
 | .call _ _ _ | .bY _ _ _ | .recover | .defer _ _=>false
 | _=>true
theorem dA{op:AOp}(h:op.plain=true):ONE tab ⟨t,ds,H⟩ op K↔KO (xOp t H op) t ds K:=by
 have:ONE tab ⟨t,ds,H⟩ op K↔∃ v H',xOp t H op=some (v,H')∧K v ⟨t,ds,H'⟩:=by
  cases op<;>first | exact Iff.rfl | simp [AOp.plain]at h
 rw [this];exact⟨fun⟨v,H',h,k⟩=>⟨(v,H'),h,k⟩,fun⟨p,h,k⟩=>⟨p.1,p.2,h,k⟩⟩
@[simp ↓] theorem a1q (x:Arg):ONE tab ⟨t,ds,H⟩ (.mov x) K↔KO (xOp t H (.mov x)) t ds K:=dA rfl
@[simp ↓] theorem aXP (c a b:Arg):ONE tab ⟨t,ds,H⟩ (.pick c a b) K↔KO (xOp t H (.pick c a b)) t ds K:=dA rfl
@[simp ↓] theorem aVp (zs:List FC):ONE tab ⟨t,ds,H⟩ (.alloc zs) K↔KO (xOp t H (.alloc zs)) t ds K:=dA rfl
@[simp ↓] theorem a1t (x:Arg):ONE tab ⟨t,ds,H⟩ (.box x) K↔KO (xOp t H (.box x)) t ds K:=dA rfl
@[simp ↓] theorem aVo (zs:List FC) (parts:List (Nat × Nat × Arg)):ONE tab ⟨t,ds,H⟩ (.build zs parts) K↔KO (xOp t H (.build zs parts)) t ds K:=dA rfl
@[simp ↓] theorem aSw (sz:Nat) (zs:List FC) (len:Nat) (parts:List (Nat × Arg)):ONE tab ⟨t,ds,H⟩ (.aV sz zs len parts) K↔KO (xOp t H (.aV sz zs len parts)) t ds K:=dA rfl
@[simp ↓] theorem aXS (n:Option Nat) (x:Arg):ONE tab ⟨t,ds,H⟩ (.load n x) K↔KO (xOp t H (.load n x)) t ds K:=dA rfl
@[simp ↓] theorem aVh (n:Nat) (x y:Arg):ONE tab ⟨t,ds,H⟩ (.store n x y) K↔KO (xOp t H (.store n x y)) t ds K:=dA rfl
@[simp ↓] theorem aSs (x:Arg):ONE tab ⟨t,ds,H⟩ (.bF x) K↔KO (xOp t H (.bF x)) t ds K:=dA rfl
@[simp ↓] theorem a1u (op:BinOp) (x y:Arg):ONE tab ⟨t,ds,H⟩ (.bin op x y) K↔KO (xOp t H (.bin op x y)) t ds K:=dA rfl
@[simp ↓] theorem a5p (neg:Bool) (k:EqK) (x y:Arg):ONE tab ⟨t,ds,H⟩ (.eq neg k x y) K↔KO (xOp t H (.eq neg k x y)) t ds K:=dA rfl
@[simp ↓] theorem a5o (op:UnOp) (x:Arg):ONE tab ⟨t,ds,H⟩ (.un op x) K↔KO (xOp t H (.un op x)) t ds K:=dA rfl
@[simp ↓] theorem a1s (k:IntKind) (x:Arg):ONE tab ⟨t,ds,H⟩ (.cvi k x) K↔KO (xOp t H (.cvi k x)) t ds K:=dA rfl
@[simp ↓] theorem aXQ (f:Nat) (caps:List Arg):ONE tab ⟨t,ds,H⟩ (.pV f caps) K↔KO (xOp t H (.pV f caps)) t ds K:=dA rfl
@[simp ↓] theorem aVj:ONE tab ⟨t,ds,H⟩ .oG K↔KO (xOp t H .oG) t ds K:=dA rfl
@[simp ↓] theorem aSt (ck:CK) (zero:FC) (m k:Arg):ONE tab ⟨t,ds,H⟩ (.lookup ck zero m k) K↔KO (xOp t H (.lookup ck zero m k)) t ds K:=dA rfl
@[simp ↓] theorem aVk (ck:CK) (m k v:Arg):ONE tab ⟨t,ds,H⟩ (.oH ck m k v) K↔KO (xOp t H (.oH ck m k v)) t ds K:=dA rfl
@[simp ↓] theorem aPb (sz bytes:Nat) (zs:List FC) (l c:Arg):ONE tab ⟨t,ds,H⟩ (.dS sz bytes zs l c) K↔KO (xOp t H (.dS sz bytes zs l c)) t ds K:=dA rfl
@[simp ↓] theorem aVi (sz:Nat) (x:Arg) (lo hi mx:Option Arg):ONE tab ⟨t,ds,H⟩ (.slice sz x lo hi mx) K↔KO (xOp t H (.slice sz x lo hi mx)) t ds K:=dA rfl
@[simp ↓] theorem aSv (off:Nat) (x:Arg):ONE tab ⟨t,ds,H⟩ (.ay off x) K↔KO (xOp t H (.ay off x)) t ds K:=dA rfl
@[simp ↓] theorem aVl (off:Nat) (n:Option Nat) (x:Arg):ONE tab ⟨t,ds,H⟩ (.field off n x) K↔KO (xOp t H (.field off n x)) t ds K:=dA rfl
@[simp ↓] theorem aSu (sz:Nat) (arr:Option Nat) (x i:Arg):ONE tab ⟨t,ds,H⟩ (.aU sz arr x i) K↔KO (xOp t H (.aU sz arr x i)) t ds K:=dA rfl
@[simp ↓] theorem aXU (len sz:Nat) (n:Option Nat) (x i:Arg):ONE tab ⟨t,ds,H⟩ (.wZ len sz n x i) K↔KO (xOp t H (.wZ len sz n x i)) t ds K:=dA rfl
@[simp ↓] theorem aPc (x:Arg) (i:Nat):ONE tab ⟨t,ds,H⟩ (.extract x i) K↔KO (xOp t H (.extract x i)) t ds K:=dA rfl
@[simp ↓] theorem a1r (x:Arg):ONE tab ⟨t,ds,H⟩ (.len x) K↔KO (xOp t H (.len x)) t ds K:=dA rfl
@[simp ↓] theorem aXT (x:Arg):ONE tab ⟨t,ds,H⟩ (.lens x) K↔KO (xOp t H (.lens x)) t ds K:=dA rfl
@[simp ↓] theorem aSx (sz bytes:Nat) (x y:Arg):ONE tab ⟨t,ds,H⟩ (.append sz bytes x y) K↔KO (xOp t H (.append sz bytes x y)) t ds K:=dA rfl
@[simp ↓] theorem aXR (lo:Bool) (xs:List Arg):ONE tab ⟨t,ds,H⟩ (.uD lo xs) K↔KO (xOp t H (.uD lo xs)) t ds K:=dA rfl
@[simp ↓] theorem aXV (f:Nat) (args:List Arg):ONE tab ⟨t,ds,H⟩ (.call f args false) K ↔
  KC tab (aZ (dG deep H) (fC t args)) f t ds ((fC t args).foldl (mkV deep) H) K:=by
 simp only [ONE,KC,KP];constructor
 ·intro h;rw [if_neg (by simp)]at h;obtain⟨fs,r,h1,h2,h3⟩:=h;exact⟨fs,h1,r,h2,h3⟩
 ·rintro⟨fs,h1,r,h2,h3⟩;rw [if_neg (by simp)];exact⟨fs,r,h1,h2,h3⟩
@[simp ↓] theorem aVm (f:Nat) (args:List Arg):ONE tab ⟨t,ds,H⟩ (.call f args true) K↔KD tab (some (.fn f,fC t args)) t ds H K:=by simp [ONE,KD,KE]
@[simp ↓] theorem aVn (x:Arg) (args:List Arg) (h:Bool):ONE tab ⟨t,ds,H⟩ (.bY x args h) K↔KD tab (dh (x.ev t) (fC t args)) t ds H K:=by
 simp only [ONE,KD,KE];constructor
 ·rintro⟨c,as,r,H',h1,h2,h3⟩;exact⟨(c,as),h1,r,H',h2,h3⟩
 ·rintro⟨⟨c,as⟩,h1,r,H',h2,h3⟩;exact⟨c,as,r,H',h1,h2,h3⟩
end
def Rf:V→Option Bool
 | .c (.f (.bool b))=>some b
 | _=>none
@[simp] theorem aVA (b:Bool):Rf (.c (.f (.bool b)))=some b:=rfl
section
variable{t:T}{H:Heap}
@[simp] theorem a6V (x:Arg):xOp t H (.mov x)=some (x.ev t,H):=rfl
@[simp] theorem a6U (o:Os) (sz:Nat):xOp t H (.pre o sz)=if o=.loc∨sz=0 then none else some (.c (.sl H.length 0 0 0 0 sz),H++[.opn sz [] 0 0 o]):=rfl
@[simp] theorem a1W (c x y:Arg):xOp t H (.pick c x y)=(Rf (c.ev t)).map fun b=>(if b then x.ev t else y.ev t,H):=by
 simp only [xOp,Rf];split
 ·rename_i b h;simp only [h];cases b<;>rfl
 ·rename_i h;split
  ·rename_i b h';exact absurd h' (h b)
  ·rfl
@[simp] theorem a1k (zs:List FC):xOp t H (.alloc zs)=some (.c (.ptr H.length 0 0),H++[.box (zs.map .f) 0]):=rfl
@[simp] theorem a6X (x:Arg):xOp t H (.box x)=(x.ev t).cells?.map fun xs=>(.c (.ptr H.length 0 0),H++[.box xs 0]):=by
 simp only [xOp];cases (x.ev t).cells?<;>rfl
@[simp] theorem a1j (zs:List FC) (ps:List (Nat × Nat × Arg)):xOp t H (.build zs ps)=(fG t (zs.map .f) ps).map fun cs=>(.a cs,H):=rfl
@[simp] theorem aVM (sz:Nat) (zs:List FC) (n:Nat) (ps:List (Nat × Arg)):xOp t H (.aV sz zs n ps) =
  if n=0 then(if ps.isEmpty then some (.c (.f .es),H)else none)else
  (fG t ((dL n zs).map .f) (ps.map fun p=>(p.1*sz,sz,p.2))).map fun cs=>(.c (.sl H.length 0 n n 0 sz),H++[.box cs 0]):=rfl
@[simp] theorem a13 (n:Option Nat) (x:Arg):xOp t H (.load n x)=(ldV H n (x.ev t)).map (·,H):=rfl
def IB(H:Heap)(n:Nat)(x y:V):Option Heap:=
 match x,y.cells? with
 | .c p,some xs=>if xs.length=n then stC H p xs else none
 | _,_=>none
@[simp] theorem a1d (n:Nat) (x y:Arg):xOp t H (.store n x y)=(IB H n (x.ev t) (y.ev t)).map (.top,·):=by
 simp only [xOp,IB]
 cases x.ev t with
 | c p=>cases (y.ev t).cells? with
  | none=>rfl
  | some xs=>by_cases h:xs.length=n<;>simp [h]
 | _=>rfl
@[simp] theorem aVQ (n:Nat) (p:C) (y:V):IB H n (.c p) y=y.cells?.bind fun xs=>if xs.length=n then stC H p xs else none:=by
 simp only [IB];cases y.cells?<;>rfl
@[simp] theorem a6Y (op:BinOp) (x y:Arg):xOp t H (.bin op x y)=(bW op (x.ev t) (y.ev t)).map (·,H):=rfl
@[simp] theorem x_eq (neg:Bool) (k:EqK) (x y:Arg):xOp t H (.eq neg k x y)=(eqV H k (x.ev t) (y.ev t)).map fun b=>(vb (if neg then !b else b),H):=rfl
@[simp] theorem a8e (op:UnOp) (x:Arg):xOp t H (.un op x)=(unV op (x.ev t)).map (·,H):=rfl
def aTA(k:IntKind):V→Option V
 | .c (.f (.int _ n))=>some (.c (.f (.int k (k.wrap n))))
 | _=>none
@[simp] theorem a5W (k j:IntKind) (n:Int):aTA k (.c (.f (.int j n)))=some (.c (.f (.int k (k.wrap n)))):=rfl
@[simp] theorem a6W (k:IntKind) (x:Arg):xOp t H (.cvi k x)=(aTA k (x.ev t)).map (·,H):=by
 simp only [xOp,aTA];split
 ·rename_i h;simp only [h];rfl
 ·rename_i h;split
  ·rename_i h';exact absurd h' (h _ _)
  ·rfl
@[simp] theorem a1X (f:Nat) (caps:List Arg):xOp t H (.pV f caps)=(aZ Bo (fC t caps)).map fun xs=>(.c (.cl f xs),H):=rfl
@[simp] theorem a1Y (f:Nat) (caps:List Arg):xOp t H (.Fg f caps)=(aZ Bo (fC t caps)).map fun xs=>(.c (.bm f xs),H):=rfl
@[simp] theorem a1f (sz:Nat) (x:Arg) (lo hi mx:Option Arg):xOp t H (.slice sz x lo hi mx)=(jF H sz (x.ev t) (lo.map (·.ev t)) (hi.map (·.ev t)) (mx.map (·.ev t))).map (·,H):=rfl
@[simp] theorem aVK (sz:Nat) (zs:List FC) (n:Nat) (ps:List (Nat × Arg)):xOp t H (.kW sz zs n ps)=((fG t ((dL n zs).map .f) (ps.map fun p=>(p.1*sz,sz,p.2))).bind fun cs=>if n=0 then none else fcL cs).map fun fs=>(.c (.f (.fs fs n)),H):=rfl
@[simp] theorem a1V (sz:Nat) (x hi mx:Arg):xOp t H (.EW sz x hi mx)=KL H sz (x.ev t) (hi.ev t) (mx.ev t):=rfl
@[simp] theorem a1g (n sz:Nat) (x:Arg) (lo hi mx:Option Arg):xOp t H (.wG n sz x lo hi mx)=(oM H n sz (x.ev t) (lo.map (·.ev t)) (hi.map (·.ev t)) (mx.map (·.ev t))).map (·,H):=rfl
@[simp] theorem a1e (x:Arg) (lo hi:Option Arg):xOp t H (.xK x lo hi)=(CS (x.ev t) (lo.map (·.ev t)) (hi.map (·.ev t))).map (·,H):=rfl
@[simp] theorem aVL (o:Nat) (x:Arg):xOp t H (.ay o x)=(mX o (x.ev t)).map (·,H):=rfl
@[simp] theorem a1h (o:Nat) (n:Option Nat) (x:Arg):xOp t H (.field o n x)=(uK o n (x.ev t)).map (·,H):=rfl
@[simp] theorem aVJ (sz:Nat) (arr:Option Nat) (x i:Arg):xOp t H (.aU sz arr x i)=(aP H sz arr (x.ev t) (i.ev t)).map (·,H):=rfl
@[simp] theorem a2a (x i:Arg):xOp t H (.idxs x i)=(MN (x.ev t) (i.ev t)).map (·,H):=rfl
@[simp] theorem a2b (len sz:Nat) (n:Option Nat) (x i:Arg):xOp t H (.wZ len sz n x i)=(nT len sz n (x.ev t) (i.ev t)).map (·,H):=rfl
def cOf:V→Option C
 | .c x=>some x
 | _=>none
@[simp] theorem a7k (x:C):cOf (.c x)=some x:=rfl
@[simp] theorem x_len (x:Arg):xOp t H (.len x)=((cOf (x.ev t)).bind (bQ H)).map fun n=>(vi (n:Nat),H):=by
 simp only [xOp,cOf]
 cases x.ev t with
 | c y=>simp only [bE];cases bQ H y<;>rfl
 | _=>rfl
def strOf:V→Option ByteArray
 | .c (.f (.str s))=>some s
 | _=>none
@[simp] theorem a1n (s:ByteArray):strOf (.c (.f (.str s)))=some s:=rfl
@[simp] theorem a14 (x:Arg):xOp t H (.lens x)=(strOf (x.ev t)).map fun s=>(vi (s.size:Nat),H):=by
 simp only [xOp,strOf];split
 ·rename_i h;simp only [h];rfl
 ·rename_i h;split
  ·rename_i h';exact absurd h' (h _)
  ·rfl
@[simp] theorem a15 (n:Nat):xOp t H (.DC n)=some (vi (n:Nat),H):=rfl
@[simp] theorem aVN (sz bytes:Nat) (x y:Arg):xOp t H (.append sz bytes x y)=dI H sz bytes (x.ev t) (y.ev t):=rfl
@[simp] theorem a2c (sz:Nat) (x y:Arg):xOp t H (.copy sz x y)=copyV H sz (x.ev t) (y.ev t):=rfl
@[simp] theorem a1Z (lo:Bool) (xs:List Arg):xOp t H (.uD lo xs)=(V8 lo (fC t xs)).map (·,H):=rfl
def tOf:V→Option (List V)
 | .t vs=>some vs
 | _=>none
@[simp] theorem a7a (vs:List V):tOf (.t vs)=some vs:=rfl
@[simp] theorem aVe (x:Arg) (i:Nat):xOp t H (.extract x i)=(tOf (x.ev t)).bind fun vs=>vs[i]?.map (·,H):=by
 simp only [xOp,tOf];split
 ·rename_i h;simp only [h];rfl
 ·rename_i h;split
  ·rename_i h';exact absurd h' (h _)
  ·rfl
def BL:V→Option V
 | .c (.ptr b o e)=>some (.c (.ptr b o e))
 | .c (.f (.fp cs o))=>some (.c (.f (.fp cs o)))
 | _=>none
@[simp] theorem aSC (b o e:Nat):BL (.c (.ptr b o e))=some (.c (.ptr b o e)):=rfl
@[simp] theorem aVq (cs:List FC) (o:Nat):BL (.c (.f (.fp cs o)))=some (.c (.f (.fp cs o))):=rfl
@[simp] theorem aVI (x:Arg):xOp t H (.bF x)=(BL (x.ev t)).map (·,H):=by
 simp only [xOp,BL];split
 ·rename_i h;simp only [h];rfl
 ·rename_i h;simp only [h];rfl
 ·rename_i h1 h2;split
  ·rename_i h;exact absurd h (h1 _ _ _)
  ·rename_i h;exact absurd h (h2 _ _)
  ·rfl
@[simp] theorem aVw (f:Nat) (caps:List FC) (args:List V):dh (.c (.f (.fn f caps))) args=some (.fn f,args++caps.map fun x=>.c (.f x)):=rfl
@[simp] theorem aVx (f:Nat) (caps:List C) (args:List V):dh (.c (.cl f caps)) args=some (.fn f,args++caps.map .c):=rfl
@[simp] theorem aVy (f:Nat) (first:List C) (args:List V):dh (.c (.bm f first)) args=some (.fn f,first.map .c++args):=rfl
end
section
variable{k:IntKind}{a b:Int}{H:Heap}
@[simp] theorem a1O:bW .add (.c (.f (.int k a))) (.c (.f (.int k b)))=some (.c (.f (.int k (k.wrap (a+b))))):=by simp [bW,qj,V.int]
@[simp] theorem a1G:bW .sub (.c (.f (.int k a))) (.c (.f (.int k b)))=some (.c (.f (.int k (k.wrap (a-b))))):=by simp [bW,qj,V.int]
@[simp] theorem a1I:bW .mul (.c (.f (.int k a))) (.c (.f (.int k b)))=some (.c (.f (.int k (k.wrap (a*b))))):=by simp [bW,qj,V.int]
theorem JD(h:b≠0):bW .quo (.c (.f (.int k a))) (.c (.f (.int k b)))=some (.c (.f (.int k (k.wrap (a.tdiv b))))):=by simp [bW,qj,V.int,h]
theorem vS(h:b≠0):bW .rem (.c (.f (.int k a))) (.c (.f (.int k b)))=some (.c (.f (.int k (a.tmod b)))):=by simp [bW,qj,V.int,h]
@[simp] theorem a1N:bW .eql (.c (.f (.int k a))) (.c (.f (.int k b)))=some (vb (decide (a=b))):=by simp [bW,qj,V.bool];rfl
@[simp] theorem a1H:bW .neq (.c (.f (.int k a))) (.c (.f (.int k b)))=some (vb (!decide (a=b))):=by simp [bW,qj,V.bool];rfl
@[simp] theorem a1J:bW .lss (.c (.f (.int k a))) (.c (.f (.int k b)))=some (vb (decide (a<b))):=by simp [bW,qj,V.bool]
@[simp] theorem a1K:bW .leq (.c (.f (.int k a))) (.c (.f (.int k b)))=some (vb (decide (a≤b))):=by simp [bW,qj,V.bool]
@[simp] theorem a1L:bW .gtr (.c (.f (.int k a))) (.c (.f (.int k b)))=some (vb (decide (b<a))):=by simp [bW,qj,V.bool]
@[simp] theorem a1M:bW .geq (.c (.f (.int k a))) (.c (.f (.int k b)))=some (vb (decide (b≤a))):=by simp [bW,qj,V.bool]
@[simp] theorem aZn {x y:Bool}:eqP .bool (.f (.bool x)) (.f (.bool y))=some (x == y):=rfl
@[simp] theorem a1A:eqP .int (.f (.int k a)) (.f (.int k b))=some (a == b):=by simp [eqP]
@[simp] theorem a1z {x y:ByteArray}:eqP .str (.f (.str x)) (.f (.str y))=some (x == y):=rfl
@[simp] theorem a1B:eqL [] [] []=some true:=rfl
@[simp] theorem aZo {q:CK} {qs:List CK} {x y:C} {xs ys:List C}:eqL (q::qs) (x::xs) (y::ys)=(eqP q x y).bind fun c=>(eqL qs xs ys).map fun d=>c&&d:=by
 simp only [eqL];cases eqP q x y<;>cases eqL qs xs ys<;>rfl
@[simp] theorem aZm {x y:Bool}:eqV H .bool (.c (.f (.bool x))) (.c (.f (.bool y)))=some (x == y):=rfl
@[simp] theorem a5V {ks:List CK} {xs ys:List C}:eqV H (.st ks) (.a xs) (.a ys)=eqL ks xs ys:=rfl
@[simp] theorem a2e {x:Bool}:unV .not (.c (.f (.bool x)))=some (vb (!x)):=rfl
@[simp] theorem aTv {o c o' ep:Nat}:mX o (.c (.ptr c o' ep))=some (.c (.ptr c (o'+o) ep)):=rfl
@[simp] theorem aVt {o o':Nat} {cs:List FC}:mX o (.c (.f (.fp cs o')))=some (.c (.f (.fp cs (o'+o)))):=rfl
@[simp] theorem a1D {x:C}:(V.c x).cells?=some [x]:=rfl
@[simp] theorem a1E {xs:List C}:(V.a xs).cells?=some xs:=rfl
@[simp] theorem a9h {n:Nat} {x:FC}:exC n H (.f x)=some x:=by cases n<;>rfl
@[simp] theorem a7h {n:Nat} {x:C}:dG n H (.c x)=(exC n H x).map fun y=>.c (.f y):=rfl
@[simp] theorem a7f {n f:Nat} {caps:List C}:exC (n+1) H (.cl f caps)=(aZ (exC n H) caps).map (.fn f):=rfl
@[simp] theorem a5T {n b o e:Nat}:exC (n+1) H (.ptr b o e)=match H[b]? with
  | some (.box cs _)=>(aZ (exC n H) cs).map (.fp · o)
  | _=>none:=rfl
theorem uM{n b o l c ep sz:Nat}:exC (n+1) H (.sl b o l c ep sz)=match H[b]? with
  | some (.box cs _)=>if o+l*sz≤cs.length then(aZ (exC n H) ((cs.drop o).take (l*sz))).map (.fs · l)else none
  | some (.opn s cs _ e .loc)=>if ep=e∧sz=s∧o+l*sz≤cs.length then(aZ (exC n H) ((cs.drop o).take (l*sz))).map (.fs · l)else none
  | some (.opn s _ _ e .nil)=>if ep=e∧sz=s then some .aC else none
  | some (.opn s _ _ e .es)=>if ep=e∧sz=s then some .es else none
  | _=>none:=rfl
theorem agI{n b o l c e sz:Nat}:mkC (n+1) (.sl b o l c e sz) H=match H[b]? with
  | some (.box cs fl)=>((cs.drop o).take (l*sz)).foldl (fun H x=>mkC n x H) (H.set b (.box cs (Nat.max fl (o+l*sz))))
  | some (.opn s cs fl e st)=>((cs.drop o).take (l*sz)).foldl (fun H x=>mkC n x H) (H.set b (.opn s cs (Nat.max fl (o+l*sz)) e st))
  | _=>H:=rfl
@[simp] theorem a9b {n:Nat} {x:C}:mkV n H (.c x)=mkC n x H:=rfl
@[simp] theorem a7g {n:Nat} {x:C}:exV n H (.c x)=(exC n H x).map fun y=>.c (.f y):=rfl
theorem zF{n:Nat}:∀(xs:List FC),aZ (exC n H) (xs.map .f)=some xs
 | []=>rfl
 | x::xs=>by simp [aZ,zF xs]
@[simp] theorem a7i {n:Nat} {xs:List C}:dG n H (.a xs)=(aZ (exC n H) xs).map fun ys=>.a (ys.map .f):=rfl
@[simp] theorem I8 {n:Nat} (xs:List FC):aZ (exC n H) (xs.map .f)=some xs:=zF xs
@[simp] theorem a9c {n:Nat} {xs:List C}:mkV n H (.a xs)=xs.foldl (fun H x=>mkC n x H) H:=rfl
@[simp] theorem Uz {n:Nat} {x:FC}:mkC n (.f x) H=H:=by cases n<;>rfl
@[simp] theorem aVs {n:Nat} (xs:List FC):(xs.map C.f).foldl (fun H x=>mkC n x H) H=H:=by
 induction xs with
 | nil=>rfl
 | cons x xs ih=>simp only [aM,cX];rw [Uz];exact ih
end
theorem wrapu8{n:Int}(h1:0≤n)(h2:n≤255):IntKind.wrap .u8 n=n:=by
 simp only [IntKind.wrap,IntKind.bits,IntKind.signed];simp;omega
theorem aHC{H:Heap}{sz n b o ep:Nat}{k:IntKind}{i:Int}(h0:0≤i)(h1:i<n):aP H sz (some n) (.c (.ptr b o ep)) (.c (.f (.int k i)))=some (.c (.ptr b (o+i.toNat*sz) ep)):=by
 simp [aP,fU,h0,h1]
theorem wrap64{n:Int}(h1:-9223372036854775808≤n)(h2:n≤9223372036854775807):IntKind.wrap .i64 n=n:=by
 simp only [IntKind.wrap,IntKind.bits,IntKind.signed];simp;omega
@[simp] theorem cast_eq (a b:Nat):((a:Int)=(b:Int))=(a=b):=propext Int.natCast_inj
@[simp] theorem aYq {α β:Type} (g:α→Option β):aZ g []=some []:=rfl
@[simp] theorem aVr {α β:Type} (g:α→Option β) (x:α) (xs:List α):aZ g (x::xs)=(g x).bind fun y=>(aZ g xs).map (y::·):=by
 simp only [aZ];cases g x<;>cases aZ g xs<;>simp
@[simp] theorem a1m (x:C) (xs:List C):aO none (x::xs)=some (.c x):=rfl
@[simp] theorem a1l (n:Nat) (xs:List C):aO (some n) xs=if n≤xs.length then some (.a (xs.take n))else none:=rfl
@[simp] theorem ak (H:Heap) (n:Option Nat) (b o ep:Nat):ldV H n (.c (.ptr b o ep))=match H[b]? with
  | some (.box cs _)=>aO n (cs.drop o)
  | some (.opn _ cs _ e .loc)=>if ep=e then aO n (cs.drop o)else none
  | _=>none:=by
 simp only [ldV,aF];split
 ·rename_i h;simp only [h];rfl
 ·rename_i h;simp only [h];split<;>rfl
 ·rename_i h1 h2;split
  ·rename_i h;exact absurd h (h1 _ _)
  ·rename_i h;exact absurd h (h2 _ _ _ _)
  ·rfl
@[simp] theorem bJ (H:Heap) (b o ep:Nat) (xs:List C):stC H (.ptr b o ep) xs=match H[b]? with
  | some (.box cs fl)=>if fl≤o∧o+xs.length≤cs.length then some (H.set b (.box (over cs o xs) fl))else none
  | some (.opn sz cs fl e .loc)=>if ep=e∧fl≤o∧o+xs.length≤cs.length then some (H.set b (.opn sz (over cs o xs) fl e .loc))else none
  | _=>none:=rfl
attribute [simp] over dL
@[simp] theorem aR9 (t:T) (cs:List C):fG t cs []=some cs:=rfl
@[simp] theorem aPa (t:T) (cs:List C) (o n:Nat) (x:Arg) (ps:List (Nat × Nat × Arg)):fG t cs ((o,n,x)::ps)=(x.ev t).cells?.bind fun xs=>if xs.length=n∧o+xs.length≤cs.length then fG t (over cs o xs) ps else none:=by
 simp only [fG];cases (x.ev t).cells?<;>rfl
@[simp] theorem a5Y (x:FC):Bo (.c (.f x))=some (.f x):=rfl
@[simp] theorem aZr (b o e:Nat):Bo (.c (.ptr b o e))=some (.ptr b o e):=rfl
@[simp] theorem a1F (b o l c e s:Nat):Bo (.c (.sl b o l c e s))=some (.sl b o l c e s):=rfl
def aPz:V→Option V
 | .t _=>none
 | v=>some v
@[simp] theorem a2f (x:C):aPz (.c x)=some (.c x):=rfl
@[simp] theorem a2g (x:List C):aPz (.a x)=some (.a x):=rfl
@[simp] theorem a1o (t:T) (H:Heap) (n:Nat):bT t H (.tmp (P.nat n))=aPz (t.g n):=by
 simp only [bT,aH6];cases t.g n<;>rfl
@[simp] theorem aV7 (t:T) (H:Heap) (n:Nat) (k:Option Nat):bT t H (.cell (P.nat n) k)=ldV H k (t.g n):=rfl
@[simp] theorem a1y {t:T} {H:Heap} {x:mZ} {r:V}:yT [x] r ⟨t,[],H⟩↔∃ r0,bT t H x=some r0∧exV deep H r0=some r:=by
 simp only [yT,results,true_and,aZ];cases bT t H x<;>simp
@[simp] theorem a1x {t:T} {H:Heap} {x y:mZ} {a b:V}:yT [x,y] (.t [a,b]) ⟨t,[],H⟩ ↔
  (∃ r0,bT t H x=some r0∧dG deep H r0=some a)∧∃ r0,bT t H y=some r0∧dG deep H r0=some b:=by
 simp only [yT,results,true_and,aZ]
 cases bT t H x with
 | none=>simp
 | some u=>cases bT t H y with
  | none=>simp
  | some w=>cases h1:dG deep H u<;>cases h2:dG deep H w<;>simp [exV,h1,h2]
inductive Tg where | nil | es | fs
 deriving DecidableEq
def Tg.fc:Tg→FC
 | .nil=>.aC
 | .es=>.es
 | .fs=>.fs [] 0
def sl(g:Tg)(rows:List (List FC)):FC:=if rows.isEmpty then g.fc else .fs rows.flatten rows.length
def Grid(sz:Nat)(rows:List (List FC)):Prop:=∀ r ∈ rows,r.length=sz
theorem jT{sz:Nat}:∀ {rows:List (List FC)},Grid sz rows→rows.flatten.length=rows.length*sz
 | [],_=>by simp
 | r::rows,h=>by
  have:=jT (rows:=rows) fun x hx=>h x (bA _ hx)
  simp only [b9,bp,b7,this,h r bh,cE,Nat.one_mul];omega
theorem GN{sz:Nat}:∀ {rows:List (List FC)} (j:Nat),Grid sz rows→rows.flatten.drop (j*sz)=(rows.drop j).flatten
 | rows,0,_=>by simp
 | [],j+1,_=>by simp
 | r::rows,j+1,h=>by
  have hr:=h r bh;have:=GN (rows:=rows) j fun x hx=>h x (bA _ hx)
  rw [b9,List.drop_succ_cons,←this,cE,Nat.one_mul,ey,hr];simp [hr,show j*sz+sz-sz=j*sz by omega]
theorem Grid.map{α:Type}{sz:Nat}{l:List α}{g:α→List FC}(h:∀ x,(g x).length=sz):Grid sz (l.map g):=fun r hr=>by
 obtain⟨x,_,rfl⟩:=cK.1 hr;exact h x
theorem D5{sz j k:Nat}{rows:List (List FC)}{row:List FC}(hg:Grid sz rows)(hj:rows[j]?=some row)(hk:k≤sz) :
  rows.flatten.drop (j*sz+k)=row.drop k++(rows.drop (j+1)).flatten:=by
 have hl:j<rows.length:=(ai.1 hj).1;have hr:row.length=sz:=hg row (aL hj);rw [←dp,GN j hg,bR hl,b9];have:rows[j]=row:=by simpa [ae hl]using hj
 rw [this,ey,show k-row.length=0 by omega]
 simp
variable{H:Heap}
theorem rG{sz j k:Nat}{rows:List (List FC)}{row:List FC}{x:FC}(hg:Grid sz rows)(hj:rows[j]?=some row)(hx:row[k]?=some x) :
  ldV H none (.c (.f (.fp rows.flatten (j*sz+k))))=some (.c (.f x)):=by
 have hr:row.length=sz:=hg row (aL hj);have hk:k<row.length:=(ai.1 hx).1;have e:=D5 (k:=k) hg hj (by omega)
 simp only [ldV,aF,bE,e];rw [bR hk];have:row[k]=x:=by simpa [ae hk]using hx
 simp [aO,this]
theorem aHo{sz j k n:Nat}{rows:List (List FC)}{row:List FC}(hg:Grid sz rows)(hj:rows[j]?=some row)(hk:k+n≤sz) :
  ldV H (some n) (.c (.f (.fp rows.flatten (j*sz+k))))=some (.a (((row.drop k).take n).map .f)):=by
 have hr:row.length=sz:=hg row (aL hj);have e:=D5 (k:=k) hg hj (by omega)
 simp only [ldV,aF,bE,e];simp only [aO];rw [if_pos (by simp only [cF,bp,cL];omega)]
 rw [cY,c9 (by simp only [cF,cL];omega),List.map_take]
theorem mM{sz j:Nat}{rows:List (List FC)}{row:List FC}(hg:Grid sz rows)(hj:rows[j]?=some row) :
  ldV H (some sz) (.c (.f (.fp rows.flatten (j*sz))))=some (.a (row.map .f)):=by
 have hr:row.length=sz:=hg row (aL hj);have:=aHo (H:=H) (k:=0) (n:=sz) hg hj (by omega)
 simp only [Nat.add_zero,List.drop_zero]at this;rw [this,bu (by omega)]
theorem mP{sz j:Nat}{rows:List (List FC)}{row:List FC}{x:FC}(hg:Grid sz rows)(hj:rows[j]?=some row)(hx:row[0]?=some x) :
  ldV H none (.c (.f (.fp rows.flatten (j*sz))))=some (.c (.f x)):=rG (k:=0) hg hj hx
theorem aHp{j:Nat}{l:List Int}{x:Int}(hj:l[j]?=some x) :
  ldV H none (.c (.f (.fp (l.map fun n=>[fi n]).flatten (j*1))))=some (vi x):=
 mP (row:=[fi x]) (Grid.map fun _=>rfl) (by rw [cP,hj];rfl) rfl
@[simp] theorem zG (g:Tg) (rows:List (List FC)):bQ H (.f (sl g rows))=some rows.length:=by
 cases rows with
 | nil=>cases g<;>rfl
 | cons r rows=>rfl
theorem iq{g:Tg}{rows:List (List FC)}{sz:Nat}{k:IntKind}{i:Int}(h0:0≤i)(h1:i<rows.length) :
  aP H sz none (.c (.f (sl g rows))) (.c (.f (.int k i)))=some (.c (.f (.fp rows.flatten (i.toNat*sz)))):=by
 cases rows with
 | nil=>simp at h1;omega
 | cons r rows=>
  simp only [b7]at h1;simp [aP,fU,sl,h0];omega
theorem ahC{g:Tg}{rows:List (List FC)}{sz:Nat}(hg:Grid sz rows):dQ H sz (.f (sl g rows))=some (rows.flatten.map .f):=by
 cases rows with
 | nil=>cases g<;>simp [sl,Tg.fc,dQ]
 | cons r rows=>
  have:=jT hg;simp only [sl,ei,aE,if_false,dQ,this,if_true]
end
section
open Go
def Kf(tab:Nat→Option AFunc)(f:Nat)(args:List V)(r:V):Prop:=∀ H,∃ J,Ev tab (.fn f) args H r (H++J)
section
variable{tab:Nat→Option AFunc}{f:Nat}{args:List V}{r:V}
theorem Kf.pure{x:FC}(h:Kf tab f args (.c (.f x))):Pure tab f args (.c (.f x)):=by
 obtain⟨J,h⟩:=h [];exact⟨_,_,h,by simp⟩
theorem Kf.eq{x:FC}(h:Kf tab f args (.c (.f x))):Pure tab f args=Eq (.c (.f x)):=
 funext fun r=>propext ⟨fun k=>h.pure.det k,fun e=>e▸h.pure⟩
theorem Pure.eq{r:V}(h:Pure tab f args r):Pure tab f args=Eq r:=funext fun _=>propext ⟨fun k=>h.det k,fun e=>e▸h⟩
noncomputable def junk (tab:Nat→Option AFunc) (f:Nat) (args:List V) (H:Heap):Heap:=Classical.epsilon fun J=>∃ r,Ev tab (.fn f) args H r (H++J)
theorem Kf.ev(h:Kf tab f args r)(H:Heap):Ev tab (.fn f) args H=E2 r (H++junk tab f args H):=by
 have hj:∃ J,∃ r,Ev tab (.fn f) args H r (H++J):=by obtain⟨J,hJ⟩:=h H;exact⟨J,r,hJ⟩
 have hs:∃ r,Ev tab (.fn f) args H r (H++junk tab f args H):=Classical.epsilon_spec hj;obtain⟨J,hJ⟩:=h H;obtain⟨r',hr⟩:=hs;obtain⟨rfl,e⟩:=hJ.det hr
 funext x H'
 exact propext ⟨fun k=>hr.det k,fun⟨e1,e2⟩=>e1▸e2▸hr⟩
theorem Ev.eq{c:Callee}{H H':Heap}(h:Ev tab c args H r H'):Ev tab c args H=E2 r H':=funext fun _=>funext fun _=>propext ⟨fun k=>h.det k,fun⟨e1,e2⟩=>e1▸e2▸h⟩
def aIE(res:List mZ)(r:V)(H:Heap)(s:St):Prop:=s.defs=[]∧results s.regs s.heap res=some r∧∃ J,s.heap=H++J
theorem yw{ps:List P}{res:List mZ}{body:ACode}(ht:tab f=some ⟨ps,res,body⟩)(hl:args.length=ps.length)
  (h:∀(H:Heap) (Q:Option ACode→St→Prop),(∀ j s,aIE res r H s→Q j s)→WP tab f none [.code body] ⟨dJ ps args .e,[],H⟩ Q):Kf tab f args r:=by
 intro H;have h':=h H (fun _ s=>aIE res r H s) fun _ _ h=>h
 obtain⟨n,m,d,j,s,h1,hd,h2,J,h3⟩:=h';exact⟨J,GK ht hl ⟨n,m,d,j,s,h1,0,0,s.heap,by rw [hd];rfl,by rw [h2],h3⟩⟩
@[simp] theorem aZi {t:T} {H H':Heap} {x:mZ}:aIE [x] r H ⟨t,[],H'⟩↔bT t H' x=some r∧∃ J,H'=H++J:=by
 simp only [aIE,results,true_and,aZ];cases bT t H' x<;>simp
theorem iG{m d:Nat}{x:FC}(h:(CF tab m d (.fn f) args []).map (·.1)=some (.c (.f x))):Pure tab f args (.c (.f x)):=by
 rw [aq]at h;obtain⟨⟨r,H'⟩,h1,h2⟩:=h;exact⟨r,H',⟨m,d,h1⟩,by rw [show r=.c (.f x) from h2];simp⟩
theorem aQ{m d:Nat}{x:V}(h:((CF tab m d (.fn f) args []).bind fun p=>exV deep p.2 p.1)=some x):Pure tab f args x:=by
 rw [bB]at h;obtain⟨⟨r,H'⟩,h1,h2⟩:=h;exact⟨r,H',⟨m,d,h1⟩,h2⟩
theorem EX{b:Bool}(h:∃ m d H',iE tab nP m d (.fn f) [] []=some (.c (.f (.bool b)),H')):Pure tab f [] (vb b):=by
 obtain⟨m,d,H',h⟩:=h;exact⟨_,H',⟨m,d,h⟩,by simp⟩
theorem dN{S:V→Prop}{ps:List P}{res:List mZ}{body:ACode}(ht:tab f=some ⟨ps,res,body⟩)(hl:args.length=ps.length)
  (h:∀ Q:Option ACode→St→Prop,(∀ j s r,S r→yT res r s→Q j s)→WP tab f none [.code body] ⟨dJ ps args .e,[],[]⟩ Q):∃ r,S r∧Pure tab f args r:=by
 have h':=h (fun _ s=>∃ r,S r∧yT res r s) fun _ _ r h1 h2=>⟨r,h1,h2⟩
 obtain⟨n,m,d,j,s,h1,r,hr,hd,r0,h2,h3⟩:=h';exact⟨r,hr,r0,s.heap,GK ht hl ⟨n,m,d,j,s,h1,0,0,s.heap,by rw [hd];rfl,h2,rfl⟩,h3⟩
variable{fn i:Nat}{ro:Option Nat}{k:List AItem}{ds:List gI}{Q:Option ACode→St→Prop}
def WJ(a x:Nat):ACode:=.region [⟨D x,.bin .add (R a) (.k (.c (.f (.int .i64 1)))),none⟩,⟨D a,.mov (R x),none⟩] []
def zx(i a b c x:Nat)(body:ACode):ACode:=.seq (.region [⟨D c,.bin .lss (R a) (R b),none⟩] []) (.seq (.cond (R c) .skip (.exit i)) (.seq body (WJ a x)))
def UU(i a b c x:Nat)(body:ACode):ACode:=.block i (.loop (zx i a b c x body))
theorem kV{a b c x:Nat}{body:ACode}{t:T}{H:Heap}(N:Nat)(I:Nat→T→Heap→Prop)(hN:N≤9223372036854775807)(hab:a≠b)(hxb:x≠b)
  (ha:t.g a=vi 0) (hb:t.g b=vi N) (h0:I 0 t H)
  (step:∀ j t H,j<N→I j t H→t.g a=vi j→t.g b=vi N →
   (∀ t' H',I (j+1) ((t'.s x (vi (j+1:Nat))).s a (vi (j+1:Nat))) H'→t'.g a=vi j→t'.g b=vi N →
    WP tab fn ro (.code (WJ a x)::.inLoop (zx i a b c x body)::.inBlock i::k) ⟨t',ds,H'⟩ Q) →
   WP tab fn ro (.code body::.code (WJ a x)::.inLoop (zx i a b c x body)::.inBlock i::k) ⟨t.s c (vb true),ds,H⟩ Q)
  (done:∀ t H,I N t H→t.g a=vi N→t.g b=vi N→WP tab fn ro k ⟨t.s c (vb false),ds,H⟩ Q) :
  WP tab fn ro (.code (UU i a b c x body)::k) ⟨t,ds,H⟩ Q:=by
 have hro:∀ ops:List AOper,ops.all (·.op.iy)=true→ro=none∨ops.all (·.op.iy)=true:=fun _ h=>.inr h
 refine aB ?_;refine bM (fun n s=>∃ j t H,s=⟨t,ds,H⟩∧j≤N∧n=N-j∧I j t H∧t.g a=vi j∧t.g b=vi N) N ⟨0,t,H,rfl,by omega,by omega,h0,ha,hb⟩ ?_
 rintro n s ⟨j,t,H,rfl,hj,rfl,hI,ha,hb⟩ ih;refine kw_seq ?_;refine kw_region (hro _ rfl) ?_;simp [ha,hb];by_cases hlt:j<N
 ·rw [decide_eq_true hlt];refine kw_seq ?_;refine aj (by simp) ?_
  refine aG ?_;refine kw_seq ?_;refine step j t H hlt hI ha hb fun t' H' hI' ha' hb'=>?_
  refine kw_region (hro _ rfl) ?_;simp [ha'];rw [wrap64 (by omega) (by omega)]
  refine ih (N-(j+1)) _ (by omega) ⟨j+1,_,H',rfl,by omega,rfl,by simpa using hI',by simp,?_⟩
  simp [hab,hxb,hb']
 ·have:j=N:=by omega
  subst this;rw [decide_eq_false hlt];refine kw_seq ?_;refine ah (by simp) ?_
  refine bC (k':=k) (by simp [exitTo]) ?_
  exact done t H hI ha hb
def UK(a x y:Nat):ACode:=.region [⟨D x,.mov (R a),none⟩,⟨D y,.bin .add (R x) (.k (.c (.f (.int .i64 1)))),none⟩,⟨D a,.mov (R y),none⟩] []
def BF(i a c x y:Nat)(hd:List AOper)(body:ACode):ACode:=.seq (.seq (.region hd []) (.cond (R c) .skip (.exit i))) (.seq body (UK a x y))
def ahB(i a c x y:Nat)(hd:List AOper)(body:ACode):ACode:=.block i (.loop (BF i a c x y hd body))
theorem dU{a c x y:Nat}{hd:List AOper}{body:ACode}{t:T}{H:Heap}(N:Nat)(I:Nat→T→Heap→Prop)(hN:N≤9223372036854775807)(hxy:hd.all (·.op.iy)=true)
  (ha:t.g a=vi 0) (h0:I 0 t H)
  (head:∀ j t H (L:St→Prop),j≤N→I j t H→t.g a=vi j→(∀ t',I j t' H→t'.g a=vi j→t'.g c=vb (decide ((j:Int)<(N:Int)))→L ⟨t',ds,H⟩)→OPS tab hd ⟨t,ds,H⟩ L)
  (step:∀ j t H,j<N→I j t H→t.g a=vi j →
   (∀ t' H',I (j+1) (((t'.s x (vi j)).s y (vi (j+1:Nat))).s a (vi (j+1:Nat))) H'→t'.g a=vi j →
    WP tab fn ro (.code (UK a x y)::.inLoop (BF i a c x y hd body)::.inBlock i::k) ⟨t',ds,H'⟩ Q) →
   WP tab fn ro (.code body::.code (UK a x y)::.inLoop (BF i a c x y hd body)::.inBlock i::k) ⟨t,ds,H⟩ Q)
  (done:∀ t H,I N t H→t.g a=vi N→WP tab fn ro k ⟨t,ds,H⟩ Q) :
  WP tab fn ro (.code (ahB i a c x y hd body)::k) ⟨t,ds,H⟩ Q:=by
 have hro:∀ ops:List AOper,ops.all (·.op.iy)=true→ro=none∨ops.all (·.op.iy)=true:=fun _ h=>.inr h
 refine aB ?_;refine bM (fun n s=>∃ j t H,s=⟨t,ds,H⟩∧j≤N∧n=N-j∧I j t H∧t.g a=vi j) N ⟨0,t,H,rfl,by omega,by omega,h0,ha⟩ ?_
 rintro n s ⟨j,t,H,rfl,hj,rfl,hI,ha⟩ ih;refine kw_seq ?_;refine kw_seq ?_;refine kw_region (hro _ hxy) ?_;refine head j t H _ hj hI ha fun t' hI ha hc=>?_
 by_cases hlt:j<N
 ·rw [decide_eq_true (by omega)]at hc
  refine aj hc ?_;refine aG ?_;refine kw_seq ?_;refine step j t' H hlt hI ha fun t' H' hI' ha'=>?_
  refine kw_region (hro _ rfl) ?_;simp [ha'];rw [wrap64 (by omega) (by omega)]
  exact ih (N-(j+1)) _ (by omega) ⟨j+1,_,H',rfl,by omega,rfl,by simpa using hI',by simp⟩
 ·have:j=N:=by omega
  subst this;rw [decide_eq_false (by omega)]at hc
  refine ah hc ?_;refine bC (k':=k) (by simp [exitTo]) ?_
  exact done t' H hI ha
end
end
section
open Go
def rP{α:Type}(l:List α)(p:α→Bool):Int:=match l.findIdx? p with | some j=>j | none=>-1
theorem WT{α:Type}(l:List α)(p:α→Bool):decide (0≤rP l p)=l.any p:=by
 unfold rP
 cases h:l.findIdx? p with
 | none=>
  rw [List.findIdx?_eq_none_iff]at h;have:l.any p=false:=by rw [List.any_eq_false];intro x hx;simp [h x hx]
  simp [this]
 | some j=>
  rw [ej]at h;obtain⟨hj,hp,_⟩:=h;have:l.any p=true:=by rw [List.any_eq_true];exact⟨l[j],aw hj,hp⟩
  simp [this]
theorem WU{α:Type}{l:List α}{p:α→Bool}{j:Nat}(hj:j<l.length)(hp:p l[j]=true)(hn:∀(i:Nat) (hi:i<j),p (l[i]'(by omega))=false):rP l p=j:=by
 have:l.findIdx? p=some j:=by
  rw [ej];exact⟨hj,hp,fun i hi=>by simp [hn i hi]⟩
 simp [rP,this]
theorem WS{α:Type}{l:List α}{p:α→Bool}(hn:∀(i:Nat) (hi:i<l.length),p l[i]=false):rP l p = -1:=by
 have:l.findIdx? p=none:=by
  rw [List.findIdx?_eq_none_iff];intro x hx;obtain⟨i,hi,rfl⟩:=List.getElem_of_mem hx;exact hn i hi
 simp [rP,this]
def ints(l:List Int):List (List FC):=l.map fun n=>[fi n]
@[simp] theorem MH (l:List Int):(ints l).length=l.length:=by simp [ints]
theorem jr(l:List Int):Grid 1 (ints l):=Grid.map fun _=>rfl
theorem rJ{j:Nat}{l:List Int}(hj:j<l.length){H:Heap}:ldV H none (.c (.f (.fp (ints l).flatten j)))=some (vi l[j]):=by
 have:=aHp (H:=H) (ae hj);simpa [ints]using this
variable{tab:Nat→Option AFunc}
def aHD(t:List AOper):ACode:=.block 1 (.seq (.region [⟨D 10,.mov (R 8),none⟩,⟨D 5,.mov (R 10),none⟩] []) (.seq
 (.region t []) (.cond (R 16) (.seq (.region [⟨D 17,.mov (R 5),none⟩,⟨D 4,.mov (R 17),none⟩] []) .ret) .skip)))
def aYL(t:List AOper):AFunc:=⟨[P.nat 0,P.nat 1],[.tmp (P.nat 4)],.seq (.region [⟨D 4,.mov (.k (.c (.f (.int .i64 0)))),none⟩] [])
 (.seq (.seq (.region [⟨D 6,.mov (R 0),none⟩,⟨D 7,.len (R 6),none⟩,⟨D 8,.mov (.k (.c (.f (.int .i64 0)))),none⟩] []) (UU 0 8 7 9 18 (aHD t)))
 (.seq (.region [⟨D 4,.mov (.k (.c (.f (.int .i64 (-1))))),none⟩] []) .ret))⟩
def aPk(sz:Nat)(ld:Option Nat):List AOper:=[⟨D 11,.mov (R 1),none⟩,⟨D 12,.mov (R 0),none⟩,⟨D 13,.mov (R 5),none⟩,⟨D 14,.aU sz none (R 12) (R 13),none⟩,⟨D 15,.load ld (R 14),none⟩,⟨D 16,.bY (R 11) [(R 15)] true,none⟩]
theorem aTa{f:Nat}{test:List AOper}(ht:tab f=some (aYL test)){x y:V}{α:Type}{l:List α}{p:α→Bool}(hl:l.length≤9223372036854775807)
  (hx:∃ c,x=.c c∧∀ H,bQ H c=some l.length)
  (aYR:∀(j:Nat) (hj:j<l.length) (t:T) (H:Heap) (L:St→Prop),t.g 0=x→t.g 1=y→t.g 5=vi j →
   (∀ t' J,t'.g 0=x→t'.g 1=y→t'.g 5=vi j→t'.g 7=t.g 7→t'.g 8=t.g 8→t'.g 16=vb (p l[j])→L ⟨t',[],H++J⟩)→OPS tab test ⟨t,[],H⟩ L) :
  Kf tab f [x,y] (vi (rP l p)):=by
 obtain⟨c,rfl,hc⟩:=hx;refine yw ht rfl fun H Q hQ=>?_
 refine kw_seq ?_;refine kw_region (.inl rfl) ?_;simp;refine kw_seq ?_;refine kw_seq ?_;refine kw_region (.inl rfl) ?_;simp [hc];refine kV l.length (fun j t H'=>t.g 0=.c c∧t.g 1=y∧(∃ J,H'=H++J)∧∀(i:Nat) (hi:i<l.length),i<j→p l[i]=false) hl (by decide) (by decide) (by simp) (by simp) (by simp) ?_ ?_
 ·rintro j t _ hj ⟨h0,h1,⟨J,rfl⟩,h2⟩ ha hb next;refine aB ?_;refine kw_seq ?_;refine kw_region (.inl rfl) ?_;simp [ha];refine kw_seq ?_;refine kw_region (.inl rfl) ?_;refine aYR j hj _ _ _ (by simp [h0]) (by simp [h1]) (by simp) fun t' J' g0 g1 g5 g7 g8 g16=>?_
  cases hv:p l[j]with
  | true=>
   refine aj (by simp [g16,hv]) ?_
   refine kw_seq ?_;refine kw_region (.inl rfl) ?_;simp [g5];refine aH (hQ _ _ ?_);have:=WU hj hv (fun i hi=>h2 i (by omega) hi)
   simp [this]
  | false=>
   refine ah (by simp [g16,hv]) ?_
   refine aG (au (next _ _ ?_ (by simp [g8,ha]) (by simp [g7,hb])))
   refine⟨by simp [g0],by simp [g1],⟨J++J',by simp⟩,fun i hi hij=>?_⟩
   by_cases e:i=j
   ·subst e;exact hv
   ·exact h2 i hi (by omega)
 ·rintro t _ ⟨h0,h1,⟨J,rfl⟩,h2⟩ ha hb;refine kw_seq ?_;refine kw_region (.inl rfl) ?_;simp;refine aH (hQ _ _ ?_);have:=WS (l:=l) (p:=p) (fun i hi=>h2 i hi hi)
  simp [this]
theorem WH{f sz:Nat}{ld:Option Nat}(ht:tab f=some (aYL (aPk sz ld))){α:Type}(l:List α)(enc:α→List FC)(val:α→V)(p:α→Bool)(g:Tg)(k:Nat)(caps:List FC)
  (hl:l.length≤9223372036854775807) (hload:∀(j:Nat) (hj:j<l.length) (H:Heap),ldV H ld (.c (.f (.fp (l.map enc).flatten (j*sz))))=some (val l[j]))
  (hp:∀ x ∈ l,Kf tab k (val x::caps.map fun c=>.c (.f c)) (vb (p x))) :
  Kf tab f [.c (.f (sl g (l.map enc))),.c (.f (.fn k caps))] (vi (rP l p)):=by
 refine aTa ht hl ⟨_,rfl,fun H=>by simp⟩ ?_
 intro j hj t H L h0 h1 h5 hL;have he:=(hp l[j] (aw hj)).ev H;have hi:=iq (H:=H) (g:=g) (rows:=l.map enc) (sz:=sz) (k:=.i64) (i:=(j:Int)) (by omega) (by simpa using hj)
 simp [aPk,h0,h1,h5,hi,hload j hj,he];exact hL _ _ (by simp [h0]) (by simp [h1]) (by simp [h5]) (by simp) (by simp) (by simp)
def Xb(f:Nat):AFunc:=⟨[P.nat 0,P.nat 1],[.tmp (P.nat 4)],.seq (.region [⟨D 4,.mov (.k (.c (.f (.bool false)))),none⟩] []) (.seq
 (.region [⟨D 5,.mov (R 0),none⟩,⟨D 6,.mov (R 1),none⟩,⟨D 7,.call f [(R 5),(R 6)] false,none⟩,⟨D 8,.bin .geq (R 7) (.k (.c (.f (.int .i64 0)))),none⟩,⟨D 4,.mov (R 8),none⟩] []) .ret)⟩
theorem MW{f k:Nat}(ht:tab f=some (Xb k)){a b:FC}{α:Type}{l:List α}{p:α→Bool}(h:Kf tab k [.c (.f a),.c (.f b)] (vi (rP l p))) :
  Kf tab f [.c (.f a),.c (.f b)] (vb (l.any p)):=by
 refine yw ht rfl fun H Q hQ=>?_
 refine kw_seq ?_;refine kw_region (.inl rfl) ?_;simp;refine kw_seq ?_;refine kw_region (.inl rfl) ?_;have he:=h.eq;simp [he];refine aH (hQ _ _ ?_);simp [WT]
end
section
open Go
theorem aA{H:Heap}{b:Nat}{x:Blk}(h:H[b]?=some x):b<H.length:=(ai.1 h).1
theorem lG{α β:Type}{g:α→Option β}:∀ {xs xs':List α} {ys ys':List β},aZ g xs=some ys→aZ g xs'=some ys'→aZ g (xs++xs')=some (ys++ys')
 | [],xs',ys,ys',h,h'=>by simp [aZ]at h;subst h;simpa using h'
 | x::xs,xs',ys,ys',h,h'=>by
  simp only [aZ,List.cons_append]at h ⊢
  cases hx:g x with
  | none=>simp [hx]at h
  | some y=>
   cases hxs:aZ g xs with
   | none=>simp [hx,hxs]at h
   | some zs=>simp [hx,hxs]at h;subst h;simp [lG hxs h']
variable{z:Bool}{H H':Heap}{sz bytes:Nat}{v y:V}{g:Tg}{rows:List (List FC)}{row:List FC}{cs:List C}
theorem vU{b fl c:Nat}(h:H[b]?=some (.box cs fl))(hc:cs.length=sz):fZ H sz (.c (.sl b 0 1 c 0 sz))=some (1,cs):=by
 simp [fZ,bQ,dQ,h,hc];rw [←hc,List.take_length]
end
section
open Go
def Kz(P:Program):List Field→Nat→Nat→Bool
 | [],o,n=>o == n
 | f::fs,o,n=>f.offset == o&&Kz P fs (o+P.cellsOf f.type) n
def jK(P:Program):Nat→TypeId→Bool
 | 0,_=>false
 | n+1,t=>match P.underlying t with
  | some .bool=>P.cellsOf t == 1
  | some (.int _)=>P.cellsOf t == 1
  | some .string=>P.cellsOf t == 1
  | some (.slice e)=>P.cellsOf t == 1&&P.cellsOf e != 0&&jK P n e
  | some (.struct fs)=>Kz P fs.toList 0 (P.cellsOf t)&&fs.toList.all fun f=>jK P n f.type
  | some (.array k e)=>P.cellsOf t == k*P.cellsOf e&&jK P n e
  | _=>false
def GY(S:TypeId→List FC→Prop):List TypeId→List FC→Prop
 | [],xs=>xs=[]
 | t::ts,xs=>∃ p q,xs=p++q∧S t p∧GY S ts q
def Shp(P:Program):Nat→TypeId→List FC→Prop
 | 0,_,_=>False
 | n+1,t,xs=>match P.underlying t with
  | some .bool=>∃ b,xs=[.bool b]
  | some (.int k)=>∃ m,xs=[.int k m]∧(Lit.int k m).wf=true
  | some .string=>∃ s,xs=[.str s]∧s.size≤maxLen
  | some (.slice e)=>∃ g rows,xs=[sl g rows]∧Grid (P.cellsOf e) rows∧rows.length≤maxLen∧∀ r ∈ rows,Shp P n e r
  | some (.struct fs)=>GY (Shp P n) (fs.toList.map (·.type)) xs
  | some (.array k e)=>∃ rows,xs=rows.flatten∧rows.length=k∧Grid (P.cellsOf e) rows∧∀ r ∈ rows,Shp P n e r
  | _=>False
theorem flat_get{α:Type}{sz:Nat}:∀ {rows:List (List α)} {j k:Nat} {row:List α},(∀ r ∈ rows,r.length=sz)→rows[j]?=some row→k<sz→rows.flatten[j*sz+k]?=row[k]?
 | [],j,k,row,_,hj,_=>by simp at hj
 | r::rows,0,k,row,hg,hj,hk=>by
  simp at hj;subst hj;have:=hg r bh;rw [b9,ag (by omega)]
  simp
 | r::rows,j+1,k,row,hg,hj,hk=>by
  have hr:=hg r bh;rw [b9,bj (by rw [hr,cE];omega)]
  have e:(j+1)*sz+k-r.length=j*sz+k:=by rw [hr,cE];omega
  rw [e];exact flat_get (rows:=rows) (fun x hx=>hg x (bA _ hx)) (by simpa using hj) hk
theorem MQ{α:Type}{sz:Nat}:∀ {rows:List (List α)},(∀ r ∈ rows,r.length=sz)→rows.flatten.length=rows.length*sz
 | [],_=>by simp
 | r::rows,h=>by
  have:=MQ (rows:=rows) fun x hx=>h x (bA _ hx)
  simp only [b9,bp,b7,this,h r bh,cE,Nat.one_mul];omega
def Ql(w:World):Nat→Nat→Prop:=fun c _=>c<w.heap.size
theorem cell_lt{w:World}{a:Addr}{v:Value}(h:w.cell? a=some v):a.block<w.heap.size∧a.spot=none:=by
 unfold World.cell? at h;split at h
 ·rename_i hb;split at h
  ·simp at h
  ·rename_i hs;refine⟨?_,by simpa using hs⟩
   exact(Array.getElem?_eq_some_iff.1 hb).1
 ·simp at h
theorem A2.flatten{α β:Type}{R:α→β→Prop}{xss:List (List α)}{yss:List (List β)}(hl:xss.length=yss.length)
  (h:∀(i:Nat) xs ys,xss[i]?=some xs→yss[i]?=some ys→A2 R xs ys):A2 R xss.flatten yss.flatten:=by
 induction xss generalizing yss with
 | nil=>cases yss with
  | nil=>exact A2.nil
  | cons y ys=>simp at hl
 | cons x xs ih=>cases yss with
  | nil=>simp at hl
  | cons y ys=>
   rw [b9,b9];exact(h 0 x y rfl rfl).append (ih (by simpa using hl) fun i a b ha hb=>h (i+1) a b (by simpa using ha) (by simpa using hb))
section
variable{H:Type}{enc:TypeId × Value→H}{P:Program}{w:World}{base:Nat}{spare:Nat→Bool}{held:Bool}{σ:Nat→FuncId}
def a07(σ:Nat→FuncId)(P:Program)(w:World)(n:Nat)(t:TypeId)(cs:List Value):Prop:=∃ xs,A2 (FCR σ (Ql w) w) xs cs∧Shp P n t xs
theorem AX{n:Nat}(ih:∀ {t:TypeId} {fuel:Nat} {cs:List Value} {x:DataW H × List MemPlace},jK P n t=true→DataW.trod enc P w base spare held fuel t cs=some x→a07 σ P w n t cs∧cs.length=P.cellsOf t)
  {fuel:Nat}:∀(fs:List Field) (o N:Nat) (cs:List Value),Kz P fs o N=true→(fs.all fun f=>jK P n f.type)=true→cs.length=N →
   (∀ f ∈ fs,∃ x,DataW.trod enc P w base spare held fuel f.type ((cs.drop f.offset).take (P.cellsOf f.type))=some x) →
   ∃ xs,A2 (FCR σ (Ql w) w) xs (cs.drop o)∧GY (Shp P n) (fs.map (·.type)) xs
 | [],o,N,cs,ht,_,hl,_=>by
  simp [Kz]at ht
  exact⟨[],by rw [List.drop_of_length_le (by omega)];exact A2.nil,rfl⟩
 | f::fs,o,N,cs,ht,hs,hl,hx=>by
  simp only [Kz,an,beq_iff_eq]at ht;simp only [List.all_cons,an]at hs;obtain⟨x,hx0⟩:=hx f bh;rw [ht.1]at hx0;obtain⟨⟨p,hp,sp⟩,hlen⟩:=ih hs.1 hx0;obtain⟨q,hq,sq⟩:=AX ih fs (o+P.cellsOf f.type) N cs ht.2 hs.2 hl fun g hg=>hx g (bA _ hg)
  refine⟨p++q,?_,p,q,rfl,sp,sq⟩
  have:cs.drop o=(cs.drop o).take (P.cellsOf f.type)++cs.drop (o+P.cellsOf f.type):=by
   rw [←dp,cM]
  rw [this];exact hp.append hq
theorem ahZ(c o n k:Nat):((⟨c,o,none⟩:Addr).add n).add k=⟨c,o+(n+k),none⟩:=by
 unfold Addr.add;by_cases h1:n=0<;>by_cases h2:k=0<;>simp [h1,h2];omega
theorem afn{t e:TypeId}{k n:Nat}{cs:List Value}{x:DataW H × List MemPlace}(ht:P.underlying t=some (.array k e))(h:DataW.trod enc P w base spare held (n+1) t cs=some x) :
  cs.length=P.cellsOf t∧∀ i,i<k→∃ y,DataW.trod enc P w base spare held n e ((cs.drop (i*P.cellsOf e)).take (P.cellsOf e))=some y:=by
 unfold DataW.trod at h;rw [ht]at h;simp only [Option.ite_none_right_eq_some,aq]at h;obtain⟨hl,xs,hp,hd⟩:=h;refine⟨hl,fun i hi=>?_⟩
 have:=mapM_some_get hp i i (by simp [hi])
 have hlen:xs.length=k:=by simpa using mapM_some_length hp
 rw [ae (by omega)]at this
 exact⟨_,this⟩
theorem GR{α:Type}{sz:Nat}:∀ {k:Nat} {cs:List α},cs.length=k*sz→cs=((List.range k).map fun i=>(cs.drop (i*sz)).take sz).flatten
 | 0,cs,h=>by simp at h;simp [h]
 | k+1,cs,h=>by
  have h':(cs.take (k*sz)).length=k*sz:=by rw [List.length_take,h,cE];omega
  have ih:=GR h';rw [List.range_succ,cY,List.flatten_append]
  have e:((List.range k).map fun i=>(cs.drop (i*sz)).take sz)=(List.range k).map fun i=>((cs.take (k*sz)).drop (i*sz)).take sz:=by
   refine List.map_congr_left fun i hi=>?_
   have hi':i<k:=by simpa using hi
   have:(i+1)*sz≤k*sz:=cT _ hi';rw [cE]at this;rw [List.drop_take,List.take_take,Nat.min_eq_left (by omega)]
  rw [e,←ih];simp only [aM,List.map_nil,b9,List.flatten_nil,df];have:(cs.drop (k*sz)).take sz=cs.drop (k*sz):=bu (by rw [cL,h,cE];omega)
  rw [this,cM]
theorem a5S{n:Nat}:∀ {t:TypeId} {fuel:Nat} {cs:List Value} {x:DataW H × List MemPlace},jK P n t=true→DataW.trod enc P w base spare held fuel t cs=some x →
  a07 σ P w n t cs∧cs.length=P.cellsOf t:=by
 induction n with
 | zero=>intro t fuel cs x hs;simp [jK]at hs
 | succ n ih=>
  intro t fuel cs x hs h;simp only [jK]at hs;split at hs
  ·rename_i ht;obtain⟨b,rfl,_⟩:=DataW.trod_bool ht h;exact⟨⟨[.bool b],.cons (.bool b) .nil,by simp only [Shp,ht];exact⟨b,rfl⟩⟩,by simp at hs;simp [hs]⟩
  ·rename_i k ht;obtain⟨m,rfl,_,hw⟩:=DataW.trod_int ht h;exact⟨⟨[.int k m],.cons (.int k m) .nil,by simp only [Shp,ht];exact⟨m,rfl,hw⟩⟩,by simp at hs;simp [hs]⟩
  ·rename_i ht;obtain⟨s,rfl,_,hw⟩:=DataW.trod_string ht h;exact⟨⟨[.str s],.cons (.str s) .nil,by simp only [Shp,ht];exact⟨s,rfl,hw⟩⟩,by simp at hs;simp [hs]⟩
  ·rename_i e ht;simp only [an,beq_iff_eq,bne_iff_ne]at hs;obtain⟨⟨h1,hsz⟩,he⟩:=hs;rcases DataW.trod_slice ht h with⟨rfl,_⟩ | ⟨a,len,cap,elems,rest,m,_,rfl,_,hb,hl,hm,hlen,hel,_,_⟩
   ·exact⟨⟨[sl .nil []],.cons .aC .nil,by simp only [Shp,ht];exact⟨.nil,[],rfl,fun r hr=>by simp at hr,by simp,fun r hr=>by simp at hr⟩⟩,by simpa using h1.symm⟩
   ·refine⟨?_,by simpa using h1.symm⟩
    have each:∀ i,i<len→∃ p:List Value × List FC,w.cells? base (a.add (i*P.cellsOf e)) (P.cellsOf e)=some p.1∧A2 (FCR σ (Ql w) w) p.2 p.1∧Shp P n e p.2:=by
     intro i hi;have:=hel i hi;rw [ae (by omega)]at this
     obtain⟨cs',h1,h2⟩:=bB.1 this;obtain⟨⟨xs,ha,hs⟩,_⟩:=ih he h2;exact⟨(cs',xs),h1,ha,hs⟩
    obtain⟨p,hp⟩:=Go.Deep.choose_lt each;by_cases h0:len=0
    ·subst h0;refine⟨[sl .fs []],.cons (.fs0 a cap) .nil,?_⟩;simp only [Shp,ht];exact⟨.fs,[],rfl,fun r hr=>by simp at hr,by simp,fun r hr=>by simp at hr⟩
    have hspot:a.spot=none:=by
     have:=hp 0 (by omega)
     obtain⟨_,hl0,hc0⟩:=World.cells?_some this.1;have:=hc0 0 (by omega)
     rw [ae (by omega)]at this
     have:=(cell_lt this).2;simpa [Addr.add]using this
    obtain⟨c,o,sp⟩:=a;simp only at hspot;subst hspot
    let vss:=(List.range len).map fun i=>(p i).1
    let rows:=(List.range len).map fun i=>(p i).2
    have hv:∀ v ∈ vss,v.length=P.cellsOf e:=by
     intro v hv;obtain⟨i,hi,rfl⟩:=cK.1 hv;exact(World.cells?_some (hp i (by simpa using hi)).1).2.1
    have hg:Grid (P.cellsOf e) rows:=by
     intro r hr;obtain⟨i,hi,rfl⟩:=cK.1 hr;obtain⟨h1,h2,_⟩:=hp i (by simpa using hi)
     rw [h2.len,(World.cells?_some h1).2.1]
    have hA:A2 (FCR σ (Ql w) w) rows.flatten vss.flatten:=by
     refine A2.flatten (by simp [rows,vss]) fun i xs ys hx hy=>?_
     simp only [rows,vss,cP,aq]at hx hy;obtain⟨i1,e1,rfl⟩:=hx;obtain⟨i2,e2,rfl⟩:=hy;rw [e1]at e2;cases e2;have:=aL e1;exact(hp i1 (by simpa using this)).2.1
    have hcell:∀ i u,vss.flatten[i]?=some u→w.cell? ⟨c,o+i,none⟩=some u:=by
     intro i u hu;have hi:i<vss.flatten.length:=(ai.1 hu).1;rw [MQ hv]at hi;have hvl:vss.length=len:=by simp [vss]
     rw [hvl]at hi;have hq:i / P.cellsOf e<len:=Nat.div_lt_of_lt_mul (by rw [Nat.mul_comm];exact hi)
     have hk:i % P.cellsOf e<P.cellsOf e:=Nat.mod_lt _ (by omega)
     have hi':i=i / P.cellsOf e*P.cellsOf e+i % P.cellsOf e:=by rw [Nat.mul_comm];exact(Nat.div_add_mod _ _).symm
     have hrow:vss[i / P.cellsOf e]?=some (p (i / P.cellsOf e)).1:=by simp [vss,hq]
     rw [hi',flat_get hv hrow hk]at hu;obtain⟨_,_,hc⟩:=World.cells?_some (hp _ hq).1;have:=hc _ hk;rw [hu]at this;rw [←this,ahZ,←hi']
    refine⟨[sl .fs rows],.cons ?_ .nil,?_⟩
    ·have hne:rows≠[]:=by simp [rows];omega
     have hrl:rows.length=len:=by simp [rows]
     have:sl Tg.fs rows=.fs rows.flatten len:=by
      cases hr:rows with
      | nil=>exact absurd hr hne
      | cons r rs=>simp only [sl,ei,aE,if_false];rw [←hr,hrl]
     rw [this];refine .fs rows.flatten len c o cap vss.flatten hl hA.len.symm (fun i hi=>?_) hcell fun i x u hx hu=>hA.2 i x u hx hu
     have hi':i<vss.flatten.length:=by rw [←hA.len];exact hi
     exact(cell_lt (hcell i _ (ae hi'))).1
    ·simp only [Shp,ht];have hrl:rows.length=len:=by simp [rows]
     refine⟨.fs,rows,rfl,hg,by omega,fun r hr=>?_⟩
     obtain⟨i,hi,rfl⟩:=cK.1 hr;exact(hp i (by simpa using hi)).2.2
  ·rename_i fs ht;simp only [an]at hs;obtain⟨xs,m,_,_,hl,_,hx⟩:=DataW.trod_struct ht h;refine⟨?_,hl⟩
   obtain⟨ys,h1,h2⟩:=AX (n:=n) (fuel:=m) ih fs.toList 0 _ cs hs.1 hs.2 hl fun f hf=>by
    obtain⟨i,hi⟩:=cH hf;rw [Array.getElem?_toList]at hi;have:=hx i f hi;rw [this];have hlt:i<fs.size:=(Array.getElem?_eq_some_iff.1 hi).1;exact⟨_,ae (by omega)⟩
   exact⟨ys,by simpa using h1,by simp only [Shp,ht];exact h2⟩
  ·rename_i k e ht;simp only [an,beq_iff_eq]at hs;obtain⟨hct,he⟩:=hs
   cases fuel with
   | zero=>simp [DataW.trod]at h
   | succ m=>
   obtain⟨hl,hx⟩:=afn ht h;refine⟨?_,hl⟩
   have each:∀ i,i<k→∃ q:List FC,A2 (FCR σ (Ql w) w) q ((cs.drop (i*P.cellsOf e)).take (P.cellsOf e))∧Shp P n e q:=by
    intro i hi;obtain⟨y,hy⟩:=hx i hi;obtain⟨⟨q,a,b⟩,_⟩:=ih he hy;exact⟨q,a,b⟩
   obtain⟨q,hq⟩:=Go.Deep.choose_lt each
   let rows:=(List.range k).map q
   have hcs:cs=((List.range k).map fun i=>(cs.drop (i*P.cellsOf e)).take (P.cellsOf e)).flatten:=GR (by rw [hl,hct])
   refine⟨rows.flatten,?_,?_⟩
   ·rw [hcs];refine A2.flatten (by simp [rows]) fun i xs ys hx hy=>?_
    simp only [rows,cP,aq]at hx hy;obtain⟨i1,e1,rfl⟩:=hx;obtain⟨i2,e2,rfl⟩:=hy;rw [e1]at e2;cases e2;have:=aL e1;exact(hq i1 (by simpa using this)).1
   ·simp only [Shp,ht];refine⟨rows,rfl,by simp [rows],fun r hr=>?_,fun r hr=>?_⟩
    ·obtain⟨i,hi,rfl⟩:=cK.1 hr;have hi':i<k:=by simpa using hi
     rw [(hq i hi').1.len,List.length_take,cL,hl,hct];have:(i+1)*P.cellsOf e≤k*P.cellsOf e:=cT _ hi';rw [cE]at this;omega
    ·obtain⟨i,hi,rfl⟩:=cK.1 hr;exact(hq i (by simpa using hi)).2
  ·simp at hs
end
section
variable{P:Program}{n:Nat}{t e:TypeId}{xs:List FC}
theorem afC(ht:P.underlying t=some .bool)(h:Shp P (n+1) t xs):∃ b,xs=[.bool b]:=by simpa only [Shp,ht]using h
theorem jc{k:IntKind}(ht:P.underlying t=some (.int k))(h:Shp P (n+1) t xs):∃ m,xs=[.int k m]∧(Lit.int k m).wf=true:=by simpa only [Shp,ht]using h
theorem zq(ht:P.underlying t=some (.slice e))(h:Shp P (n+1) t xs):∃ g rows,xs=[sl g rows]∧Grid (P.cellsOf e) rows∧rows.length≤maxLen∧∀ r ∈ rows,Shp P n e r:=by simpa only [Shp,ht]using h
theorem wP{fs:Array Field}{ts:List TypeId}(ht:P.underlying t=some (.struct fs))(hts:fs.toList.map (·.type)=ts)(h:Shp P (n+1) t xs):GY (Shp P n) ts xs:=by
 subst hts;simpa only [Shp,ht]using h
theorem IK{k:Nat}(ht:P.underlying t=some (.array k e))(h:Shp P (n+1) t xs):∃ rows,xs=rows.flatten∧rows.length=k∧Grid (P.cellsOf e) rows∧∀ r ∈ rows,Shp P n e r:=by simpa only [Shp,ht]using h
theorem eF{S:TypeId→List FC→Prop}{ts:List TypeId}(h:GY S (t::ts) xs):∃ p q,xs=p++q∧S t p∧GY S ts q:=h
theorem vH{α:Type}{enc:α→List FC}{p:α→Prop}:∀ {rows:List (List FC)},(∀ r ∈ rows,∃ x,r=enc x∧p x)→∃ l:List α,rows=l.map enc∧∀ x ∈ l,p x
 | [],_=>⟨[],rfl,by simp⟩
 | r::rows,h=>by
  obtain⟨x,rfl,hx⟩:=h r bh;obtain⟨l,rfl,hl⟩:=vH fun r hr=>h r (bA _ hr)
  exact⟨x::l,rfl,fun y hy=>by
   rcases cG.1 hy with rfl | hy
   ·exact hx
   ·exact hl y hy⟩
end
end
section
open Go Go.ChangeShapes Go.WideShapes Go.ChangeAt Go.RowKit
def Am(P:Program)(t:TypeId)(a:V):Prop:=(∃ xs,a=.a (xs.map .f)∧Shp P 40 t xs∧(∃ d,P.underlying t=some d∧((∃ fs,d=.struct fs)∨∃ n e,d=.array n e))) ∨
 (∃ x,a=.c (.f x)∧Shp P 40 t [x])
def BX(P:Program):List TypeId→List V→Prop
 | [],as=>as=[]
 | t::ts,as=>∃ a bs,as=a::bs∧Am P t a∧BX P ts bs
section
variable{H:Type}{enc:TypeId × Value→H}{P:Program}{W W':World}
theorem EZ{f:Func}{s:ChangeSpec}{apart fresh handsOn again:Bool}{args:Array Value}{v:Value}{ds gs:List (DataW H)}{before pa pv:List MemPlace}
  (hW:DataW.Whole enc P f.params.toList s.vars apart W args.toList ds gs before)
  (hres:∀(b:Nat) (sp:Nat→Bool) (hd:Bool),DataW.TrodAll enc P W' b sp hd f.resultTypes.toList (v.resultList f.resultTypes.size) (s.fn H (ds++gs)).results [])
  (hargs:∀ sp:Nat→Bool,(∀ p ∈ before,sp p.block=true)→DataW.TrodAll enc P W' 0 sp true f.params.toList args.toList (s.fn H (ds++gs)).args pa)
  (hvars:∀ sp:Nat→Bool,(∀ p ∈ before,sp p.block=true)→DataW.TrodVars enc P W' sp s.vars (s.fn H (ds++gs)).vars pv)
  (hps:before=pa++pv) (hb:Below W.heap.size W W')
  (hok:∀(j:Nat) (t:TypeId) (r:Value),f.resultTypes[j]?=some t→(v.resultList f.resultTypes.size)[j]?=some r→Value.okWide P W' .any 0 t r) :
  s.post enc P f apart fresh handsOn again W args v W':=by
 have hlt:∀ p ∈ before,p.block<W.heap.size:=fun p hp=>hW.lt p hp
 have hold:∀ p ∈ before,(fun b=>decide (b<W.heap.size)) p.block=true:=fun p hp=>by simpa using hlt p hp
 refine⟨ds,gs,before,[],pa,pv,hW,hres _ _ _,hargs _ hold,hvars _ hold,World.keptBut_mono (fun p hp=>⟨hp,?_⟩) (hb.frame (· ∈ before)),fun _=>?_⟩
 ·rw [hps,List.mem_append]at hp;exact Or.inr hp
 ·obtain⟨_,_,_,_,_,hz,hn⟩:=hW;refine⟨hok,_,_,([]++pa)++pv,⟨[]++pa,pv,trodAll_append (hargs _ (fun _ _=>rfl)) (hres _ _ _),hvars _ (fun _ _=>rfl),rfl,?_,?_⟩,?_⟩
  ·intro b off hp;have hp':MemPlace.cell b off ∈ before:=by rw [hps];simpa using hp
   rw [hb.frozen (p:=⟨b,off,none⟩) (hlt _ hp')];exact hz b off hp'
  ·intro ha;have:=hn ha;rw [hps]at this;simpa using this
  ·intro p hp _;rw [hps];simpa using hp
theorem wz(hl:laidOutB P=true){sp:Nat→Bool}(hb:Below W.heap.size W W'):∀ {ts:List TypeId} {vs:List Value} {ds:List (DataW H)} {ps:List MemPlace},
  (ts.all fun t=>P.readableRec t&&decide (t<P.types.size))=true→DataW.TrodAll enc P W 0 (fun _=>true) true ts vs ds ps→(∀ p ∈ ps,p.block<W.heap.size)→(∀ p ∈ ps,sp p.block=true) →
  DataW.TrodAll enc P W' 0 sp true ts vs ds ps
 | [],[],[],ps,_,h,_,_=>h
 | t::ts,v::vs,d::ds,ps,hr,⟨p,q,h1,h2,e⟩,hlt,hs=>by
  subst e;simp only [List.all_cons,an,decide_eq_true_eq]at hr
  exact⟨p,q,WideElems.Trod_stays hl hr.1.1 hr.1.2 h1 (fun x hx=>hb.same (hlt x (List.mem_append_left _ hx))) (fun x hx=>hs x (List.mem_append_left _ hx)),
   wz hl hb hr.2 h2 (fun x hx=>hlt x (List.mem_append_right _ hx)) (fun x hx=>hs x (List.mem_append_right _ hx)),rfl⟩
 | [],_::_,_,_,_,h,_,_=>by cases h
 | [],[],_::_,_,_,h,_,_=>by cases h
 | _::_,[],_,_,_,h,_,_=>by cases h
 | _::_,_::_,[],_,_,h,_,_=>by cases h
variable{σ:Nat→FuncId}
def X0(W:World):Wd:=⟨fun _=>none,Ql W,[],W,W.heap.size⟩
theorem afl{xs:List FC}{cs:Array Value}(h:A2 (FCR σ (Ql W) W) xs cs.toList):VR σ (X0 W) (.a (xs.map .f)) (.agg cs):=
 ⟨cs.toList,by simp,A2.map (g:=C.f) (h.weak fun _ _ h=>h)⟩
theorem ahU{t:TypeId}{v:Value}{d:DataW H}{ps:List MemPlace}{base:Nat}{spare:Nat→Bool}{held:Bool}{b0:Nat}(hs:jK P 40 t=true)(hval:Value.okWide P W .any b0 t v)
  (hd:DataW.Trod enc P W base spare held t v d ps):∃ a,VR σ (X0 W) a v∧Am P t a:=by
 obtain⟨fuel,hf⟩:=hd;obtain⟨⟨xs,hA,hS⟩,hl⟩:=a5S (σ:=σ) hs hf
 have scalar:v.cells.toList=[v]→∃ a,VR σ (X0 W) a v∧Am P t a:=by
  intro hv;rw [hv]at hA
  match xs,hA.len with
  | [x],_=>exact⟨.c (.f x),hA.of_cons.1,.inr ⟨x,rfl,hS⟩⟩
 unfold jK at hs;unfold Value.okWide at hval;split at hval
 ·rename_i fs ht;obtain⟨cs,rfl,_,_⟩:=hval;exact⟨_,afl hA,.inl ⟨xs,rfl,hS,_,ht,.inl ⟨_,rfl⟩⟩⟩
 ·rename_i n e ht;obtain⟨cs,rfl,_,_⟩:=hval;exact⟨_,afl hA,.inl ⟨xs,rfl,hS,_,ht,.inr ⟨_,_,rfl⟩⟩⟩
 ·rename_i h1 h2;refine scalar ?_;split at hs
  ·rename_i ht;obtain⟨b,hb,_⟩:=DataW.trod_bool ht hf;simp only [Cell.okWide,ht,Cell.ok]at hval;cases v<;>simp_all [Value.cells]
  ·rename_i ht;obtain⟨b,hb,_⟩:=DataW.trod_int ht hf;simp only [Cell.okWide,ht,Cell.ok]at hval;cases v<;>simp_all [Value.cells]
  ·rename_i ht;obtain⟨b,hb,_⟩:=DataW.trod_string ht hf;simp only [Cell.okWide,ht,Cell.ok]at hval;cases v<;>simp_all [Value.cells]
  ·rename_i ht;simp only [Cell.okWide,ht,Cell.ok]at hval;cases v<;>simp_all [Value.cells]
  ·rename_i fs ht;exact absurd ht (h1 fs)
  ·rename_i n e ht;exact absurd ht (h2 n e)
  ·simp at hs
theorem GX{base:Nat}{spare:Nat→Bool}{held:Bool}{b0:Nat}:∀ {ts:List TypeId} {vs:List Value} {ds:List (DataW H)} {ps:List MemPlace},(ts.all fun t=>jK P 40 t)=true →
  (∀(j:Nat) t v,ts[j]?=some t→vs[j]?=some v→Value.okWide P W .any b0 t v)→DataW.TrodAll enc P W base spare held ts vs ds ps →
  ∃ as,A2 (VR σ (X0 W)) as vs∧BX P ts as
 | [],[],[],_,_,_,_=>⟨[],A2.nil,rfl⟩
 | t::ts,v::vs,d::ds,ps,hs,hval,⟨p,q,h1,h2,_⟩=>by
  simp only [List.all_cons,an]at hs;obtain⟨a,ha,sa⟩:=ahU (σ:=σ) hs.1 (hval 0 t v rfl rfl) h1;obtain⟨bs,hb,sb⟩:=GX hs.2 (fun j t v h h'=>hval (j+1) t v (by simpa using h) (by simpa using h')) h2
  exact⟨a::bs,.cons ha hb,a,bs,rfl,sa,sb⟩
 | [],_::_,_,_,_,_,h=>by cases h
 | [],[],_::_,_,_,_,h=>by cases h
 | _::_,[],_,_,_,_,h=>by cases h
 | _::_,_::_,[],_,_,_,h=>by cases h
theorem aIa{n:Nat}{H:Heap}{v:V}{b:Bool}(h:exV (n+1) H v=some (.c (.f (.bool b)))):v=.c (.f (.bool b)):=by
 cases v with
 | top=>simp [exV,dG]at h
 | a xs=>simp [exV,dG]at h
 | t xs=>simp [exV]at h
 | c x=>
  simp only [exV,dG,aq]at h;obtain⟨y,hy,h⟩:=h;cases h
  cases x with
  | f x=>simpa [exC]using hy
  | ptr b o e=>simp only [exC]at hy;split at hy<;>simp at hy
  | sl b o l c e s=>
   simp only [exC]at hy;split at hy
   ·split at hy<;>simp at hy
   ·split at hy<;>simp at hy
   ·split at hy<;>simp at hy
   ·split at hy<;>simp at hy
   ·simp at hy
  | cl f caps=>simp [exC]at hy
  | _=>simp [exC]at hy
variable{tab:Nat→Option AFunc}
theorem Qb(hE:Env P σ tab nP){f:Nat}{args:List V}{us:List Value}(h:Pure tab f args (vb true))(W:World)(ha:A2 (VR σ (X0 W)) args us) :
  Calls P (σ f) us.toArray W fun e w'=>e=.returned (.bool true)∧Below W.heap.size W w':=by
 obtain⟨r,H',⟨m,d,h⟩,hr⟩:=h;have hr:=aIa (n:=63) hr;subst hr;intro cs
 let X:=X0 W
 have hS:SR P σ X:=⟨fun b L h=>by simp [X,X0]at h,fun b b' L L' h=>by simp [X,X0]at h,fun c i h=>h⟩
 obtain⟨fr,X',u,h1,⟨l1,l2,l3,l4,fn,l5,l6⟩,h3,h4,h5,h6,h7⟩:=(ahF hE m d).fn f args [] _ H' h X us .normal cs rfl hS (ax _) ha (.inl rfl);have hu:=VR.bool h5;subst hu;exact⟨.returned (.bool true),X'.w,fr,⟨rfl,⟨h6.os,h6.tape,h6.output,h6.size,fun k hk=>h6.frame k hk (fun b L h=>by simp [X,X0]at h)⟩⟩,h1,l4,l1,l2,l3,fn,by rw [l4];exact l5,l6⟩
theorem agY(hE:Env P σ tab nP){s:ChangeSpec}{f:Func}{fi:Nat}{tb:TypeId}(hvars:s.vars=[])(hlaid:laidOutB P=true){ts:List TypeId}(hts:f.params.toList=ts)
  (hfn:∀ ds:List (DataW H),ds.length=ts.length→s.fn H ds=⟨[.lit (.bool true)],ds,[]⟩)
  (hres:f.resultTypes=#[tb]) (htb:P.underlying tb=some .bool) (hread:(ts.all fun t=>P.readableRec t&&decide (t<P.types.size))=true) (aHG:(ts.all fun t=>jK P 40 t)=true)
  (hkm:∀ as,BX P ts as→Pure tab fi as (vb true)) {apart fresh handsOn again:Bool} {base:Nat} {args:Array Value} {ds gs:List (DataW H)} {before:List MemPlace}
  (hval:∀(j:Nat) t v,f.params[j]?=some t→args[j]?=some v→Value.okWide P W .any base t v) (hW:DataW.Whole enc P f.params.toList s.vars apart W args.toList ds gs before) :
  Calls P (σ fi) args W fun e W'=>∃ v,e=.returned v∧s.post enc P f apart fresh handsOn again W args v W':=by
 have hW':=hW;obtain⟨p,q,hA,hV,hb,hfz,hnd⟩:=hW;rw [hts]at hA;rw [hvars]at hV;obtain⟨rfl,rfl⟩:=trodVars_none hV;simp only [df]at hb;subst hb;obtain⟨as,h1,h2⟩:=GX (σ:=σ) (b0:=base) aHG (fun j t v h h'=>hval j t v (by rw [←Array.getElem?_toList,hts];exact h) (by rw [←Array.getElem?_toList];exact h')) hA
 have hlen:ds.length=ts.length:=by
  have:∀ {ts:List TypeId} {vs:List Value} {ds:List (DataW H)} {ps:List MemPlace},DataW.TrodAll enc P W 0 (fun _=>true) true ts vs ds ps→ds.length=ts.length:=by
   intro ts
   induction ts with
   | nil=>intro vs ds ps h;cases vs<;>cases ds<;>first | rfl | cases h
   | cons t ts ih=>intro vs ds ps h;cases vs<;>cases ds<;>first | (obtain⟨_,_,_,h,_⟩:=h;simp [ih h]) | cases h
  exact this hA
 have hfn':=hfn ds hlen;have hc:=Qb hE (hkm as h2) W h1;rw [Array.toArray_toList]at hc;refine hc.mono fun e W' h=>?_
 obtain⟨he,hg⟩:=h;subst he;refine⟨_,rfl,EZ (pa:=before) (pv:=[]) hW' (fun b sp hd=>?_) (fun sp hsp=>?_) (fun sp _=>?_) (by simp) hg ?_⟩
 ·rw [df,hfn',hres];exact trodAll_mk1 (shut_bool htb _)
 ·rw [df,hfn',hts];exact wz hlaid hg hread hA (fun p hp=>hW'.lt p hp) hsp
 ·rw [df,hfn',hvars];exact rfl
 ·exact ok_one hres rfl (okWide_bool_mk htb _)
end
end
section
open Go
section
variable{tab:Nat→Option AFunc}{f:Nat}{args:List V}{r:V}{fn:Nat}{k:List AItem}{t:T}{ds:List gI}{H H':Heap}{Q:Option ACode→St→Prop}
theorem Gp{x:Arg}{ps:List P}{as bd:ACode}{g:Nat}{ar:List V}(hf:dh (x.ev t) [.c (.yl (H.length+1))]=some (.fn g,ar))
  (he:Ev tab (.fn g) ar (H++[.dfr true,.lp fn t ps as bd .ready none H.length]) r H')
  (h:WP tab fn none (.lZ (H.length+1)::k) ⟨t,.coll H.length::ds,H'⟩ Q):WP tab fn none (.code (.oO x ps as bd)::k) ⟨t,ds,H⟩ Q:=by
 obtain⟨m,d,he⟩:=he;obtain⟨n,m',d',j,s',h1,h2⟩:=h;refine⟨n+1,max m m',max d d',j,s',?_,h2⟩;have e1:=oK (tab:=tab) (bN m m') (bN d d') _ _ _ _ he;have e2:=CY (bz m m') (bz d d') (ax n) h1;simp only [run,hf,e1,e2];simp
theorem agZ{ro:Option Nat}{b f' d:Nat}{tm:T}{ps:List P}{as bd:ACode}{st:kJ}(hb:H[b]?=some (.lp f' tm ps as bd st none d))(hst:st≠.busy)
  (h:WP tab fn ro k ⟨t,ds,H.set b (.lp f' tm ps as bd .exhausted none d)⟩ Q):WP tab fn ro (.lZ b::k) ⟨t,ds,H⟩ Q:=by
 refine sG h fun m d n=>?_
 simp only [run,hb,if_neg hst]
theorem Jj{ro:Option Nat}{b f' d:Nat}{tm:T}{ps:List P}{as bd:ACode}{st:kJ}(hb:H[b]?=some (.lp f' tm ps as bd st (some .ret) d))(hst:st≠.busy)
  (h:WP tab fn ro (.code .ret::k) ⟨t,ds,H.set b (.lp f' tm ps as bd .exhausted (some .ret) d)⟩ Q):WP tab fn ro (.lZ b::k) ⟨t,ds,H⟩ Q:=by
 refine sG h fun m d n=>?_
 simp only [run,hb,if_neg hst]
theorem aHu{b f' d:Nat}{tm:T}{ps:List P}{as bd:ACode}{pd:Option ACode}(hb:H[b]?=some (.lp f' tm ps as bd .ready pd d))
  (h:WP tab fn (some b) k ⟨t,ds,H.set b (.lp f' tm ps as bd .busy pd d)⟩ Q):WP tab fn (some b) (.uU::k) ⟨t,ds,H⟩ Q:=by
 refine sG h fun m d n=>?_
 simp only [run,hb]
@[simp] theorem aVv {b:Nat} {as:List V}:dh (.c (.yl b)) as=some (.yield b,as):=rfl
def a08(b:Nat)(r:V)(H':Heap)(j:Option ACode)(s:St):Prop:=s.defs=[]∧∃ f' tm ps as bd st pd d,s.heap[b]?=some (.lp f' tm ps as bd st pd d)∧r=.c (.f (.bool j.isNone)) ∧
 H'=s.heap.set b (.lp f' tm ps as bd (if j.isNone then .ready else .done) j d)
theorem ahq{b f' d:Nat}{tm:T}{ps:List P}{as bd:ACode}{st:kJ}{pd:Option ACode}(hb:H[b]?=some (.lp f' tm ps as bd st pd d))(hl:args.length=ps.length)
  (h:WP tab f' (some b) [.code as,.uU,.code bd] ⟨dJ ps args tm,[],H⟩ (a08 b r H')):Ev tab (.yield b) args H r H':=by
 obtain⟨n,m,d',j,s,h1,hd,f2,tm2,ps2,as2,bd2,st2,pd2,d2,h2,rfl,rfl⟩:=h;refine⟨max m n,d'+1,?_⟩;have e1:run (CF tab (max m n) d') f' (max m n) (some b) [.code as,.uU,.code bd] ⟨dJ ps args tm,[],H⟩=some (j,s):=CY (bN m n) (ax d') (bz m n) h1;simp only [CF]at e1 ⊢;simp only [iE,hb,hl,if_true,e1,hd,List.isEmpty_nil,h2];rfl
theorem MS{C:V→Heap→Prop}{b f' d:Nat}{tm:T}{ps:List P}{as bd:ACode}{st:kJ}{pd:Option ACode}(hb:H[b]?=some (.lp f' tm ps as bd st pd d))(hl:args.length=ps.length)
  (h:∀ Q:Option ACode→St→Prop,(∀ j s f2 tm2 ps2 as2 bd2 st2 pd2 d2,s.defs=[]→s.heap[b]?=some (.lp f2 tm2 ps2 as2 bd2 st2 pd2 d2) →
   C (.c (.f (.bool j.isNone))) (s.heap.set b (.lp f2 tm2 ps2 as2 bd2 (if j.isNone then .ready else .done) j d2))→Q j s)→WP tab f' (some b) [.code as,.uU,.code bd] ⟨dJ ps args tm,[],H⟩ Q):∃ r H',Ev tab (.yield b) args H r H'∧C r H':=by
 have h':=h (fun j s=>∃ r H',C r H'∧a08 b r H' j s) fun j s f2 tm2 ps2 as2 bd2 st2 pd2 d2 h1 h2 h3=>⟨_,_,h3,h1,f2,tm2,ps2,as2,bd2,st2,pd2,d2,h2,rfl,rfl⟩
 obtain⟨n,m,d',j,s,h1,r,H',h2,h3⟩:=h';exact⟨r,H',ahq hb hl ⟨n,m,d',j,s,h1,h3⟩,h2⟩
def aVb(res:List mZ)(r:V)(s:St):Prop:=∃ b,s.defs=[.coll b]∧s.heap[b]?=some (.dfr true)∧∃ r0,results s.regs (s.heap.set b (.dfr false)) res=some r0∧exV deep (s.heap.set b (.dfr false)) r0=some r
theorem afU{S:V→Prop}{ps:List P}{res:List mZ}{body:ACode}(ht:tab f=some ⟨ps,res,body⟩)(hl:args.length=ps.length)
  (h:∀ Q:Option ACode→St→Prop,(∀ j s r,S r→yT res r s∨aVb res r s→Q j s)→WP tab f none [.code body] ⟨dJ ps args .e,[],[]⟩ Q):∃ r,S r∧Pure tab f args r:=by
 have h':=h (fun _ s=>∃ r,S r∧(yT res r s∨aVb res r s)) fun _ _ r h1 h2=>⟨r,h1,h2⟩
 obtain⟨n,m,d,j,s,h1,r,hr,⟨hd,r0,h2,h3⟩ | ⟨b,hd,hb,r0,h2,h3⟩⟩:=h'
 ·exact⟨r,hr,r0,s.heap,GK ht hl ⟨n,m,d,j,s,h1,0,0,s.heap,by rw [hd];rfl,h2,rfl⟩,h3⟩
 ·exact⟨r,hr,r0,s.heap.set b (.dfr false),GK ht hl ⟨n,m,d,j,s,h1,0,0,_,by rw [hd];simp only [gW,hb],h2,rfl⟩,h3⟩
theorem fV{C:V→Heap→Prop}{ps:List P}{res:List mZ}{body:ACode}(ht:tab f=some ⟨ps,res,body⟩)(hl:args.length=ps.length)
  (h:∀ Q:Option ACode→St→Prop,(∀ j s r,s.defs=[]→results s.regs s.heap res=some r→C r s.heap→Q j s)→WP tab f none [.code body] ⟨dJ ps args .e,[],H⟩ Q):∃ r H',Ev tab (.fn f) args H r H'∧C r H':=by
 have h':=h (fun _ s=>s.defs=[]∧∃ r,results s.regs s.heap res=some r∧C r s.heap) fun _ _ r h1 h2 h3=>⟨h1,r,h2,h3⟩
 obtain⟨n,m,d,j,s,h1,hd,r,h2,h3⟩:=h';exact⟨r,s.heap,GK ht hl ⟨n,m,d,j,s,h1,0,0,s.heap,by rw [hd];rfl,h2,rfl⟩,h3⟩
end
end
section
open Go
theorem Ap{c:dM}:∀(a b:List AOper) (s:St),jk c (a++b) s=(jk c a s).bind (jk c b)
 | [],b,s=>rfl
 | o::a,b,s=>by
  simp only [List.cons_append,jk]
  cases jC c s o with
  | none=>rfl
  | some s'=>exact Ap a b s'
theorem Cb{c:dM}:∀(os:List AOper) (s:St) {s':St},jk c os s=some s'→∃ ss,gu c os s=some ss∧ss.getLast?=some s'∧∀ i,i≤os.length→jk c (os.take i) s=ss[i]?
 | [],s,s',h=>by
  simp only [jk,ab]at h;subst h;refine⟨[s],rfl,rfl,fun i hi=>?_⟩
  have:i=0:=by simpa using hi
  subst this
  rfl
 | o::os,s,s',h=>by
  simp only [jk]at h
  cases hs:jC c s o with
  | none=>simp [hs]at h
  | some s1=>
   simp only [hs]at h;obtain⟨ss,h1,h2,h3⟩:=Cb os s1 h;refine⟨s::ss,by simp only [gu,hs,h1],by rw [List.getLast?_cons,h2];rfl,fun i hi=>?_⟩
   cases i with
   | zero=>rfl
   | succ i=>
    simp only [List.take_succ_cons,jk,hs,List.getElem?_cons_succ];exact h3 i (by simpa using hi)
def yP(o:AOper)(si sj:St):Prop:=wanted si.regs o.g=some false∨∃ v H1 v' H2,xOp si.regs si.heap o.op=some (v,H1)∧xOp si.regs sj.heap o.op=some (v',H2)∧v.beq v'=true
section
variable{tab:Nat→Option AFunc}{fn:Nat}{ro:Option Nat}{k:List AItem}{s:St}{Q:Option ACode→St→Prop}
def aPo(tab:Nat→Option AFunc)(ops:List AOper)(s:St)(c:Nat × Nat):Prop:=c.2≤ops.length∧∃ o,ops[c.1]?=some o ∧
 ((c.1≤c.2∧OPS tab (ops.take c.1) s fun si=>OPS tab ((ops.drop c.1).take (c.2-c.1)) si fun sj=>yP o si sj) ∨
 (c.2≤c.1∧OPS tab (ops.take c.2) s fun sj=>OPS tab ((ops.drop c.2).take (c.1-c.2)) sj fun si=>yP o si sj))
theorem afG{ops:List AOper}{c:Nat × Nat}(h:aPo tab ops s c):∃ m d o si sj,c.2≤ops.length∧ops[c.1]?=some o∧jk (CF tab m d) (ops.take c.1) s=some si∧jk (CF tab m d) (ops.take c.2) s=some sj∧yP o si sj:=by
 have two:∀(a b:Nat) (K:St→St→Prop),a≤b→OPS tab (ops.take a) s (fun sa=>OPS tab ((ops.drop a).take (b-a)) sa fun sb=>K sa sb) →
   ∃ m d sa sb,jk (CF tab m d) (ops.take a) s=some sa∧jk (CF tab m d) (ops.take b) s=some sb∧K sa sb:=by
  intro a b K hab h;obtain⟨m,d,sa,h1,h2⟩:=nD _ _ h;obtain⟨m',d',sb,h3,h4⟩:=nD _ _ h2;have e1:=fK (oK (tab:=tab) (bN m m') (bN d d')) _ _ h1;have e3:=fK (oK (tab:=tab) (bz m m') (bz d d')) _ _ h3;refine⟨max m m',max d d',sa,sb,e1,?_,h4⟩
  have:ops.take b=ops.take a++(ops.drop a).take (b-a):=by
   have hb:b=a+(b-a):=by omega
   conv=>lhs;rw [hb,List.take_add]
  rw [this,Ap,e1];exact e3
 obtain⟨hj,o,ho,⟨hij,h⟩ | ⟨hji,h⟩⟩:=h
 ·obtain⟨m,d,si,sj,h1,h2,h3⟩:=two _ _ (fun si sj=>yP o si sj) hij h
  exact⟨m,d,o,si,sj,hj,ho,h1,h2,h3⟩
 ·obtain⟨m,d,sj,si,h1,h2,h3⟩:=two _ _ (fun sj si=>yP o si sj) hji h
  exact⟨m,d,o,si,sj,hj,ho,h2,h1,h3⟩
theorem wY{ops:List AOper}{chk:List (Nat × Nat)}(hr:ro=none∨ops.all (·.op.iy)=true)(h:OPS tab ops s fun s'=>WP tab fn ro k s' Q)(hk:∀ c ∈ chk,aPo tab ops s c) :
  WP tab fn ro (.code (.region ops chk)::k) s Q:=by
 obtain⟨m,d,s',h1,n,m',d',j,s2,h2,h3⟩:=nD ops s h
 have hall:∃ M D,∀ c ∈ chk,∃ o si sj,c.2≤ops.length∧ops[c.1]?=some o∧jk (CF tab M D) (ops.take c.1) s=some si∧jk (CF tab M D) (ops.take c.2) s=some sj∧yP o si sj:=by
  clear h1 h2 h
  induction chk with
  | nil=>exact⟨0,0,fun c hc=>by cases hc⟩
  | cons c cs ih=>
   obtain⟨M,D,ih⟩:=ih fun c hc=>hk c (bA _ hc)
   obtain⟨m1,d1,o,si,sj,a1,a2,a3,a4,a5⟩:=afG (hk c bh);refine⟨max M m1,max D d1,fun c' hc'=>?_⟩
   rcases cG.1 hc' with rfl | hc'
   ·have l:=oK (tab:=tab) (bz M m1) (bz D d1);exact⟨o,si,sj,a1,a2,fK l _ _ a3,fK l _ _ a4,a5⟩
   ·obtain⟨o,si,sj,a1,a2,a3,a4,a5⟩:=ih c' hc';have l:=oK (tab:=tab) (bN M m1) (bN D d1);exact⟨o,si,sj,a1,a2,fK l _ _ a3,fK l _ _ a4,a5⟩
 obtain⟨M,D,hall⟩:=hall;obtain⟨MM,hm1,hm2,hm3⟩:∃ x,m≤x∧m'≤x∧M≤x:=⟨max (max m m') M,by omega,by omega,by omega⟩
 obtain⟨DD,hd1,hd2,hd3⟩:∃ x,d≤x∧d'≤x∧D≤x:=⟨max (max d d') D,by omega,by omega,by omega⟩
 refine⟨n+1,MM,DD,j,s2,?_,h3⟩;have e1:=fK (oK (tab:=tab) hm1 hd1) ops _ h1;have e2:=CY hm2 hd2 (ax n) h2
 have hro:(ro.isSome&&!ops.all (·.op.iy))=false:=by
  rcases hr with rfl | hr
  ·rfl
  ·rw [hr];simp
 obtain⟨ss,f1,f2,f3⟩:=Cb ops s e1
 have hx:jJ (CF tab MM DD) ops chk s=some s':=by
  cases chk with
  | nil=>simpa only [jJ]using e1
  | cons x xs=>
   simp only [jJ,f1];rw [if_pos,f2];rw [List.all_eq_true];intro c hc;obtain⟨o,si,sj,a1,a2,a3,a4,a5⟩:=hall c hc;have l:=oK (tab:=tab) hm3 hd3
   have hi:c.1≤ops.length:=by
    have:=(ai.1 a2).1;omega
   have b3:=fK l _ _ a3;have b4:=fK l _ _ a4;rw [f3 _ hi]at b3;rw [f3 _ a1]at b4;simp only [sameAt,a2,b3,b4];rcases a5 with hw | ⟨v,H1,v',H2,g1,g2,g3⟩
   ·rw [hw]
   ·split
    ·rfl
    ·simp only [g1,g2,g3]
 simp only [run,hro,hx,e2];simp
end
end
section
open Go
theorem Gs(l:List Int):(ints l).flatten=l.map fi:=by
 induction l with
 | nil=>rfl
 | cons m l ih=>simp only [ints,aM,b9]at ih ⊢;rw [ih];rfl
theorem BN{n:Nat}:∀(l:List C) (H:Heap),(∀ x ∈ l,∃ y,x=.f y)→l.foldl (fun H x=>mkC n x H) H=H
 | [],_,_=>rfl
 | x::l,H,h=>by
  obtain⟨y,rfl⟩:=h x bh;simp only [cX,Uz];exact BN l H fun x hx=>h x (bA _ hx)
end
section
open Go
end
section
open Go
def RB(H:Heap)(b sz ep:Nat)(rows:List (List FC)):Prop:=H[b]?=some (.opn sz (rows.flatten.map .f) 0 ep .loc)
def Fm(b:Nat)(H H':Heap):Prop:=H.length≤H'.length∧∀ b':Nat,b'≠b→b'<H.length→H'[b']?=H[b']?
theorem Fm.refl{b:Nat}(H:Heap):Fm b H H:=⟨ax _,fun _ _ _=>rfl⟩
theorem Fm.trans{b:Nat}{H H' H'':Heap}(h:Fm b H H')(h':Fm b H' H''):Fm b H H'':=
 ⟨bw h.1 h'.1,fun b' e l=>(h'.2 b' e (cJ l h.1)).trans (h.2 b' e l)⟩
theorem Fm.push{b:Nat}(H J:Heap):Fm b H (H++J):=⟨by simp,fun b' _ l=>ag l⟩
theorem Fm.set{b:Nat}(H:Heap)(x:Blk):Fm b H (H.set b x):=⟨by simp,fun b' e _=>am (Ne.symm e)⟩
theorem Fm.get{b:Nat}{H H':Heap}(h:Fm b H H'){b':Nat}{x:Blk}(hb:H[b']?=some x)(e:b'≠b):H'[b']?=some x:=by rw [h.2 b' e (aA hb)];exact hb
theorem KU{sz:Nat}{row:List FC}(hr:row.length=sz):∀ {rows:List (List FC)} {j:Nat},Grid sz rows→j<rows.length →
  rows.flatten.take (j*sz)++row++rows.flatten.drop (j*sz+sz)=(rows.set j row).flatten
 | [],_,_,hj=>by simp at hj
 | r::rows,0,hg,_=>by
  have:=hg r bh;subst this
  simp
 | r::rows,j+1,hg,hj=>by
  have hr0:=hg r bh;have ih:=KU hr (rows:=rows) (j:=j) (fun x hx=>hg x (bA _ hx)) (by simpa using hj)
  simp only [b9,eg];rw [←ih];have e1:(j+1)*sz=r.length+j*sz:=by rw [hr0,cE];omega
  have e2:(j+1)*sz+sz=r.length+(j*sz+sz):=by omega
  rw [e2,e1,List.take_append,ey];simp [bu,de]
section
variable{H:Heap}{b sz ep j:Nat}{rows:List (List FC)}{row:List FC}
theorem RB.lt(h:RB H b sz ep rows):b<H.length:=aA h
theorem RB.push(h:RB H b sz ep rows)(J:Heap):RB (H++J) b sz ep rows:=by
 unfold RB at *;rw [ag (aA h)];exact h
theorem RB.len(h:RB H b sz ep rows){o l c:Nat}:bQ H (.sl b o l c ep sz)=some l:=by
 unfold RB at h;simp [bQ,h]
theorem RB.idx(h:RB H b sz ep rows){n c:Nat}{k:IntKind}{i:Int}(h0:0≤i)(hi:i<n){o:Nat}:aP H sz none (.c (.sl b o n c ep sz)) (.c (.f (.int k i)))=some (.c (.ptr b (o+i.toNat*sz) ep)):=by
 unfold RB at h;simp only [aP,fU,h0,hi,if_true,h,and_self]
theorem RB.ldr(h:RB H b sz ep rows)(hg:Grid sz rows)(hj:rows[j]?=some row):ldV H (some sz) (.c (.ptr b (j*sz) ep))=some (.a (row.map .f)):=by
 unfold RB at h;have hlen:row.length=sz:=hg row (aL hj);have:=D5 (k:=0) hg hj (by omega)
 simp only [ak,h,if_true];rw [←ek];rw [Nat.add_zero]at this;rw [this]
 have h1:(row.map C.f++((rows.drop (j+1)).flatten.map C.f)).take sz=row.map C.f:=by
  rw [c9 (by simp [hlen]),bu (by simp [hlen])]
 simp [hlen]
theorem RB.str(h:RB H b sz ep rows)(hg:Grid sz rows)(hj:j<rows.length)(hr:row.length=sz) :
  ∃ H',stC H (.ptr b (j*sz) ep) (row.map .f)=some H'∧RB H' b sz ep (rows.set j row)∧Fm b H H'∧H'.length=H.length:=by
 have hl:=jT hg;have hjl:(j+1)*sz≤rows.length*sz:=cT _ hj;have hin:j*sz+sz≤rows.flatten.length:=by rw [hl];rw [cE]at hjl;omega
 unfold RB at h ⊢;refine⟨H.set b (.opn sz ((rows.set j row).flatten.map .f) 0 ep .loc),?_,?_,Fm.set _ _,by simp⟩
 ·simp only [bJ,h,Nat.zero_le,true_and,cF,hr,hin,if_true];rw [←KU hr hg hj];simp [over,hr]
 ·exact az (aA h)
end
theorem bnd_nat{k n:Nat}(h:k≤n):bnd (vi k) n=some k:=by
 have:(0:Int)≤k∧(k:Int)≤n:=by omega
 simp [bnd,fU,this]
theorem res_one{t:T}{H:Heap}{x:mZ}{r:V}(h:bT t H x=some r):Km.results t H [x]=some r:=by
 simp [Km.results,aZ,h]
@[simp] theorem a1i {t:T} {H:Heap} (sz:Nat) (zs:List FC) (x:Arg):xOp t H (.clear sz zs x)=(Eb H sz zs (x.ev t)).map (.t [],·):=rfl
@[simp] theorem a1v {a b:Int}:V8 false [vi a,vi b]=some (vi (max a b)):=by
 have:(if a<b then b else a)=max a b:=by split<;>omega
 simp only [V8,Gh,UC];simp [this,V.int]
end
section
open Go
def swp(l:List (List FC))(i j:Nat):List (List FC):=(l.set i (l.getD j [])).set j (l.getD i [])
def Seg(a b:Nat)(l l':List (List FC)):Prop:=l'.Perm l∧l'.take a=l.take a∧l'.drop b=l.drop b
theorem Seg.refl(a b:Nat)(l:List (List FC)):Seg a b l l:=⟨.refl _,rfl,rfl⟩
theorem Seg.trans{a b:Nat}{l l' l'':List (List FC)}(h:Seg a b l l')(h':Seg a b l' l''):Seg a b l l'':=⟨h'.1.trans h.1,h'.2.1.trans h.2.1,h'.2.2.trans h.2.2⟩
theorem Seg.len{a b:Nat}{l l':List (List FC)}(h:Seg a b l l'):l'.length=l.length:=h.1.length_eq
theorem Seg.lt{a b:Nat}{l l':List (List FC)}(h:Seg a b l l'){i:Nat}(hi:i<a):l'[i]?=l[i]?:=by
 have:=congrArg (·[i]?) h.2.1;simpa [bS,hi]using this
theorem Seg.ge{a b:Nat}{l l':List (List FC)}(h:Seg a b l l'){i:Nat}(hi:b≤i):l'[i]?=l[i]?:=by
 have:=congrArg (·[i-b]?) h.2.2;simpa [bl,show b+(i-b)=i by omega]using this
theorem Seg.mono{a b a' b':Nat}{l l':List (List FC)}(h:Seg a b l l')(ha:a'≤a)(hb:b≤b'):Seg a' b' l l':=by
 refine⟨h.1,?_,?_⟩
 ·have:=congrArg (·.take a') h.2.1;simpa [List.take_take,Nat.min_eq_left ha]using this
 ·have:=congrArg (·.drop (b'-b)) h.2.2;simpa [dp,show b+(b'-b)=b' by omega]using this
theorem Iy(l:List (List FC))(i j:Nat):(swp l i j).length=l.length:=by simp [swp]
theorem swp_get{l:List (List FC)}{i j:Nat}(hi:i<l.length)(hj:j<l.length)(k:Nat):(swp l i j)[k]?=if k=j then l[i]? else if k=i then l[j]? else l[k]?:=by
 have e1:l.getD i []=l[i]:=by simp [List.getD,ae hi]
 have e2:l.getD j []=l[j]:=by simp [List.getD,ae hj]
 simp only [swp,e1,e2,List.getElem?_set];by_cases h1:j=k
 ·subst h1;simp [ae hi,hj]
 ·by_cases h2:i=k
  ·subst h2;simp [h1,Ne.symm h1,ae hj,hi]
  ·simp [h1,h2,Ne.symm h1,Ne.symm h2]
theorem iZ{a b:Nat}{l:List (List FC)}{i j:Nat}(hi:a≤i)(hib:i<b)(hj:a≤j)(hjb:j<b)(hb:b≤l.length):Seg a b l (swp l i j):=by
 have hil:i<l.length:=by omega
 have hjl:j<l.length:=by omega
 refine⟨?_,?_,?_⟩
 ·have e1:l.getD i []=l[i]:=by simp [List.getD,ae hil]
  have e2:l.getD j []=l[j]:=by simp [List.getD,ae hjl]
  simp only [swp,e1,e2];exact List.set_set_perm hil hjl
 ·apply List.ext_getElem?;intro k;simp only [bS];split
  ·rw [swp_get hil hjl,if_neg (by omega),if_neg (by omega)]
  ·rfl
 ·apply List.ext_getElem?;intro k;simp only [bl];rw [swp_get hil hjl,if_neg (by omega),if_neg (by omega)]
section
variable{H:Heap}{b sz ep:Nat}{rows:List (List FC)}
theorem RB.swap(h:RB H b sz ep rows)(hg:Grid sz rows){i j:Nat}(hi:i<rows.length)(hj:j<rows.length) :
  ∃ H1 H2,stC H (.ptr b (i*sz) ep) (rows[j].map .f)=some H1∧RB H1 b sz ep (rows.set i rows[j])∧stC H1 (.ptr b (j*sz) ep) (rows[i].map .f)=some H2∧RB H2 b sz ep (swp rows i j)∧Fm b H H2:=by
 have gi:rows[i].length=sz:=hg _ (aw hi);have gj:rows[j].length=sz:=hg _ (aw hj);obtain⟨H1,s1,r1,f1,-⟩:=h.str hg hi gj
 have hg1:Grid sz (rows.set i rows[j]):=fun r hr=>by
  rcases List.mem_or_eq_of_mem_set hr with h | rfl
  ·exact hg r h
  ·exact gj
 obtain⟨H2,s2,r2,f2,-⟩:=r1.str hg1 (j:=j) (by simpa using hj) gi
 refine⟨H1,H2,s1,r1,s2,?_,f1.trans f2⟩;have e1:rows.getD i []=rows[i]:=by simp [List.getD,ae hi]
 have e2:rows.getD j []=rows[j]:=by simp [List.getD,ae hj]
 simp only [swp,e1,e2];exact r2
theorem Seg.grid{a b:Nat}{l l':List (List FC)}(h:Seg a b l l')(hg:Grid sz l):Grid sz l':=fun r hr=>hg r (h.1.mem_iff.1 hr)
end
structure Cmp(W:List FC→Prop)(c:List FC→List FC→Int):Prop where
 asym:∀ {x y},W x→W y→c x y<0→¬ c y x<0
 trans:∀ {x y z},W x→W y→W z→¬ c y x<0→¬ c z y<0→¬ c z x<0
def Up(c:List FC→List FC→Int)(a b:Nat)(l:List (List FC)):Prop:=∀ i j x y,a≤i→i<j→j<b→l[i]?=some x→l[j]?=some y→¬ c y x<0
end
section
open Go
theorem GU{l:List (List FC)}{a m b:Nat}(h1:a≤m)(h2:m≤b)(h3:b≤l.length):∃ X U V Y,l=X++(U++(V++Y))∧X.length=a∧U.length=m-a∧V.length=b-m:=by
 refine⟨l.take a,(l.drop a).take (m-a),(l.drop m).take (b-m),l.drop b,?_,by simp;omega,by simp;omega,by simp;omega⟩
 have e2:(l.drop m).take (b-m)++l.drop b=l.drop m:=by
  have:=cM (b-m) (l.drop m)
  rwa [dp,show m+(b-m)=b by omega]at this
 have e1:(l.drop a).take (m-a)++l.drop m=l.drop a:=by
  have:=cM (m-a) (l.drop a)
  rwa [dp,show a+(m-a)=m by omega]at this
 rw [e2,e1,cM]
theorem Seg.mem{a b:Nat}{l l':List (List FC)}(h:Seg a b l l')(hab:a≤b)(hb:b≤l.length){i:Nat}{x:List FC}(h1:a≤i)(h2:i<b)(hx:l'[i]?=some x):∃ j,a≤j∧j<b∧l[j]?=some x:=by
 obtain⟨X,U,V,Y,e,lX,lU,lV⟩:=GU (ax a) hab hb;have hl:=h.len;obtain⟨X',U',V',Y',e',lX',lU',lV'⟩:=GU (l:=l') (ax a) hab (by omega)
 obtain rfl:U=[]:=cQ.1 (by omega)
 obtain rfl:U'=[]:=cQ.1 (by omega)
 obtain⟨hp,ht,hd⟩:=h;subst e;subst e'
 have eX:X'=X:=by
  simpa [c9 (show a≤X.length by omega),c9 (show a≤X'.length by omega),bu (show X.length≤a by omega),bu (show X'.length≤a by omega)]using ht
 have eY:Y'=Y:=by
  have q:∀ {A B C:List (List FC)},A.length=a→B.length=b-a→(A++([]++(B++C))).drop b=C:=by
   intro A B C hA hB;rw [ef,←de,List.drop_append_of_le_length (by simp;omega),List.drop_of_length_le (by simp;omega),ef]
  rwa [q lX' lV',q lX lV]at hd
 subst eX;subst eY
 have hp:V'.Perm V:=by
  have:=(List.perm_append_left_iff X').1 hp;simp only [ef]at this;exact(List.perm_append_right_iff Y').1 this
 rw [ef,bj (by omega),ag (by omega)]at hx
 obtain⟨j,hj⟩:=cH (hp.mem_iff.1 (aL hx));have hjl:=(ai.1 hj).1;refine⟨a+j,by omega,by omega,?_⟩
 rw [ef,bj (by omega),ag (by omega)]
 rw [←hj];congr 1;omega
section
variable{W:List FC→Prop}{c:List FC→List FC→Int}
theorem Up.mono{a b a' b':Nat}{l:List (List FC)}(h:Up c a b l)(ha:a≤a')(hb:b'≤b):Up c a' b' l:=
 fun i j x y h1 h2 h3 hx hy=>h i j x y (by omega) h2 (by omega) hx hy
theorem Up.one{a b:Nat}{l:List (List FC)}(h:b≤a+1):Up c a b l:=fun i j x y h1 h2 h3=>by omega
theorem Up.of{a b:Nat}{l l':List (List FC)}(h:Up c a b l)(he:∀ k,a≤k→k<b→l'[k]?=l[k]?):Up c a b l':=fun i j x y h1 h2 h3 hx hy=>
 h i j x y h1 h2 h3 (by rw [←he i h1 (by omega)];exact hx) (by rw [←he j (by omega) h3];exact hy)
def LeI(c:List FC→List FC→Int)(l:List (List FC))(i j:Nat):Prop:=∀ x y,l[i]?=some x→l[j]?=some y→¬ c y x<0
theorem LeI.trans{l:List (List FC)}{i j k:Nat}(hc:Cmp W c)(hW:∀ r ∈ l,W r)(h:LeI c l i j)(h':LeI c l j k)(hj:j<l.length):LeI c l i k:=fun x y hx hy=>by
 have hz:=ae hj;exact hc.trans (hW _ (aL hx)) (hW _ (aw hj)) (hW _ (aL hy)) (h _ _ hx hz) (h' _ _ hz hy)
end
end
section
open Go
def bf:C→Option Nat
 | .sl b _ _ _ _ _=>some b
 | _=>none
def LR(H:Heap)(c:C)(sz:Nat)(rows:List (List FC)):Prop:=(rows=[]∧(c=.f .aC∨c=.f .es))∨(rows≠[]∧∃ b ep,c=.sl b 0 rows.length 0 ep sz∧RB H b sz ep rows)
def Kb(H H':Heap)(c:C):Prop:=H.length≤H'.length∧∀(i:Nat) y,H[i]?=some y→bf c≠some i→H'[i]?=some y
section
variable{H H':Heap}{c:C}{sz:Nat}{rows:List (List FC)}
theorem LR.nil(H:Heap)(sz:Nat):LR H (.f .aC) sz []:=.inl ⟨rfl,.inl rfl⟩
theorem LR.keep(h:LR H c sz rows)(hk:∀ i y,H[i]?=some y→bf c=some i→H'[i]?=some y):LR H' c sz rows:=by
 rcases h with h | ⟨h,b,ep,rfl,h2⟩
 ·exact .inl h
 ·exact .inr ⟨h,b,ep,rfl,hk b _ h2 rfl⟩
theorem LR.push(h:LR H c sz rows)(J:Heap):LR (H++J) c sz rows:=h.keep fun i y hy _=>by rw [ag (aA hy)];exact hy
theorem LR.lt(h:LR H c sz rows){i:Nat}(hi:bf c=some i):i<H.length:=by
 rcases h with⟨_,rfl | rfl⟩ | ⟨h,b,ep,rfl,h2⟩
 ·cases hi
 ·cases hi
 ·cases hi;exact h2.lt
theorem LR.eG(h:LR H c sz rows){i:Nat}{cs:List C}{fl:Nat}(hx:H[i]?=some (.box cs fl)):bf c≠some i:=by
 rcases h with⟨_,rfl | rfl⟩ | ⟨h,b,ep,rfl,h2⟩
 ·simp [bf]
 ·simp [bf]
 ·intro e;cases e;unfold RB at h2;rw [h2]at hx;cases hx
theorem LR.set(h:LR H c sz rows){i:Nat}(hi:bf c≠some i)(x:Blk):LR (H.set i x) c sz rows:=h.keep fun j y hy hj=>by
 have:i≠j:=by rintro rfl;exact hi hj
 rw [am this];exact hy
theorem LR.len(h:LR H c sz rows):bQ H c=some rows.length:=by
 rcases h with⟨rfl,rfl | rfl⟩ | ⟨h,b,ep,rfl,h2⟩
 ·rfl
 ·rfl
 ·exact h2.len
theorem LR.ex(h:LR H c sz rows)(hg:Grid sz rows)(n:Nat):∃ g,exC (n+1) H c=some (sl g rows):=by
 rcases h with⟨rfl,rfl | rfl⟩ | ⟨h,b,ep,rfl,h2⟩
 ·exact⟨.nil,rfl⟩
 ·exact⟨.es,rfl⟩
 ·refine⟨.fs,?_⟩;have hl:rows.length*sz=rows.flatten.length:=(jT hg).symm;unfold RB at h2;simp only [uM,h2];rw [if_pos ⟨trivial,trivial,by rw [cF,cR,hl];exact ax _⟩,List.drop_zero,bu (by rw [cF];omega),zF]
  cases rows with
  | nil=>exact absurd rfl h
  | cons x l=>simp [sl]
theorem LR.app(h:LR H c sz rows)(hg:Grid sz rows)(hsz:sz≠0){row:List FC}(hr:row.length=sz){bytes:Nat}(hroom:bZ (rows.length+1) bytes=true){b1 fl1:Nat}(hb1:H[b1]?=some (.box (row.map .f) fl1)) :
  ∃ c' H',dI H sz bytes (.c c) (.c (.sl b1 0 1 1 0 sz))=some (.c c',H')∧LR H' c' sz (rows++[row])∧Kb H H' c∧(bf c'=bf c∨bf c'=some H.length):=by
 have hadd:fZ H sz (.c (.sl b1 0 1 1 0 sz))=some (1,row.map .f):=vU hb1 (by simp [hr])
 rcases h with⟨rfl,he⟩ | ⟨hne,b,ep,rfl,h2⟩
 ·have hroom:bZ 1 bytes=true:=by simpa using hroom
  refine⟨.sl H.length 0 1 0 0 sz,H++[.opn sz (row.map .f) 0 0 .loc],?_,.inr ⟨by simp,H.length,0,rfl,?_⟩,⟨by simp,fun i y hy _=>by rw [ag (aA hy)];exact hy⟩,.inr rfl⟩
  ·rcases he with rfl | rfl<;>simp [dI,hadd,hroom,hsz]
  ·simp [RB]
 ·have hlen:rows.length*sz=rows.flatten.length:=(jT hg).symm;unfold RB at h2;refine⟨.sl b 0 (rows.length+1) 0 (ep+1) sz,H.set b (.opn sz (rows.flatten.map .f++row.map .f) 0 (ep+1) .loc),?_,.inr ⟨by simp,b,ep+1,by simp,?_⟩,⟨by simp,fun i y hy hn=>?_⟩,.inl rfl⟩
  ·simp only [dI,hadd,hsz,if_false,h2,and_self,if_true];simp only [Nat.add_one_ne_zero,if_false];rw [if_pos ⟨trivial,by rw [cF];exact hlen,by simp⟩,hroom]
   simp
  ·unfold RB;rw [az (aA h2)];simp
  ·have:b≠i:=by rintro rfl;exact hn rfl
   rw [am this];exact hy
theorem Kb.refl(H:Heap)(c:C):Kb H H c:=⟨ax _,fun _ _ h _=>h⟩
theorem Kb.aX0{b o l cp ep s:Nat}(h:Fm b H H'):Kb H H' (.sl b o l cp ep s):=⟨h.1,fun i y hy hn=>by
 have:i≠b:=by rintro rfl;exact hn rfl
 exact h.get hy this⟩
end
end
section
open Go
theorem DX{α:Type}{sz:Nat}:∀ {rows:List (List α)} {j:Nat} {row:List α},(∀ r ∈ rows,r.length=sz)→rows[j]?=some row→(rows.flatten.drop (j*sz)).take sz=row
 | [],j,row,_,hj=>by simp at hj
 | r::rows,0,row,hg,hj=>by
  simp at hj;subst hj;have:=hg r bh;subst this
  simp
 | r::rows,j+1,row,hg,hj=>by
  have hr:=hg r bh;have ih:=DX (rows:=rows) (j:=j) (row:=row) (fun x hx=>hg x (bA _ hx)) (by simpa using hj)
  rw [b9,show(j+1)*sz=r.length+j*sz by rw [hr,cE];omega,←dp,List.drop_left]
  exact ih
theorem Dk{α:Type}:∀ {cs:List α} {k:Nat} {x:α},k<cs.length→over cs k [x]=cs.set k x
 | [],k,x,h=>by simp at h
 | c::cs,0,x,_=>by simp [over]
 | c::cs,k+1,x,h=>by
  have:=Dk (cs:=cs) (k:=k) (x:=x) (by simpa using h)
  simp only [over,b7,List.length_nil]at this ⊢;rw [List.take_succ_cons,eg,←this];simp
section
variable{H:Heap}{b sz ep j k n:Nat}{rows:List (List FC)}{row:List FC}
theorem RB.ldc{x:FC}(h:RB H b sz ep rows)(hg:Grid sz rows)(hj:rows[j]?=some row)(hk:row[k]?=some x):ldV H none (.c (.ptr b (j*sz+k) ep))=some (.c (.f x)):=by
 unfold RB at h;have hlen:row.length=sz:=hg row (aL hj);have hkl:=(ai.1 hk).1;have:=flat_get hg hj (by omega:k<sz)
 simp only [ak,h,if_true];rw [ek.symm];have e:(rows.flatten.drop (j*sz+k))[0]?=some x:=by rw [bl,Nat.add_zero,this,hk]
 cases hd:rows.flatten.drop (j*sz+k)with
 | nil=>rw [hd]at e;simp at e
 | cons y ys=>rw [hd]at e;simp at e;simp [aO,e]
end
def aTC(sz:Nat)(zs:List FC)(bytes:Nat):AFunc:=⟨[P.nat 0],[.tmp (P.nat 2)],.seq (.region [⟨D 2,.mov (.k (.c (.f (.aC)))),none⟩] []) (.seq (.seq (.region [⟨D 3,.mov (R 0),none⟩,⟨D 4,.eq false .sl (R 3) (.k (.c (.f (.aC)))),none⟩] [])
 (.cond (R 4) (.seq (.region [⟨D 2,.mov (.k (.c (.f (.aC)))),none⟩] []) .ret) .skip)) (.seq (.region [⟨D 5,.aV sz zs 0 [],none⟩,⟨D 6,.mov (R 0),none⟩,⟨D 7,.append sz bytes (R 5) (R 6),none⟩,⟨D 2,.mov (R 7),none⟩] []) .ret))⟩
section
variable{tab:Nat→Option AFunc}{F sz bytes:Nat}{zs:List FC}{H:Heap}{g:Tg}{rows:List (List FC)}
theorem GL{cs:List FC}{n:Nat}:eqV H .sl (.c (.f (.fs cs n))) (.c (.f .aC))=some false:=rfl
theorem aId:eqV H .sl (.c (.f .aC)) (.c (.f .aC))=some true:=rfl
theorem aZl:eqV H .sl (.c (.f .es)) (.c (.f .aC))=some false:=rfl
theorem ahz(hT:tab F=some (aTC sz zs bytes))(hsz:sz≠0)(hg:Grid sz rows)(hroom:bZ rows.length bytes=true) :
  ∃ r H',Ev tab (.fn F) [.c (.f (sl g rows))] H r H'∧∃ c J,r=.c c∧H'=H++J∧LR (H++J) c sz rows∧∀ i,bf c=some i→H.length≤i:=by
 refine fV (C:=fun r H'=>∃ c J,r=.c c∧H'=H++J∧LR (H++J) c sz rows∧∀ i,bf c=some i→H.length≤i) hT rfl fun Q hQ=>?_
 refine kw_seq (kw_region (.inl rfl) ?_);simp;refine kw_seq ?_;refine kw_seq (kw_region (.inl rfl) ?_)
 cases rows with
 | nil=>
  cases g with
  | nil=>
   simp [sl,Tg.fc,aId];refine aj (by simp) ?_
   refine kw_seq (kw_region (.inl rfl) ?_);simp
   exact aH (hQ _ _ (.c (.f .aC)) rfl (by simp [Km.results,aZ]) ⟨_,[],rfl,by simp,.inl ⟨rfl,.inl rfl⟩,by simp [bf]⟩)
  | es=>
   simp [sl,Tg.fc,aZl];refine ah (by simp) (aG ?_)
   refine kw_seq (kw_region (.inl rfl) ?_);simp [dI,fZ,bQ,dQ,hsz]
   exact aH (hQ _ _ (.c (.f .es)) rfl (by simp [Km.results,aZ]) ⟨_,[],rfl,by simp,.inl ⟨rfl,.inr rfl⟩,by simp [bf]⟩)
  | fs=>
   simp [sl,Tg.fc,GL];refine ah (by simp) (aG ?_)
   refine kw_seq (kw_region (.inl rfl) ?_);simp [dI,fZ,bQ,dQ,hsz]
   exact aH (hQ _ _ (.c (.f .es)) rfl (by simp [Km.results,aZ]) ⟨_,[],rfl,by simp,.inl ⟨rfl,.inr rfl⟩,by simp [bf]⟩)
 | cons x r=>
  have hadd:fZ H sz (.c (.f (.fs (x::r).flatten (x::r).length)))=some ((x::r).length,(x::r).flatten.map .f):=by
   have h1:=ahC (H:=H) (g:=.fs) hg;have h2:=zG (H:=H) .fs (x::r);simp only [sl,ei,aE,if_false]at h1 h2;simp only [fZ,h1,h2]
  have hroom':bZ (r.length+1) bytes=true:=by simpa using hroom
  simp only [sl,ei,aE,if_false];simp [GL];refine ah (by simp) (aG ?_)
  refine kw_seq (kw_region (.inl rfl) ?_);simp only [b9,b7]at hadd;simp [dI,hadd,hsz,hroom'];refine aH (hQ _ _ (.c (.sl H.length 0 (r.length+1) 0 0 sz)) rfl (by simp [Km.results,aZ]) ⟨_,[.opn sz ((x::r).flatten.map .f) 0 0 .loc],rfl,by simp,.inr ⟨by simp,H.length,0,rfl,by simp [RB]⟩,by simp [bf]⟩)
end
end
section
open Go
end
section
set_option linter.unusedVariables false
open Go
abbrev yn(d:Nat)(op:AOp):AOper:=⟨D d,op,none⟩
abbrev ym(d k:Nat):AOper:=⟨D d,.mov (R k),none⟩
abbrev yi(n:Int):Arg:=.k (.c (.f (.int .i64 n)))
abbrev yt:Arg:=.k (.c (.f (.bool true)))
abbrev yf:Arg:=.k (.c (.f (.bool false)))
abbrev ys(z a b:Nat):AOper:=⟨none,.store z (R a) (R b),none⟩
abbrev yb(d:Nat)(o:BinOp)(a b:Nat):AOper:=⟨D d,.bin o (R a) (R b),none⟩
abbrev ya(d z a b:Nat):AOper:=⟨D d,.aU z none (R a) (R b),none⟩
abbrev yl(d z a:Nat):AOper:=⟨D d,.load (some z) (R a),none⟩
abbrev yr(l:List AOper):ACode:=.region l []
structure Srt where
 pdq:Nat
 ins:Nat
 heap:Nat
 sift:Nat
 brk:Nat
 piv:Nat
 rev:Nat
 part:Nat
 peq:Nat
 pins:Nat
 Fh:Nat
 med:Nat
 ord:Nat
 npt:Nat
 nxt:Nat
 len:Nat
 a3k:Nat
 a3l:Nat
 rot:Nat
 swr:Nat
def aWR(σ:Srt)(sz:Nat):ACode:=yr [yn 10 (.mov yt)]
def aWP(σ:Srt)(sz:Nat):ACode:=yr [yn 11 (.mov yt)]
def aWL(σ:Srt)(sz:Nat):ACode:=yr [ym 21 2,ym 22 1,yb 23 .sub 21 22,ym 12 23]
def aR7(σ:Srt)(sz:Nat):ACode:=yr [ym 24 12,yn 25 (.bin .leq (R 24) (yi 12))]
def aR4(σ:Srt)(sz:Nat):ACode:=yr [ym 26 0,ym 27 1,ym 28 2,ym 29 4,yn 30 (.call σ.ins [R 26,R 27,R 28,R 29] true)]
def aR5(σ:Srt)(sz:Nat):ACode:=.seq (aR4 σ sz) .ret
def aR6(σ:Srt)(sz:Nat):ACode:=.cond (R 25) (aR5 σ sz) .skip
def aR8(σ:Srt)(sz:Nat):ACode:=.seq (aR7 σ sz) (aR6 σ sz)
def aR1(σ:Srt)(sz:Nat):ACode:=yr [ym 31 3,yn 32 (.bin .eql (R 31) (yi 0))]
def aRY(σ:Srt)(sz:Nat):ACode:=yr [ym 33 0,ym 34 1,ym 35 2,ym 36 4,yn 37 (.call σ.heap [R 33,R 34,R 35,R 36] true)]
def aRZ(σ:Srt)(sz:Nat):ACode:=.seq (aRY σ sz) .ret
def aR0(σ:Srt)(sz:Nat):ACode:=.cond (R 32) (aRZ σ sz) .skip
def aR2(σ:Srt)(sz:Nat):ACode:=.seq (aR1 σ sz) (aR0 σ sz)
def aRV(σ:Srt)(sz:Nat):ACode:=yr [ym 38 10,yn 39 (.un .not (R 38))]
def aRS(σ:Srt)(sz:Nat):ACode:=yr [ym 40 0,ym 41 1,ym 42 2,ym 43 4,yn 44 (.call σ.brk [R 40,R 41,R 42,R 43] true)]
def aRR(σ:Srt)(sz:Nat):ACode:=yr [ym 45 3,yn 46 (.bin .sub (R 45) (yi 1)),ym 3 46]
def aRT(σ:Srt)(sz:Nat):ACode:=.seq (aRS σ sz) (aRR σ sz)
def aRU(σ:Srt)(sz:Nat):ACode:=.cond (R 39) (aRT σ sz) .skip
def aRW(σ:Srt)(sz:Nat):ACode:=.seq (aRV σ sz) (aRU σ sz)
def aRQ(σ:Srt)(sz:Nat):ACode:=yr [ym 48 0,ym 49 1,ym 50 2,ym 51 4,yn 52 (.call σ.piv [R 48,R 49,R 50,R 51] true),ym 47 52,yn 53 (.extract (R 47) 0),yn 54 (.extract (R 47) 1),ym 13 53,ym 14 54]
def aRN(σ:Srt)(sz:Nat):ACode:=yr [ym 55 14,yn 56 (.bin .eql (R 55) (yi 2))]
def aRK(σ:Srt)(sz:Nat):ACode:=yr [ym 57 0,ym 58 1,ym 59 2,ym 60 4,yn 61 (.call σ.rev [R 57,R 58,R 59,R 60] true)]
def aRI(σ:Srt)(sz:Nat):ACode:=yr [ym 62 2,yn 63 (.bin .sub (R 62) (yi 1)),ym 64 13,ym 65 1,yb 66 .sub 64 65,yb 67 .sub 63 66,ym 13 67]
def aRH(σ:Srt)(sz:Nat):ACode:=yr [yn 14 (.mov (yi 1))]
def aRJ(σ:Srt)(sz:Nat):ACode:=.seq (aRI σ sz) (aRH σ sz)
def aRL(σ:Srt)(sz:Nat):ACode:=.seq (aRK σ sz) (aRJ σ sz)
def aRM(σ:Srt)(sz:Nat):ACode:=.cond (R 56) (aRL σ sz) .skip
def aRO(σ:Srt)(sz:Nat):ACode:=.seq (aRN σ sz) (aRM σ sz)
def aRF(σ:Srt)(sz:Nat):ACode:=yr [ym 68 10,ym 69 68,⟨D 70,.mov (R 11),G 69 true⟩,yn 71 (.pick (R 69) (R 70) yf),ym 72 71,⟨D 73,.mov (R 14),G 72 true⟩,⟨D 74,.bin .eql (R 73) (yi 1),G 72 true⟩,yn 75 (.pick (R 72) (R 74) yf)]
def aRC(σ:Srt)(sz:Nat):ACode:=yr [ym 76 0,ym 77 1,ym 78 2,ym 79 4,yn 80 (.call σ.pins [R 76,R 77,R 78,R 79] true)]
def aRB(σ:Srt)(sz:Nat):ACode:=.cond (R 80) .ret .skip
def aRD(σ:Srt)(sz:Nat):ACode:=.seq (aRC σ sz) (aRB σ sz)
def aRE(σ:Srt)(sz:Nat):ACode:=.cond (R 75) (aRD σ sz) .skip
def aRG(σ:Srt)(sz:Nat):ACode:=.seq (aRF σ sz) (aRE σ sz)
def aRz(σ:Srt)(sz:Nat):ACode:=yr [ym 81 1,yn 82 (.bin .gtr (R 81) (yi 0)),ym 83 82,⟨D 84,.mov (R 4),G 83 true⟩,⟨D 85,.mov (R 0),G 83 true⟩,⟨D 86,.mov (R 1),G 83 true⟩,⟨D 87,.bin .sub (R 86) (yi 1),G 83 true⟩,⟨D 88,.aU sz none (R 85) (R 87),G 83 true⟩,⟨D 89,.load (some sz) (R 88),G 83 true⟩,⟨D 90,.mov (R 0),G 83 true⟩,⟨D 91,.mov (R 13),G 83 true⟩,⟨D 92,.aU sz none (R 90) (R 91),G 83 true⟩,⟨D 93,.load (some sz) (R 92),G 83 true⟩,⟨D 94,.bY (R 84) [R 89,R 93] true,G 83 true⟩,⟨D 95,.bin .lss (R 94) (yi 0),G 83 true⟩,⟨D 96,.un .not (R 95),G 83 true⟩,yn 97 (.pick (R 83) (R 96) yf)]
def aRw(σ:Srt)(sz:Nat):ACode:=yr [ym 98 0,ym 99 1,ym 100 2,ym 101 13,ym 102 4,yn 103 (.call σ.peq [R 98,R 99,R 100,R 101,R 102] true),ym 15 103]
def aRu(σ:Srt)(sz:Nat):ACode:=yr [ym 104 15,ym 1 104]
def aRv(σ:Srt)(sz:Nat):ACode:=.seq (aRu σ sz) (.exit 1)
def aRx(σ:Srt)(sz:Nat):ACode:=.seq (aRw σ sz) (aRv σ sz)
def aRy(σ:Srt)(sz:Nat):ACode:=.cond (R 97) (aRx σ sz) .skip
def aRA(σ:Srt)(sz:Nat):ACode:=.seq (aRz σ sz) (aRy σ sz)
def aRt(σ:Srt)(sz:Nat):ACode:=yr [ym 106 0,ym 107 1,ym 108 2,ym 109 13,ym 110 4,yn 111 (.call σ.part [R 106,R 107,R 108,R 109,R 110] true),ym 105 111,yn 112 (.extract (R 105) 0),yn 113 (.extract (R 105) 1),ym 16 112,ym 17 113]
def aRr(σ:Srt)(sz:Nat):ACode:=yr [ym 114 17,ym 11 114]
def aRp(σ:Srt)(sz:Nat):ACode:=yr [ym 115 16,ym 116 1,yb 117 .sub 115 116,ym 118 2,ym 119 16,yb 120 .sub 118 119,ym 18 117,ym 19 120]
def aRn(σ:Srt)(sz:Nat):ACode:=yr [ym 121 12,yn 122 (.bin .quo (R 121) (yi 8)),ym 20 122]
def aRl(σ:Srt)(sz:Nat):ACode:=yr [ym 123 18,ym 124 19,yb 125 .lss 123 124]
def aRi(σ:Srt)(sz:Nat):ACode:=yr [ym 126 18,ym 127 20,yb 128 .geq 126 127,ym 10 128]
def aRg(σ:Srt)(sz:Nat):ACode:=yr [ym 129 0,ym 130 1,ym 131 16,ym 132 3,ym 133 4,yn 134 (.call σ.pdq [R 129,R 130,R 131,R 132,R 133] true)]
def aRf(σ:Srt)(sz:Nat):ACode:=yr [ym 135 16,yn 136 (.bin .add (R 135) (yi 1)),ym 1 136]
def aRh(σ:Srt)(sz:Nat):ACode:=.seq (aRg σ sz) (aRf σ sz)
def aRj(σ:Srt)(sz:Nat):ACode:=.seq (aRi σ sz) (aRh σ sz)
def aRd(σ:Srt)(sz:Nat):ACode:=yr [ym 137 19,ym 138 20,yb 139 .geq 137 138,ym 10 139]
def aRb(σ:Srt)(sz:Nat):ACode:=yr [ym 140 0,ym 141 16,yn 142 (.bin .add (R 141) (yi 1)),ym 143 2,ym 144 3,ym 145 4,yn 146 (.call σ.pdq [R 140,R 142,R 143,R 144,R 145] true)]
def aRa(σ:Srt)(sz:Nat):ACode:=yr [ym 147 16,ym 2 147]
def aRc(σ:Srt)(sz:Nat):ACode:=.seq (aRb σ sz) (aRa σ sz)
def aRe(σ:Srt)(sz:Nat):ACode:=.seq (aRd σ sz) (aRc σ sz)
def aRk(σ:Srt)(sz:Nat):ACode:=.cond (R 125) (aRj σ sz) (aRe σ sz)
def aRm(σ:Srt)(sz:Nat):ACode:=.seq (aRl σ sz) (aRk σ sz)
def aRo(σ:Srt)(sz:Nat):ACode:=.seq (aRn σ sz) (aRm σ sz)
def aRq(σ:Srt)(sz:Nat):ACode:=.seq (aRp σ sz) (aRo σ sz)
def aRs(σ:Srt)(sz:Nat):ACode:=.seq (aRr σ sz) (aRq σ sz)
def aga(σ:Srt)(sz:Nat):ACode:=.seq (aRt σ sz) (aRs σ sz)
def agb(σ:Srt)(sz:Nat):ACode:=.seq (aRA σ sz) (aga σ sz)
def agc(σ:Srt)(sz:Nat):ACode:=.seq (aRG σ sz) (agb σ sz)
def aRP(σ:Srt)(sz:Nat):ACode:=.seq (aRO σ sz) (agc σ sz)
def agd(σ:Srt)(sz:Nat):ACode:=.seq (aRQ σ sz) (aRP σ sz)
def aRX(σ:Srt)(sz:Nat):ACode:=.seq (aRW σ sz) (agd σ sz)
def aR3(σ:Srt)(sz:Nat):ACode:=.seq (aR2 σ sz) (aRX σ sz)
def aWK(σ:Srt)(sz:Nat):ACode:=.seq (aR8 σ sz) (aR3 σ sz)
def aWM(σ:Srt)(sz:Nat):ACode:=.seq (aWL σ sz) (aWK σ sz)
def FX(σ:Srt)(sz:Nat):ACode:=.block 1 (aWM σ sz)
def aWN(σ:Srt)(sz:Nat):ACode:=.loop (FX σ sz)
def aWO(σ:Srt)(sz:Nat):ACode:=.block 0 (aWN σ sz)
def aWQ(σ:Srt)(sz:Nat):ACode:=.seq (aWP σ sz) (aWO σ sz)
def aWS(σ:Srt)(sz:Nat):ACode:=.seq (aWR σ sz) (aWQ σ sz)
def af9(σ:Srt)(sz:Nat):AFunc:=⟨[P.nat 0,P.nat 1,P.nat 2,P.nat 3,P.nat 4],[],(aWS σ sz)⟩
def aYI(σ:Srt)(sz:Nat):ACode:=yr [ym 10 1,yn 11 (.bin .add (R 10) (yi 1)),ym 8 11]
def aYE(σ:Srt)(sz:Nat):ACode:=yr [ym 12 8,ym 13 2,yb 14 .lss 12 13]
def aYD(σ:Srt)(sz:Nat):ACode:=.cond (R 14) .skip (.exit 0)
def aYF(σ:Srt)(sz:Nat):ACode:=.seq (aYE σ sz) (aYD σ sz)
def aS7(σ:Srt)(sz:Nat):ACode:=yr [ym 17 8,ym 9 17]
def aS2(σ:Srt)(sz:Nat):ACode:=yr [ym 18 9,ym 19 1,yb 20 .gtr 18 19,ym 21 20,⟨D 22,.mov (R 3),G 21 true⟩,⟨D 23,.mov (R 0),G 21 true⟩,⟨D 24,.mov (R 9),G 21 true⟩,⟨D 25,.aU sz none (R 23) (R 24),G 21 true⟩,⟨D 26,.load (some sz) (R 25),G 21 true⟩,⟨D 27,.mov (R 0),G 21 true⟩,⟨D 28,.mov (R 9),G 21 true⟩,⟨D 29,.bin .sub (R 28) (yi 1),G 21 true⟩,⟨D 30,.aU sz none (R 27) (R 29),G 21 true⟩,⟨D 31,.load (some sz) (R 30),G 21 true⟩,⟨D 32,.bY (R 22) [R 26,R 31] true,G 21 true⟩,⟨D 33,.bin .lss (R 32) (yi 0),G 21 true⟩,yn 34 (.pick (R 21) (R 33) yf)]
def aS1(σ:Srt)(sz:Nat):ACode:=.cond (R 34) .skip (.exit 2)
def aS3(σ:Srt)(sz:Nat):ACode:=.seq (aS2 σ sz) (aS1 σ sz)
def aSY(σ:Srt)(sz:Nat):ACode:=yr [ym 37 0,ym 38 9,ym 39 0,ym 40 9,yn 41 (.bin .sub (R 40) (yi 1)),ym 42 0,ym 43 9,yn 44 (.bin .sub (R 43) (yi 1)),ya 45 sz 42 44,yl 46 sz 45,ym 47 0,ym 48 9,ya 49 sz 47 48,yl 50 sz 49,ya 51 sz 37 38,ys sz 51 46,ya 52 sz 39 41,ys sz 52 50]
def aSZ(σ:Srt)(sz:Nat):ACode:=.block 3 (aSY σ sz)
def aSX(σ:Srt)(sz:Nat):ACode:=yr [ym 35 9,yn 36 (.bin .sub (R 35) (yi 1)),ym 9 36]
def aS0(σ:Srt)(sz:Nat):ACode:=.seq (aSZ σ sz) (aSX σ sz)
def aS4(σ:Srt)(sz:Nat):ACode:=.seq (aS3 σ sz) (aS0 σ sz)
def aS5(σ:Srt)(sz:Nat):ACode:=.loop (aS4 σ sz)
def aS6(σ:Srt)(sz:Nat):ACode:=.block 2 (aS5 σ sz)
def aS8(σ:Srt)(sz:Nat):ACode:=.seq (aS7 σ sz) (aS6 σ sz)
def aYB(σ:Srt)(sz:Nat):ACode:=.block 1 (aS8 σ sz)
def Jk(σ:Srt)(sz:Nat):ACode:=yr [ym 15 8,yn 16 (.bin .add (R 15) (yi 1)),ym 8 16]
def aYC(σ:Srt)(sz:Nat):ACode:=.seq (aYB σ sz) (Jk σ sz)
def UH(σ:Srt)(sz:Nat):ACode:=.seq (aYF σ sz) (aYC σ sz)
def aYG(σ:Srt)(sz:Nat):ACode:=.loop (UH σ sz)
def aYH(σ:Srt)(sz:Nat):ACode:=.block 0 (aYG σ sz)
def aYJ(σ:Srt)(sz:Nat):ACode:=.seq (aYI σ sz) (aYH σ sz)
def MJ(σ:Srt)(sz:Nat):AFunc:=⟨[P.nat 0,P.nat 1,P.nat 2,P.nat 3],[],(aYJ σ sz)⟩
def aTs(σ:Srt)(sz:Nat):ACode:=yr [ym 13 1,ym 8 13]
def aTq(σ:Srt)(sz:Nat):ACode:=yr [yn 9 (.mov (yi 0))]
def aTo(σ:Srt)(sz:Nat):ACode:=yr [ym 14 2,ym 15 1,yb 16 .sub 14 15,ym 10 16]
def aTl(σ:Srt)(sz:Nat):ACode:=yr [ym 17 10,yn 18 (.bin .sub (R 17) (yi 1)),yn 19 (.bin .quo (R 18) (yi 2)),ym 11 19]
def aH2(σ:Srt)(sz:Nat):ACode:=yr [ym 20 11,yn 21 (.bin .geq (R 20) (yi 0))]
def aH1(σ:Srt)(sz:Nat):ACode:=.cond (R 21) .skip (.exit 0)
def aH3(σ:Srt)(sz:Nat):ACode:=.seq (aH2 σ sz) (aH1 σ sz)
def aHY(σ:Srt)(sz:Nat):ACode:=yr [ym 24 0,ym 25 11,ym 26 10,ym 27 8,ym 28 3,yn 29 (.call σ.sift [R 24,R 25,R 26,R 27,R 28] true)]
def aHZ(σ:Srt)(sz:Nat):ACode:=.block 1 (aHY σ sz)
def aHX(σ:Srt)(sz:Nat):ACode:=yr [ym 22 11,yn 23 (.bin .sub (R 22) (yi 1)),ym 11 23]
def aH0(σ:Srt)(sz:Nat):ACode:=.seq (aHZ σ sz) (aHX σ sz)
def aH4(σ:Srt)(sz:Nat):ACode:=.seq (aH3 σ sz) (aH0 σ sz)
def aH5(σ:Srt)(sz:Nat):ACode:=.loop (aH4 σ sz)
def aTk(σ:Srt)(sz:Nat):ACode:=.block 0 (aH5 σ sz)
def aTm(σ:Srt)(sz:Nat):ACode:=.seq (aTl σ sz) (aTk σ sz)
def aHW(σ:Srt)(sz:Nat):ACode:=yr [ym 30 10,yn 31 (.bin .sub (R 30) (yi 1)),ym 12 31]
def aHR(σ:Srt)(sz:Nat):ACode:=yr [ym 32 12,yn 33 (.bin .geq (R 32) (yi 0))]
def aHQ(σ:Srt)(sz:Nat):ACode:=.cond (R 33) .skip (.exit 2)
def aHS(σ:Srt)(sz:Nat):ACode:=.seq (aHR σ sz) (aHQ σ sz)
def aHM(σ:Srt)(sz:Nat):ACode:=yr [ym 36 0,ym 37 8,ym 38 0,ym 39 8,ym 40 12,yb 41 .add 39 40,ym 42 0,ym 43 8,ym 44 12,yb 45 .add 43 44,ya 46 sz 42 45,yl 47 sz 46,ym 48 0,ym 49 8,ya 50 sz 48 49,yl 51 sz 50,ya 52 sz 36 37,ys sz 52 47,ya 53 sz 38 41,ys sz 53 51]
def aHL(σ:Srt)(sz:Nat):ACode:=yr [ym 54 0,ym 55 9,ym 56 12,ym 57 8,ym 58 3,yn 59 (.call σ.sift [R 54,R 55,R 56,R 57,R 58] true)]
def aHN(σ:Srt)(sz:Nat):ACode:=.seq (aHM σ sz) (aHL σ sz)
def aHO(σ:Srt)(sz:Nat):ACode:=.block 3 (aHN σ sz)
def aHK(σ:Srt)(sz:Nat):ACode:=yr [ym 34 12,yn 35 (.bin .sub (R 34) (yi 1)),ym 12 35]
def aHP(σ:Srt)(sz:Nat):ACode:=.seq (aHO σ sz) (aHK σ sz)
def aHT(σ:Srt)(sz:Nat):ACode:=.seq (aHS σ sz) (aHP σ sz)
def aHU(σ:Srt)(sz:Nat):ACode:=.loop (aHT σ sz)
def aHV(σ:Srt)(sz:Nat):ACode:=.block 2 (aHU σ sz)
def UN(σ:Srt)(sz:Nat):ACode:=.seq (aHW σ sz) (aHV σ sz)
def aTn(σ:Srt)(sz:Nat):ACode:=.seq (aTm σ sz) (UN σ sz)
def aTp(σ:Srt)(sz:Nat):ACode:=.seq (aTo σ sz) (aTn σ sz)
def aTr(σ:Srt)(sz:Nat):ACode:=.seq (aTq σ sz) (aTp σ sz)
def aTt(σ:Srt)(sz:Nat):ACode:=.seq (aTs σ sz) (aTr σ sz)
def QK(σ:Srt)(sz:Nat):AFunc:=⟨[P.nat 0,P.nat 1,P.nat 2,P.nat 3],[],(aTt σ sz)⟩
def aPM(σ:Srt)(sz:Nat):ACode:=yr [ym 12 1,ym 10 12]
def aPI(σ:Srt)(sz:Nat):ACode:=yr [ym 13 10,yn 14 (.bin .mul (yi 2) (R 13)),yn 15 (.bin .add (R 14) (yi 1)),ym 11 15]
def aPF(σ:Srt)(sz:Nat):ACode:=yr [ym 16 11,ym 17 2,yb 18 .geq 16 17]
def aET(σ:Srt)(sz:Nat):ACode:=.cond (R 18) (.exit 0) .skip
def aPG(σ:Srt)(sz:Nat):ACode:=.seq (aPF σ sz) (aET σ sz)
def aEQ(σ:Srt)(sz:Nat):ACode:=yr [ym 19 11,yn 20 (.bin .add (R 19) (yi 1)),ym 21 2,yb 22 .lss 20 21,ym 23 22,⟨D 24,.mov (R 4),G 23 true⟩,⟨D 25,.mov (R 0),G 23 true⟩,⟨D 26,.mov (R 3),G 23 true⟩,⟨D 27,.mov (R 11),G 23 true⟩,⟨D 28,.bin .add (R 26) (R 27),G 23 true⟩,⟨D 29,.aU sz none (R 25) (R 28),G 23 true⟩,⟨D 30,.load (some sz) (R 29),G 23 true⟩,⟨D 31,.mov (R 0),G 23 true⟩,⟨D 32,.mov (R 3),G 23 true⟩,⟨D 33,.mov (R 11),G 23 true⟩,⟨D 34,.bin .add (R 32) (R 33),G 23 true⟩,⟨D 35,.bin .add (R 34) (yi 1),G 23 true⟩,⟨D 36,.aU sz none (R 31) (R 35),G 23 true⟩,⟨D 37,.load (some sz) (R 36),G 23 true⟩,⟨D 38,.bY (R 24) [R 30,R 37] true,G 23 true⟩,⟨D 39,.bin .lss (R 38) (yi 0),G 23 true⟩,yn 40 (.pick (R 23) (R 39) yf)]
def aEO(σ:Srt)(sz:Nat):ACode:=yr [ym 41 11,yn 42 (.bin .add (R 41) (yi 1)),ym 11 42]
def aEP(σ:Srt)(sz:Nat):ACode:=.cond (R 40) (aEO σ sz) .skip
def aER(σ:Srt)(sz:Nat):ACode:=.seq (aEQ σ sz) (aEP σ sz)
def aEM(σ:Srt)(sz:Nat):ACode:=yr [ym 43 4,ym 44 0,ym 45 3,ym 46 10,yb 47 .add 45 46,ya 48 sz 44 47,yl 49 sz 48,ym 50 0,ym 51 3,ym 52 11,yb 53 .add 51 52,ya 54 sz 50 53,yl 55 sz 54,yn 56 (.bY (R 43) [R 49,R 55] true),yn 57 (.bin .lss (R 56) (yi 0)),yn 58 (.un .not (R 57))]
def aEL(σ:Srt)(sz:Nat):ACode:=.cond (R 58) .ret .skip
def aEN(σ:Srt)(sz:Nat):ACode:=.seq (aEM σ sz) (aEL σ sz)
def aEJ(σ:Srt)(sz:Nat):ACode:=yr [ym 59 0,ym 60 3,ym 61 10,yb 62 .add 60 61,ym 63 0,ym 64 3,ym 65 11,yb 66 .add 64 65,ym 67 0,ym 68 3,ym 69 11,yb 70 .add 68 69,ya 71 sz 67 70,yl 72 sz 71,ym 73 0,ym 74 3,ym 75 10,yb 76 .add 74 75,ya 77 sz 73 76,yl 78 sz 77,ya 79 sz 59 62,ys sz 79 72,ya 80 sz 63 66,ys sz 80 78]
def aEI(σ:Srt)(sz:Nat):ACode:=yr [ym 81 11,ym 10 81]
def aEK(σ:Srt)(sz:Nat):ACode:=.seq (aEJ σ sz) (aEI σ sz)
def TV(σ:Srt)(sz:Nat):ACode:=.seq (aEN σ sz) (aEK σ sz)
def aES(σ:Srt)(sz:Nat):ACode:=.seq (aER σ sz) (TV σ sz)
def aPH(σ:Srt)(sz:Nat):ACode:=.seq (aPG σ sz) (aES σ sz)
def aPJ(σ:Srt)(sz:Nat):ACode:=.seq (aPI σ sz) (aPH σ sz)
def afB(σ:Srt)(sz:Nat):ACode:=.block 1 (aPJ σ sz)
def aPK(σ:Srt)(sz:Nat):ACode:=.loop (afB σ sz)
def aPL(σ:Srt)(sz:Nat):ACode:=.block 0 (aPK σ sz)
def aPN(σ:Srt)(sz:Nat):ACode:=.seq (aPM σ sz) (aPL σ sz)
def IJ(σ:Srt)(sz:Nat):AFunc:=⟨[P.nat 0,P.nat 1,P.nat 2,P.nat 3,P.nat 4],[],(aPN σ sz)⟩
def aZM(σ:Srt)(sz:Nat):ACode:=yr [ym 13 2,ym 14 1,yb 15 .sub 13 14,ym 8 15]
def aZK(σ:Srt)(sz:Nat):ACode:=yr [ym 16 8,yn 17 (.bin .geq (R 16) (yi 8))]
def aZH(σ:Srt)(sz:Nat):ACode:=yr [ym 18 8,yn 19 (.cvi .u64 (R 18)),yn 9 (.alloc [(.int .u64 0)]),ys 1 9 19]
def aZF(σ:Srt)(sz:Nat):ACode:=yr [ym 20 8,yn 21 (.call σ.npt [R 20] false),ym 10 21]
def aUb(σ:Srt)(sz:Nat):ACode:=yr [ym 22 1,ym 23 8,yn 24 (.bin .quo (R 23) (yi 4)),yn 25 (.bin .mul (R 24) (yi 2)),yb 26 .add 22 25,yn 27 (.bin .sub (R 26) (yi 1)),ym 11 27]
def aT7(σ:Srt)(sz:Nat):ACode:=yr [ym 28 11,ym 29 1,ym 30 8,yn 31 (.bin .quo (R 30) (yi 4)),yn 32 (.bin .mul (R 31) (yi 2)),yb 33 .add 29 32,yn 34 (.bin .add (R 33) (yi 1)),yb 35 .leq 28 34]
def aT6(σ:Srt)(sz:Nat):ACode:=.cond (R 35) .skip (.exit 0)
def aT8(σ:Srt)(sz:Nat):ACode:=.seq (aT7 σ sz) (aT6 σ sz)
def aT2(σ:Srt)(sz:Nat):ACode:=yr [yn 38 (.call σ.nxt [R 9] true),ym 39 10,yn 40 (.bin .sub (R 39) (.k (.c (.f (.int .u64 1))))),yb 41 .and 38 40,yn 42 (.cvi .i64 (R 41)),ym 12 42]
def aTZ(σ:Srt)(sz:Nat):ACode:=yr [ym 43 12,ym 44 8,yb 45 .geq 43 44]
def aTX(σ:Srt)(sz:Nat):ACode:=yr [ym 46 12,ym 47 8,yb 48 .sub 46 47,ym 12 48]
def aTY(σ:Srt)(sz:Nat):ACode:=.cond (R 45) (aTX σ sz) .skip
def aT0(σ:Srt)(sz:Nat):ACode:=.seq (aTZ σ sz) (aTY σ sz)
def ahO(σ:Srt)(sz:Nat):ACode:=yr [ym 49 0,ym 50 11,ym 51 0,ym 52 1,ym 53 12,yb 54 .add 52 53,ym 55 0,ym 56 1,ym 57 12,yb 58 .add 56 57,ya 59 sz 55 58,yl 60 sz 59,ym 61 0,ym 62 11,ya 63 sz 61 62,yl 64 sz 63,ya 65 sz 49 50,ys sz 65 60,ya 66 sz 51 54,ys sz 66 64]
def aT1(σ:Srt)(sz:Nat):ACode:=.seq (aT0 σ sz) (ahO σ sz)
def aT3(σ:Srt)(sz:Nat):ACode:=.seq (aT2 σ sz) (aT1 σ sz)
def aT4(σ:Srt)(sz:Nat):ACode:=.block 1 (aT3 σ sz)
def ahN(σ:Srt)(sz:Nat):ACode:=yr [ym 36 11,yn 37 (.bin .add (R 36) (yi 1)),ym 11 37]
def aT5(σ:Srt)(sz:Nat):ACode:=.seq (aT4 σ sz) (ahN σ sz)
def ahP(σ:Srt)(sz:Nat):ACode:=.seq (aT8 σ sz) (aT5 σ sz)
def aT9(σ:Srt)(sz:Nat):ACode:=.loop (ahP σ sz)
def aUa(σ:Srt)(sz:Nat):ACode:=.block 0 (aT9 σ sz)
def aZE(σ:Srt)(sz:Nat):ACode:=.seq (aUb σ sz) (aUa σ sz)
def aZG(σ:Srt)(sz:Nat):ACode:=.seq (aZF σ sz) (aZE σ sz)
def aZI(σ:Srt)(sz:Nat):ACode:=.seq (aZH σ sz) (aZG σ sz)
def aZJ(σ:Srt)(sz:Nat):ACode:=.cond (R 17) (aZI σ sz) .skip
def aZL(σ:Srt)(sz:Nat):ACode:=.seq (aZK σ sz) (aZJ σ sz)
def aZN(σ:Srt)(sz:Nat):ACode:=.seq (aZM σ sz) (aZL σ sz)
def ahM(σ:Srt)(sz:Nat):AFunc:=⟨[P.nat 0,P.nat 1,P.nat 2,P.nat 3],[],(aZN σ sz)⟩
def aWy(σ:Srt)(sz:Nat):ACode:=yr [yn 8 (.mov (yi 0)),yn 9 (.mov (yi 0))]
def aWw(σ:Srt)(sz:Nat):ACode:=yr [ym 15 2,ym 16 1,yb 17 .sub 15 16,ym 10 17]
def aWu(σ:Srt)(sz:Nat):ACode:=yr [yn 11 (.alloc [(.int .i64 0)])]
def aWs(σ:Srt)(sz:Nat):ACode:=yr [ym 18 1,ym 19 10,yn 20 (.bin .quo (R 19) (yi 4)),yn 21 (.bin .mul (R 20) (yi 1)),yb 22 .add 18 21,ym 12 22]
def aWq(σ:Srt)(sz:Nat):ACode:=yr [ym 23 1,ym 24 10,yn 25 (.bin .quo (R 24) (yi 4)),yn 26 (.bin .mul (R 25) (yi 2)),yb 27 .add 23 26,ym 13 27]
def aQv(σ:Srt)(sz:Nat):ACode:=yr [ym 28 1,ym 29 10,yn 30 (.bin .quo (R 29) (yi 4)),yn 31 (.bin .mul (R 30) (yi 3)),yb 32 .add 28 31,ym 14 32]
def aQs(σ:Srt)(sz:Nat):ACode:=yr [ym 33 10,yn 34 (.bin .geq (R 33) (yi 8))]
def aQo(σ:Srt)(sz:Nat):ACode:=yr [ym 35 10,yn 36 (.bin .geq (R 35) (yi 50))]
def aQl(σ:Srt)(sz:Nat):ACode:=yr [ym 37 0,ym 38 12,ym 39 3,yn 40 (.call σ.Fh [R 37,R 38,R 11,R 39] true),ym 12 40]
def aQj(σ:Srt)(sz:Nat):ACode:=yr [ym 41 0,ym 42 13,ym 43 3,yn 44 (.call σ.Fh [R 41,R 42,R 11,R 43] true),ym 13 44]
def aQi(σ:Srt)(sz:Nat):ACode:=yr [ym 45 0,ym 46 14,ym 47 3,yn 48 (.call σ.Fh [R 45,R 46,R 11,R 47] true),ym 14 48]
def aQk(σ:Srt)(sz:Nat):ACode:=.seq (aQj σ sz) (aQi σ sz)
def aQm(σ:Srt)(sz:Nat):ACode:=.seq (aQl σ sz) (aQk σ sz)
def aQn(σ:Srt)(sz:Nat):ACode:=.cond (R 36) (aQm σ sz) .skip
def aQp(σ:Srt)(sz:Nat):ACode:=.seq (aQo σ sz) (aQn σ sz)
def af0(σ:Srt)(sz:Nat):ACode:=yr [ym 49 0,ym 50 12,ym 51 13,ym 52 14,ym 53 3,yn 54 (.call σ.med [R 49,R 50,R 51,R 52,R 11,R 53] true),ym 13 54]
def aQq(σ:Srt)(sz:Nat):ACode:=.seq (aQp σ sz) (af0 σ sz)
def aQr(σ:Srt)(sz:Nat):ACode:=.cond (R 34) (aQq σ sz) .skip
def aQt(σ:Srt)(sz:Nat):ACode:=.seq (aQs σ sz) (aQr σ sz)
def aQh(σ:Srt)(sz:Nat):ACode:=yr [yn 55 (.load none (R 11))]
def aQe(σ:Srt)(sz:Nat):ACode:=yr [yn 58 (.bin .eql (R 55) (yi 0)),ym 57 58]
def aQb(σ:Srt)(sz:Nat):ACode:=yr [ym 59 13,ym 8 59,yn 9 (.mov (yi 1))]
def aQc(σ:Srt)(sz:Nat):ACode:=.seq (aQb σ sz) .ret
def aP9(σ:Srt)(sz:Nat):ACode:=yr [yn 61 (.bin .eql (R 55) (yi 12)),ym 60 61]
def aP6(σ:Srt)(sz:Nat):ACode:=yr [ym 62 13,ym 8 62,yn 9 (.mov (yi 2))]
def aP7(σ:Srt)(sz:Nat):ACode:=.seq (aP6 σ sz) .ret
def aP4(σ:Srt)(sz:Nat):ACode:=yr [ym 56 13,ym 8 56,yn 9 (.mov (yi 0))]
def aP5(σ:Srt)(sz:Nat):ACode:=.seq (aP4 σ sz) .ret
def aP8(σ:Srt)(sz:Nat):ACode:=.cond (R 60) (aP7 σ sz) (aP5 σ sz)
def aQa(σ:Srt)(sz:Nat):ACode:=.seq (aP9 σ sz) (aP8 σ sz)
def aQd(σ:Srt)(sz:Nat):ACode:=.cond (R 57) (aQc σ sz) (aQa σ sz)
def aQf(σ:Srt)(sz:Nat):ACode:=.seq (aQe σ sz) (aQd σ sz)
def aQg(σ:Srt)(sz:Nat):ACode:=.block 0 (aQf σ sz)
def Qc(σ:Srt)(sz:Nat):ACode:=.seq (aQh σ sz) (aQg σ sz)
def aQu(σ:Srt)(sz:Nat):ACode:=.seq (aQt σ sz) (Qc σ sz)
def aQw(σ:Srt)(sz:Nat):ACode:=.seq (aQv σ sz) (aQu σ sz)
def aWr(σ:Srt)(sz:Nat):ACode:=.seq (aWq σ sz) (aQw σ sz)
def aWt(σ:Srt)(sz:Nat):ACode:=.seq (aWs σ sz) (aWr σ sz)
def aWv(σ:Srt)(sz:Nat):ACode:=.seq (aWu σ sz) (aWt σ sz)
def aWx(σ:Srt)(sz:Nat):ACode:=.seq (aWw σ sz) (aWv σ sz)
def aWz(σ:Srt)(sz:Nat):ACode:=.seq (aWy σ sz) (aWx σ sz)
def afZ(σ:Srt)(sz:Nat):AFunc:=⟨[P.nat 0,P.nat 1,P.nat 2,P.nat 3],[.tmp (P.nat 8),.tmp (P.nat 9)],(aWz σ sz)⟩
def aV5(σ:Srt)(sz:Nat):ACode:=yr [ym 10 1,ym 8 10]
def aV3(σ:Srt)(sz:Nat):ACode:=yr [ym 11 2,yn 12 (.bin .sub (R 11) (yi 1)),ym 9 12]
def aVX(σ:Srt)(sz:Nat):ACode:=yr [ym 13 8,ym 14 9,yb 15 .lss 13 14]
def aVW(σ:Srt)(sz:Nat):ACode:=.cond (R 15) .skip (.exit 0)
def aVY(σ:Srt)(sz:Nat):ACode:=.seq (aVX σ sz) (aVW σ sz)
def aPV(σ:Srt)(sz:Nat):ACode:=yr [ym 16 0,ym 17 8,ym 18 0,ym 19 9,ym 20 0,ym 21 9,ya 22 sz 20 21,yl 23 sz 22,ym 24 0,ym 25 8,ya 26 sz 24 25,yl 27 sz 26,ya 28 sz 16 17,ys sz 28 23,ya 29 sz 18 19,ys sz 29 27]
def aPT(σ:Srt)(sz:Nat):ACode:=yr [ym 30 8,yn 31 (.bin .add (R 30) (yi 1)),ym 8 31]
def aPS(σ:Srt)(sz:Nat):ACode:=yr [ym 32 9,yn 33 (.bin .sub (R 32) (yi 1)),ym 9 33]
def aPU(σ:Srt)(sz:Nat):ACode:=.seq (aPT σ sz) (aPS σ sz)
def aPW(σ:Srt)(sz:Nat):ACode:=.seq (aPV σ sz) (aPU σ sz)
def aPX(σ:Srt)(sz:Nat):ACode:=.block 1 (aPW σ sz)
def aVZ(σ:Srt)(sz:Nat):ACode:=.seq (aVY σ sz) (aPX σ sz)
def aV1(σ:Srt)(sz:Nat):ACode:=.loop (aVZ σ sz)
def aV2(σ:Srt)(sz:Nat):ACode:=.block 0 (aV1 σ sz)
def aV4(σ:Srt)(sz:Nat):ACode:=.seq (aV3 σ sz) (aV2 σ sz)
def aV6(σ:Srt)(sz:Nat):ACode:=.seq (aV5 σ sz) (aV4 σ sz)
def afL(σ:Srt)(sz:Nat):AFunc:=⟨[P.nat 0,P.nat 1,P.nat 2,P.nat 3],[],(aV6 σ sz)⟩
def aSh(σ:Srt)(sz:Nat):ACode:=yr [yn 10 (.mov (yi 0)),yn 11 (.mov yf)]
def aSf(σ:Srt)(sz:Nat):ACode:=yr [ym 14 0,ym 15 1,ym 16 0,ym 17 3,ym 18 0,ym 19 3,ya 20 sz 18 19,yl 21 sz 20,ym 22 0,ym 23 1,ya 24 sz 22 23,yl 25 sz 24,ya 26 sz 14 15,ys sz 26 21,ya 27 sz 16 17,ys sz 27 25]
def aSd(σ:Srt)(sz:Nat):ACode:=yr [ym 28 1,yn 29 (.bin .add (R 28) (yi 1)),ym 30 2,yn 31 (.bin .sub (R 30) (yi 1)),ym 12 29,ym 13 31]
def aG5(σ:Srt)(sz:Nat):ACode:=yr [ym 32 12,ym 33 13,yb 34 .leq 32 33,ym 35 34,⟨D 36,.mov (R 4),G 35 true⟩,⟨D 37,.mov (R 0),G 35 true⟩,⟨D 38,.mov (R 12),G 35 true⟩,⟨D 39,.aU sz none (R 37) (R 38),G 35 true⟩,⟨D 40,.load (some sz) (R 39),G 35 true⟩,⟨D 41,.mov (R 0),G 35 true⟩,⟨D 42,.mov (R 1),G 35 true⟩,⟨D 43,.aU sz none (R 41) (R 42),G 35 true⟩,⟨D 44,.load (some sz) (R 43),G 35 true⟩,⟨D 45,.bY (R 36) [R 40,R 44] true,G 35 true⟩,⟨D 46,.bin .lss (R 45) (yi 0),G 35 true⟩,yn 47 (.pick (R 35) (R 46) yf)]
def aG4(σ:Srt)(sz:Nat):ACode:=.cond (R 47) .skip (.exit 0)
def aG6(σ:Srt)(sz:Nat):ACode:=.seq (aG5 σ sz) (aG4 σ sz)
def aG2(σ:Srt)(sz:Nat):ACode:=yr [ym 48 12,yn 49 (.bin .add (R 48) (yi 1)),ym 12 49]
def aG3(σ:Srt)(sz:Nat):ACode:=.block 1 (aG2 σ sz)
def aSa(σ:Srt)(sz:Nat):ACode:=.seq (aG6 σ sz) (aG3 σ sz)
def aSb(σ:Srt)(sz:Nat):ACode:=.loop (aSa σ sz)
def agk(σ:Srt)(sz:Nat):ACode:=.block 0 (aSb σ sz)
def aGX(σ:Srt)(sz:Nat):ACode:=yr [ym 50 12,ym 51 13,yb 52 .leq 50 51,ym 53 52,⟨D 54,.mov (R 4),G 53 true⟩,⟨D 55,.mov (R 0),G 53 true⟩,⟨D 56,.mov (R 13),G 53 true⟩,⟨D 57,.aU sz none (R 55) (R 56),G 53 true⟩,⟨D 58,.load (some sz) (R 57),G 53 true⟩,⟨D 59,.mov (R 0),G 53 true⟩,⟨D 60,.mov (R 1),G 53 true⟩,⟨D 61,.aU sz none (R 59) (R 60),G 53 true⟩,⟨D 62,.load (some sz) (R 61),G 53 true⟩,⟨D 63,.bY (R 54) [R 58,R 62] true,G 53 true⟩,⟨D 64,.bin .lss (R 63) (yi 0),G 53 true⟩,⟨D 65,.un .not (R 64),G 53 true⟩,yn 66 (.pick (R 53) (R 65) yf)]
def aGW(σ:Srt)(sz:Nat):ACode:=.cond (R 66) .skip (.exit 2)
def aGY(σ:Srt)(sz:Nat):ACode:=.seq (aGX σ sz) (aGW σ sz)
def aGU(σ:Srt)(sz:Nat):ACode:=yr [ym 67 13,yn 68 (.bin .sub (R 67) (yi 1)),ym 13 68]
def aGV(σ:Srt)(sz:Nat):ACode:=.block 3 (aGU σ sz)
def aGZ(σ:Srt)(sz:Nat):ACode:=.seq (aGY σ sz) (aGV σ sz)
def aG0(σ:Srt)(sz:Nat):ACode:=.loop (aGZ σ sz)
def Ur(σ:Srt)(sz:Nat):ACode:=.block 2 (aG0 σ sz)
def aGR(σ:Srt)(sz:Nat):ACode:=yr [ym 69 12,ym 70 13,yb 71 .gtr 69 70]
def aGO(σ:Srt)(sz:Nat):ACode:=yr [ym 72 0,ym 73 13,ym 74 0,ym 75 1,ym 76 0,ym 77 1,ya 78 sz 76 77,yl 79 sz 78,ym 80 0,ym 81 13,ya 82 sz 80 81,yl 83 sz 82,ya 84 sz 72 73,ys sz 84 79,ya 85 sz 74 75,ys sz 85 83]
def aGM(σ:Srt)(sz:Nat):ACode:=yr [ym 86 13,ym 10 86,yn 11 (.mov yt)]
def aGN(σ:Srt)(sz:Nat):ACode:=.seq (aGM σ sz) .ret
def aGP(σ:Srt)(sz:Nat):ACode:=.seq (aGO σ sz) (aGN σ sz)
def aGQ(σ:Srt)(sz:Nat):ACode:=.cond (R 71) (aGP σ sz) .skip
def aGS(σ:Srt)(sz:Nat):ACode:=.seq (aGR σ sz) (aGQ σ sz)
def aGK(σ:Srt)(sz:Nat):ACode:=yr [ym 87 0,ym 88 12,ym 89 0,ym 90 13,ym 91 0,ym 92 13,ya 93 sz 91 92,yl 94 sz 93,ym 95 0,ym 96 12,ya 97 sz 95 96,yl 98 sz 97,ya 99 sz 87 88,ys sz 99 94,ya 100 sz 89 90,ys sz 100 98]
def aGI(σ:Srt)(sz:Nat):ACode:=yr [ym 101 12,yn 102 (.bin .add (R 101) (yi 1)),ym 12 102]
def aGG(σ:Srt)(sz:Nat):ACode:=yr [ym 103 13,yn 104 (.bin .sub (R 103) (yi 1)),ym 13 104]
def aGx(σ:Srt)(sz:Nat):ACode:=yr [ym 105 12,ym 106 13,yb 107 .leq 105 106,ym 108 107,⟨D 109,.mov (R 4),G 108 true⟩,⟨D 110,.mov (R 0),G 108 true⟩,⟨D 111,.mov (R 12),G 108 true⟩,⟨D 112,.aU sz none (R 110) (R 111),G 108 true⟩,⟨D 113,.load (some sz) (R 112),G 108 true⟩,⟨D 114,.mov (R 0),G 108 true⟩,⟨D 115,.mov (R 1),G 108 true⟩,⟨D 116,.aU sz none (R 114) (R 115),G 108 true⟩,⟨D 117,.load (some sz) (R 116),G 108 true⟩,⟨D 118,.bY (R 109) [R 113,R 117] true,G 108 true⟩,⟨D 119,.bin .lss (R 118) (yi 0),G 108 true⟩,yn 120 (.pick (R 108) (R 119) yf)]
def aGw(σ:Srt)(sz:Nat):ACode:=.cond (R 120) .skip (.exit 6)
def aGy(σ:Srt)(sz:Nat):ACode:=.seq (aGx σ sz) (aGw σ sz)
def aGu(σ:Srt)(sz:Nat):ACode:=yr [ym 121 12,yn 122 (.bin .add (R 121) (yi 1)),ym 12 122]
def aGv(σ:Srt)(sz:Nat):ACode:=.block 7 (aGu σ sz)
def aGz(σ:Srt)(sz:Nat):ACode:=.seq (aGy σ sz) (aGv σ sz)
def aGA(σ:Srt)(sz:Nat):ACode:=.loop (aGz σ sz)
def Uo(σ:Srt)(sz:Nat):ACode:=.block 6 (aGA σ sz)
def aGp(σ:Srt)(sz:Nat):ACode:=yr [ym 123 12,ym 124 13,yb 125 .leq 123 124,ym 126 125,⟨D 127,.mov (R 4),G 126 true⟩,⟨D 128,.mov (R 0),G 126 true⟩,⟨D 129,.mov (R 13),G 126 true⟩,⟨D 130,.aU sz none (R 128) (R 129),G 126 true⟩,⟨D 131,.load (some sz) (R 130),G 126 true⟩,⟨D 132,.mov (R 0),G 126 true⟩,⟨D 133,.mov (R 1),G 126 true⟩,⟨D 134,.aU sz none (R 132) (R 133),G 126 true⟩,⟨D 135,.load (some sz) (R 134),G 126 true⟩,⟨D 136,.bY (R 127) [R 131,R 135] true,G 126 true⟩,⟨D 137,.bin .lss (R 136) (yi 0),G 126 true⟩,⟨D 138,.un .not (R 137),G 126 true⟩,yn 139 (.pick (R 126) (R 138) yf)]
def aGo(σ:Srt)(sz:Nat):ACode:=.cond (R 139) .skip (.exit 8)
def aGq(σ:Srt)(sz:Nat):ACode:=.seq (aGp σ sz) (aGo σ sz)
def aGm(σ:Srt)(sz:Nat):ACode:=yr [ym 140 13,yn 141 (.bin .sub (R 140) (yi 1)),ym 13 141]
def aGn(σ:Srt)(sz:Nat):ACode:=.block 9 (aGm σ sz)
def aGr(σ:Srt)(sz:Nat):ACode:=.seq (aGq σ sz) (aGn σ sz)
def aGs(σ:Srt)(sz:Nat):ACode:=.loop (aGr σ sz)
def Un(σ:Srt)(sz:Nat):ACode:=.block 8 (aGs σ sz)
def aGj(σ:Srt)(sz:Nat):ACode:=yr [ym 142 12,ym 143 13,yb 144 .gtr 142 143]
def aGi(σ:Srt)(sz:Nat):ACode:=.cond (R 144) (.exit 4) .skip
def aGk(σ:Srt)(sz:Nat):ACode:=.seq (aGj σ sz) (aGi σ sz)
def aGg(σ:Srt)(sz:Nat):ACode:=yr [ym 145 0,ym 146 12,ym 147 0,ym 148 13,ym 149 0,ym 150 13,ya 151 sz 149 150,yl 152 sz 151,ym 153 0,ym 154 12,ya 155 sz 153 154,yl 156 sz 155,ya 157 sz 145 146,ys sz 157 152,ya 158 sz 147 148,ys sz 158 156]
def aGe(σ:Srt)(sz:Nat):ACode:=yr [ym 159 12,yn 160 (.bin .add (R 159) (yi 1)),ym 12 160]
def aGd(σ:Srt)(sz:Nat):ACode:=yr [ym 161 13,yn 162 (.bin .sub (R 161) (yi 1)),ym 13 162]
def aGf(σ:Srt)(sz:Nat):ACode:=.seq (aGe σ sz) (aGd σ sz)
def aGh(σ:Srt)(sz:Nat):ACode:=.seq (aGg σ sz) (aGf σ sz)
def aGl(σ:Srt)(sz:Nat):ACode:=.seq (aGk σ sz) (aGh σ sz)
def aGt(σ:Srt)(sz:Nat):ACode:=.seq (Un σ sz) (aGl σ sz)
def aGB(σ:Srt)(sz:Nat):ACode:=.seq (Uo σ sz) (aGt σ sz)
def aGC(σ:Srt)(sz:Nat):ACode:=.block 5 (aGB σ sz)
def aGD(σ:Srt)(sz:Nat):ACode:=.loop (aGC σ sz)
def aGE(σ:Srt)(sz:Nat):ACode:=.block 4 (aGD σ sz)
def aGc(σ:Srt)(sz:Nat):ACode:=yr [ym 163 0,ym 164 13,ym 165 0,ym 166 1,ym 167 0,ym 168 1,ya 169 sz 167 168,yl 170 sz 169,ym 171 0,ym 172 13,ya 173 sz 171 172,yl 174 sz 173,ya 175 sz 163 164,ys sz 175 170,ya 176 sz 165 166,ys sz 176 174]
def aGa(σ:Srt)(sz:Nat):ACode:=yr [ym 177 13,ym 10 177,yn 11 (.mov yf)]
def aGb(σ:Srt)(sz:Nat):ACode:=.seq (aGa σ sz) .ret
def Um(σ:Srt)(sz:Nat):ACode:=.seq (aGc σ sz) (aGb σ sz)
def aGF(σ:Srt)(sz:Nat):ACode:=.seq (aGE σ sz) (Um σ sz)
def aGH(σ:Srt)(sz:Nat):ACode:=.seq (aGG σ sz) (aGF σ sz)
def aGJ(σ:Srt)(sz:Nat):ACode:=.seq (aGI σ sz) (aGH σ sz)
def aGL(σ:Srt)(sz:Nat):ACode:=.seq (aGK σ sz) (aGJ σ sz)
def aGT(σ:Srt)(sz:Nat):ACode:=.seq (aGS σ sz) (aGL σ sz)
def aG1(σ:Srt)(sz:Nat):ACode:=.seq (Ur σ sz) (aGT σ sz)
def aSc(σ:Srt)(sz:Nat):ACode:=.seq (agk σ sz) (aG1 σ sz)
def aSe(σ:Srt)(sz:Nat):ACode:=.seq (aSd σ sz) (aSc σ sz)
def aSg(σ:Srt)(sz:Nat):ACode:=.seq (aSf σ sz) (aSe σ sz)
def aSi(σ:Srt)(sz:Nat):ACode:=.seq (aSh σ sz) (aSg σ sz)
def Qi(σ:Srt)(sz:Nat):AFunc:=⟨[P.nat 0,P.nat 1,P.nat 2,P.nat 3,P.nat 4],[.tmp (P.nat 10),.tmp (P.nat 11)],(aSi σ sz)⟩
def aWI(σ:Srt)(sz:Nat):ACode:=yr [yn 10 (.mov (yi 0))]
def aWG(σ:Srt)(sz:Nat):ACode:=yr [ym 13 0,ym 14 1,ym 15 0,ym 16 3,ym 17 0,ym 18 3,ya 19 sz 17 18,yl 20 sz 19,ym 21 0,ym 22 1,ya 23 sz 21 22,yl 24 sz 23,ya 25 sz 13 14,ys sz 25 20,ya 26 sz 15 16,ys sz 26 24]
def aWE(σ:Srt)(sz:Nat):ACode:=yr [ym 27 1,yn 28 (.bin .add (R 27) (yi 1)),ym 29 2,yn 30 (.bin .sub (R 29) (yi 1)),ym 11 28,ym 12 30]
def aQ4(σ:Srt)(sz:Nat):ACode:=yr [ym 31 11,ym 32 12,yb 33 .leq 31 32,ym 34 33,⟨D 35,.mov (R 4),G 34 true⟩,⟨D 36,.mov (R 0),G 34 true⟩,⟨D 37,.mov (R 1),G 34 true⟩,⟨D 38,.aU sz none (R 36) (R 37),G 34 true⟩,⟨D 39,.load (some sz) (R 38),G 34 true⟩,⟨D 40,.mov (R 0),G 34 true⟩,⟨D 41,.mov (R 11),G 34 true⟩,⟨D 42,.aU sz none (R 40) (R 41),G 34 true⟩,⟨D 43,.load (some sz) (R 42),G 34 true⟩,⟨D 44,.bY (R 35) [R 39,R 43] true,G 34 true⟩,⟨D 45,.bin .lss (R 44) (yi 0),G 34 true⟩,⟨D 46,.un .not (R 45),G 34 true⟩,yn 47 (.pick (R 34) (R 46) yf)]
def aQ3(σ:Srt)(sz:Nat):ACode:=.cond (R 47) .skip (.exit 2)
def aQ5(σ:Srt)(sz:Nat):ACode:=.seq (aQ4 σ sz) (aQ3 σ sz)
def aQ1(σ:Srt)(sz:Nat):ACode:=yr [ym 48 11,yn 49 (.bin .add (R 48) (yi 1)),ym 11 49]
def aQ2(σ:Srt)(sz:Nat):ACode:=.block 3 (aQ1 σ sz)
def aQ6(σ:Srt)(sz:Nat):ACode:=.seq (aQ5 σ sz) (aQ2 σ sz)
def aQ7(σ:Srt)(sz:Nat):ACode:=.loop (aQ6 σ sz)
def af7(σ:Srt)(sz:Nat):ACode:=.block 2 (aQ7 σ sz)
def aQW(σ:Srt)(sz:Nat):ACode:=yr [ym 50 11,ym 51 12,yb 52 .leq 50 51,ym 53 52,⟨D 54,.mov (R 4),G 53 true⟩,⟨D 55,.mov (R 0),G 53 true⟩,⟨D 56,.mov (R 1),G 53 true⟩,⟨D 57,.aU sz none (R 55) (R 56),G 53 true⟩,⟨D 58,.load (some sz) (R 57),G 53 true⟩,⟨D 59,.mov (R 0),G 53 true⟩,⟨D 60,.mov (R 12),G 53 true⟩,⟨D 61,.aU sz none (R 59) (R 60),G 53 true⟩,⟨D 62,.load (some sz) (R 61),G 53 true⟩,⟨D 63,.bY (R 54) [R 58,R 62] true,G 53 true⟩,⟨D 64,.bin .lss (R 63) (yi 0),G 53 true⟩,yn 65 (.pick (R 53) (R 64) yf)]
def aQV(σ:Srt)(sz:Nat):ACode:=.cond (R 65) .skip (.exit 4)
def aQX(σ:Srt)(sz:Nat):ACode:=.seq (aQW σ sz) (aQV σ sz)
def aQT(σ:Srt)(sz:Nat):ACode:=yr [ym 66 12,yn 67 (.bin .sub (R 66) (yi 1)),ym 12 67]
def aQU(σ:Srt)(sz:Nat):ACode:=.block 5 (aQT σ sz)
def aQY(σ:Srt)(sz:Nat):ACode:=.seq (aQX σ sz) (aQU σ sz)
def aQZ(σ:Srt)(sz:Nat):ACode:=.loop (aQY σ sz)
def af6(σ:Srt)(sz:Nat):ACode:=.block 4 (aQZ σ sz)
def aQQ(σ:Srt)(sz:Nat):ACode:=yr [ym 68 11,ym 69 12,yb 70 .gtr 68 69]
def aQP(σ:Srt)(sz:Nat):ACode:=.cond (R 70) (.exit 0) .skip
def aQR(σ:Srt)(sz:Nat):ACode:=.seq (aQQ σ sz) (aQP σ sz)
def aQN(σ:Srt)(sz:Nat):ACode:=yr [ym 71 0,ym 72 11,ym 73 0,ym 74 12,ym 75 0,ym 76 12,ya 77 sz 75 76,yl 78 sz 77,ym 79 0,ym 80 11,ya 81 sz 79 80,yl 82 sz 81,ya 83 sz 71 72,ys sz 83 78,ya 84 sz 73 74,ys sz 84 82]
def aQL(σ:Srt)(sz:Nat):ACode:=yr [ym 85 11,yn 86 (.bin .add (R 85) (yi 1)),ym 11 86]
def aQK(σ:Srt)(sz:Nat):ACode:=yr [ym 87 12,yn 88 (.bin .sub (R 87) (yi 1)),ym 12 88]
def aQM(σ:Srt)(sz:Nat):ACode:=.seq (aQL σ sz) (aQK σ sz)
def aQO(σ:Srt)(sz:Nat):ACode:=.seq (aQN σ sz) (aQM σ sz)
def aQS(σ:Srt)(sz:Nat):ACode:=.seq (aQR σ sz) (aQO σ sz)
def aQ0(σ:Srt)(sz:Nat):ACode:=.seq (af6 σ sz) (aQS σ sz)
def aQ8(σ:Srt)(sz:Nat):ACode:=.seq (af7 σ sz) (aQ0 σ sz)
def aWA(σ:Srt)(sz:Nat):ACode:=.block 1 (aQ8 σ sz)
def aWB(σ:Srt)(sz:Nat):ACode:=.loop (aWA σ sz)
def aWC(σ:Srt)(sz:Nat):ACode:=.block 0 (aWB σ sz)
def aQJ(σ:Srt)(sz:Nat):ACode:=yr [ym 89 11,ym 10 89]
def af5(σ:Srt)(sz:Nat):ACode:=.seq (aQJ σ sz) .ret
def aWD(σ:Srt)(sz:Nat):ACode:=.seq (aWC σ sz) (af5 σ sz)
def aWF(σ:Srt)(sz:Nat):ACode:=.seq (aWE σ sz) (aWD σ sz)
def aWH(σ:Srt)(sz:Nat):ACode:=.seq (aWG σ sz) (aWF σ sz)
def aWJ(σ:Srt)(sz:Nat):ACode:=.seq (aWI σ sz) (aWH σ sz)
def af4(σ:Srt)(sz:Nat):AFunc:=⟨[P.nat 0,P.nat 1,P.nat 2,P.nat 3,P.nat 4],[.tmp (P.nat 10)],(aWJ σ sz)⟩
def aQE(σ:Srt)(sz:Nat):ACode:=yr [yn 8 (.mov yf)]
def aQC(σ:Srt)(sz:Nat):ACode:=yr [ym 13 1,yn 14 (.bin .add (R 13) (yi 1)),ym 9 14]
def aQz(σ:Srt)(sz:Nat):ACode:=yr [yn 10 (.mov (yi 0))]
def aF5(σ:Srt)(sz:Nat):ACode:=yr [ym 15 10,yn 16 (.bin .lss (R 15) (yi 5))]
def aF4(σ:Srt)(sz:Nat):ACode:=.cond (R 16) .skip (.exit 0)
def aF6(σ:Srt)(sz:Nat):ACode:=.seq (aF5 σ sz) (aF4 σ sz)
def aFX(σ:Srt)(sz:Nat):ACode:=yr [ym 19 9,ym 20 2,yb 21 .lss 19 20,ym 22 21,⟨D 23,.mov (R 3),G 22 true⟩,⟨D 24,.mov (R 0),G 22 true⟩,⟨D 25,.mov (R 9),G 22 true⟩,⟨D 26,.aU sz none (R 24) (R 25),G 22 true⟩,⟨D 27,.load (some sz) (R 26),G 22 true⟩,⟨D 28,.mov (R 0),G 22 true⟩,⟨D 29,.mov (R 9),G 22 true⟩,⟨D 30,.bin .sub (R 29) (yi 1),G 22 true⟩,⟨D 31,.aU sz none (R 28) (R 30),G 22 true⟩,⟨D 32,.load (some sz) (R 31),G 22 true⟩,⟨D 33,.bY (R 23) [R 27,R 32] true,G 22 true⟩,⟨D 34,.bin .lss (R 33) (yi 0),G 22 true⟩,⟨D 35,.un .not (R 34),G 22 true⟩,yn 36 (.pick (R 22) (R 35) yf)]
def aFW(σ:Srt)(sz:Nat):ACode:=.cond (R 36) .skip (.exit 2)
def aFY(σ:Srt)(sz:Nat):ACode:=.seq (aFX σ sz) (aFW σ sz)
def aFU(σ:Srt)(sz:Nat):ACode:=yr [ym 37 9,yn 38 (.bin .add (R 37) (yi 1)),ym 9 38]
def aFV(σ:Srt)(sz:Nat):ACode:=.block 3 (aFU σ sz)
def aFZ(σ:Srt)(sz:Nat):ACode:=.seq (aFY σ sz) (aFV σ sz)
def aF0(σ:Srt)(sz:Nat):ACode:=.loop (aFZ σ sz)
def Uk(σ:Srt)(sz:Nat):ACode:=.block 2 (aF0 σ sz)
def aFR(σ:Srt)(sz:Nat):ACode:=yr [ym 39 9,ym 40 2,yb 41 .eql 39 40]
def aFO(σ:Srt)(sz:Nat):ACode:=yr [yn 8 (.mov yt)]
def aFP(σ:Srt)(sz:Nat):ACode:=.seq (aFO σ sz) .ret
def aFQ(σ:Srt)(sz:Nat):ACode:=.cond (R 41) (aFP σ sz) .skip
def aFS(σ:Srt)(sz:Nat):ACode:=.seq (aFR σ sz) (aFQ σ sz)
def aFL(σ:Srt)(sz:Nat):ACode:=yr [ym 42 2,ym 43 1,yb 44 .sub 42 43,yn 45 (.bin .lss (R 44) (yi 50))]
def aFI(σ:Srt)(sz:Nat):ACode:=yr [yn 8 (.mov yf)]
def aFJ(σ:Srt)(sz:Nat):ACode:=.seq (aFI σ sz) .ret
def aFK(σ:Srt)(sz:Nat):ACode:=.cond (R 45) (aFJ σ sz) .skip
def aFM(σ:Srt)(sz:Nat):ACode:=.seq (aFL σ sz) (aFK σ sz)
def aFG(σ:Srt)(sz:Nat):ACode:=yr [ym 46 0,ym 47 9,ym 48 0,ym 49 9,yn 50 (.bin .sub (R 49) (yi 1)),ym 51 0,ym 52 9,yn 53 (.bin .sub (R 52) (yi 1)),ya 54 sz 51 53,yl 55 sz 54,ym 56 0,ym 57 9,ya 58 sz 56 57,yl 59 sz 58,ya 60 sz 46 47,ys sz 60 55,ya 61 sz 48 50,ys sz 61 59]
def aFD(σ:Srt)(sz:Nat):ACode:=yr [ym 62 9,ym 63 1,yb 64 .sub 62 63,yn 65 (.bin .geq (R 64) (yi 2))]
def aFA(σ:Srt)(sz:Nat):ACode:=yr [ym 66 9,yn 67 (.bin .sub (R 66) (yi 1)),ym 11 67]
def aFw(σ:Srt)(sz:Nat):ACode:=yr [ym 68 11,yn 69 (.bin .geq (R 68) (yi 1))]
def aFv(σ:Srt)(sz:Nat):ACode:=.cond (R 69) .skip (.exit 4)
def aFx(σ:Srt)(sz:Nat):ACode:=.seq (aFw σ sz) (aFv σ sz)
def aFq(σ:Srt)(sz:Nat):ACode:=yr [ym 72 3,ym 73 0,ym 74 11,ya 75 sz 73 74,yl 76 sz 75,ym 77 0,ym 78 11,yn 79 (.bin .sub (R 78) (yi 1)),ya 80 sz 77 79,yl 81 sz 80,yn 82 (.bY (R 72) [R 76,R 81] true),yn 83 (.bin .lss (R 82) (yi 0)),yn 84 (.un .not (R 83))]
def aFp(σ:Srt)(sz:Nat):ACode:=.cond (R 84) (.exit 4) .skip
def aFr(σ:Srt)(sz:Nat):ACode:=.seq (aFq σ sz) (aFp σ sz)
def aFo(σ:Srt)(sz:Nat):ACode:=yr [ym 85 0,ym 86 11,ym 87 0,ym 88 11,yn 89 (.bin .sub (R 88) (yi 1)),ym 90 0,ym 91 11,yn 92 (.bin .sub (R 91) (yi 1)),ya 93 sz 90 92,yl 94 sz 93,ym 95 0,ym 96 11,ya 97 sz 95 96,yl 98 sz 97,ya 99 sz 85 86,ys sz 99 94,ya 100 sz 87 89,ys sz 100 98]
def aFs(σ:Srt)(sz:Nat):ACode:=.seq (aFr σ sz) (aFo σ sz)
def aFt(σ:Srt)(sz:Nat):ACode:=.block 5 (aFs σ sz)
def aFm(σ:Srt)(sz:Nat):ACode:=yr [ym 70 11,yn 71 (.bin .sub (R 70) (yi 1)),ym 11 71]
def aFu(σ:Srt)(sz:Nat):ACode:=.seq (aFt σ sz) (aFm σ sz)
def aFy(σ:Srt)(sz:Nat):ACode:=.seq (aFx σ sz) (aFu σ sz)
def aFz(σ:Srt)(sz:Nat):ACode:=.loop (aFy σ sz)
def Uj(σ:Srt)(sz:Nat):ACode:=.block 4 (aFz σ sz)
def aFB(σ:Srt)(sz:Nat):ACode:=.seq (aFA σ sz) (Uj σ sz)
def aFC(σ:Srt)(sz:Nat):ACode:=.cond (R 65) (aFB σ sz) .skip
def aFE(σ:Srt)(sz:Nat):ACode:=.seq (aFD σ sz) (aFC σ sz)
def aFl(σ:Srt)(sz:Nat):ACode:=yr [ym 101 2,ym 102 9,yb 103 .sub 101 102,yn 104 (.bin .geq (R 103) (yi 2))]
def aFi(σ:Srt)(sz:Nat):ACode:=yr [ym 105 9,yn 106 (.bin .add (R 105) (yi 1)),ym 12 106]
def aFe(σ:Srt)(sz:Nat):ACode:=yr [ym 107 12,ym 108 2,yb 109 .lss 107 108]
def aFd(σ:Srt)(sz:Nat):ACode:=.cond (R 109) .skip (.exit 6)
def aFf(σ:Srt)(sz:Nat):ACode:=.seq (aFe σ sz) (aFd σ sz)
def aE8(σ:Srt)(sz:Nat):ACode:=yr [ym 112 3,ym 113 0,ym 114 12,ya 115 sz 113 114,yl 116 sz 115,ym 117 0,ym 118 12,yn 119 (.bin .sub (R 118) (yi 1)),ya 120 sz 117 119,yl 121 sz 120,yn 122 (.bY (R 112) [R 116,R 121] true),yn 123 (.bin .lss (R 122) (yi 0)),yn 124 (.un .not (R 123))]
def aE7(σ:Srt)(sz:Nat):ACode:=.cond (R 124) (.exit 6) .skip
def aE9(σ:Srt)(sz:Nat):ACode:=.seq (aE8 σ sz) (aE7 σ sz)
def aE6(σ:Srt)(sz:Nat):ACode:=yr [ym 125 0,ym 126 12,ym 127 0,ym 128 12,yn 129 (.bin .sub (R 128) (yi 1)),ym 130 0,ym 131 12,yn 132 (.bin .sub (R 131) (yi 1)),ya 133 sz 130 132,yl 134 sz 133,ym 135 0,ym 136 12,ya 137 sz 135 136,yl 138 sz 137,ya 139 sz 125 126,ys sz 139 134,ya 140 sz 127 129,ys sz 140 138]
def aFa(σ:Srt)(sz:Nat):ACode:=.seq (aE9 σ sz) (aE6 σ sz)
def aFb(σ:Srt)(sz:Nat):ACode:=.block 7 (aFa σ sz)
def aE5(σ:Srt)(sz:Nat):ACode:=yr [ym 110 12,yn 111 (.bin .add (R 110) (yi 1)),ym 12 111]
def aFc(σ:Srt)(sz:Nat):ACode:=.seq (aFb σ sz) (aE5 σ sz)
def aFg(σ:Srt)(sz:Nat):ACode:=.seq (aFf σ sz) (aFc σ sz)
def aFh(σ:Srt)(sz:Nat):ACode:=.loop (aFg σ sz)
def Uh(σ:Srt)(sz:Nat):ACode:=.block 6 (aFh σ sz)
def aFj(σ:Srt)(sz:Nat):ACode:=.seq (aFi σ sz) (Uh σ sz)
def aFk(σ:Srt)(sz:Nat):ACode:=.cond (R 104) (aFj σ sz) .skip
def Ui(σ:Srt)(sz:Nat):ACode:=.seq (aFl σ sz) (aFk σ sz)
def aFF(σ:Srt)(sz:Nat):ACode:=.seq (aFE σ sz) (Ui σ sz)
def aFH(σ:Srt)(sz:Nat):ACode:=.seq (aFG σ sz) (aFF σ sz)
def aFN(σ:Srt)(sz:Nat):ACode:=.seq (aFM σ sz) (aFH σ sz)
def aFT(σ:Srt)(sz:Nat):ACode:=.seq (aFS σ sz) (aFN σ sz)
def aF1(σ:Srt)(sz:Nat):ACode:=.seq (Uk σ sz) (aFT σ sz)
def aF2(σ:Srt)(sz:Nat):ACode:=.block 1 (aF1 σ sz)
def IV(σ:Srt)(sz:Nat):ACode:=yr [ym 17 10,yn 18 (.bin .add (R 17) (yi 1)),ym 10 18]
def aF3(σ:Srt)(sz:Nat):ACode:=.seq (aF2 σ sz) (IV σ sz)
def Qg(σ:Srt)(sz:Nat):ACode:=.seq (aF6 σ sz) (aF3 σ sz)
def aQx(σ:Srt)(sz:Nat):ACode:=.loop (Qg σ sz)
def aQy(σ:Srt)(sz:Nat):ACode:=.block 0 (aQx σ sz)
def aQA(σ:Srt)(sz:Nat):ACode:=.seq (aQz σ sz) (aQy σ sz)
def aE4(σ:Srt)(sz:Nat):ACode:=yr [yn 8 (.mov yf)]
def BH(σ:Srt)(sz:Nat):ACode:=.seq (aE4 σ sz) .ret
def aQB(σ:Srt)(sz:Nat):ACode:=.seq (aQA σ sz) (BH σ sz)
def aQD(σ:Srt)(sz:Nat):ACode:=.seq (aQC σ sz) (aQB σ sz)
def aQF(σ:Srt)(sz:Nat):ACode:=.seq (aQE σ sz) (aQD σ sz)
def Qe(σ:Srt)(sz:Nat):AFunc:=⟨[P.nat 0,P.nat 1,P.nat 2,P.nat 3],[.tmp (P.nat 8)],(aQF σ sz)⟩
def aSI(σ:Srt)(sz:Nat):ACode:=yr [yn 8 (.mov (yi 0))]
def aSG(σ:Srt)(sz:Nat):ACode:=yr [ym 9 0,ym 10 1,yn 11 (.bin .sub (R 10) (yi 1)),ym 12 1,ym 13 1,yn 14 (.bin .add (R 13) (yi 1)),ym 15 2,ym 16 3,yn 17 (.call σ.med [R 9,R 11,R 12,R 14,R 15,R 16] true),ym 8 17]
def aSH(σ:Srt)(sz:Nat):ACode:=.seq (aSG σ sz) .ret
def aSJ(σ:Srt)(sz:Nat):ACode:=.seq (aSI σ sz) (aSH σ sz)
def Ja(σ:Srt)(sz:Nat):AFunc:=⟨[P.nat 0,P.nat 1,P.nat 2,P.nat 3],[.tmp (P.nat 8)],(aSJ σ sz)⟩
def aYo(σ:Srt)(sz:Nat):ACode:=yr [yn 12 (.mov (yi 0))]
def aYm(σ:Srt)(sz:Nat):ACode:=yr [ym 14 0,ym 15 1,ym 16 2,ym 17 4,ym 18 5,yn 19 (.call σ.ord [R 14,R 15,R 16,R 17,R 18] true),ym 13 19,yn 20 (.extract (R 13) 0),yn 21 (.extract (R 13) 1),ym 1 20,ym 2 21]
def aYk(σ:Srt)(sz:Nat):ACode:=yr [ym 23 0,ym 24 2,ym 25 3,ym 26 4,ym 27 5,yn 28 (.call σ.ord [R 23,R 24,R 25,R 26,R 27] true),ym 22 28,yn 29 (.extract (R 22) 0),yn 30 (.extract (R 22) 1),ym 2 29,ym 3 30]
def aYi(σ:Srt)(sz:Nat):ACode:=yr [ym 32 0,ym 33 1,ym 34 2,ym 35 4,ym 36 5,yn 37 (.call σ.ord [R 32,R 33,R 34,R 35,R 36] true),ym 31 37,yn 38 (.extract (R 31) 0),yn 39 (.extract (R 31) 1),ym 1 38,ym 2 39]
def aYg(σ:Srt)(sz:Nat):ACode:=yr [ym 40 2,ym 12 40]
def aYh(σ:Srt)(sz:Nat):ACode:=.seq (aYg σ sz) .ret
def aYj(σ:Srt)(sz:Nat):ACode:=.seq (aYi σ sz) (aYh σ sz)
def aYl(σ:Srt)(sz:Nat):ACode:=.seq (aYk σ sz) (aYj σ sz)
def aYn(σ:Srt)(sz:Nat):ACode:=.seq (aYm σ sz) (aYl σ sz)
def aYp(σ:Srt)(sz:Nat):ACode:=.seq (aYo σ sz) (aYn σ sz)
def L8(σ:Srt)(sz:Nat):AFunc:=⟨[P.nat 0,P.nat 1,P.nat 2,P.nat 3,P.nat 4,P.nat 5],[.tmp (P.nat 12)],(aYp σ sz)⟩
def aXM(σ:Srt)(sz:Nat):ACode:=yr [yn 10 (.mov (yi 0)),yn 11 (.mov (yi 0))]
def aXJ(σ:Srt)(sz:Nat):ACode:=yr [ym 12 4,ym 13 0,ym 14 2,ya 15 sz 13 14,yl 16 sz 15,ym 17 0,ym 18 1,ya 19 sz 17 18,yl 20 sz 19,yn 21 (.bY (R 12) [R 16,R 20] true),yn 22 (.bin .lss (R 21) (yi 0))]
def aXG(σ:Srt)(sz:Nat):ACode:=yr [ym 23 3,yn 24 (.bF (R 23)),yn 25 (.load none (R 24)),yn 26 (.bin .add (R 25) (yi 1)),yn 27 (.bF (R 23)),ys 1 27 26]
def aXE(σ:Srt)(sz:Nat):ACode:=yr [ym 28 2,ym 29 1,ym 10 28,ym 11 29]
def aXF(σ:Srt)(sz:Nat):ACode:=.seq (aXE σ sz) .ret
def aXH(σ:Srt)(sz:Nat):ACode:=.seq (aXG σ sz) (aXF σ sz)
def aXI(σ:Srt)(sz:Nat):ACode:=.cond (R 22) (aXH σ sz) .skip
def aXK(σ:Srt)(sz:Nat):ACode:=.seq (aXJ σ sz) (aXI σ sz)
def aSq(σ:Srt)(sz:Nat):ACode:=yr [ym 30 1,ym 31 2,ym 10 30,ym 11 31]
def aSr(σ:Srt)(sz:Nat):ACode:=.seq (aSq σ sz) .ret
def aXL(σ:Srt)(sz:Nat):ACode:=.seq (aXK σ sz) (aSr σ sz)
def aXN(σ:Srt)(sz:Nat):ACode:=.seq (aXM σ sz) (aXL σ sz)
def FZ(σ:Srt)(sz:Nat):AFunc:=⟨[P.nat 0,P.nat 1,P.nat 2,P.nat 3,P.nat 4],[.tmp (P.nat 10),.tmp (P.nat 11)],(aXN σ sz)⟩
def aYd(σ:Srt)(sz:Nat):ACode:=yr [yn 2 (.mov (.k (.c (.f (.int .u64 0)))))]
def aYb(σ:Srt)(sz:Nat):ACode:=yr [ym 3 0,yn 4 (.cvi .u64 (R 3)),yn 5 (.call σ.len [R 4] false),yn 6 (.bin .shl (.k (.c (.f (.int .u64 1)))) (R 5)),ym 2 6]
def aYc(σ:Srt)(sz:Nat):ACode:=.seq (aYb σ sz) .ret
def aYe(σ:Srt)(sz:Nat):ACode:=.seq (aYd σ sz) (aYc σ sz)
def Ux(σ:Srt)(sz:Nat):AFunc:=⟨[P.nat 0],[.tmp (P.nat 2)],(aYe σ sz)⟩
def aX9(σ:Srt)(sz:Nat):ACode:=yr [yn 2 (.mov (.k (.c (.f (.int .u64 0)))))]
def aX7(σ:Srt)(sz:Nat):ACode:=yr [ym 3 0,yn 4 (.bF (R 3)),yn 5 (.load none (R 4)),ym 6 0,yn 7 (.bF (R 6)),yn 8 (.load none (R 7)),yn 9 (.bin .shl (R 8) (.k (.c (.f (.int .u64 13))))),yb 10 .xor 5 9,yn 11 (.bF (R 3)),ys 1 11 10]
def aX5(σ:Srt)(sz:Nat):ACode:=yr [ym 12 0,yn 13 (.bF (R 12)),yn 14 (.load none (R 13)),ym 15 0,yn 16 (.bF (R 15)),yn 17 (.load none (R 16)),yn 18 (.bin .shr (R 17) (.k (.c (.f (.int .u64 7))))),yb 19 .xor 14 18,yn 20 (.bF (R 12)),ys 1 20 19]
def aX3(σ:Srt)(sz:Nat):ACode:=yr [ym 21 0,yn 22 (.bF (R 21)),yn 23 (.load none (R 22)),ym 24 0,yn 25 (.bF (R 24)),yn 26 (.load none (R 25)),yn 27 (.bin .shl (R 26) (.k (.c (.f (.int .u64 17))))),yb 28 .xor 23 27,yn 29 (.bF (R 21)),ys 1 29 28]
def aX1(σ:Srt)(sz:Nat):ACode:=yr [ym 30 0,yn 31 (.bF (R 30)),yn 32 (.load none (R 31)),ym 2 32]
def aX2(σ:Srt)(sz:Nat):ACode:=.seq (aX1 σ sz) .ret
def aX4(σ:Srt)(sz:Nat):ACode:=.seq (aX3 σ sz) (aX2 σ sz)
def aX6(σ:Srt)(sz:Nat):ACode:=.seq (aX5 σ sz) (aX4 σ sz)
def aX8(σ:Srt)(sz:Nat):ACode:=.seq (aX7 σ sz) (aX6 σ sz)
def aYa(σ:Srt)(sz:Nat):ACode:=.seq (aX9 σ sz) (aX8 σ sz)
def Uw(σ:Srt)(sz:Nat):AFunc:=⟨[P.nat 0],[.tmp (P.nat 2)],(aYa σ sz)⟩
end
section
open Go
def Cv(tab:Nat→Option AFunc)(cv:V)(W:List FC→Prop)(c:List FC→List FC→Int):Prop:=
 ∀ x y,W x→W y→∀ H,∃ F ar J,dh cv [.a (x.map .f),.a (y.map .f)]=some (.fn F,ar)∧Ev tab (.fn F) ar H (vi (c x y)) (H++J)
section
variable{W:List FC→Prop}{c:List FC→List FC→Int}{l:List (List FC)}
theorem LeI.of_lt{i j:Nat}(hc:Cmp W c)(hW:∀ r ∈ l,W r){x y:List FC}(hx:l[i]?=some x)(hy:l[j]?=some y)(h:c x y<0):LeI c l i j:=fun x' y' h1 h2=>by
 rw [hx]at h1;rw [hy]at h2;cases h1;cases h2;exact hc.asym (hW _ (aL hx)) (hW _ (aL hy)) h
theorem LeI.of_le{i j:Nat}{x y:List FC}(hx:l[i]?=some x)(hy:l[j]?=some y)(h:¬ c y x<0):LeI c l i j:=fun x' y' h1 h2=>by
 rw [hx]at h1;rw [hy]at h2;cases h1;cases h2;exact h
theorem LeI.get{l':List (List FC)}{i j i' j':Nat}(h:LeI c l i j)(h1:l'[i']?=l[i]?)(h2:l'[j']?=l[j]?):LeI c l' i' j':=fun x y hx hy=>h x y (by rw [←h1];exact hx) (by rw [←h2];exact hy)
def Ins(c:List FC→List FC→Int)(a i j:Nat)(l:List (List FC)):Prop:=∀ p q,a≤p→p<q→q≤i→q≠j→LeI c l p q
theorem Ins.start{a i:Nat}(h:Up c a i l):Ins c a i i l:=fun p q h1 h2 h3 h4=>fun x y=>h p q x y h1 h2 (by omega)
theorem Ins.step{a i j:Nat}(hc:Cmp W c)(hW:∀ r ∈ l,W r)(h:Ins c a i (j+1) l)(ha:a≤j)(hj:j+1≤i)(hi:i<l.length){x y:List FC}(hx:l[j+1]?=some x)(hy:l[j]?=some y)(hlt:c x y<0):Ins c a i j (swp l (j+1) j):=by
 intro p q h1 h2 h3 h4;have g:∀ k,(swp l (j+1) j)[k]?=if k=j then l[j+1]? else if k=j+1 then l[j]? else l[k]?:=fun k=>swp_get (by omega) (by omega) k
 by_cases q1:q=j+1
 ·subst q1;by_cases p1:p=j
  ·subst p1;exact(LeI.of_lt hc hW hx hy hlt).get (by rw [g,if_pos rfl]) (by rw [g,if_neg (by omega),if_pos rfl])
  ·exact(h p j h1 (by omega) (by omega) (by omega)).get (by rw [g,if_neg (by omega),if_neg (by omega)]) (by rw [g,if_neg (by omega),if_pos rfl])
 ·have gq:(swp l (j+1) j)[q]?=l[q]?:=by rw [g,if_neg h4,if_neg q1]
  by_cases p1:p=j
  ·subst p1;exact(h (p+1) q (by omega) (by omega) h3 q1).get (by rw [g,if_pos rfl]) gq
  by_cases p2:p=j+1
  ·subst p2;exact(h j q ha (by omega) h3 q1).get (by rw [g,if_neg (by omega),if_pos rfl]) gq
  ·exact(h p q h1 h2 h3 q1).get (by rw [g,if_neg p1,if_neg p2]) gq
theorem Ins.front{a i:Nat}(h:Ins c a i a l):Up c a (i+1) l:=fun p q x y h1 h2 h3=>h p q h1 h2 (by omega) (by omega) x y
theorem Ins.stop{a i j:Nat}(hc:Cmp W c)(hW:∀ r ∈ l,W r)(h:Ins c a i (j+1) l)(ha:a≤j)(hj:j+1≤i)(hi:i<l.length)(hle:LeI c l j (j+1)):Up c a (i+1) l:=by
 intro p q x y h1 h2 h3;by_cases q1:q=j+1
 ·subst q1;by_cases p1:p=j
  ·subst p1;exact hle x y
  ·exact((h p j h1 (by omega) (by omega) (by omega)).trans hc hW hle (by omega)) x y
 ·exact h p q h1 h2 (by omega) q1 x y
end
section
variable{tab:Nat→Option AFunc}{σ:Srt}{sz:Nat}{H:Heap}{b ep:Nat}{rows:List (List FC)}{cv:V}{W:List FC→Prop}{c:List FC→List FC→Int}
theorem RB.at(h:RB H b sz ep rows){i:Nat}(hi:i<rows.length):aP H sz none (.c (.sl b 0 rows.length 0 ep sz)) (vi i)=some (.c (.ptr b (i*sz) ep)):=by
 have:=h.idx (n:=rows.length) (c:=0) (k:=.i64) (o:=0) (i:=(i:Int)) (by omega) (by omega)
 rwa [Int.toNat_natCast,cR]at this
theorem RB.ldi(h:RB H b sz ep rows)(hg:Grid sz rows){i:Nat}(hi:i<rows.length):ldV H (some sz) (.c (.ptr b (i*sz) ep))=some (.a (rows[i].map .f)):=h.ldr hg (ae hi)
theorem aSW(hT:tab σ.ins=some (MJ σ sz))(hcv:Cv tab cv W c)(hc:Cmp W c){n a e:Nat}(hn:rows.length=n)(hl:n≤1000000000)(hrb:RB H b sz ep rows)(hg:Grid sz rows)(hW:∀ r ∈ rows,W r)(hae:a≤e)(hen:e≤n) :
  ∃ r H',Ev tab (.fn σ.ins) [.c (.sl b 0 n 0 ep sz),vi a,vi e,cv] H r H'∧(r=.t []∧Fm b H H'∧∃ l',RB H' b sz ep l'∧Seg a e rows l'∧Up c a e l'):=by
 refine fV hT rfl fun Q hQ=>?_
 refine kw_seq (kw_region (.inl rfl) ?_);simp [wrap64 (n:=(a:Int)+1) (by omega) (by omega)]
 refine aB ?_
 refine bM (fun m s=>∃(i:Nat) (t:T) (H1:Heap) (l:List (List FC)),s=⟨t,[],H1⟩∧m=n+1-i∧a+1≤i∧(i≤e∨i=a+1)∧t.g 0=.c (.sl b 0 n 0 ep sz)∧t.g 1=vi a∧t.g 2=vi e∧t.g 3=cv∧t.g 8=vi i ∧
  Fm b H H1∧RB H1 b sz ep l∧Seg a e rows l∧Up c a i l) _
  ⟨a+1,_,H,rows,rfl,rfl,by omega,.inr rfl,by simp,by simp,by simp,by simp,by simp,Fm.refl H,hrb,Seg.refl _ _ _,Up.one (by omega)⟩ ?_
 rintro m s ⟨i,t,H1,l,rfl,rfl,hi1,hi,g0,g1,g2,g3,g8,hfr,hrb,hseg,hup⟩ ih;have hlen:=hseg.len;refine kw_seq ?_;refine kw_seq (kw_region (.inl rfl) ?_);simp [g8,g2];by_cases hlt:i<e
 case neg=>
  refine ah (by simp [hlt]) ?_
  refine bC (k':=[]) rfl ?_;exact nS (hQ _ _ _ rfl rfl ⟨rfl,hfr,l,hrb,hseg,hup.mono (ax _) (by omega)⟩)
 refine aj (by simp [hlt]) (aG ?_)
 refine kw_seq ?_;refine aB ?_;refine kw_seq (kw_region (.inl rfl) ?_);simp [g8];refine aB ?_
 refine bM (fun m s=>∃(j:Nat) (t:T) (H2:Heap) (l2:List (List FC)),s=⟨t,[],H2⟩∧j=m∧a≤j∧j≤i∧t.g 0=.c (.sl b 0 n 0 ep sz)∧t.g 1=vi a∧t.g 2=vi e∧t.g 3=cv∧t.g 8=vi i∧t.g 9=vi j ∧
  Fm b H H2∧RB H2 b sz ep l2∧Seg a e rows l2∧Ins c a i j l2) i
  ⟨i,_,H1,l,rfl,rfl,by omega,by omega,by simp [g0],by simp [g1],by simp [g2],by simp [g3],by simp [g8],by simp,hfr,hrb,hseg,Ins.start hup⟩ ?_
 rintro m s ⟨j,t,H2,l2,rfl,rfl,hja,hji,g0,g1,g2,g3,g8,g9,hfr,hrb,hseg,hins⟩ ih2;have hlen:=hseg.len;have hg2:=hseg.grid hg;have hW2:∀ r ∈ l2,W r:=fun r hr=>hW r (hseg.1.mem_iff.1 hr)
 have stop:Up c a (i+1) l2→∀ t:T,t.g 0=.c (.sl b 0 n 0 ep sz)→t.g 1=vi a→t.g 2=vi e→t.g 3=cv→t.g 8=vi i→∀ H3,Fm b H H3→RB H3 b sz ep l2 →
   WP tab σ.ins none [.inBlock 1,.code (Jk σ sz),.inLoop (UH σ sz),.inBlock 0] ⟨t,[],H3⟩ Q:=by
  intro hp t g0 g1 g2 g3 g8 H3 hfr hrb;refine au (kw_region (.inl rfl) ?_);simp [g8,wrap64 (n:=(i:Int)+1) (by omega) (by omega)]
  exact ih (n+1-(i+1)) _ (by omega) ⟨i+1,_,H3,l2,rfl,rfl,by omega,.inl (by omega),by simp [g0],by simp [g1],by simp [g2],by simp [g3],by simp,hfr,hrb,hseg,hp⟩
 refine kw_seq ?_;refine kw_seq (kw_region (.inl rfl) ?_);by_cases hj:j=a
 ·subst hj;simp [g9,g1];refine ah (by simp) ?_
  refine bC (k':=[.inBlock 1,.code (Jk σ sz),.inLoop (UH σ sz),.inBlock 0]) rfl ?_;exact stop hins.front _ (by simp [g0]) (by simp [g1]) (by simp [g2]) (by simp [g3]) (by simp [g8]) _ hfr hrb
 obtain⟨k,rfl⟩:∃ k,j=k+1:=⟨j-1,by omega⟩
 have k1:k+1<l2.length:=by omega
 have c1:((k+1:Nat):Int)=(k:Int)+1:=by omega
 have i1:=hrb.at k1;have i0:=hrb.at (show k<l2.length by omega)
 have l1:=hrb.ldi hg2 k1;have l0:=hrb.ldi hg2 (show k<l2.length by omega)
 rw [hlen,hn]at i1 i0;rw [c1]at i1 g9;obtain⟨F,ar,J,fD,hev⟩:=hcv l2[k+1] l2[k] (hW2 _ (aw _)) (hW2 _ (aw _)) H2;have he:=hev.eq;have gt:(a:Int)<(k:Int)+1:=by omega
 simp [g9,g0,g1,g3,gt,i1,i0,l1,l0,fD,he,-ak,wrap64 (n:=(k:Int)) (by omega) (by omega)]
 by_cases hlt2:c l2[k+1] l2[k]<0
 case neg=>
  refine ah (by simp [hlt2]) ?_
  refine bC (k':=[.inBlock 1,.code (Jk σ sz),.inLoop (UH σ sz),.inBlock 0]) rfl ?_;exact stop (hins.stop hc hW2 (by omega) hji (by omega) (LeI.of_le (ae (by omega)) (ae k1) hlt2)) _ (by simp [g0]) (by simp [g1]) (by simp [g2]) (by simp [g3]) (by simp [g8]) _ (hfr.trans (Fm.push _ _)) (hrb.push _)
 refine aj (by simp [hlt2]) (aG ?_)
 have w1:l2[k+1].length=sz:=hg2 _ (aw _);have w0:l2[k].length=sz:=hg2 _ (aw _);have WM:=hrb.push J;obtain⟨HJ,hHJ⟩:∃ HJ,HJ=H2++J:=⟨_,rfl⟩;rw [←hHJ]at WM ⊢;have a5F:Fm b H HJ:=by rw [hHJ];exact hfr.trans (Fm.push _ _)
 have i1:=WM.at k1;have i0:=WM.at (show k<l2.length by omega)
 have l1:=WM.ldi hg2 k1;have l0:=WM.ldi hg2 (show k<l2.length by omega)
 obtain⟨H3,H4,s1,r1,s2,r2,f2⟩:=WM.swap hg2 k1 (show k<l2.length by omega)
 have i2:=r1.at (show k<(l2.set (k+1) l2[k]).length by simp;omega)
 rw [List.length_set]at i2;rw [hlen,hn]at i1 i0 i2;rw [c1]at i1;refine kw_seq ?_;refine aB ?_;refine kw_region (.inl rfl) ?_;simp [g9,g0,i1,i0,i2,l1,l0,s1,s2,w1,w0,-ak,-bJ,wrap64 (n:=(k:Int)) (by omega) (by omega)]
 refine au ?_;refine kw_region (.inl rfl) ?_;simp [g9,wrap64 (n:=(k:Int)) (by omega) (by omega)]
 exact ih2 k _ (by omega) ⟨k,_,H4,swp l2 (k+1) k,rfl,rfl,by omega,by omega,by simp [g0],by simp [g1],by simp [g2],by simp [g3],by simp [g8],by simp,a5F.trans f2,r2,
  hseg.trans (iZ (by omega) (by omega) (by omega) (by omega) (by omega)),hins.step hc hW2 (by omega) hji (by omega) (ae k1) (ae (by omega)) hlt2⟩
end
end
section
open Go
section
variable{tab:Nat→Option AFunc}{σ:Srt}{sz:Nat}{H:Heap}{b ep:Nat}{rows:List (List FC)}{cv:V}{W:List FC→Prop}{c:List FC→List FC→Int}
theorem RB.swp(h:RB H b sz ep rows)(hg:Grid sz rows){n i j:Nat}(hn:rows.length=n)(hi:i<n)(hj:j<n):∃(x y:List FC) (H1 H2:Heap),rows[i]?=some x∧rows[j]?=some y ∧
  aP H sz none (.c (.sl b 0 n 0 ep sz)) (vi i)=some (.c (.ptr b (i*sz) ep))∧aP H sz none (.c (.sl b 0 n 0 ep sz)) (vi j)=some (.c (.ptr b (j*sz) ep)) ∧
  ldV H (some sz) (.c (.ptr b (i*sz) ep))=some (.a (x.map .f))∧ldV H (some sz) (.c (.ptr b (j*sz) ep))=some (.a (y.map .f))∧x.length=sz∧y.length=sz ∧
  stC H (.ptr b (i*sz) ep) (y.map .f)=some H1∧aP H1 sz none (.c (.sl b 0 n 0 ep sz)) (vi j)=some (.c (.ptr b (j*sz) ep))∧stC H1 (.ptr b (j*sz) ep) (x.map .f)=some H2∧RB H2 b sz ep (swp rows i j)∧Fm b H H2:=by
 subst hn;obtain⟨H1,H2,s1,r1,s2,r2,f2⟩:=h.swap hg hi hj;have i2:=r1.at (show j<(rows.set i rows[j]).length by simpa using hj)
 rw [List.length_set]at i2;exact⟨rows[i],rows[j],H1,H2,ae hi,ae hj,h.at hi,h.at hj,h.ldi hg hi,h.ldi hg hj,hg _ (aw _),hg _ (aw _),s1,i2,s2,r2,f2⟩
theorem RB.ask(h:RB H b sz ep rows)(hg:Grid sz rows)(hcv:Cv tab cv W c)(hW:∀ r ∈ rows,W r){n i j:Nat}(hn:rows.length=n)(hi:i<n)(hj:j<n):∃(x y:List FC) (F:Nat) (ar:List V) (J:Heap),rows[i]?=some x∧rows[j]?=some y ∧
  aP H sz none (.c (.sl b 0 n 0 ep sz)) (vi i)=some (.c (.ptr b (i*sz) ep))∧aP H sz none (.c (.sl b 0 n 0 ep sz)) (vi j)=some (.c (.ptr b (j*sz) ep)) ∧
  ldV H (some sz) (.c (.ptr b (i*sz) ep))=some (.a (x.map .f))∧ldV H (some sz) (.c (.ptr b (j*sz) ep))=some (.a (y.map .f)) ∧
  dh cv [.a (x.map .f),.a (y.map .f)]=some (.fn F,ar)∧Ev tab (.fn F) ar H=E2 (vi (c x y)) (H++J)∧W x∧W y:=by
 subst hn;obtain⟨F,ar,J,h1,h2⟩:=hcv rows[i] rows[j] (hW _ (aw _)) (hW _ (aw _)) H;exact⟨rows[i],rows[j],F,ar,J,ae hi,ae hj,h.at hi,h.at hj,h.ldi hg hi,h.ldi hg hj,h1,h2.eq,hW _ (aw _),hW _ (aw _)⟩
theorem aPR(hT:tab σ.rev=some (afL σ sz)){n a e:Nat}(hn:rows.length=n)(hl:n≤1000000000)(hrb:RB H b sz ep rows)(hg:Grid sz rows)(hae:a<e)(hen:e≤n) :
  ∃ r H',Ev tab (.fn σ.rev) [.c (.sl b 0 n 0 ep sz),vi a,vi e,cv] H r H'∧(r=.t []∧Fm b H H'∧∃ l',RB H' b sz ep l'∧Seg a e rows l'):=by
 refine fV hT rfl fun Q hQ=>?_
 obtain⟨d,rfl⟩:∃ d,e=d+1:=⟨e-1,by omega⟩
 refine kw_seq (kw_region (.inl rfl) ?_);simp;refine kw_seq (kw_region (.inl rfl) ?_);simp [wrap64 (n:=(d:Int)) (by omega) (by omega)]
 refine aB ?_
 refine bM (fun m s=>∃(i j:Nat) (t:T) (H1:Heap) (l:List (List FC)),s=⟨t,[],H1⟩∧m=n+1-i∧a≤i∧j≤d∧i≤j+1∧t.g 0=.c (.sl b 0 n 0 ep sz)∧t.g 8=vi i∧t.g 9=vi j ∧
  Fm b H H1∧RB H1 b sz ep l∧Seg a (d+1) rows l) _
  ⟨a,d,_,H,rows,rfl,rfl,by omega,by omega,by omega,by simp,by simp,by simp,Fm.refl H,hrb,Seg.refl _ _ _⟩ ?_
 rintro m s ⟨i,j,t,H1,l,rfl,rfl,hi1,hj1,hij,g0,g8,g9,hfr,hrb,hseg⟩ ih;have hlen:=hseg.len;refine kw_seq ?_;refine kw_seq (kw_region (.inl rfl) ?_);simp [g8,g9];by_cases hlt:i<j
 case neg=>
  refine ah (by simp [hlt]) ?_
  refine bC (k':=[]) rfl ?_;exact nS (hQ _ _ _ rfl rfl ⟨rfl,hfr,l,hrb,hseg⟩)
 refine aj (by simp [hlt]) (aG ?_)
 obtain⟨x,y,H2,H3,-,-,i1,j1,l1,l2,w1,w2,s1,j2,s2,r2,f2⟩:=hrb.swp (hseg.grid hg) (hlen.trans hn) (i:=i) (j:=j) (by omega) (by omega)
 refine aB ?_;refine kw_seq (kw_region (.inl rfl) ?_);simp [g0,g8,g9,i1,j1,l1,l2,w1,w2,s1,j2,s2,-ak,-bJ];refine kw_seq (kw_region (.inl rfl) ?_);simp [g8,wrap64 (n:=(i:Int)+1) (by omega) (by omega)]
 refine kw_region (.inl rfl) ?_;simp [g9,wrap64 (n:=(j:Int)-1) (by omega) (by omega)]
 refine au ?_;refine ih (n+1-(i+1)) _ (by omega) ⟨i+1,j-1,_,H3,swp l i j,rfl,rfl,by omega,by omega,by omega,by simp [g0],by simp,by simp;omega,hfr.trans f2,r2,hseg.trans (iZ (by omega) (by omega) (by omega) (by omega) (by omega))⟩
def NB(H:Heap)(p:Nat):Prop:=∃ k:Int,H[p]?=some (.box [.f (fi k)] 0)
theorem NB.push{p:Nat}(h:NB H p)(J:Heap):NB (H++J) p:=by
 obtain⟨k,h⟩:=h;exact⟨k,by rw [ag (aA h)];exact h⟩
theorem aSp(hT:tab σ.ord=some (FZ σ sz))(hcv:Cv tab cv W c){n p i j:Nat}(hn:rows.length=n)(hrb:RB H b sz ep rows)(hg:Grid sz rows)(hW:∀ r ∈ rows,W r)(hi:i<n)(hj:j<n)(hp:NB H p)(hpb:p≠b) :
  ∃ r H',Ev tab (.fn σ.ord) [.c (.sl b 0 n 0 ep sz),vi i,vi j,.c (.ptr p 0 0),cv] H r H'∧((r=.t [vi i,vi j]∨r=.t [vi j,vi i])∧Fm p H H'∧NB H' p):=by
 refine fV hT rfl fun Q hQ=>?_
 obtain⟨x,y,F,ar,J,-,-,i1,j1,l1,l2,fD,he,-,-⟩:=hrb.ask hg hcv hW hn hj hi;obtain⟨k,hp'⟩:=hp.push J;have hpl:=aA hp';refine kw_seq (kw_region (.inl rfl) ?_);simp;refine kw_seq ?_;refine kw_seq (kw_region (.inl rfl) ?_);simp [i1,j1,l1,l2,fD,he,-ak];by_cases hlt:c x y<0
 ·refine aj (by simp [hlt]) (kw_seq (kw_region (.inl rfl) ?_))
  simp [hp'];refine kw_seq (kw_region (.inl rfl) ?_);simp;refine aH (hQ _ _ (.t [vi j,vi i]) rfl (by simp [Km.results,aZ]) ⟨.inr rfl,?_,?_⟩)
  ·exact(Fm.push _ _).trans (Fm.set _ _)
  ·exact⟨_,az hpl⟩
 ·refine ah (by simp [hlt]) (aG (kw_seq (kw_region (.inl rfl) ?_)))
  simp;exact aH (hQ _ _ (.t [vi i,vi j]) rfl (by simp [Km.results,aZ]) ⟨.inl rfl,Fm.push _ _,hp.push J⟩)
theorem agK(hT:tab σ.med=some (L8 σ sz))(hO:tab σ.ord=some (FZ σ sz))(hcv:Cv tab cv W c){n p i j k:Nat}(hn:rows.length=n)(hrb:RB H b sz ep rows)(hg:Grid sz rows)(hW:∀ r ∈ rows,W r)(hi:i<n)(hj:j<n)(hk:k<n)(hp:NB H p)(hpb:p≠b) :
  ∃ r H',Ev tab (.fn σ.med) [.c (.sl b 0 n 0 ep sz),vi i,vi j,vi k,.c (.ptr p 0 0),cv] H r H'∧((∃ q:Nat,r=vi q∧(q=i∨q=j∨q=k))∧Fm p H H'∧NB H' p):=by
 have key:∀ {H:Heap} {i j:Nat},RB H b sz ep rows→NB H p→i<n→j<n→∃(x y:Nat) (H':Heap),Ev tab (.fn σ.ord) [.c (.sl b 0 n 0 ep sz),vi i,vi j,.c (.ptr p 0 0),cv] H=E2 (.t [vi x,vi y]) H'∧(x=i∧y=j∨x=j∧y=i)∧Fm p H H'∧NB H' p:=by
  intro H i j hrb hp hi hj;obtain⟨r,H',he,hr,hf,hb⟩:=aSp hO hcv hn hrb hg hW hi hj hp hpb;rcases hr with rfl | rfl
  ·exact⟨i,j,H',he.eq,.inl ⟨rfl,rfl⟩,hf,hb⟩
  ·exact⟨j,i,H',he.eq,.inr ⟨rfl,rfl⟩,hf,hb⟩
 obtain⟨x1,y1,H1,e1,o1,f1,b1⟩:=key hrb hp hi hj;have r1:RB H1 b sz ep rows:=f1.get hrb (Ne.symm hpb);obtain⟨x2,y2,H2,e2,o2,f2,b2⟩:=key r1 b1 (show y1<n by omega) hk
 have r2:RB H2 b sz ep rows:=f2.get r1 (Ne.symm hpb);obtain⟨x3,y3,H3,e3,o3,f3,b3⟩:=key r2 b2 (show x1<n by omega) (show x2<n by omega)
 refine fV hT rfl fun Q hQ=>?_
 refine kw_seq (kw_region (.inl rfl) ?_);simp;refine kw_seq (kw_region (.inl rfl) ?_);simp [e1];refine kw_seq (kw_region (.inl rfl) ?_);simp [e2];refine kw_seq (kw_region (.inl rfl) ?_);simp [e3];refine kw_seq (kw_region (.inl rfl) ?_);simp;refine aH (hQ _ _ (vi y3) rfl (by simp [Km.results,aZ]) ⟨⟨y3,rfl,by omega⟩,f1.trans (f2.trans f3),b3⟩)
theorem I9(hT:tab σ.Fh=some (Ja σ sz))(hM:tab σ.med=some (L8 σ sz))(hO:tab σ.ord=some (FZ σ sz))(hcv:Cv tab cv W c){n p i:Nat}(hn:rows.length=n)(hl:n≤1000000000)(hrb:RB H b sz ep rows)(hg:Grid sz rows)(hW:∀ r ∈ rows,W r)(h0:0<i)(hi:i+1<n)(hp:NB H p)(hpb:p≠b) :
  ∃ r H',Ev tab (.fn σ.Fh) [.c (.sl b 0 n 0 ep sz),vi i,.c (.ptr p 0 0),cv] H r H'∧((∃ q:Nat,r=vi q∧i≤q+1∧q≤i+1)∧Fm p H H'∧NB H' p):=by
 obtain⟨d,rfl⟩:∃ d,i=d+1:=⟨i-1,by omega⟩
 obtain⟨r,H',he,⟨q,rfl,hq⟩,hf,hb⟩:=agK (i:=d) (j:=d+1) (k:=d+1+1) hM hO hcv hn hrb hg hW (by omega) (by omega) hi hp hpb
 refine fV hT rfl fun Q hQ=>?_
 have he:=he.eq;simp at he;refine kw_seq (kw_region (.inl rfl) ?_);simp;refine kw_seq (kw_region (.inl rfl) ?_);simp [wrap64 (n:=(d:Int)) (by omega) (by omega),wrap64 (n:=(d:Int)+1+1) (by omega) (by omega),he]
 exact aH (hQ _ _ (vi q) rfl (by simp [Km.results,aZ]) ⟨⟨q,rfl,by omega,by omega⟩,hf,hb⟩)
def Kp(H H':Heap):Prop:=H.length≤H'.length∧∀ b':Nat,b'<H.length→H'[b']?=H[b']?
theorem Kp.fm{b:Nat}{H H':Heap}(h:Kp H H'):Fm b H H':=⟨h.1,fun b' _ l=>h.2 b' l⟩
theorem Kp.push(H J:Heap):Kp H (H++J):=⟨by simp,fun b' l=>ag l⟩
theorem Kp.next{H H' H'':Heap}{p:Nat}(h:Kp H H')(hp:H.length≤p)(h':Fm p H' H''):Kp H H'':=⟨bw h.1 h'.1,fun b' l=>(h'.2 b' (by omega) (cJ l h.1)).trans (h.2 b' l)⟩
theorem Kp.rb{H H':Heap}{b sz ep:Nat}{rows:List (List FC)}(h:Kp H H')(hb:RB H b sz ep rows):RB H' b sz ep rows:=by
 unfold RB at *;rw [h.2 b (aA hb)];exact hb
theorem aEY{a b:Nat}(hb:0<b)(ha:a≤9223372036854775807):bW .quo (vi a) (vi b)=some (vi ((a / b:Nat):Int)):=by
 have h1:(a / b:Nat)≤a:=Nat.div_le_self a b;obtain⟨q,hq⟩:∃ q,q=a / b:=⟨_,rfl⟩;have h2:((a:Int) / b)=(q:Int):=by rw [hq];simp
 have h3:q≤a:=by rw [hq];exact h1
 rw [←hq,JD (by omega),Int.tdiv_eq_ediv_of_nonneg (by omega),h2,wrap64 (by omega) (by omega)]
theorem aP3(hT:tab σ.piv=some (afZ σ sz))(hA:tab σ.Fh=some (Ja σ sz))(hM:tab σ.med=some (L8 σ sz))(hO:tab σ.ord=some (FZ σ sz))(hcv:Cv tab cv W c){n a e:Nat}(hn:rows.length=n)(hl:n≤1000000000)(hrb:RB H b sz ep rows)(hg:Grid sz rows)(hW:∀ r ∈ rows,W r)(hae:a+8≤e)(hen:e≤n) :
  ∃ r H',Ev tab (.fn σ.piv) [.c (.sl b 0 n 0 ep sz),vi a,vi e,cv] H r H'∧((∃(q:Nat) (h:Int),r=.t [vi q,vi h]∧a≤q∧q<e)∧Kp H H'):=by
 obtain⟨L,rfl⟩:∃ L,e=a+L:=⟨e-a,by omega⟩
 obtain⟨d,hd⟩:∃ d,d=L / 4:=⟨_,rfl⟩
 have hq:bW .quo (vi (L:Int)) (vi 4)=some (vi (d:Int)):=by
  have:=aEY (a:=L) (b:=4) (by omega) (by omega)
  rw [hd];exact this
 have hbl:=hrb.lt;have hw:IntKind.i64.wrap ((a:Int)+L-a)=L:=by rw [wrap64 (by omega) (by omega)];omega
 refine fV hT rfl fun Q hQ=>?_
 have fin:∀(t:T) (H2:Heap) (q:Nat),t.g 11=.c (.ptr H.length 0 0)→t.g 13=vi q→a≤q→q<a+L→NB H2 H.length→Kp H H2→WP tab σ.piv none [.code (Qc σ sz)] ⟨t,[],H2⟩ Q:=by
  intro t H2 q g11 g13 h1 h2 ⟨k,hk⟩ hkp;refine kw_seq (kw_region (.inl rfl) ?_);simp [g11,hk];refine aB ?_;refine kw_seq (kw_region (.inl rfl) ?_);simp;by_cases k1:k=0
  ·refine aj (by simp [k1]) (kw_seq (kw_region (.inl rfl) ?_))
   simp [g13];exact aH (hQ _ _ (.t [vi q,vi 1]) rfl (by simp [Km.results,aZ]) ⟨⟨q,1,rfl,h1,h2⟩,hkp⟩)
  refine ah (by simp [k1]) ?_
  refine kw_seq (kw_region (.inl rfl) ?_);simp;by_cases k2:k=12
  ·refine aj (by simp [k2]) (kw_seq (kw_region (.inl rfl) ?_))
   simp [g13];exact aH (hQ _ _ (.t [vi q,vi 2]) rfl (by simp [Km.results,aZ]) ⟨⟨q,2,rfl,h1,h2⟩,hkp⟩)
  refine ah (by simp [k2]) ?_
  refine kw_seq (kw_region (.inl rfl) ?_);simp [g13];exact aH (hQ _ _ (.t [vi q,vi 0]) rfl (by simp [Km.results,aZ]) ⟨⟨q,0,rfl,h1,h2⟩,hkp⟩)
 have mid:∀(t:T) (H2:Heap) (i j k:Nat),t.g 0=.c (.sl b 0 n 0 ep sz)→t.g 3=cv→t.g 11=.c (.ptr H.length 0 0)→t.g 12=vi i→t.g 13=vi j→t.g 14=vi k→a≤i→i<a+L→a≤j→j<a+L→a≤k→k<a+L→NB H2 H.length→Kp H H2 →
   WP tab σ.piv none [.code (af0 σ sz),.code (Qc σ sz)] ⟨t,[],H2⟩ Q:=by
  intro t H2 i j k g0 g3 g11 g12 g13 g14 i1 i2 j1 j2 k1 k2 hnb hkp;obtain⟨r,H3,he,⟨q,rfl,hq⟩,hf,hb3⟩:=agK (p:=H.length) (i:=i) (j:=j) (k:=k) hM hO hcv hn (hkp.rb hrb) hg hW (by omega) (by omega) (by omega) hnb (by omega)
  have he:=he.eq;refine kw_region (.inl rfl) ?_;simp [g0,g3,g11,g12,g13,g14,he];exact fin _ H3 q (by simp [g11]) (by simp) (by omega) (by omega) hb3 (hkp.next (ax _) hf)
 refine kw_seq (kw_region (.inl rfl) ?_);simp;refine kw_seq (kw_region (.inl rfl) ?_);simp [hw];refine kw_seq (kw_region (.inl rfl) ?_);simp;refine kw_seq (kw_region (.inl rfl) ?_);simp [hq,wrap64 (n:=(d:Int)) (by omega) (by omega),wrap64 (n:=(a:Int)+d) (by omega) (by omega)]
 refine kw_seq (kw_region (.inl rfl) ?_);simp [hq,wrap64 (n:=(d:Int)*2) (by omega) (by omega),wrap64 (n:=(a:Int)+d*2) (by omega) (by omega)]
 refine kw_seq (kw_region (.inl rfl) ?_);simp [hq,wrap64 (n:=(d:Int)*3) (by omega) (by omega),wrap64 (n:=(a:Int)+d*3) (by omega) (by omega)]
 refine kw_seq ?_;refine kw_seq (kw_region (.inl rfl) ?_);simp;refine aj (by simp;omega) ?_
 refine kw_seq ?_;refine kw_seq (kw_region (.inl rfl) ?_);simp;have hnb:NB (H++[.box [.f (fi 0)] 0]) H.length:=⟨0,by simp⟩
 have hkp:Kp H (H++[.box [.f (fi 0)] 0]):=Kp.push _ _;by_cases h50:50≤L
 case neg=>
  refine ah (by simp;omega) (aG ?_)
  exact mid _ _ (a+d) (a+d*2) (a+d*3) (by simp) (by simp) (by simp) (by simp) (by simp) (by simp) (by omega) (by omega) (by omega) (by omega) (by omega) (by omega) hnb hkp
 refine aj (by simp;omega) ?_
 obtain⟨r1,H1,e1,⟨q1,rfl,hq1⟩,f1,b1⟩:=I9 (p:=H.length) (i:=a+d) hA hM hO hcv hn hl (hkp.rb hrb) hg hW (by omega) (by omega) hnb (by omega)
 have kp1:=hkp.next (ax _) f1;obtain⟨r2,H2,e2,⟨q2,rfl,hq2⟩,f2,b2⟩:=I9 (p:=H.length) (i:=a+d*2) hA hM hO hcv hn hl (kp1.rb hrb) hg hW (by omega) (by omega) b1 (by omega)
 have kp2:=kp1.next (ax _) f2;obtain⟨r3,H3,e3,⟨q3,rfl,hq3⟩,f3,b3⟩:=I9 (p:=H.length) (i:=a+d*3) hA hM hO hcv hn hl (kp2.rb hrb) hg hW (by omega) (by omega) b2 (by omega)
 have kp3:=kp2.next (ax _) f3;have e1:=e1.eq;have e2:=e2.eq;have e3:=e3.eq;simp at e1 e2 e3;refine kw_seq (kw_region (.inl rfl) ?_);simp [e1];refine kw_seq (kw_region (.inl rfl) ?_);simp [e2];refine kw_region (.inl rfl) ?_;simp [e3];exact mid _ _ q1 q2 q3 (by simp) (by simp) (by simp) (by simp) (by simp) (by simp) (by omega) (by omega) (by omega) (by omega) (by omega) (by omega) b3 kp3
end
end
section
open Go
section
variable{tab:Nat→Option AFunc}{σ:Srt}{sz:Nat}{cv:V}{W:List FC→Prop}{c:List FC→List FC→Int}
theorem agh{n a e i j ep b:Nat}{rows:List (List FC)}{p:List FC}{H0:Heap}{k:List AItem}{Q:Option ACode→St→Prop}(hcv:Cv tab cv W c)(hn:rows.length=n)(hl:n≤1000000000)(hg:Grid sz rows)(hW:∀ r ∈ rows,W r)
  {t:T} {H:Heap} (hai:a<i) (hij:i≤j+1) (hje:j<e) (hen:e≤n) (hp:rows[a]?=some p)
  (g0:t.g 0=.c (.sl b 0 n 0 ep sz)) (g1:t.g 1=vi a) (g4:t.g 4=cv) (gi:t.g 12=vi i) (gj:t.g 13=vi j) (hfr:Fm b H0 H) (hrb:RB H b sz ep rows)
  (next:∀(t:T) (H:Heap) (i':Nat),(i≤i'∧i'≤j+1)→(∀(q:Nat) x,i≤q→q<i'→rows[q]?=some x→c x p<0)→(j<i'∨∀ x,rows[i']?=some x→¬ c x p<0) →
   t.g 0=.c (.sl b 0 n 0 ep sz)→t.g 1=vi a→t.g 4=cv→t.g 12=vi i'→t.g 13=vi j→Fm b H0 H→RB H b sz ep rows→WP tab σ.part none k ⟨t,[],H⟩ Q) :
  WP tab σ.part none (.code (agk σ sz)::k) ⟨t,[],H⟩ Q:=by
 refine aB ?_
 refine bM (fun m s=>∃(q:Nat) (t:T) (H1:Heap),s=⟨t,[],H1⟩∧(q+m=j+1∧i≤q)∧(∀(r:Nat) x,i≤r→r<q→rows[r]?=some x→c x p<0) ∧
   t.g 0=.c (.sl b 0 n 0 ep sz)∧t.g 1=vi a∧t.g 4=cv∧t.g 12=vi q∧t.g 13=vi j∧Fm b H0 H1∧RB H1 b sz ep rows) (j+1-i)
  ⟨i,_,H,rfl,by omega,fun r x h1 h2=>by omega,g0,g1,g4,gi,gj,hfr,hrb⟩ ?_
 rintro m s ⟨q,t,H1,rfl,hm,gX,g0,g1,g4,gi,gj,hfr,hrb⟩ ih;refine kw_seq ?_;refine kw_seq (kw_region (.inl rfl) ?_);by_cases hlt:q≤j
 case neg=>
  simp [gi,gj,hlt];refine ah (by simp) ?_
  refine bC (k':=k) rfl ?_;exact next _ _ q (by omega) gX (.inl (by omega)) (by simp [g0]) (by simp [g1]) (by simp [g4]) (by simp [gi]) (by simp [gj]) hfr hrb
 obtain⟨x,y,F,ar,J,hx,hy,i1,j1,l1,l2,fD,he,-,-⟩:=hrb.ask hg hcv hW hn (i:=q) (j:=a) (by omega) (by omega)
 simp [gi,gj,hlt,g0,g1,g4,i1,j1,l1,l2,fD,he,-ak];have ep:p=y:=by rw [hp]at hy;exact dv hy
 subst ep;by_cases hc:c x p<0
 case neg=>
  refine ah (by simp [hc]) ?_
  refine bC (k':=k) rfl ?_;refine next _ _ q (by omega) gX (.inr fun z hz=>?_) (by simp [g0]) (by simp [g1]) (by simp [g4]) (by simp [gi]) (by simp [gj]) (hfr.trans (Fm.push _ _)) (hrb.push _)
  rw [hx]at hz;cases hz;exact hc
 refine aj (by simp [hc]) (aG ?_)
 refine aB (kw_region (.inl rfl) ?_);simp [gi,gj,wrap64 (n:=(q:Int)+1) (by omega) (by omega)]
 refine au (ih (m-1) _ (by omega) ⟨q+1,_,_,rfl,by omega,fun r z h1 h2 hz=>?_,by simp [g0],by simp [g1],by simp [g4],by simp,by simp [gj],hfr.trans (Fm.push _ _),hrb.push _⟩)
 by_cases hr:r=q
 ·subst hr;rw [hx]at hz;cases hz;exact hc
 ·exact gX r z (by omega) (by omega) hz
theorem agj{n a e i j ep b:Nat}{rows:List (List FC)}{p:List FC}{H0:Heap}{k:List AItem}{Q:Option ACode→St→Prop}(hcv:Cv tab cv W c)(hn:rows.length=n)(hl:n≤1000000000)(hg:Grid sz rows)(hW:∀ r ∈ rows,W r)
  {t:T} {H:Heap} (hai:a<i) (hij:i≤j+1) (hje:j<e) (hen:e≤n) (hp:rows[a]?=some p)
  (g0:t.g 0=.c (.sl b 0 n 0 ep sz)) (g1:t.g 1=vi a) (g4:t.g 4=cv) (gi:t.g 12=vi i) (gj:t.g 13=vi j) (hfr:Fm b H0 H) (hrb:RB H b sz ep rows)
  (next:∀(t:T) (H:Heap) (j':Nat),(j'≤j∧i≤j'+1)→(∀(q:Nat) x,j'<q→q≤j→rows[q]?=some x→¬ c x p<0)→(j'<i∨∀ x,rows[j']?=some x→¬ ¬ c x p<0) →
   t.g 0=.c (.sl b 0 n 0 ep sz)→t.g 1=vi a→t.g 4=cv→t.g 12=vi i→t.g 13=vi j'→Fm b H0 H→RB H b sz ep rows→WP tab σ.part none k ⟨t,[],H⟩ Q) :
  WP tab σ.part none (.code (Ur σ sz)::k) ⟨t,[],H⟩ Q:=by
 refine aB ?_
 refine bM (fun m s=>∃(q:Nat) (t:T) (H1:Heap),s=⟨t,[],H1⟩∧(q+1=i+m∧q≤j)∧(∀(r:Nat) x,q<r→r≤j→rows[r]?=some x→¬ c x p<0) ∧
   t.g 0=.c (.sl b 0 n 0 ep sz)∧t.g 1=vi a∧t.g 4=cv∧t.g 12=vi i∧t.g 13=vi q∧Fm b H0 H1∧RB H1 b sz ep rows) (j+1-i)
  ⟨j,_,H,rfl,by omega,fun r x h1 h2=>by omega,g0,g1,g4,gi,gj,hfr,hrb⟩ ?_
 rintro m s ⟨q,t,H1,rfl,hm,gX,g0,g1,g4,gi,gj,hfr,hrb⟩ ih;refine kw_seq ?_;refine kw_seq (kw_region (.inl rfl) ?_);by_cases hlt:i≤q
 case neg=>
  simp [gi,gj,hlt];refine ah (by simp) ?_
  refine bC (k':=k) rfl ?_;exact next _ _ q (by omega) gX (.inl (by omega)) (by simp [g0]) (by simp [g1]) (by simp [g4]) (by simp [gi]) (by simp [gj]) hfr hrb
 obtain⟨x,y,F,ar,J,hx,hy,i1,j1,l1,l2,fD,he,-,-⟩:=hrb.ask hg hcv hW hn (i:=q) (j:=a) (by omega) (by omega)
 simp [gi,gj,hlt,g0,g1,g4,i1,j1,l1,l2,fD,he,-ak];have ep:p=y:=by rw [hp]at hy;exact dv hy
 subst ep;by_cases hc:c x p<0
 case pos=>
  refine ah (by simp [hc]) ?_
  refine bC (k':=k) rfl ?_;refine next _ _ q (by omega) gX (.inr fun z hz=>?_) (by simp [g0]) (by simp [g1]) (by simp [g4]) (by simp [gi]) (by simp [gj]) (hfr.trans (Fm.push _ _)) (hrb.push _)
  rw [hx]at hz;cases hz;exact fun h=>h hc
 refine aj (by simp [hc]) (aG ?_)
 refine aB (kw_region (.inl rfl) ?_);simp [gi,gj,wrap64 (n:=(q:Int)-1) (by omega) (by omega)]
 refine au (ih (m-1) _ (by omega) ⟨q-1,_,_,rfl,by omega,fun r z h1 h2 hz=>?_,by simp [g0],by simp [g1],by simp [g4],by simp [gi],by simp;omega,hfr.trans (Fm.push _ _),hrb.push _⟩)
 by_cases hr:r=q
 ·subst hr;rw [hx]at hz;cases hz;exact hc
 ·exact gX r z (by omega) (by omega) hz
theorem agf{n a e i j ep b:Nat}{rows:List (List FC)}{p:List FC}{H0:Heap}{k:List AItem}{Q:Option ACode→St→Prop}(hcv:Cv tab cv W c)(hn:rows.length=n)(hl:n≤1000000000)(hg:Grid sz rows)(hW:∀ r ∈ rows,W r)
  {t:T} {H:Heap} (hai:a<i) (hij:i≤j+1) (hje:j<e) (hen:e≤n) (hp:rows[a]?=some p)
  (g0:t.g 0=.c (.sl b 0 n 0 ep sz)) (g1:t.g 1=vi a) (g4:t.g 4=cv) (gi:t.g 12=vi i) (gj:t.g 13=vi j) (hfr:Fm b H0 H) (hrb:RB H b sz ep rows)
  (next:∀(t:T) (H:Heap) (i':Nat),(i≤i'∧i'≤j+1)→(∀(q:Nat) x,i≤q→q<i'→rows[q]?=some x→c x p<0)→(j<i'∨∀ x,rows[i']?=some x→¬ c x p<0) →
   t.g 0=.c (.sl b 0 n 0 ep sz)→t.g 1=vi a→t.g 4=cv→t.g 12=vi i'→t.g 13=vi j→Fm b H0 H→RB H b sz ep rows→WP tab σ.part none k ⟨t,[],H⟩ Q) :
  WP tab σ.part none (.code (Uo σ sz)::k) ⟨t,[],H⟩ Q:=by
 refine aB ?_
 refine bM (fun m s=>∃(q:Nat) (t:T) (H1:Heap),s=⟨t,[],H1⟩∧(q+m=j+1∧i≤q)∧(∀(r:Nat) x,i≤r→r<q→rows[r]?=some x→c x p<0) ∧
   t.g 0=.c (.sl b 0 n 0 ep sz)∧t.g 1=vi a∧t.g 4=cv∧t.g 12=vi q∧t.g 13=vi j∧Fm b H0 H1∧RB H1 b sz ep rows) (j+1-i)
  ⟨i,_,H,rfl,by omega,fun r x h1 h2=>by omega,g0,g1,g4,gi,gj,hfr,hrb⟩ ?_
 rintro m s ⟨q,t,H1,rfl,hm,gX,g0,g1,g4,gi,gj,hfr,hrb⟩ ih;refine kw_seq ?_;refine kw_seq (kw_region (.inl rfl) ?_);by_cases hlt:q≤j
 case neg=>
  simp [gi,gj,hlt];refine ah (by simp) ?_
  refine bC (k':=k) rfl ?_;exact next _ _ q (by omega) gX (.inl (by omega)) (by simp [g0]) (by simp [g1]) (by simp [g4]) (by simp [gi]) (by simp [gj]) hfr hrb
 obtain⟨x,y,F,ar,J,hx,hy,i1,j1,l1,l2,fD,he,-,-⟩:=hrb.ask hg hcv hW hn (i:=q) (j:=a) (by omega) (by omega)
 simp [gi,gj,hlt,g0,g1,g4,i1,j1,l1,l2,fD,he,-ak];have ep:p=y:=by rw [hp]at hy;exact dv hy
 subst ep;by_cases hc:c x p<0
 case neg=>
  refine ah (by simp [hc]) ?_
  refine bC (k':=k) rfl ?_;refine next _ _ q (by omega) gX (.inr fun z hz=>?_) (by simp [g0]) (by simp [g1]) (by simp [g4]) (by simp [gi]) (by simp [gj]) (hfr.trans (Fm.push _ _)) (hrb.push _)
  rw [hx]at hz;cases hz;exact hc
 refine aj (by simp [hc]) (aG ?_)
 refine aB (kw_region (.inl rfl) ?_);simp [gi,gj,wrap64 (n:=(q:Int)+1) (by omega) (by omega)]
 refine au (ih (m-1) _ (by omega) ⟨q+1,_,_,rfl,by omega,fun r z h1 h2 hz=>?_,by simp [g0],by simp [g1],by simp [g4],by simp,by simp [gj],hfr.trans (Fm.push _ _),hrb.push _⟩)
 by_cases hr:r=q
 ·subst hr;rw [hx]at hz;cases hz;exact hc
 ·exact gX r z (by omega) (by omega) hz
theorem agi{n a e i j ep b:Nat}{rows:List (List FC)}{p:List FC}{H0:Heap}{k:List AItem}{Q:Option ACode→St→Prop}(hcv:Cv tab cv W c)(hn:rows.length=n)(hl:n≤1000000000)(hg:Grid sz rows)(hW:∀ r ∈ rows,W r)
  {t:T} {H:Heap} (hai:a<i) (hij:i≤j+1) (hje:j<e) (hen:e≤n) (hp:rows[a]?=some p)
  (g0:t.g 0=.c (.sl b 0 n 0 ep sz)) (g1:t.g 1=vi a) (g4:t.g 4=cv) (gi:t.g 12=vi i) (gj:t.g 13=vi j) (hfr:Fm b H0 H) (hrb:RB H b sz ep rows)
  (next:∀(t:T) (H:Heap) (j':Nat),(j'≤j∧i≤j'+1)→(∀(q:Nat) x,j'<q→q≤j→rows[q]?=some x→¬ c x p<0)→(j'<i∨∀ x,rows[j']?=some x→¬ ¬ c x p<0) →
   t.g 0=.c (.sl b 0 n 0 ep sz)→t.g 1=vi a→t.g 4=cv→t.g 12=vi i→t.g 13=vi j'→Fm b H0 H→RB H b sz ep rows→WP tab σ.part none k ⟨t,[],H⟩ Q) :
  WP tab σ.part none (.code (Un σ sz)::k) ⟨t,[],H⟩ Q:=by
 refine aB ?_
 refine bM (fun m s=>∃(q:Nat) (t:T) (H1:Heap),s=⟨t,[],H1⟩∧(q+1=i+m∧q≤j)∧(∀(r:Nat) x,q<r→r≤j→rows[r]?=some x→¬ c x p<0) ∧
   t.g 0=.c (.sl b 0 n 0 ep sz)∧t.g 1=vi a∧t.g 4=cv∧t.g 12=vi i∧t.g 13=vi q∧Fm b H0 H1∧RB H1 b sz ep rows) (j+1-i)
  ⟨j,_,H,rfl,by omega,fun r x h1 h2=>by omega,g0,g1,g4,gi,gj,hfr,hrb⟩ ?_
 rintro m s ⟨q,t,H1,rfl,hm,gX,g0,g1,g4,gi,gj,hfr,hrb⟩ ih;refine kw_seq ?_;refine kw_seq (kw_region (.inl rfl) ?_);by_cases hlt:i≤q
 case neg=>
  simp [gi,gj,hlt];refine ah (by simp) ?_
  refine bC (k':=k) rfl ?_;exact next _ _ q (by omega) gX (.inl (by omega)) (by simp [g0]) (by simp [g1]) (by simp [g4]) (by simp [gi]) (by simp [gj]) hfr hrb
 obtain⟨x,y,F,ar,J,hx,hy,i1,j1,l1,l2,fD,he,-,-⟩:=hrb.ask hg hcv hW hn (i:=q) (j:=a) (by omega) (by omega)
 simp [gi,gj,hlt,g0,g1,g4,i1,j1,l1,l2,fD,he,-ak];have ep:p=y:=by rw [hp]at hy;exact dv hy
 subst ep;by_cases hc:c x p<0
 case pos=>
  refine ah (by simp [hc]) ?_
  refine bC (k':=k) rfl ?_;refine next _ _ q (by omega) gX (.inr fun z hz=>?_) (by simp [g0]) (by simp [g1]) (by simp [g4]) (by simp [gi]) (by simp [gj]) (hfr.trans (Fm.push _ _)) (hrb.push _)
  rw [hx]at hz;cases hz;exact fun h=>h hc
 refine aj (by simp [hc]) (aG ?_)
 refine aB (kw_region (.inl rfl) ?_);simp [gi,gj,wrap64 (n:=(q:Int)-1) (by omega) (by omega)]
 refine au (ih (m-1) _ (by omega) ⟨q-1,_,_,rfl,by omega,fun r z h1 h2 hz=>?_,by simp [g0],by simp [g1],by simp [g4],by simp [gi],by simp;omega,hfr.trans (Fm.push _ _),hrb.push _⟩)
 by_cases hr:r=q
 ·subst hr;rw [hx]at hz;cases hz;exact hc
 ·exact gX r z (by omega) (by omega) hz
theorem aQG{n a e i j ep b:Nat}{rows:List (List FC)}{p:List FC}{H0:Heap}{k:List AItem}{Q:Option ACode→St→Prop}(hcv:Cv tab cv W c)(hn:rows.length=n)(hl:n≤1000000000)(hg:Grid sz rows)(hW:∀ r ∈ rows,W r)
  {t:T} {H:Heap} (hai:a<i) (hij:i≤j+1) (hje:j<e) (hen:e≤n) (hp:rows[a]?=some p)
  (g0:t.g 0=.c (.sl b 0 n 0 ep sz)) (g1:t.g 1=vi a) (g4:t.g 4=cv) (gi:t.g 11=vi i) (gj:t.g 12=vi j) (hfr:Fm b H0 H) (hrb:RB H b sz ep rows)
  (next:∀(t:T) (H:Heap) (i':Nat),(i≤i'∧i'≤j+1)→(∀(q:Nat) x,i≤q→q<i'→rows[q]?=some x→¬ c p x<0)→(j<i'∨∀ x,rows[i']?=some x→¬ ¬ c p x<0) →
   t.g 0=.c (.sl b 0 n 0 ep sz)→t.g 1=vi a→t.g 4=cv→t.g 11=vi i'→t.g 12=vi j→Fm b H0 H→RB H b sz ep rows→WP tab σ.peq none k ⟨t,[],H⟩ Q) :
  WP tab σ.peq none (.code (af7 σ sz)::k) ⟨t,[],H⟩ Q:=by
 refine aB ?_
 refine bM (fun m s=>∃(q:Nat) (t:T) (H1:Heap),s=⟨t,[],H1⟩∧(q+m=j+1∧i≤q)∧(∀(r:Nat) x,i≤r→r<q→rows[r]?=some x→¬ c p x<0) ∧
   t.g 0=.c (.sl b 0 n 0 ep sz)∧t.g 1=vi a∧t.g 4=cv∧t.g 11=vi q∧t.g 12=vi j∧Fm b H0 H1∧RB H1 b sz ep rows) (j+1-i)
  ⟨i,_,H,rfl,by omega,fun r x h1 h2=>by omega,g0,g1,g4,gi,gj,hfr,hrb⟩ ?_
 rintro m s ⟨q,t,H1,rfl,hm,gX,g0,g1,g4,gi,gj,hfr,hrb⟩ ih;refine kw_seq ?_;refine kw_seq (kw_region (.inl rfl) ?_);by_cases hlt:q≤j
 case neg=>
  simp [gi,gj,hlt];refine ah (by simp) ?_
  refine bC (k':=k) rfl ?_;exact next _ _ q (by omega) gX (.inl (by omega)) (by simp [g0]) (by simp [g1]) (by simp [g4]) (by simp [gi]) (by simp [gj]) hfr hrb
 obtain⟨x,y,F,ar,J,hx,hy,i1,j1,l1,l2,fD,he,-,-⟩:=hrb.ask hg hcv hW hn (i:=a) (j:=q) (by omega) (by omega)
 simp [gi,gj,hlt,g0,g1,g4,i1,j1,l1,l2,fD,he,-ak];have ep:p=x:=by rw [hp]at hx;exact dv hx
 subst ep;by_cases hc:c p y<0
 case pos=>
  refine ah (by simp [hc]) ?_
  refine bC (k':=k) rfl ?_;refine next _ _ q (by omega) gX (.inr fun z hz=>?_) (by simp [g0]) (by simp [g1]) (by simp [g4]) (by simp [gi]) (by simp [gj]) (hfr.trans (Fm.push _ _)) (hrb.push _)
  rw [hy]at hz;cases hz;exact fun h=>h hc
 refine aj (by simp [hc]) (aG ?_)
 refine aB (kw_region (.inl rfl) ?_);simp [gi,gj,wrap64 (n:=(q:Int)+1) (by omega) (by omega)]
 refine au (ih (m-1) _ (by omega) ⟨q+1,_,_,rfl,by omega,fun r z h1 h2 hz=>?_,by simp [g0],by simp [g1],by simp [g4],by simp,by simp [gj],hfr.trans (Fm.push _ _),hrb.push _⟩)
 by_cases hr:r=q
 ·subst hr;rw [hy]at hz;cases hz;exact hc
 ·exact gX r z (by omega) (by omega) hz
theorem aQI{n a e i j ep b:Nat}{rows:List (List FC)}{p:List FC}{H0:Heap}{k:List AItem}{Q:Option ACode→St→Prop}(hcv:Cv tab cv W c)(hn:rows.length=n)(hl:n≤1000000000)(hg:Grid sz rows)(hW:∀ r ∈ rows,W r)
  {t:T} {H:Heap} (hai:a<i) (hij:i≤j+1) (hje:j<e) (hen:e≤n) (hp:rows[a]?=some p)
  (g0:t.g 0=.c (.sl b 0 n 0 ep sz)) (g1:t.g 1=vi a) (g4:t.g 4=cv) (gi:t.g 11=vi i) (gj:t.g 12=vi j) (hfr:Fm b H0 H) (hrb:RB H b sz ep rows)
  (next:∀(t:T) (H:Heap) (j':Nat),(j'≤j∧i≤j'+1)→(∀(q:Nat) x,j'<q→q≤j→rows[q]?=some x→c p x<0)→(j'<i∨∀ x,rows[j']?=some x→¬ c p x<0) →
   t.g 0=.c (.sl b 0 n 0 ep sz)→t.g 1=vi a→t.g 4=cv→t.g 11=vi i→t.g 12=vi j'→Fm b H0 H→RB H b sz ep rows→WP tab σ.peq none k ⟨t,[],H⟩ Q) :
  WP tab σ.peq none (.code (af6 σ sz)::k) ⟨t,[],H⟩ Q:=by
 refine aB ?_
 refine bM (fun m s=>∃(q:Nat) (t:T) (H1:Heap),s=⟨t,[],H1⟩∧(q+1=i+m∧q≤j)∧(∀(r:Nat) x,q<r→r≤j→rows[r]?=some x→c p x<0) ∧
   t.g 0=.c (.sl b 0 n 0 ep sz)∧t.g 1=vi a∧t.g 4=cv∧t.g 11=vi i∧t.g 12=vi q∧Fm b H0 H1∧RB H1 b sz ep rows) (j+1-i)
  ⟨j,_,H,rfl,by omega,fun r x h1 h2=>by omega,g0,g1,g4,gi,gj,hfr,hrb⟩ ?_
 rintro m s ⟨q,t,H1,rfl,hm,gX,g0,g1,g4,gi,gj,hfr,hrb⟩ ih;refine kw_seq ?_;refine kw_seq (kw_region (.inl rfl) ?_);by_cases hlt:i≤q
 case neg=>
  simp [gi,gj,hlt];refine ah (by simp) ?_
  refine bC (k':=k) rfl ?_;exact next _ _ q (by omega) gX (.inl (by omega)) (by simp [g0]) (by simp [g1]) (by simp [g4]) (by simp [gi]) (by simp [gj]) hfr hrb
 obtain⟨x,y,F,ar,J,hx,hy,i1,j1,l1,l2,fD,he,-,-⟩:=hrb.ask hg hcv hW hn (i:=a) (j:=q) (by omega) (by omega)
 simp [gi,gj,hlt,g0,g1,g4,i1,j1,l1,l2,fD,he,-ak];have ep:p=x:=by rw [hp]at hx;exact dv hx
 subst ep;by_cases hc:c p y<0
 case neg=>
  refine ah (by simp [hc]) ?_
  refine bC (k':=k) rfl ?_;refine next _ _ q (by omega) gX (.inr fun z hz=>?_) (by simp [g0]) (by simp [g1]) (by simp [g4]) (by simp [gi]) (by simp [gj]) (hfr.trans (Fm.push _ _)) (hrb.push _)
  rw [hy]at hz;cases hz;exact hc
 refine aj (by simp [hc]) (aG ?_)
 refine aB (kw_region (.inl rfl) ?_);simp [gi,gj,wrap64 (n:=(q:Int)-1) (by omega) (by omega)]
 refine au (ih (m-1) _ (by omega) ⟨q-1,_,_,rfl,by omega,fun r z h1 h2 hz=>?_,by simp [g0],by simp [g1],by simp [g4],by simp [gi],by simp;omega,hfr.trans (Fm.push _ _),hrb.push _⟩)
 by_cases hr:r=q
 ·subst hr;rw [hy]at hz;cases hz;exact hc
 ·exact gX r z (by omega) (by omega) hz
def FB(c:List FC→List FC→Int)(a i j e:Nat)(p:List FC)(l:List (List FC)):Prop:=
 l[a]?=some p∧(∀(k:Nat) x,a<k→k<i→l[k]?=some x→c x p<0)∧(∀(k:Nat) x,j<k→k<e→l[k]?=some x→¬ c x p<0)
def rV(c:List FC→List FC→Int)(a e m:Nat)(l:List (List FC)):Prop:=
 ∃ p,l[m]?=some p∧(∀(k:Nat) x,a≤k→k<m→l[k]?=some x→c x p<0)∧(∀(k:Nat) x,m<k→k<e→l[k]?=some x→¬ c x p<0)
theorem FB.swap{a i j e:Nat}{p:List FC}{l:List (List FC)}(h:FB c a i j e p l)(hai:a<i)(hij:i<j)(hjl:j<l.length)(hi:∀ x,l[i]?=some x→¬ c x p<0)(hj:∀ x,l[j]?=some x→c x p<0):FB c a (i+1) (j-1) e p (swp l i j):=by
 obtain⟨h0,h1,h2⟩:=h;have g:∀ k,(swp l i j)[k]?=if k=j then l[i]? else if k=i then l[j]? else l[k]?:=fun k=>swp_get (by omega) hjl k
 refine⟨?_,fun k x k1 k2 hx=>?_,fun k x k1 k2 hx=>?_⟩
 ·rw [g,if_neg (by omega),if_neg (by omega)];exact h0
 ·rw [g,if_neg (by omega)]at hx
  by_cases e:k=i
  ·rw [if_pos e]at hx;exact hj x hx
  ·rw [if_neg e]at hx;exact h1 k x k1 (by omega) hx
 ·rw [g]at hx;by_cases e:k=j
  ·rw [if_pos e]at hx;exact hi x hx
  ·rw [if_neg e,if_neg (by omega)]at hx;exact h2 k x (by omega) k2 hx
theorem FB.done{a i j e:Nat}{p:List FC}{l:List (List FC)}(h:FB c a i j e p l)(hai:a≤j)(hij:i=j+1)(hjl:j<l.length):rV c a e j (swp l j a):=by
 obtain⟨h0,h1,h2⟩:=h;have g:∀ k,(swp l j a)[k]?=if k=a then l[j]? else if k=j then l[a]? else l[k]?:=fun k=>swp_get hjl (by omega) k
 refine⟨p,?_,fun k x k1 k2 hx=>?_,fun k x k1 k2 hx=>?_⟩
 ·rw [g];by_cases e:j=a
  ·rw [if_pos e,e];exact h0
  ·rw [if_neg e,if_pos rfl];exact h0
 ·rw [g]at hx;by_cases e:k=a
  ·rw [if_pos e]at hx;exact h1 j x (by omega) (by omega) hx
  ·rw [if_neg e,if_neg (by omega)]at hx;exact h1 k x (by omega) (by omega) hx
 ·rw [g,if_neg (by omega),if_neg (by omega)]at hx
  exact h2 k x k1 k2 hx
theorem aF9{H:Heap}{rows:List (List FC)}{n a e v b ep:Nat}(hT:tab σ.part=some (Qi σ sz))(hcv:Cv tab cv W c)(hn:rows.length=n)(hl:n≤1000000000)(hrb:RB H b sz ep rows)(hg:Grid sz rows)(hW:∀ r ∈ rows,W r)(hae:a<e)(hen:e≤n)(hav:a≤v)(hve:v<e) :
  ∃ r H',Ev tab (.fn σ.part) [.c (.sl b 0 n 0 ep sz),vi a,vi e,vi v,cv] H r H'∧((∃(m:Nat) (w:Bool),r=.t [vi m,vb w]∧a≤m∧m<e∧Fm b H H'∧∃ l',RB H' b sz ep l'∧Seg a e rows l'∧rV c a e m l')):=by
 refine fV hT rfl fun Q hQ=>?_
 obtain⟨d,rfl⟩:∃ d,e=d+1:=⟨e-1,by omega⟩
 obtain⟨x,p,H1,H2,hx,hp,i1,j1,l1,l2,w1,w2,s1,j2,s2,r2,f2⟩:=hrb.swp hg hn (i:=a) (j:=v) (by omega) (by omega)
 have sg1:Seg a (d+1) rows (swp rows a v):=iZ (by omega) (by omega) (by omega) (by omega) (by omega)
 have pi1:FB c a (a+1) d (d+1) p (swp rows a v):=by
  refine⟨?_,fun k x k1 k2=>by omega,fun k x k1 k2=>by omega⟩
  rw [swp_get (by omega) (by omega)]
  by_cases e:a=v
  ·rw [if_pos e,e];exact hp
  ·rw [if_neg e,if_pos rfl];exact hp
 refine kw_seq (kw_region (.inl rfl) ?_);simp;refine kw_seq (kw_region (.inl rfl) ?_);simp [i1,j1,l1,l2,w1,w2,s1,j2,s2,-ak,-bJ];refine kw_seq (kw_region (.inl rfl) ?_);simp [wrap64 (n:=(a:Int)+1) (by omega) (by omega),wrap64 (n:=(d:Int)) (by omega) (by omega)]
 refine kw_seq ?_
 have KF:∀(w:Bool) (t:T) (H3:Heap) (l:List (List FC)) (i j:Nat),a≤j→j<d+1→i=j+1→FB c a i j (d+1) p l→Seg a (d+1) rows l→Fm b H H3→RB H3 b sz ep l →
   ∃(x y:List FC) (H4 H5:Heap),aP H3 sz none (.c (.sl b 0 n 0 ep sz)) (vi j)=some (.c (.ptr b (j*sz) ep))∧aP H3 sz none (.c (.sl b 0 n 0 ep sz)) (vi a)=some (.c (.ptr b (a*sz) ep)) ∧
    ldV H3 (some sz) (.c (.ptr b (j*sz) ep))=some (.a (x.map .f))∧ldV H3 (some sz) (.c (.ptr b (a*sz) ep))=some (.a (y.map .f))∧x.length=sz∧y.length=sz ∧
    stC H3 (.ptr b (j*sz) ep) (y.map .f)=some H4∧aP H4 sz none (.c (.sl b 0 n 0 ep sz)) (vi a)=some (.c (.ptr b (a*sz) ep))∧stC H4 (.ptr b (a*sz) ep) (x.map .f)=some H5 ∧
    (a≤j∧j<d+1∧Fm b H H5∧∃ l',RB H5 b sz ep l'∧Seg a (d+1) rows l'∧rV c a (d+1) j l'):=by
  intro w t H3 l i j h1 h2 h3 hpi hsg hfr hrb;have hlen:=hsg.len;obtain⟨x,y,H4,H5,-,-,i1,j1,l1,l2,w1,w2,s1,j2,s2,r2,f2⟩:=hrb.swp (hsg.grid hg) (hlen.trans hn) (i:=j) (j:=a) (by omega) (by omega)
  exact⟨x,y,H4,H5,i1,j1,l1,l2,w1,w2,s1,j2,s2,h1,h2,hfr.trans f2,_,r2,hsg.trans (iZ (by omega) (by omega) (by omega) (by omega) (by omega)),hpi.done h1 h3 (by omega)⟩
 have grid:∀ {l},Seg a (d+1) rows l→Grid sz l:=fun h=>h.grid hg
 have wall:∀ {l},Seg a (d+1) rows l→∀ r ∈ l,W r:=fun h r hr=>hW r (h.1.mem_iff.1 hr)
 refine agh hcv (sg1.len.trans hn) hl (grid sg1) (wall sg1) (i:=a+1) (j:=d) (e:=d+1) (H0:=H) (by omega) (by omega) (by omega) hen pi1.1 (by simp) (by simp) (by simp) (by simp) (by simp) f2 r2 ?_
 intro t H3 i' hi1 gX hstop g0 g1 g4 gi gj hfr hrb;refine kw_seq ?_;refine agj hcv (sg1.len.trans hn) hl (grid sg1) (wall sg1) (i:=i') (j:=d) (e:=d+1) (H0:=H) (by omega) (by omega) (by omega) hen pi1.1 g0 g1 g4 gi gj hfr hrb ?_
 intro t H4 j' hj1 DV DU g0 g1 g4 gi gj hfr hrb;have pi2:FB c a i' j' (d+1) p (swp rows a v):=⟨pi1.1,fun k x k1 k2 hx=>gX k x (by omega) k2 hx,fun k x k1 k2 hx=>DV k x k1 (by omega) hx⟩
 refine kw_seq ?_;refine kw_seq (kw_region (.inl rfl) ?_);simp [gi,gj];by_cases hgt:j'<i'
 ·obtain⟨x,y,H5,H6,i1,j1,l1,l2,w1,w2,s1,j2,s2,hend⟩:=KF true t H4 _ i' j' (by omega) (by omega) (by omega) pi2 sg1 hfr hrb
  refine aj (by simp [hgt]) (kw_seq (kw_region (.inl rfl) ?_))
  simp [g0,g1,gj,i1,j1,l1,l2,w1,w2,s1,j2,s2,-ak,-bJ];refine kw_seq (kw_region (.inl rfl) ?_);simp [gj];exact aH (hQ _ _ (.t [vi j',vb true]) rfl (by simp [Km.results,aZ]) ⟨j',true,rfl,hend⟩)
 refine ah (by simp [hgt]) (aG ?_)
 have ni:∀ x,(swp rows a v)[i']?=some x→¬ c x p<0:=by
  rcases hstop with h | h
  ·omega
  ·exact h
 have nj:∀ x,(swp rows a v)[j']?=some x→c x p<0:=by
  rcases DU with h | h
  ·omega
  ·exact fun x hx=>Classical.not_not.1 (h x hx)
 have hne:i'≠j':=by
  rintro rfl;have hx:=ae (l:=swp rows a v) (i:=i') (by rw [Iy];omega)
  exact ni _ hx (nj _ hx)
 obtain⟨x5,y5,H5,H6,-,-,i1,j1,l1,l2,w1,w2,s1,j2,s2,r5,f5⟩:=hrb.swp (grid sg1) (sg1.len.trans hn) (i:=i') (j:=j') (by omega) (by omega)
 refine kw_seq (kw_region (.inl rfl) ?_);simp [g0,gi,gj,i1,j1,l1,l2,w1,w2,s1,j2,s2,-ak,-bJ];refine kw_seq (kw_region (.inl rfl) ?_);simp [gi,wrap64 (n:=(i':Int)+1) (by omega) (by omega)]
 refine kw_seq (kw_region (.inl rfl) ?_);simp [gj,wrap64 (n:=(j':Int)-1) (by omega) (by omega)]
 refine kw_seq ?_;refine aB ?_
 refine bM (fun m s=>∃(i j:Nat) (t:T) (H1:Heap) (l:List (List FC)),s=⟨t,[],H1⟩∧m=j+1-i∧a<i∧i≤j+1∧j<d+1∧t.g 0=.c (.sl b 0 n 0 ep sz)∧t.g 1=vi a∧t.g 4=cv∧t.g 12=vi i∧t.g 13=vi j ∧
   Fm b H H1∧RB H1 b sz ep l∧Seg a (d+1) rows l∧FB c a i j (d+1) p l) _
  ⟨i'+1,j'-1,_,H6,_,rfl,rfl,by omega,by omega,by omega,by simp [g0],by simp [g1],by simp [g4],by simp,by simp;omega,hfr.trans f5,r5,
   sg1.trans (iZ (by omega) (by omega) (by omega) (by omega) (by rw [Iy];omega)),pi2.swap (by omega) (by omega) (by rw [Iy];omega) ni nj⟩ ?_
 rintro m s ⟨i,j,t,H1,l,rfl,rfl,hai,hij,hjd,g0,g1,g4,gi,gj,hfr,hrb,hsg,hpi⟩ ih;have hlen:=hsg.len;refine aB ?_;refine kw_seq ?_;refine agf hcv (hlen.trans hn) hl (grid hsg) (wall hsg) (i:=i) (j:=j) (e:=d+1) (H0:=H) hai hij hjd hen hpi.1 g0 g1 g4 gi gj hfr hrb ?_;intro t H3 i' hi1 gX hstop g0 g1 g4 gi gj hfr hrb;refine kw_seq ?_;refine agi hcv (hlen.trans hn) hl (grid hsg) (wall hsg) (i:=i') (j:=j) (e:=d+1) (H0:=H) (by omega) (by omega) (by omega) hen hpi.1 g0 g1 g4 gi gj hfr hrb ?_
 intro t H4 j' hj1 DV DU g0 g1 g4 gi gj hfr hrb
 have pi2:FB c a i' j' (d+1) p l:=⟨hpi.1,fun k x k1 k2 hx=>by
   by_cases hk:k<i
   ·exact hpi.2.1 k x k1 hk hx
   ·exact gX k x (by omega) k2 hx,fun k x k1 k2 hx=>by
   by_cases hk:j<k
   ·exact hpi.2.2 k x hk k2 hx
   ·exact DV k x k1 (by omega) hx⟩
 refine kw_seq ?_;refine kw_seq (kw_region (.inl rfl) ?_);simp [gi,gj];by_cases hgt:j'<i'
 ·obtain⟨x,y,H5,H6,i1,j1,l1,l2,w1,w2,s1,j2,s2,hend⟩:=KF false t H4 _ i' j' (by omega) (by omega) (by omega) pi2 hsg hfr hrb
  refine aj (by simp [hgt]) ?_
  refine bC (k':=[.code (Um σ sz)]) rfl ?_;refine kw_seq (kw_region (.inl rfl) ?_);simp [g0,g1,gj,i1,j1,l1,l2,w1,w2,s1,j2,s2,-ak,-bJ];refine kw_seq (kw_region (.inl rfl) ?_);simp [gj];exact aH (hQ _ _ (.t [vi j',vb false]) rfl (by simp [Km.results,aZ]) ⟨j',false,rfl,hend⟩)
 refine ah (by simp [hgt]) (aG ?_)
 have ni:∀ x,l[i']?=some x→¬ c x p<0:=by
  rcases hstop with h | h
  ·omega
  ·exact h
 have nj:∀ x,l[j']?=some x→c x p<0:=by
  rcases DU with h | h
  ·omega
  ·exact fun x hx=>Classical.not_not.1 (h x hx)
 have hne:i'≠j':=by
  rintro rfl;have hx:=ae (l:=l) (i:=i') (by omega)
  exact ni _ hx (nj _ hx)
 obtain⟨x5,y5,H5,H6,-,-,i1,j1,l1,l2,w1,w2,s1,j2,s2,r5,f5⟩:=hrb.swp (grid hsg) (hlen.trans hn) (i:=i') (j:=j') (by omega) (by omega)
 refine kw_seq (kw_region (.inl rfl) ?_);simp [g0,gi,gj,i1,j1,l1,l2,w1,w2,s1,j2,s2,-ak,-bJ];refine kw_seq (kw_region (.inl rfl) ?_);simp [gi,wrap64 (n:=(i':Int)+1) (by omega) (by omega)]
 refine kw_region (.inl rfl) ?_;simp [gj,wrap64 (n:=(j':Int)-1) (by omega) (by omega)]
 exact au (ih _ _ (by omega) ⟨i'+1,j'-1,_,H6,_,rfl,rfl,by omega,by omega,by omega,by simp [g0],by simp [g1],by simp [g4],by simp,by simp;omega,hfr.trans f5,r5,
   hsg.trans (iZ (by omega) (by omega) (by omega) (by omega) (by omega)),pi2.swap (by omega) (by omega) (by omega) ni nj⟩)
end
end
section
open Go
section
variable{tab:Nat→Option AFunc}{σ:Srt}{sz:Nat}{cv:V}{W:List FC→Prop}{c:List FC→List FC→Int}
def Xl(c:List FC→List FC→Int)(a i j e:Nat)(p:List FC)(l:List (List FC)):Prop:=
 l[a]?=some p∧(∀(k:Nat) x,a<k→k<i→l[k]?=some x→¬ c p x<0)∧(∀(k:Nat) x,j<k→k<e→l[k]?=some x→c p x<0)
theorem Xl.swap{a i j e:Nat}{p:List FC}{l:List (List FC)}(h:Xl c a i j e p l)(hai:a<i)(hij:i<j)(hjl:j<l.length)(hi:∀ x,l[i]?=some x→c p x<0)(hj:∀ x,l[j]?=some x→¬ c p x<0):Xl c a (i+1) (j-1) e p (swp l i j):=by
 obtain⟨h0,h1,h2⟩:=h;have g:∀ k,(swp l i j)[k]?=if k=j then l[i]? else if k=i then l[j]? else l[k]?:=fun k=>swp_get (by omega) hjl k
 refine⟨?_,fun k x k1 k2 hx=>?_,fun k x k1 k2 hx=>?_⟩
 ·rw [g,if_neg (by omega),if_neg (by omega)];exact h0
 ·rw [g,if_neg (by omega)]at hx
  by_cases e:k=i
  ·rw [if_pos e]at hx;exact hj x hx
  ·rw [if_neg e]at hx;exact h1 k x k1 (by omega) hx
 ·rw [g]at hx;by_cases e:k=j
  ·rw [if_pos e]at hx;exact hi x hx
  ·rw [if_neg e,if_neg (by omega)]at hx;exact h2 k x (by omega) k2 hx
theorem aQH{H:Heap}{rows:List (List FC)}{n a e v b ep:Nat}{p:List FC}(hT:tab σ.peq=some (af4 σ sz))(hcv:Cv tab cv W c)(hcm:Cmp W c)(hn:rows.length=n)(hl:n≤1000000000)(hrb:RB H b sz ep rows)(hg:Grid sz rows)(hW:∀ r ∈ rows,W r)(hae:a<e)(hen:e≤n)(hav:a≤v)(hve:v<e)(hpv:rows[v]?=some p) :
  ∃ r H',Ev tab (.fn σ.peq) [.c (.sl b 0 n 0 ep sz),vi a,vi e,vi v,cv] H r H'∧((∃(m:Nat),r=vi m∧a<m∧m≤e∧Fm b H H'∧∃ l',RB H' b sz ep l'∧Seg a e rows l'∧(∀(k:Nat) x,a≤k→k<m→l'[k]?=some x→¬ c p x<0)∧(∀(k:Nat) x,m≤k→k<e→l'[k]?=some x→c p x<0))):=by
 refine fV hT rfl fun Q hQ=>?_
 obtain⟨d,rfl⟩:∃ d,e=d+1:=⟨e-1,by omega⟩
 obtain⟨x,p',H1,H2,hx,hp',i1,j1,l1,l2,w1,w2,s1,j2,s2,r2,f2⟩:=hrb.swp hg hn (i:=a) (j:=v) (by omega) (by omega)
 obtain rfl:p=p':=by rw [hpv]at hp';exact dv hp'
 have hself:¬ c p p<0:=fun h=>hcm.asym (hW _ (aL hpv)) (hW _ (aL hpv)) h h
 have sg1:Seg a (d+1) rows (swp rows a v):=iZ (by omega) (by omega) (by omega) (by omega) (by omega)
 have pi1:Xl c a (a+1) d (d+1) p (swp rows a v):=by
  refine⟨?_,fun k x k1 k2=>by omega,fun k x k1 k2=>by omega⟩
  rw [swp_get (by omega) (by omega)]
  by_cases e:a=v
  ·rw [if_pos e,e];exact hpv
  ·rw [if_neg e,if_pos rfl];exact hpv
 refine kw_seq (kw_region (.inl rfl) ?_);simp;refine kw_seq (kw_region (.inl rfl) ?_);simp [i1,j1,l1,l2,w1,w2,s1,j2,s2,-ak,-bJ];refine kw_seq (kw_region (.inl rfl) ?_);simp [wrap64 (n:=(a:Int)+1) (by omega) (by omega),wrap64 (n:=(d:Int)) (by omega) (by omega)]
 refine kw_seq ?_;have grid:∀ {l},Seg a (d+1) rows l→Grid sz l:=fun h=>h.grid hg
 have wall:∀ {l},Seg a (d+1) rows l→∀ r ∈ l,W r:=fun h r hr=>hW r (h.1.mem_iff.1 hr)
 refine aB ?_
 refine bM (fun m s=>∃(i j:Nat) (t:T) (H1:Heap) (l:List (List FC)),s=⟨t,[],H1⟩∧m=j+1-i∧a<i∧i≤j+1∧j<d+1∧t.g 0=.c (.sl b 0 n 0 ep sz)∧t.g 1=vi a∧t.g 4=cv∧t.g 11=vi i∧t.g 12=vi j ∧
   Fm b H H1∧RB H1 b sz ep l∧Seg a (d+1) rows l∧Xl c a i j (d+1) p l) _
  ⟨a+1,d,_,H2,_,rfl,rfl,by omega,by omega,by omega,by simp,by simp,by simp,by simp,by simp,f2,r2,sg1,pi1⟩ ?_
 rintro m s ⟨i,j,t,H1,l,rfl,rfl,hai,hij,hjd,g0,g1,g4,gi,gj,hfr,hrb,hsg,hpi⟩ ih;have hlen:=hsg.len;refine aB ?_;refine kw_seq ?_;refine aQG hcv (hlen.trans hn) hl (grid hsg) (wall hsg) (i:=i) (j:=j) (e:=d+1) (H0:=H) hai hij hjd hen hpi.1 g0 g1 g4 gi gj hfr hrb ?_;intro t H3 i' hi1 gX hstop g0 g1 g4 gi gj hfr hrb;refine kw_seq ?_;refine aQI hcv (hlen.trans hn) hl (grid hsg) (wall hsg) (i:=i') (j:=j) (e:=d+1) (H0:=H) (by omega) (by omega) (by omega) hen hpi.1 g0 g1 g4 gi gj hfr hrb ?_
 intro t H4 j' hj1 DV DU g0 g1 g4 gi gj hfr hrb
 have pi2:Xl c a i' j' (d+1) p l:=⟨hpi.1,fun k x k1 k2 hx=>by
   by_cases hk:k<i
   ·exact hpi.2.1 k x k1 hk hx
   ·exact gX k x (by omega) k2 hx,fun k x k1 k2 hx=>by
   by_cases hk:j<k
   ·exact hpi.2.2 k x hk k2 hx
   ·exact DV k x k1 (by omega) hx⟩
 refine kw_seq ?_;refine kw_seq (kw_region (.inl rfl) ?_);simp [gi,gj];by_cases hgt:j'<i'
 ·refine aj (by simp [hgt]) ?_
  refine bC (k':=[.code (af5 σ sz)]) rfl ?_;refine kw_seq (kw_region (.inl rfl) ?_);simp [gi];refine aH (hQ _ _ (vi i') rfl (by simp [Km.results,aZ]) ⟨i',rfl,by omega,by omega,hfr,l,hrb,hsg,fun q z k1 k2 hz=>?_,fun q z k1 k2 hz=>pi2.2.2 q z (by omega) k2 hz⟩)
  by_cases e:q=a
  ·rw [e,pi2.1]at hz;cases hz;exact hself
  ·exact pi2.2.1 q z (by omega) k2 hz
 refine ah (by simp [hgt]) (aG ?_)
 have ni:∀ x,l[i']?=some x→c p x<0:=by
  rcases hstop with h | h
  ·omega
  ·exact fun x hx=>Classical.not_not.1 (h x hx)
 have nj:∀ x,l[j']?=some x→¬ c p x<0:=by
  rcases DU with h | h
  ·omega
  ·exact h
 have hne:i'≠j':=by
  rintro rfl;have hx:=ae (l:=l) (i:=i') (by omega)
  exact nj _ hx (ni _ hx)
 obtain⟨x5,y5,H5,H6,-,-,i1,j1,l1,l2,w1,w2,s1,j2,s2,r5,f5⟩:=hrb.swp (grid hsg) (hlen.trans hn) (i:=i') (j:=j') (by omega) (by omega)
 refine kw_seq (kw_region (.inl rfl) ?_);simp [g0,gi,gj,i1,j1,l1,l2,w1,w2,s1,j2,s2,-ak,-bJ];refine kw_seq (kw_region (.inl rfl) ?_);simp [gi,wrap64 (n:=(i':Int)+1) (by omega) (by omega)]
 refine kw_region (.inl rfl) ?_;simp [gj,wrap64 (n:=(j':Int)-1) (by omega) (by omega)]
 exact au (ih _ _ (by omega) ⟨i'+1,j'-1,_,H6,_,rfl,rfl,by omega,by omega,by omega,by simp [g0],by simp [g1],by simp [g4],by simp,by simp;omega,hfr.trans f5,r5,
   hsg.trans (iZ (by omega) (by omega) (by omega) (by omega) (by omega)),pi2.swap (by omega) (by omega) (by omega) ni nj⟩)
end
end
end Km
