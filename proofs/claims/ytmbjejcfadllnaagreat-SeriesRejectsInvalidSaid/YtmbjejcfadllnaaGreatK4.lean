/-
  Our own small machine for Go code by value, held against the model: part 4. No program in sight.
-/
import Derived.Test.YtmbjejcfadllnaaGreatK3
import Derived.ChangeArms
import Derived.DataReads
import Derived.Deep.Slices
import Derived.ProofKit
import Derived.RowKit3
import Derived.Below
import Derived.Carry
import Derived.Laws.IdiomArrays
open Nat renaming le_refl → aq, add_mul → bN, mul_le_mul_right → ce
open Option renaming bind_some → bh, map_eq_some_iff → am, bind_eq_some_iff → ba
open List renaming map_cons → ax, foldl_cons → cm, mem_cons_of_mem → bw, flatten_cons → bq, length_append → aL, length_cons → bt, mem_cons_self → bj, drop_append → dp, mem_map → ci, getElem?_eq_some_iff → ab, mem_of_getElem? → bl, drop_eq_getElem_cons → bp, getElem?_eq_getElem → ai, length_map → bL, length_drop → cf, map_append → cq, drop_zero → cG, take_of_length_le → bi, getElem?_map → b8, isEmpty_cons → dg, findIdx?_eq_some_iff_getElem → di, getElem_mem → az, getElem?_append_left → ae, take_append_drop → cA, append_nil → cE, getElem?_set_ne → al, getElem?_set_self → ap
open Bool renaming false_eq_true → aw, and_eq_true → ag
set_option linter.unusedVariables false
set_option linter.unusedSimpArgs false
set_option linter.unusedSectionVars false
set_option maxRecDepth 100000
namespace Km
section
open Go
def P.P8:Nat→Nat→P
 | 0,_=>.h
 | k+1,n=>if n=0 then .h else if n % 2=1 then .o (P8 k ((n-1) / 2))else .i (P8 k ((n-2) / 2))
def P.nat(n:Nat):P:=P.P8 n n
theorem ug:∀(k n:Nat),n≤k→(P.P8 k n).toNat=n
 | 0,n,hn=>by simp [P.P8,P.toNat];omega
 | k+1,n,hn=>by
  unfold P.P8;split
  ·simp [P.toNat, *]
  ·split
   ·simp [P.toNat];rw [ug k _ (by omega)];omega
   ·simp [P.toNat];rw [ug k _ (by omega)];omega
theorem CV(n:Nat):(P.nat n).toNat=n:=ug n n (aq n)
theorem nat_ne{a b:Nat}(hab:a≠b):P.nat a≠P.nat b:=fun e=>hab (by rw [←CV a,←CV b,e])
theorem T.jB(v:V):∀(p:P) (t:T),(t.set p v).get p=v
 | .h,.e=>rfl
 | .h,.n _ _ _=>rfl
 | .o p,.e=>T.jB v p .e
 | .o p,.n l _ _=>T.jB v p l
 | .i p,.e=>T.jB v p .e
 | .i p,.n _ _ r=>T.jB v p r
theorem T.l9(v:V):∀(p q:P) (t:T),p≠q→(t.set p v).get q=t.get q
 | .h,.h,_,h=>absurd rfl h
 | .h,.o q,.e,_=>by cases q<;>rfl
 | .h,.i q,.e,_=>by cases q<;>rfl
 | .h,.o _,.n _ _ _,_=>rfl
 | .h,.i _,.n _ _ _,_=>rfl
 | .o _,.h,.e,_=>rfl
 | .o _,.h,.n _ _ _,_=>rfl
 | .i _,.h,.e,_=>rfl
 | .i _,.h,.n _ _ _,_=>rfl
 | .o p,.o q,.e,h=>by
  show(T.set .e p v).get q=_
  rw [T.l9 v p q .e (fun e=>h (by rw [e]))]
  cases q<;>rfl
 | .o p,.o q,.n l _ _,h=>T.l9 v p q l (fun e=>h (by rw [e]))
 | .o p,.i q,.e,h=>by
  show T.get .e q=_
  cases q<;>rfl
 | .o _,.i _,.n _ _ _,_=>rfl
 | .i p,.o q,.e,h=>by
  show T.get .e q=_
  cases q<;>rfl
 | .i _,.o _,.n _ _ _,_=>rfl
 | .i p,.i q,.e,h=>by
  show(T.set .e p v).get q=_
  rw [T.l9 v p q .e (fun e=>h (by rw [e]))]
  cases q<;>rfl
 | .i p,.i q,.n _ _ r,h=>T.l9 v p q r (fun e=>h (by rw [e]))
def T.g(t:T)(n:Nat):V:=t.get (P.nat n)
def T.s(t:T)(n:Nat)(v:V):T:=t.set (P.nat n) v
@[simp] theorem T.g_s (t:T) (n m:Nat) (v:V):(t.s n v).g m=if n=m then v else t.g m:=by
 unfold T.g T.s;split
 ·rename_i h;subst h;exact T.jB v _ t
 ·rename_i h;exact T.l9 v _ _ t (nat_ne h)
def R(n:Nat):Arg:=.r (P.nat n)
def D(n:Nat):Option P:=some (P.nat n)
def G(n:Nat)(w:Bool):Option (P × Bool):=some (P.nat n,w)
abbrev vi(n:Int):V:=.c (.f (.int .i64 n))
abbrev vb(b:Bool):V:=.c (.f (.bool b))
abbrev fi(n:Int):FC:=.int .i64 n
@[simp] theorem aTJ (t:T) (n:Nat):(R n).ev t=t.g n:=rfl
@[simp] theorem aTC (t:T) (v:V):(Arg.k v).ev t=v:=rfl
@[simp] theorem aQw (t:T) (n:Nat) (v:V):lY t (D n) v=t.s n v:=rfl
@[simp] theorem aJU (t:T) (v:V):lY t none v=t:=rfl
@[simp] theorem awV (t:T) (n:Nat):t.get (P.nat n)=t.g n:=rfl
@[simp] theorem aDX (n:Nat) (ps:List P) (v:V) (vs:List V) (t:T):dI (P.nat n::ps) (v::vs) t=dI ps vs (t.s n v):=rfl
@[simp] theorem aEH (vs:List V) (t:T):dI [] vs t=t:=rfl
@[simp] theorem aDU (t:T):wanted t none=some true:=rfl
@[simp] theorem aKq (t:T) (n:Nat) (w:Bool):wanted t (G n w)=match t.g n with
  | .c (.f (.bool b))=>some (b == w)
  | .t []=>some false
  | _=>none:=rfl
attribute [simp] dZ
def KO(o:Option (V × Heap))(t:T)(ds:List fE)(K:V→St→Prop):Prop:=∃ p,o=some p∧K p.1 ⟨t,ds,p.2⟩
@[simp] theorem aPg (v:V) (H:Heap) (t:T) (ds:List fE) (K:V→St→Prop):KO (some (v,H)) t ds K↔K v ⟨t,ds,H⟩:=⟨fun⟨_,h,k⟩=>by cases h;exact k,fun k=>⟨_,rfl,k⟩⟩
def KP(P:V→Prop)(t:T)(ds:List fE)(H:Heap)(K:V→St→Prop):Prop:=∃ x,P x∧K x ⟨t,ds,H⟩
@[simp] theorem aOv (x:V) (t:T) (ds:List fE) (H:Heap) (K:V→St→Prop):KP (Eq x) t ds H K↔K x ⟨t,ds,H⟩:=⟨fun⟨_,h,k⟩=>by cases h;exact k,fun k=>⟨x,rfl,k⟩⟩
def E2(x:V)(H:Heap)(y:V)(H':Heap):Prop:=x=y∧H=H'
def KE(P:V→Heap→Prop)(t:T)(ds:List fE)(K:V→St→Prop):Prop:=∃ x H,P x H∧K x ⟨t,ds,H⟩
@[simp] theorem aSE (x:V) (H:Heap) (t:T) (ds:List fE) (K:V→St→Prop):KE (E2 x H) t ds K↔K x ⟨t,ds,H⟩:=⟨fun⟨_,_,⟨h1,h2⟩,k⟩=>by cases h1;cases h2;exact k,fun k=>⟨x,H,⟨rfl,rfl⟩,k⟩⟩
section
variable(tab:Nat→Option AFunc)
def KC(fs:Option (List V))(f:Nat)(t:T)(ds:List fE)(H:Heap)(K:V→St→Prop):Prop:=∃ a,fs=some a∧KP (Pure tab f a) t ds H K
def KD(c:Option (Callee × List V))(t:T)(ds:List fE)(H:Heap)(K:V→St→Prop):Prop:=∃ a,c=some a∧KE (Ev tab a.1 a.2 H) t ds K
def KS(os:List AOper)(L:St→Prop)(s:St):Prop:=OPS tab os s L
def FS(s:St)(K:St→Prop):Prop:=K s
def KV(o:Option P)(os:List AOper)(L:St→Prop)(v:V)(s:St):Prop:=FS ⟨lY s.regs o v,s.defs,s.heap⟩ (KS tab os L)
def GRD(w:Option Bool)(op:AOp)(o:Option P)(os:List AOper)(L:St→Prop)(s:St):Prop:=
 match w with
 | some true=>ONE tab s op (KV tab o os L)
 | some false=>FS ⟨lY s.regs o (.t []),s.defs,s.heap⟩ (KS tab os L)
 | none=>False
end
section
variable{tab:Nat→Option AFunc}{t:T}{ds:List fE}{H:Heap}{K:V→St→Prop}{L:St→Prop}
@[simp] theorem axr (a:List V) (f:Nat):KC tab (some a) f t ds H K↔KP (Pure tab f a) t ds H K:=⟨fun⟨_,h,k⟩=>by cases h;exact k,fun k=>⟨_,rfl,k⟩⟩
@[simp] theorem aPh (c:Callee) (a:List V):KD tab (some (c,a)) t ds H K↔KE (Ev tab c a H) t ds K:=⟨fun⟨_,h,k⟩=>by cases h;exact k,fun k=>⟨_,rfl,k⟩⟩
@[simp] theorem aTf (s:St) (K:St→Prop):FS s K↔K s:=Iff.rfl
@[simp ↓] theorem aSD (os:List AOper) (s:St):KS tab os L s↔OPS tab os s L:=Iff.rfl
@[simp ↓] theorem aSC (o:Option P) (os:List AOper) (v:V):KV tab o os L v ⟨t,ds,H⟩↔FS ⟨lY t o v,ds,H⟩ (KS tab os L):=Iff.rfl
@[simp ↓] theorem aSF (op:AOp) (o:Option P) (os:List AOper) (s:St):GRD tab (some true) op o os L s↔ONE tab s op (KV tab o os L):=Iff.rfl
@[simp ↓] theorem aSG (op:AOp) (o:Option P) (os:List AOper):GRD tab (some false) op o os L ⟨t,ds,H⟩↔FS ⟨lY t o (.t []),ds,H⟩ (KS tab os L):=Iff.rfl
@[simp ↓] theorem aPe (s:St):OPS tab [] s L↔L s:=Iff.rfl
@[simp ↓] theorem aOu (o:Option P) (op:AOp) (os:List AOper):OPS tab (⟨o,op,none⟩::os) ⟨t,ds,H⟩ L↔ONE tab ⟨t,ds,H⟩ op (KV tab o os L):=Iff.rfl
@[simp ↓] theorem aKg (o:Option P) (op:AOp) (n:Nat) (w:Bool) (os:List AOper) :
  OPS tab (⟨o,op,G n w⟩::os) ⟨t,ds,H⟩ L↔GRD tab (wanted t (G n w)) op o os L ⟨t,ds,H⟩:=by
 simp only [OPS];rcases hw:wanted t (G n w)with _ | _ | _<;>exact Iff.rfl
def AOp.plain:AOp→Bool
 | .call _ _ _ | .bW _ _ _ | .recover | .defer _ _=>false
 | _=>true
theorem cZ{op:AOp}(h:op.plain=true):ONE tab ⟨t,ds,H⟩ op K↔KO (xOp t H op) t ds K:=by
 have:ONE tab ⟨t,ds,H⟩ op K↔∃ v H',xOp t H op=some (v,H')∧K v ⟨t,ds,H'⟩:=by
  cases op<;>first | exact Iff.rfl | simp [AOp.plain]at h
 rw [this];exact⟨fun⟨v,H',h,k⟩=>⟨(v,H'),h,k⟩,fun⟨p,h,k⟩=>⟨p.1,p.2,h,k⟩⟩
@[simp ↓] theorem aOP (x:Arg):ONE tab ⟨t,ds,H⟩ (.mov x) K↔KO (xOp t H (.mov x)) t ds K:=cZ rfl
@[simp ↓] theorem aLE (c a b:Arg):ONE tab ⟨t,ds,H⟩ (.pick c a b) K↔KO (xOp t H (.pick c a b)) t ds K:=cZ rfl
@[simp ↓] theorem aJ3 (zs:List FC):ONE tab ⟨t,ds,H⟩ (.alloc zs) K↔KO (xOp t H (.alloc zs)) t ds K:=cZ rfl
@[simp ↓] theorem aOS (x:Arg):ONE tab ⟨t,ds,H⟩ (.box x) K↔KO (xOp t H (.box x)) t ds K:=cZ rfl
@[simp ↓] theorem aJ2 (zs:List FC) (parts:List (Nat × Nat × Arg)):ONE tab ⟨t,ds,H⟩ (.build zs parts) K↔KO (xOp t H (.build zs parts)) t ds K:=cZ rfl
@[simp ↓] theorem aHZ (sz:Nat) (zs:List FC) (len:Nat) (parts:List (Nat × Arg)):ONE tab ⟨t,ds,H⟩ (.aP sz zs len parts) K↔KO (xOp t H (.aP sz zs len parts)) t ds K:=cZ rfl
@[simp ↓] theorem aLH (n:Option Nat) (x:Arg):ONE tab ⟨t,ds,H⟩ (.load n x) K↔KO (xOp t H (.load n x)) t ds K:=cZ rfl
@[simp ↓] theorem aJV (n:Nat) (x y:Arg):ONE tab ⟨t,ds,H⟩ (.store n x y) K↔KO (xOp t H (.store n x y)) t ds K:=cZ rfl
@[simp ↓] theorem aOT (op:BinOp) (x y:Arg):ONE tab ⟨t,ds,H⟩ (.bin op x y) K↔KO (xOp t H (.bin op x y)) t ds K:=cZ rfl
@[simp ↓] theorem aQP (neg:Bool) (k:EqK) (x y:Arg):ONE tab ⟨t,ds,H⟩ (.eq neg k x y) K↔KO (xOp t H (.eq neg k x y)) t ds K:=cZ rfl
@[simp ↓] theorem aQO (op:UnOp) (x:Arg):ONE tab ⟨t,ds,H⟩ (.un op x) K↔KO (xOp t H (.un op x)) t ds K:=cZ rfl
@[simp ↓] theorem aOR (k:IntKind) (x:Arg):ONE tab ⟨t,ds,H⟩ (.cvi k x) K↔KO (xOp t H (.cvi k x)) t ds K:=cZ rfl
@[simp ↓] theorem aLF (f:Nat) (caps:List Arg):ONE tab ⟨t,ds,H⟩ (.o9 f caps) K↔KO (xOp t H (.o9 f caps)) t ds K:=cZ rfl
@[simp ↓] theorem aJX:ONE tab ⟨t,ds,H⟩ .nJ K↔KO (xOp t H .nJ) t ds K:=cZ rfl
@[simp ↓] theorem aHW (ck:CK) (zero:FC) (m k:Arg):ONE tab ⟨t,ds,H⟩ (.lookup ck zero m k) K↔KO (xOp t H (.lookup ck zero m k)) t ds K:=cZ rfl
@[simp ↓] theorem aJY (ck:CK) (m k v:Arg):ONE tab ⟨t,ds,H⟩ (.nK ck m k v) K↔KO (xOp t H (.nK ck m k v)) t ds K:=cZ rfl
@[simp ↓] theorem aD2 (sz bytes:Nat) (zs:List FC) (l c:Arg):ONE tab ⟨t,ds,H⟩ (.dK sz bytes zs l c) K↔KO (xOp t H (.dK sz bytes zs l c)) t ds K:=cZ rfl
@[simp ↓] theorem aJW (sz:Nat) (x:Arg) (lo hi mx:Option Arg):ONE tab ⟨t,ds,H⟩ (.slice sz x lo hi mx) K↔KO (xOp t H (.slice sz x lo hi mx)) t ds K:=cZ rfl
@[simp ↓] theorem aHY (off:Nat) (x:Arg):ONE tab ⟨t,ds,H⟩ (.aj off x) K↔KO (xOp t H (.aj off x)) t ds K:=cZ rfl
@[simp ↓] theorem aJZ (off:Nat) (n:Option Nat) (x:Arg):ONE tab ⟨t,ds,H⟩ (.field off n x) K↔KO (xOp t H (.field off n x)) t ds K:=cZ rfl
@[simp ↓] theorem aHX (sz:Nat) (arr:Option Nat) (x i:Arg):ONE tab ⟨t,ds,H⟩ (.aT sz arr x i) K↔KO (xOp t H (.aT sz arr x i)) t ds K:=cZ rfl
@[simp ↓] theorem aLJ (len sz:Nat) (n:Option Nat) (x i:Arg):ONE tab ⟨t,ds,H⟩ (.vw len sz n x i) K↔KO (xOp t H (.vw len sz n x i)) t ds K:=cZ rfl
@[simp ↓] theorem aD3 (x:Arg) (i:Nat):ONE tab ⟨t,ds,H⟩ (.extract x i) K↔KO (xOp t H (.extract x i)) t ds K:=cZ rfl
@[simp ↓] theorem aOQ (x:Arg):ONE tab ⟨t,ds,H⟩ (.len x) K↔KO (xOp t H (.len x)) t ds K:=cZ rfl
@[simp ↓] theorem aLI (x:Arg):ONE tab ⟨t,ds,H⟩ (.lens x) K↔KO (xOp t H (.lens x)) t ds K:=cZ rfl
@[simp ↓] theorem aH0 (sz bytes:Nat) (x y:Arg):ONE tab ⟨t,ds,H⟩ (.append sz bytes x y) K↔KO (xOp t H (.append sz bytes x y)) t ds K:=cZ rfl
@[simp ↓] theorem aLG (lo:Bool) (xs:List Arg):ONE tab ⟨t,ds,H⟩ (.sH lo xs) K↔KO (xOp t H (.sH lo xs)) t ds K:=cZ rfl
@[simp ↓] theorem aLK (f:Nat) (args:List Arg):ONE tab ⟨t,ds,H⟩ (.call f args false) K ↔
  KC tab (bC (dB deep H) (dZ t args)) f t ds ((dZ t args).foldl (mkV deep) H) K:=by
 simp only [ONE,KC,KP];constructor
 ·intro h;rw [if_neg (by simp)]at h;obtain⟨fs,r,h1,h2,h3⟩:=h;exact⟨fs,h1,r,h2,h3⟩
 ·rintro⟨fs,h1,r,h2,h3⟩;rw [if_neg (by simp)];exact⟨fs,r,h1,h2,h3⟩
@[simp ↓] theorem aJ0 (f:Nat) (args:List Arg):ONE tab ⟨t,ds,H⟩ (.call f args true) K↔KD tab (some (.fn f,dZ t args)) t ds H K:=by simp [ONE,KD,KE]
@[simp ↓] theorem aJ1 (x:Arg) (args:List Arg) (h:Bool):ONE tab ⟨t,ds,H⟩ (.bW x args h) K↔KD tab (fA (x.ev t) (dZ t args)) t ds H K:=by
 simp only [ONE,KD,KE];constructor
 ·rintro⟨c,as,r,H',h1,h2,h3⟩;exact⟨(c,as),h1,r,H',h2,h3⟩
 ·rintro⟨⟨c,as⟩,h1,r,H',h2,h3⟩;exact⟨c,as,r,H',h1,h2,h3⟩
end
def MI:V→Option Bool
 | .c (.f (.bool b))=>some b
 | _=>none
@[simp] theorem aKe (b:Bool):MI (.c (.f (.bool b)))=some b:=rfl
section
variable{t:T}{H:Heap}
@[simp] theorem aSc (x:Arg):xOp t H (.mov x)=some (x.ev t,H):=rfl
@[simp] theorem aSb (o:Os) (sz:Nat):xOp t H (.pre o sz)=if o=.loc∨sz=0 then none else some (.c (.sl H.length 0 0 0 0 sz),H++[.opn sz [] 0 0 o]):=rfl
@[simp] theorem aPk (c x y:Arg):xOp t H (.pick c x y)=(MI (c.ev t)).map fun b=>(if b then x.ev t else y.ev t,H):=by
 simp only [xOp,MI];split
 ·rename_i b h;simp only [h];cases b<;>rfl
 ·rename_i h;split
  ·rename_i b h';exact absurd h' (h b)
  ·rfl
@[simp] theorem aOJ (zs:List FC):xOp t H (.alloc zs)=some (.c (.ptr H.length 0 0),H++[.box (zs.map .f) 0]):=rfl
@[simp] theorem aSe (x:Arg):xOp t H (.box x)=(x.ev t).cells?.map fun xs=>(.c (.ptr H.length 0 0),H++[.box xs 0]):=by
 simp only [xOp];cases (x.ev t).cells?<;>rfl
@[simp] theorem aOI (zs:List FC) (ps:List (Nat × Nat × Arg)):xOp t H (.build zs ps)=(eF t (zs.map .f) ps).map fun cs=>(.a cs,H):=rfl
@[simp] theorem aKn (sz:Nat) (zs:List FC) (n:Nat) (ps:List (Nat × Arg)):xOp t H (.aP sz zs n ps) =
  if n=0 then(if ps.isEmpty then some (.c (.f .es),H)else none)else
  (eF t ((dw n zs).map .f) (ps.map fun p=>(p.1*sz,sz,p.2))).map fun cs=>(.c (.sl H.length 0 n n 0 sz),H++[.box cs 0]):=rfl
@[simp] theorem aPo (n:Option Nat) (x:Arg):xOp t H (.load n x)=(ldV H n (x.ev t)).map (·,H):=rfl
def Ec(H:Heap)(n:Nat)(x y:V):Option Heap:=
 match x,y.cells? with
 | .c p,some xs=>if xs.length=n then stC H p xs else none
 | _,_=>none
@[simp] theorem aOC (n:Nat) (x y:Arg):xOp t H (.store n x y)=(Ec H n (x.ev t) (y.ev t)).map (.top,·):=by
 simp only [xOp,Ec]
 cases x.ev t with
 | c p=>cases (y.ev t).cells? with
  | none=>rfl
  | some xs=>by_cases h:xs.length=n<;>simp [h]
 | _=>rfl
@[simp] theorem aKr (n:Nat) (p:C) (y:V):Ec H n (.c p) y=y.cells?.bind fun xs=>if xs.length=n then stC H p xs else none:=by
 simp only [Ec];cases y.cells?<;>rfl
@[simp] theorem aSf (op:BinOp) (x y:Arg):xOp t H (.bin op x y)=(dG op (x.ev t) (y.ev t)).map (·,H):=rfl
@[simp] theorem x_eq (neg:Bool) (k:EqK) (x y:Arg):xOp t H (.eq neg k x y)=(eqV H k (x.ev t) (y.ev t)).map fun b=>(vb (if neg then !b else b),H):=rfl
@[simp] theorem aTh (op:UnOp) (x:Arg):xOp t H (.un op x)=(unV op (x.ev t)).map (·,H):=rfl
def aIY(k:IntKind):V→Option V
 | .c (.f (.int _ n))=>some (.c (.f (.int k (k.wrap n))))
 | _=>none
@[simp] theorem aRf (k j:IntKind) (n:Int):aIY k (.c (.f (.int j n)))=some (.c (.f (.int k (k.wrap n)))):=rfl
@[simp] theorem aSd (k:IntKind) (x:Arg):xOp t H (.cvi k x)=(aIY k (x.ev t)).map (·,H):=by
 simp only [xOp,aIY];split
 ·rename_i h;simp only [h];rfl
 ·rename_i h;split
  ·rename_i h';exact absurd h' (h _ _)
  ·rfl
@[simp] theorem aPl (f:Nat) (caps:List Arg):xOp t H (.o9 f caps)=(bC yH (dZ t caps)).map fun xs=>(.c (.cl f xs),H):=rfl
@[simp] theorem aPm (f:Nat) (caps:List Arg):xOp t H (.Ce f caps)=(bC yH (dZ t caps)).map fun xs=>(.c (.bm f xs),H):=rfl
@[simp] theorem aOE (sz:Nat) (x:Arg) (lo hi mx:Option Arg):xOp t H (.slice sz x lo hi mx)=(jm H sz (x.ev t) (lo.map (·.ev t)) (hi.map (·.ev t)) (mx.map (·.ev t))).map (·,H):=rfl
@[simp] theorem aKl (sz:Nat) (zs:List FC) (n:Nat) (ps:List (Nat × Arg)):xOp t H (.jK sz zs n ps)=((eF t ((dw n zs).map .f) (ps.map fun p=>(p.1*sz,sz,p.2))).bind fun cs=>if n=0 then none else fcL cs).map fun fs=>(.c (.f (.fs fs n)),H):=rfl
@[simp] theorem aPj (sz:Nat) (x hi mx:Arg):xOp t H (.BH sz x hi mx)=F6 H sz (x.ev t) (hi.ev t) (mx.ev t):=rfl
@[simp] theorem aOF (n sz:Nat) (x:Arg) (lo hi mx:Option Arg):xOp t H (.sV n sz x lo hi mx)=(nR H n sz (x.ev t) (lo.map (·.ev t)) (hi.map (·.ev t)) (mx.map (·.ev t))).map (·,H):=rfl
@[simp] theorem aOD (x:Arg) (lo hi:Option Arg):xOp t H (.uJ x lo hi)=(zq (x.ev t) (lo.map (·.ev t)) (hi.map (·.ev t))).map (·,H):=rfl
@[simp] theorem aKm (o:Nat) (x:Arg):xOp t H (.aj o x)=(kS o (x.ev t)).map (·,H):=rfl
@[simp] theorem aOG (o:Nat) (n:Option Nat) (x:Arg):xOp t H (.field o n x)=(qY o n (x.ev t)).map (·,H):=rfl
@[simp] theorem aKk (sz:Nat) (arr:Option Nat) (x i:Arg):xOp t H (.aT sz arr x i)=(aO H sz arr (x.ev t) (i.ev t)).map (·,H):=rfl
@[simp] theorem aPr (x i:Arg):xOp t H (.idxs x i)=(G5 (x.ev t) (i.ev t)).map (·,H):=rfl
@[simp] theorem aPs (len sz:Nat) (n:Option Nat) (x i:Arg):xOp t H (.vw len sz n x i)=(vk len sz n (x.ev t) (i.ev t)).map (·,H):=rfl
def cOf:V→Option C
 | .c x=>some x
 | _=>none
@[simp] theorem aSz (x:C):cOf (.c x)=some x:=rfl
@[simp] theorem x_len (x:Arg):xOp t H (.len x)=((cOf (x.ev t)).bind (bV H)).map fun n=>(vi (n:Nat),H):=by
 simp only [xOp,cOf]
 cases x.ev t with
 | c y=>simp only [bh];cases bV H y<;>rfl
 | _=>rfl
def strOf:V→Option ByteArray
 | .c (.f (.str s))=>some s
 | _=>none
@[simp] theorem aOM (s:ByteArray):strOf (.c (.f (.str s)))=some s:=rfl
@[simp] theorem aPp (x:Arg):xOp t H (.lens x)=(strOf (x.ev t)).map fun s=>(vi (s.size:Nat),H):=by
 simp only [xOp,strOf];split
 ·rename_i h;simp only [h];rfl
 ·rename_i h;split
  ·rename_i h';exact absurd h' (h _)
  ·rfl
@[simp] theorem aPq (n:Nat):xOp t H (.zX n)=some (vi (n:Nat),H):=rfl
@[simp] theorem aKo (sz bytes:Nat) (x y:Arg):xOp t H (.append sz bytes x y)=dn H sz bytes (x.ev t) (y.ev t):=rfl
@[simp] theorem aPt (sz:Nat) (x y:Arg):xOp t H (.copy sz x y)=copyV H sz (x.ev t) (y.ev t):=rfl
@[simp] theorem aPn (lo:Bool) (xs:List Arg):xOp t H (.sH lo xs)=(Qc lo (dZ t xs)).map (·,H):=rfl
def tOf:V→Option (List V)
 | .t vs=>some vs
 | _=>none
@[simp] theorem aSh (vs:List V):tOf (.t vs)=some vs:=rfl
@[simp] theorem aJS (x:Arg) (i:Nat):xOp t H (.extract x i)=(tOf (x.ev t)).bind fun vs=>vs[i]?.map (·,H):=by
 simp only [xOp,tOf];split
 ·rename_i h;simp only [h];rfl
 ·rename_i h;split
  ·rename_i h';exact absurd h' (h _)
  ·rfl
def Oj:V→Option V
 | .c (.ptr b o e)=>some (.c (.ptr b o e))
 | .c (.f (.fp cs o))=>some (.c (.f (.fp cs o)))
 | _=>none
@[simp] theorem aH3 (b o e:Nat):Oj (.c (.ptr b o e))=some (.c (.ptr b o e)):=rfl
@[simp] theorem aJ4 (cs:List FC) (o:Nat):Oj (.c (.f (.fp cs o)))=some (.c (.f (.fp cs o))):=rfl
@[simp] theorem aKa (f:Nat) (caps:List FC) (args:List V):fA (.c (.f (.fn f caps))) args=some (.fn f,args++caps.map fun x=>.c (.f x)):=rfl
@[simp] theorem aKb (f:Nat) (caps:List C) (args:List V):fA (.c (.cl f caps)) args=some (.fn f,args++caps.map .c):=rfl
@[simp] theorem aKc (f:Nat) (first:List C) (args:List V):fA (.c (.bm f first)) args=some (.fn f,first.map .c++args):=rfl
end
section
variable{k:IntKind}{a b:Int}{H:Heap}
@[simp] theorem aPc:dG .add (.c (.f (.int k a))) (.c (.f (.int k b)))=some (.c (.f (.int k (k.wrap (a+b))))):=by simp [dG,qp,V.int]
@[simp] theorem aO4:dG .sub (.c (.f (.int k a))) (.c (.f (.int k b)))=some (.c (.f (.int k (k.wrap (a-b))))):=by simp [dG,qp,V.int]
@[simp] theorem aO6:dG .mul (.c (.f (.int k a))) (.c (.f (.int k b)))=some (.c (.f (.int k (k.wrap (a*b))))):=by simp [dG,qp,V.int]
theorem OX(h:b≠0):dG .quo (.c (.f (.int k a))) (.c (.f (.int k b)))=some (.c (.f (.int k (k.wrap (a.tdiv b))))):=by simp [dG,qp,V.int,h]
theorem su(h:b≠0):dG .rem (.c (.f (.int k a))) (.c (.f (.int k b)))=some (.c (.f (.int k (a.tmod b)))):=by simp [dG,qp,V.int,h]
@[simp] theorem aPb:dG .eql (.c (.f (.int k a))) (.c (.f (.int k b)))=some (vb (decide (a=b))):=by simp [dG,qp,V.bool];rfl
@[simp] theorem aO5:dG .neq (.c (.f (.int k a))) (.c (.f (.int k b)))=some (vb (!decide (a=b))):=by simp [dG,qp,V.bool];rfl
@[simp] theorem aO7:dG .lss (.c (.f (.int k a))) (.c (.f (.int k b)))=some (vb (decide (a<b))):=by simp [dG,qp,V.bool]
@[simp] theorem aO8:dG .leq (.c (.f (.int k a))) (.c (.f (.int k b)))=some (vb (decide (a≤b))):=by simp [dG,qp,V.bool]
@[simp] theorem aO9:dG .gtr (.c (.f (.int k a))) (.c (.f (.int k b)))=some (vb (decide (b<a))):=by simp [dG,qp,V.bool]
@[simp] theorem aPa:dG .geq (.c (.f (.int k a))) (.c (.f (.int k b)))=some (vb (decide (b≤a))):=by simp [dG,qp,V.bool]
@[simp] theorem aM2 {x y:Bool}:eqP .bool (.f (.bool x)) (.f (.bool y))=some (x == y):=rfl
@[simp] theorem aOZ:eqP .int (.f (.int k a)) (.f (.int k b))=some (a == b):=by simp [eqP]
@[simp] theorem aOY {x y:ByteArray}:eqP .str (.f (.str x)) (.f (.str y))=some (x == y):=rfl
@[simp] theorem aO0:eqL [] [] []=some true:=rfl
@[simp] theorem aM3 {q:CK} {qs:List CK} {x y:C} {xs ys:List C}:eqL (q::qs) (x::xs) (y::ys)=(eqP q x y).bind fun c=>(eqL qs xs ys).map fun d=>c&&d:=by
 simp only [eqL];cases eqP q x y<;>cases eqL qs xs ys<;>rfl
@[simp] theorem aM1 {x y:Bool}:eqV H .bool (.c (.f (.bool x))) (.c (.f (.bool y)))=some (x == y):=rfl
@[simp] theorem aRd {ks:List CK} {xs ys:List C}:eqV H (.st ks) (.a xs) (.a ys)=eqL ks xs ys:=rfl
@[simp] theorem aPv {x:Bool}:unV .not (.c (.f (.bool x)))=some (vb (!x)):=rfl
@[simp] theorem aIT {o c o' ep:Nat}:kS o (.c (.ptr c o' ep))=some (.c (.ptr c (o'+o) ep)):=rfl
@[simp] theorem aJ7 {o o':Nat} {cs:List FC}:kS o (.c (.f (.fp cs o')))=some (.c (.f (.fp cs (o'+o)))):=rfl
@[simp] theorem aO1 {x:C}:(V.c x).cells?=some [x]:=rfl
@[simp] theorem aO2 {xs:List C}:(V.a xs).cells?=some xs:=rfl
@[simp] theorem aTH {n:Nat} {x:FC}:exC n H (.f x)=some x:=by cases n<;>rfl
@[simp] theorem aSx {n:Nat} {x:C}:dB n H (.c x)=(exC n H x).map fun y=>.c (.f y):=rfl
@[simp] theorem aSv {n f:Nat} {caps:List C}:exC (n+1) H (.cl f caps)=(bC (exC n H) caps).map (.fn f):=rfl
@[simp] theorem aRb {n b o e:Nat}:exC (n+1) H (.ptr b o e)=match H[b]? with
  | some (.box cs _)=>(bC (exC n H) cs).map (.fp · o)
  | _=>none:=rfl
theorem sZ{n b o l c ep sz:Nat}:exC (n+1) H (.sl b o l c ep sz)=match H[b]? with
  | some (.box cs _)=>if o+l*sz≤cs.length then(bC (exC n H) ((cs.drop o).take (l*sz))).map (.fs · l)else none
  | some (.opn s cs _ e .loc)=>if ep=e∧sz=s∧o+l*sz≤cs.length then(bC (exC n H) ((cs.drop o).take (l*sz))).map (.fs · l)else none
  | some (.opn s _ _ e .nil)=>if ep=e∧sz=s then some .au else none
  | some (.opn s _ _ e .es)=>if ep=e∧sz=s then some .es else none
  | _=>none:=rfl
theorem Om{n b o l c e sz:Nat}:mkC (n+1) (.sl b o l c e sz) H=match H[b]? with
  | some (.box cs fl)=>((cs.drop o).take (l*sz)).foldl (fun H x=>mkC n x H) (H.set b (.box cs (Nat.max fl (o+l*sz))))
  | some (.opn s cs fl e st)=>((cs.drop o).take (l*sz)).foldl (fun H x=>mkC n x H) (H.set b (.opn s cs (Nat.max fl (o+l*sz)) e st))
  | _=>H:=rfl
@[simp] theorem aTA {n:Nat} {x:C}:mkV n H (.c x)=mkC n x H:=rfl
@[simp] theorem aSw {n:Nat} {x:C}:exV n H (.c x)=(exC n H x).map fun y=>.c (.f y):=rfl
theorem EG{n:Nat}:∀(xs:List FC),bC (exC n H) (xs.map .f)=some xs
 | []=>rfl
 | x::xs=>by simp [bC,EG xs]
@[simp] theorem aSy {n:Nat} {xs:List C}:dB n H (.a xs)=(bC (exC n H) xs).map fun ys=>.a (ys.map .f):=rfl
@[simp] theorem yR {n:Nat} (xs:List FC):bC (exC n H) (xs.map .f)=some xs:=EG xs
@[simp] theorem aTB {n:Nat} {xs:List C}:mkV n H (.a xs)=xs.foldl (fun H x=>mkC n x H) H:=rfl
@[simp] theorem Oo {n:Nat} {x:FC}:mkC n (.f x) H=H:=by cases n<;>rfl
@[simp] theorem aJ6 {n:Nat} (xs:List FC):(xs.map C.f).foldl (fun H x=>mkC n x H) H=H:=by
 induction xs with
 | nil=>rfl
 | cons x xs ih=>simp only [ax,cm];rw [Oo];exact ih
end
theorem wrapu8{n:Int}(h1:0≤n)(h2:n≤255):IntKind.wrap .u8 n=n:=by
 simp only [IntKind.wrap,IntKind.bits,IntKind.signed];simp;omega
theorem OC{H:Heap}{sz n b o ep:Nat}{k:IntKind}{i:Int}(h0:0≤i)(h1:i<n):aO H sz (some n) (.c (.ptr b o ep)) (.c (.f (.int k i)))=some (.c (.ptr b (o+i.toNat*sz) ep)):=by
 simp [aO,gW,h0,h1]
theorem wrap64{n:Int}(h1:-9223372036854775808≤n)(h2:n≤9223372036854775807):IntKind.wrap .i64 n=n:=by
 simp only [IntKind.wrap,IntKind.bits,IntKind.signed];simp;omega
@[simp] theorem aMe {α β:Type} (g:α→Option β):bC g []=some []:=rfl
@[simp] theorem aJ5 {α β:Type} (g:α→Option β) (x:α) (xs:List α):bC g (x::xs)=(g x).bind fun y=>(bC g xs).map (y::·):=by
 simp only [bC];cases g x<;>cases bC g xs<;>simp
@[simp] theorem aOL (x:C) (xs:List C):aS none (x::xs)=some (.c x):=rfl
@[simp] theorem aOK (n:Nat) (xs:List C):aS (some n) xs=if n≤xs.length then some (.a (xs.take n))else none:=rfl
@[simp] theorem aC (H:Heap) (n:Option Nat) (b o ep:Nat):ldV H n (.c (.ptr b o ep))=match H[b]? with
  | some (.box cs _)=>aS n (cs.drop o)
  | some (.opn _ cs _ e .loc)=>if ep=e then aS n (cs.drop o)else none
  | _=>none:=by
 simp only [ldV,aG];split
 ·rename_i h;simp only [h];rfl
 ·rename_i h;simp only [h];split<;>rfl
 ·rename_i h1 h2;split
  ·rename_i h;exact absurd h (h1 _ _)
  ·rename_i h;exact absurd h (h2 _ _ _ _)
  ·rfl
@[simp] theorem bJ (H:Heap) (b o ep:Nat) (xs:List C):stC H (.ptr b o ep) xs=match H[b]? with
  | some (.box cs fl)=>if fl≤o∧o+xs.length≤cs.length then some (H.set b (.box (over cs o xs) fl))else none
  | some (.opn sz cs fl e .loc)=>if ep=e∧fl≤o∧o+xs.length≤cs.length then some (H.set b (.opn sz (over cs o xs) fl e .loc))else none
  | _=>none:=rfl
attribute [simp] over dw
@[simp] theorem aHE (t:T) (cs:List C):eF t cs []=some cs:=rfl
@[simp] theorem aD1 (t:T) (cs:List C) (o n:Nat) (x:Arg) (ps:List (Nat × Nat × Arg)):eF t cs ((o,n,x)::ps)=(x.ev t).cells?.bind fun xs=>if xs.length=n∧o+xs.length≤cs.length then eF t (over cs o xs) ps else none:=by
 simp only [eF];cases (x.ev t).cells?<;>rfl
@[simp] theorem aRh (x:FC):yH (.c (.f x))=some (.f x):=rfl
@[simp] theorem aM4 (b o e:Nat):yH (.c (.ptr b o e))=some (.ptr b o e):=rfl
@[simp] theorem aO3 (b o l c e s:Nat):yH (.c (.sl b o l c e s))=some (.sl b o l c e s):=rfl
def aEp:V→Option V
 | .t _=>none
 | v=>some v
@[simp] theorem aPw (x:C):aEp (.c x)=some (.c x):=rfl
@[simp] theorem aPx (x:List C):aEp (.a x)=some (.a x):=rfl
@[simp] theorem aON (t:T) (H:Heap) (n:Nat):bU t H (.tmp (P.nat n))=aEp (t.g n):=by
 simp only [bU,awV];cases t.g n<;>rfl
@[simp] theorem aKF (t:T) (H:Heap) (n:Nat) (k:Option Nat):bU t H (.cell (P.nat n) k)=ldV H k (t.g n):=rfl
@[simp] theorem aOX {t:T} {H:Heap} {x:nC} {r:V}:yK [x] r ⟨t,[],H⟩↔∃ r0,bU t H x=some r0∧exV deep H r0=some r:=by
 simp only [yK,results,true_and,bC];cases bU t H x<;>simp
@[simp] theorem aOW {t:T} {H:Heap} {x y:nC} {a b:V}:yK [x,y] (.t [a,b]) ⟨t,[],H⟩ ↔
  (∃ r0,bU t H x=some r0∧dB deep H r0=some a)∧∃ r0,bU t H y=some r0∧dB deep H r0=some b:=by
 simp only [yK,results,true_and,bC]
 cases bU t H x with
 | none=>simp
 | some u=>cases bU t H y with
  | none=>simp
  | some w=>cases h1:dB deep H u<;>cases h2:dB deep H w<;>simp [exV,h1,h2]
inductive Tg where | nil | es | fs
 deriving DecidableEq
def Tg.fc:Tg→FC
 | .nil=>.au
 | .es=>.es
 | .fs=>.fs [] 0
def sl(g:Tg)(rows:List (List FC)):FC:=if rows.isEmpty then g.fc else .fs rows.flatten rows.length
def Grid(sz:Nat)(rows:List (List FC)):Prop:=∀ r ∈ rows,r.length=sz
theorem ji{sz:Nat}:∀ {rows:List (List FC)},Grid sz rows→rows.flatten.length=rows.length*sz
 | [],_=>by simp
 | r::rows,h=>by
  have:=ji (rows:=rows) fun x hx=>h x (bw _ hx)
  simp only [bq,aL,bt,this,h r bj,bN,Nat.one_mul];omega
theorem Dy{sz:Nat}:∀ {rows:List (List FC)} (j:Nat),Grid sz rows→rows.flatten.drop (j*sz)=(rows.drop j).flatten
 | rows,0,_=>by simp
 | [],j+1,_=>by simp
 | r::rows,j+1,h=>by
  have hr:=h r bj;have:=Dy (rows:=rows) j fun x hx=>h x (bw _ hx)
  rw [bq,List.drop_succ_cons,←this,bN,Nat.one_mul,dp,hr];simp [hr,show j*sz+sz-sz=j*sz by omega]
theorem Grid.map{α:Type}{sz:Nat}{l:List α}{g:α→List FC}(h:∀ x,(g x).length=sz):Grid sz (l.map g):=fun r hr=>by
 obtain⟨x,_,rfl⟩:=ci.1 hr;exact h x
theorem Ai{sz j k:Nat}{rows:List (List FC)}{row:List FC}(hg:Grid sz rows)(hj:rows[j]?=some row)(hk:k≤sz) :
  rows.flatten.drop (j*sz+k)=row.drop k++(rows.drop (j+1)).flatten:=by
 have hl:j<rows.length:=(ab.1 hj).1;have hr:row.length=sz:=hg row (bl hj);rw [←List.drop_drop,Dy j hg,bp hl,bq];have:rows[j]=row:=by simpa [ai hl]using hj
 rw [this,dp,show k-row.length=0 by omega]
 simp
variable{H:Heap}
theorem LJ{sz j k:Nat}{rows:List (List FC)}{row:List FC}{x:FC}(hg:Grid sz rows)(hj:rows[j]?=some row)(hx:row[k]?=some x) :
  ldV H none (.c (.f (.fp rows.flatten (j*sz+k))))=some (.c (.f x)):=by
 have hr:row.length=sz:=hg row (bl hj);have hk:k<row.length:=(ab.1 hx).1;have e:=Ai (k:=k) hg hj (by omega)
 simp only [ldV,aG,bh,e];rw [bp hk];have:row[k]=x:=by simpa [ai hk]using hx
 simp [aS,this]
theorem awj{sz j k n:Nat}{rows:List (List FC)}{row:List FC}(hg:Grid sz rows)(hj:rows[j]?=some row)(hk:k+n≤sz) :
  ldV H (some n) (.c (.f (.fp rows.flatten (j*sz+k))))=some (.a (((row.drop k).take n).map .f)):=by
 have hr:row.length=sz:=hg row (bl hj);have e:=Ai (k:=k) hg hj (by omega)
 simp only [ldV,aG,bh,e];simp only [aS];rw [if_pos (by simp only [bL,aL,cf];omega)]
 rw [cq,List.take_append_of_le_length (by simp only [bL,cf];omega),List.map_take]
theorem nM{sz j:Nat}{rows:List (List FC)}{row:List FC}(hg:Grid sz rows)(hj:rows[j]?=some row) :
  ldV H (some sz) (.c (.f (.fp rows.flatten (j*sz))))=some (.a (row.map .f)):=by
 have hr:row.length=sz:=hg row (bl hj);have:=awj (H:=H) (k:=0) (n:=sz) hg hj (by omega)
 simp only [Nat.add_zero,cG]at this;rw [this,bi (by omega)]
theorem nN{sz j:Nat}{rows:List (List FC)}{row:List FC}{x:FC}(hg:Grid sz rows)(hj:rows[j]?=some row)(hx:row[0]?=some x) :
  ldV H none (.c (.f (.fp rows.flatten (j*sz))))=some (.c (.f x)):=LJ (k:=0) hg hj hx
theorem awk{j:Nat}{l:List Int}{x:Int}(hj:l[j]?=some x) :
  ldV H none (.c (.f (.fp (l.map fun n=>[fi n]).flatten (j*1))))=some (vi x):=
 nN (row:=[fi x]) (Grid.map fun _=>rfl) (by rw [b8,hj];rfl) rfl
@[simp] theorem VY (g:Tg) (rows:List (List FC)):bV H (.f (sl g rows))=some rows.length:=by
 cases rows with
 | nil=>cases g<;>rfl
 | cons r rows=>rfl
theorem iE{g:Tg}{rows:List (List FC)}{sz:Nat}{k:IntKind}{i:Int}(h0:0≤i)(h1:i<rows.length) :
  aO H sz none (.c (.f (sl g rows))) (.c (.f (.int k i)))=some (.c (.f (.fp rows.flatten (i.toNat*sz)))):=by
 cases rows with
 | nil=>simp at h1;omega
 | cons r rows=>
  simp only [bt]at h1;simp [aO,gW,sl,h0];omega
theorem WX{g:Tg}{rows:List (List FC)}{sz:Nat}(hg:Grid sz rows):dF H sz (.f (sl g rows))=some (rows.flatten.map .f):=by
 cases rows with
 | nil=>cases g<;>simp [sl,Tg.fc,dF]
 | cons r rows=>
  have:=ji hg;simp only [sl,dg,aw,if_false,dF,this,if_true]
end
section
open Go
def Kf(tab:Nat→Option AFunc)(f:Nat)(args:List V)(r:V):Prop:=∀ H,∃ J,Ev tab (.fn f) args H r (H++J)
section
variable{tab:Nat→Option AFunc}{f:Nat}{args:List V}{r:V}
theorem Kf.pure{x:FC}(h:Kf tab f args (.c (.f x))):Pure tab f args (.c (.f x)):=by
 obtain⟨J,h⟩:=h [];exact⟨_,_,h,by simp⟩
theorem Kf.eq{x:FC}(h:Kf tab f args (.c (.f x))):Pure tab f args=Eq (.c (.f x)):=
 funext fun r=>propext ⟨fun k=>h.pure.det k,fun e=>e▸h.pure⟩
theorem Pure.eq{r:V}(h:Pure tab f args r):Pure tab f args=Eq r:=funext fun _=>propext ⟨fun k=>h.det k,fun e=>e▸h⟩
noncomputable def junk (tab:Nat→Option AFunc) (f:Nat) (args:List V) (H:Heap):Heap:=Classical.epsilon fun J=>∃ r,Ev tab (.fn f) args H r (H++J)
theorem Kf.ev(h:Kf tab f args r)(H:Heap):Ev tab (.fn f) args H=E2 r (H++junk tab f args H):=by
 have hj:∃ J,∃ r,Ev tab (.fn f) args H r (H++J):=by obtain⟨J,hJ⟩:=h H;exact⟨J,r,hJ⟩
 have hs:∃ r,Ev tab (.fn f) args H r (H++junk tab f args H):=Classical.epsilon_spec hj;obtain⟨J,hJ⟩:=h H;obtain⟨r',hr⟩:=hs;obtain⟨rfl,e⟩:=hJ.det hr
 funext x H'
 exact propext ⟨fun k=>hr.det k,fun⟨e1,e2⟩=>e1▸e2▸hr⟩
theorem Ev.eq{c:Callee}{H H':Heap}(h:Ev tab c args H r H'):Ev tab c args H=E2 r H':=funext fun _=>funext fun _=>propext ⟨fun k=>h.det k,fun⟨e1,e2⟩=>e1▸e2▸h⟩
def axt(res:List nC)(r:V)(H:Heap)(s:St):Prop:=s.defs=[]∧results s.regs s.heap res=some r∧∃ J,s.heap=H++J
theorem OB{ps:List P}{res:List nC}{body:ACode}(ht:tab f=some ⟨ps,res,body⟩)(hl:args.length=ps.length)
  (h:∀(H:Heap) (Q:Option ACode→St→Prop),(∀ j s,axt res r H s→Q j s)→WP tab f none [.code body] ⟨dI ps args .e,[],H⟩ Q):Kf tab f args r:=by
 intro H;have h':=h H (fun _ s=>axt res r H s) fun _ _ h=>h
 obtain⟨n,m,d,j,s,h1,hd,h2,J,h3⟩:=h';exact⟨J,OQ ht hl ⟨n,m,d,j,s,h1,0,0,s.heap,by rw [hd];rfl,by rw [h2],h3⟩⟩
@[simp] theorem aMX {t:T} {H H':Heap} {x:nC}:axt [x] r H ⟨t,[],H'⟩↔bU t H' x=some r∧∃ J,H'=H++J:=by
 simp only [axt,results,true_and,bC];cases bU t H' x<;>simp
theorem qH{m d:Nat}{x:FC}(h:(CF tab m d (.fn f) args []).map (·.1)=some (.c (.f x))):Pure tab f args (.c (.f x)):=by
 rw [am]at h;obtain⟨⟨r,H'⟩,h1,h2⟩:=h;exact⟨r,H',⟨m,d,h1⟩,by rw [show r=.c (.f x) from h2];simp⟩
theorem aJ{m d:Nat}{x:V}(h:((CF tab m d (.fn f) args []).bind fun p=>exV deep p.2 p.1)=some x):Pure tab f args x:=by
 rw [ba]at h;obtain⟨⟨r,H'⟩,h1,h2⟩:=h;exact⟨r,H',⟨m,d,h1⟩,h2⟩
theorem BJ{b:Bool}(h:∃ m d H',gG tab lZ m d (.fn f) [] []=some (.c (.f (.bool b)),H')):Pure tab f [] (vb b):=by
 obtain⟨m,d,H',h⟩:=h;exact⟨_,H',⟨m,d,h⟩,by simp⟩
theorem dY{S:V→Prop}{ps:List P}{res:List nC}{body:ACode}(ht:tab f=some ⟨ps,res,body⟩)(hl:args.length=ps.length)
  (h:∀ Q:Option ACode→St→Prop,(∀ j s r,S r→yK res r s→Q j s)→WP tab f none [.code body] ⟨dI ps args .e,[],[]⟩ Q):∃ r,S r∧Pure tab f args r:=by
 have h':=h (fun _ s=>∃ r,S r∧yK res r s) fun _ _ r h1 h2=>⟨r,h1,h2⟩
 obtain⟨n,m,d,j,s,h1,r,hr,hd,r0,h2,h3⟩:=h';exact⟨r,hr,r0,s.heap,OQ ht hl ⟨n,m,d,j,s,h1,0,0,s.heap,by rw [hd];rfl,h2,rfl⟩,h3⟩
variable{fn i:Nat}{ro:Option Nat}{k:List AItem}{ds:List fE}{Q:Option ACode→St→Prop}
def Wi(a x:Nat):ACode:=.region [⟨D x,.bin .add (R a) (.k (.c (.f (.int .i64 1)))),none⟩,⟨D a,.mov (R x),none⟩] []
def zB(i a b c x:Nat)(body:ACode):ACode:=.seq (.region [⟨D c,.bin .lss (R a) (R b),none⟩] []) (.seq (.cond (R c) .skip (.exit i)) (.seq body (Wi a x)))
def OI(i a b c x:Nat)(body:ACode):ACode:=.block i (.loop (zB i a b c x body))
theorem qU{a b c x:Nat}{body:ACode}{t:T}{H:Heap}(N:Nat)(I:Nat→T→Heap→Prop)(hN:N≤9223372036854775807)(hab:a≠b)(hxb:x≠b)
  (ha:t.g a=vi 0) (hb:t.g b=vi N) (h0:I 0 t H)
  (step:∀ j t H,j<N→I j t H→t.g a=vi j→t.g b=vi N →
   (∀ t' H',I (j+1) ((t'.s x (vi (j+1:Nat))).s a (vi (j+1:Nat))) H'→t'.g a=vi j→t'.g b=vi N →
    WP tab fn ro (.code (Wi a x)::.inLoop (zB i a b c x body)::.inBlock i::k) ⟨t',ds,H'⟩ Q) →
   WP tab fn ro (.code body::.code (Wi a x)::.inLoop (zB i a b c x body)::.inBlock i::k) ⟨t.s c (vb true),ds,H⟩ Q)
  (done:∀ t H,I N t H→t.g a=vi N→t.g b=vi N→WP tab fn ro k ⟨t.s c (vb false),ds,H⟩ Q) :
  WP tab fn ro (.code (OI i a b c x body)::k) ⟨t,ds,H⟩ Q:=by
 have hro:∀ ops:List AOper,ops.all (·.op.iy)=true→ro=none∨ops.all (·.op.iy)=true:=fun _ h=>.inr h
 refine aN ?_;refine iL (fun n s=>∃ j t H,s=⟨t,ds,H⟩∧j≤N∧n=N-j∧I j t H∧t.g a=vi j∧t.g b=vi N) N ⟨0,t,H,rfl,by omega,by omega,h0,ha,hb⟩ ?_
 rintro n s ⟨j,t,H,rfl,hj,rfl,hI,ha,hb⟩ ih;refine kw_seq ?_;refine kw_region (hro _ rfl) ?_;simp [ha,hb];by_cases hlt:j<N
 ·rw [decide_eq_true hlt];refine kw_seq ?_;refine ak (by simp) ?_
  refine aW ?_;refine kw_seq ?_;refine step j t H hlt hI ha hb fun t' H' hI' ha' hb'=>?_
  refine kw_region (hro _ rfl) ?_;simp [ha'];rw [wrap64 (by omega) (by omega)]
  refine ih (N-(j+1)) _ (by omega) ⟨j+1,_,H',rfl,by omega,rfl,by simpa using hI',by simp,?_⟩
  simp [hab,hxb,hb']
 ·have:j=N:=by omega
  subst this;rw [decide_eq_false hlt];refine kw_seq ?_;refine ah (by simp) ?_
  refine iM (k':=k) (by simp [exitTo]) ?_
  exact done t H hI ha hb
def Wh(a x y:Nat):ACode:=.region [⟨D x,.mov (R a),none⟩,⟨D y,.bin .add (R x) (.k (.c (.f (.int .i64 1)))),none⟩,⟨D a,.mov (R y),none⟩] []
def Eo(i a c x y:Nat)(hd:List AOper)(body:ACode):ACode:=.seq (.seq (.region hd []) (.cond (R c) .skip (.exit i))) (.seq body (Wh a x y))
def WW(i a c x y:Nat)(hd:List AOper)(body:ACode):ACode:=.block i (.loop (Eo i a c x y hd body))
theorem dS{a c x y:Nat}{hd:List AOper}{body:ACode}{t:T}{H:Heap}(N:Nat)(I:Nat→T→Heap→Prop)(hN:N≤9223372036854775807)(hxy:hd.all (·.op.iy)=true)
  (ha:t.g a=vi 0) (h0:I 0 t H)
  (head:∀ j t H (L:St→Prop),j≤N→I j t H→t.g a=vi j→(∀ t',I j t' H→t'.g a=vi j→t'.g c=vb (decide ((j:Int)<(N:Int)))→L ⟨t',ds,H⟩)→OPS tab hd ⟨t,ds,H⟩ L)
  (step:∀ j t H,j<N→I j t H→t.g a=vi j →
   (∀ t' H',I (j+1) (((t'.s x (vi j)).s y (vi (j+1:Nat))).s a (vi (j+1:Nat))) H'→t'.g a=vi j →
    WP tab fn ro (.code (Wh a x y)::.inLoop (Eo i a c x y hd body)::.inBlock i::k) ⟨t',ds,H'⟩ Q) →
   WP tab fn ro (.code body::.code (Wh a x y)::.inLoop (Eo i a c x y hd body)::.inBlock i::k) ⟨t,ds,H⟩ Q)
  (done:∀ t H,I N t H→t.g a=vi N→WP tab fn ro k ⟨t,ds,H⟩ Q) :
  WP tab fn ro (.code (WW i a c x y hd body)::k) ⟨t,ds,H⟩ Q:=by
 have hro:∀ ops:List AOper,ops.all (·.op.iy)=true→ro=none∨ops.all (·.op.iy)=true:=fun _ h=>.inr h
 refine aN ?_;refine iL (fun n s=>∃ j t H,s=⟨t,ds,H⟩∧j≤N∧n=N-j∧I j t H∧t.g a=vi j) N ⟨0,t,H,rfl,by omega,by omega,h0,ha⟩ ?_
 rintro n s ⟨j,t,H,rfl,hj,rfl,hI,ha⟩ ih;refine kw_seq ?_;refine kw_seq ?_;refine kw_region (hro _ hxy) ?_;refine head j t H _ hj hI ha fun t' hI ha hc=>?_
 by_cases hlt:j<N
 ·rw [decide_eq_true (by omega)]at hc
  refine ak hc ?_;refine aW ?_;refine kw_seq ?_;refine step j t' H hlt hI ha fun t' H' hI' ha'=>?_
  refine kw_region (hro _ rfl) ?_;simp [ha'];rw [wrap64 (by omega) (by omega)]
  exact ih (N-(j+1)) _ (by omega) ⟨j+1,_,H',rfl,by omega,rfl,by simpa using hI',by simp⟩
 ·have:j=N:=by omega
  subst this;rw [decide_eq_false (by omega)]at hc
  refine ah hc ?_;refine iM (k':=k) (by simp [exitTo]) ?_
  exact done t' H hI ha
end
end
section
open Go
def pJ{α:Type}(l:List α)(p:α→Bool):Int:=match l.findIdx? p with | some j=>j | none=>-1
theorem Qx{α:Type}(l:List α)(p:α→Bool):decide (0≤pJ l p)=l.any p:=by
 unfold pJ
 cases h:l.findIdx? p with
 | none=>
  rw [List.findIdx?_eq_none_iff]at h;have:l.any p=false:=by rw [List.any_eq_false];intro x hx;simp [h x hx]
  simp [this]
 | some j=>
  rw [di]at h;obtain⟨hj,hp,_⟩:=h;have:l.any p=true:=by rw [List.any_eq_true];exact⟨l[j],az hj,hp⟩
  simp [this]
theorem Qy{α:Type}{l:List α}{p:α→Bool}{j:Nat}(hj:j<l.length)(hp:p l[j]=true)(hn:∀(i:Nat) (hi:i<j),p (l[i]'(by omega))=false):pJ l p=j:=by
 have:l.findIdx? p=some j:=by
  rw [di];exact⟨hj,hp,fun i hi=>by simp [hn i hi]⟩
 simp [pJ,this]
theorem Qw{α:Type}{l:List α}{p:α→Bool}(hn:∀(i:Nat) (hi:i<l.length),p l[i]=false):pJ l p = -1:=by
 have:l.findIdx? p=none:=by
  rw [List.findIdx?_eq_none_iff];intro x hx;obtain⟨i,hi,rfl⟩:=List.getElem_of_mem hx;exact hn i hi
 simp [pJ,this]
def ints(l:List Int):List (List FC):=l.map fun n=>[fi n]
@[simp] theorem GV (l:List Int):(ints l).length=l.length:=by simp [ints]
theorem iO(l:List Int):Grid 1 (ints l):=Grid.map fun _=>rfl
theorem qR{j:Nat}{l:List Int}(hj:j<l.length){H:Heap}:ldV H none (.c (.f (.fp (ints l).flatten j)))=some (vi l[j]):=by
 have:=awk (H:=H) (ai hj);simpa [ints]using this
variable{tab:Nat→Option AFunc}
def awq(t:List AOper):ACode:=.block 1 (.seq (.region [⟨D 10,.mov (R 8),none⟩,⟨D 5,.mov (R 10),none⟩] []) (.seq
 (.region t []) (.cond (R 16) (.seq (.region [⟨D 17,.mov (R 5),none⟩,⟨D 4,.mov (R 17),none⟩] []) .ret) .skip)))
def aMy(t:List AOper):AFunc:=⟨[P.nat 0,P.nat 1],[.tmp (P.nat 4)],.seq (.region [⟨D 4,.mov (.k (.c (.f (.int .i64 0)))),none⟩] [])
 (.seq (.seq (.region [⟨D 6,.mov (R 0),none⟩,⟨D 7,.len (R 6),none⟩,⟨D 8,.mov (.k (.c (.f (.int .i64 0)))),none⟩] []) (OI 0 8 7 9 18 (awq t)))
 (.seq (.region [⟨D 4,.mov (.k (.c (.f (.int .i64 (-1))))),none⟩] []) .ret))⟩
def aD9(sz:Nat)(ld:Option Nat):List AOper:=[⟨D 11,.mov (R 1),none⟩,⟨D 12,.mov (R 0),none⟩,⟨D 13,.mov (R 5),none⟩,⟨D 14,.aT sz none (R 12) (R 13),none⟩,⟨D 15,.load ld (R 14),none⟩,⟨D 16,.bW (R 11) [(R 15)] true,none⟩]
theorem aIB{f:Nat}{test:List AOper}(ht:tab f=some (aMy test)){x y:V}{α:Type}{l:List α}{p:α→Bool}(hl:l.length≤9223372036854775807)
  (hx:∃ c,x=.c c∧∀ H,bV H c=some l.length)
  (aMD:∀(j:Nat) (hj:j<l.length) (t:T) (H:Heap) (L:St→Prop),t.g 0=x→t.g 1=y→t.g 5=vi j →
   (∀ t' J,t'.g 0=x→t'.g 1=y→t'.g 5=vi j→t'.g 7=t.g 7→t'.g 8=t.g 8→t'.g 16=vb (p l[j])→L ⟨t',[],H++J⟩)→OPS tab test ⟨t,[],H⟩ L) :
  Kf tab f [x,y] (vi (pJ l p)):=by
 obtain⟨c,rfl,hc⟩:=hx;refine OB ht rfl fun H Q hQ=>?_
 refine kw_seq ?_;refine kw_region (.inl rfl) ?_;simp;refine kw_seq ?_;refine kw_seq ?_;refine kw_region (.inl rfl) ?_;simp [hc];refine qU l.length (fun j t H'=>t.g 0=.c c∧t.g 1=y∧(∃ J,H'=H++J)∧∀(i:Nat) (hi:i<l.length),i<j→p l[i]=false) hl (by decide) (by decide) (by simp) (by simp) (by simp) ?_ ?_
 ·rintro j t _ hj ⟨h0,h1,⟨J,rfl⟩,h2⟩ ha hb next;refine aN ?_;refine kw_seq ?_;refine kw_region (.inl rfl) ?_;simp [ha];refine kw_seq ?_;refine kw_region (.inl rfl) ?_;refine aMD j hj _ _ _ (by simp [h0]) (by simp [h1]) (by simp) fun t' J' g0 g1 g5 g7 g8 g16=>?_
  cases hv:p l[j]with
  | true=>
   refine ak (by simp [g16,hv]) ?_
   refine kw_seq ?_;refine kw_region (.inl rfl) ?_;simp [g5];refine aQ (hQ _ _ ?_);have:=Qy hj hv (fun i hi=>h2 i (by omega) hi)
   simp [this]
  | false=>
   refine ah (by simp [g16,hv]) ?_
   refine aW (aF (next _ _ ?_ (by simp [g8,ha]) (by simp [g7,hb])))
   refine⟨by simp [g0],by simp [g1],⟨J++J',by simp⟩,fun i hi hij=>?_⟩
   by_cases e:i=j
   ·subst e;exact hv
   ·exact h2 i hi (by omega)
 ·rintro t _ ⟨h0,h1,⟨J,rfl⟩,h2⟩ ha hb;refine kw_seq ?_;refine kw_region (.inl rfl) ?_;simp;refine aQ (hQ _ _ ?_);have:=Qw (l:=l) (p:=p) (fun i hi=>h2 i hi hi)
  simp [this]
theorem Dk{f sz:Nat}{ld:Option Nat}(ht:tab f=some (aMy (aD9 sz ld))){α:Type}(l:List α)(enc:α→List FC)(val:α→V)(p:α→Bool)(g:Tg)(k:Nat)(caps:List FC)
  (hl:l.length≤9223372036854775807) (hload:∀(j:Nat) (hj:j<l.length) (H:Heap),ldV H ld (.c (.f (.fp (l.map enc).flatten (j*sz))))=some (val l[j]))
  (hp:∀ x ∈ l,Kf tab k (val x::caps.map fun c=>.c (.f c)) (vb (p x))) :
  Kf tab f [.c (.f (sl g (l.map enc))),.c (.f (.fn k caps))] (vi (pJ l p)):=by
 refine aIB ht hl ⟨_,rfl,fun H=>by simp⟩ ?_
 intro j hj t H L h0 h1 h5 hL;have he:=(hp l[j] (az hj)).ev H;have hi:=iE (H:=H) (g:=g) (rows:=l.map enc) (sz:=sz) (k:=.i64) (i:=(j:Int)) (by omega) (by simpa using hj)
 simp [aD9,h0,h1,h5,hi,hload j hj,he];exact hL _ _ (by simp [h0]) (by simp [h1]) (by simp [h5]) (by simp) (by simp) (by simp)
def QF(f:Nat):AFunc:=⟨[P.nat 0,P.nat 1],[.tmp (P.nat 4)],.seq (.region [⟨D 4,.mov (.k (.c (.f (.bool false)))),none⟩] []) (.seq
 (.region [⟨D 5,.mov (R 0),none⟩,⟨D 6,.mov (R 1),none⟩,⟨D 7,.call f [(R 5),(R 6)] false,none⟩,⟨D 8,.bin .geq (R 7) (.k (.c (.f (.int .i64 0)))),none⟩,⟨D 4,.mov (R 8),none⟩] []) .ret)⟩
theorem yc{f k:Nat}(ht:tab f=some (QF k)){a b:FC}{α:Type}{l:List α}{p:α→Bool}(h:Kf tab k [.c (.f a),.c (.f b)] (vi (pJ l p))) :
  Kf tab f [.c (.f a),.c (.f b)] (vb (l.any p)):=by
 refine OB ht rfl fun H Q hQ=>?_
 refine kw_seq ?_;refine kw_region (.inl rfl) ?_;simp;refine kw_seq ?_;refine kw_region (.inl rfl) ?_;have he:=h.eq;simp [he];refine aQ (hQ _ _ ?_);simp [Qx]
end
section
open Go
theorem ay{H:Heap}{b:Nat}{x:Blk}(h:H[b]?=some x):b<H.length:=(ab.1 h).1
theorem qP{α β:Type}{g:α→Option β}:∀ {xs xs':List α} {ys ys':List β},bC g xs=some ys→bC g xs'=some ys'→bC g (xs++xs')=some (ys++ys')
 | [],xs',ys,ys',h,h'=>by simp [bC]at h;subst h;simpa using h'
 | x::xs,xs',ys,ys',h,h'=>by
  simp only [bC,List.cons_append]at h ⊢
  cases hx:g x with
  | none=>simp [hx]at h
  | some y=>
   cases hxs:bC g xs with
   | none=>simp [hx,hxs]at h
   | some zs=>simp [hx,hxs]at h;subst h;simp [qP hxs h']
variable{z:Bool}{H H':Heap}{sz bytes:Nat}{v y:V}{g:Tg}{rows:List (List FC)}{row:List FC}{cs:List C}
theorem sF{b fl c:Nat}(h:H[b]?=some (.box cs fl))(hc:cs.length=sz):eY H sz (.c (.sl b 0 1 c 0 sz))=some (1,cs):=by
 simp [eY,bV,dF,h,hc];rw [←hc,List.take_length]
end
section
open Go
def FW(P:Program):List Field→Nat→Nat→Bool
 | [],o,n=>o == n
 | f::fs,o,n=>f.offset == o&&FW P fs (o+P.cellsOf f.type) n
def jc(P:Program):Nat→TypeId→Bool
 | 0,_=>false
 | n+1,t=>match P.underlying t with
  | some .bool=>P.cellsOf t == 1
  | some (.int _)=>P.cellsOf t == 1
  | some .string=>P.cellsOf t == 1
  | some (.slice e)=>P.cellsOf t == 1&&P.cellsOf e != 0&&jc P n e
  | some (.struct fs)=>FW P fs.toList 0 (P.cellsOf t)&&fs.toList.all fun f=>jc P n f.type
  | some (.array k e)=>P.cellsOf t == k*P.cellsOf e&&jc P n e
  | _=>false
def DJ(S:TypeId→List FC→Prop):List TypeId→List FC→Prop
 | [],xs=>xs=[]
 | t::ts,xs=>∃ p q,xs=p++q∧S t p∧DJ S ts q
def Shp(P:Program):Nat→TypeId→List FC→Prop
 | 0,_,_=>False
 | n+1,t,xs=>match P.underlying t with
  | some .bool=>∃ b,xs=[.bool b]
  | some (.int k)=>∃ m,xs=[.int k m]∧(Lit.int k m).wf=true
  | some .string=>∃ s,xs=[.str s]∧s.size≤maxLen
  | some (.slice e)=>∃ g rows,xs=[sl g rows]∧Grid (P.cellsOf e) rows∧rows.length≤maxLen∧∀ r ∈ rows,Shp P n e r
  | some (.struct fs)=>DJ (Shp P n) (fs.toList.map (·.type)) xs
  | some (.array k e)=>∃ rows,xs=rows.flatten∧rows.length=k∧Grid (P.cellsOf e) rows∧∀ r ∈ rows,Shp P n e r
  | _=>False
theorem flat_get{α:Type}{sz:Nat}:∀ {rows:List (List α)} {j k:Nat} {row:List α},(∀ r ∈ rows,r.length=sz)→rows[j]?=some row→k<sz→rows.flatten[j*sz+k]?=row[k]?
 | [],j,k,row,_,hj,_=>by simp at hj
 | r::rows,0,k,row,hg,hj,hk=>by
  simp at hj;subst hj;have:=hg r bj;rw [bq,ae (by omega)]
  simp
 | r::rows,j+1,k,row,hg,hj,hk=>by
  have hr:=hg r bj;rw [bq,List.getElem?_append_right (by rw [hr,bN];omega)]
  have e:(j+1)*sz+k-r.length=j*sz+k:=by rw [hr,bN];omega
  rw [e];exact flat_get (rows:=rows) (fun x hx=>hg x (bw _ hx)) (by simpa using hj) hk
theorem G8{α:Type}{sz:Nat}:∀ {rows:List (List α)},(∀ r ∈ rows,r.length=sz)→rows.flatten.length=rows.length*sz
 | [],_=>by simp
 | r::rows,h=>by
  have:=G8 (rows:=rows) fun x hx=>h x (bw _ hx)
  simp only [bq,aL,bt,this,h r bj,bN,Nat.one_mul];omega
def KW(w:World):Nat→Nat→Prop:=fun c _=>c<w.heap.size
theorem cell_lt{w:World}{a:Addr}{v:Value}(h:w.cell? a=some v):a.block<w.heap.size∧a.spot=none:=by
 unfold World.cell? at h;split at h
 ·rename_i hb;split at h
  ·simp at h
  ·rename_i hs;refine⟨?_,by simpa using hs⟩
   exact(Array.getElem?_eq_some_iff.1 hb).1
 ·simp at h
theorem A2.flatten{α β:Type}{R:α→β→Prop}{xss:List (List α)}{yss:List (List β)}(hl:xss.length=yss.length)
  (h:∀(i:Nat) xs ys,xss[i]?=some xs→yss[i]?=some ys→A2 R xs ys):A2 R xss.flatten yss.flatten:=by
 induction xss generalizing yss with
 | nil=>cases yss with
  | nil=>exact A2.nil
  | cons y ys=>simp at hl
 | cons x xs ih=>cases yss with
  | nil=>simp at hl
  | cons y ys=>
   rw [bq,bq];exact(h 0 x y rfl rfl).append (ih (by simpa using hl) fun i a b ha hb=>h (i+1) a b (by simpa using ha) (by simpa using hb))
section
variable{H:Type}{enc:TypeId × Value→H}{P:Program}{w:World}{base:Nat}{spare:Nat→Bool}{held:Bool}{σ:Nat→FuncId}
def aOx(σ:Nat→FuncId)(P:Program)(w:World)(n:Nat)(t:TypeId)(cs:List Value):Prop:=∃ xs,A2 (FCR σ (KW w) w) xs cs∧Shp P n t xs
theorem xZ{n:Nat}(ih:∀ {t:TypeId} {fuel:Nat} {cs:List Value} {x:DataW H × List MemPlace},jc P n t=true→DataW.trod enc P w base spare held fuel t cs=some x→aOx σ P w n t cs∧cs.length=P.cellsOf t)
  {fuel:Nat}:∀(fs:List Field) (o N:Nat) (cs:List Value),FW P fs o N=true→(fs.all fun f=>jc P n f.type)=true→cs.length=N →
   (∀ f ∈ fs,∃ x,DataW.trod enc P w base spare held fuel f.type ((cs.drop f.offset).take (P.cellsOf f.type))=some x) →
   ∃ xs,A2 (FCR σ (KW w) w) xs (cs.drop o)∧DJ (Shp P n) (fs.map (·.type)) xs
 | [],o,N,cs,ht,_,hl,_=>by
  simp [FW]at ht
  exact⟨[],by rw [List.drop_of_length_le (by omega)];exact A2.nil,rfl⟩
 | f::fs,o,N,cs,ht,hs,hl,hx=>by
  simp only [FW,ag,beq_iff_eq]at ht;simp only [List.all_cons,ag]at hs;obtain⟨x,hx0⟩:=hx f bj;rw [ht.1]at hx0;obtain⟨⟨p,hp,sp⟩,hlen⟩:=ih hs.1 hx0;obtain⟨q,hq,sq⟩:=xZ ih fs (o+P.cellsOf f.type) N cs ht.2 hs.2 hl fun g hg=>hx g (bw _ hg)
  refine⟨p++q,?_,p,q,rfl,sp,sq⟩
  have:cs.drop o=(cs.drop o).take (P.cellsOf f.type)++cs.drop (o+P.cellsOf f.type):=by
   rw [←List.drop_drop,cA]
  rw [this];exact hp.append hq
theorem Xm(c o n k:Nat):((⟨c,o,none⟩:Addr).add n).add k=⟨c,o+(n+k),none⟩:=by
 unfold Addr.add;by_cases h1:n=0<;>by_cases h2:k=0<;>simp [h1,h2];omega
theorem UJ{t e:TypeId}{k n:Nat}{cs:List Value}{x:DataW H × List MemPlace}(ht:P.underlying t=some (.array k e))(h:DataW.trod enc P w base spare held (n+1) t cs=some x) :
  cs.length=P.cellsOf t∧∀ i,i<k→∃ y,DataW.trod enc P w base spare held n e ((cs.drop (i*P.cellsOf e)).take (P.cellsOf e))=some y:=by
 unfold DataW.trod at h;rw [ht]at h;simp only [Option.ite_none_right_eq_some,am]at h;obtain⟨hl,xs,hp,hd⟩:=h;refine⟨hl,fun i hi=>?_⟩
 have:=mapM_some_get hp i i (by simp [hi])
 have hlen:xs.length=k:=by simpa using mapM_some_length hp
 rw [ai (by omega)]at this
 exact⟨_,this⟩
theorem Dz{α:Type}{sz:Nat}:∀ {k:Nat} {cs:List α},cs.length=k*sz→cs=((List.range k).map fun i=>(cs.drop (i*sz)).take sz).flatten
 | 0,cs,h=>by simp at h;simp [h]
 | k+1,cs,h=>by
  have h':(cs.take (k*sz)).length=k*sz:=by rw [List.length_take,h,bN];omega
  have ih:=Dz h';rw [List.range_succ,cq,List.flatten_append]
  have e:((List.range k).map fun i=>(cs.drop (i*sz)).take sz)=(List.range k).map fun i=>((cs.take (k*sz)).drop (i*sz)).take sz:=by
   refine List.map_congr_left fun i hi=>?_
   have hi':i<k:=by simpa using hi
   have:(i+1)*sz≤k*sz:=ce _ hi';rw [bN]at this;rw [List.drop_take,List.take_take,Nat.min_eq_left (by omega)]
  rw [e,←ih];simp only [ax,List.map_nil,bq,List.flatten_nil,cE];have:(cs.drop (k*sz)).take sz=cs.drop (k*sz):=bi (by rw [cf,h,bN];omega)
  rw [this,cA]
theorem aRa{n:Nat}:∀ {t:TypeId} {fuel:Nat} {cs:List Value} {x:DataW H × List MemPlace},jc P n t=true→DataW.trod enc P w base spare held fuel t cs=some x →
  aOx σ P w n t cs∧cs.length=P.cellsOf t:=by
 induction n with
 | zero=>intro t fuel cs x hs;simp [jc]at hs
 | succ n ih=>
  intro t fuel cs x hs h;simp only [jc]at hs;split at hs
  ·rename_i ht;obtain⟨b,rfl,_⟩:=DataW.trod_bool ht h;exact⟨⟨[.bool b],.cons (.bool b) .nil,by simp only [Shp,ht];exact⟨b,rfl⟩⟩,by simp at hs;simp [hs]⟩
  ·rename_i k ht;obtain⟨m,rfl,_,hw⟩:=DataW.trod_int ht h;exact⟨⟨[.int k m],.cons (.int k m) .nil,by simp only [Shp,ht];exact⟨m,rfl,hw⟩⟩,by simp at hs;simp [hs]⟩
  ·rename_i ht;obtain⟨s,rfl,_,hw⟩:=DataW.trod_string ht h;exact⟨⟨[.str s],.cons (.str s) .nil,by simp only [Shp,ht];exact⟨s,rfl,hw⟩⟩,by simp at hs;simp [hs]⟩
  ·rename_i e ht;simp only [ag,beq_iff_eq,bne_iff_ne]at hs;obtain⟨⟨h1,hsz⟩,he⟩:=hs;rcases DataW.trod_slice ht h with⟨rfl,_⟩ | ⟨a,len,cap,elems,rest,m,_,rfl,_,hb,hl,hm,hlen,hel,_,_⟩
   ·exact⟨⟨[sl .nil []],.cons .au .nil,by simp only [Shp,ht];exact⟨.nil,[],rfl,fun r hr=>by simp at hr,by simp,fun r hr=>by simp at hr⟩⟩,by simpa using h1.symm⟩
   ·refine⟨?_,by simpa using h1.symm⟩
    have each:∀ i,i<len→∃ p:List Value × List FC,w.cells? base (a.add (i*P.cellsOf e)) (P.cellsOf e)=some p.1∧A2 (FCR σ (KW w) w) p.2 p.1∧Shp P n e p.2:=by
     intro i hi;have:=hel i hi;rw [ai (by omega)]at this
     obtain⟨cs',h1,h2⟩:=ba.1 this;obtain⟨⟨xs,ha,hs⟩,_⟩:=ih he h2;exact⟨(cs',xs),h1,ha,hs⟩
    obtain⟨p,hp⟩:=Go.Deep.choose_lt each;by_cases h0:len=0
    ·subst h0;refine⟨[sl .fs []],.cons (.fs0 a cap) .nil,?_⟩;simp only [Shp,ht];exact⟨.fs,[],rfl,fun r hr=>by simp at hr,by simp,fun r hr=>by simp at hr⟩
    have hspot:a.spot=none:=by
     have:=hp 0 (by omega)
     obtain⟨_,hl0,hc0⟩:=World.cells?_some this.1;have:=hc0 0 (by omega)
     rw [ai (by omega)]at this
     have:=(cell_lt this).2;simpa [Addr.add]using this
    obtain⟨c,o,sp⟩:=a;simp only at hspot;subst hspot
    let vss:=(List.range len).map fun i=>(p i).1
    let rows:=(List.range len).map fun i=>(p i).2
    have hv:∀ v ∈ vss,v.length=P.cellsOf e:=by
     intro v hv;obtain⟨i,hi,rfl⟩:=ci.1 hv;exact(World.cells?_some (hp i (by simpa using hi)).1).2.1
    have hg:Grid (P.cellsOf e) rows:=by
     intro r hr;obtain⟨i,hi,rfl⟩:=ci.1 hr;obtain⟨h1,h2,_⟩:=hp i (by simpa using hi)
     rw [h2.len,(World.cells?_some h1).2.1]
    have hA:A2 (FCR σ (KW w) w) rows.flatten vss.flatten:=by
     refine A2.flatten (by simp [rows,vss]) fun i xs ys hx hy=>?_
     simp only [rows,vss,b8,am]at hx hy;obtain⟨i1,e1,rfl⟩:=hx;obtain⟨i2,e2,rfl⟩:=hy;rw [e1]at e2;cases e2;have:=bl e1;exact(hp i1 (by simpa using this)).2.1
    have hcell:∀ i u,vss.flatten[i]?=some u→w.cell? ⟨c,o+i,none⟩=some u:=by
     intro i u hu;have hi:i<vss.flatten.length:=(ab.1 hu).1;rw [G8 hv]at hi;have hvl:vss.length=len:=by simp [vss]
     rw [hvl]at hi;have hq:i / P.cellsOf e<len:=Nat.div_lt_of_lt_mul (by rw [Nat.mul_comm];exact hi)
     have hk:i % P.cellsOf e<P.cellsOf e:=Nat.mod_lt _ (by omega)
     have hi':i=i / P.cellsOf e*P.cellsOf e+i % P.cellsOf e:=by rw [Nat.mul_comm];exact(Nat.div_add_mod _ _).symm
     have hrow:vss[i / P.cellsOf e]?=some (p (i / P.cellsOf e)).1:=by simp [vss,hq]
     rw [hi',flat_get hv hrow hk]at hu;obtain⟨_,_,hc⟩:=World.cells?_some (hp _ hq).1;have:=hc _ hk;rw [hu]at this;rw [←this,Xm,←hi']
    refine⟨[sl .fs rows],.cons ?_ .nil,?_⟩
    ·have hne:rows≠[]:=by simp [rows];omega
     have hrl:rows.length=len:=by simp [rows]
     have:sl Tg.fs rows=.fs rows.flatten len:=by
      cases hr:rows with
      | nil=>exact absurd hr hne
      | cons r rs=>simp only [sl,dg,aw,if_false];rw [←hr,hrl]
     rw [this];refine .fs rows.flatten len c o cap vss.flatten hl hA.len.symm (fun i hi=>?_) hcell fun i x u hx hu=>hA.2 i x u hx hu
     have hi':i<vss.flatten.length:=by rw [←hA.len];exact hi
     exact(cell_lt (hcell i _ (ai hi'))).1
    ·simp only [Shp,ht];have hrl:rows.length=len:=by simp [rows]
     refine⟨.fs,rows,rfl,hg,by omega,fun r hr=>?_⟩
     obtain⟨i,hi,rfl⟩:=ci.1 hr;exact(hp i (by simpa using hi)).2.2
  ·rename_i fs ht;simp only [ag]at hs;obtain⟨xs,m,_,_,hl,_,hx⟩:=DataW.trod_struct ht h;refine⟨?_,hl⟩
   obtain⟨ys,h1,h2⟩:=xZ (n:=n) (fuel:=m) ih fs.toList 0 _ cs hs.1 hs.2 hl fun f hf=>by
    obtain⟨i,hi⟩:=List.getElem?_of_mem hf;rw [Array.getElem?_toList]at hi;have:=hx i f hi;rw [this];have hlt:i<fs.size:=(Array.getElem?_eq_some_iff.1 hi).1;exact⟨_,ai (by omega)⟩
   exact⟨ys,by simpa using h1,by simp only [Shp,ht];exact h2⟩
  ·rename_i k e ht;simp only [ag,beq_iff_eq]at hs;obtain⟨hct,he⟩:=hs
   cases fuel with
   | zero=>simp [DataW.trod]at h
   | succ m=>
   obtain⟨hl,hx⟩:=UJ ht h;refine⟨?_,hl⟩
   have each:∀ i,i<k→∃ q:List FC,A2 (FCR σ (KW w) w) q ((cs.drop (i*P.cellsOf e)).take (P.cellsOf e))∧Shp P n e q:=by
    intro i hi;obtain⟨y,hy⟩:=hx i hi;obtain⟨⟨q,a,b⟩,_⟩:=ih he hy;exact⟨q,a,b⟩
   obtain⟨q,hq⟩:=Go.Deep.choose_lt each
   let rows:=(List.range k).map q
   have hcs:cs=((List.range k).map fun i=>(cs.drop (i*P.cellsOf e)).take (P.cellsOf e)).flatten:=Dz (by rw [hl,hct])
   refine⟨rows.flatten,?_,?_⟩
   ·rw [hcs];refine A2.flatten (by simp [rows]) fun i xs ys hx hy=>?_
    simp only [rows,b8,am]at hx hy;obtain⟨i1,e1,rfl⟩:=hx;obtain⟨i2,e2,rfl⟩:=hy;rw [e1]at e2;cases e2;have:=bl e1;exact(hq i1 (by simpa using this)).1
   ·simp only [Shp,ht];refine⟨rows,rfl,by simp [rows],fun r hr=>?_,fun r hr=>?_⟩
    ·obtain⟨i,hi,rfl⟩:=ci.1 hr;have hi':i<k:=by simpa using hi
     rw [(hq i hi').1.len,List.length_take,cf,hl,hct];have:(i+1)*P.cellsOf e≤k*P.cellsOf e:=ce _ hi';rw [bN]at this;omega
    ·obtain⟨i,hi,rfl⟩:=ci.1 hr;exact(hq i (by simpa using hi)).2
  ·simp at hs
end
section
variable{P:Program}{n:Nat}{t e:TypeId}{xs:List FC}
theorem UW(ht:P.underlying t=some .bool)(h:Shp P (n+1) t xs):∃ b,xs=[.bool b]:=by simpa only [Shp,ht]using h
theorem iw{k:IntKind}(ht:P.underlying t=some (.int k))(h:Shp P (n+1) t xs):∃ m,xs=[.int k m]∧(Lit.int k m).wf=true:=by simpa only [Shp,ht]using h
theorem wK(ht:P.underlying t=some (.slice e))(h:Shp P (n+1) t xs):∃ g rows,xs=[sl g rows]∧Grid (P.cellsOf e) rows∧rows.length≤maxLen∧∀ r ∈ rows,Shp P n e r:=by simpa only [Shp,ht]using h
theorem tN{fs:Array Field}{ts:List TypeId}(ht:P.underlying t=some (.struct fs))(hts:fs.toList.map (·.type)=ts)(h:Shp P (n+1) t xs):DJ (Shp P n) ts xs:=by
 subst hts;simpa only [Shp,ht]using h
theorem Ei{k:Nat}(ht:P.underlying t=some (.array k e))(h:Shp P (n+1) t xs):∃ rows,xs=rows.flatten∧rows.length=k∧Grid (P.cellsOf e) rows∧∀ r ∈ rows,Shp P n e r:=by simpa only [Shp,ht]using h
theorem dU{S:TypeId→List FC→Prop}{ts:List TypeId}(h:DJ S (t::ts) xs):∃ p q,xs=p++q∧S t p∧DJ S ts q:=h
theorem rU{α:Type}{enc:α→List FC}{p:α→Prop}:∀ {rows:List (List FC)},(∀ r ∈ rows,∃ x,r=enc x∧p x)→∃ l:List α,rows=l.map enc∧∀ x ∈ l,p x
 | [],_=>⟨[],rfl,by simp⟩
 | r::rows,h=>by
  obtain⟨x,rfl,hx⟩:=h r bj;obtain⟨l,rfl,hl⟩:=rU fun r hr=>h r (bw _ hr)
  exact⟨x::l,rfl,fun y hy=>by
   rcases List.mem_cons.1 hy with rfl | hy
   ·exact hx
   ·exact hl y hy⟩
end
end
section
open Go Go.ChangeShapes Go.WideShapes Go.ChangeAt Go.RowKit
def xM(P:Program)(t:TypeId)(a:V):Prop:=(∃ xs,a=.a (xs.map .f)∧Shp P 40 t xs∧(∃ d,P.underlying t=some d∧((∃ fs,d=.struct fs)∨∃ n e,d=.array n e))) ∨
 (∃ x,a=.c (.f x)∧Shp P 40 t [x])
def yY(P:Program):List TypeId→List V→Prop
 | [],as=>as=[]
 | t::ts,as=>∃ a bs,as=a::bs∧xM P t a∧yY P ts bs
section
variable{H:Type}{enc:TypeId × Value→H}{P:Program}{W W':World}
theorem BL{f:Func}{s:ChangeSpec}{apart fresh handsOn again:Bool}{args:Array Value}{v:Value}{ds gs:List (DataW H)}{before pa pv:List MemPlace}
  (hW:DataW.Whole enc P f.params.toList s.vars apart W args.toList ds gs before)
  (hres:∀(b:Nat) (sp:Nat→Bool) (hd:Bool),DataW.TrodAll enc P W' b sp hd f.resultTypes.toList (v.resultList f.resultTypes.size) (s.fn H (ds++gs)).results [])
  (hargs:∀ sp:Nat→Bool,(∀ p ∈ before,sp p.block=true)→DataW.TrodAll enc P W' 0 sp true f.params.toList args.toList (s.fn H (ds++gs)).args pa)
  (hvars:∀ sp:Nat→Bool,(∀ p ∈ before,sp p.block=true)→DataW.TrodVars enc P W' sp s.vars (s.fn H (ds++gs)).vars pv)
  (hps:before=pa++pv) (hb:Below W.heap.size W W')
  (hok:∀(j:Nat) (t:TypeId) (r:Value),f.resultTypes[j]?=some t→(v.resultList f.resultTypes.size)[j]?=some r→Value.okWide P W' .any 0 t r) :
  s.post enc P f apart fresh handsOn again W args v W':=by
 have hlt:∀ p ∈ before,p.block<W.heap.size:=fun p hp=>hW.lt p hp
 have hold:∀ p ∈ before,(fun b=>decide (b<W.heap.size)) p.block=true:=fun p hp=>by simpa using hlt p hp
 refine⟨ds,gs,before,[],pa,pv,hW,hres _ _ _,hargs _ hold,hvars _ hold,World.keptBut_mono (fun p hp=>⟨hp,?_⟩) (hb.frame (· ∈ before)),fun _=>?_⟩
 ·rw [hps,List.mem_append]at hp;exact Or.inr hp
 ·obtain⟨_,_,_,_,_,hz,hn⟩:=hW;refine⟨hok,_,_,([]++pa)++pv,⟨[]++pa,pv,trodAll_append (hargs _ (fun _ _=>rfl)) (hres _ _ _),hvars _ (fun _ _=>rfl),rfl,?_,?_⟩,?_⟩
  ·intro b off hp;have hp':MemPlace.cell b off ∈ before:=by rw [hps];simpa using hp
   rw [hb.frozen (p:=⟨b,off,none⟩) (hlt _ hp')];exact hz b off hp'
  ·intro ha;have:=hn ha;rw [hps]at this;simpa using this
  ·intro p hp _;rw [hps];simpa using hp
theorem sQ(hl:laidOutB P=true){sp:Nat→Bool}(hb:Below W.heap.size W W'):∀ {ts:List TypeId} {vs:List Value} {ds:List (DataW H)} {ps:List MemPlace},
  (ts.all fun t=>P.readableRec t&&decide (t<P.types.size))=true→DataW.TrodAll enc P W 0 (fun _=>true) true ts vs ds ps→(∀ p ∈ ps,p.block<W.heap.size)→(∀ p ∈ ps,sp p.block=true) →
  DataW.TrodAll enc P W' 0 sp true ts vs ds ps
 | [],[],[],ps,_,h,_,_=>h
 | t::ts,v::vs,d::ds,ps,hr,⟨p,q,h1,h2,e⟩,hlt,hs=>by
  subst e;simp only [List.all_cons,ag,decide_eq_true_eq]at hr
  exact⟨p,q,WideElems.Trod_stays hl hr.1.1 hr.1.2 h1 (fun x hx=>hb.same (hlt x (List.mem_append_left _ hx))) (fun x hx=>hs x (List.mem_append_left _ hx)),
   sQ hl hb hr.2 h2 (fun x hx=>hlt x (List.mem_append_right _ hx)) (fun x hx=>hs x (List.mem_append_right _ hx)),rfl⟩
 | [],_::_,_,_,_,h,_,_=>by cases h
 | [],[],_::_,_,_,h,_,_=>by cases h
 | _::_,[],_,_,_,h,_,_=>by cases h
 | _::_,_::_,[],_,_,h,_,_=>by cases h
variable{σ:Nat→FuncId}
def X0(W:World):Wd:=⟨fun _=>none,KW W,[],W,W.heap.size⟩
theorem UE{xs:List FC}{cs:Array Value}(h:A2 (FCR σ (KW W) W) xs cs.toList):VR σ (X0 W) (.a (xs.map .f)) (.agg cs):=
 ⟨cs.toList,by simp,A2.map (g:=C.f) (h.weak fun _ _ h=>h)⟩
theorem Xi{t:TypeId}{v:Value}{d:DataW H}{ps:List MemPlace}{base:Nat}{spare:Nat→Bool}{held:Bool}{b0:Nat}(hs:jc P 40 t=true)(hval:Value.okWide P W .any b0 t v)
  (hd:DataW.Trod enc P W base spare held t v d ps):∃ a,VR σ (X0 W) a v∧xM P t a:=by
 obtain⟨fuel,hf⟩:=hd;obtain⟨⟨xs,hA,hS⟩,hl⟩:=aRa (σ:=σ) hs hf
 have scalar:v.cells.toList=[v]→∃ a,VR σ (X0 W) a v∧xM P t a:=by
  intro hv;rw [hv]at hA
  match xs,hA.len with
  | [x],_=>exact⟨.c (.f x),hA.of_cons.1,.inr ⟨x,rfl,hS⟩⟩
 unfold jc at hs;unfold Value.okWide at hval;split at hval
 ·rename_i fs ht;obtain⟨cs,rfl,_,_⟩:=hval;exact⟨_,UE hA,.inl ⟨xs,rfl,hS,_,ht,.inl ⟨_,rfl⟩⟩⟩
 ·rename_i n e ht;obtain⟨cs,rfl,_,_⟩:=hval;exact⟨_,UE hA,.inl ⟨xs,rfl,hS,_,ht,.inr ⟨_,_,rfl⟩⟩⟩
 ·rename_i h1 h2;refine scalar ?_;split at hs
  ·rename_i ht;obtain⟨b,hb,_⟩:=DataW.trod_bool ht hf;simp only [Cell.okWide,ht,Cell.ok]at hval;cases v<;>simp_all [Value.cells]
  ·rename_i ht;obtain⟨b,hb,_⟩:=DataW.trod_int ht hf;simp only [Cell.okWide,ht,Cell.ok]at hval;cases v<;>simp_all [Value.cells]
  ·rename_i ht;obtain⟨b,hb,_⟩:=DataW.trod_string ht hf;simp only [Cell.okWide,ht,Cell.ok]at hval;cases v<;>simp_all [Value.cells]
  ·rename_i ht;simp only [Cell.okWide,ht,Cell.ok]at hval;cases v<;>simp_all [Value.cells]
  ·rename_i fs ht;exact absurd ht (h1 fs)
  ·rename_i n e ht;exact absurd ht (h2 n e)
  ·simp at hs
theorem DI{base:Nat}{spare:Nat→Bool}{held:Bool}{b0:Nat}:∀ {ts:List TypeId} {vs:List Value} {ds:List (DataW H)} {ps:List MemPlace},(ts.all fun t=>jc P 40 t)=true →
  (∀(j:Nat) t v,ts[j]?=some t→vs[j]?=some v→Value.okWide P W .any b0 t v)→DataW.TrodAll enc P W base spare held ts vs ds ps →
  ∃ as,A2 (VR σ (X0 W)) as vs∧yY P ts as
 | [],[],[],_,_,_,_=>⟨[],A2.nil,rfl⟩
 | t::ts,v::vs,d::ds,ps,hs,hval,⟨p,q,h1,h2,_⟩=>by
  simp only [List.all_cons,ag]at hs;obtain⟨a,ha,sa⟩:=Xi (σ:=σ) hs.1 (hval 0 t v rfl rfl) h1;obtain⟨bs,hb,sb⟩:=DI hs.2 (fun j t v h h'=>hval (j+1) t v (by simpa using h) (by simpa using h')) h2
  exact⟨a::bs,.cons ha hb,a,bs,rfl,sa,sb⟩
 | [],_::_,_,_,_,_,h=>by cases h
 | [],[],_::_,_,_,_,h=>by cases h
 | _::_,[],_,_,_,_,h=>by cases h
 | _::_,_::_,[],_,_,_,h=>by cases h
theorem awZ{n:Nat}{H:Heap}{v:V}{b:Bool}(h:exV (n+1) H v=some (.c (.f (.bool b)))):v=.c (.f (.bool b)):=by
 cases v with
 | top=>simp [exV,dB]at h
 | a xs=>simp [exV,dB]at h
 | t xs=>simp [exV]at h
 | c x=>
  simp only [exV,dB,am]at h;obtain⟨y,hy,h⟩:=h;cases h
  cases x with
  | f x=>simpa [exC]using hy
  | ptr b o e=>simp only [exC]at hy;split at hy<;>simp at hy
  | sl b o l c e s=>
   simp only [exC]at hy;split at hy
   ·split at hy<;>simp at hy
   ·split at hy<;>simp at hy
   ·split at hy<;>simp at hy
   ·split at hy<;>simp at hy
   ·simp at hy
  | cl f caps=>simp [exC]at hy
  | _=>simp [exC]at hy
variable{tab:Nat→Option AFunc}
theorem KG(hE:Env P σ tab lZ){f:Nat}{args:List V}{us:List Value}(h:Pure tab f args (vb true))(W:World)(ha:A2 (VR σ (X0 W)) args us) :
  Calls P (σ f) us.toArray W fun e w'=>e=.returned (.bool true)∧Below W.heap.size W w':=by
 obtain⟨r,H',⟨m,d,h⟩,hr⟩:=h;have hr:=awZ (n:=63) hr;subst hr;intro cs
 let X:=X0 W
 have hS:SR P σ X:=⟨fun b L h=>by simp [X,X0]at h,fun b b' L L' h=>by simp [X,X0]at h,fun c i h=>h⟩
 obtain⟨fr,X',u,h1,⟨l1,l2,l3,l4,fn,l5,l6⟩,h3,h4,h5,h6,h7⟩:=(W9 hE m d).fn f args [] _ H' h X us .normal cs rfl hS (aq _) ha (.inl rfl);have hu:=VR.bool h5;subst hu;exact⟨.returned (.bool true),X'.w,fr,⟨rfl,⟨h6.os,h6.tape,h6.output,h6.size,fun k hk=>h6.frame k hk (fun b L h=>by simp [X,X0]at h)⟩⟩,h1,l4,l1,l2,l3,fn,by rw [l4];exact l5,l6⟩
theorem V4(hE:Env P σ tab lZ){s:ChangeSpec}{f:Func}{fi:Nat}{tb:TypeId}(hvars:s.vars=[])(hlaid:laidOutB P=true){ts:List TypeId}(hts:f.params.toList=ts)
  (hfn:∀ ds:List (DataW H),ds.length=ts.length→s.fn H ds=⟨[.lit (.bool true)],ds,[]⟩)
  (hres:f.resultTypes=#[tb]) (htb:P.underlying tb=some .bool) (hread:(ts.all fun t=>P.readableRec t&&decide (t<P.types.size))=true) (awu:(ts.all fun t=>jc P 40 t)=true)
  (hkm:∀ as,yY P ts as→Pure tab fi as (vb true)) {apart fresh handsOn again:Bool} {base:Nat} {args:Array Value} {ds gs:List (DataW H)} {before:List MemPlace}
  (hval:∀(j:Nat) t v,f.params[j]?=some t→args[j]?=some v→Value.okWide P W .any base t v) (hW:DataW.Whole enc P f.params.toList s.vars apart W args.toList ds gs before) :
  Calls P (σ fi) args W fun e W'=>∃ v,e=.returned v∧s.post enc P f apart fresh handsOn again W args v W':=by
 have hW':=hW;obtain⟨p,q,hA,hV,hb,hfz,hnd⟩:=hW;rw [hts]at hA;rw [hvars]at hV;obtain⟨rfl,rfl⟩:=trodVars_none hV;simp only [cE]at hb;subst hb;obtain⟨as,h1,h2⟩:=DI (σ:=σ) (b0:=base) awu (fun j t v h h'=>hval j t v (by rw [←Array.getElem?_toList,hts];exact h) (by rw [←Array.getElem?_toList];exact h')) hA
 have hlen:ds.length=ts.length:=by
  have:∀ {ts:List TypeId} {vs:List Value} {ds:List (DataW H)} {ps:List MemPlace},DataW.TrodAll enc P W 0 (fun _=>true) true ts vs ds ps→ds.length=ts.length:=by
   intro ts
   induction ts with
   | nil=>intro vs ds ps h;cases vs<;>cases ds<;>first | rfl | cases h
   | cons t ts ih=>intro vs ds ps h;cases vs<;>cases ds<;>first | (obtain⟨_,_,_,h,_⟩:=h;simp [ih h]) | cases h
  exact this hA
 have hfn':=hfn ds hlen;have hc:=KG hE (hkm as h2) W h1;rw [Array.toArray_toList]at hc;refine hc.mono fun e W' h=>?_
 obtain⟨he,hg⟩:=h;subst he;refine⟨_,rfl,BL (pa:=before) (pv:=[]) hW' (fun b sp hd=>?_) (fun sp hsp=>?_) (fun sp _=>?_) (by simp) hg ?_⟩
 ·rw [cE,hfn',hres];exact trodAll_mk1 (shut_bool htb _)
 ·rw [cE,hfn',hts];exact sQ hlaid hg hread hA (fun p hp=>hW'.lt p hp) hsp
 ·rw [cE,hfn',hvars];exact rfl
 ·exact ok_one hres rfl (okWide_bool_mk htb _)
end
end
section
open Go
section
variable{tab:Nat→Option AFunc}{f:Nat}{args:List V}{r:V}{fn:Nat}{k:List AItem}{t:T}{ds:List fE}{H H':Heap}{Q:Option ACode→St→Prop}
@[simp] theorem aJ9 {b:Nat} {as:List V}:fA (.c (.yl b)) as=some (.yield b,as):=rfl
theorem He{C:V→Heap→Prop}{ps:List P}{res:List nC}{body:ACode}(ht:tab f=some ⟨ps,res,body⟩)(hl:args.length=ps.length)
  (h:∀ Q:Option ACode→St→Prop,(∀ j s r,s.defs=[]→results s.regs s.heap res=some r→C r s.heap→Q j s)→WP tab f none [.code body] ⟨dI ps args .e,[],H⟩ Q):∃ r H',Ev tab (.fn f) args H r H'∧C r H':=by
 have h':=h (fun _ s=>s.defs=[]∧∃ r,results s.regs s.heap res=some r∧C r s.heap) fun _ _ r h1 h2 h3=>⟨h1,r,h2,h3⟩
 obtain⟨n,m,d,j,s,h1,hd,r,h2,h3⟩:=h';exact⟨r,s.heap,OQ ht hl ⟨n,m,d,j,s,h1,0,0,s.heap,by rw [hd];rfl,h2,rfl⟩,h3⟩
end
end
section
open Go
section
variable{tab:Nat→Option AFunc}{fn:Nat}{ro:Option Nat}{k:List AItem}{s:St}{Q:Option ACode→St→Prop}
end
end
section
open Go
theorem Dj(l:List Int):(ints l).flatten=l.map fi:=by
 induction l with
 | nil=>rfl
 | cons m l ih=>simp only [ints,ax,bq]at ih ⊢;rw [ih];rfl
theorem vJ{n:Nat}:∀(l:List C) (H:Heap),(∀ x ∈ l,∃ y,x=.f y)→l.foldl (fun H x=>mkC n x H) H=H
 | [],_,_=>rfl
 | x::l,H,h=>by
  obtain⟨y,rfl⟩:=h x bj;simp only [cm,Oo];exact vJ l H fun x hx=>h x (bw _ hx)
end
section
open Go
end
section
open Go
def RB(H:Heap)(b sz ep:Nat)(rows:List (List FC)):Prop:=H[b]?=some (.opn sz (rows.flatten.map .f) 0 ep .loc)
def Fm(b:Nat)(H H':Heap):Prop:=H.length≤H'.length∧∀ b':Nat,b'≠b→b'<H.length→H'[b']?=H[b']?
theorem Fm.refl{b:Nat}(H:Heap):Fm b H H:=⟨aq _,fun _ _ _=>rfl⟩
theorem Fm.trans{b:Nat}{H H' H'':Heap}(h:Fm b H H')(h':Fm b H' H''):Fm b H H'':=
 ⟨Nat.le_trans h.1 h'.1,fun b' e l=>(h'.2 b' e (Nat.lt_of_lt_of_le l h.1)).trans (h.2 b' e l)⟩
theorem Fm.push{b:Nat}(H J:Heap):Fm b H (H++J):=⟨by simp,fun b' _ l=>ae l⟩
theorem Fm.set{b:Nat}(H:Heap)(x:Blk):Fm b H (H.set b x):=⟨by simp,fun b' e _=>al (Ne.symm e)⟩
theorem Fm.get{b:Nat}{H H':Heap}(h:Fm b H H'){b':Nat}{x:Blk}(hb:H[b']?=some x)(e:b'≠b):H'[b']?=some x:=by rw [h.2 b' e (ay hb)];exact hb
theorem Gg{sz:Nat}{row:List FC}(hr:row.length=sz):∀ {rows:List (List FC)} {j:Nat},Grid sz rows→j<rows.length →
  rows.flatten.take (j*sz)++row++rows.flatten.drop (j*sz+sz)=(rows.set j row).flatten
 | [],_,_,hj=>by simp at hj
 | r::rows,0,hg,_=>by
  have:=hg r bj;subst this
  simp
 | r::rows,j+1,hg,hj=>by
  have hr0:=hg r bj;have ih:=Gg hr (rows:=rows) (j:=j) (fun x hx=>hg x (bw _ hx)) (by simpa using hj)
  simp only [bq,List.set_cons_succ];rw [←ih];have e1:(j+1)*sz=r.length+j*sz:=by rw [hr0,bN];omega
  have e2:(j+1)*sz+sz=r.length+(j*sz+sz):=by omega
  rw [e2,e1,List.take_append,dp];simp [bi,List.append_assoc]
section
variable{H:Heap}{b sz ep j:Nat}{rows:List (List FC)}{row:List FC}
theorem RB.lt(h:RB H b sz ep rows):b<H.length:=ay h
theorem RB.push(h:RB H b sz ep rows)(J:Heap):RB (H++J) b sz ep rows:=by
 unfold RB at *;rw [ae (ay h)];exact h
theorem RB.len(h:RB H b sz ep rows){o l c:Nat}:bV H (.sl b o l c ep sz)=some l:=by
 unfold RB at h;simp [bV,h]
theorem RB.idx(h:RB H b sz ep rows){n c:Nat}{k:IntKind}{i:Int}(h0:0≤i)(hi:i<n){o:Nat}:aO H sz none (.c (.sl b o n c ep sz)) (.c (.f (.int k i)))=some (.c (.ptr b (o+i.toNat*sz) ep)):=by
 unfold RB at h;simp only [aO,gW,h0,hi,if_true,h,and_self]
theorem RB.ldr(h:RB H b sz ep rows)(hg:Grid sz rows)(hj:rows[j]?=some row):ldV H (some sz) (.c (.ptr b (j*sz) ep))=some (.a (row.map .f)):=by
 unfold RB at h;have hlen:row.length=sz:=hg row (bl hj);have:=Ai (k:=0) hg hj (by omega)
 simp only [aC,h,if_true];rw [←List.map_drop];rw [Nat.add_zero]at this;rw [this]
 have h1:(row.map C.f++((rows.drop (j+1)).flatten.map C.f)).take sz=row.map C.f:=by
  rw [List.take_append_of_le_length (by simp [hlen]),bi (by simp [hlen])]
 simp [hlen]
theorem RB.str(h:RB H b sz ep rows)(hg:Grid sz rows)(hj:j<rows.length)(hr:row.length=sz) :
  ∃ H',stC H (.ptr b (j*sz) ep) (row.map .f)=some H'∧RB H' b sz ep (rows.set j row)∧Fm b H H'∧H'.length=H.length:=by
 have hl:=ji hg;have hjl:(j+1)*sz≤rows.length*sz:=ce _ hj;have hin:j*sz+sz≤rows.flatten.length:=by rw [hl];rw [bN]at hjl;omega
 unfold RB at h ⊢;refine⟨H.set b (.opn sz ((rows.set j row).flatten.map .f) 0 ep .loc),?_,?_,Fm.set _ _,by simp⟩
 ·simp only [bJ,h,Nat.zero_le,true_and,bL,hr,hin,if_true];rw [←Gg hr hg hj];simp [over,hr]
 ·exact ap (ay h)
end
theorem bnd_nat{k n:Nat}(h:k≤n):bnd (vi k) n=some k:=by
 have:(0:Int)≤k∧(k:Int)≤n:=by omega
 simp [bnd,gW,this]
theorem res_one{t:T}{H:Heap}{x:nC}{r:V}(h:bU t H x=some r):Km.results t H [x]=some r:=by
 simp [Km.results,bC,h]
@[simp] theorem aOH {t:T} {H:Heap} (sz:Nat) (zs:List FC) (x:Arg):xOp t H (.clear sz zs x)=(Aq H sz zs (x.ev t)).map (.t [],·):=rfl
@[simp] theorem aOU {a b:Int}:Qc false [vi a,vi b]=some (vi (max a b)):=by
 have:(if a<b then b else a)=max a b:=by split<;>omega
 simp only [Qc,CZ,Ot];simp [this,V.int]
end
section
open Go
section
variable{H:Heap}{b sz ep:Nat}{rows:List (List FC)}
end
end
section
open Go
section
variable{W:List FC→Prop}{c:List FC→List FC→Int}
end
end
section
open Go
def aX:C→Option Nat
 | .sl b _ _ _ _ _=>some b
 | _=>none
def LR(H:Heap)(c:C)(sz:Nat)(rows:List (List FC)):Prop:=(rows=[]∧(c=.f .au∨c=.f .es))∨(rows≠[]∧∃ b ep,c=.sl b 0 rows.length 0 ep sz∧RB H b sz ep rows)
def Kb(H H':Heap)(c:C):Prop:=H.length≤H'.length∧∀(i:Nat) y,H[i]?=some y→aX c≠some i→H'[i]?=some y
section
variable{H H':Heap}{c:C}{sz:Nat}{rows:List (List FC)}
theorem LR.nil(H:Heap)(sz:Nat):LR H (.f .au) sz []:=.inl ⟨rfl,.inl rfl⟩
theorem LR.keep(h:LR H c sz rows)(hk:∀ i y,H[i]?=some y→aX c=some i→H'[i]?=some y):LR H' c sz rows:=by
 rcases h with h | ⟨h,b,ep,rfl,h2⟩
 ·exact .inl h
 ·exact .inr ⟨h,b,ep,rfl,hk b _ h2 rfl⟩
theorem LR.push(h:LR H c sz rows)(J:Heap):LR (H++J) c sz rows:=h.keep fun i y hy _=>by rw [ae (ay hy)];exact hy
theorem LR.lt(h:LR H c sz rows){i:Nat}(hi:aX c=some i):i<H.length:=by
 rcases h with⟨_,rfl | rfl⟩ | ⟨h,b,ep,rfl,h2⟩
 ·cases hi
 ·cases hi
 ·cases hi;exact h2.lt
theorem LR.gq(h:LR H c sz rows){i:Nat}{cs:List C}{fl:Nat}(hx:H[i]?=some (.box cs fl)):aX c≠some i:=by
 rcases h with⟨_,rfl | rfl⟩ | ⟨h,b,ep,rfl,h2⟩
 ·simp [aX]
 ·simp [aX]
 ·intro e;cases e;unfold RB at h2;rw [h2]at hx;cases hx
theorem LR.set(h:LR H c sz rows){i:Nat}(hi:aX c≠some i)(x:Blk):LR (H.set i x) c sz rows:=h.keep fun j y hy hj=>by
 have:i≠j:=by rintro rfl;exact hi hj
 rw [al this];exact hy
theorem LR.len(h:LR H c sz rows):bV H c=some rows.length:=by
 rcases h with⟨rfl,rfl | rfl⟩ | ⟨h,b,ep,rfl,h2⟩
 ·rfl
 ·rfl
 ·exact h2.len
theorem LR.ex(h:LR H c sz rows)(hg:Grid sz rows)(n:Nat):∃ g,exC (n+1) H c=some (sl g rows):=by
 rcases h with⟨rfl,rfl | rfl⟩ | ⟨h,b,ep,rfl,h2⟩
 ·exact⟨.nil,rfl⟩
 ·exact⟨.es,rfl⟩
 ·refine⟨.fs,?_⟩;have hl:rows.length*sz=rows.flatten.length:=(ji hg).symm;unfold RB at h2;simp only [sZ,h2];rw [if_pos ⟨trivial,trivial,by rw [bL,Nat.zero_add,hl];exact aq _⟩,cG,bi (by rw [bL];omega),EG]
  cases rows with
  | nil=>exact absurd rfl h
  | cons x l=>simp [sl]
theorem LR.app(h:LR H c sz rows)(hg:Grid sz rows)(hsz:sz≠0){row:List FC}(hr:row.length=sz){bytes:Nat}(hroom:bK (rows.length+1) bytes=true){b1 fl1:Nat}(hb1:H[b1]?=some (.box (row.map .f) fl1)) :
  ∃ c' H',dn H sz bytes (.c c) (.c (.sl b1 0 1 1 0 sz))=some (.c c',H')∧LR H' c' sz (rows++[row])∧Kb H H' c∧(aX c'=aX c∨aX c'=some H.length):=by
 have hadd:eY H sz (.c (.sl b1 0 1 1 0 sz))=some (1,row.map .f):=sF hb1 (by simp [hr])
 rcases h with⟨rfl,he⟩ | ⟨hne,b,ep,rfl,h2⟩
 ·have hroom:bK 1 bytes=true:=by simpa using hroom
  refine⟨.sl H.length 0 1 0 0 sz,H++[.opn sz (row.map .f) 0 0 .loc],?_,.inr ⟨by simp,H.length,0,rfl,?_⟩,⟨by simp,fun i y hy _=>by rw [ae (ay hy)];exact hy⟩,.inr rfl⟩
  ·rcases he with rfl | rfl<;>simp [dn,hadd,hroom,hsz]
  ·simp [RB]
 ·have hlen:rows.length*sz=rows.flatten.length:=(ji hg).symm;unfold RB at h2;refine⟨.sl b 0 (rows.length+1) 0 (ep+1) sz,H.set b (.opn sz (rows.flatten.map .f++row.map .f) 0 (ep+1) .loc),?_,.inr ⟨by simp,b,ep+1,by simp,?_⟩,⟨by simp,fun i y hy hn=>?_⟩,.inl rfl⟩
  ·simp only [dn,hadd,hsz,if_false,h2,and_self,if_true];simp only [Nat.add_one_ne_zero,if_false];rw [if_pos ⟨trivial,by rw [bL];exact hlen,by simp⟩,hroom]
   simp
  ·unfold RB;rw [ap (ay h2)];simp
  ·have:b≠i:=by rintro rfl;exact hn rfl
   rw [al this];exact hy
theorem Kb.refl(H:Heap)(c:C):Kb H H c:=⟨aq _,fun _ _ h _=>h⟩
end
end
section
open Go
theorem Af{α:Type}{sz:Nat}:∀ {rows:List (List α)} {j:Nat} {row:List α},(∀ r ∈ rows,r.length=sz)→rows[j]?=some row→(rows.flatten.drop (j*sz)).take sz=row
 | [],j,row,_,hj=>by simp at hj
 | r::rows,0,row,hg,hj=>by
  simp at hj;subst hj;have:=hg r bj;subst this
  simp
 | r::rows,j+1,row,hg,hj=>by
  have hr:=hg r bj;have ih:=Af (rows:=rows) (j:=j) (row:=row) (fun x hx=>hg x (bw _ hx)) (by simpa using hj)
  rw [bq,show(j+1)*sz=r.length+j*sz by rw [hr,bN];omega,←List.drop_drop,List.drop_left]
  exact ih
theorem zK{α:Type}:∀ {cs:List α} {k:Nat} {x:α},k<cs.length→over cs k [x]=cs.set k x
 | [],k,x,h=>by simp at h
 | c::cs,0,x,_=>by simp [over]
 | c::cs,k+1,x,h=>by
  have:=zK (cs:=cs) (k:=k) (x:=x) (by simpa using h)
  simp only [over,bt,List.length_nil]at this ⊢;rw [List.take_succ_cons,List.set_cons_succ,←this];simp
section
variable{H:Heap}{b sz ep j k n:Nat}{rows:List (List FC)}{row:List FC}
theorem RB.ldc{x:FC}(h:RB H b sz ep rows)(hg:Grid sz rows)(hj:rows[j]?=some row)(hk:row[k]?=some x):ldV H none (.c (.ptr b (j*sz+k) ep))=some (.c (.f x)):=by
 unfold RB at h;have hlen:row.length=sz:=hg row (bl hj);have hkl:=(ab.1 hk).1;have:=flat_get hg hj (by omega:k<sz)
 simp only [aC,h,if_true];rw [List.map_drop.symm];have e:(rows.flatten.drop (j*sz+k))[0]?=some x:=by rw [List.getElem?_drop,Nat.add_zero,this,hk]
 cases hd:rows.flatten.drop (j*sz+k)with
 | nil=>rw [hd]at e;simp at e
 | cons y ys=>rw [hd]at e;simp at e;simp [aS,e]
end
def aIZ(sz:Nat)(zs:List FC)(bytes:Nat):AFunc:=⟨[P.nat 0],[.tmp (P.nat 2)],.seq (.region [⟨D 2,.mov (.k (.c (.f (.au)))),none⟩] []) (.seq (.seq (.region [⟨D 3,.mov (R 0),none⟩,⟨D 4,.eq false .sl (R 3) (.k (.c (.f (.au)))),none⟩] [])
 (.cond (R 4) (.seq (.region [⟨D 2,.mov (.k (.c (.f (.au)))),none⟩] []) .ret) .skip)) (.seq (.region [⟨D 5,.aP sz zs 0 [],none⟩,⟨D 6,.mov (R 0),none⟩,⟨D 7,.append sz bytes (R 5) (R 6),none⟩,⟨D 2,.mov (R 7),none⟩] []) .ret))⟩
section
variable{tab:Nat→Option AFunc}{F sz bytes:Nat}{zs:List FC}{H:Heap}{g:Tg}{rows:List (List FC)}
theorem Dx{cs:List FC}{n:Nat}:eqV H .sl (.c (.f (.fs cs n))) (.c (.f .au))=some false:=rfl
theorem aw2:eqV H .sl (.c (.f .au)) (.c (.f .au))=some true:=rfl
theorem aM0:eqV H .sl (.c (.f .es)) (.c (.f .au))=some false:=rfl
theorem WU(hT:tab F=some (aIZ sz zs bytes))(hsz:sz≠0)(hg:Grid sz rows)(hroom:bK rows.length bytes=true) :
  ∃ r H',Ev tab (.fn F) [.c (.f (sl g rows))] H r H'∧∃ c J,r=.c c∧H'=H++J∧LR (H++J) c sz rows∧∀ i,aX c=some i→H.length≤i:=by
 refine He (C:=fun r H'=>∃ c J,r=.c c∧H'=H++J∧LR (H++J) c sz rows∧∀ i,aX c=some i→H.length≤i) hT rfl fun Q hQ=>?_
 refine kw_seq (kw_region (.inl rfl) ?_);simp;refine kw_seq ?_;refine kw_seq (kw_region (.inl rfl) ?_)
 cases rows with
 | nil=>
  cases g with
  | nil=>
   simp [sl,Tg.fc,aw2];refine ak (by simp) ?_
   refine kw_seq (kw_region (.inl rfl) ?_);simp
   exact aQ (hQ _ _ (.c (.f .au)) rfl (by simp [Km.results,bC]) ⟨_,[],rfl,by simp,.inl ⟨rfl,.inl rfl⟩,by simp [aX]⟩)
  | es=>
   simp [sl,Tg.fc,aM0];refine ah (by simp) (aW ?_)
   refine kw_seq (kw_region (.inl rfl) ?_);simp [dn,eY,bV,dF,hsz]
   exact aQ (hQ _ _ (.c (.f .es)) rfl (by simp [Km.results,bC]) ⟨_,[],rfl,by simp,.inl ⟨rfl,.inr rfl⟩,by simp [aX]⟩)
  | fs=>
   simp [sl,Tg.fc,Dx];refine ah (by simp) (aW ?_)
   refine kw_seq (kw_region (.inl rfl) ?_);simp [dn,eY,bV,dF,hsz]
   exact aQ (hQ _ _ (.c (.f .es)) rfl (by simp [Km.results,bC]) ⟨_,[],rfl,by simp,.inl ⟨rfl,.inr rfl⟩,by simp [aX]⟩)
 | cons x r=>
  have hadd:eY H sz (.c (.f (.fs (x::r).flatten (x::r).length)))=some ((x::r).length,(x::r).flatten.map .f):=by
   have h1:=WX (H:=H) (g:=.fs) hg;have h2:=VY (H:=H) .fs (x::r);simp only [sl,dg,aw,if_false]at h1 h2;simp only [eY,h1,h2]
  have hroom':bK (r.length+1) bytes=true:=by simpa using hroom
  simp only [sl,dg,aw,if_false];simp [Dx];refine ah (by simp) (aW ?_)
  refine kw_seq (kw_region (.inl rfl) ?_);simp only [bq,bt]at hadd;simp [dn,hadd,hsz,hroom'];refine aQ (hQ _ _ (.c (.sl H.length 0 (r.length+1) 0 0 sz)) rfl (by simp [Km.results,bC]) ⟨_,[.opn sz ((x::r).flatten.map .f) 0 0 .loc],rfl,by simp,.inr ⟨by simp,H.length,0,rfl,by simp [RB]⟩,by simp [aX]⟩)
end
end
section
open Go
end
section
set_option linter.unusedVariables false
open Go
abbrev yn(d:Nat)(op:AOp):AOper:=⟨D d,op,none⟩
abbrev ym(d k:Nat):AOper:=⟨D d,.mov (R k),none⟩
abbrev yi(n:Int):Arg:=.k (.c (.f (.int .i64 n)))
abbrev yt:Arg:=.k (.c (.f (.bool true)))
abbrev yf:Arg:=.k (.c (.f (.bool false)))
abbrev ys(z a b:Nat):AOper:=⟨none,.store z (R a) (R b),none⟩
abbrev yb(d:Nat)(o:BinOp)(a b:Nat):AOper:=⟨D d,.bin o (R a) (R b),none⟩
abbrev ya(d z a b:Nat):AOper:=⟨D d,.aT z none (R a) (R b),none⟩
abbrev yl(d z a:Nat):AOper:=⟨D d,.load (some z) (R a),none⟩
abbrev yr(l:List AOper):ACode:=.region l []
structure Srt where
 pdq:Nat
 ins:Nat
 heap:Nat
 sift:Nat
 brk:Nat
 piv:Nat
 rev:Nat
 part:Nat
 peq:Nat
 pins:Nat
 aIb:Nat
 med:Nat
 ord:Nat
 npt:Nat
 nxt:Nat
 len:Nat
 aTi:Nat
 aTj:Nat
 rot:Nat
 swr:Nat
def aLg(σ:Srt)(sz:Nat):ACode:=yr [yn 10 (.mov yt)]
def aLe(σ:Srt)(sz:Nat):ACode:=yr [yn 11 (.mov yt)]
def aK9(σ:Srt)(sz:Nat):ACode:=yr [ym 21 2,ym 22 1,yb 23 .sub 21 22,ym 12 23]
def aHC(σ:Srt)(sz:Nat):ACode:=yr [ym 24 12,yn 25 (.bin .leq (R 24) (yi 12))]
def aHz(σ:Srt)(sz:Nat):ACode:=yr [ym 26 0,ym 27 1,ym 28 2,ym 29 4,yn 30 (.call σ.ins [R 26,R 27,R 28,R 29] true)]
def aHA(σ:Srt)(sz:Nat):ACode:=.seq (aHz σ sz) .ret
def aHB(σ:Srt)(sz:Nat):ACode:=.cond (R 25) (aHA σ sz) .skip
def aHD(σ:Srt)(sz:Nat):ACode:=.seq (aHC σ sz) (aHB σ sz)
def aHw(σ:Srt)(sz:Nat):ACode:=yr [ym 31 3,yn 32 (.bin .eql (R 31) (yi 0))]
def aHt(σ:Srt)(sz:Nat):ACode:=yr [ym 33 0,ym 34 1,ym 35 2,ym 36 4,yn 37 (.call σ.heap [R 33,R 34,R 35,R 36] true)]
def aHu(σ:Srt)(sz:Nat):ACode:=.seq (aHt σ sz) .ret
def aHv(σ:Srt)(sz:Nat):ACode:=.cond (R 32) (aHu σ sz) .skip
def aHx(σ:Srt)(sz:Nat):ACode:=.seq (aHw σ sz) (aHv σ sz)
def aHq(σ:Srt)(sz:Nat):ACode:=yr [ym 38 10,yn 39 (.un .not (R 38))]
def aHn(σ:Srt)(sz:Nat):ACode:=yr [ym 40 0,ym 41 1,ym 42 2,ym 43 4,yn 44 (.call σ.brk [R 40,R 41,R 42,R 43] true)]
def aHm(σ:Srt)(sz:Nat):ACode:=yr [ym 45 3,yn 46 (.bin .sub (R 45) (yi 1)),ym 3 46]
def aHo(σ:Srt)(sz:Nat):ACode:=.seq (aHn σ sz) (aHm σ sz)
def aHp(σ:Srt)(sz:Nat):ACode:=.cond (R 39) (aHo σ sz) .skip
def aHr(σ:Srt)(sz:Nat):ACode:=.seq (aHq σ sz) (aHp σ sz)
def aHk(σ:Srt)(sz:Nat):ACode:=yr [ym 48 0,ym 49 1,ym 50 2,ym 51 4,yn 52 (.call σ.piv [R 48,R 49,R 50,R 51] true),ym 47 52,yn 53 (.extract (R 47) 0),yn 54 (.extract (R 47) 1),ym 13 53,ym 14 54]
def aHh(σ:Srt)(sz:Nat):ACode:=yr [ym 55 14,yn 56 (.bin .eql (R 55) (yi 2))]
def aHe(σ:Srt)(sz:Nat):ACode:=yr [ym 57 0,ym 58 1,ym 59 2,ym 60 4,yn 61 (.call σ.rev [R 57,R 58,R 59,R 60] true)]
def aHc(σ:Srt)(sz:Nat):ACode:=yr [ym 62 2,yn 63 (.bin .sub (R 62) (yi 1)),ym 64 13,ym 65 1,yb 66 .sub 64 65,yb 67 .sub 63 66,ym 13 67]
def aHb(σ:Srt)(sz:Nat):ACode:=yr [yn 14 (.mov (yi 1))]
def aHd(σ:Srt)(sz:Nat):ACode:=.seq (aHc σ sz) (aHb σ sz)
def aHf(σ:Srt)(sz:Nat):ACode:=.seq (aHe σ sz) (aHd σ sz)
def aHg(σ:Srt)(sz:Nat):ACode:=.cond (R 56) (aHf σ sz) .skip
def aHi(σ:Srt)(sz:Nat):ACode:=.seq (aHh σ sz) (aHg σ sz)
def aG8(σ:Srt)(sz:Nat):ACode:=yr [ym 68 10,ym 69 68,⟨D 70,.mov (R 11),G 69 true⟩,yn 71 (.pick (R 69) (R 70) yf),ym 72 71,⟨D 73,.mov (R 14),G 72 true⟩,⟨D 74,.bin .eql (R 73) (yi 1),G 72 true⟩,yn 75 (.pick (R 72) (R 74) yf)]
def aG5(σ:Srt)(sz:Nat):ACode:=yr [ym 76 0,ym 77 1,ym 78 2,ym 79 4,yn 80 (.call σ.pins [R 76,R 77,R 78,R 79] true)]
def aG4(σ:Srt)(sz:Nat):ACode:=.cond (R 80) .ret .skip
def aG6(σ:Srt)(sz:Nat):ACode:=.seq (aG5 σ sz) (aG4 σ sz)
def aG7(σ:Srt)(sz:Nat):ACode:=.cond (R 75) (aG6 σ sz) .skip
def aG9(σ:Srt)(sz:Nat):ACode:=.seq (aG8 σ sz) (aG7 σ sz)
def aG1(σ:Srt)(sz:Nat):ACode:=yr [ym 81 1,yn 82 (.bin .gtr (R 81) (yi 0)),ym 83 82,⟨D 84,.mov (R 4),G 83 true⟩,⟨D 85,.mov (R 0),G 83 true⟩,⟨D 86,.mov (R 1),G 83 true⟩,⟨D 87,.bin .sub (R 86) (yi 1),G 83 true⟩,⟨D 88,.aT sz none (R 85) (R 87),G 83 true⟩,⟨D 89,.load (some sz) (R 88),G 83 true⟩,⟨D 90,.mov (R 0),G 83 true⟩,⟨D 91,.mov (R 13),G 83 true⟩,⟨D 92,.aT sz none (R 90) (R 91),G 83 true⟩,⟨D 93,.load (some sz) (R 92),G 83 true⟩,⟨D 94,.bW (R 84) [R 89,R 93] true,G 83 true⟩,⟨D 95,.bin .lss (R 94) (yi 0),G 83 true⟩,⟨D 96,.un .not (R 95),G 83 true⟩,yn 97 (.pick (R 83) (R 96) yf)]
def aGY(σ:Srt)(sz:Nat):ACode:=yr [ym 98 0,ym 99 1,ym 100 2,ym 101 13,ym 102 4,yn 103 (.call σ.peq [R 98,R 99,R 100,R 101,R 102] true),ym 15 103]
def aGW(σ:Srt)(sz:Nat):ACode:=yr [ym 104 15,ym 1 104]
def aGX(σ:Srt)(sz:Nat):ACode:=.seq (aGW σ sz) (.exit 1)
def aGZ(σ:Srt)(sz:Nat):ACode:=.seq (aGY σ sz) (aGX σ sz)
def aG0(σ:Srt)(sz:Nat):ACode:=.cond (R 97) (aGZ σ sz) .skip
def aG2(σ:Srt)(sz:Nat):ACode:=.seq (aG1 σ sz) (aG0 σ sz)
def aGU(σ:Srt)(sz:Nat):ACode:=yr [ym 106 0,ym 107 1,ym 108 2,ym 109 13,ym 110 4,yn 111 (.call σ.part [R 106,R 107,R 108,R 109,R 110] true),ym 105 111,yn 112 (.extract (R 105) 0),yn 113 (.extract (R 105) 1),ym 16 112,ym 17 113]
def aGS(σ:Srt)(sz:Nat):ACode:=yr [ym 114 17,ym 11 114]
def aGQ(σ:Srt)(sz:Nat):ACode:=yr [ym 115 16,ym 116 1,yb 117 .sub 115 116,ym 118 2,ym 119 16,yb 120 .sub 118 119,ym 18 117,ym 19 120]
def aGO(σ:Srt)(sz:Nat):ACode:=yr [ym 121 12,yn 122 (.bin .quo (R 121) (yi 8)),ym 20 122]
def aGM(σ:Srt)(sz:Nat):ACode:=yr [ym 123 18,ym 124 19,yb 125 .lss 123 124]
def aGJ(σ:Srt)(sz:Nat):ACode:=yr [ym 126 18,ym 127 20,yb 128 .geq 126 127,ym 10 128]
def aGH(σ:Srt)(sz:Nat):ACode:=yr [ym 129 0,ym 130 1,ym 131 16,ym 132 3,ym 133 4,yn 134 (.call σ.pdq [R 129,R 130,R 131,R 132,R 133] true)]
def aGG(σ:Srt)(sz:Nat):ACode:=yr [ym 135 16,yn 136 (.bin .add (R 135) (yi 1)),ym 1 136]
def aGI(σ:Srt)(sz:Nat):ACode:=.seq (aGH σ sz) (aGG σ sz)
def aGK(σ:Srt)(sz:Nat):ACode:=.seq (aGJ σ sz) (aGI σ sz)
def aGE(σ:Srt)(sz:Nat):ACode:=yr [ym 137 19,ym 138 20,yb 139 .geq 137 138,ym 10 139]
def aGC(σ:Srt)(sz:Nat):ACode:=yr [ym 140 0,ym 141 16,yn 142 (.bin .add (R 141) (yi 1)),ym 143 2,ym 144 3,ym 145 4,yn 146 (.call σ.pdq [R 140,R 142,R 143,R 144,R 145] true)]
def aGB(σ:Srt)(sz:Nat):ACode:=yr [ym 147 16,ym 2 147]
def aGD(σ:Srt)(sz:Nat):ACode:=.seq (aGC σ sz) (aGB σ sz)
def aGF(σ:Srt)(sz:Nat):ACode:=.seq (aGE σ sz) (aGD σ sz)
def aGL(σ:Srt)(sz:Nat):ACode:=.cond (R 125) (aGK σ sz) (aGF σ sz)
def aGN(σ:Srt)(sz:Nat):ACode:=.seq (aGM σ sz) (aGL σ sz)
def aGP(σ:Srt)(sz:Nat):ACode:=.seq (aGO σ sz) (aGN σ sz)
def aGR(σ:Srt)(sz:Nat):ACode:=.seq (aGQ σ sz) (aGP σ sz)
def aGT(σ:Srt)(sz:Nat):ACode:=.seq (aGS σ sz) (aGR σ sz)
def aGV(σ:Srt)(sz:Nat):ACode:=.seq (aGU σ sz) (aGT σ sz)
def aG3(σ:Srt)(sz:Nat):ACode:=.seq (aG2 σ sz) (aGV σ sz)
def aHa(σ:Srt)(sz:Nat):ACode:=.seq (aG9 σ sz) (aG3 σ sz)
def aHj(σ:Srt)(sz:Nat):ACode:=.seq (aHi σ sz) (aHa σ sz)
def aHl(σ:Srt)(sz:Nat):ACode:=.seq (aHk σ sz) (aHj σ sz)
def aHs(σ:Srt)(sz:Nat):ACode:=.seq (aHr σ sz) (aHl σ sz)
def aHy(σ:Srt)(sz:Nat):ACode:=.seq (aHx σ sz) (aHs σ sz)
def aK8(σ:Srt)(sz:Nat):ACode:=.seq (aHD σ sz) (aHy σ sz)
def aLa(σ:Srt)(sz:Nat):ACode:=.seq (aK9 σ sz) (aK8 σ sz)
def aLb(σ:Srt)(sz:Nat):ACode:=.block 1 (aLa σ sz)
def aLc(σ:Srt)(sz:Nat):ACode:=.loop (aLb σ sz)
def aLd(σ:Srt)(sz:Nat):ACode:=.block 0 (aLc σ sz)
def aLf(σ:Srt)(sz:Nat):ACode:=.seq (aLe σ sz) (aLd σ sz)
def aLh(σ:Srt)(sz:Nat):ACode:=.seq (aLg σ sz) (aLf σ sz)
def aSp(σ:Srt)(sz:Nat):AFunc:=⟨[P.nat 0,P.nat 1,P.nat 2,P.nat 3,P.nat 4],[],(aLh σ sz)⟩
def aMv(σ:Srt)(sz:Nat):ACode:=yr [ym 10 1,yn 11 (.bin .add (R 10) (yi 1)),ym 8 11]
def aMq(σ:Srt)(sz:Nat):ACode:=yr [ym 12 8,ym 13 2,yb 14 .lss 12 13]
def aMp(σ:Srt)(sz:Nat):ACode:=.cond (R 14) .skip (.exit 0)
def aMr(σ:Srt)(sz:Nat):ACode:=.seq (aMq σ sz) (aMp σ sz)
def aIy(σ:Srt)(sz:Nat):ACode:=yr [ym 17 8,ym 9 17]
def aIt(σ:Srt)(sz:Nat):ACode:=yr [ym 18 9,ym 19 1,yb 20 .gtr 18 19,ym 21 20,⟨D 22,.mov (R 3),G 21 true⟩,⟨D 23,.mov (R 0),G 21 true⟩,⟨D 24,.mov (R 9),G 21 true⟩,⟨D 25,.aT sz none (R 23) (R 24),G 21 true⟩,⟨D 26,.load (some sz) (R 25),G 21 true⟩,⟨D 27,.mov (R 0),G 21 true⟩,⟨D 28,.mov (R 9),G 21 true⟩,⟨D 29,.bin .sub (R 28) (yi 1),G 21 true⟩,⟨D 30,.aT sz none (R 27) (R 29),G 21 true⟩,⟨D 31,.load (some sz) (R 30),G 21 true⟩,⟨D 32,.bW (R 22) [R 26,R 31] true,G 21 true⟩,⟨D 33,.bin .lss (R 32) (yi 0),G 21 true⟩,yn 34 (.pick (R 21) (R 33) yf)]
def aIs(σ:Srt)(sz:Nat):ACode:=.cond (R 34) .skip (.exit 2)
def aIu(σ:Srt)(sz:Nat):ACode:=.seq (aIt σ sz) (aIs σ sz)
def aIp(σ:Srt)(sz:Nat):ACode:=yr [ym 37 0,ym 38 9,ym 39 0,ym 40 9,yn 41 (.bin .sub (R 40) (yi 1)),ym 42 0,ym 43 9,yn 44 (.bin .sub (R 43) (yi 1)),ya 45 sz 42 44,yl 46 sz 45,ym 47 0,ym 48 9,ya 49 sz 47 48,yl 50 sz 49,ya 51 sz 37 38,ys sz 51 46,ya 52 sz 39 41,ys sz 52 50]
def aIq(σ:Srt)(sz:Nat):ACode:=.block 3 (aIp σ sz)
def aIo(σ:Srt)(sz:Nat):ACode:=yr [ym 35 9,yn 36 (.bin .sub (R 35) (yi 1)),ym 9 36]
def aIr(σ:Srt)(sz:Nat):ACode:=.seq (aIq σ sz) (aIo σ sz)
def aIv(σ:Srt)(sz:Nat):ACode:=.seq (aIu σ sz) (aIr σ sz)
def aIw(σ:Srt)(sz:Nat):ACode:=.loop (aIv σ sz)
def aIx(σ:Srt)(sz:Nat):ACode:=.block 2 (aIw σ sz)
def aIz(σ:Srt)(sz:Nat):ACode:=.seq (aIy σ sz) (aIx σ sz)
def aMn(σ:Srt)(sz:Nat):ACode:=.block 1 (aIz σ sz)
def aIn(σ:Srt)(sz:Nat):ACode:=yr [ym 15 8,yn 16 (.bin .add (R 15) (yi 1)),ym 8 16]
def aMo(σ:Srt)(sz:Nat):ACode:=.seq (aMn σ sz) (aIn σ sz)
def aMs(σ:Srt)(sz:Nat):ACode:=.seq (aMr σ sz) (aMo σ sz)
def aMt(σ:Srt)(sz:Nat):ACode:=.loop (aMs σ sz)
def aMu(σ:Srt)(sz:Nat):ACode:=.block 0 (aMt σ sz)
def aMw(σ:Srt)(sz:Nat):ACode:=.seq (aMv σ sz) (aMu σ sz)
def aSu(σ:Srt)(sz:Nat):AFunc:=⟨[P.nat 0,P.nat 1,P.nat 2,P.nat 3],[],(aMw σ sz)⟩
def aIR(σ:Srt)(sz:Nat):ACode:=yr [ym 13 1,ym 8 13]
def aIP(σ:Srt)(sz:Nat):ACode:=yr [yn 9 (.mov (yi 0))]
def aIN(σ:Srt)(sz:Nat):ACode:=yr [ym 14 2,ym 15 1,yb 16 .sub 14 15,ym 10 16]
def aIK(σ:Srt)(sz:Nat):ACode:=yr [ym 17 10,yn 18 (.bin .sub (R 17) (yi 1)),yn 19 (.bin .quo (R 18) (yi 2)),ym 11 19]
def awR(σ:Srt)(sz:Nat):ACode:=yr [ym 20 11,yn 21 (.bin .geq (R 20) (yi 0))]
def awQ(σ:Srt)(sz:Nat):ACode:=.cond (R 21) .skip (.exit 0)
def awS(σ:Srt)(sz:Nat):ACode:=.seq (awR σ sz) (awQ σ sz)
def awN(σ:Srt)(sz:Nat):ACode:=yr [ym 24 0,ym 25 11,ym 26 10,ym 27 8,ym 28 3,yn 29 (.call σ.sift [R 24,R 25,R 26,R 27,R 28] true)]
def awO(σ:Srt)(sz:Nat):ACode:=.block 1 (awN σ sz)
def awM(σ:Srt)(sz:Nat):ACode:=yr [ym 22 11,yn 23 (.bin .sub (R 22) (yi 1)),ym 11 23]
def awP(σ:Srt)(sz:Nat):ACode:=.seq (awO σ sz) (awM σ sz)
def awT(σ:Srt)(sz:Nat):ACode:=.seq (awS σ sz) (awP σ sz)
def awU(σ:Srt)(sz:Nat):ACode:=.loop (awT σ sz)
def aIJ(σ:Srt)(sz:Nat):ACode:=.block 0 (awU σ sz)
def aIL(σ:Srt)(sz:Nat):ACode:=.seq (aIK σ sz) (aIJ σ sz)
def awK(σ:Srt)(sz:Nat):ACode:=yr [ym 30 10,yn 31 (.bin .sub (R 30) (yi 1)),ym 12 31]
def awF(σ:Srt)(sz:Nat):ACode:=yr [ym 32 12,yn 33 (.bin .geq (R 32) (yi 0))]
def awE(σ:Srt)(sz:Nat):ACode:=.cond (R 33) .skip (.exit 2)
def awG(σ:Srt)(sz:Nat):ACode:=.seq (awF σ sz) (awE σ sz)
def awy(σ:Srt)(sz:Nat):ACode:=yr [ym 36 0,ym 37 8,ym 38 0,ym 39 8,ym 40 12,yb 41 .add 39 40,ym 42 0,ym 43 8,ym 44 12,yb 45 .add 43 44,ya 46 sz 42 45,yl 47 sz 46,ym 48 0,ym 49 8,ya 50 sz 48 49,yl 51 sz 50,ya 52 sz 36 37,ys sz 52 47,ya 53 sz 38 41,ys sz 53 51]
def awx(σ:Srt)(sz:Nat):ACode:=yr [ym 54 0,ym 55 9,ym 56 12,ym 57 8,ym 58 3,yn 59 (.call σ.sift [R 54,R 55,R 56,R 57,R 58] true)]
def awz(σ:Srt)(sz:Nat):ACode:=.seq (awy σ sz) (awx σ sz)
def awC(σ:Srt)(sz:Nat):ACode:=.block 3 (awz σ sz)
def aww(σ:Srt)(sz:Nat):ACode:=yr [ym 34 12,yn 35 (.bin .sub (R 34) (yi 1)),ym 12 35]
def awD(σ:Srt)(sz:Nat):ACode:=.seq (awC σ sz) (aww σ sz)
def awH(σ:Srt)(sz:Nat):ACode:=.seq (awG σ sz) (awD σ sz)
def awI(σ:Srt)(sz:Nat):ACode:=.loop (awH σ sz)
def awJ(σ:Srt)(sz:Nat):ACode:=.block 2 (awI σ sz)
def awL(σ:Srt)(sz:Nat):ACode:=.seq (awK σ sz) (awJ σ sz)
def aIM(σ:Srt)(sz:Nat):ACode:=.seq (aIL σ sz) (awL σ sz)
def aIO(σ:Srt)(sz:Nat):ACode:=.seq (aIN σ sz) (aIM σ sz)
def aIQ(σ:Srt)(sz:Nat):ACode:=.seq (aIP σ sz) (aIO σ sz)
def aIS(σ:Srt)(sz:Nat):ACode:=.seq (aIR σ sz) (aIQ σ sz)
def aQ5(σ:Srt)(sz:Nat):AFunc:=⟨[P.nat 0,P.nat 1,P.nat 2,P.nat 3],[],(aIS σ sz)⟩
def aEE(σ:Srt)(sz:Nat):ACode:=yr [ym 12 1,ym 10 12]
def aEz(σ:Srt)(sz:Nat):ACode:=yr [ym 13 10,yn 14 (.bin .mul (yi 2) (R 13)),yn 15 (.bin .add (R 14) (yi 1)),ym 11 15]
def aEw(σ:Srt)(sz:Nat):ACode:=yr [ym 16 11,ym 17 2,yb 18 .geq 16 17]
def asN(σ:Srt)(sz:Nat):ACode:=.cond (R 18) (.exit 0) .skip
def aEx(σ:Srt)(sz:Nat):ACode:=.seq (aEw σ sz) (asN σ sz)
def asK(σ:Srt)(sz:Nat):ACode:=yr [ym 19 11,yn 20 (.bin .add (R 19) (yi 1)),ym 21 2,yb 22 .lss 20 21,ym 23 22,⟨D 24,.mov (R 4),G 23 true⟩,⟨D 25,.mov (R 0),G 23 true⟩,⟨D 26,.mov (R 3),G 23 true⟩,⟨D 27,.mov (R 11),G 23 true⟩,⟨D 28,.bin .add (R 26) (R 27),G 23 true⟩,⟨D 29,.aT sz none (R 25) (R 28),G 23 true⟩,⟨D 30,.load (some sz) (R 29),G 23 true⟩,⟨D 31,.mov (R 0),G 23 true⟩,⟨D 32,.mov (R 3),G 23 true⟩,⟨D 33,.mov (R 11),G 23 true⟩,⟨D 34,.bin .add (R 32) (R 33),G 23 true⟩,⟨D 35,.bin .add (R 34) (yi 1),G 23 true⟩,⟨D 36,.aT sz none (R 31) (R 35),G 23 true⟩,⟨D 37,.load (some sz) (R 36),G 23 true⟩,⟨D 38,.bW (R 24) [R 30,R 37] true,G 23 true⟩,⟨D 39,.bin .lss (R 38) (yi 0),G 23 true⟩,yn 40 (.pick (R 23) (R 39) yf)]
def asI(σ:Srt)(sz:Nat):ACode:=yr [ym 41 11,yn 42 (.bin .add (R 41) (yi 1)),ym 11 42]
def asJ(σ:Srt)(sz:Nat):ACode:=.cond (R 40) (asI σ sz) .skip
def asL(σ:Srt)(sz:Nat):ACode:=.seq (asK σ sz) (asJ σ sz)
def asF(σ:Srt)(sz:Nat):ACode:=yr [ym 43 4,ym 44 0,ym 45 3,ym 46 10,yb 47 .add 45 46,ya 48 sz 44 47,yl 49 sz 48,ym 50 0,ym 51 3,ym 52 11,yb 53 .add 51 52,ya 54 sz 50 53,yl 55 sz 54,yn 56 (.bW (R 43) [R 49,R 55] true),yn 57 (.bin .lss (R 56) (yi 0)),yn 58 (.un .not (R 57))]
def asE(σ:Srt)(sz:Nat):ACode:=.cond (R 58) .ret .skip
def asG(σ:Srt)(sz:Nat):ACode:=.seq (asF σ sz) (asE σ sz)
def asC(σ:Srt)(sz:Nat):ACode:=yr [ym 59 0,ym 60 3,ym 61 10,yb 62 .add 60 61,ym 63 0,ym 64 3,ym 65 11,yb 66 .add 64 65,ym 67 0,ym 68 3,ym 69 11,yb 70 .add 68 69,ya 71 sz 67 70,yl 72 sz 71,ym 73 0,ym 74 3,ym 75 10,yb 76 .add 74 75,ya 77 sz 73 76,yl 78 sz 77,ya 79 sz 59 62,ys sz 79 72,ya 80 sz 63 66,ys sz 80 78]
def asB(σ:Srt)(sz:Nat):ACode:=yr [ym 81 11,ym 10 81]
def asD(σ:Srt)(sz:Nat):ACode:=.seq (asC σ sz) (asB σ sz)
def asH(σ:Srt)(sz:Nat):ACode:=.seq (asG σ sz) (asD σ sz)
def asM(σ:Srt)(sz:Nat):ACode:=.seq (asL σ sz) (asH σ sz)
def aEy(σ:Srt)(sz:Nat):ACode:=.seq (aEx σ sz) (asM σ sz)
def aEA(σ:Srt)(sz:Nat):ACode:=.seq (aEz σ sz) (aEy σ sz)
def aEB(σ:Srt)(sz:Nat):ACode:=.block 1 (aEA σ sz)
def aEC(σ:Srt)(sz:Nat):ACode:=.loop (aEB σ sz)
def aED(σ:Srt)(sz:Nat):ACode:=.block 0 (aEC σ sz)
def aEF(σ:Srt)(sz:Nat):ACode:=.seq (aEE σ sz) (aED σ sz)
def aQg(σ:Srt)(sz:Nat):AFunc:=⟨[P.nat 0,P.nat 1,P.nat 2,P.nat 3,P.nat 4],[],(aEF σ sz)⟩
def aNf(σ:Srt)(sz:Nat):ACode:=yr [ym 13 2,ym 14 1,yb 15 .sub 13 14,ym 8 15]
def aNd(σ:Srt)(sz:Nat):ACode:=yr [ym 16 8,yn 17 (.bin .geq (R 16) (yi 8))]
def aNa(σ:Srt)(sz:Nat):ACode:=yr [ym 18 8,yn 19 (.cvi .u64 (R 18)),yn 9 (.alloc [(.int .u64 0)]),ys 1 9 19]
def aM8(σ:Srt)(sz:Nat):ACode:=yr [ym 20 8,yn 21 (.call σ.npt [R 20] false),ym 10 21]
def aJn(σ:Srt)(sz:Nat):ACode:=yr [ym 22 1,ym 23 8,yn 24 (.bin .quo (R 23) (yi 4)),yn 25 (.bin .mul (R 24) (yi 2)),yb 26 .add 22 25,yn 27 (.bin .sub (R 26) (yi 1)),ym 11 27]
def aJi(σ:Srt)(sz:Nat):ACode:=yr [ym 28 11,ym 29 1,ym 30 8,yn 31 (.bin .quo (R 30) (yi 4)),yn 32 (.bin .mul (R 31) (yi 2)),yb 33 .add 29 32,yn 34 (.bin .add (R 33) (yi 1)),yb 35 .leq 28 34]
def aJh(σ:Srt)(sz:Nat):ACode:=.cond (R 35) .skip (.exit 0)
def aJj(σ:Srt)(sz:Nat):ACode:=.seq (aJi σ sz) (aJh σ sz)
def aJd(σ:Srt)(sz:Nat):ACode:=yr [yn 38 (.call σ.nxt [R 9] true),ym 39 10,yn 40 (.bin .sub (R 39) (.k (.c (.f (.int .u64 1))))),yb 41 .and 38 40,yn 42 (.cvi .i64 (R 41)),ym 12 42]
def aJa(σ:Srt)(sz:Nat):ACode:=yr [ym 43 12,ym 44 8,yb 45 .geq 43 44]
def aI8(σ:Srt)(sz:Nat):ACode:=yr [ym 46 12,ym 47 8,yb 48 .sub 46 47,ym 12 48]
def aI9(σ:Srt)(sz:Nat):ACode:=.cond (R 45) (aI8 σ sz) .skip
def aJb(σ:Srt)(sz:Nat):ACode:=.seq (aJa σ sz) (aI9 σ sz)
def aI7(σ:Srt)(sz:Nat):ACode:=yr [ym 49 0,ym 50 11,ym 51 0,ym 52 1,ym 53 12,yb 54 .add 52 53,ym 55 0,ym 56 1,ym 57 12,yb 58 .add 56 57,ya 59 sz 55 58,yl 60 sz 59,ym 61 0,ym 62 11,ya 63 sz 61 62,yl 64 sz 63,ya 65 sz 49 50,ys sz 65 60,ya 66 sz 51 54,ys sz 66 64]
def aJc(σ:Srt)(sz:Nat):ACode:=.seq (aJb σ sz) (aI7 σ sz)
def aJe(σ:Srt)(sz:Nat):ACode:=.seq (aJd σ sz) (aJc σ sz)
def aJf(σ:Srt)(sz:Nat):ACode:=.block 1 (aJe σ sz)
def aI6(σ:Srt)(sz:Nat):ACode:=yr [ym 36 11,yn 37 (.bin .add (R 36) (yi 1)),ym 11 37]
def aJg(σ:Srt)(sz:Nat):ACode:=.seq (aJf σ sz) (aI6 σ sz)
def aJk(σ:Srt)(sz:Nat):ACode:=.seq (aJj σ sz) (aJg σ sz)
def aJl(σ:Srt)(sz:Nat):ACode:=.loop (aJk σ sz)
def aJm(σ:Srt)(sz:Nat):ACode:=.block 0 (aJl σ sz)
def aM7(σ:Srt)(sz:Nat):ACode:=.seq (aJn σ sz) (aJm σ sz)
def aM9(σ:Srt)(sz:Nat):ACode:=.seq (aM8 σ sz) (aM7 σ sz)
def aNb(σ:Srt)(sz:Nat):ACode:=.seq (aNa σ sz) (aM9 σ sz)
def aNc(σ:Srt)(sz:Nat):ACode:=.cond (R 17) (aNb σ sz) .skip
def aNe(σ:Srt)(sz:Nat):ACode:=.seq (aNd σ sz) (aNc σ sz)
def aNg(σ:Srt)(sz:Nat):ACode:=.seq (aNf σ sz) (aNe σ sz)
def aSA(σ:Srt)(sz:Nat):AFunc:=⟨[P.nat 0,P.nat 1,P.nat 2,P.nat 3],[],(aNg σ sz)⟩
def aKV(σ:Srt)(sz:Nat):ACode:=yr [yn 8 (.mov (yi 0)),yn 9 (.mov (yi 0))]
def aKT(σ:Srt)(sz:Nat):ACode:=yr [ym 15 2,ym 16 1,yb 17 .sub 15 16,ym 10 17]
def aKR(σ:Srt)(sz:Nat):ACode:=yr [yn 11 (.alloc [(.int .i64 0)])]
def aKP(σ:Srt)(sz:Nat):ACode:=yr [ym 18 1,ym 19 10,yn 20 (.bin .quo (R 19) (yi 4)),yn 21 (.bin .mul (R 20) (yi 1)),yb 22 .add 18 21,ym 12 22]
def aKN(σ:Srt)(sz:Nat):ACode:=yr [ym 23 1,ym 24 10,yn 25 (.bin .quo (R 24) (yi 4)),yn 26 (.bin .mul (R 25) (yi 2)),yb 27 .add 23 26,ym 13 27]
def aFW(σ:Srt)(sz:Nat):ACode:=yr [ym 28 1,ym 29 10,yn 30 (.bin .quo (R 29) (yi 4)),yn 31 (.bin .mul (R 30) (yi 3)),yb 32 .add 28 31,ym 14 32]
def aFT(σ:Srt)(sz:Nat):ACode:=yr [ym 33 10,yn 34 (.bin .geq (R 33) (yi 8))]
def aFP(σ:Srt)(sz:Nat):ACode:=yr [ym 35 10,yn 36 (.bin .geq (R 35) (yi 50))]
def aFM(σ:Srt)(sz:Nat):ACode:=yr [ym 37 0,ym 38 12,ym 39 3,yn 40 (.call σ.aIb [R 37,R 38,R 11,R 39] true),ym 12 40]
def aFK(σ:Srt)(sz:Nat):ACode:=yr [ym 41 0,ym 42 13,ym 43 3,yn 44 (.call σ.aIb [R 41,R 42,R 11,R 43] true),ym 13 44]
def aFJ(σ:Srt)(sz:Nat):ACode:=yr [ym 45 0,ym 46 14,ym 47 3,yn 48 (.call σ.aIb [R 45,R 46,R 11,R 47] true),ym 14 48]
def aFL(σ:Srt)(sz:Nat):ACode:=.seq (aFK σ sz) (aFJ σ sz)
def aFN(σ:Srt)(sz:Nat):ACode:=.seq (aFM σ sz) (aFL σ sz)
def aFO(σ:Srt)(sz:Nat):ACode:=.cond (R 36) (aFN σ sz) .skip
def aFQ(σ:Srt)(sz:Nat):ACode:=.seq (aFP σ sz) (aFO σ sz)
def aFI(σ:Srt)(sz:Nat):ACode:=yr [ym 49 0,ym 50 12,ym 51 13,ym 52 14,ym 53 3,yn 54 (.call σ.med [R 49,R 50,R 51,R 52,R 11,R 53] true),ym 13 54]
def aFR(σ:Srt)(sz:Nat):ACode:=.seq (aFQ σ sz) (aFI σ sz)
def aFS(σ:Srt)(sz:Nat):ACode:=.cond (R 34) (aFR σ sz) .skip
def aFU(σ:Srt)(sz:Nat):ACode:=.seq (aFT σ sz) (aFS σ sz)
def aFG(σ:Srt)(sz:Nat):ACode:=yr [yn 55 (.load none (R 11))]
def aFD(σ:Srt)(sz:Nat):ACode:=yr [yn 58 (.bin .eql (R 55) (yi 0)),ym 57 58]
def aFA(σ:Srt)(sz:Nat):ACode:=yr [ym 59 13,ym 8 59,yn 9 (.mov (yi 1))]
def aFB(σ:Srt)(sz:Nat):ACode:=.seq (aFA σ sz) .ret
def aFy(σ:Srt)(sz:Nat):ACode:=yr [yn 61 (.bin .eql (R 55) (yi 12)),ym 60 61]
def aFv(σ:Srt)(sz:Nat):ACode:=yr [ym 62 13,ym 8 62,yn 9 (.mov (yi 2))]
def aFw(σ:Srt)(sz:Nat):ACode:=.seq (aFv σ sz) .ret
def aFt(σ:Srt)(sz:Nat):ACode:=yr [ym 56 13,ym 8 56,yn 9 (.mov (yi 0))]
def aFu(σ:Srt)(sz:Nat):ACode:=.seq (aFt σ sz) .ret
def aFx(σ:Srt)(sz:Nat):ACode:=.cond (R 60) (aFw σ sz) (aFu σ sz)
def aFz(σ:Srt)(sz:Nat):ACode:=.seq (aFy σ sz) (aFx σ sz)
def aFC(σ:Srt)(sz:Nat):ACode:=.cond (R 57) (aFB σ sz) (aFz σ sz)
def aFE(σ:Srt)(sz:Nat):ACode:=.seq (aFD σ sz) (aFC σ sz)
def aFF(σ:Srt)(sz:Nat):ACode:=.block 0 (aFE σ sz)
def aFH(σ:Srt)(sz:Nat):ACode:=.seq (aFG σ sz) (aFF σ sz)
def aFV(σ:Srt)(sz:Nat):ACode:=.seq (aFU σ sz) (aFH σ sz)
def aFX(σ:Srt)(sz:Nat):ACode:=.seq (aFW σ sz) (aFV σ sz)
def aKO(σ:Srt)(sz:Nat):ACode:=.seq (aKN σ sz) (aFX σ sz)
def aKQ(σ:Srt)(sz:Nat):ACode:=.seq (aKP σ sz) (aKO σ sz)
def aKS(σ:Srt)(sz:Nat):ACode:=.seq (aKR σ sz) (aKQ σ sz)
def aKU(σ:Srt)(sz:Nat):ACode:=.seq (aKT σ sz) (aKS σ sz)
def aKW(σ:Srt)(sz:Nat):ACode:=.seq (aKV σ sz) (aKU σ sz)
def aSm(σ:Srt)(sz:Nat):AFunc:=⟨[P.nat 0,P.nat 1,P.nat 2,P.nat 3],[.tmp (P.nat 8),.tmp (P.nat 9)],(aKW σ sz)⟩
def aKD(σ:Srt)(sz:Nat):ACode:=yr [ym 10 1,ym 8 10]
def aKB(σ:Srt)(sz:Nat):ACode:=yr [ym 11 2,yn 12 (.bin .sub (R 11) (yi 1)),ym 9 12]
def aKw(σ:Srt)(sz:Nat):ACode:=yr [ym 13 8,ym 14 9,yb 15 .lss 13 14]
def aKv(σ:Srt)(sz:Nat):ACode:=.cond (R 15) .skip (.exit 0)
def aKx(σ:Srt)(sz:Nat):ACode:=.seq (aKw σ sz) (aKv σ sz)
def aEN(σ:Srt)(sz:Nat):ACode:=yr [ym 16 0,ym 17 8,ym 18 0,ym 19 9,ym 20 0,ym 21 9,ya 22 sz 20 21,yl 23 sz 22,ym 24 0,ym 25 8,ya 26 sz 24 25,yl 27 sz 26,ya 28 sz 16 17,ys sz 28 23,ya 29 sz 18 19,ys sz 29 27]
def aEL(σ:Srt)(sz:Nat):ACode:=yr [ym 30 8,yn 31 (.bin .add (R 30) (yi 1)),ym 8 31]
def aEK(σ:Srt)(sz:Nat):ACode:=yr [ym 32 9,yn 33 (.bin .sub (R 32) (yi 1)),ym 9 33]
def aEM(σ:Srt)(sz:Nat):ACode:=.seq (aEL σ sz) (aEK σ sz)
def aEO(σ:Srt)(sz:Nat):ACode:=.seq (aEN σ sz) (aEM σ sz)
def aEP(σ:Srt)(sz:Nat):ACode:=.block 1 (aEO σ sz)
def aKy(σ:Srt)(sz:Nat):ACode:=.seq (aKx σ sz) (aEP σ sz)
def aKz(σ:Srt)(sz:Nat):ACode:=.loop (aKy σ sz)
def aKA(σ:Srt)(sz:Nat):ACode:=.block 0 (aKz σ sz)
def aKC(σ:Srt)(sz:Nat):ACode:=.seq (aKB σ sz) (aKA σ sz)
def aKE(σ:Srt)(sz:Nat):ACode:=.seq (aKD σ sz) (aKC σ sz)
def aSk(σ:Srt)(sz:Nat):AFunc:=⟨[P.nat 0,P.nat 1,P.nat 2,P.nat 3],[],(aKE σ sz)⟩
def aHN(σ:Srt)(sz:Nat):ACode:=yr [yn 10 (.mov (yi 0)),yn 11 (.mov yf)]
def aHL(σ:Srt)(sz:Nat):ACode:=yr [ym 14 0,ym 15 1,ym 16 0,ym 17 3,ym 18 0,ym 19 3,ya 20 sz 18 19,yl 21 sz 20,ym 22 0,ym 23 1,ya 24 sz 22 23,yl 25 sz 24,ya 26 sz 14 15,ys sz 26 21,ya 27 sz 16 17,ys sz 27 25]
def aHJ(σ:Srt)(sz:Nat):ACode:=yr [ym 28 1,yn 29 (.bin .add (R 28) (yi 1)),ym 30 2,yn 31 (.bin .sub (R 30) (yi 1)),ym 12 29,ym 13 31]
def avA(σ:Srt)(sz:Nat):ACode:=yr [ym 32 12,ym 33 13,yb 34 .leq 32 33,ym 35 34,⟨D 36,.mov (R 4),G 35 true⟩,⟨D 37,.mov (R 0),G 35 true⟩,⟨D 38,.mov (R 12),G 35 true⟩,⟨D 39,.aT sz none (R 37) (R 38),G 35 true⟩,⟨D 40,.load (some sz) (R 39),G 35 true⟩,⟨D 41,.mov (R 0),G 35 true⟩,⟨D 42,.mov (R 1),G 35 true⟩,⟨D 43,.aT sz none (R 41) (R 42),G 35 true⟩,⟨D 44,.load (some sz) (R 43),G 35 true⟩,⟨D 45,.bW (R 36) [R 40,R 44] true,G 35 true⟩,⟨D 46,.bin .lss (R 45) (yi 0),G 35 true⟩,yn 47 (.pick (R 35) (R 46) yf)]
def avz(σ:Srt)(sz:Nat):ACode:=.cond (R 47) .skip (.exit 0)
def avC(σ:Srt)(sz:Nat):ACode:=.seq (avA σ sz) (avz σ sz)
def avx(σ:Srt)(sz:Nat):ACode:=yr [ym 48 12,yn 49 (.bin .add (R 48) (yi 1)),ym 12 49]
def avy(σ:Srt)(sz:Nat):ACode:=.block 1 (avx σ sz)
def aHF(σ:Srt)(sz:Nat):ACode:=.seq (avC σ sz) (avy σ sz)
def aHG(σ:Srt)(sz:Nat):ACode:=.loop (aHF σ sz)
def aHH(σ:Srt)(sz:Nat):ACode:=.block 0 (aHG σ sz)
def avr(σ:Srt)(sz:Nat):ACode:=yr [ym 50 12,ym 51 13,yb 52 .leq 50 51,ym 53 52,⟨D 54,.mov (R 4),G 53 true⟩,⟨D 55,.mov (R 0),G 53 true⟩,⟨D 56,.mov (R 13),G 53 true⟩,⟨D 57,.aT sz none (R 55) (R 56),G 53 true⟩,⟨D 58,.load (some sz) (R 57),G 53 true⟩,⟨D 59,.mov (R 0),G 53 true⟩,⟨D 60,.mov (R 1),G 53 true⟩,⟨D 61,.aT sz none (R 59) (R 60),G 53 true⟩,⟨D 62,.load (some sz) (R 61),G 53 true⟩,⟨D 63,.bW (R 54) [R 58,R 62] true,G 53 true⟩,⟨D 64,.bin .lss (R 63) (yi 0),G 53 true⟩,⟨D 65,.un .not (R 64),G 53 true⟩,yn 66 (.pick (R 53) (R 65) yf)]
def avq(σ:Srt)(sz:Nat):ACode:=.cond (R 66) .skip (.exit 2)
def avs(σ:Srt)(sz:Nat):ACode:=.seq (avr σ sz) (avq σ sz)
def avo(σ:Srt)(sz:Nat):ACode:=yr [ym 67 13,yn 68 (.bin .sub (R 67) (yi 1)),ym 13 68]
def avp(σ:Srt)(sz:Nat):ACode:=.block 3 (avo σ sz)
def avt(σ:Srt)(sz:Nat):ACode:=.seq (avs σ sz) (avp σ sz)
def avu(σ:Srt)(sz:Nat):ACode:=.loop (avt σ sz)
def avv(σ:Srt)(sz:Nat):ACode:=.block 2 (avu σ sz)
def avl(σ:Srt)(sz:Nat):ACode:=yr [ym 69 12,ym 70 13,yb 71 .gtr 69 70]
def avi(σ:Srt)(sz:Nat):ACode:=yr [ym 72 0,ym 73 13,ym 74 0,ym 75 1,ym 76 0,ym 77 1,ya 78 sz 76 77,yl 79 sz 78,ym 80 0,ym 81 13,ya 82 sz 80 81,yl 83 sz 82,ya 84 sz 72 73,ys sz 84 79,ya 85 sz 74 75,ys sz 85 83]
def avg(σ:Srt)(sz:Nat):ACode:=yr [ym 86 13,ym 10 86,yn 11 (.mov yt)]
def avh(σ:Srt)(sz:Nat):ACode:=.seq (avg σ sz) .ret
def avj(σ:Srt)(sz:Nat):ACode:=.seq (avi σ sz) (avh σ sz)
def avk(σ:Srt)(sz:Nat):ACode:=.cond (R 71) (avj σ sz) .skip
def avm(σ:Srt)(sz:Nat):ACode:=.seq (avl σ sz) (avk σ sz)
def ave(σ:Srt)(sz:Nat):ACode:=yr [ym 87 0,ym 88 12,ym 89 0,ym 90 13,ym 91 0,ym 92 13,ya 93 sz 91 92,yl 94 sz 93,ym 95 0,ym 96 12,ya 97 sz 95 96,yl 98 sz 97,ya 99 sz 87 88,ys sz 99 94,ya 100 sz 89 90,ys sz 100 98]
def avc(σ:Srt)(sz:Nat):ACode:=yr [ym 101 12,yn 102 (.bin .add (R 101) (yi 1)),ym 12 102]
def ava(σ:Srt)(sz:Nat):ACode:=yr [ym 103 13,yn 104 (.bin .sub (R 103) (yi 1)),ym 13 104]
def au0(σ:Srt)(sz:Nat):ACode:=yr [ym 105 12,ym 106 13,yb 107 .leq 105 106,ym 108 107,⟨D 109,.mov (R 4),G 108 true⟩,⟨D 110,.mov (R 0),G 108 true⟩,⟨D 111,.mov (R 12),G 108 true⟩,⟨D 112,.aT sz none (R 110) (R 111),G 108 true⟩,⟨D 113,.load (some sz) (R 112),G 108 true⟩,⟨D 114,.mov (R 0),G 108 true⟩,⟨D 115,.mov (R 1),G 108 true⟩,⟨D 116,.aT sz none (R 114) (R 115),G 108 true⟩,⟨D 117,.load (some sz) (R 116),G 108 true⟩,⟨D 118,.bW (R 109) [R 113,R 117] true,G 108 true⟩,⟨D 119,.bin .lss (R 118) (yi 0),G 108 true⟩,yn 120 (.pick (R 108) (R 119) yf)]
def auZ(σ:Srt)(sz:Nat):ACode:=.cond (R 120) .skip (.exit 6)
def au1(σ:Srt)(sz:Nat):ACode:=.seq (au0 σ sz) (auZ σ sz)
def auX(σ:Srt)(sz:Nat):ACode:=yr [ym 121 12,yn 122 (.bin .add (R 121) (yi 1)),ym 12 122]
def auY(σ:Srt)(sz:Nat):ACode:=.block 7 (auX σ sz)
def au2(σ:Srt)(sz:Nat):ACode:=.seq (au1 σ sz) (auY σ sz)
def au3(σ:Srt)(sz:Nat):ACode:=.loop (au2 σ sz)
def au4(σ:Srt)(sz:Nat):ACode:=.block 6 (au3 σ sz)
def auR(σ:Srt)(sz:Nat):ACode:=yr [ym 123 12,ym 124 13,yb 125 .leq 123 124,ym 126 125,⟨D 127,.mov (R 4),G 126 true⟩,⟨D 128,.mov (R 0),G 126 true⟩,⟨D 129,.mov (R 13),G 126 true⟩,⟨D 130,.aT sz none (R 128) (R 129),G 126 true⟩,⟨D 131,.load (some sz) (R 130),G 126 true⟩,⟨D 132,.mov (R 0),G 126 true⟩,⟨D 133,.mov (R 1),G 126 true⟩,⟨D 134,.aT sz none (R 132) (R 133),G 126 true⟩,⟨D 135,.load (some sz) (R 134),G 126 true⟩,⟨D 136,.bW (R 127) [R 131,R 135] true,G 126 true⟩,⟨D 137,.bin .lss (R 136) (yi 0),G 126 true⟩,⟨D 138,.un .not (R 137),G 126 true⟩,yn 139 (.pick (R 126) (R 138) yf)]
def auQ(σ:Srt)(sz:Nat):ACode:=.cond (R 139) .skip (.exit 8)
def auS(σ:Srt)(sz:Nat):ACode:=.seq (auR σ sz) (auQ σ sz)
def auO(σ:Srt)(sz:Nat):ACode:=yr [ym 140 13,yn 141 (.bin .sub (R 140) (yi 1)),ym 13 141]
def auP(σ:Srt)(sz:Nat):ACode:=.block 9 (auO σ sz)
def auT(σ:Srt)(sz:Nat):ACode:=.seq (auS σ sz) (auP σ sz)
def auU(σ:Srt)(sz:Nat):ACode:=.loop (auT σ sz)
def auV(σ:Srt)(sz:Nat):ACode:=.block 8 (auU σ sz)
def auL(σ:Srt)(sz:Nat):ACode:=yr [ym 142 12,ym 143 13,yb 144 .gtr 142 143]
def auK(σ:Srt)(sz:Nat):ACode:=.cond (R 144) (.exit 4) .skip
def auM(σ:Srt)(sz:Nat):ACode:=.seq (auL σ sz) (auK σ sz)
def auI(σ:Srt)(sz:Nat):ACode:=yr [ym 145 0,ym 146 12,ym 147 0,ym 148 13,ym 149 0,ym 150 13,ya 151 sz 149 150,yl 152 sz 151,ym 153 0,ym 154 12,ya 155 sz 153 154,yl 156 sz 155,ya 157 sz 145 146,ys sz 157 152,ya 158 sz 147 148,ys sz 158 156]
def auG(σ:Srt)(sz:Nat):ACode:=yr [ym 159 12,yn 160 (.bin .add (R 159) (yi 1)),ym 12 160]
def auF(σ:Srt)(sz:Nat):ACode:=yr [ym 161 13,yn 162 (.bin .sub (R 161) (yi 1)),ym 13 162]
def auH(σ:Srt)(sz:Nat):ACode:=.seq (auG σ sz) (auF σ sz)
def auJ(σ:Srt)(sz:Nat):ACode:=.seq (auI σ sz) (auH σ sz)
def auN(σ:Srt)(sz:Nat):ACode:=.seq (auM σ sz) (auJ σ sz)
def auW(σ:Srt)(sz:Nat):ACode:=.seq (auV σ sz) (auN σ sz)
def au5(σ:Srt)(sz:Nat):ACode:=.seq (au4 σ sz) (auW σ sz)
def au6(σ:Srt)(sz:Nat):ACode:=.block 5 (au5 σ sz)
def au7(σ:Srt)(sz:Nat):ACode:=.loop (au6 σ sz)
def au8(σ:Srt)(sz:Nat):ACode:=.block 4 (au7 σ sz)
def auD(σ:Srt)(sz:Nat):ACode:=yr [ym 163 0,ym 164 13,ym 165 0,ym 166 1,ym 167 0,ym 168 1,ya 169 sz 167 168,yl 170 sz 169,ym 171 0,ym 172 13,ya 173 sz 171 172,yl 174 sz 173,ya 175 sz 163 164,ys sz 175 170,ya 176 sz 165 166,ys sz 176 174]
def auB(σ:Srt)(sz:Nat):ACode:=yr [ym 177 13,ym 10 177,yn 11 (.mov yf)]
def auC(σ:Srt)(sz:Nat):ACode:=.seq (auB σ sz) .ret
def auE(σ:Srt)(sz:Nat):ACode:=.seq (auD σ sz) (auC σ sz)
def au9(σ:Srt)(sz:Nat):ACode:=.seq (au8 σ sz) (auE σ sz)
def avb(σ:Srt)(sz:Nat):ACode:=.seq (ava σ sz) (au9 σ sz)
def avd(σ:Srt)(sz:Nat):ACode:=.seq (avc σ sz) (avb σ sz)
def avf(σ:Srt)(sz:Nat):ACode:=.seq (ave σ sz) (avd σ sz)
def avn(σ:Srt)(sz:Nat):ACode:=.seq (avm σ sz) (avf σ sz)
def avw(σ:Srt)(sz:Nat):ACode:=.seq (avv σ sz) (avn σ sz)
def aHI(σ:Srt)(sz:Nat):ACode:=.seq (aHH σ sz) (avw σ sz)
def aHK(σ:Srt)(sz:Nat):ACode:=.seq (aHJ σ sz) (aHI σ sz)
def aHM(σ:Srt)(sz:Nat):ACode:=.seq (aHL σ sz) (aHK σ sz)
def aHO(σ:Srt)(sz:Nat):ACode:=.seq (aHN σ sz) (aHM σ sz)
def aQy(σ:Srt)(sz:Nat):AFunc:=⟨[P.nat 0,P.nat 1,P.nat 2,P.nat 3,P.nat 4],[.tmp (P.nat 10),.tmp (P.nat 11)],(aHO σ sz)⟩
def aK6(σ:Srt)(sz:Nat):ACode:=yr [yn 10 (.mov (yi 0))]
def aK4(σ:Srt)(sz:Nat):ACode:=yr [ym 13 0,ym 14 1,ym 15 0,ym 16 3,ym 17 0,ym 18 3,ya 19 sz 17 18,yl 20 sz 19,ym 21 0,ym 22 1,ya 23 sz 21 22,yl 24 sz 23,ya 25 sz 13 14,ys sz 25 20,ya 26 sz 15 16,ys sz 26 24]
def aK2(σ:Srt)(sz:Nat):ACode:=yr [ym 27 1,yn 28 (.bin .add (R 27) (yi 1)),ym 29 2,yn 30 (.bin .sub (R 29) (yi 1)),ym 11 28,ym 12 30]
def aGv(σ:Srt)(sz:Nat):ACode:=yr [ym 31 11,ym 32 12,yb 33 .leq 31 32,ym 34 33,⟨D 35,.mov (R 4),G 34 true⟩,⟨D 36,.mov (R 0),G 34 true⟩,⟨D 37,.mov (R 1),G 34 true⟩,⟨D 38,.aT sz none (R 36) (R 37),G 34 true⟩,⟨D 39,.load (some sz) (R 38),G 34 true⟩,⟨D 40,.mov (R 0),G 34 true⟩,⟨D 41,.mov (R 11),G 34 true⟩,⟨D 42,.aT sz none (R 40) (R 41),G 34 true⟩,⟨D 43,.load (some sz) (R 42),G 34 true⟩,⟨D 44,.bW (R 35) [R 39,R 43] true,G 34 true⟩,⟨D 45,.bin .lss (R 44) (yi 0),G 34 true⟩,⟨D 46,.un .not (R 45),G 34 true⟩,yn 47 (.pick (R 34) (R 46) yf)]
def aGu(σ:Srt)(sz:Nat):ACode:=.cond (R 47) .skip (.exit 2)
def aGw(σ:Srt)(sz:Nat):ACode:=.seq (aGv σ sz) (aGu σ sz)
def aGs(σ:Srt)(sz:Nat):ACode:=yr [ym 48 11,yn 49 (.bin .add (R 48) (yi 1)),ym 11 49]
def aGt(σ:Srt)(sz:Nat):ACode:=.block 3 (aGs σ sz)
def aGx(σ:Srt)(sz:Nat):ACode:=.seq (aGw σ sz) (aGt σ sz)
def aGy(σ:Srt)(sz:Nat):ACode:=.loop (aGx σ sz)
def aGz(σ:Srt)(sz:Nat):ACode:=.block 2 (aGy σ sz)
def aGm(σ:Srt)(sz:Nat):ACode:=yr [ym 50 11,ym 51 12,yb 52 .leq 50 51,ym 53 52,⟨D 54,.mov (R 4),G 53 true⟩,⟨D 55,.mov (R 0),G 53 true⟩,⟨D 56,.mov (R 1),G 53 true⟩,⟨D 57,.aT sz none (R 55) (R 56),G 53 true⟩,⟨D 58,.load (some sz) (R 57),G 53 true⟩,⟨D 59,.mov (R 0),G 53 true⟩,⟨D 60,.mov (R 12),G 53 true⟩,⟨D 61,.aT sz none (R 59) (R 60),G 53 true⟩,⟨D 62,.load (some sz) (R 61),G 53 true⟩,⟨D 63,.bW (R 54) [R 58,R 62] true,G 53 true⟩,⟨D 64,.bin .lss (R 63) (yi 0),G 53 true⟩,yn 65 (.pick (R 53) (R 64) yf)]
def aGl(σ:Srt)(sz:Nat):ACode:=.cond (R 65) .skip (.exit 4)
def aGn(σ:Srt)(sz:Nat):ACode:=.seq (aGm σ sz) (aGl σ sz)
def aGj(σ:Srt)(sz:Nat):ACode:=yr [ym 66 12,yn 67 (.bin .sub (R 66) (yi 1)),ym 12 67]
def aGk(σ:Srt)(sz:Nat):ACode:=.block 5 (aGj σ sz)
def aGo(σ:Srt)(sz:Nat):ACode:=.seq (aGn σ sz) (aGk σ sz)
def aGp(σ:Srt)(sz:Nat):ACode:=.loop (aGo σ sz)
def aGq(σ:Srt)(sz:Nat):ACode:=.block 4 (aGp σ sz)
def aGg(σ:Srt)(sz:Nat):ACode:=yr [ym 68 11,ym 69 12,yb 70 .gtr 68 69]
def aGf(σ:Srt)(sz:Nat):ACode:=.cond (R 70) (.exit 0) .skip
def aGh(σ:Srt)(sz:Nat):ACode:=.seq (aGg σ sz) (aGf σ sz)
def aGd(σ:Srt)(sz:Nat):ACode:=yr [ym 71 0,ym 72 11,ym 73 0,ym 74 12,ym 75 0,ym 76 12,ya 77 sz 75 76,yl 78 sz 77,ym 79 0,ym 80 11,ya 81 sz 79 80,yl 82 sz 81,ya 83 sz 71 72,ys sz 83 78,ya 84 sz 73 74,ys sz 84 82]
def aGb(σ:Srt)(sz:Nat):ACode:=yr [ym 85 11,yn 86 (.bin .add (R 85) (yi 1)),ym 11 86]
def aGa(σ:Srt)(sz:Nat):ACode:=yr [ym 87 12,yn 88 (.bin .sub (R 87) (yi 1)),ym 12 88]
def aGc(σ:Srt)(sz:Nat):ACode:=.seq (aGb σ sz) (aGa σ sz)
def aGe(σ:Srt)(sz:Nat):ACode:=.seq (aGd σ sz) (aGc σ sz)
def aGi(σ:Srt)(sz:Nat):ACode:=.seq (aGh σ sz) (aGe σ sz)
def aGr(σ:Srt)(sz:Nat):ACode:=.seq (aGq σ sz) (aGi σ sz)
def aGA(σ:Srt)(sz:Nat):ACode:=.seq (aGz σ sz) (aGr σ sz)
def aKX(σ:Srt)(sz:Nat):ACode:=.block 1 (aGA σ sz)
def aKY(σ:Srt)(sz:Nat):ACode:=.loop (aKX σ sz)
def aKZ(σ:Srt)(sz:Nat):ACode:=.block 0 (aKY σ sz)
def aF8(σ:Srt)(sz:Nat):ACode:=yr [ym 89 11,ym 10 89]
def aF9(σ:Srt)(sz:Nat):ACode:=.seq (aF8 σ sz) .ret
def aK1(σ:Srt)(sz:Nat):ACode:=.seq (aKZ σ sz) (aF9 σ sz)
def aK3(σ:Srt)(sz:Nat):ACode:=.seq (aK2 σ sz) (aK1 σ sz)
def aK5(σ:Srt)(sz:Nat):ACode:=.seq (aK4 σ sz) (aK3 σ sz)
def aK7(σ:Srt)(sz:Nat):ACode:=.seq (aK6 σ sz) (aK5 σ sz)
def aSn(σ:Srt)(sz:Nat):AFunc:=⟨[P.nat 0,P.nat 1,P.nat 2,P.nat 3,P.nat 4],[.tmp (P.nat 10)],(aK7 σ sz)⟩
def aF6(σ:Srt)(sz:Nat):ACode:=yr [yn 8 (.mov yf)]
def aF4(σ:Srt)(sz:Nat):ACode:=yr [ym 13 1,yn 14 (.bin .add (R 13) (yi 1)),ym 9 14]
def aF1(σ:Srt)(sz:Nat):ACode:=yr [yn 10 (.mov (yi 0))]
def auy(σ:Srt)(sz:Nat):ACode:=yr [ym 15 10,yn 16 (.bin .lss (R 15) (yi 5))]
def auw(σ:Srt)(sz:Nat):ACode:=.cond (R 16) .skip (.exit 0)
def auz(σ:Srt)(sz:Nat):ACode:=.seq (auy σ sz) (auw σ sz)
def auo(σ:Srt)(sz:Nat):ACode:=yr [ym 19 9,ym 20 2,yb 21 .lss 19 20,ym 22 21,⟨D 23,.mov (R 3),G 22 true⟩,⟨D 24,.mov (R 0),G 22 true⟩,⟨D 25,.mov (R 9),G 22 true⟩,⟨D 26,.aT sz none (R 24) (R 25),G 22 true⟩,⟨D 27,.load (some sz) (R 26),G 22 true⟩,⟨D 28,.mov (R 0),G 22 true⟩,⟨D 29,.mov (R 9),G 22 true⟩,⟨D 30,.bin .sub (R 29) (yi 1),G 22 true⟩,⟨D 31,.aT sz none (R 28) (R 30),G 22 true⟩,⟨D 32,.load (some sz) (R 31),G 22 true⟩,⟨D 33,.bW (R 23) [R 27,R 32] true,G 22 true⟩,⟨D 34,.bin .lss (R 33) (yi 0),G 22 true⟩,⟨D 35,.un .not (R 34),G 22 true⟩,yn 36 (.pick (R 22) (R 35) yf)]
def aun(σ:Srt)(sz:Nat):ACode:=.cond (R 36) .skip (.exit 2)
def aup(σ:Srt)(sz:Nat):ACode:=.seq (auo σ sz) (aun σ sz)
def aul(σ:Srt)(sz:Nat):ACode:=yr [ym 37 9,yn 38 (.bin .add (R 37) (yi 1)),ym 9 38]
def aum(σ:Srt)(sz:Nat):ACode:=.block 3 (aul σ sz)
def auq(σ:Srt)(sz:Nat):ACode:=.seq (aup σ sz) (aum σ sz)
def aur(σ:Srt)(sz:Nat):ACode:=.loop (auq σ sz)
def aus(σ:Srt)(sz:Nat):ACode:=.block 2 (aur σ sz)
def aui(σ:Srt)(sz:Nat):ACode:=yr [ym 39 9,ym 40 2,yb 41 .eql 39 40]
def auf(σ:Srt)(sz:Nat):ACode:=yr [yn 8 (.mov yt)]
def aug(σ:Srt)(sz:Nat):ACode:=.seq (auf σ sz) .ret
def auh(σ:Srt)(sz:Nat):ACode:=.cond (R 41) (aug σ sz) .skip
def auj(σ:Srt)(sz:Nat):ACode:=.seq (aui σ sz) (auh σ sz)
def auc(σ:Srt)(sz:Nat):ACode:=yr [ym 42 2,ym 43 1,yb 44 .sub 42 43,yn 45 (.bin .lss (R 44) (yi 50))]
def at7(σ:Srt)(sz:Nat):ACode:=yr [yn 8 (.mov yf)]
def aua(σ:Srt)(sz:Nat):ACode:=.seq (at7 σ sz) .ret
def aub(σ:Srt)(sz:Nat):ACode:=.cond (R 45) (aua σ sz) .skip
def aud(σ:Srt)(sz:Nat):ACode:=.seq (auc σ sz) (aub σ sz)
def at1(σ:Srt)(sz:Nat):ACode:=yr [ym 46 0,ym 47 9,ym 48 0,ym 49 9,yn 50 (.bin .sub (R 49) (yi 1)),ym 51 0,ym 52 9,yn 53 (.bin .sub (R 52) (yi 1)),ya 54 sz 51 53,yl 55 sz 54,ym 56 0,ym 57 9,ya 58 sz 56 57,yl 59 sz 58,ya 60 sz 46 47,ys sz 60 55,ya 61 sz 48 50,ys sz 61 59]
def atX(σ:Srt)(sz:Nat):ACode:=yr [ym 62 9,ym 63 1,yb 64 .sub 62 63,yn 65 (.bin .geq (R 64) (yi 2))]
def atU(σ:Srt)(sz:Nat):ACode:=yr [ym 66 9,yn 67 (.bin .sub (R 66) (yi 1)),ym 11 67]
def atO(σ:Srt)(sz:Nat):ACode:=yr [ym 68 11,yn 69 (.bin .geq (R 68) (yi 1))]
def atN(σ:Srt)(sz:Nat):ACode:=.cond (R 69) .skip (.exit 4)
def atP(σ:Srt)(sz:Nat):ACode:=.seq (atO σ sz) (atN σ sz)
def atI(σ:Srt)(sz:Nat):ACode:=yr [ym 72 3,ym 73 0,ym 74 11,ya 75 sz 73 74,yl 76 sz 75,ym 77 0,ym 78 11,yn 79 (.bin .sub (R 78) (yi 1)),ya 80 sz 77 79,yl 81 sz 80,yn 82 (.bW (R 72) [R 76,R 81] true),yn 83 (.bin .lss (R 82) (yi 0)),yn 84 (.un .not (R 83))]
def atH(σ:Srt)(sz:Nat):ACode:=.cond (R 84) (.exit 4) .skip
def atJ(σ:Srt)(sz:Nat):ACode:=.seq (atI σ sz) (atH σ sz)
def atG(σ:Srt)(sz:Nat):ACode:=yr [ym 85 0,ym 86 11,ym 87 0,ym 88 11,yn 89 (.bin .sub (R 88) (yi 1)),ym 90 0,ym 91 11,yn 92 (.bin .sub (R 91) (yi 1)),ya 93 sz 90 92,yl 94 sz 93,ym 95 0,ym 96 11,ya 97 sz 95 96,yl 98 sz 97,ya 99 sz 85 86,ys sz 99 94,ya 100 sz 87 89,ys sz 100 98]
def atK(σ:Srt)(sz:Nat):ACode:=.seq (atJ σ sz) (atG σ sz)
def atL(σ:Srt)(sz:Nat):ACode:=.block 5 (atK σ sz)
def atF(σ:Srt)(sz:Nat):ACode:=yr [ym 70 11,yn 71 (.bin .sub (R 70) (yi 1)),ym 11 71]
def atM(σ:Srt)(sz:Nat):ACode:=.seq (atL σ sz) (atF σ sz)
def atQ(σ:Srt)(sz:Nat):ACode:=.seq (atP σ sz) (atM σ sz)
def atS(σ:Srt)(sz:Nat):ACode:=.loop (atQ σ sz)
def atT(σ:Srt)(sz:Nat):ACode:=.block 4 (atS σ sz)
def atV(σ:Srt)(sz:Nat):ACode:=.seq (atU σ sz) (atT σ sz)
def atW(σ:Srt)(sz:Nat):ACode:=.cond (R 65) (atV σ sz) .skip
def atY(σ:Srt)(sz:Nat):ACode:=.seq (atX σ sz) (atW σ sz)
def atD(σ:Srt)(sz:Nat):ACode:=yr [ym 101 2,ym 102 9,yb 103 .sub 101 102,yn 104 (.bin .geq (R 103) (yi 2))]
def atA(σ:Srt)(sz:Nat):ACode:=yr [ym 105 9,yn 106 (.bin .add (R 105) (yi 1)),ym 12 106]
def atv(σ:Srt)(sz:Nat):ACode:=yr [ym 107 12,ym 108 2,yb 109 .lss 107 108]
def atu(σ:Srt)(sz:Nat):ACode:=.cond (R 109) .skip (.exit 6)
def atw(σ:Srt)(sz:Nat):ACode:=.seq (atv σ sz) (atu σ sz)
def ato(σ:Srt)(sz:Nat):ACode:=yr [ym 112 3,ym 113 0,ym 114 12,ya 115 sz 113 114,yl 116 sz 115,ym 117 0,ym 118 12,yn 119 (.bin .sub (R 118) (yi 1)),ya 120 sz 117 119,yl 121 sz 120,yn 122 (.bW (R 112) [R 116,R 121] true),yn 123 (.bin .lss (R 122) (yi 0)),yn 124 (.un .not (R 123))]
def atn(σ:Srt)(sz:Nat):ACode:=.cond (R 124) (.exit 6) .skip
def atp(σ:Srt)(sz:Nat):ACode:=.seq (ato σ sz) (atn σ sz)
def atm(σ:Srt)(sz:Nat):ACode:=yr [ym 125 0,ym 126 12,ym 127 0,ym 128 12,yn 129 (.bin .sub (R 128) (yi 1)),ym 130 0,ym 131 12,yn 132 (.bin .sub (R 131) (yi 1)),ya 133 sz 130 132,yl 134 sz 133,ym 135 0,ym 136 12,ya 137 sz 135 136,yl 138 sz 137,ya 139 sz 125 126,ys sz 139 134,ya 140 sz 127 129,ys sz 140 138]
def atq(σ:Srt)(sz:Nat):ACode:=.seq (atp σ sz) (atm σ sz)
def atr(σ:Srt)(sz:Nat):ACode:=.block 7 (atq σ sz)
def atl(σ:Srt)(sz:Nat):ACode:=yr [ym 110 12,yn 111 (.bin .add (R 110) (yi 1)),ym 12 111]
def att(σ:Srt)(sz:Nat):ACode:=.seq (atr σ sz) (atl σ sz)
def atx(σ:Srt)(sz:Nat):ACode:=.seq (atw σ sz) (att σ sz)
def aty(σ:Srt)(sz:Nat):ACode:=.loop (atx σ sz)
def atz(σ:Srt)(sz:Nat):ACode:=.block 6 (aty σ sz)
def atB(σ:Srt)(sz:Nat):ACode:=.seq (atA σ sz) (atz σ sz)
def atC(σ:Srt)(sz:Nat):ACode:=.cond (R 104) (atB σ sz) .skip
def atE(σ:Srt)(sz:Nat):ACode:=.seq (atD σ sz) (atC σ sz)
def atZ(σ:Srt)(sz:Nat):ACode:=.seq (atY σ sz) (atE σ sz)
def at6(σ:Srt)(sz:Nat):ACode:=.seq (at1 σ sz) (atZ σ sz)
def aue(σ:Srt)(sz:Nat):ACode:=.seq (aud σ sz) (at6 σ sz)
def auk(σ:Srt)(sz:Nat):ACode:=.seq (auj σ sz) (aue σ sz)
def aut(σ:Srt)(sz:Nat):ACode:=.seq (aus σ sz) (auk σ sz)
def auu(σ:Srt)(sz:Nat):ACode:=.block 1 (aut σ sz)
def atj(σ:Srt)(sz:Nat):ACode:=yr [ym 17 10,yn 18 (.bin .add (R 17) (yi 1)),ym 10 18]
def auv(σ:Srt)(sz:Nat):ACode:=.seq (auu σ sz) (atj σ sz)
def aFY(σ:Srt)(sz:Nat):ACode:=.seq (auz σ sz) (auv σ sz)
def aFZ(σ:Srt)(sz:Nat):ACode:=.loop (aFY σ sz)
def aF0(σ:Srt)(sz:Nat):ACode:=.block 0 (aFZ σ sz)
def aF2(σ:Srt)(sz:Nat):ACode:=.seq (aF1 σ sz) (aF0 σ sz)
def ath(σ:Srt)(sz:Nat):ACode:=yr [yn 8 (.mov yf)]
def ati(σ:Srt)(sz:Nat):ACode:=.seq (ath σ sz) .ret
def aF3(σ:Srt)(sz:Nat):ACode:=.seq (aF2 σ sz) (ati σ sz)
def aF5(σ:Srt)(sz:Nat):ACode:=.seq (aF4 σ sz) (aF3 σ sz)
def aF7(σ:Srt)(sz:Nat):ACode:=.seq (aF6 σ sz) (aF5 σ sz)
def aQx(σ:Srt)(sz:Nat):AFunc:=⟨[P.nat 0,P.nat 1,P.nat 2,P.nat 3],[.tmp (P.nat 8)],(aF7 σ sz)⟩
def aH9(σ:Srt)(sz:Nat):ACode:=yr [yn 8 (.mov (yi 0))]
def aH7(σ:Srt)(sz:Nat):ACode:=yr [ym 9 0,ym 10 1,yn 11 (.bin .sub (R 10) (yi 1)),ym 12 1,ym 13 1,yn 14 (.bin .add (R 13) (yi 1)),ym 15 2,ym 16 3,yn 17 (.call σ.med [R 9,R 11,R 12,R 14,R 15,R 16] true),ym 8 17]
def aH8(σ:Srt)(sz:Nat):ACode:=.seq (aH7 σ sz) .ret
def aIa(σ:Srt)(sz:Nat):ACode:=.seq (aH9 σ sz) (aH8 σ sz)
def aQR(σ:Srt)(sz:Nat):AFunc:=⟨[P.nat 0,P.nat 1,P.nat 2,P.nat 3],[.tmp (P.nat 8)],(aIa σ sz)⟩
def aMc(σ:Srt)(sz:Nat):ACode:=yr [yn 12 (.mov (yi 0))]
def aMa(σ:Srt)(sz:Nat):ACode:=yr [ym 14 0,ym 15 1,ym 16 2,ym 17 4,ym 18 5,yn 19 (.call σ.ord [R 14,R 15,R 16,R 17,R 18] true),ym 13 19,yn 20 (.extract (R 13) 0),yn 21 (.extract (R 13) 1),ym 1 20,ym 2 21]
def aL8(σ:Srt)(sz:Nat):ACode:=yr [ym 23 0,ym 24 2,ym 25 3,ym 26 4,ym 27 5,yn 28 (.call σ.ord [R 23,R 24,R 25,R 26,R 27] true),ym 22 28,yn 29 (.extract (R 22) 0),yn 30 (.extract (R 22) 1),ym 2 29,ym 3 30]
def aL6(σ:Srt)(sz:Nat):ACode:=yr [ym 32 0,ym 33 1,ym 34 2,ym 35 4,ym 36 5,yn 37 (.call σ.ord [R 32,R 33,R 34,R 35,R 36] true),ym 31 37,yn 38 (.extract (R 31) 0),yn 39 (.extract (R 31) 1),ym 1 38,ym 2 39]
def aL4(σ:Srt)(sz:Nat):ACode:=yr [ym 40 2,ym 12 40]
def aL5(σ:Srt)(sz:Nat):ACode:=.seq (aL4 σ sz) .ret
def aL7(σ:Srt)(sz:Nat):ACode:=.seq (aL6 σ sz) (aL5 σ sz)
def aL9(σ:Srt)(sz:Nat):ACode:=.seq (aL8 σ sz) (aL7 σ sz)
def aMb(σ:Srt)(sz:Nat):ACode:=.seq (aMa σ sz) (aL9 σ sz)
def aMd(σ:Srt)(sz:Nat):ACode:=.seq (aMc σ sz) (aMb σ sz)
def aSt(σ:Srt)(sz:Nat):AFunc:=⟨[P.nat 0,P.nat 1,P.nat 2,P.nat 3,P.nat 4,P.nat 5],[.tmp (P.nat 12)],(aMd σ sz)⟩
def aLB(σ:Srt)(sz:Nat):ACode:=yr [yn 10 (.mov (yi 0)),yn 11 (.mov (yi 0))]
def aLy(σ:Srt)(sz:Nat):ACode:=yr [ym 12 4,ym 13 0,ym 14 2,ya 15 sz 13 14,yl 16 sz 15,ym 17 0,ym 18 1,ya 19 sz 17 18,yl 20 sz 19,yn 21 (.bW (R 12) [R 16,R 20] true),yn 22 (.bin .lss (R 21) (yi 0))]
def aLv(σ:Srt)(sz:Nat):ACode:=yr [ym 23 3,yn 24 (.bG (R 23)),yn 25 (.load none (R 24)),yn 26 (.bin .add (R 25) (yi 1)),yn 27 (.bG (R 23)),ys 1 27 26]
def aLt(σ:Srt)(sz:Nat):ACode:=yr [ym 28 2,ym 29 1,ym 10 28,ym 11 29]
def aLu(σ:Srt)(sz:Nat):ACode:=.seq (aLt σ sz) .ret
def aLw(σ:Srt)(sz:Nat):ACode:=.seq (aLv σ sz) (aLu σ sz)
def aLx(σ:Srt)(sz:Nat):ACode:=.cond (R 22) (aLw σ sz) .skip
def aLz(σ:Srt)(sz:Nat):ACode:=.seq (aLy σ sz) (aLx σ sz)
def aHU(σ:Srt)(sz:Nat):ACode:=yr [ym 30 1,ym 31 2,ym 10 30,ym 11 31]
def aHV(σ:Srt)(sz:Nat):ACode:=.seq (aHU σ sz) .ret
def aLA(σ:Srt)(sz:Nat):ACode:=.seq (aLz σ sz) (aHV σ sz)
def aLC(σ:Srt)(sz:Nat):ACode:=.seq (aLB σ sz) (aLA σ sz)
def aSq(σ:Srt)(sz:Nat):AFunc:=⟨[P.nat 0,P.nat 1,P.nat 2,P.nat 3,P.nat 4],[.tmp (P.nat 10),.tmp (P.nat 11)],(aLC σ sz)⟩
def aL1(σ:Srt)(sz:Nat):ACode:=yr [yn 2 (.mov (.k (.c (.f (.int .u64 0)))))]
def aLZ(σ:Srt)(sz:Nat):ACode:=yr [ym 3 0,yn 4 (.cvi .u64 (R 3)),yn 5 (.call σ.len [R 4] false),yn 6 (.bin .shl (.k (.c (.f (.int .u64 1)))) (R 5)),ym 2 6]
def aL0(σ:Srt)(sz:Nat):ACode:=.seq (aLZ σ sz) .ret
def aL2(σ:Srt)(sz:Nat):ACode:=.seq (aL1 σ sz) (aL0 σ sz)
def aSs(σ:Srt)(sz:Nat):AFunc:=⟨[P.nat 0],[.tmp (P.nat 2)],(aL2 σ sz)⟩
def aLX(σ:Srt)(sz:Nat):ACode:=yr [yn 2 (.mov (.k (.c (.f (.int .u64 0)))))]
def aLV(σ:Srt)(sz:Nat):ACode:=yr [ym 3 0,yn 4 (.bG (R 3)),yn 5 (.load none (R 4)),ym 6 0,yn 7 (.bG (R 6)),yn 8 (.load none (R 7)),yn 9 (.bin .shl (R 8) (.k (.c (.f (.int .u64 13))))),yb 10 .xor 5 9,yn 11 (.bG (R 3)),ys 1 11 10]
def aLT(σ:Srt)(sz:Nat):ACode:=yr [ym 12 0,yn 13 (.bG (R 12)),yn 14 (.load none (R 13)),ym 15 0,yn 16 (.bG (R 15)),yn 17 (.load none (R 16)),yn 18 (.bin .shr (R 17) (.k (.c (.f (.int .u64 7))))),yb 19 .xor 14 18,yn 20 (.bG (R 12)),ys 1 20 19]
def aLR(σ:Srt)(sz:Nat):ACode:=yr [ym 21 0,yn 22 (.bG (R 21)),yn 23 (.load none (R 22)),ym 24 0,yn 25 (.bG (R 24)),yn 26 (.load none (R 25)),yn 27 (.bin .shl (R 26) (.k (.c (.f (.int .u64 17))))),yb 28 .xor 23 27,yn 29 (.bG (R 21)),ys 1 29 28]
def aLP(σ:Srt)(sz:Nat):ACode:=yr [ym 30 0,yn 31 (.bG (R 30)),yn 32 (.load none (R 31)),ym 2 32]
def aLQ(σ:Srt)(sz:Nat):ACode:=.seq (aLP σ sz) .ret
def aLS(σ:Srt)(sz:Nat):ACode:=.seq (aLR σ sz) (aLQ σ sz)
def aLU(σ:Srt)(sz:Nat):ACode:=.seq (aLT σ sz) (aLS σ sz)
def aLW(σ:Srt)(sz:Nat):ACode:=.seq (aLV σ sz) (aLU σ sz)
def aLY(σ:Srt)(sz:Nat):ACode:=.seq (aLX σ sz) (aLW σ sz)
def aSr(σ:Srt)(sz:Nat):AFunc:=⟨[P.nat 0],[.tmp (P.nat 2)],(aLY σ sz)⟩
end
section
open Go
section
variable{W:List FC→Prop}{c:List FC→List FC→Int}{l:List (List FC)}
end
section
variable{tab:Nat→Option AFunc}{σ:Srt}{sz:Nat}{H:Heap}{b ep:Nat}{rows:List (List FC)}{cv:V}{W:List FC→Prop}{c:List FC→List FC→Int}
end
end
section
open Go
section
variable{tab:Nat→Option AFunc}{σ:Srt}{sz:Nat}{H:Heap}{b ep:Nat}{rows:List (List FC)}{cv:V}{W:List FC→Prop}{c:List FC→List FC→Int}
end
end
section
open Go
section
variable{tab:Nat→Option AFunc}{σ:Srt}{sz:Nat}{cv:V}{W:List FC→Prop}{c:List FC→List FC→Int}
end
end
section
open Go
section
variable{tab:Nat→Option AFunc}{σ:Srt}{sz:Nat}{cv:V}{W:List FC→Prop}{c:List FC→List FC→Int}
end
end
section
open Go
section
variable{tab:Nat→Option AFunc}{σ:Srt}{sz:Nat}{cv:V}{W:List FC→Prop}{c:List FC→List FC→Int}
end
end
section
open Go
section
variable{W:List FC→Prop}{c:List FC→List FC→Int}{l:List (List FC)}
end
end
section
open Go
section
variable{tab:Nat→Option AFunc}{σ:Srt}{sz:Nat}{H:Heap}{b ep:Nat}{rows:List (List FC)}{cv:V}{W:List FC→Prop}{c:List FC→List FC→Int}
end
end
section
open Go
section
variable{tab:Nat→Option AFunc}{σ:Srt}{sz:Nat}{H:Heap}{b ep:Nat}{rows:List (List FC)}{cv:V}{W:List FC→Prop}{c:List FC→List FC→Int}
end
end
section
open Go
section
variable{W:List FC→Prop}{c:List FC→List FC→Int}{l l':List (List FC)}
end
end
section
open Go
section
variable{tab:Nat→Option AFunc}{σ:Srt}{sz:Nat}{b ep n:Nat}{cv:V}{W:List FC→Prop}{c:List FC→List FC→Int}
end
end
section
open Go
def aEu:ACode:=.region [⟨D 5,.mov (R 0),none⟩,⟨D 6,.len (R 5),none⟩,⟨D 4,.mov (R 6),none⟩] []
def aEt(σ:Srt):ACode:=.region [⟨D 7,.mov (R 0),none⟩,⟨D 8,.mov (R 4),none⟩,⟨D 9,.mov (R 4),none⟩,⟨D 10,.cvi .u64 (R 9),none⟩,⟨D 11,.call σ.len [(R 10)] false,none⟩,⟨D 12,.mov (R 1),none⟩,⟨D 13,.call σ.pdq [(R 7),(.k (.c (.f (.int .i64 0)))),(R 8),(R 11),(R 12)] true,none⟩] []
def aQf(σ:Srt):AFunc:=⟨[P.nat 0,P.nat 1],[],.seq aEu (aEt σ)⟩
section
variable{tab:Nat→Option AFunc}{σ:Srt}{sz:Nat}{cv:V}{W:List FC→Prop}{c:List FC→List FC→Int}{N:Nat}
end
end
section
set_option linter.unusedVariables false
open Go
section
variable{tab:Nat→Option AFunc}{sz:Nat}
end
end
end Km
