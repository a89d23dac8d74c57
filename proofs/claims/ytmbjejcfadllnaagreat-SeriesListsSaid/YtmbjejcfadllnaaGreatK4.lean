/-
  Our own small machine for Go code by value, held tq the model: part 4. No program in IW.
-/
import Derived.Test.YtmbjejcfadllnaaGreatK3
import Derived.ChangeArms
import Derived.DataReads
import Derived.Deep.Slices
import Derived.ProofKit
import Derived.RowKit3
import Derived.Below
import Derived.Carry
import Derived.Laws.IdiomArrays
open Nat renaming le_refl → aft, add_mul → awl, mul_le_mul_right → awz, le_max_left → av4, le_max_right → avY, le_trans → avV, lt_of_lt_of_le → awr, zero_add → awn
open Option renaming bind_some → av3, map_eq_some_iff → IN, bind_eq_some_iff → av0
open List renaming map_cons → anc, foldl_cons → awF, mem_cons_of_mem → avZ, flatten_cons → awb, length_append → avR, length_cons → awa, mem_cons_self → avQ, drop_append → axm, mem_map → av9, getElem?_eq_some_iff → BY, mem_of_getElem? → avL, drop_drop → awR, drop_eq_getElem_cons → avW, getElem?_eq_getElem → AI, length_map → av7, length_drop → awt, map_append → awG, take_append_of_le_length → awB, take_of_length_le → avS, getElem?_map → awx, isEmpty_cons → axd, findIdx?_eq_some_iff_getElem → axe, getElem_mem → IT, getElem?_append_left → AT, getElem?_append_right → avM, take_append_drop → awv, append_nil → awE, getElem?_of_mem → awq, mem_cons → awf, mem_append_left → awY, getElem?_set_ne → By, set_cons_succ → axc, append_assoc → awh, getElem?_set_self → OF, getElem?_take → av6, getElem?_drop → avU, length_eq_zero_iff → awm, nil_append → axb
open Bool renaming false_eq_true → atN, and_eq_true → If
open Option.some renaming injEq → sh, inj → awU
open Int renaming toNat_natCast → av2
set_option linter.unusedVariables false
set_option linter.unusedSimpArgs false
set_option linter.unusedSectionVars false
set_option maxRecDepth 100000
namespace Km
section
open Go
def P.Ot:Nat→Nat→P
 | 0,_=>.h
 | k+1,n=>if n=0 then .h else if n % 2=1 then .o (Ot k ((n-1) / 2))else .i (Ot k ((n-2) / 2))
def P.nat(n:Nat):P:=P.Ot n n
theorem oz:∀(k n:Nat),n≤k→(P.Ot k n).toNat=n
 | 0,n,b=>by simp [P.Ot,P.toNat];omega
 | k+1,n,b=>by
  unfold P.Ot;split
  ·simp [P.toNat, *]
  ·split
   ·simp [P.toNat];rw [oz k _ (by omega)];omega
   ·simp [P.toNat];rw [oz k _ (by omega)];omega
theorem yF(n:Nat):(P.nat n).toNat=n:=oz n n (aft n)
theorem akU{a b:Nat}(d:a≠b):P.nat a≠P.nat b:=fun e=>d (by rw [←yF a,←yF b,e])
theorem T.fP(v:V):∀(p:P) (t:T),(t.set p v).get p=v
 | .h,.e=>rfl
 | .h,.n _ _ _=>rfl
 | .o p,.e=>T.fP v p .e
 | .o p,.n l _ _=>T.fP v p l
 | .i p,.e=>T.fP v p .e
 | .i p,.n _ _ r=>T.fP v p r
theorem T.iX(v:V):∀(p q:P) (t:T),p≠q→(t.set p v).get q=t.get q
 | .h,.h,_,h=>absurd rfl h
 | .h,.o q,.e,_=>by cases q<;>rfl
 | .h,.i q,.e,_=>by cases q<;>rfl
 | .h,.o _,.n _ _ _,_=>rfl
 | .h,.i _,.n _ _ _,_=>rfl
 | .o _,.h,.e,_=>rfl
 | .o _,.h,.n _ _ _,_=>rfl
 | .i _,.h,.e,_=>rfl
 | .i _,.h,.n _ _ _,_=>rfl
 | .o p,.o q,.e,h=>by
  show(T.set .e p v).get q=_
  rw [T.iX v p q .e (fun e=>h (by rw [e]))]
  cases q<;>rfl
 | .o p,.o q,.n l _ _,h=>T.iX v p q l (fun e=>h (by rw [e]))
 | .o p,.i q,.e,h=>by
  show T.get .e q=_
  cases q<;>rfl
 | .o _,.i _,.n _ _ _,_=>rfl
 | .i p,.o q,.e,h=>by
  show T.get .e q=_
  cases q<;>rfl
 | .i _,.o _,.n _ _ _,_=>rfl
 | .i p,.i q,.e,h=>by
  show(T.set .e p v).get q=_
  rw [T.iX v p q .e (fun e=>h (by rw [e]))]
  cases q<;>rfl
 | .i p,.i q,.n _ _ r,h=>T.iX v p q r (fun e=>h (by rw [e]))
def T.g(t:T)(n:Nat):V:=t.get (P.nat n)
def T.s(t:T)(n:Nat)(v:V):T:=t.set (P.nat n) v
@[simp] theorem T.g_s (t:T) (n m:Nat) (v:V):(t.s n v).g m=if n=m then v else t.g m:=by
 unfold T.g T.s;split
 ·rename_i h;subst h;exact T.fP v _ t
 ·rename_i h;exact T.iX v _ _ t (akU h)
def R(n:Nat):Arg:=.r (P.nat n)
def D(n:Nat):Option P:=some (P.nat n)
def G(n:Nat)(w:Bool):Option (P × Bool):=some (P.nat n,w)
abbrev vi(n:Int):V:=.c (.f (.int .i64 n))
abbrev vb(b:Bool):V:=.c (.f (.bool b))
abbrev fi(n:Int):FC:=.int .i64 n
@[simp] theorem ang (t:T) (n:Nat):(R n).ev t=t.g n:=rfl
@[simp] theorem avr (t:T) (v:V):(Arg.k v).ev t=v:=rfl
@[simp] theorem atk (t:T) (n:Nat) (v:V):je t (D n) v=t.s n v:=rfl
@[simp] theorem am4 (t:T) (v:V):je t none v=t:=rfl
@[simp] theorem agj (t:T) (n:Nat):t.get (P.nat n)=t.g n:=rfl
@[simp] theorem aix (n:Nat) (ps:List P) (v:V) (b:List V) (t:T):cC (P.nat n::ps) (v::b) t=cC ps b (t.s n v):=rfl
@[simp] theorem amq (b:List V) (t:T):cC [] b t=t:=rfl
@[simp] theorem aiB (t:T):wanted t none=some true:=rfl
@[simp] theorem arz (t:T) (n:Nat) (w:Bool):wanted t (G n w)=match t.g n with
  | .c (.f (.bool b))=>some (b == w)
  | .t []=>some false
  | _=>none:=rfl
attribute [simp] c6
def KO(o:Option (V × ai))(t:T)(ds:List dt)(K:V→St→Prop):Prop:=∃ p,o=some p∧K p.1 ⟨t,ds,p.2⟩
@[simp] theorem arN (v:V) (H:ai) (t:T) (ds:List dt) (K:V→St→Prop):KO (some (v,H)) t ds K↔K v ⟨t,ds,H⟩:=⟨fun⟨_,h,k⟩=>by cases h;exact k,fun k=>⟨_,rfl,k⟩⟩
def KP(P:V→Prop)(t:T)(ds:List dt)(H:ai)(K:V→St→Prop):Prop:=∃ x,P x∧K x ⟨t,ds,H⟩
@[simp] theorem anb (x:V) (t:T) (ds:List dt) (H:ai) (K:V→St→Prop):KP (Eq x) t ds H K↔K x ⟨t,ds,H⟩:=⟨fun⟨_,h,k⟩=>by cases h;exact k,fun k=>⟨x,rfl,k⟩⟩
def E2(x:V)(H:ai)(y:V)(H':ai):Prop:=x=y∧H=H'
def KE(P:V→ai→Prop)(t:T)(ds:List dt)(K:V→St→Prop):Prop:=∃ x H,P x H∧K x ⟨t,ds,H⟩
@[simp] theorem au1 (x:V) (H:ai) (t:T) (ds:List dt) (K:V→St→Prop):KE (E2 x H) t ds K↔K x ⟨t,ds,H⟩:=⟨fun⟨_,_,⟨b,d⟩,k⟩=>by cases b;cases d;exact k,fun k=>⟨x,H,⟨rfl,rfl⟩,k⟩⟩
section
variable(tab:Nat→Option ax)
def KC(b:Option (List V))(f:Nat)(t:T)(ds:List dt)(H:ai)(K:V→St→Prop):Prop:=∃ a,b=some a∧KP (Pure tab f a) t ds H K
def KD(c:Option (Callee × List V))(t:T)(ds:List dt)(H:ai)(K:V→St→Prop):Prop:=∃ a,c=some a∧KE (Ev tab a.1 a.2 H) t ds K
def KS(os:List aH)(L:St→Prop)(s:St):Prop:=wb tab os s L
def FS(s:St)(K:St→Prop):Prop:=K s
def KV(o:Option P)(os:List aH)(L:St→Prop)(v:V)(s:St):Prop:=FS ⟨je s.au o v,s.defs,s.heap⟩ (KS tab os L)
def GRD(w:Option Bool)(b:cK)(o:Option P)(os:List aH)(L:St→Prop)(s:St):Prop:=
 match w with
 | some true=>jI tab s b (KV tab o os L)
 | some false=>FS ⟨je s.au o (.t []),s.defs,s.heap⟩ (KS tab os L)
 | none=>False
end
section
variable{tab:Nat→Option ax}{t:T}{ds:List dt}{H:ai}{K:V→St→Prop}{L:St→Prop}
@[simp] theorem afK (a:List V) (f:Nat):KC tab (some a) f t ds H K↔KP (Pure tab f a) t ds H K:=⟨fun⟨_,h,k⟩=>by cases h;exact k,fun k=>⟨_,rfl,k⟩⟩
@[simp] theorem arM (c:Callee) (a:List V):KD tab (some (c,a)) t ds H K↔KE (Ev tab c a H) t ds K:=⟨fun⟨_,h,k⟩=>by cases h;exact k,fun k=>⟨_,rfl,k⟩⟩
@[simp] theorem auB (s:St) (K:St→Prop):FS s K↔K s:=Iff.rfl
@[simp ↓] theorem au2 (os:List aH) (s:St):KS tab os L s↔wb tab os s L:=Iff.rfl
@[simp ↓] theorem au3 (o:Option P) (os:List aH) (v:V):KV tab o os L v ⟨t,ds,H⟩↔FS ⟨je t o v,ds,H⟩ (KS tab os L):=Iff.rfl
@[simp ↓] theorem au0 (b:cK) (o:Option P) (os:List aH) (s:St):GRD tab (some true) b o os L s↔jI tab s b (KV tab o os L):=Iff.rfl
@[simp ↓] theorem auZ (b:cK) (o:Option P) (os:List aH):GRD tab (some false) b o os L ⟨t,ds,H⟩↔FS ⟨je t o (.t []),ds,H⟩ (KS tab os L):=Iff.rfl
@[simp ↓] theorem arO (s:St):wb tab [] s L↔L s:=Iff.rfl
@[simp ↓] theorem ane (o:Option P) (b:cK) (os:List aH):wb tab (⟨o,b,none⟩::os) ⟨t,ds,H⟩ L↔jI tab ⟨t,ds,H⟩ b (KV tab o os L):=Iff.rfl
@[simp ↓] theorem amJ (o:Option P) (b:cK) (n:Nat) (w:Bool) (os:List aH) :
  wb tab (⟨o,b,G n w⟩::os) ⟨t,ds,H⟩ L↔GRD tab (wanted t (G n w)) b o os L ⟨t,ds,H⟩:=by
 simp only [wb];rcases d:wanted t (G n w)with _ | _ | _<;>exact Iff.rfl
def cK.plain:cK→Bool
 | .call _ _ _ | .bR _ _ _ | .recover | .defer _ _=>false
 | _=>true
theorem bV{b:cK}(h:b.plain=true):jI tab ⟨t,ds,H⟩ b K↔KO (aZ t H b) t ds K:=by
 have:jI tab ⟨t,ds,H⟩ b K↔∃ v H',aZ t H b=some (v,H')∧K v ⟨t,ds,H'⟩:=by
  cases b<;>first | exact Iff.rfl | simp [cK.plain]at h
 rw [this];exact⟨fun⟨v,H',h,k⟩=>⟨(v,H'),h,k⟩,fun⟨p,h,k⟩=>⟨p.1,p.2,h,k⟩⟩
@[simp ↓] theorem ar_ (x:Arg):jI tab ⟨t,ds,H⟩ (.bf x) K↔KO (aZ t H (.bf x)) t ds K:=bV rfl
@[simp ↓] theorem apZ (c a b:Arg):jI tab ⟨t,ds,H⟩ (.pick c a b) K↔KO (aZ t H (.pick c a b)) t ds K:=bV rfl
@[simp ↓] theorem amU (zs:List FC):jI tab ⟨t,ds,H⟩ (.alloc zs) K↔KO (aZ t H (.alloc zs)) t ds K:=bV rfl
@[simp ↓] theorem ar8 (x:Arg):jI tab ⟨t,ds,H⟩ (.box x) K↔KO (aZ t H (.box x)) t ds K:=bV rfl
@[simp ↓] theorem amV (zs:List FC) (b:List (Nat × Nat × Arg)):jI tab ⟨t,ds,H⟩ (.build zs b) K↔KO (aZ t H (.build zs b)) t ds K:=bV rfl
@[simp ↓] theorem ak1 (sz:Nat) (zs:List FC) (len:Nat) (b:List (Nat × Arg)):jI tab ⟨t,ds,H⟩ (.aO sz zs len b) K↔KO (aZ t H (.aO sz zs len b)) t ds K:=bV rfl
@[simp ↓] theorem apW (n:Option Nat) (x:Arg):jI tab ⟨t,ds,H⟩ (.load n x) K↔KO (aZ t H (.load n x)) t ds K:=bV rfl
@[simp ↓] theorem am3 (n:Nat) (x y:Arg):jI tab ⟨t,ds,H⟩ (.store n x y) K↔KO (aZ t H (.store n x y)) t ds K:=bV rfl
@[simp ↓] theorem ak5 (x:Arg):jI tab ⟨t,ds,H⟩ (.bh x) K↔KO (aZ t H (.bh x)) t ds K:=bV rfl
@[simp ↓] theorem ar7 (b:BinOp) (x y:Arg):jI tab ⟨t,ds,H⟩ (.bin b x y) K↔KO (aZ t H (.bin b x y)) t ds K:=bV rfl
@[simp ↓] theorem as4 (neg:Bool) (k:Nr) (x y:Arg):jI tab ⟨t,ds,H⟩ (.eq neg k x y) K↔KO (aZ t H (.eq neg k x y)) t ds K:=bV rfl
@[simp ↓] theorem as5 (b:UnOp) (x:Arg):jI tab ⟨t,ds,H⟩ (.un b x) K↔KO (aZ t H (.un b x)) t ds K:=bV rfl
@[simp ↓] theorem ar9 (k:IntKind) (x:Arg):jI tab ⟨t,ds,H⟩ (.ek k x) K↔KO (aZ t H (.ek k x)) t ds K:=bV rfl
@[simp ↓] theorem apY (f:Nat) (b:List Arg):jI tab ⟨t,ds,H⟩ (.kh f b) K↔KO (aZ t H (.kh f b)) t ds K:=bV rfl
@[simp ↓] theorem am0:jI tab ⟨t,ds,H⟩ .jz K↔KO (aZ t H .jz) t ds K:=bV rfl
@[simp ↓] theorem ak4 (d:CK) (b:FC) (m k:Arg):jI tab ⟨t,ds,H⟩ (.lookup d b m k) K↔KO (aZ t H (.lookup d b m k)) t ds K:=bV rfl
@[simp ↓] theorem amZ (b:CK) (m k v:Arg):jI tab ⟨t,ds,H⟩ (.jw b m k v) K↔KO (aZ t H (.jw b m k v)) t ds K:=bV rfl
@[simp ↓] theorem aip (sz bytes:Nat) (zs:List FC) (l c:Arg):jI tab ⟨t,ds,H⟩ (.cP sz bytes zs l c) K↔KO (aZ t H (.cP sz bytes zs l c)) t ds K:=bV rfl
@[simp ↓] theorem am2 (sz:Nat) (x:Arg) (lo hi mx:Option Arg):jI tab ⟨t,ds,H⟩ (.slice sz x lo hi mx) K↔KO (aZ t H (.slice sz x lo hi mx)) t ds K:=bV rfl
@[simp ↓] theorem am1 (n sz:Nat) (x:Arg) (lo hi mx:Option Arg):jI tab ⟨t,ds,H⟩ (.ku n sz x lo hi mx) K↔KO (aZ t H (.ku n sz x lo hi mx)) t ds K:=bV rfl
@[simp ↓] theorem ak2 (off:Nat) (x:Arg):jI tab ⟨t,ds,H⟩ (.aw off x) K↔KO (aZ t H (.aw off x)) t ds K:=bV rfl
@[simp ↓] theorem amY (off:Nat) (n:Option Nat) (x:Arg):jI tab ⟨t,ds,H⟩ (.field off n x) K↔KO (aZ t H (.field off n x)) t ds K:=bV rfl
@[simp ↓] theorem ak3 (sz:Nat) (b:Option Nat) (x i:Arg):jI tab ⟨t,ds,H⟩ (.aP sz b x i) K↔KO (aZ t H (.aP sz b x i)) t ds K:=bV rfl
@[simp ↓] theorem apU (len sz:Nat) (n:Option Nat) (x i:Arg):jI tab ⟨t,ds,H⟩ (.pK len sz n x i) K↔KO (aZ t H (.pK len sz n x i)) t ds K:=bV rfl
@[simp ↓] theorem aio (x:Arg) (i:Nat):jI tab ⟨t,ds,H⟩ (.extract x i) K↔KO (aZ t H (.extract x i)) t ds K:=bV rfl
@[simp ↓] theorem ar' (x:Arg):jI tab ⟨t,ds,H⟩ (.len x) K↔KO (aZ t H (.len x)) t ds K:=bV rfl
@[simp ↓] theorem apV (x:Arg):jI tab ⟨t,ds,H⟩ (.lens x) K↔KO (aZ t H (.lens x)) t ds K:=bV rfl
@[simp ↓] theorem ak0 (sz bytes:Nat) (x y:Arg):jI tab ⟨t,ds,H⟩ (.append sz bytes x y) K↔KO (aZ t H (.append sz bytes x y)) t ds K:=bV rfl
@[simp ↓] theorem apX (lo:Bool) (xs:List Arg):jI tab ⟨t,ds,H⟩ (.mP lo xs) K↔KO (aZ t H (.mP lo xs)) t ds K:=bV rfl
@[simp ↓] theorem apT (f:Nat) (args:List Arg):jI tab ⟨t,ds,H⟩ (.call f args false) K ↔
  KC tab (aU (bX deep H) (c6 t args)) f t ds ((c6 t args).foldl (mkV deep) H) K:=by
 simp only [jI,KC,KP];constructor
 ·intro h;rw [if_neg (by simp)]at h;obtain⟨b,r,d,g,j⟩:=h;exact⟨b,d,r,g,j⟩
 ·rintro⟨b,d,r,g,j⟩;rw [if_neg (by simp)];exact⟨b,r,d,g,j⟩
@[simp ↓] theorem amX (f:Nat) (args:List Arg):jI tab ⟨t,ds,H⟩ (.call f args true) K↔KD tab (some (.fn f,c6 t args)) t ds H K:=by simp [jI,KD,KE]
@[simp ↓] theorem amW (x:Arg) (args:List Arg) (h:Bool):jI tab ⟨t,ds,H⟩ (.bR x args h) K↔KD tab (bP (x.ev t) (c6 t args)) t ds H K:=by
 simp only [jI,KD,KE];constructor
 ·rintro⟨c,as,r,H',b,d,g⟩;exact⟨(c,as),b,r,H',d,g⟩
 ·rintro⟨⟨c,as⟩,b,r,H',d,g⟩;exact⟨c,as,r,H',b,d,g⟩
end
def FK:V→Option Bool
 | .c (.f (.bool b))=>some b
 | _=>none
@[simp] theorem amK (b:Bool):FK (.c (.f (.bool b)))=some b:=rfl
section
variable{t:T}{H:ai}
@[simp] theorem avd (x:Arg):aZ t H (.bf x)=some (x.ev t,H):=rfl
@[simp] theorem ave (o:Os) (sz:Nat):aZ t H (.pre o sz)=if o=.loc∨sz=0 then none else some (.c (.sl H.length 0 0 0 0 sz),H++[.bE sz [] 0 0 o]):=rfl
@[simp] theorem auz (c x y:Arg):aZ t H (.pick c x y)=(FK (c.ev t)).map fun b=>(if b then x.ev t else y.ev t,H):=by
 simp only [aZ,FK];split
 ·rename_i b h;simp only [h];cases b<;>rfl
 ·rename_i h;split
  ·rename_i b d;exact absurd d (h b)
  ·rfl
@[simp] theorem asg (zs:List FC):aZ t H (.alloc zs)=some (.c (.ptr H.length 0 0),H++[.box (zs.map .f) 0]):=rfl
@[simp] theorem ava (x:Arg):aZ t H (.box x)=(x.ev t).cells?.map fun xs=>(.c (.ptr H.length 0 0),H++[.box xs 0]):=by
 simp only [aZ];cases (x.ev t).cells?<;>rfl
@[simp] theorem ash (zs:List FC) (ps:List (Nat × Nat × Arg)):aZ t H (.build zs ps)=(dc t (zs.map .f) ps).map fun cs=>(.a cs,H):=rfl
@[simp] theorem arC (sz:Nat) (zs:List FC) (n:Nat) (ps:List (Nat × Arg)):aZ t H (.aO sz zs n ps) =
  if n=0 then(if ps.isEmpty then some (.c (.f .es),H)else none)else
  (dc t ((cF n zs).map .f) (ps.map fun p=>(p.1*sz,sz,p.2))).map fun cs=>(.c (.sl H.length 0 n n 0 sz),H++[.box cs 0]):=rfl
@[simp] theorem auu (n:Option Nat) (x:Arg):aZ t H (.load n x)=(aQ H n (x.ev t)).map (·,H):=rfl
def AR(H:ai)(n:Nat)(x y:V):Option ai:=
 match x,y.cells? with
 | .c p,some xs=>if xs.length=n then df H p xs else none
 | _,_=>none
@[simp] theorem aso (n:Nat) (x y:Arg):aZ t H (.store n x y)=(AR H n (x.ev t) (y.ev t)).map (.top,·):=by
 simp only [aZ,AR]
 cases x.ev t with
 | c p=>cases (y.ev t).cells? with
  | none=>rfl
  | some xs=>by_cases h:xs.length=n<;>simp [h]
 | _=>rfl
@[simp] theorem ary (n:Nat) (p:C) (y:V):AR H n (.c p) y=y.cells?.bind fun xs=>if xs.length=n then df H p xs else none:=by
 simp only [AR];cases y.cells?<;>rfl
@[simp] theorem au_ (b:BinOp) (x y:Arg):aZ t H (.bin b x y)=(bJ b (x.ev t) (y.ev t)).map (·,H):=rfl
@[simp] theorem avJ (neg:Bool) (k:Nr) (x y:Arg):aZ t H (.eq neg k x y)=(zW H k (x.ev t) (y.ev t)).map fun b=>(vb (if neg then !b else b),H):=rfl
@[simp] theorem avK (b:UnOp) (x:Arg):aZ t H (.un b x)=(unV b (x.ev t)).map (·,H):=rfl
def aki(k:IntKind):V→Option V
 | .c (.f (.int _ n))=>some (.c (.f (.int k (k.wrap n))))
 | _=>none
@[simp] theorem asY (k j:IntKind) (n:Int):aki k (.c (.f (.int j n)))=some (.c (.f (.int k (k.wrap n)))):=rfl
@[simp] theorem avb (k:IntKind) (x:Arg):aZ t H (.ek k x)=(aki k (x.ev t)).map (·,H):=by
 simp only [aZ,aki];split
 ·rename_i h;simp only [h];rfl
 ·rename_i h;split
  ·rename_i b;exact absurd b (h _ _)
  ·rfl
@[simp] theorem auy (f:Nat) (b:List Arg):aZ t H (.kh f b)=(aU ta (c6 t b)).map fun xs=>(.c (.cl f xs),H):=rfl
@[simp] theorem auw (f:Nat) (b:List Arg):aZ t H (.wv f b)=(aU ta (c6 t b)).map fun xs=>(.c (.bm f xs),H):=rfl
@[simp] theorem asm (sz:Nat) (x:Arg) (lo hi mx:Option Arg):aZ t H (.slice sz x lo hi mx)=(eY H sz (x.ev t) (lo.map (·.ev t)) (hi.map (·.ev t)) (mx.map (·.ev t))).map (·,H):=rfl
@[simp] theorem arE (sz:Nat) (zs:List FC) (n:Nat) (ps:List (Nat × Arg)):aZ t H (.gv sz zs n ps)=((dc t ((cF n zs).map .f) (ps.map fun p=>(p.1*sz,sz,p.2))).bind fun cs=>if n=0 then none else fcL cs).map fun b=>(.c (.f (.fs b n)),H):=rfl
@[simp] theorem auA (sz:Nat) (x hi mx:Arg):aZ t H (.wN sz x hi mx)=DD H sz (x.ev t) (hi.ev t) (mx.ev t):=rfl
@[simp] theorem asl (n sz:Nat) (x:Arg) (lo hi mx:Option Arg):aZ t H (.ku n sz x lo hi mx)=(ig H n sz (x.ev t) (lo.map (·.ev t)) (hi.map (·.ev t)) (mx.map (·.ev t))).map (·,H):=rfl
@[simp] theorem asn (x:Arg) (lo hi:Option Arg):aZ t H (.qG x lo hi)=(vI (x.ev t) (lo.map (·.ev t)) (hi.map (·.ev t))).map (·,H):=rfl
@[simp] theorem arD (o:Nat) (x:Arg):aZ t H (.aw o x)=(iu o (x.ev t)).map (·,H):=rfl
@[simp] theorem asj (o:Nat) (n:Option Nat) (x:Arg):aZ t H (.field o n x)=(mE o n (x.ev t)).map (·,H):=rfl
@[simp] theorem arF (sz:Nat) (b:Option Nat) (x i:Arg):aZ t H (.aP sz b x i)=(aG H sz b (x.ev t) (i.ev t)).map (·,H):=rfl
@[simp] theorem aur (x i:Arg):aZ t H (.idxs x i)=(CM (x.ev t) (i.ev t)).map (·,H):=rfl
@[simp] theorem auq (len sz:Nat) (n:Option Nat) (x i:Arg):aZ t H (.pK len sz n x i)=(lR len sz n (x.ev t) (i.ev t)).map (·,H):=rfl
def cOf:V→Option C
 | .c x=>some x
 | _=>none
@[simp] theorem au4 (x:C):cOf (.c x)=some x:=rfl
@[simp] theorem avc (x:Arg):aZ t H (.len x)=((cOf (x.ev t)).bind (bA H)).map fun n=>(vi (n:Nat),H):=by
 simp only [aZ,cOf]
 cases x.ev t with
 | c y=>simp only [av3];cases bA H y<;>rfl
 | _=>rfl
def strOf:V→Option ByteArray
 | .c (.f (.str s))=>some s
 | _=>none
@[simp] theorem asc (s:ByteArray):strOf (.c (.f (.str s)))=some s:=rfl
@[simp] theorem aut (x:Arg):aZ t H (.lens x)=(strOf (x.ev t)).map fun s=>(vi (s.size:Nat),H):=by
 simp only [aZ,strOf];split
 ·rename_i h;simp only [h];rfl
 ·rename_i h;split
  ·rename_i b;exact absurd b (h _)
  ·rfl
@[simp] theorem aus (n:Nat):aZ t H (.uS n)=some (vi (n:Nat),H):=rfl
@[simp] theorem arB (sz bytes:Nat) (x y:Arg):aZ t H (.append sz bytes x y)=bz H sz bytes (x.ev t) (y.ev t):=rfl
@[simp] theorem aup (sz:Nat) (x y:Arg):aZ t H (.copy sz x y)=copyV H sz (x.ev t) (y.ev t):=rfl
@[simp] theorem auv (lo:Bool) (xs:List Arg):aZ t H (.mP lo xs)=(Ok lo (c6 t xs)).map (·,H):=rfl
def tOf:V→Option (List V)
 | .t b=>some b
 | _=>none
@[simp] theorem au9 (b:List V):tOf (.t b)=some b:=rfl
@[simp] theorem am6 (x:Arg) (i:Nat):aZ t H (.extract x i)=(tOf (x.ev t)).bind fun d=>d[i]?.map (·,H):=by
 simp only [aZ,tOf];split
 ·rename_i h;simp only [h];rfl
 ·rename_i h;split
  ·rename_i b;exact absurd b (h _)
  ·rfl
def tz:V→Option V
 | .c (.ptr b o e)=>some (.c (.ptr b o e))
 | .c (.f (.fp cs o))=>some (.c (.f (.fp cs o)))
 | _=>none
@[simp] theorem akV (b o e:Nat):tz (.c (.ptr b o e))=some (.c (.ptr b o e)):=rfl
@[simp] theorem amT (cs:List FC) (o:Nat):tz (.c (.f (.fp cs o)))=some (.c (.f (.fp cs o))):=rfl
@[simp] theorem arG (x:Arg):aZ t H (.bh x)=(tz (x.ev t)).map (·,H):=by
 simp only [aZ,tz];split
 ·rename_i h;simp only [h];rfl
 ·rename_i h;simp only [h];rfl
 ·rename_i b d;split
  ·rename_i h;exact absurd h (b _ _ _)
  ·rename_i h;exact absurd h (d _ _)
  ·rfl
@[simp] theorem amO (f:Nat) (b:List FC) (args:List V):bP (.c (.f (.fn f b))) args=some (.fn f,args++b.map fun x=>.c (.f x)):=rfl
@[simp] theorem amN (f:Nat) (b:List C) (args:List V):bP (.c (.cl f b)) args=some (.fn f,args++b.map .c):=rfl
@[simp] theorem amM (f:Nat) (first:List C) (args:List V):bP (.c (.bm f first)) args=some (.fn f,first.map .c++args):=rfl
end
section
variable{k:IntKind}{a b:Int}{H:ai}
@[simp] theorem arP:bJ .add (.c (.f (.int k a))) (.c (.f (.int k b)))=some (.c (.f (.int k (k.wrap (a+b))))):=by simp [bJ,jJ,V.int]
@[simp] theorem arX:bJ .sub (.c (.f (.int k a))) (.c (.f (.int k b)))=some (.c (.f (.int k (k.wrap (a-b))))):=by simp [bJ,jJ,V.int]
@[simp] theorem arV:bJ .mul (.c (.f (.int k a))) (.c (.f (.int k b)))=some (.c (.f (.int k (k.wrap (a*b))))):=by simp [bJ,jJ,V.int]
theorem zK(h:b≠0):bJ .quo (.c (.f (.int k a))) (.c (.f (.int k b)))=some (.c (.f (.int k (k.wrap (a.tdiv b))))):=by simp [bJ,jJ,V.int,h]
theorem ns(h:b≠0):bJ .rem (.c (.f (.int k a))) (.c (.f (.int k b)))=some (.c (.f (.int k (a.tmod b)))):=by simp [bJ,jJ,V.int,h]
@[simp] theorem arQ:bJ .eql (.c (.f (.int k a))) (.c (.f (.int k b)))=some (vb (decide (a=b))):=by simp [bJ,jJ,V.bool];rfl
@[simp] theorem arW:bJ .neq (.c (.f (.int k a))) (.c (.f (.int k b)))=some (vb (!decide (a=b))):=by simp [bJ,jJ,V.bool];rfl
@[simp] theorem arU:bJ .lss (.c (.f (.int k a))) (.c (.f (.int k b)))=some (vb (decide (a<b))):=by simp [bJ,jJ,V.bool]
@[simp] theorem arT:bJ .leq (.c (.f (.int k a))) (.c (.f (.int k b)))=some (vb (decide (a≤b))):=by simp [bJ,jJ,V.bool]
@[simp] theorem arS:bJ .gtr (.c (.f (.int k a))) (.c (.f (.int k b)))=some (vb (decide (b<a))):=by simp [bJ,jJ,V.bool]
@[simp] theorem arR:bJ .geq (.c (.f (.int k a))) (.c (.f (.int k b)))=some (vb (decide (b≤a))):=by simp [bJ,jJ,V.bool]
@[simp] theorem ao8 {x y:Bool}:O9 .bool (.f (.bool x)) (.f (.bool y))=some (x == y):=rfl
@[simp] theorem ar2:O9 .int (.f (.int k a)) (.f (.int k b))=some (a == b):=by simp [O9]
@[simp] theorem ar3 {x y:ByteArray}:O9 .str (.f (.str x)) (.f (.str y))=some (x == y):=rfl
@[simp] theorem ar1:rE [] [] []=some true:=rfl
@[simp] theorem ao7 {q:CK} {qs:List CK} {x y:C} {xs ys:List C}:rE (q::qs) (x::xs) (y::ys)=(O9 q x y).bind fun c=>(rE qs xs ys).map fun d=>c&&d:=by
 simp only [rE];cases O9 q x y<;>cases rE qs xs ys<;>rfl
@[simp] theorem ao9 {x y:Bool}:zW H .bool (.c (.f (.bool x))) (.c (.f (.bool y)))=some (x == y):=rfl
@[simp] theorem asZ {ks:List CK} {xs ys:List C}:zW H (.st ks) (.a xs) (.a ys)=rE ks xs ys:=rfl
@[simp] theorem aum {x:Bool}:unV .not (.c (.f (.bool x)))=some (vb (!x)):=rfl
@[simp] theorem akn {o c o' ep:Nat}:iu o (.c (.ptr c o' ep))=some (.c (.ptr c (o'+o) ep)):=rfl
@[simp] theorem amQ {o o':Nat} {cs:List FC}:iu o (.c (.f (.fp cs o')))=some (.c (.f (.fp cs (o'+o)))):=rfl
@[simp] theorem ar0 {x:C}:(V.c x).cells?=some [x]:=rfl
@[simp] theorem arZ {xs:List C}:(V.a xs).cells?=some xs:=rfl
@[simp] theorem avl {n:Nat} {x:FC}:cW n H (.f x)=some x:=by cases n<;>rfl
@[simp] theorem au6 {n:Nat} {x:C}:bX n H (.c x)=(cW n H x).map fun y=>.c (.f y):=rfl
@[simp] theorem au8 {n f:Nat} {b:List C}:cW (n+1) H (.cl f b)=(aU (cW n H) b).map (.fn f):=rfl
@[simp] theorem as1 {n b o e:Nat}:cW (n+1) H (.ptr b o e)=match H[b]? with
  | some (.box cs _)=>(aU (cW n H) cs).map (.fp · o)
  | _=>none:=rfl
theorem iV{n b o l c ep sz:Nat}:cW (n+1) H (.sl b o l c ep sz)=match H[b]? with
  | some (.box cs _)=>if o+l*sz≤cs.length then(aU (cW n H) ((cs.drop o).take (l*sz))).map (.fs · l)else none
  | some (.bE s cs _ e .loc)=>if ep=e∧sz=s∧o+l*sz≤cs.length then(aU (cW n H) ((cs.drop o).take (l*sz))).map (.fs · l)else none
  | some (.bE s _ _ e .nil)=>if ep=e∧sz=s then some .ay else none
  | some (.bE s _ _ e .es)=>if ep=e∧sz=s then some .es else none
  | _=>none:=rfl
theorem aa8{n b o e:Nat}:fZ (n+1) (.ptr b o e) H=match H[b]? with
  | some (.box cs d)=>cs.foldl (fun H x=>fZ n x H) (H.set b (.box cs (Nat.max d cs.length)))
  | _=>H:=rfl
theorem yA{n b o l c e sz:Nat}:fZ (n+1) (.sl b o l c e sz) H=match H[b]? with
  | some (.box cs d)=>((cs.drop o).take (l*sz)).foldl (fun H x=>fZ n x H) (H.set b (.box cs (Nat.max d (o+l*sz))))
  | some (.bE s cs d e st)=>((cs.drop o).take (l*sz)).foldl (fun H x=>fZ n x H) (H.set b (.bE s cs (Nat.max d (o+l*sz)) e st))
  | _=>H:=rfl
theorem aim{n f:Nat}{b:List C}:fZ (n+1) (.cl f b) H=b.foldl (fun H x=>fZ n x H) H:=rfl
@[simp] theorem avt {n:Nat} {x:C}:mkV n H (.c x)=fZ n x H:=rfl
@[simp] theorem au7 {n:Nat} {x:C}:iN n H (.c x)=(cW n H x).map fun y=>.c (.f y):=rfl
theorem rP{n:Nat}:∀(xs:List FC),aU (cW n H) (xs.map .f)=some xs
 | []=>rfl
 | x::xs=>by simp [aU,rP xs]
@[simp] theorem au5 {n:Nat} {xs:List C}:bX n H (.a xs)=(aU (cW n H) xs).map fun ys=>.a (ys.map .f):=rfl
@[simp] theorem An {n:Nat} (xs:List FC):aU (cW n H) (xs.map .f)=some xs:=rP xs
@[simp] theorem avs {n:Nat} {xs:List C}:mkV n H (.a xs)=xs.foldl (fun H x=>fZ n x H) H:=rfl
@[simp] theorem Ib {n:Nat} {x:FC}:fZ n (.f x) H=H:=by cases n<;>rfl
@[simp] theorem amR {n:Nat} (xs:List FC):(xs.map C.f).foldl (fun H x=>fZ n x H) H=H:=by
 induction xs with
 | nil=>rfl
 | cons x xs b=>simp only [anc,awF];rw [Ib];exact b
end
theorem acm{n:Int}(b:0≤n)(d:n≤255):IntKind.wrap .u8 n=n:=by
 simp only [IntKind.wrap,IntKind.bits,IntKind.signed];simp;omega
theorem agv{H:ai}{sz n b o ep:Nat}{k:IntKind}{i:Int}(d:0≤i)(g:i<n):aG H sz (some n) (.c (.ptr b o ep)) (.c (.f (.int k i)))=some (.c (.ptr b (o+i.toNat*sz) ep)):=by
 simp [aG,dk,d,g]
theorem wrap64{n:Int}(b:-9223372036854775808≤n)(d:n≤9223372036854775807):IntKind.wrap .i64 n=n:=by
 simp only [IntKind.wrap,IntKind.bits,IntKind.signed];simp;omega
@[simp] theorem cast_eq (a b:Nat):((a:Int)=(b:Int))=(a=b):=propext Int.natCast_inj
@[simp] theorem apB {b d:Type} (g:b→Option d):aU g []=some []:=rfl
@[simp] theorem amS {b d:Type} (g:b→Option d) (x:b) (xs:List b):aU g (x::xs)=(g x).bind fun y=>(aU g xs).map (y::·):=by
 simp only [aU];cases g x<;>cases aU g xs<;>simp
@[simp] theorem asd (x:C) (xs:List C):aF none (x::xs)=some (.c x):=rfl
@[simp] theorem ase (n:Nat) (xs:List C):aF (some n) xs=if n≤xs.length then some (.a (xs.take n))else none:=rfl
@[simp] theorem an (H:ai) (n:Option Nat) (b o ep:Nat):aQ H n (.c (.ptr b o ep))=match H[b]? with
  | some (.box cs _)=>aF n (cs.drop o)
  | some (.bE _ cs _ e .loc)=>if ep=e then aF n (cs.drop o)else none
  | _=>none:=by
 simp only [aQ,az];split
 ·rename_i h;simp only [h];rfl
 ·rename_i h;simp only [h];split<;>rfl
 ·rename_i d g;split
  ·rename_i h;exact absurd h (d _ _)
  ·rename_i h;exact absurd h (g _ _ _ _)
  ·rfl
@[simp] theorem ba (H:ai) (b o ep:Nat) (xs:List C):df H (.ptr b o ep) xs=match H[b]? with
  | some (.box cs d)=>if d≤o∧o+xs.length≤cs.length then some (H.set b (.box (over cs o xs) d))else none
  | some (.bE sz cs d e .loc)=>if ep=e∧d≤o∧o+xs.length≤cs.length then some (H.set b (.bE sz (over cs o xs) d e .loc))else none
  | _=>none:=rfl
attribute [simp] over cF
@[simp] theorem alp (t:T) (cs:List C):dc t cs []=some cs:=rfl
@[simp] theorem aiq (t:T) (cs:List C) (o n:Nat) (x:Arg) (ps:List (Nat × Nat × Arg)):dc t cs ((o,n,x)::ps)=(x.ev t).cells?.bind fun xs=>if xs.length=n∧o+xs.length≤cs.length then dc t (over cs o xs) ps else none:=by
 simp only [dc];cases (x.ev t).cells?<;>rfl
@[simp] theorem asW (x:FC):ta (.c (.f x))=some (.f x):=rfl
@[simp] theorem ao3 (b o e:Nat):ta (.c (.ptr b o e))=some (.ptr b o e):=rfl
@[simp] theorem arY (b o l c e s:Nat):ta (.c (.sl b o l c e s))=some (.sl b o l c e s):=rfl
def amy:V→Option V
 | .t _=>none
 | v=>some v
@[simp] theorem aul (x:C):amy (.c x)=some (.c x):=rfl
@[simp] theorem auk (x:List C):amy (.a x)=some (.a x):=rfl
@[simp] theorem asb (t:T) (H:ai) (n:Nat):bG t H (.tmp (P.nat n))=amy (t.g n):=by
 simp only [bG,agj];cases t.g n<;>rfl
@[simp] theorem ark (t:T) (H:ai) (n:Nat) (k:Option Nat):bG t H (.cell (P.nat n) k)=aQ H k (t.g n):=rfl
@[simp] theorem ar4 {t:T} {H:ai} {x:iq} {r:V}:oh [x] r ⟨t,[],H⟩↔∃ r0,bG t H x=some r0∧iN deep H r0=some r:=by
 simp only [oh,results,true_and,aU];cases bG t H x<;>simp
@[simp] theorem ar5 {t:T} {H:ai} {x y:iq} {a b:V}:oh [x,y] (.t [a,b]) ⟨t,[],H⟩ ↔
  (∃ r0,bG t H x=some r0∧bX deep H r0=some a)∧∃ r0,bG t H y=some r0∧bX deep H r0=some b:=by
 simp only [oh,results,true_and,aU]
 cases bG t H x with
 | none=>simp
 | some u=>cases bG t H y with
  | none=>simp
  | some w=>cases d:bX deep H u<;>cases g:bX deep H w<;>simp [iN,d,g]
inductive Tg where | nil | es | fs
 deriving DecidableEq
def Tg.fc:Tg→FC
 | .nil=>.ay
 | .es=>.es
 | .fs=>.fs [] 0
def sl(g:Tg)(rows:List (List FC)):FC:=if rows.isEmpty then g.fc else .fs rows.flatten rows.length
def bC(sz:Nat)(rows:List (List FC)):Prop:=∀ r ∈ rows,r.length=sz
theorem en{sz:Nat}:∀ {rows:List (List FC)},bC sz rows→rows.flatten.length=rows.length*sz
 | [],_=>by simp
 | r::rows,h=>by
  have:=en (rows:=rows) fun x b=>h x (avZ _ b)
  simp only [awb,avR,awa,this,h r avQ,awl,Nat.one_mul];omega
theorem xL{sz:Nat}:∀ {rows:List (List FC)} (j:Nat),bC sz rows→rows.flatten.drop (j*sz)=(rows.drop j).flatten
 | rows,0,_=>by simp
 | [],j+1,_=>by simp
 | r::rows,j+1,h=>by
  have hr:=h r avQ;have:=xL (rows:=rows) j fun x b=>h x (avZ _ b)
  rw [awb,List.drop_succ_cons,←this,awl,Nat.one_mul,axm,hr];simp [hr,show j*sz+sz-sz=j*sz by omega]
theorem bC.map{b:Type}{sz:Nat}{l:List b}{g:b→List FC}(h:∀ x,(g x).length=sz):bC sz (l.map g):=fun r hr=>by
 obtain⟨x,_,rfl⟩:=av9.1 hr;exact h x
theorem pC{sz j k:Nat}{rows:List (List FC)}{row:List FC}(d:bC sz rows)(b:rows[j]?=some row)(l:k≤sz) :
  rows.flatten.drop (j*sz+k)=row.drop k++(rows.drop (j+1)).flatten:=by
 have g:j<rows.length:=(BY.1 b).1;have hr:row.length=sz:=d row (avL b);rw [←awR,xL j d,avW g,awb];have:rows[j]=row:=by simpa [AI g]using b
 rw [this,axm,show k-row.length=0 by omega]
 simp
variable{H:ai}
theorem Af{sz j k:Nat}{rows:List (List FC)}{row:List FC}{x:FC}(b:bC sz rows)(d:rows[j]?=some row)(l:row[k]?=some x) :
  aQ H none (.c (.f (.fp rows.flatten (j*sz+k))))=some (.c (.f x)):=by
 have hr:row.length=sz:=b row (avL d);have g:k<row.length:=(BY.1 l).1;have e:=pC (k:=k) b d (by omega)
 simp only [aQ,az,av3,e];rw [avW g];have:row[k]=x:=by simpa [AI g]using l
 simp [aF,this]
theorem agK{sz j k n:Nat}{rows:List (List FC)}{row:List FC}(b:bC sz rows)(d:rows[j]?=some row)(g:k+n≤sz) :
  aQ H (some n) (.c (.f (.fp rows.flatten (j*sz+k))))=some (.a (((row.drop k).take n).map .f)):=by
 have hr:row.length=sz:=b row (avL d);have e:=pC (k:=k) b d (by omega)
 simp only [aQ,az,av3,e];simp only [aF];rw [if_pos (by simp only [av7,avR,awt];omega)]
 rw [awG,awB (by simp only [av7,awt];omega),List.map_take]
theorem fk{sz j:Nat}{rows:List (List FC)}{row:List FC}(b:bC sz rows)(d:rows[j]?=some row) :
  aQ H (some sz) (.c (.f (.fp rows.flatten (j*sz))))=some (.a (row.map .f)):=by
 have hr:row.length=sz:=b row (avL d);have:=agK (H:=H) (k:=0) (n:=sz) b d (by omega)
 simp only [Nat.add_zero,List.drop_zero]at this;rw [this,avS (by omega)]
theorem gN{sz j:Nat}{rows:List (List FC)}{row:List FC}{x:FC}(b:bC sz rows)(d:rows[j]?=some row)(g:row[0]?=some x) :
  aQ H none (.c (.f (.fp rows.flatten (j*sz))))=some (.c (.f x)):=Af (k:=0) b d g
theorem agJ{j:Nat}{l:List Int}{x:Int}(b:l[j]?=some x) :
  aQ H none (.c (.f (.fp (l.map fun n=>[fi n]).flatten (j*1))))=some (vi x):=
 gN (row:=[fi x]) (bC.map fun _=>rfl) (by rw [awx,b];rfl) rfl
@[simp] theorem rO (g:Tg) (rows:List (List FC)):bA H (.f (sl g rows))=some rows.length:=by
 cases rows with
 | nil=>cases g<;>rfl
 | cons r rows=>rfl
theorem cT{g:Tg}{rows:List (List FC)}{sz:Nat}{k:IntKind}{i:Int}(d:0≤i)(b:i<rows.length) :
  aG H sz none (.c (.f (sl g rows))) (.c (.f (.int k i)))=some (.c (.f (.fp rows.flatten (i.toNat*sz)))):=by
 cases rows with
 | nil=>simp at b;omega
 | cons r rows=>
  simp only [awa]at b;simp [aG,dk,sl,d];omega
theorem CB{g:Tg}{rows:List (List FC)}{sz:Nat}(b:bC sz rows):cH H sz (.f (sl g rows))=some (rows.flatten.map .f):=by
 cases rows with
 | nil=>cases g<;>simp [sl,Tg.fc,cH]
 | cons r rows=>
  have:=en b;simp only [sl,axd,atN,if_false,cH,this,if_true]
end
section
open Go
def Kf(tab:Nat→Option ax)(f:Nat)(args:List V)(r:V):Prop:=∀ H,∃ J,Ev tab (.fn f) args H r (H++J)
section
variable{tab:Nat→Option ax}{f:Nat}{args:List V}{r:V}
theorem Kf.pure{x:FC}(h:Kf tab f args (.c (.f x))):Pure tab f args (.c (.f x)):=by
 obtain⟨J,h⟩:=h [];exact⟨_,_,h,by simp⟩
theorem Kf.eq{x:FC}(h:Kf tab f args (.c (.f x))):Pure tab f args=Eq (.c (.f x)):=
 funext fun r=>propext ⟨fun k=>h.pure.det k,fun e=>e▸h.pure⟩
theorem Pure.eq{r:V}(h:Pure tab f args r):Pure tab f args=Eq r:=funext fun _=>propext ⟨fun k=>h.det k,fun e=>e▸h⟩
noncomputable def apn (tab:Nat→Option ax) (f:Nat) (args:List V) (H:ai):ai:=Classical.epsilon fun J=>∃ r,Ev tab (.fn f) args H r (H++J)
theorem Kf.ev(h:Kf tab f args r)(H:ai):Ev tab (.fn f) args H=E2 r (H++apn tab f args H):=by
 have j:∃ J,∃ r,Ev tab (.fn f) args H r (H++J):=by obtain⟨J,b⟩:=h H;exact⟨J,r,b⟩
 have l:∃ r,Ev tab (.fn f) args H r (H++apn tab f args H):=Classical.epsilon_spec j;obtain⟨J,b⟩:=h H;obtain⟨r',hr⟩:=l;obtain⟨rfl,e⟩:=b.det hr
 funext x H'
 exact propext ⟨fun k=>hr.det k,fun⟨d,g⟩=>d▸g▸hr⟩
theorem Ev.eq{c:Callee}{H H':ai}(h:Ev tab c args H r H'):Ev tab c args H=E2 r H':=funext fun _=>funext fun _=>propext ⟨fun k=>h.det k,fun⟨b,d⟩=>b▸d▸h⟩
def afJ(b:List iq)(r:V)(H:ai)(s:St):Prop:=s.defs=[]∧results s.au s.heap b=some r∧∃ J,s.heap=H++J
theorem fg{ps:List P}{b:List iq}{body:aq}(y:tab f=some ⟨ps,b,body⟩)(x:args.length=ps.length)
  (h:∀(H:ai) (Q:Option aq→St→Prop),(∀ j s,afJ b r H s→Q j s)→WP tab f none [.code body] ⟨cC ps args .e,[],H⟩ Q):Kf tab f args r:=by
 intro H;have g:=h H (fun _ s=>afJ b r H s) fun _ _ h=>h
 obtain⟨n,m,d,j,s,l,v,q,J,u⟩:=g;exact⟨J,xN y x ⟨n,m,d,j,s,l,0,0,s.heap,by rw [v];rfl,by rw [q],u⟩⟩
@[simp] theorem apa {t:T} {H H':ai} {x:iq}:afJ [x] r H ⟨t,[],H'⟩↔bG t H' x=some r∧∃ J,H'=H++J:=by
 simp only [afJ,results,true_and,aU];cases bG t H' x<;>simp
theorem dC{m d:Nat}{x:FC}(h:(CF tab m d (.fn f) args []).map (·.1)=some (.c (.f x))):Pure tab f args (.c (.f x)):=by
 rw [IN]at h;obtain⟨⟨r,H'⟩,b,g⟩:=h;exact⟨r,H',⟨m,d,b⟩,by rw [show r=.c (.f x) from g];simp⟩
theorem aI{m d:Nat}{x:V}(h:((CF tab m d (.fn f) args []).bind fun p=>iN deep p.2 p.1)=some x):Pure tab f args x:=by
 rw [av0]at h;obtain⟨⟨r,H'⟩,b,g⟩:=h;exact⟨r,H',⟨m,d,b⟩,g⟩
theorem wL{b:Bool}(h:∃ m d H',dN tab jc m d (.fn f) [] []=some (.c (.f (.bool b)),H')):Pure tab f [] (vb b):=by
 obtain⟨m,d,H',h⟩:=h;exact⟨_,H',⟨m,d,h⟩,by simp⟩
theorem ca{S:V→Prop}{ps:List P}{b:List iq}{body:aq}(y:tab f=some ⟨ps,b,body⟩)(x:args.length=ps.length)
  (h:∀ Q:Option aq→St→Prop,(∀ j s r,S r→oh b r s→Q j s)→WP tab f none [.code body] ⟨cC ps args .e,[],[]⟩ Q):∃ r,S r∧Pure tab f args r:=by
 have q:=h (fun _ s=>∃ r,S r∧oh b r s) fun _ _ r g l=>⟨r,g,l⟩
 obtain⟨n,m,d,j,s,g,r,hr,v,r0,l,u⟩:=q;exact⟨r,hr,r0,s.heap,xN y x ⟨n,m,d,j,s,g,0,0,s.heap,by rw [v];rfl,l,rfl⟩,u⟩
variable{fn i:Nat}{ro:Option Nat}{k:List cm}{ds:List dt}{Q:Option aq→St→Prop}
def N5(a x:Nat):aq:=.region [⟨D x,.bin .add (R a) (.k (.c (.f (.int .i64 1)))),none⟩,⟨D a,.bf (R x),none⟩] []
def rV(i a b c x:Nat)(body:aq):aq:=.seq (.region [⟨D c,.bin .lss (R a) (R b),none⟩] []) (.seq (.cond (R c) .skip (.exit i)) (.seq body (N5 a x)))
def HN(i a b c x:Nat)(body:aq):aq:=.block i (.loop (rV i a b c x body))
theorem eV{a b c x:Nat}{body:aq}{t:T}{H:ai}(N:Nat)(I:Nat→T→ai→Prop)(J:N≤9223372036854775807)(y:a≠b)(A:x≠b)
  (g:t.g a=vi 0) (l:t.g b=vi N) (E:I 0 t H)
  (step:∀ j t H,j<N→I j t H→t.g a=vi j→t.g b=vi N →
   (∀ q H',I (j+1) ((q.s x (vi (j+1:Nat))).s a (vi (j+1:Nat))) H'→q.g a=vi j→q.g b=vi N →
    WP tab fn ro (.code (N5 a x)::.inLoop (rV i a b c x body)::.inBlock i::k) ⟨q,ds,H'⟩ Q) →
   WP tab fn ro (.code body::.code (N5 a x)::.inLoop (rV i a b c x body)::.inBlock i::k) ⟨t.s c (vb true),ds,H⟩ Q)
  (done:∀ t H,I N t H→t.g a=vi N→t.g b=vi N→WP tab fn ro k ⟨t.s c (vb false),ds,H⟩ Q) :
  WP tab fn ro (.code (HN i a b c x body)::k) ⟨t,ds,H⟩ Q:=by
 have m:∀ ops:List aH,ops.all (·.op.dJ)=true→ro=none∨ops.all (·.op.dJ)=true:=fun _ h=>.inr h
 refine av ?_;refine bw (fun n s=>∃ j t H,s=⟨t,ds,H⟩∧j≤N∧n=N-j∧I j t H∧t.g a=vi j∧t.g b=vi N) N ⟨0,t,H,rfl,by omega,by omega,E,g,l⟩ ?_
 rintro n s ⟨j,t,H,rfl,K,rfl,B,g,l⟩ F;refine ag ?_;refine ab (m _ rfl) ?_;simp [g,l];by_cases d:j<N
 ·rw [decide_eq_true d];refine ag ?_;refine aj (by simp) ?_
  refine aB ?_;refine ag ?_;refine step j t H d B g l fun q H' u v z=>?_
  refine ab (m _ rfl) ?_;simp [v];rw [wrap64 (by omega) (by omega)]
  refine F (N-(j+1)) _ (by omega) ⟨j+1,_,H',rfl,by omega,rfl,by simpa using u,by simp,?_⟩
  simp [y,A,z]
 ·have:j=N:=by omega
  subst this;rw [decide_eq_false d];refine ag ?_;refine ah (by simp) ?_
  refine aT (k':=k) (by simp [exitTo]) ?_
  exact done t H B g l
def xW(a x y:Nat):aq:=.region [⟨D x,.bf (R a),none⟩,⟨D y,.bin .add (R x) (.k (.c (.f (.int .i64 1)))),none⟩,⟨D a,.bf (R y),none⟩] []
def AJ(i a c x y:Nat)(b:List aH)(body:aq):aq:=.seq (.seq (.region b []) (.cond (R c) .skip (.exit i))) (.seq body (xW a x y))
def aam(i a c x y:Nat)(b:List aH)(body:aq):aq:=.block i (.loop (AJ i a c x y b body))
theorem bZ{a c x y:Nat}{g:List aH}{body:aq}{t:T}{H:ai}(N:Nat)(I:Nat→T→ai→Prop)(K:N≤9223372036854775807)(B:g.all (·.op.dJ)=true)
  (d:t.g a=vi 0) (E:I 0 t H)
  (l:∀ j t H (L:St→Prop),j≤N→I j t H→t.g a=vi j→(∀ b,I j b H→b.g a=vi j→b.g c=vb (decide ((j:Int)<(N:Int)))→L ⟨b,ds,H⟩)→wb tab g ⟨t,ds,H⟩ L)
  (step:∀ j t H,j<N→I j t H→t.g a=vi j →
   (∀ b H',I (j+1) (((b.s x (vi j)).s y (vi (j+1:Nat))).s a (vi (j+1:Nat))) H'→b.g a=vi j →
    WP tab fn ro (.code (xW a x y)::.inLoop (AJ i a c x y g body)::.inBlock i::k) ⟨b,ds,H'⟩ Q) →
   WP tab fn ro (.code body::.code (xW a x y)::.inLoop (AJ i a c x y g body)::.inBlock i::k) ⟨t,ds,H⟩ Q)
  (done:∀ t H,I N t H→t.g a=vi N→WP tab fn ro k ⟨t,ds,H⟩ Q) :
  WP tab fn ro (.code (aam i a c x y g body)::k) ⟨t,ds,H⟩ Q:=by
 have m:∀ ops:List aH,ops.all (·.op.dJ)=true→ro=none∨ops.all (·.op.dJ)=true:=fun _ h=>.inr h
 refine av ?_;refine bw (fun n s=>∃ j t H,s=⟨t,ds,H⟩∧j≤N∧n=N-j∧I j t H∧t.g a=vi j) N ⟨0,t,H,rfl,by omega,by omega,E,d⟩ ?_
 rintro n s ⟨j,t,H,rfl,F,rfl,q,d⟩ J;refine ag ?_;refine ag ?_;refine ab (m _ B) ?_;refine l j t H _ F q d fun b q d u=>?_
 by_cases A:j<N
 ·rw [decide_eq_true (by omega)]at u
  refine aj u ?_;refine aB ?_;refine ag ?_;refine step j b H A q d fun b H' v z=>?_
  refine ab (m _ rfl) ?_;simp [z];rw [wrap64 (by omega) (by omega)]
  exact J (N-(j+1)) _ (by omega) ⟨j+1,_,H',rfl,by omega,rfl,by simpa using v,by simp⟩
 ·have:j=N:=by omega
  subst this;rw [decide_eq_false (by omega)]at u
  refine ah u ?_;refine aT (k':=k) (by simp [exitTo]) ?_
  exact done b H q d
end
end
section
open Go
def kM{b:Type}(l:List b)(p:b→Bool):Int:=match l.findIdx? p with | some j=>j | none=>-1
theorem NZ{b:Type}(l:List b)(p:b→Bool):decide (0≤kM l p)=l.any p:=by
 unfold kM
 cases h:l.findIdx? p with
 | none=>
  rw [List.findIdx?_eq_none_iff]at h;have:l.any p=false:=by rw [List.any_eq_false];intro x m;simp [h x m]
  simp [this]
 | some j=>
  rw [axe]at h;obtain⟨d,g,_⟩:=h;have:l.any p=true:=by rw [List.any_eq_true];exact⟨l[j],IT d,g⟩
  simp [this]
theorem NY{b:Type}{l:List b}{p:b→Bool}{j:Nat}(d:j<l.length)(m:p l[j]=true)(g:∀(i:Nat) (hi:i<j),p (l[i]'(by omega))=false):kM l p=j:=by
 have:l.findIdx? p=some j:=by
  rw [axe];exact⟨d,m,fun i hi=>by simp [g i hi]⟩
 simp [kM,this]
theorem N0{b:Type}{l:List b}{p:b→Bool}(d:∀(i:Nat) (hi:i<l.length),p l[i]=false):kM l p = -1:=by
 have:l.findIdx? p=none:=by
  rw [List.findIdx?_eq_none_iff];intro x g;obtain⟨i,hi,rfl⟩:=List.getElem_of_mem g;exact d i hi
 simp [kM,this]
def ints(l:List Int):List (List FC):=l.map fun n=>[fi n]
@[simp] theorem CT (l:List Int):(ints l).length=l.length:=by simp [ints]
theorem eB(l:List Int):bC 1 (ints l):=bC.map fun _=>rfl
theorem fQ{j:Nat}{l:List Int}(b:j<l.length){H:ai}:aQ H none (.c (.f (.fp (ints l).flatten j)))=some (vi l[j]):=by
 have:=agJ (H:=H) (AI b);simpa [ints]using this
variable{tab:Nat→Option ax}
def agu(t:List aH):aq:=.block 1 (.seq (.region [⟨D 10,.bf (R 8),none⟩,⟨D 5,.bf (R 10),none⟩] []) (.seq
 (.region t []) (.cond (R 16) (.seq (.region [⟨D 17,.bf (R 5),none⟩,⟨D 4,.bf (R 17),none⟩] []) .ret) .skip)))
def apg(t:List aH):ax:=⟨[P.nat 0,P.nat 1],[.tmp (P.nat 4)],.seq (.region [⟨D 4,.bf (.k (.c (.f (.int .i64 0)))),none⟩] [])
 (.seq (.seq (.region [⟨D 6,.bf (R 0),none⟩,⟨D 7,.len (R 6),none⟩,⟨D 8,.bf (.k (.c (.f (.int .i64 0)))),none⟩] []) (HN 0 8 7 9 18 (agu t)))
 (.seq (.region [⟨D 4,.bf (.k (.c (.f (.int .i64 (-1))))),none⟩] []) .ret))⟩
def aif(sz:Nat)(b:Option Nat):List aH:=[⟨D 11,.bf (R 1),none⟩,⟨D 12,.bf (R 0),none⟩,⟨D 13,.bf (R 5),none⟩,⟨D 14,.aP sz none (R 12) (R 13),none⟩,⟨D 15,.load b (R 14),none⟩,⟨D 16,.bR (R 11) [(R 15)] true,none⟩]
theorem akv{f:Nat}{d:List aH}(Y:tab f=some (apg d)){x y:V}{F:Type}{l:List F}{p:F→Bool}(X:l.length≤9223372036854775807)
  (Z:∃ c,x=.c c∧∀ H,bA H c=some l.length)
  (g:∀(j:Nat) (v:j<l.length) (t:T) (H:ai) (L:St→Prop),t.g 0=x→t.g 1=y→t.g 5=vi j →
   (∀ b J,b.g 0=x→b.g 1=y→b.g 5=vi j→b.g 7=t.g 7→b.g 8=t.g 8→b.g 16=vb (p l[j])→L ⟨b,[],H++J⟩)→wb tab d ⟨t,[],H⟩ L) :
  Kf tab f [x,y] (vi (kM l p)):=by
 obtain⟨c,rfl,U⟩:=Z;refine fg Y rfl fun H Q B=>?_
 refine ag ?_;refine ab (.inl rfl) ?_;simp;refine ag ?_;refine ag ?_;refine ab (.inl rfl) ?_;simp [U];refine eV l.length (fun j t H'=>t.g 0=.c c∧t.g 1=y∧(∃ J,H'=H++J)∧∀(i:Nat) (hi:i<l.length),i<j→p l[i]=false) X (by decide) (by decide) (by simp) (by simp) (by simp) ?_ ?_
 ·rintro j t _ v ⟨z,A,⟨J,rfl⟩,q⟩ u E next;refine av ?_;refine ag ?_;refine ab (.inl rfl) ?_;simp [u];refine ag ?_;refine ab (.inl rfl) ?_;refine g j v _ _ _ (by simp [z]) (by simp [A]) (by simp) fun b I K M N O S m=>?_
  cases s:p l[j]with
  | true=>
   refine aj (by simp [m,s]) ?_
   refine ag ?_;refine ab (.inl rfl) ?_;simp [N];refine aA (B _ _ ?_);have:=NY v s (fun i hi=>q i (by omega) hi)
   simp [this]
  | false=>
   refine ah (by simp [m,s]) ?_
   refine aB (al (next _ _ ?_ (by simp [S,u]) (by simp [O,E])))
   refine⟨by simp [K],by simp [M],⟨J++I,by simp⟩,fun i hi W=>?_⟩
   by_cases e:i=j
   ·subst e;exact s
   ·exact q i hi (by omega)
 ·rintro t _ ⟨z,A,⟨J,rfl⟩,q⟩ u E;refine ag ?_;refine ab (.inl rfl) ?_;simp;refine aA (B _ _ ?_);have:=N0 (l:=l) (p:=p) (fun i hi=>q i hi hi)
  simp [this]
theorem ny{f sz:Nat}{y:Option Nat}(F:tab f=some (apg (aif sz y))){q:Type}(l:List q)(enc:q→List FC)(val:q→V)(p:q→Bool)(g:Tg)(k:Nat)(b:List FC)
  (B:l.length≤9223372036854775807) (d:∀(j:Nat) (m:j<l.length) (H:ai),aQ H y (.c (.f (.fp (l.map enc).flatten (j*sz))))=some (val l[j]))
  (E:∀ x ∈ l,Kf tab k (val x::b.map fun c=>.c (.f c)) (vb (p x))) :
  Kf tab f [.c (.f (sl g (l.map enc))),.c (.f (.fn k b))] (vi (kM l p)):=by
 refine akv F B ⟨_,rfl,fun H=>by simp⟩ ?_
 intro j m t H L s u v z;have A:=(E l[j] (IT m)).ev H;have hi:=cT (H:=H) (g:=g) (rows:=l.map enc) (sz:=sz) (k:=.i64) (i:=(j:Int)) (by omega) (by simpa using m)
 simp [aif,s,u,v,hi,d j m,A];exact z _ _ (by simp [s]) (by simp [u]) (by simp [v]) (by simp) (by simp) (by simp)
def NN(f:Nat):ax:=⟨[P.nat 0,P.nat 1],[.tmp (P.nat 4)],.seq (.region [⟨D 4,.bf (.k (.c (.f (.bool false)))),none⟩] []) (.seq
 (.region [⟨D 5,.bf (R 0),none⟩,⟨D 6,.bf (R 1),none⟩,⟨D 7,.call f [(R 5),(R 6)] false,none⟩,⟨D 8,.bin .geq (R 7) (.k (.c (.f (.int .i64 0)))),none⟩,⟨D 4,.bf (R 8),none⟩] []) .ret)⟩
theorem jt{f k:Nat}(m:tab f=some (NN k)){a b:FC}{d:Type}{l:List d}{p:d→Bool}(h:Kf tab k [.c (.f a),.c (.f b)] (vi (kM l p))) :
  Kf tab f [.c (.f a),.c (.f b)] (vb (l.any p)):=by
 refine fg m rfl fun H Q g=>?_
 refine ag ?_;refine ab (.inl rfl) ?_;simp;refine ag ?_;refine ab (.inl rfl) ?_;have j:=h.eq;simp [j];refine aA (g _ _ ?_);simp [NZ]
end
section
open Go
theorem ak{H:ai}{b:Nat}{x:cU}(h:H[b]?=some x):b<H.length:=(BY.1 h).1
theorem gV{q s:Type}{g:q→Option s}:∀ {xs b:List q} {ys d:List s},aU g xs=some ys→aU g b=some d→aU g (xs++b)=some (ys++d)
 | [],b,ys,d,h,l=>by simp [aU]at h;subst h;simpa using l
 | x::xs,b,ys,d,h,l=>by
  simp only [aU,List.cons_append]at h ⊢
  cases m:g x with
  | none=>simp [m]at h
  | some y=>
   cases j:aU g xs with
   | none=>simp [m,j]at h
   | some zs=>simp [m,j]at h;subst h;simp [gV j l]
variable{z:Bool}{H H':ai}{sz bytes:Nat}{v y:V}{g:Tg}{rows:List (List FC)}{row:List FC}{cs:List C}
theorem jX{b g c:Nat}(h:H[b]?=some (.box cs g))(d:cs.length=sz):cM H sz (.c (.sl b 0 1 c 0 sz))=some (1,cs):=by
 simp [cM,bA,cH,h,d];rw [←d,List.take_length]
end
section
open Go
def DL(P:Program):List Field→Nat→Nat→Bool
 | [],o,n=>o == n
 | f::b,o,n=>f.offset == o&&DL P b (o+P.cellsOf f.type) n
def fu(P:Program):Nat→TypeId→Bool
 | 0,_=>false
 | n+1,t=>match P.underlying t with
  | some .bool=>P.cellsOf t == 1
  | some (.int _)=>P.cellsOf t == 1
  | some .string=>P.cellsOf t == 1
  | some (.slice e)=>P.cellsOf t == 1&&P.cellsOf e != 0&&fu P n e
  | some (.struct b)=>DL P b.toList 0 (P.cellsOf t)&&b.toList.all fun f=>fu P n f.type
  | some (.array k e)=>P.cellsOf t == k*P.cellsOf e&&fu P n e
  | _=>false
def xE(S:TypeId→List FC→Prop):List TypeId→List FC→Prop
 | [],xs=>xs=[]
 | t::ts,xs=>∃ p q,xs=p++q∧S t p∧xE S ts q
def lO(P:Program):Nat→TypeId→List FC→Prop
 | 0,_,_=>False
 | n+1,t,xs=>match P.underlying t with
  | some .bool=>∃ b,xs=[.bool b]
  | some (.int k)=>∃ m,xs=[.int k m]∧(Lit.int k m).wf=true
  | some .string=>∃ s,xs=[.str s]∧s.size≤maxLen
  | some (.slice e)=>∃ g rows,xs=[sl g rows]∧bC (P.cellsOf e) rows∧rows.length≤maxLen∧∀ r ∈ rows,lO P n e r
  | some (.struct d)=>xE (lO P n) (d.toList.map (·.type)) xs
  | some (.array k e)=>∃ rows,xs=rows.flatten∧rows.length=k∧bC (P.cellsOf e) rows∧∀ r ∈ rows,lO P n e r
  | _=>False
theorem uL{l:Type}{sz:Nat}:∀ {rows:List (List l)} {j k:Nat} {row:List l},(∀ r ∈ rows,r.length=sz)→rows[j]?=some row→k<sz→rows.flatten[j*sz+k]?=row[k]?
 | [],j,k,row,_,b,_=>by simp at b
 | r::rows,0,k,row,d,b,g=>by
  simp at b;subst b;have:=d r avQ;rw [awb,AT (by omega)]
  simp
 | r::rows,j+1,k,row,d,b,g=>by
  have hr:=d r avQ;rw [awb,avM (by rw [hr,awl];omega)]
  have e:(j+1)*sz+k-r.length=j*sz+k:=by rw [hr,awl];omega
  rw [e];exact uL (rows:=rows) (fun x m=>d x (avZ _ m)) (by simpa using b) g
theorem CI{d:Type}{sz:Nat}:∀ {rows:List (List d)},(∀ r ∈ rows,r.length=sz)→rows.flatten.length=rows.length*sz
 | [],_=>by simp
 | r::rows,h=>by
  have:=CI (rows:=rows) fun x b=>h x (avZ _ b)
  simp only [awb,avR,awa,this,h r avQ,awl,Nat.one_mul];omega
def Gs(w:World):Nat→Nat→Prop:=fun c _=>c<w.heap.size
theorem HF{w:World}{a:Addr}{v:Value}(h:w.cell? a=some v):a.block<w.heap.size∧a.spot=none:=by
 unfold World.cell? at h;split at h
 ·rename_i b;split at h
  ·simp at h
  ·rename_i d;refine⟨?_,by simpa using d⟩
   exact(Array.getElem?_eq_some_iff.1 b).1
 ·simp at h
theorem A2.flatten{l m:Type}{R:l→m→Prop}{g:List (List l)}{d:List (List m)}(j:g.length=d.length)
  (h:∀(i:Nat) xs ys,g[i]?=some xs→d[i]?=some ys→A2 R xs ys):A2 R g.flatten d.flatten:=by
 induction g generalizing d with
 | nil=>cases d with
  | nil=>exact A2.nil
  | cons y ys=>simp at j
 | cons x xs u=>cases d with
  | nil=>simp at j
  | cons y ys=>
   rw [awb,awb];exact(h 0 x y rfl rfl).append (u (by simpa using j) fun i a b q s=>h (i+1) a b (by simpa using q) (by simpa using s))
section
variable{H:Type}{enc:TypeId × Value→H}{P:Program}{w:World}{base:Nat}{spare:Nat→Bool}{held:Bool}{σ:Nat→FuncId}
def ana(σ:Nat→FuncId)(P:Program)(w:World)(n:Nat)(t:TypeId)(cs:List Value):Prop:=∃ xs,A2 (cD σ (Gs w) w) xs cs∧lO P n t xs
theorem sJ{n:Nat}(v:∀ {t:TypeId} {fuel:Nat} {cs:List Value} {x:DataW H × List MemPlace},fu P n t=true→DataW.trod enc P w base spare held fuel t cs=some x→ana σ P w n t cs∧cs.length=P.cellsOf t)
  {fuel:Nat}:∀(b:List Field) (o N:Nat) (cs:List Value),DL P b o N=true→(b.all fun f=>fu P n f.type)=true→cs.length=N →
   (∀ f ∈ b,∃ x,DataW.trod enc P w base spare held fuel f.type ((cs.drop f.offset).take (P.cellsOf f.type))=some x) →
   ∃ xs,A2 (cD σ (Gs w) w) xs (cs.drop o)∧xE (lO P n) (b.map (·.type)) xs
 | [],o,N,cs,d,_,m,_=>by
  simp [DL]at d
  exact⟨[],by rw [List.drop_of_length_le (by omega)];exact A2.nil,rfl⟩
 | f::b,o,N,cs,d,l,m,u=>by
  simp only [DL,If,beq_iff_eq]at d;simp only [List.all_cons,If]at l;obtain⟨x,j⟩:=u f avQ;rw [d.1]at j;obtain⟨⟨p,z,B⟩,s⟩:=v l.1 j;obtain⟨q,A,sq⟩:=sJ v b (o+P.cellsOf f.type) N cs d.2 l.2 m fun g y=>u g (avZ _ y)
  refine⟨p++q,?_,p,q,rfl,B,sq⟩
  have:cs.drop o=(cs.drop o).take (P.cellsOf f.type)++cs.drop (o+P.cellsOf f.type):=by
   rw [←awR,awv]
  rw [this];exact z.append A
theorem Z0(c o n k:Nat):((⟨c,o,none⟩:Addr).add n).add k=⟨c,o+(n+k),none⟩:=by
 unfold Addr.add;by_cases b:n=0<;>by_cases d:k=0<;>simp [b,d];omega
theorem acf{t e:TypeId}{k n:Nat}{cs:List Value}{x:DataW H × List MemPlace}(j:P.underlying t=some (.array k e))(h:DataW.trod enc P w base spare held (n+1) t cs=some x) :
  cs.length=P.cellsOf t∧∀ i,i<k→∃ y,DataW.trod enc P w base spare held n e ((cs.drop (i*P.cellsOf e)).take (P.cellsOf e))=some y:=by
 unfold DataW.trod at h;rw [j]at h;simp only [Option.ite_none_right_eq_some,IN]at h;obtain⟨g,xs,d,l⟩:=h;refine⟨g,fun i hi=>?_⟩
 have:=mapM_some_get d i i (by simp [hi])
 have b:xs.length=k:=by simpa using mapM_some_length d
 rw [AI (by omega)]at this
 exact⟨_,this⟩
theorem xK{j:Type}{sz:Nat}:∀ {k:Nat} {cs:List j},cs.length=k*sz→cs=((List.range k).map fun i=>(cs.drop (i*sz)).take sz).flatten
 | 0,cs,h=>by simp at h;simp [h]
 | k+1,cs,h=>by
  have d:(cs.take (k*sz)).length=k*sz:=by rw [List.length_take,h,awl];omega
  have g:=xK d;rw [List.range_succ,awG,List.flatten_append]
  have e:((List.range k).map fun i=>(cs.drop (i*sz)).take sz)=(List.range k).map fun i=>((cs.take (k*sz)).drop (i*sz)).take sz:=by
   refine List.map_congr_left fun i hi=>?_
   have b:i<k:=by simpa using hi
   have:(i+1)*sz≤k*sz:=awz _ b;rw [awl]at this;rw [List.drop_take,List.take_take,Nat.min_eq_left (by omega)]
  rw [e,←g];simp only [anc,List.map_nil,awb,List.flatten_nil,awE];have:(cs.drop (k*sz)).take sz=cs.drop (k*sz):=avS (by rw [awt,h,awl];omega)
  rw [this,awv]
theorem as2{n:Nat}:∀ {t:TypeId} {fuel:Nat} {cs:List Value} {x:DataW H × List MemPlace},fu P n t=true→DataW.trod enc P w base spare held fuel t cs=some x →
  ana σ P w n t cs∧cs.length=P.cellsOf t:=by
 induction n with
 | zero=>intro t fuel cs x g;simp [fu]at g
 | succ n ih=>
  intro t fuel cs x g h;simp only [fu]at g;split at g
  ·rename_i j;obtain⟨b,rfl,_⟩:=DataW.trod_bool j h;exact⟨⟨[.bool b],.cons (.bool b) .nil,by simp only [lO,j];exact⟨b,rfl⟩⟩,by simp at g;simp [g]⟩
  ·rename_i k j;obtain⟨m,rfl,_,hw⟩:=DataW.trod_int j h;exact⟨⟨[.int k m],.cons (.int k m) .nil,by simp only [lO,j];exact⟨m,rfl,hw⟩⟩,by simp at g;simp [g]⟩
  ·rename_i j;obtain⟨s,rfl,_,hw⟩:=DataW.trod_string j h;exact⟨⟨[.str s],.cons (.str s) .nil,by simp only [lO,j];exact⟨s,rfl,hw⟩⟩,by simp at g;simp [g]⟩
  ·rename_i e j;simp only [If,beq_iff_eq,bne_iff_ne]at g;obtain⟨⟨F,d6⟩,he⟩:=g;rcases DataW.trod_slice j h with⟨rfl,_⟩ | ⟨a,len,cap,Y,rest,m,_,rfl,_,hb,I,hm,c9,b7,_,_⟩
   ·exact⟨⟨[sl .nil []],.cons .ay .nil,by simp only [lO,j];exact⟨.nil,[],rfl,fun r hr=>by simp at hr,by simp,fun r hr=>by simp at hr⟩⟩,by simpa using F.symm⟩
   ·refine⟨?_,by simpa using F.symm⟩
    have z:∀ i,i<len→∃ p:List Value × List FC,w.cells? base (a.add (i*P.cellsOf e)) (P.cellsOf e)=some p.1∧A2 (cD σ (Gs w) w) p.2 p.1∧lO P n e p.2:=by
     intro i hi;have:=b7 i hi;rw [AI (by omega)]at this
     obtain⟨cs',F,O⟩:=av0.1 this;obtain⟨⟨xs,ha,g⟩,_⟩:=ih he O;exact⟨(cs',xs),F,ha,g⟩
    obtain⟨p,K⟩:=Go.Deep.choose_lt z;by_cases h0:len=0
    ·subst h0;refine⟨[sl .fs []],.cons (.fs0 a cap) .nil,?_⟩;simp only [lO,j];exact⟨.fs,[],rfl,fun r hr=>by simp at hr,by simp,fun r hr=>by simp at hr⟩
    have B:a.spot=none:=by
     have:=K 0 (by omega)
     obtain⟨_,c_,a8⟩:=World.cells?_some this.1;have:=a8 0 (by omega)
     rw [AI (by omega)]at this
     have:=(HF this).2;simpa [Addr.add]using this
    obtain⟨c,o,sp⟩:=a;simp only at B;subst B
    let d:=(List.range len).map fun i=>(p i).1
    let rows:=(List.range len).map fun i=>(p i).2
    have X:∀ v ∈ d,v.length=P.cellsOf e:=by
     intro v X;obtain⟨i,hi,rfl⟩:=av9.1 X;exact(World.cells?_some (K i (by simpa using hi)).1).2.1
    have hg:bC (P.cellsOf e) rows:=by
     intro r hr;obtain⟨i,hi,rfl⟩:=av9.1 hr;obtain⟨F,O,_⟩:=K i (by simpa using hi)
     rw [O.len,(World.cells?_some F).2.1]
    have Z:A2 (cD σ (Gs w) w) rows.flatten d.flatten:=by
     refine A2.flatten (by simp [rows,d]) fun i xs ys E J=>?_
     simp only [rows,d,awx,IN]at E J;obtain⟨i1,M,rfl⟩:=E;obtain⟨i2,N,rfl⟩:=J;rw [M]at N;cases N;have:=avL M;exact(K i1 (by simpa using this)).2.1
    have A:∀ i u,d.flatten[i]?=some u→w.cell? ⟨c,o+i,none⟩=some u:=by
     intro i u W;have hi:i<d.flatten.length:=(BY.1 W).1;rw [CI X]at hi;have b_:d.length=len:=by simp [d]
     rw [b_]at hi;have L:i / P.cellsOf e<len:=Nat.div_lt_of_lt_mul (by rw [Nat.mul_comm];exact hi)
     have hk:i % P.cellsOf e<P.cellsOf e:=Nat.mod_lt _ (by omega)
     have l:i=i / P.cellsOf e*P.cellsOf e+i % P.cellsOf e:=by rw [Nat.mul_comm];exact(Nat.div_add_mod _ _).symm
     have U:d[i / P.cellsOf e]?=some (p (i / P.cellsOf e)).1:=by simp [d,L]
     rw [l,uL X U hk]at W;obtain⟨_,_,hc⟩:=World.cells?_some (K _ L).1;have:=hc _ hk;rw [W]at this;rw [←this,Z0,←l]
    refine⟨[sl .fs rows],.cons ?_ .nil,?_⟩
    ·have b9:rows≠[]:=by simp [rows];omega
     have S:rows.length=len:=by simp [rows]
     have:sl Tg.fs rows=.fs rows.flatten len:=by
      cases hr:rows with
      | nil=>exact absurd hr b9
      | cons r rs=>simp only [sl,axd,atN,if_false];rw [←hr,S]
     rw [this];refine .fs rows.flatten len c o cap d.flatten I Z.len.symm (fun i hi=>?_) A fun i x u E W=>Z.2 i x u E W
     have l:i<d.flatten.length:=by rw [←Z.len];exact hi
     exact(HF (A i _ (AI l))).1
    ·simp only [lO,j];have S:rows.length=len:=by simp [rows]
     refine⟨.fs,rows,rfl,hg,by omega,fun r hr=>?_⟩
     obtain⟨i,hi,rfl⟩:=av9.1 hr;exact(K i (by simpa using hi)).2.2
  ·rename_i fs j;simp only [If]at g;obtain⟨xs,m,_,_,I,_,E⟩:=DataW.trod_struct j h;refine⟨?_,I⟩
   obtain⟨ys,F,O⟩:=sJ (n:=n) (fuel:=m) ih fs.toList 0 _ cs g.1 g.2 I fun f hf=>by
    obtain⟨i,hi⟩:=awq hf;rw [Array.getElem?_toList]at hi;have:=E i f hi;rw [this];have d5:i<fs.size:=(Array.getElem?_eq_some_iff.1 hi).1;exact⟨_,AI (by omega)⟩
   exact⟨ys,by simpa using F,by simp only [lO,j];exact O⟩
  ·rename_i k e j;simp only [If,beq_iff_eq]at g;obtain⟨Q,he⟩:=g
   cases fuel with
   | zero=>simp [DataW.trod]at h
   | succ m=>
   obtain⟨I,E⟩:=acf j h;refine⟨?_,I⟩
   have z:∀ i,i<k→∃ q:List FC,A2 (cD σ (Gs w) w) q ((cs.drop (i*P.cellsOf e)).take (P.cellsOf e))∧lO P n e q:=by
    intro i hi;obtain⟨y,J⟩:=E i hi;obtain⟨⟨q,a,b⟩,_⟩:=ih he J;exact⟨q,a,b⟩
   obtain⟨q,L⟩:=Go.Deep.choose_lt z
   let rows:=(List.range k).map q
   have a_:cs=((List.range k).map fun i=>(cs.drop (i*P.cellsOf e)).take (P.cellsOf e)).flatten:=xK (by rw [I,Q])
   refine⟨rows.flatten,?_,?_⟩
   ·rw [a_];refine A2.flatten (by simp [rows]) fun i xs ys E J=>?_
    simp only [rows,awx,IN]at E J;obtain⟨i1,M,rfl⟩:=E;obtain⟨i2,N,rfl⟩:=J;rw [M]at N;cases N;have:=avL M;exact(L i1 (by simpa using this)).1
   ·simp only [lO,j];refine⟨rows,rfl,by simp [rows],fun r hr=>?_,fun r hr=>?_⟩
    ·obtain⟨i,hi,rfl⟩:=av9.1 hr;have l:i<k:=by simpa using hi
     rw [(L i l).1.len,List.length_take,awt,I,Q];have:(i+1)*P.cellsOf e≤k*P.cellsOf e:=awz _ l;rw [awl]at this;omega
    ·obtain⟨i,hi,rfl⟩:=av9.1 hr;exact(L i (by simpa using hi)).2
  ·simp at g
end
section
variable{P:Program}{n:Nat}{t e:TypeId}{xs:List FC}
theorem ab1(d:P.underlying t=some .bool)(h:lO P (n+1) t xs):∃ b,xs=[.bool b]:=by simpa only [lO,d]using h
theorem eI{k:IntKind}(b:P.underlying t=some (.int k))(h:lO P (n+1) t xs):∃ m,xs=[.int k m]∧(Lit.int k m).wf=true:=by simpa only [lO,b]using h
theorem sk(b:P.underlying t=some (.slice e))(h:lO P (n+1) t xs):∃ g rows,xs=[sl g rows]∧bC (P.cellsOf e) rows∧rows.length≤maxLen∧∀ r ∈ rows,lO P n e r:=by simpa only [lO,b]using h
theorem oJ{d:Array Field}{ts:List TypeId}(g:P.underlying t=some (.struct d))(b:d.toList.map (·.type)=ts)(h:lO P (n+1) t xs):xE (lO P n) ts xs:=by
 subst b;simpa only [lO,g]using h
theorem tH{k:Nat}(b:P.underlying t=some (.array k e))(h:lO P (n+1) t xs):∃ rows,xs=rows.flatten∧rows.length=k∧bC (P.cellsOf e) rows∧∀ r ∈ rows,lO P n e r:=by simpa only [lO,b]using h
theorem c4{S:TypeId→List FC→Prop}{ts:List TypeId}(h:xE S (t::ts) xs):∃ p q,xs=p++q∧S t p∧xE S ts q:=h
theorem lD{d:Type}{enc:d→List FC}{p:d→Prop}:∀ {rows:List (List FC)},(∀ r ∈ rows,∃ x,r=enc x∧p x)→∃ l:List d,rows=l.map enc∧∀ x ∈ l,p x
 | [],_=>⟨[],rfl,by simp⟩
 | r::rows,h=>by
  obtain⟨x,rfl,j⟩:=h r avQ;obtain⟨l,rfl,g⟩:=lD fun r hr=>h r (avZ _ hr)
  exact⟨x::l,rfl,fun y b=>by
   rcases awf.1 b with rfl | b
   ·exact j
   ·exact g y b⟩
end
end
section
open Go Go.ChangeShapes Go.WideShapes Go.ChangeAt Go.RowKit
def qP(P:Program)(t:TypeId)(a:V):Prop:=(∃ xs,a=.a (xs.map .f)∧lO P 40 t xs∧(∃ d,P.underlying t=some d∧((∃ b,d=.struct b)∨∃ n e,d=.array n e))) ∨
 (∃ x,a=.c (.f x)∧lO P 40 t [x])
def tj(P:Program):List TypeId→List V→Prop
 | [],as=>as=[]
 | t::ts,as=>∃ a b,as=a::b∧qP P t a∧tj P ts b
section
variable{H:Type}{enc:TypeId × Value→H}{P:Program}{W W':World}
theorem wJ{f:Func}{s:ChangeSpec}{g B l A:Bool}{args:Array Value}{v:Value}{ds F:List (DataW H)}{d pa pv:List MemPlace}
  (K:DataW.Whole enc P f.params.toList s.vars g W args.toList ds F d)
  (z:∀(b:Nat) (E:Nat→Bool) (O:Bool),DataW.TrodAll enc P W' b E O f.resultTypes.toList (v.resultList f.resultTypes.size) (s.fn H (ds++F)).results [])
  (m:∀ E:Nat→Bool,(∀ p ∈ d,E p.block=true)→DataW.TrodAll enc P W' 0 E true f.params.toList args.toList (s.fn H (ds++F)).args pa)
  (u:∀ E:Nat→Bool,(∀ p ∈ d,E p.block=true)→DataW.TrodVars enc P W' E s.vars (s.fn H (ds++F)).vars pv)
  (x:d=pa++pv) (M:Below W.heap.size W W')
  (L:∀(j:Nat) (t:TypeId) (r:Value),f.resultTypes[j]?=some t→(v.resultList f.resultTypes.size)[j]?=some r→Value.okWide P W' .any 0 t r) :
  s.post enc P f g B l A W args v W':=by
 have I:∀ p ∈ d,p.block<W.heap.size:=fun p q=>K.lt p q
 have y:∀ p ∈ d,(fun b=>decide (b<W.heap.size)) p.block=true:=fun p q=>by simpa using I p q
 refine⟨ds,F,d,[],pa,pv,K,z _ _ _,m _ y,u _ y,World.keptBut_mono (fun p q=>⟨q,?_⟩) (M.frame (· ∈ d)),fun _=>?_⟩
 ·rw [x,List.mem_append]at q;exact Or.inr q
 ·obtain⟨_,_,_,_,_,S,Q⟩:=K;refine⟨L,_,_,([]++pa)++pv,⟨[]++pa,pv,trodAll_append (m _ (fun _ _=>rfl)) (z _ _ _),u _ (fun _ _=>rfl),rfl,?_,?_⟩,?_⟩
  ·intro b off q;have J:MemPlace.cell b off ∈ d:=by rw [x];simpa using q
   rw [M.frozen (p:=⟨b,off,none⟩) (I _ J)];exact S b off J
  ·intro N;have:=Q N;rw [x]at this;simpa using this
  ·intro p q _;rw [x];simpa using q
theorem n8(m:laidOutB P=true){u:Nat→Bool}(l:Below W.heap.size W W'):∀ {ts:List TypeId} {j:List Value} {ds:List (DataW H)} {ps:List MemPlace},
  (ts.all fun t=>P.readableRec t&&decide (t<P.types.size))=true→DataW.TrodAll enc P W 0 (fun _=>true) true ts j ds ps→(∀ p ∈ ps,p.block<W.heap.size)→(∀ p ∈ ps,u p.block=true) →
  DataW.TrodAll enc P W' 0 u true ts j ds ps
 | [],[],[],ps,_,h,_,_=>h
 | t::ts,v::j,d::ds,ps,hr,⟨p,q,y,z,e⟩,g,s=>by
  subst e;simp only [List.all_cons,If,decide_eq_true_eq]at hr
  exact⟨p,q,WideElems.Trod_stays m hr.1.1 hr.1.2 y (fun x b=>l.same (g x (awY _ b))) (fun x b=>s x (awY _ b)),
   n8 m l hr.2 z (fun x b=>g x (List.mem_append_right _ b)) (fun x b=>s x (List.mem_append_right _ b)),rfl⟩
 | [],_::_,_,_,_,h,_,_=>by cases h
 | [],[],_::_,_,_,h,_,_=>by cases h
 | _::_,[],_,_,_,h,_,_=>by cases h
 | _::_,_::_,[],_,_,h,_,_=>by cases h
variable{σ:Nat→FuncId}
def X0(W:World):Wd:=⟨fun _=>none,Gs W,[],W,W.heap.size⟩
theorem ach{xs:List FC}{cs:Array Value}(h:A2 (cD σ (Gs W) W) xs cs.toList):VR σ (X0 W) (.a (xs.map .f)) (.agg cs):=
 ⟨cs.toList,by simp,A2.map (g:=C.f) (h.kC fun _ _ h=>h)⟩
theorem Z7{t:TypeId}{v:Value}{d:DataW H}{ps:List MemPlace}{base:Nat}{spare:Nat→Bool}{held:Bool}{b0:Nat}(s:fu P 40 t=true)(g:Value.okWide P W .any b0 t v)
  (E:DataW.Trod enc P W base spare held t v d ps):∃ a,VR σ (X0 W) a v∧qP P t a:=by
 obtain⟨fuel,q⟩:=E;obtain⟨⟨xs,m,u⟩,I⟩:=as2 (σ:=σ) s q
 have l:v.cells.toList=[v]→∃ a,VR σ (X0 W) a v∧qP P t a:=by
  intro F;rw [F]at m
  match xs,m.len with
  | [x],_=>exact⟨.c (.f x),m.of_cons.1,.inr ⟨x,rfl,u⟩⟩
 unfold fu at s;unfold Value.okWide at g;split at g
 ·rename_i y j;obtain⟨cs,rfl,_,_⟩:=g;exact⟨_,ach m,.inl ⟨xs,rfl,u,_,j,.inl ⟨_,rfl⟩⟩⟩
 ·rename_i n e j;obtain⟨cs,rfl,_,_⟩:=g;exact⟨_,ach m,.inl ⟨xs,rfl,u,_,j,.inr ⟨_,_,rfl⟩⟩⟩
 ·rename_i A B;refine l ?_;split at s
  ·rename_i j;obtain⟨b,z,_⟩:=DataW.trod_bool j q;simp only [Cell.okWide,j,Cell.ok]at g;cases v<;>simp_all [Value.cells]
  ·rename_i j;obtain⟨b,z,_⟩:=DataW.trod_int j q;simp only [Cell.okWide,j,Cell.ok]at g;cases v<;>simp_all [Value.cells]
  ·rename_i j;obtain⟨b,z,_⟩:=DataW.trod_string j q;simp only [Cell.okWide,j,Cell.ok]at g;cases v<;>simp_all [Value.cells]
  ·rename_i j;simp only [Cell.okWide,j,Cell.ok]at g;cases v<;>simp_all [Value.cells]
  ·rename_i y j;exact absurd j (A y)
  ·rename_i n e j;exact absurd j (B n e)
  ·simp at s
theorem xF{base:Nat}{spare:Nat→Bool}{held:Bool}{b0:Nat}:∀ {ts:List TypeId} {g:List Value} {ds:List (DataW H)} {ps:List MemPlace},(ts.all fun t=>fu P 40 t)=true →
  (∀(j:Nat) t v,ts[j]?=some t→g[j]?=some v→Value.okWide P W .any b0 t v)→DataW.TrodAll enc P W base spare held ts g ds ps →
  ∃ as,A2 (VR σ (X0 W)) as g∧tj P ts as
 | [],[],[],_,_,_,_=>⟨[],A2.nil,rfl⟩
 | t::ts,v::g,d::ds,ps,l,b,⟨p,q,u,x,_⟩=>by
  simp only [List.all_cons,If]at l;obtain⟨a,y,A⟩:=Z7 (σ:=σ) l.1 (b 0 t v rfl rfl) u;obtain⟨m,z,B⟩:=xF l.2 (fun j t v h s=>b (j+1) t v (by simpa using h) (by simpa using s)) x
  exact⟨a::m,.cons y z,a,m,rfl,A,B⟩
 | [],_::_,_,_,_,_,h=>by cases h
 | [],[],_::_,_,_,_,h=>by cases h
 | _::_,[],_,_,_,_,h=>by cases h
 | _::_,_::_,[],_,_,_,h=>by cases h
theorem age{n:Nat}{H:ai}{v:V}{b:Bool}(h:iN (n+1) H v=some (.c (.f (.bool b)))):v=.c (.f (.bool b)):=by
 cases v with
 | top=>simp [iN,bX]at h
 | a xs=>simp [iN,bX]at h
 | t xs=>simp [iN]at h
 | c x=>
  simp only [iN,bX,IN]at h;obtain⟨y,d,h⟩:=h;cases h
  cases x with
  | f x=>simpa [cW]using d
  | ptr b o e=>simp only [cW]at d;split at d<;>simp at d
  | sl b o l c e s=>
   simp only [cW]at d;split at d
   ·split at d<;>simp at d
   ·split at d<;>simp at d
   ·split at d<;>simp at d
   ·split at d<;>simp at d
   ·simp at d
  | cl f g=>simp [cW]at d
  | _=>simp [cW]at d
variable{tab:Nat→Option ax}
theorem GG(s:Env P σ tab jc){f:Nat}{args:List V}{us:List Value}(h:Pure tab f args (vb true))(W:World)(x:A2 (VR σ (X0 W)) args us) :
  Calls P (σ f) us.toArray W fun e w'=>e=.returned (.bool true)∧Below W.heap.size W w':=by
 obtain⟨r,H',⟨m,d,h⟩,hr⟩:=h;have hr:=age (n:=63) hr;subst hr;intro cs
 let X:=X0 W
 have v:SR P σ X:=⟨fun b L h=>by simp [X,X0]at h,fun b J L I h=>by simp [X,X0]at h,fun c i h=>h⟩
 obtain⟨fr,X',u,l,⟨A,B,E,j,fn,F,H⟩,K,M,q,g,N⟩:=(aaj s m d).fn f args [] _ H' h X us .normal cs rfl v (aft _) x (.inl rfl);have z:=VR.bool q;subst z;exact⟨.returned (.bool true),X'.w,fr,⟨rfl,⟨g.os,g.tape,g.output,g.size,fun k y=>g.frame k y (fun b L h=>by simp [X,X0]at h)⟩⟩,l,j,A,B,E,fn,by rw [j];exact F,H⟩
theorem aaM(hE:Env P σ tab jc){s:ChangeSpec}{f:Func}{fi:Nat}{tb:TypeId}(x:s.vars=[])(B:laidOutB P=true){ts:List TypeId}(F:f.params.toList=ts)
  (O:∀ ds:List (DataW H),ds.length=ts.length→s.fn H ds=⟨[.lit (.bool true)],ds,[]⟩)
  (y:f.resultTypes=#[tb]) (K:P.underlying tb=some .bool) (E:(ts.all fun t=>P.readableRec t&&decide (t<P.types.size))=true) (u:(ts.all fun t=>fu P 40 t)=true)
  (Q:∀ as,tj P ts as→Pure tab fi as (vb true)) {g A l z:Bool} {base:Nat} {args:Array Value} {ds gs:List (DataW H)} {d:List MemPlace}
  (L:∀(j:Nat) t v,f.params[j]?=some t→args[j]?=some v→Value.okWide P W .any base t v) (X:DataW.Whole enc P f.params.toList s.vars g W args.toList ds gs d) :
  Calls P (σ fi) args W fun e W'=>∃ v,e=.returned v∧s.post enc P f g A l z W args v W':=by
 have I:=X;obtain⟨p,q,N,U,Y,a8,a_⟩:=X;rw [F]at N;rw [x]at U;obtain⟨rfl,rfl⟩:=trodVars_none U;simp only [awE]at Y;subst Y;obtain⟨as,h1,h2⟩:=xF (σ:=σ) (b0:=base) u (fun j t v h h'=>L j t v (by rw [←Array.getElem?_toList,F];exact h) (by rw [←Array.getElem?_toList];exact h')) N
 have J:ds.length=ts.length:=by
  have:∀ {ts:List TypeId} {M:List Value} {ds:List (DataW H)} {ps:List MemPlace},DataW.TrodAll enc P W 0 (fun _=>true) true ts M ds ps→ds.length=ts.length:=by
   intro ts
   induction ts with
   | nil=>intro M ds ps h;cases M<;>cases ds<;>first | rfl | cases h
   | cons t ts ih=>intro M ds ps h;cases M<;>cases ds<;>first | (obtain⟨_,_,_,h,_⟩:=h;simp [ih h]) | cases h
  exact this N
 have m:=O ds J;have Z:=GG hE (Q as h2) W h1;rw [Array.toArray_toList]at Z;refine Z.mono fun e W' h=>?_
 obtain⟨he,hg⟩:=h;subst he;refine⟨_,rfl,wJ (pa:=d) (pv:=[]) I (fun b sp hd=>?_) (fun sp S=>?_) (fun sp _=>?_) (by simp) hg ?_⟩
 ·rw [awE,m,y];exact trodAll_mk1 (shut_bool K _)
 ·rw [awE,m,F];exact n8 B hg E N (fun p hp=>I.lt p hp) S
 ·rw [awE,m,x];exact rfl
 ·exact ok_one y rfl (okWide_bool_mk K _)
end
end
section
open Go
section
variable{tab:Nat→Option ax}{f:Nat}{args:List V}{r:V}{fn:Nat}{k:List cm}{t:T}{ds:List dt}{H H':ai}{Q:Option aq→St→Prop}
theorem yk{x:Arg}{ps:List P}{as bd:aq}{g:Nat}{s:List V}(A:bP (x.ev t) [.c (.yl (H.length+1))]=some (.fn g,s))
  (l:Ev tab (.fn g) s (H++[.jM true,.lp fn t ps as bd .ready none H.length]) r H')
  (h:WP tab fn none (.im (H.length+1)::k) ⟨t,.py H.length::ds,H'⟩ Q):WP tab fn none (.code (.jQ x ps as bd)::k) ⟨t,ds,H⟩ Q:=by
 obtain⟨m,d,l⟩:=l;obtain⟨n,q,b,j,s',y,z⟩:=h;refine⟨n+1,max m q,max d b,j,s',?_,z⟩;have u:=js (tab:=tab) (av4 m q) (av4 d b) _ _ _ _ l;have v:=vB (avY m q) (avY d b) (aft n) y;simp only [run,A,u,v];simp
theorem aaL{ro:Option Nat}{b j d:Nat}{l:T}{ps:List P}{as bd:aq}{st:fL}(q:H[b]?=some (.lp j l ps as bd st none d))(g:st≠.busy)
  (h:WP tab fn ro k ⟨t,ds,H.set b (.lp j l ps as bd .exhausted none d)⟩ Q):WP tab fn ro (.im b::k) ⟨t,ds,H⟩ Q:=by
 refine lS h fun m d n=>?_
 simp only [run,q,if_neg g]
theorem Ad{ro:Option Nat}{b j d:Nat}{l:T}{ps:List P}{as bd:aq}{st:fL}(q:H[b]?=some (.lp j l ps as bd st (some .ret) d))(g:st≠.busy)
  (h:WP tab fn ro (.code .ret::k) ⟨t,ds,H.set b (.lp j l ps as bd .exhausted (some .ret) d)⟩ Q):WP tab fn ro (.im b::k) ⟨t,ds,H⟩ Q:=by
 refine lS h fun m d n=>?_
 simp only [run,q,if_neg g]
theorem agE{b g d:Nat}{l:T}{ps:List P}{as bd:aq}{j:Option aq}(q:H[b]?=some (.lp g l ps as bd .ready j d))
  (h:WP tab fn (some b) k ⟨t,ds,H.set b (.lp g l ps as bd .busy j d)⟩ Q):WP tab fn (some b) (.mu::k) ⟨t,ds,H⟩ Q:=by
 refine lS h fun m d n=>?_
 simp only [run,q]
@[simp] theorem amP {b:Nat} {as:List V}:bP (.c (.yl b)) as=some (.yield b,as):=rfl
def am_(b:Nat)(r:V)(H':ai)(j:Option aq)(s:St):Prop:=s.defs=[]∧∃ g l ps as bd st m d,s.heap[b]?=some (.lp g l ps as bd st m d)∧r=.c (.f (.bool j.isNone)) ∧
 H'=s.heap.set b (.lp g l ps as bd (if j.isNone then .ready else .done) j d)
theorem aax{b l d:Nat}{q:T}{ps:List P}{as bd:aq}{st:fL}{F:Option aq}(A:H[b]?=some (.lp l q ps as bd st F d))(E:args.length=ps.length)
  (h:WP tab l (some b) [.code as,.mu,.code bd] ⟨cC ps args q,[],H⟩ (am_ b r H')):Ev tab (.yield b) args H r H':=by
 obtain⟨n,m,g,j,s,y,B,N,L,J,v,x,K,I,M,z,rfl,rfl⟩:=h;refine⟨max m n,g+1,?_⟩;have u:run (CF tab (max m n) g) l (max m n) (some b) [.code as,.mu,.code bd] ⟨cC ps args q,[],H⟩=some (j,s):=vB (av4 m n) (aft g) (avY m n) y;simp only [CF]at u ⊢;simp only [dN,A,E,if_true,u,B,List.isEmpty_nil,z];rfl
theorem CG{C:V→ai→Prop}{b F d:Nat}{I:T}{ps:List P}{as bd:aq}{st:fL}{N:Option aq}(L:H[b]?=some (.lp F I ps as bd st N d))(M:args.length=ps.length)
  (h:∀ Q:Option aq→St→Prop,(∀ j s z u q g l x v y,s.defs=[]→s.heap[b]?=some (.lp z u q g l x v y) →
   C (.c (.f (.bool j.isNone))) (s.heap.set b (.lp z u q g l (if j.isNone then .ready else .done) j y))→Q j s)→WP tab F (some b) [.code as,.mu,.code bd] ⟨cC ps args I,[],H⟩ Q):∃ r H',Ev tab (.yield b) args H r H'∧C r H':=by
 have K:=h (fun j s=>∃ r H',C r H'∧am_ b r H' j s) fun j s z u q g l x v y A B E=>⟨_,_,E,A,z,u,q,g,l,x,v,y,B,rfl,rfl⟩
 obtain⟨n,m,J,j,s,A,r,H',B,E⟩:=K;exact⟨r,H',aax L M ⟨n,m,J,j,s,A,E⟩,B⟩
def aiH(d:List iq)(r:V)(s:St):Prop:=∃ b,s.defs=[.py b]∧s.heap[b]?=some (.jM true)∧∃ r0,results s.au (s.heap.set b (.jM false)) d=some r0∧iN deep (s.heap.set b (.jM false)) r0=some r
theorem abJ{S:V→Prop}{ps:List P}{g:List iq}{body:aq}(y:tab f=some ⟨ps,g,body⟩)(x:args.length=ps.length)
  (h:∀ Q:Option aq→St→Prop,(∀ j s r,S r→oh g r s∨aiH g r s→Q j s)→WP tab f none [.code body] ⟨cC ps args .e,[],[]⟩ Q):∃ r,S r∧Pure tab f args r:=by
 have z:=h (fun _ s=>∃ r,S r∧(oh g r s∨aiH g r s)) fun _ _ r q l=>⟨r,q,l⟩
 obtain⟨n,m,d,j,s,q,r,hr,⟨v,r0,l,u⟩ | ⟨b,v,A,r0,l,u⟩⟩:=z
 ·exact⟨r,hr,r0,s.heap,xN y x ⟨n,m,d,j,s,q,0,0,s.heap,by rw [v];rfl,l,rfl⟩,u⟩
 ·exact⟨r,hr,r0,s.heap.set b (.jM false),xN y x ⟨n,m,d,j,s,q,0,0,_,by rw [v];simp only [dD,A],l,rfl⟩,u⟩
theorem da{C:V→ai→Prop}{ps:List P}{b:List iq}{body:aq}(y:tab f=some ⟨ps,b,body⟩)(x:args.length=ps.length)
  (h:∀ Q:Option aq→St→Prop,(∀ j s r,s.defs=[]→results s.au s.heap b=some r→C r s.heap→Q j s)→WP tab f none [.code body] ⟨cC ps args .e,[],H⟩ Q):∃ r H',Ev tab (.fn f) args H r H'∧C r H':=by
 have u:=h (fun _ s=>s.defs=[]∧∃ r,results s.au s.heap b=some r∧C r s.heap) fun _ _ r g l q=>⟨g,r,l,q⟩
 obtain⟨n,m,d,j,s,g,v,r,l,q⟩:=u;exact⟨r,s.heap,xN y x ⟨n,m,d,j,s,g,0,0,s.heap,by rw [v];rfl,l,rfl⟩,q⟩
end
end
section
open Go
theorem sX{c:cE}:∀(a b:List aH) (s:St),eO c (a++b) s=(eO c a s).bind (eO c b)
 | [],b,s=>rfl
 | o::a,b,s=>by
  simp only [List.cons_append,eO]
  cases eR c s o with
  | none=>rfl
  | some s'=>exact sX a b s'
theorem vS{c:cE}:∀(os:List aH) (s:St) {s':St},eO c os s=some s'→∃ b,dq c os s=some b∧b.getLast?=some s'∧∀ i,i≤os.length→eO c (os.take i) s=b[i]?
 | [],s,s',h=>by
  simp only [eO,sh]at h;subst h;refine⟨[s],rfl,rfl,fun i hi=>?_⟩
  have:i=0:=by simpa using hi
  subst this
  rfl
 | o::os,s,s',h=>by
  simp only [eO]at h
  cases d:eR c s o with
  | none=>simp [d]at h
  | some m=>
   simp only [d]at h;obtain⟨b,g,j,l⟩:=vS os m h;refine⟨s::b,by simp only [dq,d,g],by rw [List.getLast?_cons,j];rfl,fun i hi=>?_⟩
   cases i with
   | zero=>rfl
   | succ i=>
    simp only [List.take_succ_cons,eO,d,List.getElem?_cons_succ];exact l i (by simpa using hi)
def nT(o:aH)(b l:St):Prop:=wanted b.au o.g=some false∨∃ v g d j,aZ b.au b.heap o.op=some (v,g)∧aZ b.au l.heap o.op=some (d,j)∧v.beq d=true
section
variable{tab:Nat→Option ax}{fn:Nat}{ro:Option Nat}{k:List cm}{s:St}{Q:Option aq→St→Prop}
def aib(tab:Nat→Option ax)(ops:List aH)(s:St)(c:Nat × Nat):Prop:=c.2≤ops.length∧∃ o,ops[c.1]?=some o ∧
 ((c.1≤c.2∧wb tab (ops.take c.1) s fun b=>wb tab ((ops.drop c.1).take (c.2-c.1)) b fun d=>nT o b d) ∨
 (c.2≤c.1∧wb tab (ops.take c.2) s fun d=>wb tab ((ops.drop c.2).take (c.1-c.2)) d fun b=>nT o b d))
theorem abW{ops:List aH}{c:Nat × Nat}(h:aib tab ops s c):∃ m d o g j,c.2≤ops.length∧ops[c.1]?=some o∧eO (CF tab m d) (ops.take c.1) s=some g∧eO (CF tab m d) (ops.take c.2) s=some j∧nT o g j:=by
 have y:∀(a b:Nat) (K:St→St→Prop),a≤b→wb tab (ops.take a) s (fun l=>wb tab ((ops.drop a).take (b-a)) l fun q=>K l q) →
   ∃ m d l q,eO (CF tab m d) (ops.take a) s=some l∧eO (CF tab m d) (ops.take b) s=some q∧K l q:=by
  intro a b K M h;obtain⟨m,d,l,u,v⟩:=iK _ _ h;obtain⟨E,z,q,x,L⟩:=iK _ _ v;have F:=di (js (tab:=tab) (av4 m E) (av4 d z)) _ _ u;have J:=di (js (tab:=tab) (avY m E) (avY d z)) _ _ x;refine⟨max m E,max d z,l,q,F,?_,L⟩
  have:ops.take b=ops.take a++(ops.drop a).take (b-a):=by
   have N:b=a+(b-a):=by omega
   conv=>lhs;rw [N,List.take_add]
  rw [this,sX,F];exact J
 obtain⟨H,o,I,⟨A,h⟩ | ⟨B,h⟩⟩:=h
 ·obtain⟨m,d,g,j,u,v,x⟩:=y _ _ (fun g j=>nT o g j) A h
  exact⟨m,d,o,g,j,H,I,u,v,x⟩
 ·obtain⟨m,d,j,g,u,v,x⟩:=y _ _ (fun j g=>nT o g j) B h
  exact⟨m,d,o,g,j,H,I,v,u,x⟩
theorem kU{ops:List aH}{b:List (Nat × Nat)}(hr:ro=none∨ops.all (·.op.dJ)=true)(h:wb tab ops s fun s'=>WP tab fn ro k s' Q)(hk:∀ c ∈ b,aib tab ops s c) :
  WP tab fn ro (.code (.region ops b)::k) s Q:=by
 obtain⟨m,d,s',h1,n,m',Z,j,s2,h2,h3⟩:=iK ops s h
 have g:∃ M D,∀ c ∈ b,∃ o u y,c.2≤ops.length∧ops[c.1]?=some o∧eO (CF tab M D) (ops.take c.1) s=some u∧eO (CF tab M D) (ops.take c.2) s=some y∧nT o u y:=by
  clear h1 h2 h
  induction b with
  | nil=>exact⟨0,0,fun c E=>by cases E⟩
  | cons c cs S=>
   obtain⟨M,D,S⟩:=S fun c E=>hk c (avZ _ E)
   obtain⟨U,F,o,u,y,a1,z,A,B,a5⟩:=abW (hk c avQ);refine⟨max M U,max D F,fun c' q=>?_⟩
   rcases awf.1 q with rfl | q
   ·have l:=js (tab:=tab) (avY M U) (avY D F);exact⟨o,u,y,a1,z,di l _ _ A,di l _ _ B,a5⟩
   ·obtain⟨o,u,y,a1,z,A,B,a5⟩:=S c' q;have l:=js (tab:=tab) (av4 M U) (av4 D F);exact⟨o,u,y,a1,z,di l _ _ A,di l _ _ B,a5⟩
 obtain⟨M,D,g⟩:=g;obtain⟨X,K,L,N⟩:∃ x,m≤x∧m'≤x∧M≤x:=⟨max (max m m') M,by omega,by omega,by omega⟩
 obtain⟨W,H,I,J⟩:∃ x,d≤x∧Z≤x∧D≤x:=⟨max (max d Z) D,by omega,by omega,by omega⟩
 refine⟨n+1,X,W,j,s2,?_,h3⟩;have e1:=di (js (tab:=tab) K H) ops _ h1;have e2:=vB L I (aft n) h2
 have O:(ro.isSome&&!ops.all (·.op.dJ))=false:=by
  rcases hr with rfl | hr
  ·rfl
  ·rw [hr];simp
 obtain⟨ss,f1,f2,f3⟩:=vS ops s e1
 have hx:fx (CF tab X W) ops b s=some s':=by
  cases b with
  | nil=>simpa only [fx]using e1
  | cons x xs=>
   simp only [fx,f1];rw [if_pos,f2];rw [List.all_eq_true];intro c E;obtain⟨o,u,y,a1,z,A,B,a5⟩:=g c E;have l:=js (tab:=tab) N J
   have hi:c.1≤ops.length:=by
    have:=(BY.1 z).1;omega
   have Y:=di l _ _ A;have b4:=di l _ _ B;rw [f3 _ hi]at Y;rw [f3 _ a1]at b4;simp only [sameAt,z,Y,b4];rcases a5 with hw | ⟨v,H1,v',H2,g1,g2,g3⟩
   ·rw [hw]
   ·split
    ·rfl
    ·simp only [g1,g2,g3]
 simp only [run,O,hx,e2];simp
end
end
section
open Go
theorem yd(l:List Int):(ints l).flatten=l.map fi:=by
 induction l with
 | nil=>rfl
 | cons m l b=>simp only [ints,anc,awb]at b ⊢;rw [b];rfl
theorem kO{n:Nat}:∀(l:List C) (H:ai),(∀ x ∈ l,∃ y,x=.f y)→l.foldl (fun H x=>fZ n x H) H=H
 | [],_,_=>rfl
 | x::l,H,h=>by
  obtain⟨y,rfl⟩:=h x avQ;simp only [awF,Ib];exact kO l H fun x b=>h x (avZ _ b)
end
section
open Go
def RB(H:ai)(b sz ep:Nat)(rows:List (List FC)):Prop:=H[b]?=some (.bE sz (rows.flatten.map .f) 0 ep .loc)
def Fm(b:Nat)(H H':ai):Prop:=H.length≤H'.length∧∀ d:Nat,d≠b→d<H.length→H'[d]?=H[d]?
theorem Fm.refl{b:Nat}(H:ai):Fm b H H:=⟨aft _,fun _ _ _=>rfl⟩
theorem Fm.trans{b:Nat}{H H' d:ai}(h:Fm b H H')(j:Fm b H' d):Fm b H d:=
 ⟨avV h.1 j.1,fun g e l=>(j.2 g e (awr l h.1)).trans (h.2 g e l)⟩
theorem Fm.push{b:Nat}(H J:ai):Fm b H (H++J):=⟨by simp,fun d _ l=>AT l⟩
theorem Fm.set{b:Nat}(H:ai)(x:cU):Fm b H (H.set b x):=⟨by simp,fun d e _=>By (Ne.symm e)⟩
theorem Fm.get{b:Nat}{H H':ai}(h:Fm b H H'){d:Nat}{x:cU}(g:H[d]?=some x)(e:d≠b):H'[d]?=some x:=by rw [h.2 d e (ak g)];exact g
theorem Dy{sz:Nat}{row:List FC}(hr:row.length=sz):∀ {rows:List (List FC)} {j:Nat},bC sz rows→j<rows.length →
  rows.flatten.take (j*sz)++row++rows.flatten.drop (j*sz+sz)=(rows.set j row).flatten
 | [],_,_,d=>by simp at d
 | r::rows,0,b,_=>by
  have:=b r avQ;subst this
  simp
 | r::rows,j+1,b,d=>by
  have g:=b r avQ;have s:=Dy hr (rows:=rows) (j:=j) (fun x q=>b x (avZ _ q)) (by simpa using d)
  simp only [awb,axc];rw [←s];have l:(j+1)*sz=r.length+j*sz:=by rw [g,awl];omega
  have m:(j+1)*sz+sz=r.length+(j*sz+sz):=by omega
  rw [m,l,List.take_append,axm];simp [avS,awh]
section
variable{H:ai}{b sz ep j:Nat}{rows:List (List FC)}{row:List FC}
theorem RB.lt(h:RB H b sz ep rows):b<H.length:=ak h
theorem RB.push(h:RB H b sz ep rows)(J:ai):RB (H++J) b sz ep rows:=by
 unfold RB at *;rw [AT (ak h)];exact h
theorem RB.len(h:RB H b sz ep rows){o l c:Nat}:bA H (.sl b o l c ep sz)=some l:=by
 unfold RB at h;simp [bA,h]
theorem RB.idx(h:RB H b sz ep rows){n c:Nat}{k:IntKind}{i:Int}(d:0≤i)(hi:i<n){o:Nat}:aG H sz none (.c (.sl b o n c ep sz)) (.c (.f (.int k i)))=some (.c (.ptr b (o+i.toNat*sz) ep)):=by
 unfold RB at h;simp only [aG,dk,d,hi,if_true,h,and_self]
theorem RB.ldr(h:RB H b sz ep rows)(hg:bC sz rows)(g:rows[j]?=some row):aQ H (some sz) (.c (.ptr b (j*sz) ep))=some (.a (row.map .f)):=by
 unfold RB at h;have d:row.length=sz:=hg row (avL g);have:=pC (k:=0) hg g (by omega)
 simp only [an,h,if_true];rw [←List.map_drop];rw [Nat.add_zero]at this;rw [this]
 have l:(row.map C.f++((rows.drop (j+1)).flatten.map C.f)).take sz=row.map C.f:=by
  rw [awB (by simp [d]),avS (by simp [d])]
 simp [d]
theorem RB.str(h:RB H b sz ep rows)(hg:bC sz rows)(l:j<rows.length)(hr:row.length=sz) :
  ∃ H',df H (.ptr b (j*sz) ep) (row.map .f)=some H'∧RB H' b sz ep (rows.set j row)∧Fm b H H'∧H'.length=H.length:=by
 have m:=en hg;have g:(j+1)*sz≤rows.length*sz:=awz _ l;have d:j*sz+sz≤rows.flatten.length:=by rw [m];rw [awl]at g;omega
 unfold RB at h ⊢;refine⟨H.set b (.bE sz ((rows.set j row).flatten.map .f) 0 ep .loc),?_,?_,Fm.set _ _,by simp⟩
 ·simp only [ba,h,Nat.zero_le,true_and,av7,hr,d,if_true];rw [←Dy hr hg l];simp [over,hr]
 ·exact OF (ak h)
end
theorem afX{k n:Nat}(h:k≤n):DY (vi k) n=some k:=by
 have:(0:Int)≤k∧(k:Int)≤n:=by omega
 simp [DY,dk,this]
theorem iF{t:T}{H:ai}{x:iq}{r:V}(h:bG t H x=some r):Km.results t H [x]=some r:=by
 simp [Km.results,aU,h]
@[simp] theorem asi {t:T} {H:ai} (sz:Nat) (zs:List FC) (x:Arg):aZ t H (.clear sz zs x)=(uB H sz zs (x.ev t)).map (.t [],·):=rfl
@[simp] theorem ar6 {a b:Int}:Ok false [vi a,vi b]=some (vi (max a b)):=by
 have:(if a<b then b else a)=max a b:=by split<;>omega
 simp only [Ok,yx,H9];simp [this,V.int]
end
section
open Go
def gZ(l:List (List FC))(i j:Nat):List (List FC):=(l.set i (l.getD j [])).set j (l.getD i [])
def dU(a b:Nat)(l d:List (List FC)):Prop:=d.Perm l∧d.take a=l.take a∧d.drop b=l.drop b
theorem dU.refl(a b:Nat)(l:List (List FC)):dU a b l l:=⟨.refl _,rfl,rfl⟩
theorem dU.trans{a b:Nat}{l j d:List (List FC)}(h:dU a b l j)(g:dU a b j d):dU a b l d:=⟨g.1.trans h.1,g.2.1.trans h.2.1,g.2.2.trans h.2.2⟩
theorem dU.len{a b:Nat}{l d:List (List FC)}(h:dU a b l d):d.length=l.length:=h.1.length_eq
theorem dU.lt{a b:Nat}{l d:List (List FC)}(h:dU a b l d){i:Nat}(hi:i<a):d[i]?=l[i]?:=by
 have:=congrArg (·[i]?) h.2.1;simpa [av6,hi]using this
theorem dU.ge{a b:Nat}{l d:List (List FC)}(h:dU a b l d){i:Nat}(hi:b≤i):d[i]?=l[i]?:=by
 have:=congrArg (·[i-b]?) h.2.2;simpa [avU,show b+(i-b)=i by omega]using this
theorem dU.mono{a b a' d:Nat}{l g:List (List FC)}(h:dU a b l g)(j:a'≤a)(m:b≤d):dU a' d l g:=by
 refine⟨h.1,?_,?_⟩
 ·have:=congrArg (·.take a') h.2.1;simpa [List.take_take,Nat.min_eq_left j]using this
 ·have:=congrArg (·.drop (d-b)) h.2.2;simpa [awR,show b+(d-b)=d by omega]using this
theorem AU(l:List (List FC))(i j:Nat):(gZ l i j).length=l.length:=by simp [gZ]
theorem fY{l:List (List FC)}{i j:Nat}(hi:i<l.length)(g:j<l.length)(k:Nat):(gZ l i j)[k]?=if k=j then l[i]? else if k=i then l[j]? else l[k]?:=by
 have m:l.getD i []=l[i]:=by simp [List.getD,AI hi]
 have q:l.getD j []=l[j]:=by simp [List.getD,AI g]
 simp only [gZ,m,q,List.getElem?_set];by_cases b:j=k
 ·subst b;simp [AI hi,g]
 ·by_cases d:i=k
  ·subst d;simp [b,Ne.symm b,AI g,hi]
  ·simp [b,d,Ne.symm b,Ne.symm d]
theorem ef{a b:Nat}{l:List (List FC)}{i j:Nat}(hi:a≤i)(s:i<b)(x:a≤j)(u:j<b)(v:b≤l.length):dU a b l (gZ l i j):=by
 have d:i<l.length:=by omega
 have g:j<l.length:=by omega
 refine⟨?_,?_,?_⟩
 ·have m:l.getD i []=l[i]:=by simp [List.getD,AI d]
  have q:l.getD j []=l[j]:=by simp [List.getD,AI g]
  simp only [gZ,m,q];exact List.set_set_perm d g
 ·apply List.ext_getElem?;intro k;simp only [av6];split
  ·rw [fY d g,if_neg (by omega),if_neg (by omega)]
  ·rfl
 ·apply List.ext_getElem?;intro k;simp only [avU];rw [fY d g,if_neg (by omega),if_neg (by omega)]
section
variable{H:ai}{b sz ep:Nat}{rows:List (List FC)}
theorem RB.swap(h:RB H b sz ep rows)(hg:bC sz rows){i j:Nat}(hi:i<rows.length)(m:j<rows.length) :
  ∃ d g,df H (.ptr b (i*sz) ep) (rows[j].map .f)=some d∧RB d b sz ep (rows.set i rows[j])∧df d (.ptr b (j*sz) ep) (rows[i].map .f)=some g∧RB g b sz ep (gZ rows i j)∧Fm b H g:=by
 have y:rows[i].length=sz:=hg _ (IT hi);have q:rows[j].length=sz:=hg _ (IT m);obtain⟨d,z,r1,v,-⟩:=h.str hg hi q
 have l:bC sz (rows.set i rows[j]):=fun r hr=>by
  rcases List.mem_or_eq_of_mem_set hr with h | rfl
  ·exact hg r h
  ·exact q
 obtain⟨g,A,r2,x,-⟩:=r1.str l (j:=j) (by simpa using m) y
 refine⟨d,g,z,r1,A,?_,v.trans x⟩;have s:rows.getD i []=rows[i]:=by simp [List.getD,AI hi]
 have u:rows.getD j []=rows[j]:=by simp [List.getD,AI m]
 simp only [gZ,s,u];exact r2
theorem dU.te{a b:Nat}{l d:List (List FC)}(h:dU a b l d)(hg:bC sz l):bC sz d:=fun r hr=>hg r (h.1.mem_iff.1 hr)
end
structure tT(W:List FC→Prop)(c:List FC→List FC→Int):Prop where
 Ct:∀ {x y},W x→W y→c x y<0→¬ c y x<0
 trans:∀ {x y z},W x→W y→W z→¬ c y x<0→¬ c z y<0→¬ c z x<0
def Up(c:List FC→List FC→Int)(a b:Nat)(l:List (List FC)):Prop:=∀ i j x y,a≤i→i<j→j<b→l[i]?=some x→l[j]?=some y→¬ c y x<0
end
section
open Go
theorem xJ{l:List (List FC)}{a m b:Nat}(j:a≤m)(q:m≤b)(s:b≤l.length):∃ X U V Y,l=X++(U++(V++Y))∧X.length=a∧U.length=m-a∧V.length=b-m:=by
 refine⟨l.take a,(l.drop a).take (m-a),(l.drop m).take (b-m),l.drop b,?_,by simp;omega,by simp;omega,by simp;omega⟩
 have g:(l.drop m).take (b-m)++l.drop b=l.drop m:=by
  have:=awv (b-m) (l.drop m)
  rwa [awR,show m+(b-m)=b by omega]at this
 have d:(l.drop a).take (m-a)++l.drop m=l.drop a:=by
  have:=awv (m-a) (l.drop a)
  rwa [awR,show a+(m-a)=m by omega]at this
 rw [g,d,awv]
theorem dU.mem{a b:Nat}{l m:List (List FC)}(h:dU a b l m)(d:a≤b)(K:b≤l.length){i:Nat}{x:List FC}(W:a≤i)(Z:i<b)(z:m[i]?=some x):∃ j,a≤j∧j<b∧l[j]?=some x:=by
 obtain⟨X,U,V,Y,e,S,lU,Q⟩:=xJ (aft a) d K;have hl:=h.len;obtain⟨X',E,F,v,H,u,O,s⟩:=xJ (l:=m) (aft a) d (by omega)
 obtain rfl:U=[]:=awm.1 (by omega)
 obtain rfl:E=[]:=awm.1 (by omega)
 obtain⟨g,N,L⟩:=h;subst e;subst H
 have I:X'=X:=by
  simpa [awB (show a≤X.length by omega),awB (show a≤X'.length by omega),avS (show X.length≤a by omega),avS (show X'.length≤a by omega)]using N
 have J:v=Y:=by
  have q:∀ {A B C:List (List FC)},A.length=a→B.length=b-a→(A++([]++(B++C))).drop b=C:=by
   intro A B C hA hB;rw [axb,←awh,List.drop_append_of_le_length (by simp;omega),List.drop_of_length_le (by simp;omega),axb]
  rwa [q u s,q S Q]at L
 subst I;subst J
 have g:F.Perm V:=by
  have:=(List.perm_append_left_iff X').1 g;simp only [axb]at this;exact(List.perm_append_right_iff v).1 this
 rw [axb,avM (by omega),AT (by omega)]at z
 obtain⟨j,y⟩:=awq (g.mem_iff.1 (avL z));have M:=(BY.1 y).1;refine⟨a+j,by omega,by omega,?_⟩
 rw [axb,avM (by omega),AT (by omega)]
 rw [←y];congr 1;omega
section
variable{W:List FC→Prop}{c:List FC→List FC→Int}
theorem Up.mono{a b a' d:Nat}{l:List (List FC)}(h:Up c a b l)(u:a≤a')(v:d≤b):Up c a' d l:=
 fun i j x y q g s m hy=>h i j x y (by omega) g (by omega) m hy
theorem Up.one{a b:Nat}{l:List (List FC)}(h:b≤a+1):Up c a b l:=fun i j x y d g m=>by omega
theorem Up.of{a b:Nat}{l q:List (List FC)}(h:Up c a b l)(m:∀ k,a≤k→k<b→q[k]?=l[k]?):Up c a b q:=fun i j x y d s g u hy=>
 h i j x y d s g (by rw [←m i d (by omega)];exact u) (by rw [←m j (by omega) g];exact hy)
def jH(c:List FC→List FC→Int)(l:List (List FC))(i j:Nat):Prop:=∀ x y,l[i]?=some x→l[j]?=some y→¬ c y x<0
theorem jH.trans{l:List (List FC)}{i j k:Nat}(hc:tT W c)(b:∀ r ∈ l,W r)(h:jH c l i j)(q:jH c l j k)(d:j<l.length):jH c l i k:=fun x y g hy=>by
 have m:=AI d;exact hc.trans (b _ (avL g)) (b _ (IT d)) (b _ (avL hy)) (h _ _ g m) (q _ _ m hy)
end
end
section
open Go
def aL:C→Option Nat
 | .sl b _ _ _ _ _=>some b
 | _=>none
def LR(H:ai)(c:C)(sz:Nat)(rows:List (List FC)):Prop:=(rows=[]∧(c=.f .ay∨c=.f .es))∨(rows≠[]∧∃ b ep,c=.sl b 0 rows.length 0 ep sz∧RB H b sz ep rows)
def Kb(H H':ai)(c:C):Prop:=H.length≤H'.length∧∀(i:Nat) y,H[i]?=some y→aL c≠some i→H'[i]?=some y
section
variable{H H':ai}{c:C}{sz:Nat}{rows:List (List FC)}
theorem LR.nil(H:ai)(sz:Nat):LR H (.f .ay) sz []:=.inl ⟨rfl,.inl rfl⟩
theorem LR.bN(h:LR H c sz rows)(g:∀ i y,H[i]?=some y→aL c=some i→H'[i]?=some y):LR H' c sz rows:=by
 rcases h with h | ⟨h,b,ep,rfl,d⟩
 ·exact .inl h
 ·exact .inr ⟨h,b,ep,rfl,g b _ d rfl⟩
theorem LR.push(h:LR H c sz rows)(J:ai):LR (H++J) c sz rows:=h.bN fun i y hy _=>by rw [AT (ak hy)];exact hy
theorem LR.lt(h:LR H c sz rows){i:Nat}(hi:aL c=some i):i<H.length:=by
 rcases h with⟨_,rfl | rfl⟩ | ⟨h,b,ep,rfl,d⟩
 ·cases hi
 ·cases hi
 ·cases hi;exact d.lt
theorem LR.cB(h:LR H c sz rows){i:Nat}{cs:List C}{j:Nat}(g:H[i]?=some (.box cs j)):aL c≠some i:=by
 rcases h with⟨_,rfl | rfl⟩ | ⟨h,b,ep,rfl,d⟩
 ·simp [aL]
 ·simp [aL]
 ·intro e;cases e;unfold RB at d;rw [d]at g;cases g
theorem LR.set(h:LR H c sz rows){i:Nat}(hi:aL c≠some i)(x:cU):LR (H.set i x) c sz rows:=h.bN fun j y hy b=>by
 have:i≠j:=by rintro rfl;exact hi b
 rw [By this];exact hy
theorem LR.len(h:LR H c sz rows):bA H c=some rows.length:=by
 rcases h with⟨rfl,rfl | rfl⟩ | ⟨h,b,ep,rfl,d⟩
 ·rfl
 ·rfl
 ·exact d.len
theorem LR.at(h:LR H c sz rows)(hg:bC sz rows){j:Nat}(g:j<rows.length):∃ b ep,aG H sz none (.c c) (vi j)=some (.c (.ptr b (j*sz) ep))∧aQ H (some sz) (.c (.ptr b (j*sz) ep))=some (.a (rows[j].map .f)):=by
 rcases h with⟨rfl,_⟩ | ⟨h,b,ep,rfl,d⟩
 ·simp at g
 ·have:=d.idx (n:=rows.length) (c:=0) (k:=.i64) (o:=0) (i:=(j:Int)) (by omega) (by omega)
  rw [av2,awn]at this;exact⟨b,ep,this,d.ldr hg (AI g)⟩
theorem LR.ex(h:LR H c sz rows)(hg:bC sz rows)(n:Nat):∃ g,cW (n+1) H c=some (sl g rows):=by
 rcases h with⟨rfl,rfl | rfl⟩ | ⟨h,b,ep,rfl,d⟩
 ·exact⟨.nil,rfl⟩
 ·exact⟨.es,rfl⟩
 ·refine⟨.fs,?_⟩;have j:rows.length*sz=rows.flatten.length:=(en hg).symm;unfold RB at d;simp only [iV,d];rw [if_pos ⟨trivial,trivial,by rw [av7,awn,j];exact aft _⟩,List.drop_zero,avS (by rw [av7];omega),rP]
  cases rows with
  | nil=>exact absurd rfl h
  | cons x l=>simp [sl]
theorem ab5{g g':Tg}{rows:List (List FC)}(h:rows≠[]):sl g rows=sl g' rows:=by
 cases rows with
 | nil=>exact absurd rfl h
 | cons x l=>rfl
theorem LR.exU(h:LR H c sz rows)(hg:bC sz rows):∃ g,∀(H':ai) (n:Nat),(∀ i y,H[i]?=some y→aL c=some i→H'[i]?=some y)→cW (n+1) H' c=some (sl g rows):=by
 by_cases hr:rows=[]
 ·rcases h with⟨rfl,rfl | rfl⟩ | ⟨h,_⟩
  ·exact⟨.nil,fun _ _ _=>rfl⟩
  ·exact⟨.es,fun _ _ _=>rfl⟩
  ·exact absurd hr h
 ·refine⟨.fs,fun H' n b=>?_⟩
  obtain⟨g,e⟩:=(h.bN b).ex hg n;rw [e,ab5 hr]
theorem LR.app(h:LR H c sz rows)(hg:bC sz rows)(O':sz≠0){row:List FC}(hr:row.length=sz){bytes:Nat}(d:bI (rows.length+1) bytes=true){b1 fl1:Nat}(q:H[b1]?=some (.box (row.map .f) fl1)) :
  ∃ l H',bz H sz bytes (.c c) (.c (.sl b1 0 1 1 0 sz))=some (.c l,H')∧LR H' l sz (rows++[row])∧Kb H H' c∧(aL l=aL c∨aL l=some H.length):=by
 have g:cM H sz (.c (.sl b1 0 1 1 0 sz))=some (1,row.map .f):=jX q (by simp [hr])
 rcases h with⟨rfl,s⟩ | ⟨v,b,ep,rfl,m⟩
 ·have d:bI 1 bytes=true:=by simpa using d
  refine⟨.sl H.length 0 1 0 0 sz,H++[.bE sz (row.map .f) 0 0 .loc],?_,.inr ⟨by simp,H.length,0,rfl,?_⟩,⟨by simp,fun i y hy _=>by rw [AT (ak hy)];exact hy⟩,.inr rfl⟩
  ·rcases s with rfl | rfl<;>simp [bz,g,d,O']
  ·simp [RB]
 ·have j:rows.length*sz=rows.flatten.length:=(en hg).symm;unfold RB at m;refine⟨.sl b 0 (rows.length+1) 0 (ep+1) sz,H.set b (.bE sz (rows.flatten.map .f++row.map .f) 0 (ep+1) .loc),?_,.inr ⟨by simp,b,ep+1,by simp,?_⟩,⟨by simp,fun i y hy u=>?_⟩,.inl rfl⟩
  ·simp only [bz,g,O',if_false,m,and_self,if_true];simp only [Nat.add_one_ne_zero,if_false];rw [if_pos ⟨trivial,by rw [av7];exact j,by simp⟩,d]
   simp
  ·unfold RB;rw [OF (ak m)];simp
  ·have:b≠i:=by rintro rfl;exact u rfl
   rw [By this];exact hy
theorem Kb.refl(H:ai)(c:C):Kb H H c:=⟨aft _,fun _ _ h _=>h⟩
theorem Kb.push(H J:ai)(c:C):Kb H (H++J) c:=⟨by simp,fun i y hy _=>by rw [AT (ak hy)];exact hy⟩
theorem Kb.apP{b o l cp ep s:Nat}(h:Fm b H H'):Kb H H' (.sl b o l cp ep s):=⟨h.1,fun i y hy d=>by
 have:i≠b:=by rintro rfl;exact d rfl
 exact h.get hy this⟩
end
end
section
open Go
theorem uK{g:Type}{sz:Nat}:∀ {rows:List (List g)} {j:Nat} {row:List g},(∀ r ∈ rows,r.length=sz)→rows[j]?=some row→(rows.flatten.drop (j*sz)).take sz=row
 | [],j,row,_,b=>by simp at b
 | r::rows,0,row,d,b=>by
  simp at b;subst b;have:=d r avQ;subst this
  simp
 | r::rows,j+1,row,d,b=>by
  have hr:=d r avQ;have m:=uK (rows:=rows) (j:=j) (row:=row) (fun x l=>d x (avZ _ l)) (by simpa using b)
  rw [awb,show(j+1)*sz=r.length+j*sz by rw [hr,awl];omega,←awR,List.drop_left]
  exact m
theorem vk{b:Type}:∀ {cs:List b} {k:Nat} {x:b},k<cs.length→over cs k [x]=cs.set k x
 | [],k,x,h=>by simp at h
 | c::cs,0,x,_=>by simp [over]
 | c::cs,k+1,x,h=>by
  have:=vk (cs:=cs) (k:=k) (x:=x) (by simpa using h)
  simp only [over,awa,List.length_nil]at this ⊢;rw [List.take_succ_cons,axc,←this];simp
section
variable{H:ai}{b sz ep j k n:Nat}{rows:List (List FC)}{row:List FC}
theorem RB.ldc{x:FC}(h:RB H b sz ep rows)(hg:bC sz rows)(g:rows[j]?=some row)(l:row[k]?=some x):aQ H none (.c (.ptr b (j*sz+k) ep))=some (.c (.f x)):=by
 unfold RB at h;have m:row.length=sz:=hg row (avL g);have q:=(BY.1 l).1;have:=uL hg g (by omega:k<sz)
 simp only [an,h,if_true];rw [List.map_drop.symm];have e:(rows.flatten.drop (j*sz+k))[0]?=some x:=by rw [avU,Nat.add_zero,this,l]
 cases d:rows.flatten.drop (j*sz+k)with
 | nil=>rw [d]at e;simp at e
 | cons y ys=>rw [d]at e;simp at e;simp [aF,e]
end
def akf(sz:Nat)(zs:List FC)(bytes:Nat):ax:=⟨[P.nat 0],[.tmp (P.nat 2)],.seq (.region [⟨D 2,.bf (.k (.c (.f (.ay)))),none⟩] []) (.seq (.seq (.region [⟨D 3,.bf (R 0),none⟩,⟨D 4,.eq false .sl (R 3) (.k (.c (.f (.ay)))),none⟩] [])
 (.cond (R 4) (.seq (.region [⟨D 2,.bf (.k (.c (.f (.ay)))),none⟩] []) .ret) .skip)) (.seq (.region [⟨D 5,.aO sz zs 0 [],none⟩,⟨D 6,.bf (R 0),none⟩,⟨D 7,.append sz bytes (R 5) (R 6),none⟩,⟨D 2,.bf (R 7),none⟩] []) .ret))⟩
section
variable{tab:Nat→Option ax}{F sz bytes:Nat}{zs:List FC}{H:ai}{g:Tg}{rows:List (List FC)}
theorem xM{cs:List FC}{n:Nat}:zW H .sl (.c (.f (.fs cs n))) (.c (.f .ay))=some false:=rfl
theorem agb:zW H .sl (.c (.f .ay)) (.c (.f .ay))=some true:=rfl
theorem ao':zW H .sl (.c (.f .es)) (.c (.f .ay))=some false:=rfl
theorem aao(u:tab F=some (akf sz zs bytes))(l:sz≠0)(v:bC sz rows)(j:bI rows.length bytes=true) :
  ∃ r H',Ev tab (.fn F) [.c (.f (sl g rows))] H r H'∧∃ c J,r=.c c∧H'=H++J∧LR (H++J) c sz rows∧∀ i,aL c=some i→H.length≤i:=by
 refine da (C:=fun r H'=>∃ c J,r=.c c∧H'=H++J∧LR (H++J) c sz rows∧∀ i,aL c=some i→H.length≤i) u rfl fun Q m=>?_
 refine ag (ab (.inl rfl) ?_);simp;refine ag ?_;refine ag (ab (.inl rfl) ?_)
 cases rows with
 | nil=>
  cases g with
  | nil=>
   simp [sl,Tg.fc,agb];refine aj (by simp) ?_
   refine ag (ab (.inl rfl) ?_);simp
   exact aA (m _ _ (.c (.f .ay)) rfl (by simp [Km.results,aU]) ⟨_,[],rfl,by simp,.inl ⟨rfl,.inl rfl⟩,by simp [aL]⟩)
  | es=>
   simp [sl,Tg.fc,ao'];refine ah (by simp) (aB ?_)
   refine ag (ab (.inl rfl) ?_);simp [bz,cM,bA,cH,l]
   exact aA (m _ _ (.c (.f .es)) rfl (by simp [Km.results,aU]) ⟨_,[],rfl,by simp,.inl ⟨rfl,.inr rfl⟩,by simp [aL]⟩)
  | fs=>
   simp [sl,Tg.fc,xM];refine ah (by simp) (aB ?_)
   refine ag (ab (.inl rfl) ?_);simp [bz,cM,bA,cH,l]
   exact aA (m _ _ (.c (.f .es)) rfl (by simp [Km.results,aU]) ⟨_,[],rfl,by simp,.inl ⟨rfl,.inr rfl⟩,by simp [aL]⟩)
 | cons x r=>
  have d:cM H sz (.c (.f (.fs (x::r).flatten (x::r).length)))=some ((x::r).length,(x::r).flatten.map .f):=by
   have q:=CB (H:=H) (g:=.fs) v;have s:=rO (H:=H) .fs (x::r);simp only [sl,axd,atN,if_false]at q s;simp only [cM,q,s]
  have b:bI (r.length+1) bytes=true:=by simpa using j
  simp only [sl,axd,atN,if_false];simp [xM];refine ah (by simp) (aB ?_)
  refine ag (ab (.inl rfl) ?_);simp only [awb,awa]at d;simp [bz,d,l,b];refine aA (m _ _ (.c (.sl H.length 0 (r.length+1) 0 0 sz)) rfl (by simp [Km.results,aU]) ⟨_,[.bE sz ((x::r).flatten.map .f) 0 0 .loc],rfl,by simp,.inr ⟨by simp,H.length,0,rfl,by simp [RB]⟩,by simp [aL]⟩)
end
end
section
open Go
theorem Z1{H:ai}{sz:Nat}{g:Tg}{rows:List (List FC)}(j:bC sz rows):cM H sz (.c (.f (sl g rows)))=some (rows.length,rows.flatten.map .f):=by
 have b:=CB (H:=H) (g:=g) j;have d:=rO (H:=H) g rows;have e:∀ s,sl g rows≠.str s:=fun s=>by cases rows<;>cases g<;>simp [sl,Tg.fc]
 generalize sl g rows=x at *;cases x<;>simp only [cM,b,d];exact absurd rfl (e _)
end
section
set_option linter.unusedVariables false
open Go
abbrev yn(d:Nat)(op:cK):aH:=⟨D d,op,none⟩
abbrev ym(d k:Nat):aH:=⟨D d,.bf (R k),none⟩
abbrev yi(n:Int):Arg:=.k (.c (.f (.int .i64 n)))
abbrev yt:Arg:=.k (.c (.f (.bool true)))
abbrev yf:Arg:=.k (.c (.f (.bool false)))
abbrev ys(z a b:Nat):aH:=⟨none,.store z (R a) (R b),none⟩
abbrev yb(d:Nat)(o:BinOp)(a b:Nat):aH:=⟨D d,.bin o (R a) (R b),none⟩
abbrev ya(d z a b:Nat):aH:=⟨D d,.aP z none (R a) (R b),none⟩
abbrev yl(d z a:Nat):aH:=⟨D d,.load (some z) (R a),none⟩
abbrev yr(l:List aH):aq:=.region l []
structure bu where
 A5:Nat
 ins:Nat
 heap:Nat
 vE:Nat
 brk:Nat
 piv:Nat
 rev:Nat
 part:Nat
 Pc:Nat
 pins:Nat
 uV:Nat
 med:Nat
 ord:Nat
 npt:Nat
 O_:Nat
 len:Nat
 arw:Nat
 arv:Nat
 rot:Nat
 swr:Nat
def alq(σ:bu)(sz:Nat):aq:=.seq (yr [ym 26 0,ym 27 1,ym 28 2,ym 29 4,yn 30 (.call σ.ins [R 26,R 27,R 28,R 29] true)]) .ret
def als(σ:bu)(sz:Nat):aq:=.seq (yr [ym 33 0,ym 34 1,ym 35 2,ym 36 4,yn 37 (.call σ.heap [R 33,R 34,R 35,R 36] true)]) .ret
def alw(σ:bu)(sz:Nat):aq:=yr [ym 45 3,yn 46 (.bin .sub (R 45) (yi 1)),ym 3 46]
def alv(σ:bu)(sz:Nat):aq:=.seq (yr [ym 40 0,ym 41 1,ym 42 2,ym 43 4,yn 44 (.call σ.brk [R 40,R 41,R 42,R 43] true)]) (alw σ sz)
def alA(σ:bu)(sz:Nat):aq:=yr [yn 14 (.bf (yi 1))]
def alz(σ:bu)(sz:Nat):aq:=.seq (yr [ym 62 2,yn 63 (.bin .sub (R 62) (yi 1)),ym 64 13,ym 65 1,yb 66 .sub 64 65,yb 67 .sub 63 66,ym 13 67]) (alA σ sz)
def aly(σ:bu)(sz:Nat):aq:=.seq (yr [ym 57 0,ym 58 1,ym 59 2,ym 60 4,yn 61 (.call σ.rev [R 57,R 58,R 59,R 60] true)]) (alz σ sz)
def alB(σ:bu)(sz:Nat):aq:=.seq (yr [ym 76 0,ym 77 1,ym 78 2,ym 79 4,yn 80 (.call σ.pins [R 76,R 77,R 78,R 79] true)]) (.cond (R 80) .ret .skip)
def alD(σ:bu)(sz:Nat):aq:=.seq (yr [ym 104 15,ym 1 104]) (.exit 1)
def alC(σ:bu)(sz:Nat):aq:=.seq (yr [ym 98 0,ym 99 1,ym 100 2,ym 101 13,ym 102 4,yn 103 (.call σ.Pc [R 98,R 99,R 100,R 101,R 102] true),ym 15 103]) (alD σ sz)
def alK(σ:bu)(sz:Nat):aq:=yr [ym 135 16,yn 136 (.bin .add (R 135) (yi 1)),ym 1 136]
def alJ(σ:bu)(sz:Nat):aq:=.seq (yr [ym 129 0,ym 130 1,ym 131 16,ym 132 3,ym 133 4,yn 134 (.call σ.A5 [R 129,R 130,R 131,R 132,R 133] true)]) (alK σ sz)
def alI(σ:bu)(sz:Nat):aq:=.seq (yr [ym 126 18,ym 127 20,yb 128 .geq 126 127,ym 10 128]) (alJ σ sz)
def alN(σ:bu)(sz:Nat):aq:=yr [ym 147 16,ym 2 147]
def alM(σ:bu)(sz:Nat):aq:=.seq (yr [ym 140 0,ym 141 16,yn 142 (.bin .add (R 141) (yi 1)),ym 143 2,ym 144 3,ym 145 4,yn 146 (.call σ.A5 [R 140,R 142,R 143,R 144,R 145] true)]) (alN σ sz)
def alL(σ:bu)(sz:Nat):aq:=.seq (yr [ym 137 19,ym 138 20,yb 139 .geq 137 138,ym 10 139]) (alM σ sz)
def alH(σ:bu)(sz:Nat):aq:=.seq (yr [ym 123 18,ym 124 19,yb 125 .lss 123 124]) (.cond (R 125) (alI σ sz) (alL σ sz))
def alG(σ:bu)(sz:Nat):aq:=.seq (yr [ym 121 12,yn 122 (.bin .quo (R 121) (yi 8)),ym 20 122]) (alH σ sz)
def alF(σ:bu)(sz:Nat):aq:=.seq (yr [ym 115 16,ym 116 1,yb 117 .sub 115 116,ym 118 2,ym 119 16,yb 120 .sub 118 119,ym 18 117,ym 19 120]) (alG σ sz)
def alE(σ:bu)(sz:Nat):aq:=.seq (yr [ym 114 17,ym 11 114]) (alF σ sz)
def abw(σ:bu)(sz:Nat):aq:=.seq (yr [ym 106 0,ym 107 1,ym 108 2,ym 109 13,ym 110 4,yn 111 (.call σ.part [R 106,R 107,R 108,R 109,R 110] true),ym 105 111,yn 112 (.extract (R 105) 0),yn 113 (.extract (R 105) 1),ym 16 112,ym 17 113]) (alE σ sz)
def abv(σ:bu)(sz:Nat):aq:=.seq (.seq (yr [ym 81 1,yn 82 (.bin .gtr (R 81) (yi 0)),ym 83 82,⟨D 84,.bf (R 4),G 83 true⟩,⟨D 85,.bf (R 0),G 83 true⟩,⟨D 86,.bf (R 1),G 83 true⟩,⟨D 87,.bin .sub (R 86) (yi 1),G 83 true⟩,⟨D 88,.aP sz none (R 85) (R 87),G 83 true⟩,⟨D 89,.load (some sz) (R 88),G 83 true⟩,⟨D 90,.bf (R 0),G 83 true⟩,⟨D 91,.bf (R 13),G 83 true⟩,⟨D 92,.aP sz none (R 90) (R 91),G 83 true⟩,⟨D 93,.load (some sz) (R 92),G 83 true⟩,⟨D 94,.bR (R 84) [R 89,R 93] true,G 83 true⟩,⟨D 95,.bin .lss (R 94) (yi 0),G 83 true⟩,⟨D 96,.un .not (R 95),G 83 true⟩,yn 97 (.pick (R 83) (R 96) yf)]) (.cond (R 97) (alC σ sz) .skip)) (abw σ sz)
def abu(σ:bu)(sz:Nat):aq:=.seq (.seq (yr [ym 68 10,ym 69 68,⟨D 70,.bf (R 11),G 69 true⟩,yn 71 (.pick (R 69) (R 70) yf),ym 72 71,⟨D 73,.bf (R 14),G 72 true⟩,⟨D 74,.bin .eql (R 73) (yi 1),G 72 true⟩,yn 75 (.pick (R 72) (R 74) yf)]) (.cond (R 75) (alB σ sz) .skip)) (abv σ sz)
def alx(σ:bu)(sz:Nat):aq:=.seq (.seq (yr [ym 55 14,yn 56 (.bin .eql (R 55) (yi 2))]) (.cond (R 56) (aly σ sz) .skip)) (abu σ sz)
def abt(σ:bu)(sz:Nat):aq:=.seq (yr [ym 48 0,ym 49 1,ym 50 2,ym 51 4,yn 52 (.call σ.piv [R 48,R 49,R 50,R 51] true),ym 47 52,yn 53 (.extract (R 47) 0),yn 54 (.extract (R 47) 1),ym 13 53,ym 14 54]) (alx σ sz)
def alu(σ:bu)(sz:Nat):aq:=.seq (.seq (yr [ym 38 10,yn 39 (.un .not (R 38))]) (.cond (R 39) (alv σ sz) .skip)) (abt σ sz)
def alr(σ:bu)(sz:Nat):aq:=.seq (.seq (yr [ym 31 3,yn 32 (.bin .eql (R 31) (yi 0))]) (.cond (R 32) (als σ sz) .skip)) (alu σ sz)
def aqS(σ:bu)(sz:Nat):aq:=.seq (.seq (yr [ym 24 12,yn 25 (.bin .leq (R 24) (yi 12))]) (.cond (R 25) (alq σ sz) .skip)) (alr σ sz)
def aqR(σ:bu)(sz:Nat):aq:=.seq (yr [ym 21 2,ym 22 1,yb 23 .sub 21 22,ym 12 23]) (aqS σ sz)
def yS(σ:bu)(sz:Nat):aq:=.block 1 (aqR σ sz)
def aqQ(σ:bu)(sz:Nat):aq:=.seq (yr [yn 11 (.bf yt)]) (.block 0 (.loop (yS σ sz)))
def aqP(σ:bu)(sz:Nat):aq:=.seq (yr [yn 10 (.bf yt)]) (aqQ σ sz)
def Is(σ:bu)(sz:Nat):ax:=⟨[P.nat 0,P.nat 1,P.nat 2,P.nat 3,P.nat 4],[],(aqP σ sz)⟩
def akB(σ:bu)(sz:Nat):aq:=yr [ym 37 0,ym 38 9,ym 39 0,ym 40 9,yn 41 (.bin .sub (R 40) (yi 1)),ym 42 0,ym 43 9,yn 44 (.bin .sub (R 43) (yi 1)),ya 45 sz 42 44,yl 46 sz 45,ym 47 0,ym 48 9,ya 49 sz 47 48,yl 50 sz 49,ya 51 sz 37 38,ys sz 51 46,ya 52 sz 39 41,ys sz 52 50]
def akC(σ:bu)(sz:Nat):aq:=yr [ym 35 9,yn 36 (.bin .sub (R 35) (yi 1)),ym 9 36]
def akA(σ:bu)(sz:Nat):aq:=.seq (.block 3 (akB σ sz)) (akC σ sz)
def akz(σ:bu)(sz:Nat):aq:=.seq (.seq (yr [ym 18 9,ym 19 1,yb 20 .gtr 18 19,ym 21 20,⟨D 22,.bf (R 3),G 21 true⟩,⟨D 23,.bf (R 0),G 21 true⟩,⟨D 24,.bf (R 9),G 21 true⟩,⟨D 25,.aP sz none (R 23) (R 24),G 21 true⟩,⟨D 26,.load (some sz) (R 25),G 21 true⟩,⟨D 27,.bf (R 0),G 21 true⟩,⟨D 28,.bf (R 9),G 21 true⟩,⟨D 29,.bin .sub (R 28) (yi 1),G 21 true⟩,⟨D 30,.aP sz none (R 27) (R 29),G 21 true⟩,⟨D 31,.load (some sz) (R 30),G 21 true⟩,⟨D 32,.bR (R 22) [R 26,R 31] true,G 21 true⟩,⟨D 33,.bin .lss (R 32) (yi 0),G 21 true⟩,yn 34 (.pick (R 21) (R 33) yf)]) (.cond (R 34) .skip (.exit 2))) (akA σ sz)
def aky(σ:bu)(sz:Nat):aq:=.seq (yr [ym 17 8,ym 9 17]) (.block 2 (.loop (akz σ sz)))
def Ac(σ:bu)(sz:Nat):aq:=yr [ym 15 8,yn 16 (.bin .add (R 15) (yi 1)),ym 8 16]
def apl(σ:bu)(sz:Nat):aq:=.seq (.block 1 (aky σ sz)) (Ac σ sz)
def HU(σ:bu)(sz:Nat):aq:=.seq (.seq (yr [ym 12 8,ym 13 2,yb 14 .lss 12 13]) (.cond (R 14) .skip (.exit 0))) (apl σ sz)
def apk(σ:bu)(sz:Nat):aq:=.seq (yr [ym 10 1,yn 11 (.bin .add (R 10) (yi 1)),ym 8 11]) (.block 0 (.loop (HU σ sz)))
def yc(σ:bu)(sz:Nat):ax:=⟨[P.nat 0,P.nat 1,P.nat 2,P.nat 3],[],(apk σ sz)⟩
def agm(σ:bu)(sz:Nat):aq:=yr [ym 24 0,ym 25 11,ym 26 10,ym 27 8,ym 28 3,yn 29 (.call σ.vE [R 24,R 25,R 26,R 27,R 28] true)]
def agn(σ:bu)(sz:Nat):aq:=yr [ym 22 11,yn 23 (.bin .sub (R 22) (yi 1)),ym 11 23]
def agl(σ:bu)(sz:Nat):aq:=.seq (.block 1 (agm σ sz)) (agn σ sz)
def agk(σ:bu)(sz:Nat):aq:=.seq (.seq (yr [ym 20 11,yn 21 (.bin .geq (R 20) (yi 0))]) (.cond (R 21) .skip (.exit 0))) (agl σ sz)
def agr(σ:bu)(sz:Nat):aq:=yr [ym 54 0,ym 55 9,ym 56 12,ym 57 8,ym 58 3,yn 59 (.call σ.vE [R 54,R 55,R 56,R 57,R 58] true)]
def agq(σ:bu)(sz:Nat):aq:=.seq (yr [ym 36 0,ym 37 8,ym 38 0,ym 39 8,ym 40 12,yb 41 .add 39 40,ym 42 0,ym 43 8,ym 44 12,yb 45 .add 43 44,ya 46 sz 42 45,yl 47 sz 46,ym 48 0,ym 49 8,ya 50 sz 48 49,yl 51 sz 50,ya 52 sz 36 37,ys sz 52 47,ya 53 sz 38 41,ys sz 53 51]) (agr σ sz)
def ags(σ:bu)(sz:Nat):aq:=yr [ym 34 12,yn 35 (.bin .sub (R 34) (yi 1)),ym 12 35]
def agp(σ:bu)(sz:Nat):aq:=.seq (.block 3 (agq σ sz)) (ags σ sz)
def ago(σ:bu)(sz:Nat):aq:=.seq (.seq (yr [ym 32 12,yn 33 (.bin .geq (R 32) (yi 0))]) (.cond (R 33) .skip (.exit 2))) (agp σ sz)
def HR(σ:bu)(sz:Nat):aq:=.seq (yr [ym 30 10,yn 31 (.bin .sub (R 30) (yi 1)),ym 12 31]) (.block 2 (.loop (ago σ sz)))
def akr(σ:bu)(sz:Nat):aq:=.seq (.seq (yr [ym 17 10,yn 18 (.bin .sub (R 17) (yi 1)),yn 19 (.bin .quo (R 18) (yi 2)),ym 11 19]) (.block 0 (.loop (agk σ sz)))) (HR σ sz)
def akq(σ:bu)(sz:Nat):aq:=.seq (yr [ym 14 2,ym 15 1,yb 16 .sub 14 15,ym 10 16]) (akr σ sz)
def akp(σ:bu)(sz:Nat):aq:=.seq (yr [yn 9 (.bf (yi 0))]) (akq σ sz)
def ako(σ:bu)(sz:Nat):aq:=.seq (yr [ym 13 1,ym 8 13]) (akp σ sz)
def z_(σ:bu)(sz:Nat):ax:=⟨[P.nat 0,P.nat 1,P.nat 2,P.nat 3],[],(ako σ sz)⟩
def ahX(σ:bu)(sz:Nat):aq:=yr [ym 41 11,yn 42 (.bin .add (R 41) (yi 1)),ym 11 42]
def ahZ(σ:bu)(sz:Nat):aq:=yr [ym 81 11,ym 10 81]
def ahY(σ:bu)(sz:Nat):aq:=.seq (yr [ym 59 0,ym 60 3,ym 61 10,yb 62 .add 60 61,ym 63 0,ym 64 3,ym 65 11,yb 66 .add 64 65,ym 67 0,ym 68 3,ym 69 11,yb 70 .add 68 69,ya 71 sz 67 70,yl 72 sz 71,ym 73 0,ym 74 3,ym 75 10,yb 76 .add 74 75,ya 77 sz 73 76,yl 78 sz 77,ya 79 sz 59 62,ys sz 79 72,ya 80 sz 63 66,ys sz 80 78]) (ahZ σ sz)
def IU(σ:bu)(sz:Nat):aq:=.seq (.seq (yr [ym 43 4,ym 44 0,ym 45 3,ym 46 10,yb 47 .add 45 46,ya 48 sz 44 47,yl 49 sz 48,ym 50 0,ym 51 3,ym 52 11,yb 53 .add 51 52,ya 54 sz 50 53,yl 55 sz 54,yn 56 (.bR (R 43) [R 49,R 55] true),yn 57 (.bin .lss (R 56) (yi 0)),yn 58 (.un .not (R 57))]) (.cond (R 58) .ret .skip)) (ahY σ sz)
def ahW(σ:bu)(sz:Nat):aq:=.seq (.seq (yr [ym 19 11,yn 20 (.bin .add (R 19) (yi 1)),ym 21 2,yb 22 .lss 20 21,ym 23 22,⟨D 24,.bf (R 4),G 23 true⟩,⟨D 25,.bf (R 0),G 23 true⟩,⟨D 26,.bf (R 3),G 23 true⟩,⟨D 27,.bf (R 11),G 23 true⟩,⟨D 28,.bin .add (R 26) (R 27),G 23 true⟩,⟨D 29,.aP sz none (R 25) (R 28),G 23 true⟩,⟨D 30,.load (some sz) (R 29),G 23 true⟩,⟨D 31,.bf (R 0),G 23 true⟩,⟨D 32,.bf (R 3),G 23 true⟩,⟨D 33,.bf (R 11),G 23 true⟩,⟨D 34,.bin .add (R 32) (R 33),G 23 true⟩,⟨D 35,.bin .add (R 34) (yi 1),G 23 true⟩,⟨D 36,.aP sz none (R 31) (R 35),G 23 true⟩,⟨D 37,.load (some sz) (R 36),G 23 true⟩,⟨D 38,.bR (R 24) [R 30,R 37] true,G 23 true⟩,⟨D 39,.bin .lss (R 38) (yi 0),G 23 true⟩,yn 40 (.pick (R 23) (R 39) yf)]) (.cond (R 40) (ahX σ sz) .skip)) (IU σ sz)
def amt(σ:bu)(sz:Nat):aq:=.seq (.seq (yr [ym 16 11,ym 17 2,yb 18 .geq 16 17]) (.cond (R 18) (.exit 0) .skip)) (ahW σ sz)
def ams(σ:bu)(sz:Nat):aq:=.seq (yr [ym 13 10,yn 14 (.bin .mul (yi 2) (R 13)),yn 15 (.bin .add (R 14) (yi 1)),ym 11 15]) (amt σ sz)
def ab3(σ:bu)(sz:Nat):aq:=.block 1 (ams σ sz)
def amr(σ:bu)(sz:Nat):aq:=.seq (yr [ym 12 1,ym 10 12]) (.block 0 (.loop (ab3 σ sz)))
def vF(σ:bu)(sz:Nat):ax:=⟨[P.nat 0,P.nat 1,P.nat 2,P.nat 3,P.nat 4],[],(amr σ sz)⟩
def aj4(σ:bu)(sz:Nat):aq:=yr [ym 46 12,ym 47 8,yb 48 .sub 46 47,ym 12 48]
def aab(σ:bu)(sz:Nat):aq:=yr [ym 49 0,ym 50 11,ym 51 0,ym 52 1,ym 53 12,yb 54 .add 52 53,ym 55 0,ym 56 1,ym 57 12,yb 58 .add 56 57,ya 59 sz 55 58,yl 60 sz 59,ym 61 0,ym 62 11,ya 63 sz 61 62,yl 64 sz 63,ya 65 sz 49 50,ys sz 65 60,ya 66 sz 51 54,ys sz 66 64]
def aj3(σ:bu)(sz:Nat):aq:=.seq (.seq (yr [ym 43 12,ym 44 8,yb 45 .geq 43 44]) (.cond (R 45) (aj4 σ sz) .skip)) (aab σ sz)
def aj2(σ:bu)(sz:Nat):aq:=.seq (yr [yn 38 (.call σ.O_ [R 9] true),ym 39 10,yn 40 (.bin .sub (R 39) (.k (.c (.f (.int .u64 1))))),yb 41 .and 38 40,yn 42 (.ek .i64 (R 41)),ym 12 42]) (aj3 σ sz)
def aac(σ:bu)(sz:Nat):aq:=yr [ym 36 11,yn 37 (.bin .add (R 36) (yi 1)),ym 11 37]
def aj1(σ:bu)(sz:Nat):aq:=.seq (.block 1 (aj2 σ sz)) (aac σ sz)
def aaa(σ:bu)(sz:Nat):aq:=.seq (.seq (yr [ym 28 11,ym 29 1,ym 30 8,yn 31 (.bin .quo (R 30) (yi 4)),yn 32 (.bin .mul (R 31) (yi 2)),yb 33 .add 29 32,yn 34 (.bin .add (R 33) (yi 1)),yb 35 .leq 28 34]) (.cond (R 35) .skip (.exit 0))) (aj1 σ sz)
def aoU(σ:bu)(sz:Nat):aq:=.seq (yr [ym 22 1,ym 23 8,yn 24 (.bin .quo (R 23) (yi 4)),yn 25 (.bin .mul (R 24) (yi 2)),yb 26 .add 22 25,yn 27 (.bin .sub (R 26) (yi 1)),ym 11 27]) (.block 0 (.loop (aaa σ sz)))
def aoT(σ:bu)(sz:Nat):aq:=.seq (yr [ym 20 8,yn 21 (.call σ.npt [R 20] false),ym 10 21]) (aoU σ sz)
def aoS(σ:bu)(sz:Nat):aq:=.seq (yr [ym 18 8,yn 19 (.ek .u64 (R 18)),yn 9 (.alloc [(.int .u64 0)]),ys 1 9 19]) (aoT σ sz)
def aoR(σ:bu)(sz:Nat):aq:=.seq (yr [ym 16 8,yn 17 (.bin .geq (R 16) (yi 8))]) (.cond (R 17) (aoS σ sz) .skip)
def aoQ(σ:bu)(sz:Nat):aq:=.seq (yr [ym 13 2,ym 14 1,yb 15 .sub 13 14,ym 8 15]) (aoR σ sz)
def HC(σ:bu)(sz:Nat):ax:=⟨[P.nat 0,P.nat 1,P.nat 2,P.nat 3],[],(aoQ σ sz)⟩
def al_(σ:bu)(sz:Nat):aq:=yr [ym 45 0,ym 46 14,ym 47 3,yn 48 (.call σ.uV [R 45,R 46,R 11,R 47] true),ym 14 48]
def al'(σ:bu)(sz:Nat):aq:=.seq (yr [ym 41 0,ym 42 13,ym 43 3,yn 44 (.call σ.uV [R 41,R 42,R 11,R 43] true),ym 13 44]) (al_ σ sz)
def al9(σ:bu)(sz:Nat):aq:=.seq (yr [ym 37 0,ym 38 12,ym 39 3,yn 40 (.call σ.uV [R 37,R 38,R 11,R 39] true),ym 12 40]) (al' σ sz)
def abD(σ:bu)(sz:Nat):aq:=yr [ym 49 0,ym 50 12,ym 51 13,ym 52 14,ym 53 3,yn 54 (.call σ.med [R 49,R 50,R 51,R 52,R 11,R 53] true),ym 13 54]
def al8(σ:bu)(sz:Nat):aq:=.seq (.seq (yr [ym 35 10,yn 36 (.bin .geq (R 35) (yi 50))]) (.cond (R 36) (al9 σ sz) .skip)) (abD σ sz)
def amb(σ:bu)(sz:Nat):aq:=.seq (yr [ym 59 13,ym 8 59,yn 9 (.bf (yi 1))]) .ret
def amd(σ:bu)(sz:Nat):aq:=.seq (yr [ym 62 13,ym 8 62,yn 9 (.bf (yi 2))]) .ret
def ame(σ:bu)(sz:Nat):aq:=.seq (yr [ym 56 13,ym 8 56,yn 9 (.bf (yi 0))]) .ret
def amc(σ:bu)(sz:Nat):aq:=.seq (yr [yn 61 (.bin .eql (R 55) (yi 12)),ym 60 61]) (.cond (R 60) (amd σ sz) (ame σ sz))
def ama(σ:bu)(sz:Nat):aq:=.seq (yr [yn 58 (.bin .eql (R 55) (yi 0)),ym 57 58]) (.cond (R 57) (amb σ sz) (amc σ sz))
def GF(σ:bu)(sz:Nat):aq:=.seq (yr [yn 55 (.load none (R 11))]) (.block 0 (ama σ sz))
def al7(σ:bu)(sz:Nat):aq:=.seq (.seq (yr [ym 33 10,yn 34 (.bin .geq (R 33) (yi 8))]) (.cond (R 34) (al8 σ sz) .skip)) (GF σ sz)
def al6(σ:bu)(sz:Nat):aq:=.seq (yr [ym 28 1,ym 29 10,yn 30 (.bin .quo (R 29) (yi 4)),yn 31 (.bin .mul (R 30) (yi 3)),yb 32 .add 28 31,ym 14 32]) (al7 σ sz)
def aq1(σ:bu)(sz:Nat):aq:=.seq (yr [ym 23 1,ym 24 10,yn 25 (.bin .quo (R 24) (yi 4)),yn 26 (.bin .mul (R 25) (yi 2)),yb 27 .add 23 26,ym 13 27]) (al6 σ sz)
def aq0(σ:bu)(sz:Nat):aq:=.seq (yr [ym 18 1,ym 19 10,yn 20 (.bin .quo (R 19) (yi 4)),yn 21 (.bin .mul (R 20) (yi 1)),yb 22 .add 18 21,ym 12 22]) (aq1 σ sz)
def aqZ(σ:bu)(sz:Nat):aq:=.seq (yr [yn 11 (.alloc [(.int .i64 0)])]) (aq0 σ sz)
def aqY(σ:bu)(sz:Nat):aq:=.seq (yr [ym 15 2,ym 16 1,yb 17 .sub 15 16,ym 10 17]) (aqZ σ sz)
def aqX(σ:bu)(sz:Nat):aq:=.seq (yr [yn 8 (.bf (yi 0)),yn 9 (.bf (yi 0))]) (aqY σ sz)
def Iz(σ:bu)(sz:Nat):ax:=⟨[P.nat 0,P.nat 1,P.nat 2,P.nat 3],[.tmp (P.nat 8),.tmp (P.nat 9)],(aqX σ sz)⟩
def amn(σ:bu)(sz:Nat):aq:=yr [ym 32 9,yn 33 (.bin .sub (R 32) (yi 1)),ym 9 33]
def amm(σ:bu)(sz:Nat):aq:=.seq (yr [ym 30 8,yn 31 (.bin .add (R 30) (yi 1)),ym 8 31]) (amn σ sz)
def aml(σ:bu)(sz:Nat):aq:=.seq (yr [ym 16 0,ym 17 8,ym 18 0,ym 19 9,ym 20 0,ym 21 9,ya 22 sz 20 21,yl 23 sz 22,ym 24 0,ym 25 8,ya 26 sz 24 25,yl 27 sz 26,ya 28 sz 16 17,ys sz 28 23,ya 29 sz 18 19,ys sz 29 27]) (amm σ sz)
def arp(σ:bu)(sz:Nat):aq:=.seq (.seq (yr [ym 13 8,ym 14 9,yb 15 .lss 13 14]) (.cond (R 15) .skip (.exit 0))) (.block 1 (aml σ sz))
def aro(σ:bu)(sz:Nat):aq:=.seq (yr [ym 11 2,yn 12 (.bin .sub (R 11) (yi 1)),ym 9 12]) (.block 0 (.loop (arp σ sz)))
def arn(σ:bu)(sz:Nat):aq:=.seq (yr [ym 10 1,ym 8 10]) (aro σ sz)
def IG(σ:bu)(sz:Nat):ax:=⟨[P.nat 0,P.nat 1,P.nat 2,P.nat 3],[],(arn σ sz)⟩
def ag3(σ:bu)(sz:Nat):aq:=yr [ym 48 12,yn 49 (.bin .add (R 48) (yi 1)),ym 12 49]
def alo(σ:bu)(sz:Nat):aq:=.seq (.seq (yr [ym 32 12,ym 33 13,yb 34 .leq 32 33,ym 35 34,⟨D 36,.bf (R 4),G 35 true⟩,⟨D 37,.bf (R 0),G 35 true⟩,⟨D 38,.bf (R 12),G 35 true⟩,⟨D 39,.aP sz none (R 37) (R 38),G 35 true⟩,⟨D 40,.load (some sz) (R 39),G 35 true⟩,⟨D 41,.bf (R 0),G 35 true⟩,⟨D 42,.bf (R 1),G 35 true⟩,⟨D 43,.aP sz none (R 41) (R 42),G 35 true⟩,⟨D 44,.load (some sz) (R 43),G 35 true⟩,⟨D 45,.bR (R 36) [R 40,R 44] true,G 35 true⟩,⟨D 46,.bin .lss (R 45) (yi 0),G 35 true⟩,yn 47 (.pick (R 35) (R 46) yf)]) (.cond (R 47) .skip (.exit 0))) (.block 1 (ag3 σ sz))
def abn(σ:bu)(sz:Nat):aq:=.block 0 (.loop (alo σ sz))
def ag6(σ:bu)(sz:Nat):aq:=yr [ym 67 13,yn 68 (.bin .sub (R 67) (yi 1)),ym 13 68]
def ag5(σ:bu)(sz:Nat):aq:=.seq (.seq (yr [ym 50 12,ym 51 13,yb 52 .leq 50 51,ym 53 52,⟨D 54,.bf (R 4),G 53 true⟩,⟨D 55,.bf (R 0),G 53 true⟩,⟨D 56,.bf (R 13),G 53 true⟩,⟨D 57,.aP sz none (R 55) (R 56),G 53 true⟩,⟨D 58,.load (some sz) (R 57),G 53 true⟩,⟨D 59,.bf (R 0),G 53 true⟩,⟨D 60,.bf (R 1),G 53 true⟩,⟨D 61,.aP sz none (R 59) (R 60),G 53 true⟩,⟨D 62,.load (some sz) (R 61),G 53 true⟩,⟨D 63,.bR (R 54) [R 58,R 62] true,G 53 true⟩,⟨D 64,.bin .lss (R 63) (yi 0),G 53 true⟩,⟨D 65,.un .not (R 64),G 53 true⟩,yn 66 (.pick (R 53) (R 65) yf)]) (.cond (R 66) .skip (.exit 2))) (.block 3 (ag6 σ sz))
def Io(σ:bu)(sz:Nat):aq:=.block 2 (.loop (ag5 σ sz))
def ag9(σ:bu)(sz:Nat):aq:=.seq (yr [ym 86 13,ym 10 86,yn 11 (.bf yt)]) .ret
def ag8(σ:bu)(sz:Nat):aq:=.seq (yr [ym 72 0,ym 73 13,ym 74 0,ym 75 1,ym 76 0,ym 77 1,ya 78 sz 76 77,yl 79 sz 78,ym 80 0,ym 81 13,ya 82 sz 80 81,yl 83 sz 82,ya 84 sz 72 73,ys sz 84 79,ya 85 sz 74 75,ys sz 85 83]) (ag9 σ sz)
def ahe(σ:bu)(sz:Nat):aq:=yr [ym 121 12,yn 122 (.bin .add (R 121) (yi 1)),ym 12 122]
def ahd(σ:bu)(sz:Nat):aq:=.seq (.seq (yr [ym 105 12,ym 106 13,yb 107 .leq 105 106,ym 108 107,⟨D 109,.bf (R 4),G 108 true⟩,⟨D 110,.bf (R 0),G 108 true⟩,⟨D 111,.bf (R 12),G 108 true⟩,⟨D 112,.aP sz none (R 110) (R 111),G 108 true⟩,⟨D 113,.load (some sz) (R 112),G 108 true⟩,⟨D 114,.bf (R 0),G 108 true⟩,⟨D 115,.bf (R 1),G 108 true⟩,⟨D 116,.aP sz none (R 114) (R 115),G 108 true⟩,⟨D 117,.load (some sz) (R 116),G 108 true⟩,⟨D 118,.bR (R 109) [R 113,R 117] true,G 108 true⟩,⟨D 119,.bin .lss (R 118) (yi 0),G 108 true⟩,yn 120 (.pick (R 108) (R 119) yf)]) (.cond (R 120) .skip (.exit 6))) (.block 7 (ahe σ sz))
def Ip(σ:bu)(sz:Nat):aq:=.block 6 (.loop (ahd σ sz))
def ahh(σ:bu)(sz:Nat):aq:=yr [ym 140 13,yn 141 (.bin .sub (R 140) (yi 1)),ym 13 141]
def ahg(σ:bu)(sz:Nat):aq:=.seq (.seq (yr [ym 123 12,ym 124 13,yb 125 .leq 123 124,ym 126 125,⟨D 127,.bf (R 4),G 126 true⟩,⟨D 128,.bf (R 0),G 126 true⟩,⟨D 129,.bf (R 13),G 126 true⟩,⟨D 130,.aP sz none (R 128) (R 129),G 126 true⟩,⟨D 131,.load (some sz) (R 130),G 126 true⟩,⟨D 132,.bf (R 0),G 126 true⟩,⟨D 133,.bf (R 1),G 126 true⟩,⟨D 134,.aP sz none (R 132) (R 133),G 126 true⟩,⟨D 135,.load (some sz) (R 134),G 126 true⟩,⟨D 136,.bR (R 127) [R 131,R 135] true,G 126 true⟩,⟨D 137,.bin .lss (R 136) (yi 0),G 126 true⟩,⟨D 138,.un .not (R 137),G 126 true⟩,yn 139 (.pick (R 126) (R 138) yf)]) (.cond (R 139) .skip (.exit 8))) (.block 9 (ahh σ sz))
def Iq(σ:bu)(sz:Nat):aq:=.block 8 (.loop (ahg σ sz))
def ahl(σ:bu)(sz:Nat):aq:=yr [ym 161 13,yn 162 (.bin .sub (R 161) (yi 1)),ym 13 162]
def ahk(σ:bu)(sz:Nat):aq:=.seq (yr [ym 159 12,yn 160 (.bin .add (R 159) (yi 1)),ym 12 160]) (ahl σ sz)
def ahj(σ:bu)(sz:Nat):aq:=.seq (yr [ym 145 0,ym 146 12,ym 147 0,ym 148 13,ym 149 0,ym 150 13,ya 151 sz 149 150,yl 152 sz 151,ym 153 0,ym 154 12,ya 155 sz 153 154,yl 156 sz 155,ya 157 sz 145 146,ys sz 157 152,ya 158 sz 147 148,ys sz 158 156]) (ahk σ sz)
def ahi(σ:bu)(sz:Nat):aq:=.seq (.seq (yr [ym 142 12,ym 143 13,yb 144 .gtr 142 143]) (.cond (R 144) (.exit 4) .skip)) (ahj σ sz)
def ahf(σ:bu)(sz:Nat):aq:=.seq (Iq σ sz) (ahi σ sz)
def ahc(σ:bu)(sz:Nat):aq:=.seq (Ip σ sz) (ahf σ sz)
def ahm(σ:bu)(sz:Nat):aq:=.seq (yr [ym 177 13,ym 10 177,yn 11 (.bf yf)]) .ret
def Ir(σ:bu)(sz:Nat):aq:=.seq (yr [ym 163 0,ym 164 13,ym 165 0,ym 166 1,ym 167 0,ym 168 1,ya 169 sz 167 168,yl 170 sz 169,ym 171 0,ym 172 13,ya 173 sz 171 172,yl 174 sz 173,ya 175 sz 163 164,ys sz 175 170,ya 176 sz 165 166,ys sz 176 174]) (ahm σ sz)
def ahb(σ:bu)(sz:Nat):aq:=.seq (.block 4 (.loop (.block 5 (ahc σ sz)))) (Ir σ sz)
def aha(σ:bu)(sz:Nat):aq:=.seq (yr [ym 103 13,yn 104 (.bin .sub (R 103) (yi 1)),ym 13 104]) (ahb σ sz)
def ag_(σ:bu)(sz:Nat):aq:=.seq (yr [ym 101 12,yn 102 (.bin .add (R 101) (yi 1)),ym 12 102]) (aha σ sz)
def ag'(σ:bu)(sz:Nat):aq:=.seq (yr [ym 87 0,ym 88 12,ym 89 0,ym 90 13,ym 91 0,ym 92 13,ya 93 sz 91 92,yl 94 sz 93,ym 95 0,ym 96 12,ya 97 sz 95 96,yl 98 sz 97,ya 99 sz 87 88,ys sz 99 94,ya 100 sz 89 90,ys sz 100 98]) (ag_ σ sz)
def ag7(σ:bu)(sz:Nat):aq:=.seq (.seq (yr [ym 69 12,ym 70 13,yb 71 .gtr 69 70]) (.cond (R 71) (ag8 σ sz) .skip)) (ag' σ sz)
def ag4(σ:bu)(sz:Nat):aq:=.seq (Io σ sz) (ag7 σ sz)
def aln(σ:bu)(sz:Nat):aq:=.seq (abn σ sz) (ag4 σ sz)
def alm(σ:bu)(sz:Nat):aq:=.seq (yr [ym 28 1,yn 29 (.bin .add (R 28) (yi 1)),ym 30 2,yn 31 (.bin .sub (R 30) (yi 1)),ym 12 29,ym 13 31]) (aln σ sz)
def alk(σ:bu)(sz:Nat):aq:=.seq (yr [ym 14 0,ym 15 1,ym 16 0,ym 17 3,ym 18 0,ym 19 3,ya 20 sz 18 19,yl 21 sz 20,ym 22 0,ym 23 1,ya 24 sz 22 23,yl 25 sz 24,ya 26 sz 14 15,ys sz 26 21,ya 27 sz 16 17,ys sz 27 25]) (alm σ sz)
def alj(σ:bu)(sz:Nat):aq:=.seq (yr [yn 10 (.bf (yi 0)),yn 11 (.bf yf)]) (alk σ sz)
def Ay(σ:bu)(sz:Nat):ax:=⟨[P.nat 0,P.nat 1,P.nat 2,P.nat 3,P.nat 4],[.tmp (P.nat 10),.tmp (P.nat 11)],(alj σ sz)⟩
def alR(σ:bu)(sz:Nat):aq:=yr [ym 48 11,yn 49 (.bin .add (R 48) (yi 1)),ym 11 49]
def alQ(σ:bu)(sz:Nat):aq:=.seq (.seq (yr [ym 31 11,ym 32 12,yb 33 .leq 31 32,ym 34 33,⟨D 35,.bf (R 4),G 34 true⟩,⟨D 36,.bf (R 0),G 34 true⟩,⟨D 37,.bf (R 1),G 34 true⟩,⟨D 38,.aP sz none (R 36) (R 37),G 34 true⟩,⟨D 39,.load (some sz) (R 38),G 34 true⟩,⟨D 40,.bf (R 0),G 34 true⟩,⟨D 41,.bf (R 11),G 34 true⟩,⟨D 42,.aP sz none (R 40) (R 41),G 34 true⟩,⟨D 43,.load (some sz) (R 42),G 34 true⟩,⟨D 44,.bR (R 35) [R 39,R 43] true,G 34 true⟩,⟨D 45,.bin .lss (R 44) (yi 0),G 34 true⟩,⟨D 46,.un .not (R 45),G 34 true⟩,yn 47 (.pick (R 34) (R 46) yf)]) (.cond (R 47) .skip (.exit 2))) (.block 3 (alR σ sz))
def aby(σ:bu)(sz:Nat):aq:=.block 2 (.loop (alQ σ sz))
def alU(σ:bu)(sz:Nat):aq:=yr [ym 66 12,yn 67 (.bin .sub (R 66) (yi 1)),ym 12 67]
def alT(σ:bu)(sz:Nat):aq:=.seq (.seq (yr [ym 50 11,ym 51 12,yb 52 .leq 50 51,ym 53 52,⟨D 54,.bf (R 4),G 53 true⟩,⟨D 55,.bf (R 0),G 53 true⟩,⟨D 56,.bf (R 1),G 53 true⟩,⟨D 57,.aP sz none (R 55) (R 56),G 53 true⟩,⟨D 58,.load (some sz) (R 57),G 53 true⟩,⟨D 59,.bf (R 0),G 53 true⟩,⟨D 60,.bf (R 12),G 53 true⟩,⟨D 61,.aP sz none (R 59) (R 60),G 53 true⟩,⟨D 62,.load (some sz) (R 61),G 53 true⟩,⟨D 63,.bR (R 54) [R 58,R 62] true,G 53 true⟩,⟨D 64,.bin .lss (R 63) (yi 0),G 53 true⟩,yn 65 (.pick (R 53) (R 64) yf)]) (.cond (R 65) .skip (.exit 4))) (.block 5 (alU σ sz))
def abz(σ:bu)(sz:Nat):aq:=.block 4 (.loop (alT σ sz))
def alY(σ:bu)(sz:Nat):aq:=yr [ym 87 12,yn 88 (.bin .sub (R 87) (yi 1)),ym 12 88]
def alX(σ:bu)(sz:Nat):aq:=.seq (yr [ym 85 11,yn 86 (.bin .add (R 85) (yi 1)),ym 11 86]) (alY σ sz)
def alW(σ:bu)(sz:Nat):aq:=.seq (yr [ym 71 0,ym 72 11,ym 73 0,ym 74 12,ym 75 0,ym 76 12,ya 77 sz 75 76,yl 78 sz 77,ym 79 0,ym 80 11,ya 81 sz 79 80,yl 82 sz 81,ya 83 sz 71 72,ys sz 83 78,ya 84 sz 73 74,ys sz 84 82]) (alX σ sz)
def alV(σ:bu)(sz:Nat):aq:=.seq (.seq (yr [ym 68 11,ym 69 12,yb 70 .gtr 68 69]) (.cond (R 70) (.exit 0) .skip)) (alW σ sz)
def alS(σ:bu)(sz:Nat):aq:=.seq (abz σ sz) (alV σ sz)
def alP(σ:bu)(sz:Nat):aq:=.seq (aby σ sz) (alS σ sz)
def abA(σ:bu)(sz:Nat):aq:=.seq (yr [ym 89 11,ym 10 89]) .ret
def aqW(σ:bu)(sz:Nat):aq:=.seq (.block 0 (.loop (.block 1 (alP σ sz)))) (abA σ sz)
def aqV(σ:bu)(sz:Nat):aq:=.seq (yr [ym 27 1,yn 28 (.bin .add (R 27) (yi 1)),ym 29 2,yn 30 (.bin .sub (R 29) (yi 1)),ym 11 28,ym 12 30]) (aqW σ sz)
def aqU(σ:bu)(sz:Nat):aq:=.seq (yr [ym 13 0,ym 14 1,ym 15 0,ym 16 3,ym 17 0,ym 18 3,ya 19 sz 17 18,yl 20 sz 19,ym 21 0,ym 22 1,ya 23 sz 21 22,yl 24 sz 23,ya 25 sz 13 14,ys sz 25 20,ya 26 sz 15 16,ys sz 26 24]) (aqV σ sz)
def aqT(σ:bu)(sz:Nat):aq:=.seq (yr [yn 10 (.bf (yi 0))]) (aqU σ sz)
def It(σ:bu)(sz:Nat):ax:=⟨[P.nat 0,P.nat 1,P.nat 2,P.nat 3,P.nat 4],[.tmp (P.nat 10)],(aqT σ sz)⟩
def ahu(σ:bu)(sz:Nat):aq:=yr [ym 37 9,yn 38 (.bin .add (R 37) (yi 1)),ym 9 38]
def aht(σ:bu)(sz:Nat):aq:=.seq (.seq (yr [ym 19 9,ym 20 2,yb 21 .lss 19 20,ym 22 21,⟨D 23,.bf (R 3),G 22 true⟩,⟨D 24,.bf (R 0),G 22 true⟩,⟨D 25,.bf (R 9),G 22 true⟩,⟨D 26,.aP sz none (R 24) (R 25),G 22 true⟩,⟨D 27,.load (some sz) (R 26),G 22 true⟩,⟨D 28,.bf (R 0),G 22 true⟩,⟨D 29,.bf (R 9),G 22 true⟩,⟨D 30,.bin .sub (R 29) (yi 1),G 22 true⟩,⟨D 31,.aP sz none (R 28) (R 30),G 22 true⟩,⟨D 32,.load (some sz) (R 31),G 22 true⟩,⟨D 33,.bR (R 23) [R 27,R 32] true,G 22 true⟩,⟨D 34,.bin .lss (R 33) (yi 0),G 22 true⟩,⟨D 35,.un .not (R 34),G 22 true⟩,yn 36 (.pick (R 22) (R 35) yf)]) (.cond (R 36) .skip (.exit 2))) (.block 3 (ahu σ sz))
def Iv(σ:bu)(sz:Nat):aq:=.block 2 (.loop (aht σ sz))
def ahw(σ:bu)(sz:Nat):aq:=.seq (yr [yn 8 (.bf yt)]) .ret
def ahy(σ:bu)(sz:Nat):aq:=.seq (yr [yn 8 (.bf yf)]) .ret
def ahF(σ:bu)(sz:Nat):aq:=yr [ym 85 0,ym 86 11,ym 87 0,ym 88 11,yn 89 (.bin .sub (R 88) (yi 1)),ym 90 0,ym 91 11,yn 92 (.bin .sub (R 91) (yi 1)),ya 93 sz 90 92,yl 94 sz 93,ym 95 0,ym 96 11,ya 97 sz 95 96,yl 98 sz 97,ya 99 sz 85 86,ys sz 99 94,ya 100 sz 87 89,ys sz 100 98]
def ahE(σ:bu)(sz:Nat):aq:=.seq (.seq (yr [ym 72 3,ym 73 0,ym 74 11,ya 75 sz 73 74,yl 76 sz 75,ym 77 0,ym 78 11,yn 79 (.bin .sub (R 78) (yi 1)),ya 80 sz 77 79,yl 81 sz 80,yn 82 (.bR (R 72) [R 76,R 81] true),yn 83 (.bin .lss (R 82) (yi 0)),yn 84 (.un .not (R 83))]) (.cond (R 84) (.exit 4) .skip)) (ahF σ sz)
def ahG(σ:bu)(sz:Nat):aq:=yr [ym 70 11,yn 71 (.bin .sub (R 70) (yi 1)),ym 11 71]
def ahD(σ:bu)(sz:Nat):aq:=.seq (.block 5 (ahE σ sz)) (ahG σ sz)
def ahC(σ:bu)(sz:Nat):aq:=.seq (.seq (yr [ym 68 11,yn 69 (.bin .geq (R 68) (yi 1))]) (.cond (R 69) .skip (.exit 4))) (ahD σ sz)
def Iw(σ:bu)(sz:Nat):aq:=.block 4 (.loop (ahC σ sz))
def ahB(σ:bu)(sz:Nat):aq:=.seq (yr [ym 66 9,yn 67 (.bin .sub (R 66) (yi 1)),ym 11 67]) (Iw σ sz)
def ahL(σ:bu)(sz:Nat):aq:=yr [ym 125 0,ym 126 12,ym 127 0,ym 128 12,yn 129 (.bin .sub (R 128) (yi 1)),ym 130 0,ym 131 12,yn 132 (.bin .sub (R 131) (yi 1)),ya 133 sz 130 132,yl 134 sz 133,ym 135 0,ym 136 12,ya 137 sz 135 136,yl 138 sz 137,ya 139 sz 125 126,ys sz 139 134,ya 140 sz 127 129,ys sz 140 138]
def ahK(σ:bu)(sz:Nat):aq:=.seq (.seq (yr [ym 112 3,ym 113 0,ym 114 12,ya 115 sz 113 114,yl 116 sz 115,ym 117 0,ym 118 12,yn 119 (.bin .sub (R 118) (yi 1)),ya 120 sz 117 119,yl 121 sz 120,yn 122 (.bR (R 112) [R 116,R 121] true),yn 123 (.bin .lss (R 122) (yi 0)),yn 124 (.un .not (R 123))]) (.cond (R 124) (.exit 6) .skip)) (ahL σ sz)
def ahM(σ:bu)(sz:Nat):aq:=yr [ym 110 12,yn 111 (.bin .add (R 110) (yi 1)),ym 12 111]
def ahJ(σ:bu)(sz:Nat):aq:=.seq (.block 7 (ahK σ sz)) (ahM σ sz)
def ahI(σ:bu)(sz:Nat):aq:=.seq (.seq (yr [ym 107 12,ym 108 2,yb 109 .lss 107 108]) (.cond (R 109) .skip (.exit 6))) (ahJ σ sz)
def Iy(σ:bu)(sz:Nat):aq:=.block 6 (.loop (ahI σ sz))
def ahH(σ:bu)(sz:Nat):aq:=.seq (yr [ym 105 9,yn 106 (.bin .add (R 105) (yi 1)),ym 12 106]) (Iy σ sz)
def Ix(σ:bu)(sz:Nat):aq:=.seq (yr [ym 101 2,ym 102 9,yb 103 .sub 101 102,yn 104 (.bin .geq (R 103) (yi 2))]) (.cond (R 104) (ahH σ sz) .skip)
def ahA(σ:bu)(sz:Nat):aq:=.seq (.seq (yr [ym 62 9,ym 63 1,yb 64 .sub 62 63,yn 65 (.bin .geq (R 64) (yi 2))]) (.cond (R 65) (ahB σ sz) .skip)) (Ix σ sz)
def ahz(σ:bu)(sz:Nat):aq:=.seq (yr [ym 46 0,ym 47 9,ym 48 0,ym 49 9,yn 50 (.bin .sub (R 49) (yi 1)),ym 51 0,ym 52 9,yn 53 (.bin .sub (R 52) (yi 1)),ya 54 sz 51 53,yl 55 sz 54,ym 56 0,ym 57 9,ya 58 sz 56 57,yl 59 sz 58,ya 60 sz 46 47,ys sz 60 55,ya 61 sz 48 50,ys sz 61 59]) (ahA σ sz)
def ahx(σ:bu)(sz:Nat):aq:=.seq (.seq (yr [ym 42 2,ym 43 1,yb 44 .sub 42 43,yn 45 (.bin .lss (R 44) (yi 50))]) (.cond (R 45) (ahy σ sz) .skip)) (ahz σ sz)
def ahv(σ:bu)(sz:Nat):aq:=.seq (.seq (yr [ym 39 9,ym 40 2,yb 41 .eql 39 40]) (.cond (R 41) (ahw σ sz) .skip)) (ahx σ sz)
def ahs(σ:bu)(sz:Nat):aq:=.seq (Iv σ sz) (ahv σ sz)
def AB(σ:bu)(sz:Nat):aq:=yr [ym 17 10,yn 18 (.bin .add (R 17) (yi 1)),ym 10 18]
def ahr(σ:bu)(sz:Nat):aq:=.seq (.block 1 (ahs σ sz)) (AB σ sz)
def GC(σ:bu)(sz:Nat):aq:=.seq (.seq (yr [ym 15 10,yn 16 (.bin .lss (R 15) (yi 5))]) (.cond (R 16) .skip (.exit 0))) (ahr σ sz)
def tD(σ:bu)(sz:Nat):aq:=.seq (yr [yn 8 (.bf yf)]) .ret
def al5(σ:bu)(sz:Nat):aq:=.seq (.seq (yr [yn 10 (.bf (yi 0))]) (.block 0 (.loop (GC σ sz)))) (tD σ sz)
def al4(σ:bu)(sz:Nat):aq:=.seq (yr [ym 13 1,yn 14 (.bin .add (R 13) (yi 1)),ym 9 14]) (al5 σ sz)
def al3(σ:bu)(sz:Nat):aq:=.seq (yr [yn 8 (.bf yf)]) (al4 σ sz)
def AD(σ:bu)(sz:Nat):ax:=⟨[P.nat 0,P.nat 1,P.nat 2,P.nat 3],[.tmp (P.nat 8)],(al3 σ sz)⟩
def akP(σ:bu)(sz:Nat):aq:=.seq (yr [ym 9 0,ym 10 1,yn 11 (.bin .sub (R 10) (yi 1)),ym 12 1,ym 13 1,yn 14 (.bin .add (R 13) (yi 1)),ym 15 2,ym 16 3,yn 17 (.call σ.med [R 9,R 11,R 12,R 14,R 15,R 16] true),ym 8 17]) .ret
def akO(σ:bu)(sz:Nat):aq:=.seq (yr [yn 8 (.bf (yi 0))]) (akP σ sz)
def uW(σ:bu)(sz:Nat):ax:=⟨[P.nat 0,P.nat 1,P.nat 2,P.nat 3],[.tmp (P.nat 8)],(akO σ sz)⟩
def apG(σ:bu)(sz:Nat):aq:=.seq (yr [ym 40 2,ym 12 40]) .ret
def apF(σ:bu)(sz:Nat):aq:=.seq (yr [ym 32 0,ym 33 1,ym 34 2,ym 35 4,ym 36 5,yn 37 (.call σ.ord [R 32,R 33,R 34,R 35,R 36] true),ym 31 37,yn 38 (.extract (R 31) 0),yn 39 (.extract (R 31) 1),ym 1 38,ym 2 39]) (apG σ sz)
def apE(σ:bu)(sz:Nat):aq:=.seq (yr [ym 23 0,ym 24 2,ym 25 3,ym 26 4,ym 27 5,yn 28 (.call σ.ord [R 23,R 24,R 25,R 26,R 27] true),ym 22 28,yn 29 (.extract (R 22) 0),yn 30 (.extract (R 22) 1),ym 2 29,ym 3 30]) (apF σ sz)
def apD(σ:bu)(sz:Nat):aq:=.seq (yr [ym 14 0,ym 15 1,ym 16 2,ym 17 4,ym 18 5,yn 19 (.call σ.ord [R 14,R 15,R 16,R 17,R 18] true),ym 13 19,yn 20 (.extract (R 13) 0),yn 21 (.extract (R 13) 1),ym 1 20,ym 2 21]) (apE σ sz)
def apC(σ:bu)(sz:Nat):aq:=.seq (yr [yn 12 (.bf (yi 0))]) (apD σ sz)
def yy(σ:bu)(sz:Nat):ax:=⟨[P.nat 0,P.nat 1,P.nat 2,P.nat 3,P.nat 4,P.nat 5],[.tmp (P.nat 12)],(apC σ sz)⟩
def ap5(σ:bu)(sz:Nat):aq:=.seq (yr [ym 28 2,ym 29 1,ym 10 28,ym 11 29]) .ret
def ap4(σ:bu)(sz:Nat):aq:=.seq (yr [ym 23 3,yn 24 (.bh (R 23)),yn 25 (.load none (R 24)),yn 26 (.bin .add (R 25) (yi 1)),yn 27 (.bh (R 23)),ys 1 27 26]) (ap5 σ sz)
def ak6(σ:bu)(sz:Nat):aq:=.seq (yr [ym 30 1,ym 31 2,ym 10 30,ym 11 31]) .ret
def ap3(σ:bu)(sz:Nat):aq:=.seq (.seq (yr [ym 12 4,ym 13 0,ym 14 2,ya 15 sz 13 14,yl 16 sz 15,ym 17 0,ym 18 1,ya 19 sz 17 18,yl 20 sz 19,yn 21 (.bR (R 12) [R 16,R 20] true),yn 22 (.bin .lss (R 21) (yi 0))]) (.cond (R 22) (ap4 σ sz) .skip)) (ak6 σ sz)
def ap2(σ:bu)(sz:Nat):aq:=.seq (yr [yn 10 (.bf (yi 0)),yn 11 (.bf (yi 0))]) (ap3 σ sz)
def vh(σ:bu)(sz:Nat):ax:=⟨[P.nat 0,P.nat 1,P.nat 2,P.nat 3,P.nat 4],[.tmp (P.nat 10),.tmp (P.nat 11)],(ap2 σ sz)⟩
def apJ(σ:bu)(sz:Nat):aq:=.seq (yr [ym 3 0,yn 4 (.ek .u64 (R 3)),yn 5 (.call σ.len [R 4] false),yn 6 (.bin .shl (.k (.c (.f (.int .u64 1)))) (R 5)),ym 2 6]) .ret
def apI(σ:bu)(sz:Nat):aq:=.seq (yr [yn 2 (.bf (.k (.c (.f (.int .u64 0)))))]) (apJ σ sz)
def Ie(σ:bu)(sz:Nat):ax:=⟨[P.nat 0],[.tmp (P.nat 2)],(apI σ sz)⟩
def apO(σ:bu)(sz:Nat):aq:=.seq (yr [ym 30 0,yn 31 (.bh (R 30)),yn 32 (.load none (R 31)),ym 2 32]) .ret
def apN(σ:bu)(sz:Nat):aq:=.seq (yr [ym 21 0,yn 22 (.bh (R 21)),yn 23 (.load none (R 22)),ym 24 0,yn 25 (.bh (R 24)),yn 26 (.load none (R 25)),yn 27 (.bin .shl (R 26) (.k (.c (.f (.int .u64 17))))),yb 28 .xor 23 27,yn 29 (.bh (R 21)),ys 1 29 28]) (apO σ sz)
def apM(σ:bu)(sz:Nat):aq:=.seq (yr [ym 12 0,yn 13 (.bh (R 12)),yn 14 (.load none (R 13)),ym 15 0,yn 16 (.bh (R 15)),yn 17 (.load none (R 16)),yn 18 (.bin .shr (R 17) (.k (.c (.f (.int .u64 7))))),yb 19 .xor 14 18,yn 20 (.bh (R 12)),ys 1 20 19]) (apN σ sz)
def apL(σ:bu)(sz:Nat):aq:=.seq (yr [ym 3 0,yn 4 (.bh (R 3)),yn 5 (.load none (R 4)),ym 6 0,yn 7 (.bh (R 6)),yn 8 (.load none (R 7)),yn 9 (.bin .shl (R 8) (.k (.c (.f (.int .u64 13))))),yb 10 .xor 5 9,yn 11 (.bh (R 3)),ys 1 11 10]) (apM σ sz)
def apK(σ:bu)(sz:Nat):aq:=.seq (yr [yn 2 (.bf (.k (.c (.f (.int .u64 0)))))]) (apL σ sz)
def Ig(σ:bu)(sz:Nat):ax:=⟨[P.nat 0],[.tmp (P.nat 2)],(apK σ sz)⟩
end
section
open Go
def Cv(tab:Nat→Option ax)(cv:V)(W:List FC→Prop)(c:List FC→List FC→Int):Prop:=
 ∀ x y,W x→W y→∀ H,∃ F b J,bP cv [.a (x.map .f),.a (y.map .f)]=some (.fn F,b)∧Ev tab (.fn F) b H (vi (c x y)) (H++J)
section
variable{W:List FC→Prop}{c:List FC→List FC→Int}{l:List (List FC)}
theorem jH.of_lt{i j:Nat}(hc:tT W c)(g:∀ r ∈ l,W r){x y:List FC}(m:l[i]?=some x)(hy:l[j]?=some y)(h:c x y<0):jH c l i j:=fun q s b d=>by
 rw [m]at b;rw [hy]at d;cases b;cases d;exact hc.Ct (g _ (avL m)) (g _ (avL hy)) h
theorem jH.of_le{i j:Nat}{x y:List FC}(g:l[i]?=some x)(hy:l[j]?=some y)(h:¬ c y x<0):jH c l i j:=fun m q b d=>by
 rw [g]at b;rw [hy]at d;cases b;cases d;exact h
theorem jH.get{b:List (List FC)}{i j i' d:Nat}(h:jH c l i j)(g:b[i']?=l[i]?)(m:b[d]?=l[j]?):jH c b i' d:=fun x y q hy=>h x y (by rw [←g];exact q) (by rw [←m];exact hy)
def Hw(c:List FC→List FC→Int)(a i j:Nat)(l:List (List FC)):Prop:=∀ p q,a≤p→p<q→q≤i→q≠j→jH c l p q
theorem Hw.start{a i:Nat}(h:Up c a i l):Hw c a i i l:=fun p q b d g j=>fun x y=>h p q x y b d (by omega)
theorem Hw.step{a i j:Nat}(hc:tT W c)(A:∀ r ∈ l,W r)(h:Hw c a i (j+1) l)(B:a≤j)(F:j+1≤i)(hi:i<l.length){x y:List FC}(E:l[j+1]?=some x)(hy:l[j]?=some y)(s:c x y<0):Hw c a i j (gZ l (j+1) j):=by
 intro p q u v m z;have g:∀ k,(gZ l (j+1) j)[k]?=if k=j then l[j+1]? else if k=j+1 then l[j]? else l[k]?:=fun k=>fY (by omega) (by omega) k
 by_cases b:q=j+1
 ·subst b;by_cases p1:p=j
  ·subst p1;exact(jH.of_lt hc A E hy s).get (by rw [g,if_pos rfl]) (by rw [g,if_neg (by omega),if_pos rfl])
  ·exact(h p j u (by omega) (by omega) (by omega)).get (by rw [g,if_neg (by omega),if_neg (by omega)]) (by rw [g,if_neg (by omega),if_pos rfl])
 ·have d:(gZ l (j+1) j)[q]?=l[q]?:=by rw [g,if_neg z,if_neg b]
  by_cases p1:p=j
  ·subst p1;exact(h (p+1) q (by omega) (by omega) m b).get (by rw [g,if_pos rfl]) d
  by_cases p2:p=j+1
  ·subst p2;exact(h j q B (by omega) m b).get (by rw [g,if_neg (by omega),if_pos rfl]) d
  ·exact(h p q u v m b).get (by rw [g,if_neg p1,if_neg p2]) d
theorem Hw.front{a i:Nat}(h:Hw c a i a l):Up c a (i+1) l:=fun p q x y b d g=>h p q b d (by omega) (by omega) x y
theorem Hw.stop{a i j:Nat}(hc:tT W c)(s:∀ r ∈ l,W r)(h:Hw c a i (j+1) l)(v:a≤j)(z:j+1≤i)(hi:i<l.length)(b:jH c l j (j+1)):Up c a (i+1) l:=by
 intro p q x y d m u;by_cases g:q=j+1
 ·subst g;by_cases p1:p=j
  ·subst p1;exact b x y
  ·exact((h p j d (by omega) (by omega) (by omega)).trans hc s b (by omega)) x y
 ·exact h p q d m (by omega) g x y
end
section
variable{tab:Nat→Option ax}{σ:bu}{sz:Nat}{H:ai}{b ep:Nat}{rows:List (List FC)}{cv:V}{W:List FC→Prop}{c:List FC→List FC→Int}
theorem RB.at(h:RB H b sz ep rows){i:Nat}(hi:i<rows.length):aG H sz none (.c (.sl b 0 rows.length 0 ep sz)) (vi i)=some (.c (.ptr b (i*sz) ep)):=by
 have:=h.idx (n:=rows.length) (c:=0) (k:=.i64) (o:=0) (i:=(i:Int)) (by omega) (by omega)
 rwa [av2,awn]at this
theorem RB.ldi(h:RB H b sz ep rows)(hg:bC sz rows){i:Nat}(hi:i<rows.length):aQ H (some sz) (.c (.ptr b (i*sz) ep))=some (.a (rows[i].map .f)):=h.ldr hg (AI hi)
theorem akD(hT:tab σ.ins=some (yc σ sz))(b_:Cv tab cv W c)(hc:tT W c){n a e:Nat}(hn:rows.length=n)(hl:n≤1000000000)(d:RB H b sz ep rows)(hg:bC sz rows)(hW:∀ r ∈ rows,W r)(d5:a≤e)(d6:e≤n) :
  ∃ r H',Ev tab (.fn σ.ins) [.c (.sl b 0 n 0 ep sz),vi a,vi e,cv] H r H'∧(r=.t []∧Fm b H H'∧∃ l',RB H' b sz ep l'∧dU a e rows l'∧Up c a e l'):=by
 refine da hT rfl fun Q hQ=>?_
 refine ag (ab (.inl rfl) ?_);simp [wrap64 (n:=(a:Int)+1) (by omega) (by omega)]
 refine av ?_
 refine bw (fun m s=>∃(i:Nat) (t:T) (U:ai) (l:List (List FC)),s=⟨t,[],U⟩∧m=n+1-i∧a+1≤i∧(i≤e∨i=a+1)∧t.g 0=.c (.sl b 0 n 0 ep sz)∧t.g 1=vi a∧t.g 2=vi e∧t.g 3=cv∧t.g 8=vi i ∧
  Fm b H U∧RB U b sz ep l∧dU a e rows l∧Up c a i l) _
  ⟨a+1,_,H,rows,rfl,rfl,by omega,.inr rfl,by simp,by simp,by simp,by simp,by simp,Fm.refl H,d,dU.refl _ _ _,Up.one (by omega)⟩ ?_
 rintro m s ⟨i,t,U,l,rfl,rfl,d7,hi,B,E,L,M,I,v,d,g,b9⟩ ih;have A:=g.len;refine ag ?_;refine ag (ab (.inl rfl) ?_);simp [I,L];by_cases b7:i<e
 case neg=>
  refine ah (by simp [b7]) ?_
  refine aT (k':=[]) rfl ?_;exact iY (hQ _ _ _ rfl rfl ⟨rfl,v,l,d,g,b9.mono (aft _) (by omega)⟩)
 refine aj (by simp [b7]) (aB ?_)
 refine ag ?_;refine av ?_;refine ag (ab (.inl rfl) ?_);simp [I];refine av ?_
 refine bw (fun m s=>∃(j:Nat) (t:T) (O:ai) (q:List (List FC)),s=⟨t,[],O⟩∧j=m∧a≤j∧j≤i∧t.g 0=.c (.sl b 0 n 0 ep sz)∧t.g 1=vi a∧t.g 2=vi e∧t.g 3=cv∧t.g 8=vi i∧t.g 9=vi j ∧
  Fm b H O∧RB O b sz ep q∧dU a e rows q∧Hw c a i j q) i
  ⟨i,_,U,l,rfl,rfl,by omega,by omega,by simp [B],by simp [E],by simp [L],by simp [M],by simp [I],by simp,v,d,g,Hw.start b9⟩ ?_
 rintro m s ⟨j,t,O,q,rfl,rfl,d8,a_,B,E,L,M,I,X,v,d,g,z⟩ c_;have A:=g.len;have x:=g.te hg;have K:∀ r ∈ q,W r:=fun r hr=>hW r (g.1.mem_iff.1 hr)
 have stop:Up c a (i+1) q→∀ t:T,t.g 0=.c (.sl b 0 n 0 ep sz)→t.g 1=vi a→t.g 2=vi e→t.g 3=cv→t.g 8=vi i→∀ S,Fm b H S→RB S b sz ep q →
   WP tab σ.ins none [.inBlock 1,.code (Ac σ sz),.inLoop (HU σ sz),.inBlock 0] ⟨t,[],S⟩ Q:=by
  intro hp t B E L M I S v d;refine al (ab (.inl rfl) ?_);simp [I,wrap64 (n:=(i:Int)+1) (by omega) (by omega)]
  exact ih (n+1-(i+1)) _ (by omega) ⟨i+1,_,S,q,rfl,rfl,by omega,.inl (by omega),by simp [B],by simp [E],by simp [L],by simp [M],by simp,v,d,g,hp⟩
 refine ag ?_;refine ag (ab (.inl rfl) ?_);by_cases hj:j=a
 ·subst hj;simp [X,E];refine ah (by simp) ?_
  refine aT (k':=[.inBlock 1,.code (Ac σ sz),.inLoop (HU σ sz),.inBlock 0]) rfl ?_;exact stop z.front _ (by simp [B]) (by simp [E]) (by simp [L]) (by simp [M]) (by simp [I]) _ v d
 obtain⟨k,rfl⟩:∃ k,j=k+1:=⟨j-1,by omega⟩
 have N:k+1<q.length:=by omega
 have c1:((k+1:Nat):Int)=(k:Int)+1:=by omega
 have i1:=d.at N;have i0:=d.at (show k<q.length by omega)
 have l1:=d.ldi x N;have l0:=d.ldi x (show k<q.length by omega)
 rw [A,hn]at i1 i0;rw [c1]at i1 X;obtain⟨F,ar,J,Z,c9⟩:=b_ q[k+1] q[k] (K _ (IT _)) (K _ (IT _)) O;have he:=c9.eq;have gt:(a:Int)<(k:Int)+1:=by omega
 simp [X,B,E,M,gt,i1,i0,l1,l0,Z,he,-an,wrap64 (n:=(k:Int)) (by omega) (by omega)]
 by_cases y:c q[k+1] q[k]<0
 case neg=>
  refine ah (by simp [y]) ?_
  refine aT (k':=[.inBlock 1,.code (Ac σ sz),.inLoop (HU σ sz),.inBlock 0]) rfl ?_;exact stop (z.stop hc K (by omega) a_ (by omega) (jH.of_le (AI (by omega)) (AI N) y)) _ (by simp [B]) (by simp [E]) (by simp [L]) (by simp [M]) (by simp [I]) _ (v.trans (Fm.push _ _)) (d.push _)
 refine aj (by simp [y]) (aB ?_)
 have w1:q[k+1].length=sz:=x _ (IT _);have w0:q[k].length=sz:=x _ (IT _);have u:=d.push J;obtain⟨HJ,Y⟩:∃ HJ,HJ=O++J:=⟨_,rfl⟩;rw [←Y]at u ⊢;have a8:Fm b H HJ:=by rw [Y];exact v.trans (Fm.push _ _)
 have i1:=u.at N;have i0:=u.at (show k<q.length by omega)
 have l1:=u.ldi x N;have l0:=u.ldi x (show k<q.length by omega)
 obtain⟨S,H4,s1,r1,s2,r2,f2⟩:=u.swap x N (show k<q.length by omega)
 have i2:=r1.at (show k<(q.set (k+1) q[k]).length by simp;omega)
 rw [List.length_set]at i2;rw [A,hn]at i1 i0 i2;rw [c1]at i1;refine ag ?_;refine av ?_;refine ab (.inl rfl) ?_;simp [X,B,i1,i0,i2,l1,l0,s1,s2,w1,w0,-an,-ba,wrap64 (n:=(k:Int)) (by omega) (by omega)]
 refine al ?_;refine ab (.inl rfl) ?_;simp [X,wrap64 (n:=(k:Int)) (by omega) (by omega)]
 exact c_ k _ (by omega) ⟨k,_,H4,gZ q (k+1) k,rfl,rfl,by omega,by omega,by simp [B],by simp [E],by simp [L],by simp [M],by simp [I],by simp,a8.trans f2,r2,
  g.trans (ef (by omega) (by omega) (by omega) (by omega) (by omega)),z.step hc K (by omega) a_ (by omega) (AI N) (AI (by omega)) y⟩
end
end
section
open Go
section
variable{tab:Nat→Option ax}{σ:bu}{sz:Nat}{H:ai}{b ep:Nat}{rows:List (List FC)}{cv:V}{W:List FC→Prop}{c:List FC→List FC→Int}
theorem RB.gZ(h:RB H b sz ep rows)(hg:bC sz rows){n i j:Nat}(q:rows.length=n)(hi:i<n)(l:j<n):∃(x y:List FC) (d g:ai),rows[i]?=some x∧rows[j]?=some y ∧
  aG H sz none (.c (.sl b 0 n 0 ep sz)) (vi i)=some (.c (.ptr b (i*sz) ep))∧aG H sz none (.c (.sl b 0 n 0 ep sz)) (vi j)=some (.c (.ptr b (j*sz) ep)) ∧
  aQ H (some sz) (.c (.ptr b (i*sz) ep))=some (.a (x.map .f))∧aQ H (some sz) (.c (.ptr b (j*sz) ep))=some (.a (y.map .f))∧x.length=sz∧y.length=sz ∧
  df H (.ptr b (i*sz) ep) (y.map .f)=some d∧aG d sz none (.c (.sl b 0 n 0 ep sz)) (vi j)=some (.c (.ptr b (j*sz) ep))∧df d (.ptr b (j*sz) ep) (x.map .f)=some g∧RB g b sz ep (gZ rows i j)∧Fm b H g:=by
 subst q;obtain⟨d,g,s,r1,u,r2,m⟩:=h.swap hg hi l;have i2:=r1.at (show j<(rows.set i rows[j]).length by simpa using l)
 rw [List.length_set]at i2;exact⟨rows[i],rows[j],d,g,AI hi,AI l,h.at hi,h.at l,h.ldi hg hi,h.ldi hg l,hg _ (IT _),hg _ (IT _),s,i2,u,r2,m⟩
theorem RB.ask(h:RB H b sz ep rows)(hg:bC sz rows)(l:Cv tab cv W c)(g:∀ r ∈ rows,W r){n i j:Nat}(u:rows.length=n)(hi:i<n)(m:j<n):∃(x y:List FC) (F:Nat) (d:List V) (J:ai),rows[i]?=some x∧rows[j]?=some y ∧
  aG H sz none (.c (.sl b 0 n 0 ep sz)) (vi i)=some (.c (.ptr b (i*sz) ep))∧aG H sz none (.c (.sl b 0 n 0 ep sz)) (vi j)=some (.c (.ptr b (j*sz) ep)) ∧
  aQ H (some sz) (.c (.ptr b (i*sz) ep))=some (.a (x.map .f))∧aQ H (some sz) (.c (.ptr b (j*sz) ep))=some (.a (y.map .f)) ∧
  bP cv [.a (x.map .f),.a (y.map .f)]=some (.fn F,d)∧Ev tab (.fn F) d H=E2 (vi (c x y)) (H++J)∧W x∧W y:=by
 subst u;obtain⟨F,d,J,q,s⟩:=l rows[i] rows[j] (g _ (IT _)) (g _ (IT _)) H;exact⟨rows[i],rows[j],F,d,J,AI hi,AI m,h.at hi,h.at m,h.ldi hg hi,h.ldi hg m,q,s.eq,g _ (IT _),g _ (IT _)⟩
theorem amo(M:tab σ.rev=some (IG σ sz)){n a e:Nat}(Y:rows.length=n)(hl:n≤1000000000)(q:RB H b sz ep rows)(S:bC sz rows)(N:a<e)(O:e≤n) :
  ∃ r H',Ev tab (.fn σ.rev) [.c (.sl b 0 n 0 ep sz),vi a,vi e,cv] H r H'∧(r=.t []∧Fm b H H'∧∃ I,RB H' b sz ep I∧dU a e rows I):=by
 refine da M rfl fun Q L=>?_
 obtain⟨d,rfl⟩:∃ d,e=d+1:=⟨e-1,by omega⟩
 refine ag (ab (.inl rfl) ?_);simp;refine ag (ab (.inl rfl) ?_);simp [wrap64 (n:=(d:Int)) (by omega) (by omega)]
 refine av ?_
 refine bw (fun m s=>∃(i j:Nat) (t:T) (A:ai) (l:List (List FC)),s=⟨t,[],A⟩∧m=n+1-i∧a≤i∧j≤d∧i≤j+1∧t.g 0=.c (.sl b 0 n 0 ep sz)∧t.g 8=vi i∧t.g 9=vi j ∧
  Fm b H A∧RB A b sz ep l∧dU a (d+1) rows l) _
  ⟨a,d,_,H,rows,rfl,rfl,by omega,by omega,by omega,by simp,by simp,by simp,Fm.refl H,q,dU.refl _ _ _⟩ ?_
 rintro m s ⟨i,j,t,A,l,rfl,rfl,U,X,W,F,B,E,u,q,g⟩ Z;have v:=g.len;refine ag ?_;refine ag (ab (.inl rfl) ?_);simp [B,E];by_cases z:i<j
 case neg=>
  refine ah (by simp [z]) ?_
  refine aT (k':=[]) rfl ?_;exact iY (L _ _ _ rfl rfl ⟨rfl,u,l,q,g⟩)
 refine aj (by simp [z]) (aB ?_)
 obtain⟨x,y,H2,J,-,-,i1,j1,l1,l2,w1,w2,s1,j2,s2,r2,K⟩:=q.gZ (g.te S) (v.trans Y) (i:=i) (j:=j) (by omega) (by omega)
 refine av ?_;refine ag (ab (.inl rfl) ?_);simp [F,B,E,i1,j1,l1,l2,w1,w2,s1,j2,s2,-an,-ba];refine ag (ab (.inl rfl) ?_);simp [B,wrap64 (n:=(i:Int)+1) (by omega) (by omega)]
 refine ab (.inl rfl) ?_;simp [E,wrap64 (n:=(j:Int)-1) (by omega) (by omega)]
 refine al ?_;refine Z (n+1-(i+1)) _ (by omega) ⟨i+1,j-1,_,J,gZ l i j,rfl,rfl,by omega,by omega,by omega,by simp [F],by simp,by simp;omega,u.trans K,r2,g.trans (ef (by omega) (by omega) (by omega) (by omega) (by omega))⟩
def NB(H:ai)(p:Nat):Prop:=∃ k:Int,H[p]?=some (.box [.f (fi k)] 0)
theorem NB.push{p:Nat}(h:NB H p)(J:ai):NB (H++J) p:=by
 obtain⟨k,h⟩:=h;exact⟨k,by rw [AT (ak h)];exact h⟩
theorem ak7(z:tab σ.ord=some (vh σ sz))(m:Cv tab cv W c){n p i j:Nat}(K:rows.length=n)(s:RB H b sz ep rows)(E:bC sz rows)(A:∀ r ∈ rows,W r)(hi:i<n)(I:j<n)(v:NB H p)(L:p≠b) :
  ∃ r H',Ev tab (.fn σ.ord) [.c (.sl b 0 n 0 ep sz),vi i,vi j,.c (.ptr p 0 0),cv] H r H'∧((r=.t [vi i,vi j]∨r=.t [vi j,vi i])∧Fm p H H'∧NB H' p):=by
 refine da z rfl fun Q u=>?_
 obtain⟨x,y,F,S,J,-,-,i1,M,N,O,d,B,-,-⟩:=s.ask E m A K I hi;obtain⟨k,l⟩:=v.push J;have q:=ak l;refine ag (ab (.inl rfl) ?_);simp;refine ag ?_;refine ag (ab (.inl rfl) ?_);simp [i1,M,N,O,d,B,-an];by_cases g:c x y<0
 ·refine aj (by simp [g]) (ag (ab (.inl rfl) ?_))
  simp [l];refine ag (ab (.inl rfl) ?_);simp;refine aA (u _ _ (.t [vi j,vi i]) rfl (by simp [Km.results,aU]) ⟨.inr rfl,?_,?_⟩)
  ·exact(Fm.push _ _).trans (Fm.set _ _)
  ·exact⟨_,OF q⟩
 ·refine ah (by simp [g]) (aB (ag (ab (.inl rfl) ?_)))
  simp;exact aA (u _ _ (.t [vi i,vi j]) rfl (by simp [Km.results,aU]) ⟨.inl rfl,Fm.push _ _,v.push J⟩)
theorem aa4(X:tab σ.med=some (yy σ sz))(S:tab σ.ord=some (vh σ sz))(l:Cv tab cv W c){n p i j k:Nat}(hn:rows.length=n)(d:RB H b sz ep rows)(Z:bC sz rows)(Y:∀ r ∈ rows,W r)(hi:i<n)(m:j<n)(hk:k<n)(s:NB H p)(g:p≠b) :
  ∃ r H',Ev tab (.fn σ.med) [.c (.sl b 0 n 0 ep sz),vi i,vi j,vi k,.c (.ptr p 0 0),cv] H r H'∧((∃ q:Nat,r=vi q∧(q=i∨q=j∨q=k))∧Fm p H H'∧NB H' p):=by
 have key:∀ {H:ai} {i j:Nat},RB H b sz ep rows→NB H p→i<n→j<n→∃(x y:Nat) (H':ai),Ev tab (.fn σ.ord) [.c (.sl b 0 n 0 ep sz),vi i,vi j,.c (.ptr p 0 0),cv] H=E2 (.t [vi x,vi y]) H'∧(x=i∧y=j∨x=j∧y=i)∧Fm p H H'∧NB H' p:=by
  intro H i j d s hi m;obtain⟨r,H',A,hr,B,z⟩:=ak7 S l hn d Z Y hi m s g;rcases hr with rfl | rfl
  ·exact⟨i,j,H',A.eq,.inl ⟨rfl,rfl⟩,B,z⟩
  ·exact⟨j,i,H',A.eq,.inr ⟨rfl,rfl⟩,B,z⟩
 obtain⟨x1,y1,F,L,o1,u,b1⟩:=key d s hi m;have r1:RB F b sz ep rows:=u.get d (Ne.symm g);obtain⟨x2,y2,I,M,o2,v,J⟩:=key r1 b1 (show y1<n by omega) hk
 have r2:RB I b sz ep rows:=v.get r1 (Ne.symm g);obtain⟨x3,E,H3,N,o3,O,K⟩:=key r2 J (show x1<n by omega) (show x2<n by omega)
 refine da X rfl fun Q U=>?_
 refine ag (ab (.inl rfl) ?_);simp;refine ag (ab (.inl rfl) ?_);simp [L];refine ag (ab (.inl rfl) ?_);simp [M];refine ag (ab (.inl rfl) ?_);simp [N];refine ag (ab (.inl rfl) ?_);simp;refine aA (U _ _ (vi E) rfl (by simp [Km.results,aU]) ⟨⟨E,rfl,by omega⟩,u.trans (v.trans O),K⟩)
theorem Am(y:tab σ.uV=some (uW σ sz))(u:tab σ.med=some (yy σ sz))(v:tab σ.ord=some (vh σ sz))(l:Cv tab cv W c){n p i:Nat}(F:rows.length=n)(K:n≤1000000000)(s:RB H b sz ep rows)(E:bC sz rows)(z:∀ r ∈ rows,W r)(J:0<i)(hi:i+1<n)(I:NB H p)(m:p≠b) :
  ∃ r H',Ev tab (.fn σ.uV) [.c (.sl b 0 n 0 ep sz),vi i,.c (.ptr p 0 0),cv] H r H'∧((∃ q:Nat,r=vi q∧i≤q+1∧q≤i+1)∧Fm p H H'∧NB H' p):=by
 obtain⟨d,rfl⟩:∃ d,i=d+1:=⟨i-1,by omega⟩
 obtain⟨r,H',g,⟨q,rfl,L⟩,B,A⟩:=aa4 (i:=d) (j:=d+1) (k:=d+1+1) u v l F s E z (by omega) (by omega) hi I m
 refine da y rfl fun Q x=>?_
 have g:=g.eq;simp at g;refine ag (ab (.inl rfl) ?_);simp;refine ag (ab (.inl rfl) ?_);simp [wrap64 (n:=(d:Int)) (by omega) (by omega),wrap64 (n:=(d:Int)+1+1) (by omega) (by omega),g]
 exact aA (x _ _ (vi q) rfl (by simp [Km.results,aU]) ⟨⟨q,rfl,by omega,by omega⟩,B,A⟩)
def Kp(H H':ai):Prop:=H.length≤H'.length∧∀ b:Nat,b<H.length→H'[b]?=H[b]?
theorem Kp.fm{b:Nat}{H H':ai}(h:Kp H H'):Fm b H H':=⟨h.1,fun d _ l=>h.2 d l⟩
theorem Kp.push(H J:ai):Kp H (H++J):=⟨by simp,fun b l=>AT l⟩
theorem Kp.next{H H' b:ai}{p:Nat}(h:Kp H H')(j:H.length≤p)(g:Fm p H' b):Kp H b:=⟨avV h.1 g.1,fun d l=>(g.2 d (by omega) (awr l h.1)).trans (h.2 d l)⟩
theorem Kp.rb{H H':ai}{b sz ep:Nat}{rows:List (List FC)}(h:Kp H H')(d:RB H b sz ep rows):RB H' b sz ep rows:=by
 unfold RB at *;rw [h.2 b (ak d)];exact d
theorem ahR{a b:Nat}(s:0<b)(m:a≤9223372036854775807):bJ .quo (vi a) (vi b)=some (vi ((a / b:Nat):Int)):=by
 have g:(a / b:Nat)≤a:=Nat.div_le_self a b;obtain⟨q,d⟩:∃ q,q=a / b:=⟨_,rfl⟩;have j:((a:Int) / b)=(q:Int):=by rw [d];simp
 have l:q≤a:=by rw [d];exact g
 rw [←d,zK (by omega),Int.tdiv_eq_ediv_of_nonneg (by omega),j,wrap64 (by omega) (by omega)]
theorem amf(hT:tab σ.piv=some (Iz σ sz))(Z:tab σ.uV=some (uW σ sz))(F:tab σ.med=some (yy σ sz))(I:tab σ.ord=some (vh σ sz))(v:Cv tab cv W c){n a e:Nat}(M:rows.length=n)(hl:n≤1000000000)(m:RB H b sz ep rows)(K:bC sz rows)(J:∀ r ∈ rows,W r)(b9:a+8≤e)(c9:e≤n) :
  ∃ r H',Ev tab (.fn σ.piv) [.c (.sl b 0 n 0 ep sz),vi a,vi e,cv] H r H'∧((∃(q:Nat) (h:Int),r=.t [vi q,vi h]∧a≤q∧q<e)∧Kp H H'):=by
 obtain⟨L,rfl⟩:∃ L,e=a+L:=⟨e-a,by omega⟩
 obtain⟨d,hd⟩:∃ d,d=L / 4:=⟨_,rfl⟩
 have N:bJ .quo (vi (L:Int)) (vi 4)=some (vi (d:Int)):=by
  have:=ahR (a:=L) (b:=4) (by omega) (by omega)
  rw [hd];exact this
 have b_:=m.lt;have hw:IntKind.i64.wrap ((a:Int)+L-a)=L:=by rw [wrap64 (by omega) (by omega)];omega
 refine da hT rfl fun Q hQ=>?_
 have O:∀(t:T) (s:ai) (q:Nat),t.g 11=.c (.ptr H.length 0 0)→t.g 13=vi q→a≤q→q<a+L→NB s H.length→Kp H s→WP tab σ.piv none [.code (GF σ sz)] ⟨t,[],s⟩ Q:=by
  intro t s q u l X Y ⟨k,hk⟩ g;refine ag (ab (.inl rfl) ?_);simp [u,hk];refine av ?_;refine ag (ab (.inl rfl) ?_);simp;by_cases k1:k=0
  ·refine aj (by simp [k1]) (ag (ab (.inl rfl) ?_))
   simp [l];exact aA (hQ _ _ (.t [vi q,vi 1]) rfl (by simp [Km.results,aU]) ⟨⟨q,1,rfl,X,Y⟩,g⟩)
  refine ah (by simp [k1]) ?_
  refine ag (ab (.inl rfl) ?_);simp;by_cases k2:k=12
  ·refine aj (by simp [k2]) (ag (ab (.inl rfl) ?_))
   simp [l];exact aA (hQ _ _ (.t [vi q,vi 2]) rfl (by simp [Km.results,aU]) ⟨⟨q,2,rfl,X,Y⟩,g⟩)
  refine ah (by simp [k2]) ?_
  refine ag (ab (.inl rfl) ?_);simp [l];exact aA (hQ _ _ (.t [vi q,vi 0]) rfl (by simp [Km.results,aU]) ⟨⟨q,0,rfl,X,Y⟩,g⟩)
 have mid:∀(t:T) (s:ai) (i j k:Nat),t.g 0=.c (.sl b 0 n 0 ep sz)→t.g 3=cv→t.g 11=.c (.ptr H.length 0 0)→t.g 12=vi i→t.g 13=vi j→t.g 14=vi k→a≤i→i<a+L→a≤j→j<a+L→a≤k→k<a+L→NB s H.length→Kp H s →
   WP tab σ.piv none [.code (abD σ sz),.code (GF σ sz)] ⟨t,[],s⟩ Q:=by
  intro t s i j k g0 g3 u S l U i1 i2 j1 j2 k1 k2 x g;obtain⟨r,H3,he,⟨q,rfl,N⟩,hf,a8⟩:=aa4 (p:=H.length) (i:=i) (j:=j) (k:=k) F I v M (g.rb m) K J (by omega) (by omega) (by omega) x (by omega)
  have he:=he.eq;refine ab (.inl rfl) ?_;simp [g0,g3,u,S,l,U,he];exact O _ H3 q (by simp [u]) (by simp) (by omega) (by omega) a8 (g.next (aft _) hf)
 refine ag (ab (.inl rfl) ?_);simp;refine ag (ab (.inl rfl) ?_);simp [hw];refine ag (ab (.inl rfl) ?_);simp;refine ag (ab (.inl rfl) ?_);simp [N,wrap64 (n:=(d:Int)) (by omega) (by omega),wrap64 (n:=(a:Int)+d) (by omega) (by omega)]
 refine ag (ab (.inl rfl) ?_);simp [N,wrap64 (n:=(d:Int)*2) (by omega) (by omega),wrap64 (n:=(a:Int)+d*2) (by omega) (by omega)]
 refine ag (ab (.inl rfl) ?_);simp [N,wrap64 (n:=(d:Int)*3) (by omega) (by omega),wrap64 (n:=(a:Int)+d*3) (by omega) (by omega)]
 refine ag ?_;refine ag (ab (.inl rfl) ?_);simp;refine aj (by simp;omega) ?_
 refine ag ?_;refine ag (ab (.inl rfl) ?_);simp;have x:NB (H++[.box [.f (fi 0)] 0]) H.length:=⟨0,by simp⟩
 have g:Kp H (H++[.box [.f (fi 0)] 0]):=Kp.push _ _;by_cases b7:50≤L
 case neg=>
  refine ah (by simp;omega) (aB ?_)
  exact mid _ _ (a+d) (a+d*2) (a+d*3) (by simp) (by simp) (by simp) (by simp) (by simp) (by simp) (by omega) (by omega) (by omega) (by omega) (by omega) (by omega) x g
 refine aj (by simp;omega) ?_
 obtain⟨r1,H1,A,⟨q1,rfl,c_⟩,f1,b1⟩:=Am (p:=H.length) (i:=a+d) Z F I v M hl (g.rb m) K J (by omega) (by omega) x (by omega)
 have y:=g.next (aft _) f1;obtain⟨r2,s,B,⟨q2,rfl,d5⟩,f2,b2⟩:=Am (p:=H.length) (i:=a+d*2) Z F I v M hl (y.rb m) K J (by omega) (by omega) b1 (by omega)
 have z:=y.next (aft _) f2;obtain⟨r3,H3,E,⟨q3,rfl,d6⟩,f3,b3⟩:=Am (p:=H.length) (i:=a+d*3) Z F I v M hl (z.rb m) K J (by omega) (by omega) b2 (by omega)
 have a_:=z.next (aft _) f3;have A:=A.eq;have B:=B.eq;have E:=E.eq;simp at A B E;refine ag (ab (.inl rfl) ?_);simp [A];refine ag (ab (.inl rfl) ?_);simp [B];refine ab (.inl rfl) ?_;simp [E];exact mid _ _ q1 q2 q3 (by simp) (by simp) (by simp) (by simp) (by simp) (by simp) (by omega) (by omega) (by omega) (by omega) (by omega) (by omega) b3 a_
end
end
section
open Go
section
variable{tab:Nat→Option ax}{σ:bu}{sz:Nat}{cv:V}{W:List FC→Prop}{c:List FC→List FC→Int}
theorem abq{n a e i j ep b:Nat}{rows:List (List FC)}{p:List FC}{H0:ai}{k:List cm}{Q:Option aq→St→Prop}(S:Cv tab cv W c)(hn:rows.length=n)(hl:n≤1000000000)(hg:bC sz rows)(hW:∀ r ∈ rows,W r)
  {t:T} {H:ai} (a8:a<i) (b7:i≤j+1) (b9:j<e) (a_:e≤n) (hp:rows[a]?=some p)
  (A:t.g 0=.c (.sl b 0 n 0 ep sz)) (B:t.g 1=vi a) (E:t.g 4=cv) (v:t.g 12=vi i) (u:t.g 13=vi j) (l:Fm b H0 H) (g:RB H b sz ep rows)
  (next:∀(t:T) (H:ai) (K:Nat),(i≤K∧K≤j+1)→(∀(q:Nat) x,i≤q→q<K→rows[q]?=some x→c x p<0)→(j<K∨∀ x,rows[K]?=some x→¬ c x p<0) →
   t.g 0=.c (.sl b 0 n 0 ep sz)→t.g 1=vi a→t.g 4=cv→t.g 12=vi K→t.g 13=vi j→Fm b H0 H→RB H b sz ep rows→WP tab σ.part none k ⟨t,[],H⟩ Q) :
  WP tab σ.part none (.code (abn σ sz)::k) ⟨t,[],H⟩ Q:=by
 refine av ?_
 refine bw (fun m s=>∃(q:Nat) (t:T) (N:ai),s=⟨t,[],N⟩∧(q+m=j+1∧i≤q)∧(∀(r:Nat) x,i≤r→r<q→rows[r]?=some x→c x p<0) ∧
   t.g 0=.c (.sl b 0 n 0 ep sz)∧t.g 1=vi a∧t.g 4=cv∧t.g 12=vi q∧t.g 13=vi j∧Fm b H0 N∧RB N b sz ep rows) (j+1-i)
  ⟨i,_,H,rfl,by omega,fun r x Y Z=>by omega,A,B,E,v,u,l,g⟩ ?_
 rintro m s ⟨q,t,N,rfl,hm,d,A,B,E,v,u,l,g⟩ ih;refine ag ?_;refine ag (ab (.inl rfl) ?_);by_cases M:q≤j
 case neg=>
  simp [v,u,M];refine ah (by simp) ?_
  refine aT (k':=k) rfl ?_;exact next _ _ q (by omega) d (.inl (by omega)) (by simp [A]) (by simp [B]) (by simp [E]) (by simp [v]) (by simp [u]) l g
 obtain⟨x,y,F,ar,J,U,X,i1,j1,l1,l2,L,he,-,-⟩:=g.ask hg S hW hn (i:=q) (j:=a) (by omega) (by omega)
 simp [v,u,M,A,B,E,i1,j1,l1,l2,L,he,-an];have ep:p=y:=by rw [hp]at X;exact awU X
 subst ep;by_cases O:c x p<0
 case neg=>
  refine ah (by simp [O]) ?_
  refine aT (k':=k) rfl ?_;refine next _ _ q (by omega) d (.inr fun z I=>?_) (by simp [A]) (by simp [B]) (by simp [E]) (by simp [v]) (by simp [u]) (l.trans (Fm.push _ _)) (g.push _)
  rw [U]at I;cases I;exact O
 refine aj (by simp [O]) (aB ?_)
 refine av (ab (.inl rfl) ?_);simp [v,u,wrap64 (n:=(q:Int)+1) (by omega) (by omega)]
 refine al (ih (m-1) _ (by omega) ⟨q+1,_,_,rfl,by omega,fun r z Y Z I=>?_,by simp [A],by simp [B],by simp [E],by simp,by simp [u],l.trans (Fm.push _ _),g.push _⟩)
 by_cases hr:r=q
 ·subst hr;rw [U]at I;cases I;exact O
 ·exact d r z (by omega) (by omega) I
theorem abo{n a e i j ep b:Nat}{rows:List (List FC)}{p:List FC}{H0:ai}{k:List cm}{Q:Option aq→St→Prop}(S:Cv tab cv W c)(hn:rows.length=n)(hl:n≤1000000000)(hg:bC sz rows)(hW:∀ r ∈ rows,W r)
  {t:T} {H:ai} (a8:a<i) (b7:i≤j+1) (b9:j<e) (a_:e≤n) (hp:rows[a]?=some p)
  (A:t.g 0=.c (.sl b 0 n 0 ep sz)) (B:t.g 1=vi a) (E:t.g 4=cv) (u:t.g 12=vi i) (v:t.g 13=vi j) (l:Fm b H0 H) (g:RB H b sz ep rows)
  (next:∀(t:T) (H:ai) (K:Nat),(K≤j∧i≤K+1)→(∀(q:Nat) x,K<q→q≤j→rows[q]?=some x→¬ c x p<0)→(K<i∨∀ x,rows[K]?=some x→¬ ¬ c x p<0) →
   t.g 0=.c (.sl b 0 n 0 ep sz)→t.g 1=vi a→t.g 4=cv→t.g 12=vi i→t.g 13=vi K→Fm b H0 H→RB H b sz ep rows→WP tab σ.part none k ⟨t,[],H⟩ Q) :
  WP tab σ.part none (.code (Io σ sz)::k) ⟨t,[],H⟩ Q:=by
 refine av ?_
 refine bw (fun m s=>∃(q:Nat) (t:T) (N:ai),s=⟨t,[],N⟩∧(q+1=i+m∧q≤j)∧(∀(r:Nat) x,q<r→r≤j→rows[r]?=some x→¬ c x p<0) ∧
   t.g 0=.c (.sl b 0 n 0 ep sz)∧t.g 1=vi a∧t.g 4=cv∧t.g 12=vi i∧t.g 13=vi q∧Fm b H0 N∧RB N b sz ep rows) (j+1-i)
  ⟨j,_,H,rfl,by omega,fun r x Y Z=>by omega,A,B,E,u,v,l,g⟩ ?_
 rintro m s ⟨q,t,N,rfl,hm,d,A,B,E,u,v,l,g⟩ ih;refine ag ?_;refine ag (ab (.inl rfl) ?_);by_cases M:i≤q
 case neg=>
  simp [u,v,M];refine ah (by simp) ?_
  refine aT (k':=k) rfl ?_;exact next _ _ q (by omega) d (.inl (by omega)) (by simp [A]) (by simp [B]) (by simp [E]) (by simp [u]) (by simp [v]) l g
 obtain⟨x,y,F,ar,J,U,X,i1,j1,l1,l2,L,he,-,-⟩:=g.ask hg S hW hn (i:=q) (j:=a) (by omega) (by omega)
 simp [u,v,M,A,B,E,i1,j1,l1,l2,L,he,-an];have ep:p=y:=by rw [hp]at X;exact awU X
 subst ep;by_cases O:c x p<0
 case pos=>
  refine ah (by simp [O]) ?_
  refine aT (k':=k) rfl ?_;refine next _ _ q (by omega) d (.inr fun z I=>?_) (by simp [A]) (by simp [B]) (by simp [E]) (by simp [u]) (by simp [v]) (l.trans (Fm.push _ _)) (g.push _)
  rw [U]at I;cases I;exact fun h=>h O
 refine aj (by simp [O]) (aB ?_)
 refine av (ab (.inl rfl) ?_);simp [u,v,wrap64 (n:=(q:Int)-1) (by omega) (by omega)]
 refine al (ih (m-1) _ (by omega) ⟨q-1,_,_,rfl,by omega,fun r z Y Z I=>?_,by simp [A],by simp [B],by simp [E],by simp [u],by simp;omega,l.trans (Fm.push _ _),g.push _⟩)
 by_cases hr:r=q
 ·subst hr;rw [U]at I;cases I;exact O
 ·exact d r z (by omega) (by omega) I
theorem abr{n a e i j ep b:Nat}{rows:List (List FC)}{p:List FC}{H0:ai}{k:List cm}{Q:Option aq→St→Prop}(S:Cv tab cv W c)(hn:rows.length=n)(hl:n≤1000000000)(hg:bC sz rows)(hW:∀ r ∈ rows,W r)
  {t:T} {H:ai} (a8:a<i) (b7:i≤j+1) (b9:j<e) (a_:e≤n) (hp:rows[a]?=some p)
  (A:t.g 0=.c (.sl b 0 n 0 ep sz)) (B:t.g 1=vi a) (E:t.g 4=cv) (v:t.g 12=vi i) (u:t.g 13=vi j) (l:Fm b H0 H) (g:RB H b sz ep rows)
  (next:∀(t:T) (H:ai) (K:Nat),(i≤K∧K≤j+1)→(∀(q:Nat) x,i≤q→q<K→rows[q]?=some x→c x p<0)→(j<K∨∀ x,rows[K]?=some x→¬ c x p<0) →
   t.g 0=.c (.sl b 0 n 0 ep sz)→t.g 1=vi a→t.g 4=cv→t.g 12=vi K→t.g 13=vi j→Fm b H0 H→RB H b sz ep rows→WP tab σ.part none k ⟨t,[],H⟩ Q) :
  WP tab σ.part none (.code (Ip σ sz)::k) ⟨t,[],H⟩ Q:=by
 refine av ?_
 refine bw (fun m s=>∃(q:Nat) (t:T) (N:ai),s=⟨t,[],N⟩∧(q+m=j+1∧i≤q)∧(∀(r:Nat) x,i≤r→r<q→rows[r]?=some x→c x p<0) ∧
   t.g 0=.c (.sl b 0 n 0 ep sz)∧t.g 1=vi a∧t.g 4=cv∧t.g 12=vi q∧t.g 13=vi j∧Fm b H0 N∧RB N b sz ep rows) (j+1-i)
  ⟨i,_,H,rfl,by omega,fun r x Y Z=>by omega,A,B,E,v,u,l,g⟩ ?_
 rintro m s ⟨q,t,N,rfl,hm,d,A,B,E,v,u,l,g⟩ ih;refine ag ?_;refine ag (ab (.inl rfl) ?_);by_cases M:q≤j
 case neg=>
  simp [v,u,M];refine ah (by simp) ?_
  refine aT (k':=k) rfl ?_;exact next _ _ q (by omega) d (.inl (by omega)) (by simp [A]) (by simp [B]) (by simp [E]) (by simp [v]) (by simp [u]) l g
 obtain⟨x,y,F,ar,J,U,X,i1,j1,l1,l2,L,he,-,-⟩:=g.ask hg S hW hn (i:=q) (j:=a) (by omega) (by omega)
 simp [v,u,M,A,B,E,i1,j1,l1,l2,L,he,-an];have ep:p=y:=by rw [hp]at X;exact awU X
 subst ep;by_cases O:c x p<0
 case neg=>
  refine ah (by simp [O]) ?_
  refine aT (k':=k) rfl ?_;refine next _ _ q (by omega) d (.inr fun z I=>?_) (by simp [A]) (by simp [B]) (by simp [E]) (by simp [v]) (by simp [u]) (l.trans (Fm.push _ _)) (g.push _)
  rw [U]at I;cases I;exact O
 refine aj (by simp [O]) (aB ?_)
 refine av (ab (.inl rfl) ?_);simp [v,u,wrap64 (n:=(q:Int)+1) (by omega) (by omega)]
 refine al (ih (m-1) _ (by omega) ⟨q+1,_,_,rfl,by omega,fun r z Y Z I=>?_,by simp [A],by simp [B],by simp [E],by simp,by simp [u],l.trans (Fm.push _ _),g.push _⟩)
 by_cases hr:r=q
 ·subst hr;rw [U]at I;cases I;exact O
 ·exact d r z (by omega) (by omega) I
theorem abp{n a e i j ep b:Nat}{rows:List (List FC)}{p:List FC}{H0:ai}{k:List cm}{Q:Option aq→St→Prop}(S:Cv tab cv W c)(hn:rows.length=n)(hl:n≤1000000000)(hg:bC sz rows)(hW:∀ r ∈ rows,W r)
  {t:T} {H:ai} (a8:a<i) (b7:i≤j+1) (b9:j<e) (a_:e≤n) (hp:rows[a]?=some p)
  (A:t.g 0=.c (.sl b 0 n 0 ep sz)) (B:t.g 1=vi a) (E:t.g 4=cv) (u:t.g 12=vi i) (v:t.g 13=vi j) (l:Fm b H0 H) (g:RB H b sz ep rows)
  (next:∀(t:T) (H:ai) (K:Nat),(K≤j∧i≤K+1)→(∀(q:Nat) x,K<q→q≤j→rows[q]?=some x→¬ c x p<0)→(K<i∨∀ x,rows[K]?=some x→¬ ¬ c x p<0) →
   t.g 0=.c (.sl b 0 n 0 ep sz)→t.g 1=vi a→t.g 4=cv→t.g 12=vi i→t.g 13=vi K→Fm b H0 H→RB H b sz ep rows→WP tab σ.part none k ⟨t,[],H⟩ Q) :
  WP tab σ.part none (.code (Iq σ sz)::k) ⟨t,[],H⟩ Q:=by
 refine av ?_
 refine bw (fun m s=>∃(q:Nat) (t:T) (N:ai),s=⟨t,[],N⟩∧(q+1=i+m∧q≤j)∧(∀(r:Nat) x,q<r→r≤j→rows[r]?=some x→¬ c x p<0) ∧
   t.g 0=.c (.sl b 0 n 0 ep sz)∧t.g 1=vi a∧t.g 4=cv∧t.g 12=vi i∧t.g 13=vi q∧Fm b H0 N∧RB N b sz ep rows) (j+1-i)
  ⟨j,_,H,rfl,by omega,fun r x Y Z=>by omega,A,B,E,u,v,l,g⟩ ?_
 rintro m s ⟨q,t,N,rfl,hm,d,A,B,E,u,v,l,g⟩ ih;refine ag ?_;refine ag (ab (.inl rfl) ?_);by_cases M:i≤q
 case neg=>
  simp [u,v,M];refine ah (by simp) ?_
  refine aT (k':=k) rfl ?_;exact next _ _ q (by omega) d (.inl (by omega)) (by simp [A]) (by simp [B]) (by simp [E]) (by simp [u]) (by simp [v]) l g
 obtain⟨x,y,F,ar,J,U,X,i1,j1,l1,l2,L,he,-,-⟩:=g.ask hg S hW hn (i:=q) (j:=a) (by omega) (by omega)
 simp [u,v,M,A,B,E,i1,j1,l1,l2,L,he,-an];have ep:p=y:=by rw [hp]at X;exact awU X
 subst ep;by_cases O:c x p<0
 case pos=>
  refine ah (by simp [O]) ?_
  refine aT (k':=k) rfl ?_;refine next _ _ q (by omega) d (.inr fun z I=>?_) (by simp [A]) (by simp [B]) (by simp [E]) (by simp [u]) (by simp [v]) (l.trans (Fm.push _ _)) (g.push _)
  rw [U]at I;cases I;exact fun h=>h O
 refine aj (by simp [O]) (aB ?_)
 refine av (ab (.inl rfl) ?_);simp [u,v,wrap64 (n:=(q:Int)-1) (by omega) (by omega)]
 refine al (ih (m-1) _ (by omega) ⟨q-1,_,_,rfl,by omega,fun r z Y Z I=>?_,by simp [A],by simp [B],by simp [E],by simp [u],by simp;omega,l.trans (Fm.push _ _),g.push _⟩)
 by_cases hr:r=q
 ·subst hr;rw [U]at I;cases I;exact O
 ·exact d r z (by omega) (by omega) I
theorem al1{n a e i j ep b:Nat}{rows:List (List FC)}{p:List FC}{H0:ai}{k:List cm}{Q:Option aq→St→Prop}(S:Cv tab cv W c)(hn:rows.length=n)(hl:n≤1000000000)(hg:bC sz rows)(hW:∀ r ∈ rows,W r)
  {t:T} {H:ai} (a8:a<i) (b7:i≤j+1) (b9:j<e) (a_:e≤n) (hp:rows[a]?=some p)
  (A:t.g 0=.c (.sl b 0 n 0 ep sz)) (B:t.g 1=vi a) (E:t.g 4=cv) (v:t.g 11=vi i) (u:t.g 12=vi j) (l:Fm b H0 H) (g:RB H b sz ep rows)
  (next:∀(t:T) (H:ai) (K:Nat),(i≤K∧K≤j+1)→(∀(q:Nat) x,i≤q→q<K→rows[q]?=some x→¬ c p x<0)→(j<K∨∀ x,rows[K]?=some x→¬ ¬ c p x<0) →
   t.g 0=.c (.sl b 0 n 0 ep sz)→t.g 1=vi a→t.g 4=cv→t.g 11=vi K→t.g 12=vi j→Fm b H0 H→RB H b sz ep rows→WP tab σ.Pc none k ⟨t,[],H⟩ Q) :
  WP tab σ.Pc none (.code (aby σ sz)::k) ⟨t,[],H⟩ Q:=by
 refine av ?_
 refine bw (fun m s=>∃(q:Nat) (t:T) (N:ai),s=⟨t,[],N⟩∧(q+m=j+1∧i≤q)∧(∀(r:Nat) x,i≤r→r<q→rows[r]?=some x→¬ c p x<0) ∧
   t.g 0=.c (.sl b 0 n 0 ep sz)∧t.g 1=vi a∧t.g 4=cv∧t.g 11=vi q∧t.g 12=vi j∧Fm b H0 N∧RB N b sz ep rows) (j+1-i)
  ⟨i,_,H,rfl,by omega,fun r x Y Z=>by omega,A,B,E,v,u,l,g⟩ ?_
 rintro m s ⟨q,t,N,rfl,hm,d,A,B,E,v,u,l,g⟩ ih;refine ag ?_;refine ag (ab (.inl rfl) ?_);by_cases M:q≤j
 case neg=>
  simp [v,u,M];refine ah (by simp) ?_
  refine aT (k':=k) rfl ?_;exact next _ _ q (by omega) d (.inl (by omega)) (by simp [A]) (by simp [B]) (by simp [E]) (by simp [v]) (by simp [u]) l g
 obtain⟨x,y,F,ar,J,U,X,i1,j1,l1,l2,L,he,-,-⟩:=g.ask hg S hW hn (i:=a) (j:=q) (by omega) (by omega)
 simp [v,u,M,A,B,E,i1,j1,l1,l2,L,he,-an];have ep:p=x:=by rw [hp]at U;exact awU U
 subst ep;by_cases O:c p y<0
 case pos=>
  refine ah (by simp [O]) ?_
  refine aT (k':=k) rfl ?_;refine next _ _ q (by omega) d (.inr fun z I=>?_) (by simp [A]) (by simp [B]) (by simp [E]) (by simp [v]) (by simp [u]) (l.trans (Fm.push _ _)) (g.push _)
  rw [X]at I;cases I;exact fun h=>h O
 refine aj (by simp [O]) (aB ?_)
 refine av (ab (.inl rfl) ?_);simp [v,u,wrap64 (n:=(q:Int)+1) (by omega) (by omega)]
 refine al (ih (m-1) _ (by omega) ⟨q+1,_,_,rfl,by omega,fun r z Y Z I=>?_,by simp [A],by simp [B],by simp [E],by simp,by simp [u],l.trans (Fm.push _ _),g.push _⟩)
 by_cases hr:r=q
 ·subst hr;rw [X]at I;cases I;exact O
 ·exact d r z (by omega) (by omega) I
theorem alZ{n a e i j ep b:Nat}{rows:List (List FC)}{p:List FC}{H0:ai}{k:List cm}{Q:Option aq→St→Prop}(S:Cv tab cv W c)(hn:rows.length=n)(hl:n≤1000000000)(hg:bC sz rows)(hW:∀ r ∈ rows,W r)
  {t:T} {H:ai} (a8:a<i) (b7:i≤j+1) (b9:j<e) (a_:e≤n) (hp:rows[a]?=some p)
  (A:t.g 0=.c (.sl b 0 n 0 ep sz)) (B:t.g 1=vi a) (E:t.g 4=cv) (u:t.g 11=vi i) (v:t.g 12=vi j) (l:Fm b H0 H) (g:RB H b sz ep rows)
  (next:∀(t:T) (H:ai) (K:Nat),(K≤j∧i≤K+1)→(∀(q:Nat) x,K<q→q≤j→rows[q]?=some x→c p x<0)→(K<i∨∀ x,rows[K]?=some x→¬ c p x<0) →
   t.g 0=.c (.sl b 0 n 0 ep sz)→t.g 1=vi a→t.g 4=cv→t.g 11=vi i→t.g 12=vi K→Fm b H0 H→RB H b sz ep rows→WP tab σ.Pc none k ⟨t,[],H⟩ Q) :
  WP tab σ.Pc none (.code (abz σ sz)::k) ⟨t,[],H⟩ Q:=by
 refine av ?_
 refine bw (fun m s=>∃(q:Nat) (t:T) (N:ai),s=⟨t,[],N⟩∧(q+1=i+m∧q≤j)∧(∀(r:Nat) x,q<r→r≤j→rows[r]?=some x→c p x<0) ∧
   t.g 0=.c (.sl b 0 n 0 ep sz)∧t.g 1=vi a∧t.g 4=cv∧t.g 11=vi i∧t.g 12=vi q∧Fm b H0 N∧RB N b sz ep rows) (j+1-i)
  ⟨j,_,H,rfl,by omega,fun r x Y Z=>by omega,A,B,E,u,v,l,g⟩ ?_
 rintro m s ⟨q,t,N,rfl,hm,d,A,B,E,u,v,l,g⟩ ih;refine ag ?_;refine ag (ab (.inl rfl) ?_);by_cases M:i≤q
 case neg=>
  simp [u,v,M];refine ah (by simp) ?_
  refine aT (k':=k) rfl ?_;exact next _ _ q (by omega) d (.inl (by omega)) (by simp [A]) (by simp [B]) (by simp [E]) (by simp [u]) (by simp [v]) l g
 obtain⟨x,y,F,ar,J,U,X,i1,j1,l1,l2,L,he,-,-⟩:=g.ask hg S hW hn (i:=a) (j:=q) (by omega) (by omega)
 simp [u,v,M,A,B,E,i1,j1,l1,l2,L,he,-an];have ep:p=x:=by rw [hp]at U;exact awU U
 subst ep;by_cases O:c p y<0
 case neg=>
  refine ah (by simp [O]) ?_
  refine aT (k':=k) rfl ?_;refine next _ _ q (by omega) d (.inr fun z I=>?_) (by simp [A]) (by simp [B]) (by simp [E]) (by simp [u]) (by simp [v]) (l.trans (Fm.push _ _)) (g.push _)
  rw [X]at I;cases I;exact O
 refine aj (by simp [O]) (aB ?_)
 refine av (ab (.inl rfl) ?_);simp [u,v,wrap64 (n:=(q:Int)-1) (by omega) (by omega)]
 refine al (ih (m-1) _ (by omega) ⟨q-1,_,_,rfl,by omega,fun r z Y Z I=>?_,by simp [A],by simp [B],by simp [E],by simp [u],by simp;omega,l.trans (Fm.push _ _),g.push _⟩)
 by_cases hr:r=q
 ·subst hr;rw [X]at I;cases I;exact O
 ·exact d r z (by omega) (by omega) I
def we(c:List FC→List FC→Int)(a i j e:Nat)(p:List FC)(l:List (List FC)):Prop:=
 l[a]?=some p∧(∀(k:Nat) x,a<k→k<i→l[k]?=some x→c x p<0)∧(∀(k:Nat) x,j<k→k<e→l[k]?=some x→¬ c x p<0)
def mq(c:List FC→List FC→Int)(a e m:Nat)(l:List (List FC)):Prop:=
 ∃ p,l[m]?=some p∧(∀(k:Nat) x,a≤k→k<m→l[k]?=some x→c x p<0)∧(∀(k:Nat) x,m<k→k<e→l[k]?=some x→¬ c x p<0)
theorem we.swap{a i j e:Nat}{p:List FC}{l:List (List FC)}(h:we c a i j e p l)(y:a<i)(z:i<j)(d:j<l.length)(hi:∀ x,l[i]?=some x→¬ c x p<0)(A:∀ x,l[j]?=some x→c x p<0):we c a (i+1) (j-1) e p (gZ l i j):=by
 obtain⟨s,u,v⟩:=h;have g:∀ k,(gZ l i j)[k]?=if k=j then l[i]? else if k=i then l[j]? else l[k]?:=fun k=>fY (by omega) d k
 refine⟨?_,fun k x m q b=>?_,fun k x m q b=>?_⟩
 ·rw [g,if_neg (by omega),if_neg (by omega)];exact s
 ·rw [g,if_neg (by omega)]at b
  by_cases e:k=i
  ·rw [if_pos e]at b;exact A x b
  ·rw [if_neg e]at b;exact u k x m (by omega) b
 ·rw [g]at b;by_cases e:k=j
  ·rw [if_pos e]at b;exact hi x b
  ·rw [if_neg e,if_neg (by omega)]at b;exact v k x (by omega) q b
theorem we.done{a i j e:Nat}{p:List FC}{l:List (List FC)}(h:we c a i j e p l)(y:a≤j)(z:i=j+1)(d:j<l.length):mq c a e j (gZ l j a):=by
 obtain⟨m,q,v⟩:=h;have g:∀ k,(gZ l j a)[k]?=if k=a then l[j]? else if k=j then l[a]? else l[k]?:=fun k=>fY d (by omega) k
 refine⟨p,?_,fun k x s u b=>?_,fun k x s u b=>?_⟩
 ·rw [g];by_cases e:j=a
  ·rw [if_pos e,e];exact m
  ·rw [if_neg e,if_pos rfl];exact m
 ·rw [g]at b;by_cases e:k=a
  ·rw [if_pos e]at b;exact q j x (by omega) (by omega) b
  ·rw [if_neg e,if_neg (by omega)]at b;exact q k x (by omega) (by omega) b
 ·rw [g,if_neg (by omega),if_neg (by omega)]at b
  exact v k x s u b
theorem ahn{H:ai}{rows:List (List FC)}{n a e v b ep:Nat}(hT:tab σ.part=some (Ay σ sz))(b9:Cv tab cv W c)(hn:rows.length=n)(hl:n≤1000000000)(g:RB H b sz ep rows)(hg:bC sz rows)(hW:∀ r ∈ rows,W r)(d_:a<e)(b_:e≤n)(e_:a≤v)(f_:v<e) :
  ∃ r H',Ev tab (.fn σ.part) [.c (.sl b 0 n 0 ep sz),vi a,vi e,vi v,cv] H r H'∧((∃(m:Nat) (w:Bool),r=.t [vi m,vb w]∧a≤m∧m<e∧Fm b H H'∧∃ l',RB H' b sz ep l'∧dU a e rows l'∧mq c a e m l')):=by
 refine da hT rfl fun Q hQ=>?_
 obtain⟨d,rfl⟩:∃ d,e=d+1:=⟨e-1,by omega⟩
 obtain⟨x,p,H1,H2,F,hp,i1,j1,l1,l2,w1,w2,s1,j2,s2,r2,f2⟩:=g.gZ hg hn (i:=a) (j:=v) (by omega) (by omega)
 have B:dU a (d+1) rows (gZ rows a v):=ef (by omega) (by omega) (by omega) (by omega) (by omega)
 have c9:we c a (a+1) d (d+1) p (gZ rows a v):=by
  refine⟨?_,fun k x k1 k2=>by omega,fun k x k1 k2=>by omega⟩
  rw [fY (by omega) (by omega)]
  by_cases e:a=v
  ·rw [if_pos e,e];exact hp
  ·rw [if_neg e,if_pos rfl];exact hp
 refine ag (ab (.inl rfl) ?_);simp;refine ag (ab (.inl rfl) ?_);simp [i1,j1,l1,l2,w1,w2,s1,j2,s2,-an,-ba];refine ag (ab (.inl rfl) ?_);simp [wrap64 (n:=(a:Int)+1) (by omega) (by omega),wrap64 (n:=(d:Int)) (by omega) (by omega)]
 refine ag ?_
 have I:∀(w:Bool) (t:T) (H3:ai) (l:List (List FC)) (i j:Nat),a≤j→j<d+1→i=j+1→we c a i j (d+1) p l→dU a (d+1) rows l→Fm b H H3→RB H3 b sz ep l →
   ∃(x y:List FC) (H4 H5:ai),aG H3 sz none (.c (.sl b 0 n 0 ep sz)) (vi j)=some (.c (.ptr b (j*sz) ep))∧aG H3 sz none (.c (.sl b 0 n 0 ep sz)) (vi a)=some (.c (.ptr b (a*sz) ep)) ∧
    aQ H3 (some sz) (.c (.ptr b (j*sz) ep))=some (.a (x.map .f))∧aQ H3 (some sz) (.c (.ptr b (a*sz) ep))=some (.a (y.map .f))∧x.length=sz∧y.length=sz ∧
    df H3 (.ptr b (j*sz) ep) (y.map .f)=some H4∧aG H4 sz none (.c (.sl b 0 n 0 ep sz)) (vi a)=some (.c (.ptr b (a*sz) ep))∧df H4 (.ptr b (a*sz) ep) (x.map .f)=some H5 ∧
    (a≤j∧j<d+1∧Fm b H H5∧∃ l',RB H5 b sz ep l'∧dU a (d+1) rows l'∧mq c a (d+1) j l'):=by
  intro w t H3 l i j h1 h2 h3 O u q g;have M:=u.len;obtain⟨x,y,H4,H5,-,-,i1,j1,l1,l2,w1,w2,s1,j2,s2,r2,f2⟩:=g.gZ (u.te hg) (M.trans hn) (i:=j) (j:=a) (by omega) (by omega)
  exact⟨x,y,H4,H5,i1,j1,l1,l2,w1,w2,s1,j2,s2,h1,h2,q.trans f2,_,r2,u.trans (ef (by omega) (by omega) (by omega) (by omega) (by omega)),O.done h1 h3 (by omega)⟩
 have E:∀ {l},dU a (d+1) rows l→bC sz l:=fun h=>h.te hg
 have U:∀ {l},dU a (d+1) rows l→∀ r ∈ l,W r:=fun h r hr=>hW r (h.1.mem_iff.1 hr)
 refine abq b9 (B.len.trans hn) hl (E B) (U B) (i:=a+1) (j:=d) (e:=d+1) (H0:=H) (by omega) (by omega) (by omega) b_ c9.1 (by simp) (by simp) (by simp) (by simp) (by simp) f2 r2 ?_
 intro t H3 z d5 N S X Z g4 Y L q g;refine ag ?_;refine abo b9 (B.len.trans hn) hl (E B) (U B) (i:=z) (j:=d) (e:=d+1) (H0:=H) (by omega) (by omega) (by omega) b_ c9.1 X Z g4 Y L q g ?_
 intro t H4 A d7 J K X Z g4 Y L q g;have b7:we c a z A (d+1) p (gZ rows a v):=⟨c9.1,fun k x k1 k2 F=>N k x (by omega) k2 F,fun k x k1 k2 F=>J k x k1 (by omega) F⟩
 refine ag ?_;refine ag (ab (.inl rfl) ?_);simp [Y,L];by_cases a_:A<z
 ·obtain⟨x,y,H5,H6,i1,j1,l1,l2,w1,w2,s1,j2,s2,a8⟩:=I true t H4 _ z A (by omega) (by omega) (by omega) b7 B q g
  refine aj (by simp [a_]) (ag (ab (.inl rfl) ?_))
  simp [X,Z,L,i1,j1,l1,l2,w1,w2,s1,j2,s2,-an,-ba];refine ag (ab (.inl rfl) ?_);simp [L];exact aA (hQ _ _ (.t [vi A,vb true]) rfl (by simp [Km.results,aU]) ⟨A,true,rfl,a8⟩)
 refine ah (by simp [a_]) (aB ?_)
 have ni:∀ x,(gZ rows a v)[z]?=some x→¬ c x p<0:=by
  rcases S with h | h
  ·omega
  ·exact h
 have nj:∀ x,(gZ rows a v)[A]?=some x→c x p<0:=by
  rcases K with h | h
  ·omega
  ·exact fun x F=>Classical.not_not.1 (h x F)
 have d9:z≠A:=by
  rintro rfl;have F:=AI (l:=gZ rows a v) (i:=z) (by rw [AU];omega)
  exact ni _ F (nj _ F)
 obtain⟨x5,y5,H5,H6,-,-,i1,j1,l1,l2,w1,w2,s1,j2,s2,r5,f5⟩:=g.gZ (E B) (B.len.trans hn) (i:=z) (j:=A) (by omega) (by omega)
 refine ag (ab (.inl rfl) ?_);simp [X,Y,L,i1,j1,l1,l2,w1,w2,s1,j2,s2,-an,-ba];refine ag (ab (.inl rfl) ?_);simp [Y,wrap64 (n:=(z:Int)+1) (by omega) (by omega)]
 refine ag (ab (.inl rfl) ?_);simp [L,wrap64 (n:=(A:Int)-1) (by omega) (by omega)]
 refine ag ?_;refine av ?_
 refine bw (fun m s=>∃(i j:Nat) (t:T) (H1:ai) (l:List (List FC)),s=⟨t,[],H1⟩∧m=j+1-i∧a<i∧i≤j+1∧j<d+1∧t.g 0=.c (.sl b 0 n 0 ep sz)∧t.g 1=vi a∧t.g 4=cv∧t.g 12=vi i∧t.g 13=vi j ∧
   Fm b H H1∧RB H1 b sz ep l∧dU a (d+1) rows l∧we c a i j (d+1) p l) _
  ⟨z+1,A-1,_,H6,_,rfl,rfl,by omega,by omega,by omega,by simp [X],by simp [Z],by simp [g4],by simp,by simp;omega,q.trans f5,r5,
   B.trans (ef (by omega) (by omega) (by omega) (by omega) (by rw [AU];omega)),b7.swap (by omega) (by omega) (by rw [AU];omega) ni nj⟩ ?_
 rintro m s ⟨i,j,t,H1,l,rfl,rfl,c_,d6,d8,X,Z,g4,Y,L,q,g,u,O⟩ ih;have M:=u.len;refine av ?_;refine ag ?_;refine abr b9 (M.trans hn) hl (E u) (U u) (i:=i) (j:=j) (e:=d+1) (H0:=H) c_ d6 d8 b_ O.1 X Z g4 Y L q g ?_;intro t H3 z d5 N S X Z g4 Y L q g;refine ag ?_;refine abp b9 (M.trans hn) hl (E u) (U u) (i:=z) (j:=j) (e:=d+1) (H0:=H) (by omega) (by omega) (by omega) b_ O.1 X Z g4 Y L q g ?_
 intro t H4 A d7 J K X Z g4 Y L q g
 have b7:we c a z A (d+1) p l:=⟨O.1,fun k x k1 k2 F=>by
   by_cases hk:k<i
   ·exact O.2.1 k x k1 hk F
   ·exact N k x (by omega) k2 F,fun k x k1 k2 F=>by
   by_cases hk:j<k
   ·exact O.2.2 k x hk k2 F
   ·exact J k x k1 (by omega) F⟩
 refine ag ?_;refine ag (ab (.inl rfl) ?_);simp [Y,L];by_cases a_:A<z
 ·obtain⟨x,y,H5,H6,i1,j1,l1,l2,w1,w2,s1,j2,s2,a8⟩:=I false t H4 _ z A (by omega) (by omega) (by omega) b7 u q g
  refine aj (by simp [a_]) ?_
  refine aT (k':=[.code (Ir σ sz)]) rfl ?_;refine ag (ab (.inl rfl) ?_);simp [X,Z,L,i1,j1,l1,l2,w1,w2,s1,j2,s2,-an,-ba];refine ag (ab (.inl rfl) ?_);simp [L];exact aA (hQ _ _ (.t [vi A,vb false]) rfl (by simp [Km.results,aU]) ⟨A,false,rfl,a8⟩)
 refine ah (by simp [a_]) (aB ?_)
 have ni:∀ x,l[z]?=some x→¬ c x p<0:=by
  rcases S with h | h
  ·omega
  ·exact h
 have nj:∀ x,l[A]?=some x→c x p<0:=by
  rcases K with h | h
  ·omega
  ·exact fun x F=>Classical.not_not.1 (h x F)
 have d9:z≠A:=by
  rintro rfl;have F:=AI (l:=l) (i:=z) (by omega)
  exact ni _ F (nj _ F)
 obtain⟨x5,y5,H5,H6,-,-,i1,j1,l1,l2,w1,w2,s1,j2,s2,r5,f5⟩:=g.gZ (E u) (M.trans hn) (i:=z) (j:=A) (by omega) (by omega)
 refine ag (ab (.inl rfl) ?_);simp [X,Y,L,i1,j1,l1,l2,w1,w2,s1,j2,s2,-an,-ba];refine ag (ab (.inl rfl) ?_);simp [Y,wrap64 (n:=(z:Int)+1) (by omega) (by omega)]
 refine ab (.inl rfl) ?_;simp [L,wrap64 (n:=(A:Int)-1) (by omega) (by omega)]
 exact al (ih _ _ (by omega) ⟨z+1,A-1,_,H6,_,rfl,rfl,by omega,by omega,by omega,by simp [X],by simp [Z],by simp [g4],by simp,by simp;omega,q.trans f5,r5,
   u.trans (ef (by omega) (by omega) (by omega) (by omega) (by omega)),b7.swap (by omega) (by omega) (by omega) ni nj⟩)
end
end
end Km
