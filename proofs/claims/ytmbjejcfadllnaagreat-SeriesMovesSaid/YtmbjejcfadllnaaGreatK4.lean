/-
  Our own small machine for Go code by value, held sf the model: part 4. No program in F0.
-/
import Derived.Test.YtmbjejcfadllnaaGreatK3
import Derived.ChangeArms
import Derived.DataReads
import Derived.Deep.Slices
import Derived.ProofKit
import Derived.RowKit3
import Derived.Below
import Derived.Carry
import Derived.Laws.IdiomArrays
open Option renaming some → aa,none → ab
open Bool renaming true → ae,false → ag
open Nat renaming le_refl → IT, add_mul → arc, mul_le_mul_right → arl, le_max_left → aqS, le_max_right → aqN, le_trans → aqL, lt_of_lt_of_le → arh, zero_add → aq8
open Option renaming bind_some → aqR, map_eq_some_iff → If, bind_eq_some_iff → aqO
open List renaming map_cons → ao1, foldl_cons → arx, mem_cons_of_mem → aqQ, flatten_cons → aqV, length_append → aft, length_cons → aqW, mem_cons_self → aqK, mem_map → aq9, getElem?_eq_some_iff → By, mem_of_getElem? → api, drop_drop → arB, drop_eq_getElem_cons → aqU, getElem?_eq_getElem → At, length_map → aq3, length_drop → aqG, map_append → art, take_append_of_le_length → ard, take_of_length_le → aqI, getElem?_map → ari, isEmpty_cons → ar5, findIdx?_eq_some_iff_getElem → ar6, getElem_mem → OF, getElem?_append_left → AI, getElem?_append_right → aqJ, take_append_drop → aq0, length_take → aq7, append_nil → ars, getElem?_of_mem → arf, mem_cons → arw, getElem?_set_ne → AT, set_cons_succ → ar4, append_assoc → aro, getElem?_set_self → IS, getElem?_take → aqT, getElem?_drop → aqF, length_eq_zero_iff → arj, nil_append → ar3
open Bool renaming false_eq_true → anc, and_eq_true → BY
open Option.some renaming injEq → sh, inj → arN
set_option linter.unusedVariables false
set_option linter.constructorNameAsVariable false
set_option linter.unusedSimpArgs false
set_option linter.unusedSectionVars false
set_option maxRecDepth 100000
namespace Km
section
open Go
def P.Kx:Nat→Nat→P
 | 0,_=>.h| k+1,n=>if n=0 then .h else if n % 2=1 then .o (Kx k ((n-1) / 2))else .i (Kx k ((n-2) / 2))
def P.nat(n:Nat):P:=P.Kx n n
theorem nF:∀(k n:Nat),n≤k→(P.Kx k n).toNat=n
 | 0,n,b=>by simp [P.Kx,P.toNat];omega
 | k+1,n,b=>by
  unfold P.Kx;split
  ·simp [P.toNat, *]
  ·split
   ·simp [P.toNat];rw [nF k _ (by omega)];omega
   ·simp [P.toNat];rw [nF k _ (by omega)];omega
theorem xl(n:Nat):(P.nat n).toNat=n:=nF n n (IT n)
theorem nat_ne{a b:Nat}(d:a≠b):P.nat a≠P.nat b:=fun e=>d (by rw [←xl a,←xl b,e])
theorem T.fT(v:V):∀(p:P) (t:T),(t.set p v).get p=v
 | .h,.e=>rfl| .h,.n _ _ _=>rfl| .o p,.e=>T.fT v p .e| .o p,.n l _ _=>T.fT v p l| .i p,.e=>T.fT v p .e| .i p,.n _ _ r=>T.fT v p r
theorem T.iU(v:V):∀(p q:P) (t:T),p≠q→(t.set p v).get q=t.get q
 | .h,.h,_,h=>absurd rfl h| .h,.o q,.e,_=>by cases q<;>rfl
 | .h,.i q,.e,_=>by cases q<;>rfl
 | .h,.o _,.n _ _ _,_=>rfl| .h,.i _,.n _ _ _,_=>rfl| .o _,.h,.e,_=>rfl| .o _,.h,.n _ _ _,_=>rfl| .i _,.h,.e,_=>rfl| .i _,.h,.n _ _ _,_=>rfl
 | .o p,.o q,.e,h=>by
  show(T.set .e p v).get q=_;rw [T.iU v p q .e (fun e=>h (by rw [e]))];cases q<;>rfl
 | .o p,.o q,.n l _ _,h=>T.iU v p q l (fun e=>h (by rw [e]))
 | .o p,.i q,.e,h=>by
  show T.get .e q=_;cases q<;>rfl
 | .o _,.i _,.n _ _ _,_=>rfl
 | .i p,.o q,.e,h=>by
  show T.get .e q=_;cases q<;>rfl
 | .i _,.o _,.n _ _ _,_=>rfl
 | .i p,.i q,.e,h=>by
  show(T.set .e p v).get q=_;rw [T.iU v p q .e (fun e=>h (by rw [e]))];cases q<;>rfl
 | .i p,.i q,.n _ _ r,h=>T.iU v p q r (fun e=>h (by rw [e]))
def T.g(t:T)(n:Nat):V:=t.get (P.nat n)
def T.s(t:T)(n:Nat)(v:V):T:=t.set (P.nat n) v
@[simp] theorem T.g_s (t:T) (n m:Nat) (v:V):(t.s n v).g m=if n=m then v else t.g m:=by
 unfold T.g T.s;split
 ·rename_i h;subst h;exact T.fT v _ t
 ·rename_i h;exact T.iU v _ _ t (nat_ne h)
def R(n:Nat):Arg:=.r (P.nat n)
def D(n:Nat):Option P:=aa (P.nat n)
def G(n:Nat)(w:Bool):Option (P × Bool):=aa (P.nat n,w)
abbrev vi(n:Int):V:=.c (.f (.int .i64 n))
abbrev vb(b:Bool):V:=.c (.f (.bool b))
abbrev fi(n:Int):FC:=.int .i64 n
@[simp] theorem ahT (t:T) (n:Nat):(R n).ev t=t.g n:=rfl
@[simp] theorem aps (t:T) (v:V):(Arg.k v).ev t=v:=rfl
@[simp] theorem anF (t:T) (n:Nat) (v:V):jb t (D n) v=t.s n v:=rfl
@[simp] theorem ahI (t:T) (v:V):jb t ab v=t:=rfl
@[simp] theorem abd (t:T) (n:Nat):t.get (P.nat n)=t.g n:=rfl
@[simp] theorem ad9 (n:Nat) (ps:List P) (v:V) (b:List V) (t:T):cu (P.nat n::ps) (v::b) t=cu ps b (t.s n v):=rfl
@[simp] theorem ag7 (b:List V) (t:T):cu [] b t=t:=rfl
@[simp] theorem aeb (t:T):wanted t ab=aa ae:=rfl
@[simp] theorem ald (t:T) (n:Nat) (w:Bool):wanted t (G n w)=match t.g n with
  | .c (.f (.bool b))=>aa (b == w)| .t []=>aa ag| _=>ab:=rfl
attribute [simp] c8
def KO(o:Option (V × aj))(t:T)(ds:List dw)(K:V→St→Prop):Prop:=∃ p,o=aa p∧K p.1 ⟨t,ds,p.2⟩
@[simp] theorem alu (v:V) (H:aj) (t:T) (ds:List dw) (K:V→St→Prop):KO (aa (v,H)) t ds K↔K v ⟨t,ds,H⟩:=⟨fun⟨_,h,k⟩=>by cases h;exact k,fun k=>⟨_,rfl,k⟩⟩
def KP(P:V→Prop)(t:T)(ds:List dw)(H:aj)(K:V→St→Prop):Prop:=∃ x,P x∧K x ⟨t,ds,H⟩
@[simp] theorem ahQ (x:V) (t:T) (ds:List dw) (H:aj) (K:V→St→Prop):KP (Eq x) t ds H K↔K x ⟨t,ds,H⟩:=⟨fun⟨_,h,k⟩=>by cases h;exact k,fun k=>⟨x,rfl,k⟩⟩
def E2(x:V)(H:aj)(y:V)(H':aj):Prop:=x=y∧H=H'
def KE(P:V→aj→Prop)(t:T)(ds:List dw)(K:V→St→Prop):Prop:=∃ x H,P x H∧K x ⟨t,ds,H⟩
@[simp] theorem aoY (x:V) (H:aj) (t:T) (ds:List dw) (K:V→St→Prop):KE (E2 x H) t ds K↔K x ⟨t,ds,H⟩:=⟨fun⟨_,_,⟨b,d⟩,k⟩=>by cases b;cases d;exact k,fun k=>⟨x,H,⟨rfl,rfl⟩,k⟩⟩
section
variable(tab:Nat→Option aD)
def KC(b:Option (List V))(f:Nat)(t:T)(ds:List dw)(H:aj)(K:V→St→Prop):Prop:=∃ a,b=aa a∧KP (bF tab f a) t ds H K
def KD(c:Option (Callee × List V))(t:T)(ds:List dw)(H:aj)(K:V→St→Prop):Prop:=∃ a,c=aa a∧KE (Ev tab a.1 a.2 H) t ds K
def KS(os:List aP)(L:St→Prop)(s:St):Prop:=vd tab os s L
def FS(s:St)(K:St→Prop):Prop:=K s
def KV(o:Option P)(os:List aP)(L:St→Prop)(v:V)(s:St):Prop:=FS ⟨jb s.az o v,s.defs,s.heap⟩ (KS tab os L)
def GRD(w:Option Bool)(op:cG)(o:Option P)(os:List aP)(L:St→Prop)(s:St):Prop:=
 match w with
 | some ae=>jL tab s op (KV tab o os L)| some ag=>FS ⟨jb s.az o (.t []),s.defs,s.heap⟩ (KS tab os L)| none=>False
end
section
variable{tab:Nat→Option aD}{t:T}{ds:List dw}{H:aj}{K:V→St→Prop}{L:St→Prop}
@[simp] theorem aaI (a:List V) (f:Nat):KC tab (aa a) f t ds H K↔KP (bF tab f a) t ds H K:=⟨fun⟨_,h,k⟩=>by cases h;exact k,fun k=>⟨_,rfl,k⟩⟩
@[simp] theorem als (c:Callee) (a:List V):KD tab (aa (c,a)) t ds H K↔KE (Ev tab c a H) t ds K:=⟨fun⟨_,h,k⟩=>by cases h;exact k,fun k=>⟨_,rfl,k⟩⟩
@[simp] theorem aoV (s:St) (K:St→Prop):FS s K↔K s:=Iff.rfl
@[simp ↓] theorem aoZ (os:List aP) (s:St):KS tab os L s↔vd tab os s L:=Iff.rfl
@[simp ↓] theorem ao0 (o:Option P) (os:List aP) (v:V):KV tab o os L v ⟨t,ds,H⟩↔FS ⟨jb t o v,ds,H⟩ (KS tab os L):=Iff.rfl
@[simp ↓] theorem aoX (op:cG) (o:Option P) (os:List aP) (s:St):GRD tab (aa ae) op o os L s↔jL tab s op (KV tab o os L):=Iff.rfl
@[simp ↓] theorem aoW (op:cG) (o:Option P) (os:List aP):GRD tab (aa ag) op o os L ⟨t,ds,H⟩↔FS ⟨jb t o (.t []),ds,H⟩ (KS tab os L):=Iff.rfl
@[simp ↓] theorem alv (s:St):vd tab [] s L↔L s:=Iff.rfl
@[simp ↓] theorem ahS (o:Option P) (op:cG) (os:List aP):vd tab (⟨o,op,ab⟩::os) ⟨t,ds,H⟩ L↔jL tab ⟨t,ds,H⟩ op (KV tab o os L):=Iff.rfl
@[simp ↓] theorem aho (o:Option P) (op:cG) (n:Nat) (w:Bool) (os:List aP) :
  vd tab (⟨o,op,G n w⟩::os) ⟨t,ds,H⟩ L↔GRD tab (wanted t (G n w)) op o os L ⟨t,ds,H⟩:=by
 simp only [vd];rcases b:wanted t (G n w)with _ | _ | _<;>exact Iff.rfl
def cG.plain:cG→Bool
 | .call _ _ _ | .bP _ _ _ | .recover | .defer _ _=>ag| _=>ae
theorem ca{op:cG}(h:op.plain=ae):jL tab ⟨t,ds,H⟩ op K↔KO (bs t H op) t ds K:=by
 have:jL tab ⟨t,ds,H⟩ op K↔∃ v H',bs t H op=aa (v,H')∧K v ⟨t,ds,H'⟩:=by
  cases op<;>first | exact Iff.rfl | simp [cG.plain]at h
 rw [this];exact⟨fun⟨v,H',h,k⟩=>⟨(v,H'),h,k⟩,fun⟨p,h,k⟩=>⟨p.1,p.2,h,k⟩⟩
@[simp ↓] theorem alS (x:Arg):jL tab ⟨t,ds,H⟩ (.bB x) K↔KO (bs t H (.bB x)) t ds K:=ca rfl
@[simp ↓] theorem ajL (c a b:Arg):jL tab ⟨t,ds,H⟩ (.pick c a b) K↔KO (bs t H (.pick c a b)) t ds K:=ca rfl
@[simp ↓] theorem ahz (zs:List FC):jL tab ⟨t,ds,H⟩ (.alloc zs) K↔KO (bs t H (.alloc zs)) t ds K:=ca rfl
@[simp ↓] theorem alP (x:Arg):jL tab ⟨t,ds,H⟩ (.box x) K↔KO (bs t H (.box x)) t ds K:=ca rfl
@[simp ↓] theorem ahA (zs:List FC) (b:List (Nat × Nat × Arg)):jL tab ⟨t,ds,H⟩ (.build zs b) K↔KO (bs t H (.build zs b)) t ds K:=ca rfl
@[simp ↓] theorem afS (sz:Nat) (zs:List FC) (len:Nat) (b:List (Nat × Arg)):jL tab ⟨t,ds,H⟩ (.aU sz zs len b) K↔KO (bs t H (.aU sz zs len b)) t ds K:=ca rfl
@[simp ↓] theorem ajI (n:Option Nat) (x:Arg):jL tab ⟨t,ds,H⟩ (.load n x) K↔KO (bs t H (.load n x)) t ds K:=ca rfl
@[simp ↓] theorem ahH (n:Nat) (x y:Arg):jL tab ⟨t,ds,H⟩ (.store n x y) K↔KO (bs t H (.store n x y)) t ds K:=ca rfl
@[simp ↓] theorem afW (x:Arg):jL tab ⟨t,ds,H⟩ (.bw x) K↔KO (bs t H (.bw x)) t ds K:=ca rfl
@[simp ↓] theorem alO (op:BinOp) (x y:Arg):jL tab ⟨t,ds,H⟩ (.bin op x y) K↔KO (bs t H (.bin op x y)) t ds K:=ca rfl
@[simp ↓] theorem amv (neg:Bool) (k:Jw) (x y:Arg):jL tab ⟨t,ds,H⟩ (.eq neg k x y) K↔KO (bs t H (.eq neg k x y)) t ds K:=ca rfl
@[simp ↓] theorem amw (op:UnOp) (x:Arg):jL tab ⟨t,ds,H⟩ (.un op x) K↔KO (bs t H (.un op x)) t ds K:=ca rfl
@[simp ↓] theorem alQ (k:IntKind) (x:Arg):jL tab ⟨t,ds,H⟩ (.eM k x) K↔KO (bs t H (.eM k x)) t ds K:=ca rfl
@[simp ↓] theorem ajK (f:Nat) (b:List Arg):jL tab ⟨t,ds,H⟩ (.jZ f b) K↔KO (bs t H (.jZ f b)) t ds K:=ca rfl
@[simp ↓] theorem ahF:jL tab ⟨t,ds,H⟩ .jt K↔KO (bs t H .jt) t ds K:=ca rfl
@[simp ↓] theorem afV (d:CK) (b:FC) (m k:Arg):jL tab ⟨t,ds,H⟩ (.lookup d b m k) K↔KO (bs t H (.lookup d b m k)) t ds K:=ca rfl
@[simp ↓] theorem ahE (b:CK) (m k v:Arg):jL tab ⟨t,ds,H⟩ (.jr b m k v) K↔KO (bs t H (.jr b m k v)) t ds K:=ca rfl
@[simp ↓] theorem ad2 (sz bytes:Nat) (zs:List FC) (l c:Arg):jL tab ⟨t,ds,H⟩ (.cE sz bytes zs l c) K↔KO (bs t H (.cE sz bytes zs l c)) t ds K:=ca rfl
@[simp ↓] theorem ahG (sz:Nat) (x:Arg) (lo hi mx:Option Arg):jL tab ⟨t,ds,H⟩ (.slice sz x lo hi mx) K↔KO (bs t H (.slice sz x lo hi mx)) t ds K:=ca rfl
@[simp ↓] theorem afT (off:Nat) (x:Arg):jL tab ⟨t,ds,H⟩ (.aB off x) K↔KO (bs t H (.aB off x)) t ds K:=ca rfl
@[simp ↓] theorem ahD (off:Nat) (n:Option Nat) (x:Arg):jL tab ⟨t,ds,H⟩ (.field off n x) K↔KO (bs t H (.field off n x)) t ds K:=ca rfl
@[simp ↓] theorem afU (sz:Nat) (b:Option Nat) (x i:Arg):jL tab ⟨t,ds,H⟩ (.aV sz b x i) K↔KO (bs t H (.aV sz b x i)) t ds K:=ca rfl
@[simp ↓] theorem ajG (len sz:Nat) (n:Option Nat) (x i:Arg):jL tab ⟨t,ds,H⟩ (.oE len sz n x i) K↔KO (bs t H (.oE len sz n x i)) t ds K:=ca rfl
@[simp ↓] theorem ad1 (x:Arg) (i:Nat):jL tab ⟨t,ds,H⟩ (.extract x i) K↔KO (bs t H (.extract x i)) t ds K:=ca rfl
@[simp ↓] theorem alR (x:Arg):jL tab ⟨t,ds,H⟩ (.len x) K↔KO (bs t H (.len x)) t ds K:=ca rfl
@[simp ↓] theorem ajH (x:Arg):jL tab ⟨t,ds,H⟩ (.lens x) K↔KO (bs t H (.lens x)) t ds K:=ca rfl
@[simp ↓] theorem afR (sz bytes:Nat) (x y:Arg):jL tab ⟨t,ds,H⟩ (.append sz bytes x y) K↔KO (bs t H (.append sz bytes x y)) t ds K:=ca rfl
@[simp ↓] theorem ajJ (lo:Bool) (xs:List Arg):jL tab ⟨t,ds,H⟩ (.mh lo xs) K↔KO (bs t H (.mh lo xs)) t ds K:=ca rfl
@[simp ↓] theorem ajF (f:Nat) (args:List Arg):jL tab ⟨t,ds,H⟩ (.call f args ag) K ↔
  KC tab (bj (cg deep H) (c8 t args)) f t ds ((c8 t args).foldl (XH deep) H) K:=by
 simp only [jL,KC,KP];constructor
 ·intro h;rw [aY (by simp)]at h;obtain⟨b,r,d,g,j⟩:=h;exact⟨b,d,r,g,j⟩
 ·rintro⟨b,d,r,g,j⟩;rw [aY (by simp)];exact⟨b,r,d,g,j⟩
@[simp ↓] theorem ahC (f:Nat) (args:List Arg):jL tab ⟨t,ds,H⟩ (.call f args ae) K↔KD tab (aa (.fn f,c8 t args)) t ds H K:=by simp [jL,KD,KE]
@[simp ↓] theorem ahB (x:Arg) (args:List Arg) (h:Bool):jL tab ⟨t,ds,H⟩ (.bP x args h) K↔KD tab (bQ (x.ev t) (c8 t args)) t ds H K:=by
 simp only [jL,KD,KE];constructor
 ·rintro⟨c,as,r,H',b,d,g⟩;exact⟨(c,as),b,r,H',d,g⟩
 ·rintro⟨⟨c,as⟩,b,r,H',d,g⟩;exact⟨c,as,r,H',b,d,g⟩
end
def Dl:V→Option Bool
 | .c (.f (.bool b))=>aa b| _=>ab
@[simp] theorem ahp (b:Bool):Dl (.c (.f (.bool b)))=aa b:=rfl
section
variable{t:T}{H:aj}
@[simp] theorem apb (x:Arg):bs t H (.bB x)=aa (x.ev t,H):=rfl
@[simp] theorem apc (o:Os) (sz:Nat):bs t H (.pre o sz)=if o=.loc∨sz=0 then ab else aa (.c (.sl H.length 0 0 0 0 sz),H++[.bG sz [] 0 0 o]):=rfl
@[simp] theorem aoT (c x y:Arg):bs t H (.pick c x y)=(Dl (c.ev t)).map fun b=>(if b then x.ev t else y.ev t,H):=by
 simp only [bs,Dl];split
 ·rename_i b h;simp only [h];cases b<;>rfl
 ·rename_i h;split
  ·rename_i b d;exact absurd d (h b)
  ·rfl
@[simp] theorem alZ (zs:List FC):bs t H (.alloc zs)=aa (.c (.ptr H.length 0 0),H++[.box (zs.map .f) 0]):=rfl
@[simp] theorem ao' (x:Arg):bs t H (.box x)=(x.ev t).cells?.map fun xs=>(.c (.ptr H.length 0 0),H++[.box xs 0]):=by
 simp only [bs];cases (x.ev t).cells?<;>rfl
@[simp] theorem al0 (zs:List FC) (ps:List (Nat × Nat × Arg)):bs t H (.build zs ps)=(dh t (zs.map .f) ps).map fun cs=>(.a cs,H):=rfl
@[simp] theorem alh (sz:Nat) (zs:List FC) (n:Nat) (ps:List (Nat × Arg)):bs t H (.aU sz zs n ps) =
  if n=0 then(if ps.isEmpty then aa (.c (.f .es),H)else ab)else
  (dh t ((bV n zs).map .f) (ps.map fun p=>(p.1*sz,sz,p.2))).map fun cs=>(.c (.sl H.length 0 n n 0 sz),H++[.box cs 0]):=rfl
@[simp] theorem aoP (n:Option Nat) (x:Arg):bs t H (.load n x)=(aX H n (x.ev t)).map (·,H):=rfl
def zu(H:aj)(n:Nat)(x y:V):Option aj:=
 match x,y.cells? with
 | .c p,aa xs=>if xs.length=n then df H p xs else ab| _,_=>ab
@[simp] theorem al6 (n:Nat) (x y:Arg):bs t H (.store n x y)=(zu H n (x.ev t) (y.ev t)).map (.top,·):=by
 simp only [bs,zu];cases x.ev t with
 | c p=>cases (y.ev t).cells? with
  | none=>rfl| some xs=>by_cases h:xs.length=n<;>simp [h]
 | _=>rfl
@[simp] theorem alb (n:Nat) (p:C) (y:V):zu H n (.c p) y=y.cells?.bind fun xs=>if xs.length=n then df H p xs else ab:=by
 simp only [zu];cases y.cells?<;>rfl
@[simp] theorem ao9 (op:BinOp) (x y:Arg):bs t H (.bin op x y)=(bM op (x.ev t) (y.ev t)).map (·,H):=rfl
@[simp] theorem aqA (neg:Bool) (k:Jw) (x y:Arg):bs t H (.eq neg k x y)=(wI H k (x.ev t) (y.ev t)).map fun b=>(vb (if neg then !b else b),H):=rfl
@[simp] theorem aqB (op:UnOp) (x:Arg):bs t H (.un op x)=(unV op (x.ev t)).map (·,H):=rfl
def ae_(k:IntKind):V→Option V
 | .c (.f (.int _ n))=>aa (.c (.f (.int k (k.wrap n))))| _=>ab
@[simp] theorem amf (k j:IntKind) (n:Int):ae_ k (.c (.f (.int j n)))=aa (.c (.f (.int k (k.wrap n)))):=rfl
@[simp] theorem ao_ (k:IntKind) (x:Arg):bs t H (.eM k x)=(ae_ k (x.ev t)).map (·,H):=by
 simp only [bs,ae_];split
 ·rename_i h;simp only [h];rfl
 ·rename_i h;split
  ·rename_i b;exact absurd b (h _ _)
  ·rfl
@[simp] theorem aoS (f:Nat) (b:List Arg):bs t H (.jZ f b)=(bj rS (c8 t b)).map fun xs=>(.c (.cl f xs),H):=rfl
@[simp] theorem aoR (f:Nat) (b:List Arg):bs t H (.vm f b)=(bj rS (c8 t b)).map fun xs=>(.c (.bm f xs),H):=rfl
@[simp] theorem al4 (sz:Nat) (x:Arg) (lo hi mx:Option Arg):bs t H (.slice sz x lo hi mx)=(fq H sz (x.ev t) (lo.map (·.ev t)) (hi.map (·.ev t)) (mx.map (·.ev t))).map (·,H):=rfl
@[simp] theorem alj (sz:Nat) (zs:List FC) (n:Nat) (ps:List (Nat × Arg)):bs t H (.gu sz zs n ps)=((dh t ((bV n zs).map .f) (ps.map fun p=>(p.1*sz,sz,p.2))).bind fun cs=>if n=0 then ab else fcL cs).map fun b=>(.c (.f (.fs b n)),H):=rfl
@[simp] theorem aoU (sz:Nat) (x hi mx:Arg):bs t H (.vG sz x hi mx)=Cf H sz (x.ev t) (hi.ev t) (mx.ev t):=rfl
@[simp] theorem al3 (n sz:Nat) (x:Arg) (lo hi mx:Option Arg):bs t H (.nw n sz x lo hi mx)=(jJ H n sz (x.ev t) (lo.map (·.ev t)) (hi.map (·.ev t)) (mx.map (·.ev t))).map (·,H):=rfl
@[simp] theorem al5 (x:Arg) (lo hi:Option Arg):bs t H (.pM x lo hi)=(uF (x.ev t) (lo.map (·.ev t)) (hi.map (·.ev t))).map (·,H):=rfl
@[simp] theorem ali (o:Nat) (x:Arg):bs t H (.aB o x)=(im o (x.ev t)).map (·,H):=rfl
@[simp] theorem al2 (o:Nat) (n:Option Nat) (x:Arg):bs t H (.field o n x)=(lX o n (x.ev t)).map (·,H):=rfl
@[simp] theorem alk (sz:Nat) (b:Option Nat) (x i:Arg):bs t H (.aV sz b x i)=(aL H sz b (x.ev t) (i.ev t)).map (·,H):=rfl
@[simp] theorem aoM (x i:Arg):bs t H (.idxs x i)=(Bh (x.ev t) (i.ev t)).map (·,H):=rfl
@[simp] theorem aoL (len sz:Nat) (n:Option Nat) (x i:Arg):bs t H (.oE len sz n x i)=(lh len sz n (x.ev t) (i.ev t)).map (·,H):=rfl
def cOf:V→Option C
 | .c x=>aa x| _=>ab
@[simp] theorem ao2 (x:C):cOf (.c x)=aa x:=rfl
@[simp] theorem apa (x:Arg):bs t H (.len x)=((cOf (x.ev t)).bind (bE H)).map fun n=>(vi (n:Nat),H):=by
 simp only [bs,cOf];cases x.ev t with
 | c y=>simp only [aqR];cases bE H y<;>rfl
 | _=>rfl
def strOf:V→Option ByteArray
 | .c (.f (.str s))=>aa s| _=>ab
@[simp] theorem alV (s:ByteArray):strOf (.c (.f (.str s)))=aa s:=rfl
@[simp] theorem aoO (x:Arg):bs t H (.lens x)=(strOf (x.ev t)).map fun s=>(vi (s.size:Nat),H):=by
 simp only [bs,strOf];split
 ·rename_i h;simp only [h];rfl
 ·rename_i h;split
  ·rename_i b;exact absurd b (h _)
  ·rfl
@[simp] theorem aoN (n:Nat):bs t H (.tP n)=aa (vi (n:Nat),H):=rfl
@[simp] theorem alg (sz bytes:Nat) (x y:Arg):bs t H (.append sz bytes x y)=bX H sz bytes (x.ev t) (y.ev t):=rfl
@[simp] theorem aoK (sz:Nat) (x y:Arg):bs t H (.copy sz x y)=copyV H sz (x.ev t) (y.ev t):=rfl
@[simp] theorem aoQ (lo:Bool) (xs:List Arg):bs t H (.mh lo xs)=(Ku lo (c8 t xs)).map (·,H):=rfl
def tOf:V→Option (List V)
 | .t b=>aa b| _=>ab
@[simp] theorem ao7 (b:List V):tOf (.t b)=aa b:=rfl
@[simp] theorem ahK (x:Arg) (i:Nat):bs t H (.extract x i)=(tOf (x.ev t)).bind fun d=>d[i]?.map (·,H):=by
 simp only [bs,tOf];split
 ·rename_i h;simp only [h];rfl
 ·rename_i h;split
  ·rename_i b;exact absurd b (h _)
  ·rfl
def sv:V→Option V
 | .c (.ptr b o e)=>aa (.c (.ptr b o e))| .c (.f (.fp cs o))=>aa (.c (.f (.fp cs o)))| _=>ab
@[simp] theorem afM (b o e:Nat):sv (.c (.ptr b o e))=aa (.c (.ptr b o e)):=rfl
@[simp] theorem ahy (cs:List FC) (o:Nat):sv (.c (.f (.fp cs o)))=aa (.c (.f (.fp cs o))):=rfl
@[simp] theorem alm (x:Arg):bs t H (.bw x)=(sv (x.ev t)).map (·,H):=by
 simp only [bs,sv];split
 ·rename_i h;simp only [h];rfl
 ·rename_i h;simp only [h];rfl
 ·rename_i b d;split
  ·rename_i h;exact absurd h (b _ _ _)
  ·rename_i h;exact absurd h (d _ _)
  ·rfl
@[simp] theorem aht (f:Nat) (b:List FC) (args:List V):bQ (.c (.f (.fn f b))) args=aa (.fn f,args++b.map fun x=>.c (.f x)):=rfl
@[simp] theorem ahs (f:Nat) (b:List C) (args:List V):bQ (.c (.cl f b)) args=aa (.fn f,args++b.map .c):=rfl
@[simp] theorem ahr (f:Nat) (first:List C) (args:List V):bQ (.c (.bm f first)) args=aa (.fn f,first.map .c++args):=rfl
end
section
variable{k:IntKind}{a b:Int}{H:aj}
@[simp] theorem alw:bM .add (.c (.f (.int k a))) (.c (.f (.int k b)))=aa (.c (.f (.int k (k.wrap (a+b))))):=by simp [bM,jR,V.int]
@[simp] theorem alE:bM .sub (.c (.f (.int k a))) (.c (.f (.int k b)))=aa (.c (.f (.int k (k.wrap (a-b))))):=by simp [bM,jR,V.int]
@[simp] theorem alC:bM .mul (.c (.f (.int k a))) (.c (.f (.int k b)))=aa (.c (.f (.int k (k.wrap (a*b))))):=by simp [bM,jR,V.int]
theorem xZ(h:b≠0):bM .quo (.c (.f (.int k a))) (.c (.f (.int k b)))=aa (.c (.f (.int k (k.wrap (a.tdiv b))))):=by simp [bM,jR,V.int,h]
theorem mI(h:b≠0):bM .rem (.c (.f (.int k a))) (.c (.f (.int k b)))=aa (.c (.f (.int k (a.tmod b)))):=by simp [bM,jR,V.int,h]
@[simp] theorem alx:bM .eql (.c (.f (.int k a))) (.c (.f (.int k b)))=aa (vb (decide (a=b))):=by simp [bM,jR,V.bool];rfl
@[simp] theorem alD:bM .neq (.c (.f (.int k a))) (.c (.f (.int k b)))=aa (vb (!decide (a=b))):=by simp [bM,jR,V.bool];rfl
@[simp] theorem alB:bM .lss (.c (.f (.int k a))) (.c (.f (.int k b)))=aa (vb (decide (a<b))):=by simp [bM,jR,V.bool]
@[simp] theorem alA:bM .leq (.c (.f (.int k a))) (.c (.f (.int k b)))=aa (vb (decide (a≤b))):=by simp [bM,jR,V.bool]
@[simp] theorem alz:bM .gtr (.c (.f (.int k a))) (.c (.f (.int k b)))=aa (vb (decide (b<a))):=by simp [bM,jR,V.bool]
@[simp] theorem aly:bM .geq (.c (.f (.int k a))) (.c (.f (.int k b)))=aa (vb (decide (b≤a))):=by simp [bM,jR,V.bool]
@[simp] theorem aiT {x y:Bool}:Ll .bool (.f (.bool x)) (.f (.bool y))=aa (x == y):=rfl
@[simp] theorem alJ:Ll .int (.f (.int k a)) (.f (.int k b))=aa (a == b):=by simp [Ll]
@[simp] theorem alK {x y:ByteArray}:Ll .str (.f (.str x)) (.f (.str y))=aa (x == y):=rfl
@[simp] theorem alI:qi [] [] []=aa ae:=rfl
@[simp] theorem aiS {q:CK} {qs:List CK} {x y:C} {xs ys:List C}:qi (q::qs) (x::xs) (y::ys)=(Ll q x y).bind fun c=>(qi qs xs ys).map fun d=>c&&d:=by
 simp only [qi];cases Ll q x y<;>cases qi qs xs ys<;>rfl
@[simp] theorem aiU {x y:Bool}:wI H .bool (.c (.f (.bool x))) (.c (.f (.bool y)))=aa (x == y):=rfl
@[simp] theorem amh {ks:List CK} {xs ys:List C}:wI H (.st ks) (.a xs) (.a ys)=qi ks xs ys:=rfl
@[simp] theorem aoH {x:Bool}:unV .not (.c (.f (.bool x)))=aa (vb (!x)):=rfl
@[simp] theorem afe {o c o' ep:Nat}:im o (.c (.ptr c o' ep))=aa (.c (.ptr c (o'+o) ep)):=rfl
@[simp] theorem ahv {o o':Nat} {cs:List FC}:im o (.c (.f (.fp cs o')))=aa (.c (.f (.fp cs (o'+o)))):=rfl
@[simp] theorem alH {x:C}:(V.c x).cells?=aa [x]:=rfl
@[simp] theorem alG {xs:List C}:(V.a xs).cells?=aa xs:=rfl
@[simp] theorem apf {n:Nat} {x:FC}:da n H (.f x)=aa x:=by cases n<;>rfl
@[simp] theorem ao4 {n:Nat} {x:C}:cg n H (.c x)=(da n H x).map fun y=>.c (.f y):=rfl
@[simp] theorem ao6 {n f:Nat} {b:List C}:da (n+1) H (.cl f b)=(bj (da n H) b).map (.fn f):=rfl
@[simp] theorem amj {n b o e:Nat}:da (n+1) H (.ptr b o e)=match H[b]? with
  | some (.box cs _)=>(bj (da n H) cs).map (.fp · o)| _=>ab:=rfl
theorem lf{n b o l c ep sz:Nat}:da (n+1) H (.sl b o l c ep sz)=match H[b]? with
  | some (.box cs _)=>if o+l*sz≤cs.length then(bj (da n H) ((cs.drop o).take (l*sz))).map (.fs · l)else ab| some (.bG s cs _ e .loc)=>if ep=e∧sz=s∧o+l*sz≤cs.length then(bj (da n H) ((cs.drop o).take (l*sz))).map (.fs · l)else ab| some (.bG s _ _ e .nil)=>if ep=e∧sz=s then aa .aE else ab| some (.bG s _ _ e .es)=>if ep=e∧sz=s then aa .es else ab| _=>ab:=rfl
theorem VT{n b o l c e sz:Nat}:iX (n+1) (.sl b o l c e sz) H=match H[b]? with
  | some (.box cs d)=>((cs.drop o).take (l*sz)).foldl (fun H x=>iX n x H) (H.set b (.box cs (Nat.max d (o+l*sz))))
  | some (.bG s cs d e st)=>((cs.drop o).take (l*sz)).foldl (fun H x=>iX n x H) (H.set b (.bG s cs (Nat.max d (o+l*sz)) e st))
  | _=>H:=rfl
@[simp] theorem apu {n:Nat} {x:C}:XH n H (.c x)=iX n x H:=rfl
@[simp] theorem ao5 {n:Nat} {x:C}:iI n H (.c x)=(da n H x).map fun y=>.c (.f y):=rfl
theorem qz{n:Nat}:∀(xs:List FC),bj (da n H) (xs.map .f)=aa xs
 | []=>rfl| x::xs=>by simp [bj,qz xs]
@[simp] theorem ao3 {n:Nat} {xs:List C}:cg n H (.a xs)=(bj (da n H) xs).map fun ys=>.a (ys.map .f):=rfl
@[simp] theorem yP {n:Nat} (xs:List FC):bj (da n H) (xs.map .f)=aa xs:=qz xs
@[simp] theorem apt {n:Nat} {xs:List C}:XH n H (.a xs)=xs.foldl (fun H x=>iX n x H) H:=rfl
@[simp] theorem Fs {n:Nat} {x:FC}:iX n (.f x) H=H:=by cases n<;>rfl
@[simp] theorem ahw {n:Nat} (xs:List FC):(xs.map C.f).foldl (fun H x=>iX n x H) H=H:=by
 induction xs with
 | nil=>rfl| cons x xs b=>simp only [ao1,arx];rw [Fs];exact b
end
theorem Xw{n:Int}(b:0≤n)(d:n≤255):IntKind.wrap .u8 n=n:=by
 simp only [IntKind.wrap,IntKind.bits,IntKind.signed];simp;omega
theorem abq{H:aj}{sz n b o ep:Nat}{k:IntKind}{i:Int}(d:0≤i)(g:i<n):aL H sz (aa n) (.c (.ptr b o ep)) (.c (.f (.int k i)))=aa (.c (.ptr b (o+i.toNat*sz) ep)):=by
 simp [aL,dy,d,g]
theorem wrap64{n:Int}(b:-9223372036854775808≤n)(d:n≤9223372036854775807):IntKind.wrap .i64 n=n:=by
 simp only [IntKind.wrap,IntKind.bits,IntKind.signed];simp;omega
theorem aO{n:Int}(b:-9223372036854775808≤n:=by omega)(d:n≤9223372036854775807:=by omega):IntKind.wrap .i64 n=n:=wrap64 b d
@[simp] theorem cast_eq (a b:Nat):((a:Int)=(b:Int))=(a=b):=propext Int.natCast_inj
@[simp] theorem ajm {b d:Type} (g:b→Option d):bj g []=aa []:=rfl
@[simp] theorem ahx {b d:Type} (g:b→Option d) (x:b) (xs:List b):bj g (x::xs)=(g x).bind fun y=>(bj g xs).map (y::·):=by
 simp only [bj];cases g x<;>cases bj g xs<;>simp
@[simp] theorem alW (x:C) (xs:List C):aI ab (x::xs)=aa (.c x):=rfl
@[simp] theorem alX (n:Nat) (xs:List C):aI (aa n) xs=if n≤xs.length then aa (.a (xs.take n))else ab:=rfl
@[simp] theorem au (H:aj) (n:Option Nat) (b o ep:Nat):aX H n (.c (.ptr b o ep))=match H[b]? with
  | some (.box cs _)=>aI n (cs.drop o)| some (.bG _ cs _ e .loc)=>if ep=e then aI n (cs.drop o)else ab| _=>ab:=by
 simp only [aX,aF];split
 ·rename_i h;simp only [h];rfl
 ·rename_i h;simp only [h];split<;>rfl
 ·rename_i d g;split
  ·rename_i h;exact absurd h (d _ _)
  ·rename_i h;exact absurd h (g _ _ _ _)
  ·rfl
@[simp] theorem bu (H:aj) (b o ep:Nat) (xs:List C):df H (.ptr b o ep) xs=match H[b]? with
  | some (.box cs d)=>if d≤o∧o+xs.length≤cs.length then aa (H.set b (.box (over cs o xs) d))else ab| some (.bG sz cs d e .loc)=>if ep=e∧d≤o∧o+xs.length≤cs.length then aa (H.set b (.bG sz (over cs o xs) d e .loc))else ab| _=>ab:=rfl
attribute [simp] over bV
@[simp] theorem af6 (t:T) (cs:List C):dh t cs []=aa cs:=rfl
@[simp] theorem ad3 (t:T) (cs:List C) (o n:Nat) (x:Arg) (ps:List (Nat × Nat × Arg)):dh t cs ((o,n,x)::ps)=(x.ev t).cells?.bind fun xs=>if xs.length=n∧o+xs.length≤cs.length then dh t (over cs o xs) ps else ab:=by
 simp only [dh];cases (x.ev t).cells?<;>rfl
@[simp] theorem amd (x:FC):rS (.c (.f x))=aa (.f x):=rfl
@[simp] theorem aiO (b o e:Nat):rS (.c (.ptr b o e))=aa (.ptr b o e):=rfl
@[simp] theorem alF (b o l c e s:Nat):rS (.c (.sl b o l c e s))=aa (.sl b o l c e s):=rfl
def ahe:V→Option V
 | .t _=>ab| v=>aa v
@[simp] theorem aoG (x:C):ahe (.c x)=aa (.c x):=rfl
@[simp] theorem aoF (x:List C):ahe (.a x)=aa (.a x):=rfl
@[simp] theorem alU (t:T) (H:aj) (n:Nat):bJ t H (.tmp (P.nat n))=ahe (t.g n):=by
 simp only [bJ,abd];cases t.g n<;>rfl
@[simp] theorem ak2 (t:T) (H:aj) (n:Nat) (k:Option Nat):bJ t H (.cell (P.nat n) k)=aX H k (t.g n):=rfl
@[simp] theorem alL {t:T} {H:aj} {x:ie} {r:V}:n8 [x] r ⟨t,[],H⟩↔∃ r0,bJ t H x=aa r0∧iI deep H r0=aa r:=by
 simp only [n8,results,true_and,bj];cases bJ t H x<;>simp
@[simp] theorem alM {t:T} {H:aj} {x y:ie} {a b:V}:n8 [x,y] (.t [a,b]) ⟨t,[],H⟩ ↔
  (∃ r0,bJ t H x=aa r0∧cg deep H r0=aa a)∧∃ r0,bJ t H y=aa r0∧cg deep H r0=aa b:=by
 simp only [n8,results,true_and,bj];cases bJ t H x with
 | none=>simp
 | some u=>cases bJ t H y with
  | none=>simp| some w=>cases d:cg deep H u<;>cases g:cg deep H w<;>simp [iI,d,g]
inductive Tg where | nil | es | fs
 deriving DecidableEq
def Tg.fc:Tg→FC
 | .nil=>.aE| .es=>.es| .fs=>.fs [] 0
def sl(g:Tg)(rows:List (List FC)):FC:=if rows.isEmpty then g.fc else .fs rows.flatten rows.length
def bL(sz:Nat)(rows:List (List FC)):Prop:=∀ r ∈ rows,r.length=sz
theorem eE{sz:Nat}:∀ {rows:List (List FC)},bL sz rows→rows.flatten.length=rows.length*sz
 | [],_=>by simp
 | r::rows,h=>by
  have:=eE (rows:=rows) fun x b=>h x (aqQ _ b);simp only [aqV,aft,aqW,this,h r aqK,arc,Nat.one_mul];omega
theorem wH{sz:Nat}:∀ {rows:List (List FC)} (j:Nat),bL sz rows→rows.flatten.drop (j*sz)=(rows.drop j).flatten
 | rows,0,_=>by simp
 | [],j+1,_=>by simp
 | r::rows,j+1,h=>by
  have hr:=h r aqK;have:=wH (rows:=rows) j fun x b=>h x (aqQ _ b);rw [aqV,List.drop_succ_cons,←this,arc,Nat.one_mul,List.drop_append,hr];simp [hr,show j*sz+sz-sz=j*sz by omega]
theorem bL.map{b:Type}{sz:Nat}{l:List b}{g:b→List FC}(h:∀ x,(g x).length=sz):bL sz (l.map g):=fun r hr=>by
 obtain⟨x,_,rfl⟩:=aq9.1 hr;exact h x
theorem tC{sz j k:Nat}{rows:List (List FC)}{row:List FC}(d:bL sz rows)(b:rows[j]?=aa row)(l:k≤sz) :
  rows.flatten.drop (j*sz+k)=row.drop k++(rows.drop (j+1)).flatten:=by
 have g:j<rows.length:=(By.1 b).1;have hr:row.length=sz:=d row (api b);rw [←arB,wH j d,aqU g,aqV];have:rows[j]=row:=by simpa [At g]using b
 rw [this,List.drop_append,show k-row.length=0 by omega];simp
variable{H:aj}
theorem DJ{sz j k:Nat}{rows:List (List FC)}{row:List FC}{x:FC}(b:bL sz rows)(d:rows[j]?=aa row)(l:row[k]?=aa x) :
  aX H ab (.c (.f (.fp rows.flatten (j*sz+k))))=aa (.c (.f x)):=by
 have hr:row.length=sz:=b row (api d);have g:k<row.length:=(By.1 l).1;have e:=tC (k:=k) b d (by omega);simp only [aX,aF,aqR,e];rw [aqU g];have:row[k]=x:=by simpa [At g]using l
 simp [aI,this]
theorem abE{sz j k n:Nat}{rows:List (List FC)}{row:List FC}(b:bL sz rows)(d:rows[j]?=aa row)(g:k+n≤sz) :
  aX H (aa n) (.c (.f (.fp rows.flatten (j*sz+k))))=aa (.a (((row.drop k).take n).map .f)):=by
 have hr:row.length=sz:=b row (api d);have e:=tC (k:=k) b d (by omega);simp only [aX,aF,aqR,e];simp only [aI];rw [bh (by simp only [aq3,aft,aqG];omega)];rw [art,ard (by simp only [aq3,aqG];omega),List.map_take]
theorem fV{sz j:Nat}{rows:List (List FC)}{row:List FC}(b:bL sz rows)(d:rows[j]?=aa row) :
  aX H (aa sz) (.c (.f (.fp rows.flatten (j*sz))))=aa (.a (row.map .f)):=by
 have hr:row.length=sz:=b row (api d);have:=abE (H:=H) (k:=0) (n:=sz) b d (by omega);simp only [Nat.add_zero,List.drop_zero]at this;rw [this,aqI (by omega)]
theorem jo{sz j:Nat}{rows:List (List FC)}{row:List FC}{x:FC}(b:bL sz rows)(d:rows[j]?=aa row)(g:row[0]?=aa x) :
  aX H ab (.c (.f (.fp rows.flatten (j*sz))))=aa (.c (.f x)):=DJ (k:=0) b d g
theorem abD{j:Nat}{l:List Int}{x:Int}(b:l[j]?=aa x) :
  aX H ab (.c (.f (.fp (l.map fun n=>[fi n]).flatten (j*1))))=aa (vi x):=
 jo (row:=[fi x]) (bL.map fun _=>rfl) (by rw [ari,b];rfl) rfl
@[simp] theorem tQ (g:Tg) (rows:List (List FC)):bE H (.f (sl g rows))=aa rows.length:=by
 cases rows with
 | nil=>cases g<;>rfl
 | cons r rows=>rfl
theorem dg{g:Tg}{rows:List (List FC)}{sz:Nat}{k:IntKind}{i:Int}(d:0≤i)(b:i<rows.length) :
  aL H sz ab (.c (.f (sl g rows))) (.c (.f (.int k i)))=aa (.c (.f (.fp rows.flatten (i.toNat*sz)))):=by
 cases rows with
 | nil=>simp at b;omega
 | cons r rows=>
  simp only [aqW]at b;simp [aL,dy,sl,d];omega
theorem U9{g:Tg}{rows:List (List FC)}{sz:Nat}(b:bL sz rows):cF H sz (.f (sl g rows))=aa (rows.flatten.map .f):=by
 cases rows with
 | nil=>cases g<;>simp [sl,Tg.fc,cF]
 | cons r rows=>
  have:=eE b;simp only [sl,ar5,anc,if_false,cF,this,if_true]
end
section
open Go
def Kf(tab:Nat→Option aD)(f:Nat)(args:List V)(r:V):Prop:=∀ H,∃ J,Ev tab (.fn f) args H r (H++J)
section
variable{tab:Nat→Option aD}{f:Nat}{args:List V}{r:V}
theorem Kf.pure{x:FC}(h:Kf tab f args (.c (.f x))):bF tab f args (.c (.f x)):=by
 obtain⟨J,h⟩:=h [];exact⟨_,_,h,by simp⟩
theorem Kf.eq{x:FC}(h:Kf tab f args (.c (.f x))):bF tab f args=Eq (.c (.f x)):=
 funext fun r=>propext ⟨fun k=>h.pure.det k,fun e=>e▸h.pure⟩
theorem bF.eq{r:V}(h:bF tab f args r):bF tab f args=Eq r:=funext fun _=>propext ⟨fun k=>h.det k,fun e=>e▸h⟩
noncomputable def ajb (tab:Nat→Option aD) (f:Nat) (args:List V) (H:aj):aj:=Classical.epsilon fun J=>∃ r,Ev tab (.fn f) args H r (H++J)
theorem Kf.ev(h:Kf tab f args r)(H:aj):Ev tab (.fn f) args H=E2 r (H++ajb tab f args H):=by
 have j:∃ J,∃ r,Ev tab (.fn f) args H r (H++J):=by obtain⟨J,b⟩:=h H;exact⟨J,r,b⟩
 have l:∃ r,Ev tab (.fn f) args H r (H++ajb tab f args H):=Classical.epsilon_spec j;obtain⟨J,b⟩:=h H;obtain⟨r',hr⟩:=l;obtain⟨rfl,e⟩:=b.det hr;funext x H';exact propext ⟨fun k=>hr.det k,fun⟨d,g⟩=>d▸g▸hr⟩
theorem Ev.eq{c:Callee}{H H':aj}(h:Ev tab c args H r H'):Ev tab c args H=E2 r H':=funext fun _=>funext fun _=>propext ⟨fun k=>h.det k,fun⟨b,d⟩=>b▸d▸h⟩
def aaG(b:List ie)(r:V)(H:aj)(s:St):Prop:=s.defs=[]∧results s.az s.heap b=aa r∧∃ J,s.heap=H++J
theorem oH{ps:List P}{b:List ie}{body:av}(y:tab f=aa ⟨ps,b,body⟩)(x:args.length=ps.length)
  (h:∀(H:aj) (Q:Option av→St→Prop),(∀ j s,aaG b r H s→Q j s)→WP tab f ab [.code body] ⟨cu ps args .e,[],H⟩ Q):Kf tab f args r:=by
 intro H;have g:=h H (fun _ s=>aaG b r H s) fun _ _ h=>h;obtain⟨n,m,d,j,s,l,v,q,J,u⟩:=g;exact⟨J,wK y x ⟨n,m,d,j,s,l,0,0,s.heap,by rw [v];rfl,by rw [q],u⟩⟩
@[simp] theorem aiX {t:T} {H H':aj} {x:ie}:aaG [x] r H ⟨t,[],H'⟩↔bJ t H' x=aa r∧∃ J,H'=H++J:=by
 simp only [aaG,results,true_and,bj];cases bJ t H' x<;>simp
theorem dY{m d:Nat}{x:FC}(h:(CF tab m d (.fn f) args []).map (·.1)=aa (.c (.f x))):bF tab f args (.c (.f x)):=by
 rw [If]at h;obtain⟨⟨r,H'⟩,b,g⟩:=h;exact⟨r,H',⟨m,d,b⟩,by rw [show r=.c (.f x) from g];simp⟩
theorem eU{m d:Nat}{x:V}(h:((CF tab m d (.fn f) args []).bind fun p=>iI deep p.2 p.1)=aa x):bF tab f args x:=by
 rw [aqO]at h;obtain⟨⟨r,H'⟩,b,g⟩:=h;exact⟨r,H',⟨m,d,b⟩,g⟩
theorem ed{tab:Nat→Option aD}{f:Nat}{args:List V}{x:V}(h:((CF tab 60 10 (.fn f) args []).bind fun p=>iI deep p.2 p.1)=aa x):bF tab f args=Eq x:=bF.eq (eU h)
theorem vD{b:Bool}(h:∃ m d H',dG tab (nJ tab) m d (.fn f) [] []=aa (.c (.f (.bool b)),H')):bF tab f [] (vb b):=by
 obtain⟨m,d,H',h⟩:=h;exact⟨_,H',⟨m,d,h⟩,by simp⟩
theorem cA{S:V→Prop}{ps:List P}{b:List ie}{body:av}(y:tab f=aa ⟨ps,b,body⟩)(x:args.length=ps.length)
  (h:∀ Q:Option av→St→Prop,(∀ j s r,S r→n8 b r s→Q j s)→WP tab f ab [.code body] ⟨cu ps args .e,[],[]⟩ Q):∃ r,S r∧bF tab f args r:=by
 have q:=h (fun _ s=>∃ r,S r∧n8 b r s) fun _ _ r g l=>⟨r,g,l⟩
 obtain⟨n,m,d,j,s,g,r,hr,v,r0,l,u⟩:=q;exact⟨r,hr,r0,s.heap,wK y x ⟨n,m,d,j,s,g,0,0,s.heap,by rw [v];rfl,l,rfl⟩,u⟩
variable{fn i:Nat}{ro:Option Nat}{k:List cd}{ds:List dw}{Q:Option av→St→Prop}
def J4(a x:Nat):av:=.region [⟨D x,.bin .add (R a) (.k (.c (.f (.int .i64 1)))),ab⟩,⟨D a,.bB (R x),ab⟩] []
def qG(i a b c x:Nat)(body:av):av:=.seq (.region [⟨D c,.bin .lss (R a) (R b),ab⟩] []) (.seq (.cond (R c) .skip (.exit i)) (.seq body (J4 a x)))
def E9(i a b c x:Nat)(body:av):av:=.block i (.loop (qG i a b c x body))
theorem fU{a b c x:Nat}{body:av}{t:T}{H:aj}(N:Nat)(I:Nat→T→aj→Prop)(J:N≤9223372036854775807)(y:a≠b)(A:x≠b)
  (g:t.g a=vi 0) (l:t.g b=vi N) (E:I 0 t H)
  (step:∀ j t H,j<N→I j t H→t.g a=vi j→t.g b=vi N →
   (∀ q H',I (j+1) ((q.s x (vi (j+1:Nat))).s a (vi (j+1:Nat))) H'→q.g a=vi j→q.g b=vi N →
    WP tab fn ro (.code (J4 a x)::.inLoop (qG i a b c x body)::.inBlock i::k) ⟨q,ds,H'⟩ Q) →
   WP tab fn ro (.code body::.code (J4 a x)::.inLoop (qG i a b c x body)::.inBlock i::k) ⟨t.s c (vb ae),ds,H⟩ Q)
  (done:∀ t H,I N t H→t.g a=vi N→t.g b=vi N→WP tab fn ro k ⟨t.s c (vb ag),ds,H⟩ Q) :
  WP tab fn ro (.code (E9 i a b c x body)::k) ⟨t,ds,H⟩ Q:=by
 have m:∀ ops:List aP,ops.all (·.op.dP)=ae→ro=ab∨ops.all (·.op.dP)=ae:=fun _ h=>.inr h;refine aC ?_;refine bD (fun n s=>∃ j t H,s=⟨t,ds,H⟩∧j≤N∧n=N-j∧I j t H∧t.g a=vi j∧t.g b=vi N) N ⟨0,t,H,rfl,by omega,by omega,E,g,l⟩ ?_;rintro n s ⟨j,t,H,rfl,K,rfl,B,g,l⟩ F;apply an;refine aq (m _ rfl) ?_;simp [g,l];by_cases d:j<N
 ·rw [decide_eq_true d];apply an;refine al (by simp) ?_;refine aM ?_;apply an;refine step j t H d B g l fun q H' u v z=>?_;refine aq (m _ rfl) ?_;simp [v];rw [aO];refine F (N-(j+1)) _ (by omega) ⟨j+1,_,H',rfl,by omega,rfl,by simpa using u,by simp,?_⟩;simp [y,A,z]
 ·have:j=N:=by omega
  subst this;rw [decide_eq_false d];apply an;refine ak (by simp) ?_;refine bp (k':=k) (by simp [exitTo]) ?_;exact done t H B g l
def Vv(a x y:Nat):av:=.region [⟨D x,.bB (R a),ab⟩,⟨D y,.bin .add (R x) (.k (.c (.f (.int .i64 1)))),ab⟩,⟨D a,.bB (R y),ab⟩] []
def zi(i a c x y:Nat)(b:List aP)(body:av):av:=.seq (.seq (.region b []) (.cond (R c) .skip (.exit i))) (.seq body (Vv a x y))
def U'(i a c x y:Nat)(b:List aP)(body:av):av:=.block i (.loop (zi i a c x y b body))
theorem cw{a c x y:Nat}{g:List aP}{body:av}{t:T}{H:aj}(N:Nat)(I:Nat→T→aj→Prop)(K:N≤9223372036854775807)(B:g.all (·.op.dP)=ae)
  (d:t.g a=vi 0) (E:I 0 t H)
  (l:∀ j t H (L:St→Prop),j≤N→I j t H→t.g a=vi j→(∀ b,I j b H→b.g a=vi j→b.g c=vb (decide ((j:Int)<(N:Int)))→L ⟨b,ds,H⟩)→vd tab g ⟨t,ds,H⟩ L)
  (step:∀ j t H,j<N→I j t H→t.g a=vi j →
   (∀ b H',I (j+1) (((b.s x (vi j)).s y (vi (j+1:Nat))).s a (vi (j+1:Nat))) H'→b.g a=vi j →
    WP tab fn ro (.code (Vv a x y)::.inLoop (zi i a c x y g body)::.inBlock i::k) ⟨b,ds,H'⟩ Q) →
   WP tab fn ro (.code body::.code (Vv a x y)::.inLoop (zi i a c x y g body)::.inBlock i::k) ⟨t,ds,H⟩ Q)
  (done:∀ t H,I N t H→t.g a=vi N→WP tab fn ro k ⟨t,ds,H⟩ Q) :
  WP tab fn ro (.code (U' i a c x y g body)::k) ⟨t,ds,H⟩ Q:=by
 have m:∀ ops:List aP,ops.all (·.op.dP)=ae→ro=ab∨ops.all (·.op.dP)=ae:=fun _ h=>.inr h;refine aC ?_;refine bD (fun n s=>∃ j t H,s=⟨t,ds,H⟩∧j≤N∧n=N-j∧I j t H∧t.g a=vi j) N ⟨0,t,H,rfl,by omega,by omega,E,d⟩ ?_;rintro n s ⟨j,t,H,rfl,F,rfl,q,d⟩ J;apply an;apply an;refine aq (m _ B) ?_;refine l j t H _ F q d fun b q d u=>?_;by_cases A:j<N
 ·rw [decide_eq_true (by omega)]at u;refine al u ?_;refine aM ?_;apply an;refine step j b H A q d fun b H' v z=>?_;refine aq (m _ rfl) ?_;simp [z];rw [aO];exact J (N-(j+1)) _ (by omega) ⟨j+1,_,H',rfl,by omega,rfl,by simpa using v,by simp⟩
 ·have:j=N:=by omega
  subst this;rw [decide_eq_false (by omega)]at u;refine ak u ?_;refine bp (k':=k) (by simp [exitTo]) ?_;exact done b H q d
end
end
section
open Go
def kE{b:Type}(l:List b)(p:b→Bool):Int:=match l.findIdx? p with | some j=>j | none=>-1
theorem JT{b:Type}(l:List b)(p:b→Bool):decide (0≤kE l p)=l.any p:=by
 unfold kE;cases h:l.findIdx? p with
 | none=>
  rw [List.findIdx?_eq_none_iff]at h;have:l.any p=ag:=by rw [List.any_eq_false];intro x m;simp [h x m]
  simp [this]
 | some j=>
  rw [ar6]at h;obtain⟨d,g,_⟩:=h;have:l.any p=ae:=by rw [List.any_eq_true];exact⟨l[j],OF d,g⟩
  simp [this]
theorem JS{b:Type}{l:List b}{p:b→Bool}{j:Nat}(d:j<l.length)(m:p l[j]=ae)(g:∀(i:Nat) (hi:i<j),p (l[i]'(by omega))=ag):kE l p=j:=by
 have:l.findIdx? p=aa j:=by
  rw [ar6];exact⟨d,m,fun i hi=>by simp [g i hi]⟩
 simp [kE,this]
theorem JU{b:Type}{l:List b}{p:b→Bool}(d:∀(i:Nat) (hi:i<l.length),p l[i]=ag):kE l p = -1:=by
 have:l.findIdx? p=ab:=by
  rw [List.findIdx?_eq_none_iff];intro x g;obtain⟨i,hi,rfl⟩:=List.getElem_of_mem g;exact d i hi
 simp [kE,this]
def ints(l:List Int):List (List FC):=l.map fun n=>[fi n]
@[simp] theorem Bo (l:List Int):(ints l).length=l.length:=by simp [ints]
theorem eQ(l:List Int):bL 1 (ints l):=bL.map fun _=>rfl
theorem iW{j:Nat}{l:List Int}(b:j<l.length){H:aj}:aX H ab (.c (.f (.fp (ints l).flatten j)))=aa (vi l[j]):=by
 have:=abD (H:=H) (At b);simpa [ints]using this
variable{tab:Nat→Option aD}
def abp(t:List aP):av:=.block 1 (.seq (.region [⟨D 10,.bB (R 8),ab⟩,⟨D 5,.bB (R 10),ab⟩] []) (.seq
 (.region t []) (.cond (R 16) (.seq (.region [⟨D 17,.bB (R 5),ab⟩,⟨D 4,.bB (R 17),ab⟩] []) .ret) .skip)))
def ai8(t:List aP):aD:=⟨[P.nat 0,P.nat 1],[.tmp (P.nat 4)],.seq (.region [⟨D 4,.bB (.k (.c (.f (.int .i64 0)))),ab⟩] [])
 (.seq (.seq (.region [⟨D 6,.bB (R 0),ab⟩,⟨D 7,.len (R 6),ab⟩,⟨D 8,.bB (.k (.c (.f (.int .i64 0)))),ab⟩] []) (E9 0 8 7 9 18 (abp t)))
 (.seq (.region [⟨D 4,.bB (.k (.c (.f (.int .i64 (-1))))),ab⟩] []) .ret))⟩
def adU(sz:Nat)(b:Option Nat):List aP:=[⟨D 11,.bB (R 1),ab⟩,⟨D 12,.bB (R 0),ab⟩,⟨D 13,.bB (R 5),ab⟩,⟨D 14,.aV sz ab (R 12) (R 13),ab⟩,⟨D 15,.load b (R 14),ab⟩,⟨D 16,.bP (R 11) [(R 15)] ae,ab⟩]
theorem afn{f:Nat}{d:List aP}(Y:tab f=aa (ai8 d)){x y:V}{F:Type}{l:List F}{p:F→Bool}(X:l.length≤9223372036854775807)
  (Z:∃ c,x=.c c∧∀ H,bE H c=aa l.length)
  (g:∀(j:Nat) (v:j<l.length) (t:T) (H:aj) (L:St→Prop),t.g 0=x→t.g 1=y→t.g 5=vi j →
   (∀ b J,b.g 0=x→b.g 1=y→b.g 5=vi j→b.g 7=t.g 7→b.g 8=t.g 8→b.g 16=vb (p l[j])→L ⟨b,[],H++J⟩)→vd tab d ⟨t,[],H⟩ L) :
  Kf tab f [x,y] (vi (kE l p)):=by
 obtain⟨c,rfl,U⟩:=Z;refine oH Y rfl fun H Q B=>?_;apply an;refine aq (.inl rfl) ?_;simp;apply an;apply an;refine aq (.inl rfl) ?_;simp [U];refine fU l.length (fun j t H'=>t.g 0=.c c∧t.g 1=y∧(∃ J,H'=H++J)∧∀(i:Nat) (hi:i<l.length),i<j→p l[i]=ag) X (by decide) (by decide) (by simp) (by simp) (by simp) ?_ ?_
 ·rintro j t _ v ⟨z,A,⟨J,rfl⟩,q⟩ u E next
  refine aC ?_;apply an;refine aq (.inl rfl) ?_;simp [u];apply an;refine aq (.inl rfl) ?_;refine g j v _ _ _ (by simp [z]) (by simp [A]) (by simp) fun b I K M N O S m=>?_;cases s:p l[j]with
  | true=>
   refine al (by simp [m,s]) ?_;apply an;refine aq (.inl rfl) ?_;simp [N];refine aH (B _ _ ?_);have:=JS v s (fun i hi=>q i (by omega) hi);simp [this]
  | false=>
   refine ak (by simp [m,s]) ?_;refine aM (aA (next _ _ ?_ (by simp [S,u]) (by simp [O,E])));refine⟨by simp [K],by simp [M],⟨J++I,by simp⟩,fun i hi W=>?_⟩;by_cases e:i=j
   ·subst e;exact s
   ·exact q i hi (by omega)
 ·rintro t _ ⟨z,A,⟨J,rfl⟩,q⟩ u E;apply an;refine aq (.inl rfl) ?_;simp;refine aH (B _ _ ?_);have:=JU (l:=l) (p:=p) (fun i hi=>q i hi hi);simp [this]
theorem J7{f sz:Nat}{y:Option Nat}(F:tab f=aa (ai8 (adU sz y))){q:Type}(l:List q)(enc:q→List FC)(val:q→V)(p:q→Bool)(g:Tg)(k:Nat)(b:List FC)
  (B:l.length≤9223372036854775807) (d:∀(j:Nat) (m:j<l.length) (H:aj),aX H y (.c (.f (.fp (l.map enc).flatten (j*sz))))=aa (val l[j]))
  (E:∀ x ∈ l,Kf tab k (val x::b.map fun c=>.c (.f c)) (vb (p x))) :
  Kf tab f [.c (.f (sl g (l.map enc))),.c (.f (.fn k b))] (vi (kE l p)):=by
 refine afn F B ⟨_,rfl,fun H=>by simp⟩ ?_;intro j m t H L s u v z;have A:=(E l[j] (OF m)).ev H;have hi:=dg (H:=H) (g:=g) (rows:=l.map enc) (sz:=sz) (k:=.i64) (i:=(j:Int)) (by omega) (by simpa using m);simp [adU,s,u,v,hi,d j m,A];exact z _ _ (by simp [s]) (by simp [u]) (by simp [v]) (by simp) (by simp) (by simp)
def JJ(f:Nat):aD:=⟨[P.nat 0,P.nat 1],[.tmp (P.nat 4)],.seq (.region [⟨D 4,.bB (.k (.c (.f (.bool ag)))),ab⟩] []) (.seq
 (.region [⟨D 5,.bB (R 0),ab⟩,⟨D 6,.bB (R 1),ab⟩,⟨D 7,.call f [(R 5),(R 6)] ag,ab⟩,⟨D 8,.bin .geq (R 7) (.k (.c (.f (.int .i64 0)))),ab⟩,⟨D 4,.bB (R 8),ab⟩] []) .ret)⟩
theorem A_{f k:Nat}(m:tab f=aa (JJ k)){a b:FC}{d:Type}{l:List d}{p:d→Bool}(h:Kf tab k [.c (.f a),.c (.f b)] (vi (kE l p))) :
  Kf tab f [.c (.f a),.c (.f b)] (vb (l.any p)):=by
 refine oH m rfl fun H Q g=>?_;apply an;refine aq (.inl rfl) ?_;simp;apply an;refine aq (.inl rfl) ?_;have j:=h.eq;simp [j];refine aH (g _ _ ?_);simp [JT]
end
section
open Go
theorem aw{H:aj}{b:Nat}{x:cS}(h:H[b]?=aa x):b<H.length:=(By.1 h).1
theorem gS{q s:Type}{g:q→Option s}:∀ {xs b:List q} {ys d:List s},bj g xs=aa ys→bj g b=aa d→bj g (xs++b)=aa (ys++d)
 | [],b,ys,d,h,l=>by simp [bj]at h;subst h;simpa using l
 | x::xs,b,ys,d,h,l=>by
  simp only [bj,List.cons_append]at h ⊢;cases m:g x with
  | none=>simp [m]at h
  | some y=>
   cases j:bj g xs with
   | none=>simp [m,j]at h| some zs=>simp [m,j]at h;subst h;simp [gS j l]
variable{z:Bool}{H H':aj}{sz bytes:Nat}{v y:V}{g:Tg}{rows:List (List FC)}{row:List FC}{cs:List C}
theorem jQ{b g c:Nat}(h:H[b]?=aa (.box cs g))(d:cs.length=sz):cT H sz (.c (.sl b 0 1 c 0 sz))=aa (1,cs):=by
 simp [cT,bE,cF,h,d];rw [←d,List.take_length]
end
section
open Go
def Cn(P:Program):List Field→Nat→Nat→Bool
 | [],o,n=>o == n| f::b,o,n=>f.offset == o&&Cn P b (o+P.cellsOf f.type) n
def fD(P:Program):Nat→TypeId→Bool
 | 0,_=>ag
 | n+1,t=>match P.underlying t with
  | some .bool=>P.cellsOf t == 1| some (.int _)=>P.cellsOf t == 1| some .string=>P.cellsOf t == 1| some (.slice e)=>P.cellsOf t == 1&&P.cellsOf e != 0&&fD P n e| some (.struct b)=>Cn P b.toList 0 (P.cellsOf t)&&b.toList.all fun f=>fD P n f.type
  | some (.array k e)=>P.cellsOf t == k*P.cellsOf e&&fD P n e| _=>ag
def wi(S:TypeId→List FC→Prop):List TypeId→List FC→Prop
 | [],xs=>xs=[]| t::ts,xs=>∃ p q,xs=p++q∧S t p∧wi S ts q
def lE(P:Program):Nat→TypeId→List FC→Prop
 | 0,_,_=>False
 | n+1,t,xs=>match P.underlying t with
  | some .bool=>∃ b,xs=[.bool b]| some (.int k)=>∃ m,xs=[.int k m]∧(Lit.int k m).wf=ae| some .string=>∃ s,xs=[.str s]∧s.size≤maxLen| some (.slice e)=>∃ g rows,xs=[sl g rows]∧bL (P.cellsOf e) rows∧rows.length≤maxLen∧∀ r ∈ rows,lE P n e r| some (.struct d)=>wi (lE P n) (d.toList.map (·.type)) xs| some (.array k e)=>∃ rows,xs=rows.flatten∧rows.length=k∧bL (P.cellsOf e) rows∧∀ r ∈ rows,lE P n e r| _=>False
theorem tG{l:Type}{sz:Nat}:∀ {rows:List (List l)} {j k:Nat} {row:List l},(∀ r ∈ rows,r.length=sz)→rows[j]?=aa row→k<sz→rows.flatten[j*sz+k]?=row[k]?
 | [],j,k,row,_,b,_=>by simp at b
 | r::rows,0,k,row,d,b,g=>by
  simp at b;subst b;have:=d r aqK;rw [aqV,AI (by omega)];simp
 | r::rows,j+1,k,row,d,b,g=>by
  have hr:=d r aqK;rw [aqV,aqJ (by rw [hr,arc];omega)];have e:(j+1)*sz+k-r.length=j*sz+k:=by rw [hr,arc];omega
  rw [e];exact tG (rows:=rows) (fun x m=>d x (aqQ _ m)) (by simpa using b) g
theorem Be{d:Type}{sz:Nat}:∀ {rows:List (List d)},(∀ r ∈ rows,r.length=sz)→rows.flatten.length=rows.length*sz
 | [],_=>by simp
 | r::rows,h=>by
  have:=Be (rows:=rows) fun x b=>h x (aqQ _ b);simp only [aqV,aft,aqW,this,h r aqK,arc,Nat.one_mul];omega
def D5(w:World):Nat→Nat→Prop:=fun c _=>c<w.heap.size
theorem EY{w:World}{a:Addr}{v:Value}(h:w.cell? a=aa v):a.block<w.heap.size∧a.spot=ab:=by
 unfold World.cell? at h;split at h
 ·rename_i b;split at h
  ·simp at h
  ·rename_i d;refine⟨?_,by simpa using d⟩;exact(Array.getElem?_eq_some_iff.1 b).1
 ·simp at h
theorem A2.flatten{l m:Type}{R:l→m→Prop}{g:List (List l)}{d:List (List m)}(j:g.length=d.length)
  (h:∀(i:Nat) xs ys,g[i]?=aa xs→d[i]?=aa ys→A2 R xs ys):A2 R g.flatten d.flatten:=by
 induction g generalizing d with
 | nil=>cases d with
  | nil=>exact A2.nil| cons y ys=>simp at j
 | cons x xs u=>cases d with
  | nil=>simp at j
  | cons y ys=>
   rw [aqV,aqV];exact(h 0 x y rfl rfl).append (u (by simpa using j) fun i a b q s=>h (i+1) a b (by simpa using q) (by simpa using s))
section
variable{H:Type}{enc:TypeId × Value→H}{P:Program}{w:World}{base:Nat}{spare:Nat→Bool}{held:Bool}{σ:Nat→FuncId}
def ahO(σ:Nat→FuncId)(P:Program)(w:World)(n:Nat)(t:TypeId)(cs:List Value):Prop:=∃ xs,A2 (cB σ (D5 w) w) xs cs∧lE P n t xs
theorem rm{n:Nat}(v:∀ {t:TypeId} {fuel:Nat} {cs:List Value} {x:DataW H × List MemPlace},fD P n t=ae→DataW.trod enc P w base spare held fuel t cs=aa x→ahO σ P w n t cs∧cs.length=P.cellsOf t)
  {fuel:Nat}:∀(b:List Field) (o N:Nat) (cs:List Value),Cn P b o N=ae→(b.all fun f=>fD P n f.type)=ae→cs.length=N →
   (∀ f ∈ b,∃ x,DataW.trod enc P w base spare held fuel f.type ((cs.drop f.offset).take (P.cellsOf f.type))=aa x) →
   ∃ xs,A2 (cB σ (D5 w) w) xs (cs.drop o)∧wi (lE P n) (b.map (·.type)) xs
 | [],o,N,cs,d,_,m,_=>by
  simp [Cn]at d;exact⟨[],by rw [List.drop_of_length_le (by omega)];exact A2.nil,rfl⟩
 | f::b,o,N,cs,d,l,m,u=>by
  simp only [Cn,BY,beq_iff_eq]at d;simp only [List.all_cons,BY]at l;obtain⟨x,j⟩:=u f aqK;rw [d.1]at j;obtain⟨⟨p,z,B⟩,s⟩:=v l.1 j;obtain⟨q,A,sq⟩:=rm v b (o+P.cellsOf f.type) N cs d.2 l.2 m fun g y=>u g (aqQ _ y);refine⟨p++q,?_,p,q,rfl,B,sq⟩;have:cs.drop o=(cs.drop o).take (P.cellsOf f.type)++cs.drop (o+P.cellsOf f.type):=by
   rw [←arB,aq0]
  rw [this];exact z.append A
theorem UP(c o n k:Nat):((⟨c,o,ab⟩:Addr).add n).add k=⟨c,o+(n+k),ab⟩:=by
 unfold Addr.add;by_cases b:n=0<;>by_cases d:k=0<;>simp [b,d];omega
theorem Xq{t e:TypeId}{k n:Nat}{cs:List Value}{x:DataW H × List MemPlace}(j:P.underlying t=aa (.array k e))(h:DataW.trod enc P w base spare held (n+1) t cs=aa x) :
  cs.length=P.cellsOf t∧∀ i,i<k→∃ y,DataW.trod enc P w base spare held n e ((cs.drop (i*P.cellsOf e)).take (P.cellsOf e))=aa y:=by
 unfold DataW.trod at h;rw [j]at h;simp only [Option.ite_none_right_eq_some,If]at h;obtain⟨g,xs,d,l⟩:=h;refine⟨g,fun i hi=>?_⟩;have:=mapM_some_get d i i (by simp [hi]);have b:xs.length=k:=by simpa using mapM_some_length d
 rw [At (by omega)]at this;exact⟨_,this⟩
theorem wF{j:Type}{sz:Nat}:∀ {k:Nat} {cs:List j},cs.length=k*sz→cs=((List.range k).map fun i=>(cs.drop (i*sz)).take sz).flatten
 | 0,cs,h=>by simp at h;simp [h]
 | k+1,cs,h=>by
  have d:(cs.take (k*sz)).length=k*sz:=by rw [aq7,h,arc];omega
  have g:=wF d;rw [List.range_succ,art,List.flatten_append];have e:((List.range k).map fun i=>(cs.drop (i*sz)).take sz)=(List.range k).map fun i=>((cs.take (k*sz)).drop (i*sz)).take sz:=by
   refine List.map_congr_left fun i hi=>?_;have b:i<k:=by simpa using hi
   have:(i+1)*sz≤k*sz:=arl _ b;rw [arc]at this;rw [List.drop_take,List.take_take,Nat.min_eq_left (by omega)]
  rw [e,←g];simp only [ao1,List.map_nil,aqV,List.flatten_nil,ars];have:(cs.drop (k*sz)).take sz=cs.drop (k*sz):=aqI (by rw [aqG,h,arc];omega);rw [this,aq0]
theorem amk{n:Nat}:∀ {t:TypeId} {fuel:Nat} {cs:List Value} {x:DataW H × List MemPlace},fD P n t=ae→DataW.trod enc P w base spare held fuel t cs=aa x →
  ahO σ P w n t cs∧cs.length=P.cellsOf t:=by
 induction n with
 | zero=>intro t fuel cs x g;simp [fD]at g
 | succ n ih=>
  intro t fuel cs x g h;simp only [fD]at g;split at g
  ·rename_i j;obtain⟨b,rfl,_⟩:=DataW.trod_bool j h;exact⟨⟨[.bool b],.cons (.bool b) .nil,by simp only [lE,j];exact⟨b,rfl⟩⟩,by simp at g;simp [g]⟩
  ·rename_i k j;obtain⟨m,rfl,_,hw⟩:=DataW.trod_int j h;exact⟨⟨[.int k m],.cons (.int k m) .nil,by simp only [lE,j];exact⟨m,rfl,hw⟩⟩,by simp at g;simp [g]⟩
  ·rename_i j;obtain⟨s,rfl,_,hw⟩:=DataW.trod_string j h;exact⟨⟨[.str s],.cons (.str s) .nil,by simp only [lE,j];exact⟨s,rfl,hw⟩⟩,by simp at g;simp [g]⟩
  ·rename_i e j;simp only [BY,beq_iff_eq,bne_iff_ne]at g;obtain⟨⟨F,d6⟩,he⟩:=g;rcases DataW.trod_slice j h with⟨rfl,_⟩ | ⟨a,len,cap,Y,rest,m,_,rfl,_,hb,I,hm,b_,a_,_,_⟩
   ·exact⟨⟨[sl .nil []],.cons .aE .nil,by simp only [lE,j];exact⟨.nil,[],rfl,fun r hr=>by simp at hr,by simp,fun r hr=>by simp at hr⟩⟩,by simpa using F.symm⟩
   ·refine⟨?_,by simpa using F.symm⟩;have z:∀ i,i<len→∃ p:List Value × List FC,w.cells? base (a.add (i*P.cellsOf e)) (P.cellsOf e)=aa p.1∧A2 (cB σ (D5 w) w) p.2 p.1∧lE P n e p.2:=by
     intro i hi;have:=a_ i hi;rw [At (by omega)]at this;obtain⟨cs',F,O⟩:=aqO.1 this;obtain⟨⟨xs,ha,g⟩,_⟩:=ih he O;exact⟨(cs',xs),F,ha,g⟩
    obtain⟨p,K⟩:=Go.Deep.choose_lt z;by_cases h0:len=0
    ·subst h0;refine⟨[sl .fs []],.cons (.fs0 a cap) .nil,?_⟩;simp only [lE,j];exact⟨.fs,[],rfl,fun r hr=>by simp at hr,by simp,fun r hr=>by simp at hr⟩
    have B:a.spot=ab:=by
     have:=K 0 (by omega);obtain⟨_,c9,a8⟩:=World.cells?_some this.1;have:=a8 0 (by omega);rw [At (by omega)]at this;have:=(EY this).2;simpa [Addr.add]using this
    obtain⟨c,o,sp⟩:=a;simp only at B;subst B
    let d:=(List.range len).map fun i=>(p i).1
    let rows:=(List.range len).map fun i=>(p i).2
    have X:∀ v ∈ d,v.length=P.cellsOf e:=by
     intro v X;obtain⟨i,hi,rfl⟩:=aq9.1 X;exact(World.cells?_some (K i (by simpa using hi)).1).2.1
    have hg:bL (P.cellsOf e) rows:=by
     intro r hr;obtain⟨i,hi,rfl⟩:=aq9.1 hr;obtain⟨F,O,_⟩:=K i (by simpa using hi);rw [O.len,(World.cells?_some F).2.1]
    have Z:A2 (cB σ (D5 w) w) rows.flatten d.flatten:=by
     refine A2.flatten (by simp [rows,d]) fun i xs ys E J=>?_;simp only [rows,d,ari,If]at E J;obtain⟨i1,M,rfl⟩:=E;obtain⟨i2,N,rfl⟩:=J;rw [M]at N;cases N;have:=api M;exact(K i1 (by simpa using this)).2.1
    have A:∀ i u,d.flatten[i]?=aa u→w.cell? ⟨c,o+i,ab⟩=aa u:=by
     intro i u W;have hi:i<d.flatten.length:=(By.1 W).1;rw [Be X]at hi;have b9:d.length=len:=by simp [d]
     rw [b9]at hi;have L:i / P.cellsOf e<len:=Nat.div_lt_of_lt_mul (by rw [Nat.mul_comm];exact hi);have hk:i % P.cellsOf e<P.cellsOf e:=Nat.mod_lt _ (by omega);have l:i=i / P.cellsOf e*P.cellsOf e+i % P.cellsOf e:=by rw [Nat.mul_comm];exact(Nat.div_add_mod _ _).symm
     have U:d[i / P.cellsOf e]?=aa (p (i / P.cellsOf e)).1:=by simp [d,L]
     rw [l,tG X U hk]at W;obtain⟨_,_,hc⟩:=World.cells?_some (K _ L).1;have:=hc _ hk;rw [W]at this;rw [←this,UP,←l]
    refine⟨[sl .fs rows],.cons ?_ .nil,?_⟩
    ·have b7:rows≠[]:=by simp [rows];omega
     have S:rows.length=len:=by simp [rows]
     have:sl Tg.fs rows=.fs rows.flatten len:=by
      cases hr:rows with
      | nil=>exact absurd hr b7| cons r rs=>simp only [sl,ar5,anc,if_false];rw [←hr,S]
     rw [this];refine .fs rows.flatten len c o cap d.flatten I Z.len.symm (fun i hi=>?_) A fun i x u E W=>Z.2 i x u E W;have l:i<d.flatten.length:=by rw [←Z.len];exact hi
     exact(EY (A i _ (At l))).1
    ·simp only [lE,j];have S:rows.length=len:=by simp [rows]
     refine⟨.fs,rows,rfl,hg,by omega,fun r hr=>?_⟩;obtain⟨i,hi,rfl⟩:=aq9.1 hr;exact(K i (by simpa using hi)).2.2
  ·rename_i fs j;simp only [BY]at g;obtain⟨xs,m,_,_,I,_,E⟩:=DataW.trod_struct j h;refine⟨?_,I⟩;obtain⟨ys,F,O⟩:=rm (n:=n) (fuel:=m) ih fs.toList 0 _ cs g.1 g.2 I fun f hf=>by
    obtain⟨i,hi⟩:=arf hf;rw [Array.getElem?_toList]at hi;have:=E i f hi;rw [this];have c_:i<fs.size:=(Array.getElem?_eq_some_iff.1 hi).1;exact⟨_,At (by omega)⟩
   exact⟨ys,by simpa using F,by simp only [lE,j];exact O⟩
  ·rename_i k e j;simp only [BY,beq_iff_eq]at g;obtain⟨Q,he⟩:=g;cases fuel with
   | zero=>simp [DataW.trod]at h
   | succ m=>
   obtain⟨I,E⟩:=Xq j h;refine⟨?_,I⟩;have z:∀ i,i<k→∃ q:List FC,A2 (cB σ (D5 w) w) q ((cs.drop (i*P.cellsOf e)).take (P.cellsOf e))∧lE P n e q:=by
    intro i hi;obtain⟨y,J⟩:=E i hi;obtain⟨⟨q,a,b⟩,_⟩:=ih he J;exact⟨q,a,b⟩
   obtain⟨q,L⟩:=Go.Deep.choose_lt z
   let rows:=(List.range k).map q
   have a9:cs=((List.range k).map fun i=>(cs.drop (i*P.cellsOf e)).take (P.cellsOf e)).flatten:=wF (by rw [I,Q]);refine⟨rows.flatten,?_,?_⟩
   ·rw [a9];refine A2.flatten (by simp [rows]) fun i xs ys E J=>?_;simp only [rows,ari,If]at E J;obtain⟨i1,M,rfl⟩:=E;obtain⟨i2,N,rfl⟩:=J;rw [M]at N;cases N;have:=api M;exact(L i1 (by simpa using this)).1
   ·simp only [lE,j];refine⟨rows,rfl,by simp [rows],fun r hr=>?_,fun r hr=>?_⟩
    ·obtain⟨i,hi,rfl⟩:=aq9.1 hr;have l:i<k:=by simpa using hi
     rw [(L i l).1.len,aq7,aqG,I,Q];have:(i+1)*P.cellsOf e≤k*P.cellsOf e:=arl _ l;rw [arc]at this;omega
    ·obtain⟨i,hi,rfl⟩:=aq9.1 hr;exact(L i (by simpa using hi)).2
  ·simp at g
end
section
variable{P:Program}{n:Nat}{t e:TypeId}{xs:List FC}
theorem Xb(d:P.underlying t=aa .bool)(h:lE P (n+1) t xs):∃ b,xs=[.bool b]:=by simpa only [lE,d]using h
theorem eX{k:IntKind}(b:P.underlying t=aa (.int k))(h:lE P (n+1) t xs):∃ m,xs=[.int k m]∧(Lit.int k m).wf=ae:=by simpa only [lE,b]using h
theorem qS(b:P.underlying t=aa (.slice e))(h:lE P (n+1) t xs):∃ g rows,xs=[sl g rows]∧bL (P.cellsOf e) rows∧rows.length≤maxLen∧∀ r ∈ rows,lE P n e r:=by simpa only [lE,b]using h
theorem nO{d:Array Field}{ts:List TypeId}(g:P.underlying t=aa (.struct d))(b:d.toList.map (·.type)=ts)(h:lE P (n+1) t xs):wi (lE P n) ts xs:=by
 subst b;simpa only [lE,g]using h
theorem sJ{k:Nat}(b:P.underlying t=aa (.array k e))(h:lE P (n+1) t xs):∃ rows,xs=rows.flatten∧rows.length=k∧bL (P.cellsOf e) rows∧∀ r ∈ rows,lE P n e r:=by simpa only [lE,b]using h
theorem c6{S:TypeId→List FC→Prop}{ts:List TypeId}(h:wi S (t::ts) xs):∃ p q,xs=p++q∧S t p∧wi S ts q:=h
theorem kU{d:Type}{enc:d→List FC}{p:d→Prop}:∀ {rows:List (List FC)},(∀ r ∈ rows,∃ x,r=enc x∧p x)→∃ l:List d,rows=l.map enc∧∀ x ∈ l,p x
 | [],_=>⟨[],rfl,by simp⟩
 | r::rows,h=>by
  obtain⟨x,rfl,j⟩:=h r aqK;obtain⟨l,rfl,g⟩:=kU fun r hr=>h r (aqQ _ hr);exact⟨x::l,rfl,fun y b=>by
   rcases arw.1 b with rfl | b
   ·exact j
   ·exact g y b⟩
end
end
section
open Go Go.ChangeShapes Go.WideShapes Go.ChangeAt Go.RowKit
def pU(P:Program)(t:TypeId)(a:V):Prop:=(∃ xs,a=.a (xs.map .f)∧lE P 40 t xs∧(∃ d,P.underlying t=aa d∧((∃ b,d=.struct b)∨∃ n e,d=.array n e))) ∨
 (∃ x,a=.c (.f x)∧lE P 40 t [x])
def sb(P:Program):List TypeId→List V→Prop
 | [],as=>as=[]| t::ts,as=>∃ a b,as=a::b∧pU P t a∧sb P ts b
section
variable{H:Type}{enc:TypeId × Value→H}{P:Program}{W W':World}
theorem vB{f:Func}{s:ChangeSpec}{g B l A:Bool}{args:Array Value}{v:Value}{ds F:List (DataW H)}{d pa pv:List MemPlace}
  (K:DataW.Whole enc P f.params.toList s.vars g W args.toList ds F d)
  (z:∀(b:Nat) (E:Nat→Bool) (O:Bool),DataW.TrodAll enc P W' b E O f.resultTypes.toList (v.resultList f.resultTypes.size) (s.fn H (ds++F)).results [])
  (m:∀ E:Nat→Bool,(∀ p ∈ d,E p.block=ae)→DataW.TrodAll enc P W' 0 E ae f.params.toList args.toList (s.fn H (ds++F)).args pa)
  (u:∀ E:Nat→Bool,(∀ p ∈ d,E p.block=ae)→DataW.TrodVars enc P W' E s.vars (s.fn H (ds++F)).vars pv)
  (x:d=pa++pv) (M:Below W.heap.size W W')
  (L:∀(j:Nat) (t:TypeId) (r:Value),f.resultTypes[j]?=aa t→(v.resultList f.resultTypes.size)[j]?=aa r→Value.okWide P W' .any 0 t r) :
  s.post enc P f g B l A W args v W':=by
 have I:∀ p ∈ d,p.block<W.heap.size:=fun p q=>K.lt p q;have y:∀ p ∈ d,(fun b=>decide (b<W.heap.size)) p.block=ae:=fun p q=>by simpa using I p q
 refine⟨ds,F,d,[],pa,pv,K,z _ _ _,m _ y,u _ y,World.keptBut_mono (fun p q=>⟨q,?_⟩) (M.frame (· ∈ d)),fun _=>?_⟩
 ·rw [x,List.mem_append]at q;exact Or.inr q
 ·obtain⟨_,_,_,_,_,S,Q⟩:=K;refine⟨L,_,_,([]++pa)++pv,⟨[]++pa,pv,trodAll_append (m _ (fun _ _=>rfl)) (z _ _ _),u _ (fun _ _=>rfl),rfl,?_,?_⟩,?_⟩
  ·intro b off q;have J:MemPlace.cell b off ∈ d:=by rw [x];simpa using q
   rw [M.frozen (p:=⟨b,off,ab⟩) (I _ J)];exact S b off J
  ·intro N;have:=Q N;rw [x]at this;simpa using this
  ·intro p q _;rw [x];simpa using q
theorem nz(m:laidOutB P=ae){u:Nat→Bool}(l:Below W.heap.size W W'):∀ {ts:List TypeId} {j:List Value} {ds:List (DataW H)} {ps:List MemPlace},
  (ts.all fun t=>P.readableRec t&&decide (t<P.types.size))=ae→DataW.TrodAll enc P W 0 (fun _=>ae) ae ts j ds ps→(∀ p ∈ ps,p.block<W.heap.size)→(∀ p ∈ ps,u p.block=ae) →
  DataW.TrodAll enc P W' 0 u ae ts j ds ps
 | [],[],[],ps,_,h,_,_=>h
 | t::ts,v::j,d::ds,ps,hr,⟨p,q,y,z,e⟩,g,s=>by
  subst e;simp only [List.all_cons,BY,decide_eq_true_eq]at hr;exact⟨p,q,WideElems.Trod_stays m hr.1.1 hr.1.2 y (fun x b=>l.same (g x (List.mem_append_left _ b))) (fun x b=>s x (List.mem_append_left _ b)),
   nz m l hr.2 z (fun x b=>g x (List.mem_append_right _ b)) (fun x b=>s x (List.mem_append_right _ b)),rfl⟩
 | [],_::_,_,_,_,h,_,_=>by cases h
 | [],[],_::_,_,_,h,_,_=>by cases h
 | _::_,[],_,_,_,h,_,_=>by cases h
 | _::_,_::_,[],_,_,h,_,_=>by cases h
variable{σ:Nat→FuncId}
def X0(W:World):Wd:=⟨fun _=>ab,D5 W,[],W,W.heap.size⟩
theorem Xs{xs:List FC}{cs:Array Value}(h:A2 (cB σ (D5 W) W) xs cs.toList):VR σ (X0 W) (.a (xs.map .f)) (.agg cs):=
 ⟨cs.toList,by simp,A2.map (g:=C.f) (h.kr fun _ _ h=>h)⟩
theorem UU{t:TypeId}{v:Value}{d:DataW H}{ps:List MemPlace}{base:Nat}{spare:Nat→Bool}{held:Bool}{b0:Nat}(s:fD P 40 t=ae)(g:Value.okWide P W .any b0 t v)
  (E:DataW.Trod enc P W base spare held t v d ps):∃ a,VR σ (X0 W) a v∧pU P t a:=by
 obtain⟨fuel,q⟩:=E;obtain⟨⟨xs,m,u⟩,I⟩:=amk (σ:=σ) s q;have l:v.cells.toList=[v]→∃ a,VR σ (X0 W) a v∧pU P t a:=by
  intro F;rw [F]at m
  match xs,m.len with
  | [x],_=>exact⟨.c (.f x),m.of_cons.1,.inr ⟨x,rfl,u⟩⟩
 unfold fD at s;unfold Value.okWide at g;split at g
 ·rename_i y j;obtain⟨cs,rfl,_,_⟩:=g;exact⟨_,Xs m,.inl ⟨xs,rfl,u,_,j,.inl ⟨_,rfl⟩⟩⟩
 ·rename_i n e j;obtain⟨cs,rfl,_,_⟩:=g;exact⟨_,Xs m,.inl ⟨xs,rfl,u,_,j,.inr ⟨_,_,rfl⟩⟩⟩
 ·rename_i A B;refine l ?_;split at s
  ·rename_i j;obtain⟨b,z,_⟩:=DataW.trod_bool j q;simp only [Cell.okWide,j,Cell.ok]at g;cases v<;>simp_all [Value.cells]
  ·rename_i j;obtain⟨b,z,_⟩:=DataW.trod_int j q;simp only [Cell.okWide,j,Cell.ok]at g;cases v<;>simp_all [Value.cells]
  ·rename_i j;obtain⟨b,z,_⟩:=DataW.trod_string j q;simp only [Cell.okWide,j,Cell.ok]at g;cases v<;>simp_all [Value.cells]
  ·rename_i j;simp only [Cell.okWide,j,Cell.ok]at g;cases v<;>simp_all [Value.cells]
  ·rename_i y j;exact absurd j (A y)
  ·rename_i n e j;exact absurd j (B n e)
  ·simp at s
theorem wu{base:Nat}{spare:Nat→Bool}{held:Bool}{b0:Nat}:∀ {ts:List TypeId} {g:List Value} {ds:List (DataW H)} {ps:List MemPlace},(ts.all fun t=>fD P 40 t)=ae →
  (∀(j:Nat) t v,ts[j]?=aa t→g[j]?=aa v→Value.okWide P W .any b0 t v)→DataW.TrodAll enc P W base spare held ts g ds ps →
  ∃ as,A2 (VR σ (X0 W)) as g∧sb P ts as
 | [],[],[],_,_,_,_=>⟨[],A2.nil,rfl⟩
 | t::ts,v::g,d::ds,ps,l,b,⟨p,q,u,x,_⟩=>by
  simp only [List.all_cons,BY]at l;obtain⟨a,y,A⟩:=UU (σ:=σ) l.1 (b 0 t v rfl rfl) u;obtain⟨m,z,B⟩:=wu l.2 (fun j t v h s=>b (j+1) t v (by simpa using h) (by simpa using s)) x;exact⟨a::m,.cons y z,a,m,rfl,A,B⟩
 | [],_::_,_,_,_,_,h=>by cases h
 | [],[],_::_,_,_,_,h=>by cases h
 | _::_,[],_,_,_,_,h=>by cases h
 | _::_,_::_,[],_,_,_,h=>by cases h
theorem aa_{n:Nat}{H:aj}{v:V}{b:Bool}(h:iI (n+1) H v=aa (.c (.f (.bool b)))):v=.c (.f (.bool b)):=by
 cases v with
 | top=>simp [iI,cg]at h| a xs=>simp [iI,cg]at h| t xs=>simp [iI]at h
 | c x=>
  simp only [iI,cg,If]at h;obtain⟨y,d,h⟩:=h;cases h;cases x with
  | f x=>simpa [da]using d| ptr b o e=>simp only [da]at d;split at d<;>simp at d
  | sl b o l c e s=>
   simp only [da]at d;split at d
   ·split at d<;>simp at d
   ·split at d<;>simp at d
   ·split at d<;>simp at d
   ·split at d<;>simp at d
   ·simp at d
  | cl f g=>simp [da]at d| _=>simp [da]at d
variable{tab:Nat→Option aD}
theorem Eg(v:Env P σ tab (nJ tab)){f:Nat}{args:List V}{us:List Value}(h:bF tab f args (vb ae))(W:World)(y:A2 (VR σ (X0 W)) args us) :
  Calls P (σ f) us.toArray W fun e w'=>e=.returned (.bool ae)∧Below W.heap.size W w':=by
 obtain⟨r,H',⟨m,d,h⟩,hr⟩:=h;have hr:=aa_ (n:=63) hr;subst hr;intro cs
 let X:=X0 W
 have x:SR P σ X:=⟨fun b L h=>by simp [X,X0]at h,fun b K L J h=>by simp [X,X0]at h,fun c i h=>h⟩
 obtain⟨l,X',u,q,⟨B,E,F,j,fn,H,I⟩,M,N,s,g,O⟩:=(U6 v m d).fn f args [] _ H' h X us .normal cs rfl x (IT _) y (.inl rfl) (.inl rfl);have A:=VR.bool s;subst A;exact⟨.returned (.bool ae),X'.w,l,⟨rfl,⟨g.os,g.tape,g.output,g.size,fun k z=>g.frame k z (fun b L h=>by simp [X,X0]at h)⟩⟩,q,j,B,E,F,fn,by rw [j];exact H,I⟩
theorem VD(hE:Env P σ tab (nJ tab)){s:ChangeSpec}{f:Func}{fi:Nat}{tb:TypeId}(x:s.vars=[])(B:laidOutB P=ae){ts:List TypeId}(F:f.params.toList=ts)
  (O:∀ ds:List (DataW H),ds.length=ts.length→s.fn H ds=⟨[.lit (.bool ae)],ds,[]⟩)
  (y:f.resultTypes=#[tb]) (K:P.underlying tb=aa .bool) (E:(ts.all fun t=>P.readableRec t&&decide (t<P.types.size))=ae) (u:(ts.all fun t=>fD P 40 t)=ae)
  (Q:∀ as,sb P ts as→bF tab fi as (vb ae)) {g A l z:Bool} {base:Nat} {args:Array Value} {ds gs:List (DataW H)} {d:List MemPlace}
  (L:∀(j:Nat) t v,f.params[j]?=aa t→args[j]?=aa v→Value.okWide P W .any base t v) (X:DataW.Whole enc P f.params.toList s.vars g W args.toList ds gs d) :
  Calls P (σ fi) args W fun e W'=>∃ v,e=.returned v∧s.post enc P f g A l z W args v W':=by
 have I:=X;obtain⟨p,q,N,U,Y,a8,a9⟩:=X;rw [F]at N;rw [x]at U;obtain⟨rfl,rfl⟩:=trodVars_none U;simp only [ars]at Y;subst Y;obtain⟨as,h1,h2⟩:=wu (σ:=σ) (b0:=base) u (fun j t v h h'=>L j t v (by rw [←Array.getElem?_toList,F];exact h) (by rw [←Array.getElem?_toList];exact h')) N;have J:ds.length=ts.length:=by
  have:∀ {ts:List TypeId} {M:List Value} {ds:List (DataW H)} {ps:List MemPlace},DataW.TrodAll enc P W 0 (fun _=>ae) ae ts M ds ps→ds.length=ts.length:=by
   intro ts;induction ts with
   | nil=>intro M ds ps h;cases M<;>cases ds<;>first | rfl | cases h
   | cons t ts ih=>intro M ds ps h;cases M<;>cases ds<;>first | (obtain⟨_,_,_,h,_⟩:=h;simp [ih h]) | cases h
  exact this N
 have m:=O ds J;have Z:=Eg hE (Q as h2) W h1;rw [Array.toArray_toList]at Z;refine Z.mono fun e W' h=>?_;obtain⟨he,hg⟩:=h;subst he;refine⟨_,rfl,vB (pa:=d) (pv:=[]) I (fun b sp hd=>?_) (fun sp S=>?_) (fun sp _=>?_) (by simp) hg ?_⟩
 ·rw [ars,m,y];exact trodAll_mk1 (shut_bool K _)
 ·rw [ars,m,F];exact nz B hg E N (fun p hp=>I.lt p hp) S
 ·rw [ars,m,x];exact rfl
 ·exact ok_one y rfl (okWide_bool_mk K _)
end
end
section
open Go
section
variable{tab:Nat→Option aD}{f:Nat}{args:List V}{r:V}{fn:Nat}{k:List cd}{t:T}{ds:List dw}{H H':aj}{Q:Option av→St→Prop}
theorem wZ{x:Arg}{ps:List P}{as bd:av}{g:Nat}{s:List V}(A:bQ (x.ev t) [.c (.yl (H.length+1))]=aa (.fn g,s))
  (l:Ev tab (.fn g) s (H++[.jF ae,.lp fn t ps as bd .ready ab H.length]) r H')
  (h:WP tab fn ab (.ib (H.length+1)::k) ⟨t,.ov H.length::ds,H'⟩ Q):WP tab fn ab (.code (.jI x ps as bd)::k) ⟨t,ds,H⟩ Q:=by
 obtain⟨m,d,l⟩:=l;obtain⟨n,q,b,j,s',y,z⟩:=h;refine⟨n+1,max m q,max d b,j,s',?_,z⟩;have u:=jn (tab:=tab) (aqS m q) (aqS d b) _ _ _ _ l;have v:=uA (aqN m q) (aqN d b) (IT n) y;simp only [run,A,u,v];simp
theorem VC{ro:Option Nat}{b j d:Nat}{l:T}{ps:List P}{as bd:av}{st:fP}(q:H[b]?=aa (.lp j l ps as bd st ab d))(g:st≠.busy)
  (h:WP tab fn ro k ⟨t,ds,H.set b (.lp j l ps as bd .exhausted ab d)⟩ Q):WP tab fn ro (.ib b::k) ⟨t,ds,H⟩ Q:=by
 refine lj h fun m d n=>?_;simp only [run,q,aY g]
theorem yF{ro:Option Nat}{b j d:Nat}{l:T}{ps:List P}{as bd:av}{st:fP}(q:H[b]?=aa (.lp j l ps as bd st (aa .ret) d))(g:st≠.busy)
  (h:WP tab fn ro (.code .ret::k) ⟨t,ds,H.set b (.lp j l ps as bd .exhausted (aa .ret) d)⟩ Q):WP tab fn ro (.ib b::k) ⟨t,ds,H⟩ Q:=by
 refine lj h fun m d n=>?_;simp only [run,q,aY g]
theorem aby{b g d:Nat}{l:T}{ps:List P}{as bd:av}{j:Option av}(q:H[b]?=aa (.lp g l ps as bd .ready j d))
  (h:WP tab fn (aa b) k ⟨t,ds,H.set b (.lp g l ps as bd .busy j d)⟩ Q):WP tab fn (aa b) (.lQ::k) ⟨t,ds,H⟩ Q:=by
 refine lj h fun m d n=>?_;simp only [run,q]
@[simp] theorem ahu {b:Nat} {as:List V}:bQ (.c (.yl b)) as=aa (.yield b,as):=rfl
def ahN(b:Nat)(r:V)(H':aj)(j:Option av)(s:St):Prop:=s.defs=[]∧∃ g l ps as bd st m d,s.heap[b]?=aa (.lp g l ps as bd st m d)∧r=.c (.f (.bool j.isNone)) ∧
 H'=s.heap.set b (.lp g l ps as bd (if j.isNone then .ready else .done) j d)
theorem Vj{b l d:Nat}{q:T}{ps:List P}{as bd:av}{st:fP}{F:Option av}(A:H[b]?=aa (.lp l q ps as bd st F d))(E:args.length=ps.length)
  (h:WP tab l (aa b) [.code as,.lQ,.code bd] ⟨cu ps args q,[],H⟩ (ahN b r H')):Ev tab (.yield b) args H r H':=by
 obtain⟨n,m,g,j,s,y,B,N,L,J,v,x,K,I,M,z,rfl,rfl⟩:=h;refine⟨max m n,g+1,?_⟩;have u:run (CF tab (max m n) g) l (max m n) (aa b) [.code as,.lQ,.code bd] ⟨cu ps args q,[],H⟩=aa (j,s):=uA (aqS m n) (IT g) (aqN m n) y;simp only [CF]at u ⊢;simp only [dG,A,E,if_true,u,B,List.isEmpty_nil,z];rfl
theorem Bc{C:V→aj→Prop}{b F d:Nat}{I:T}{ps:List P}{as bd:av}{st:fP}{N:Option av}(L:H[b]?=aa (.lp F I ps as bd st N d))(M:args.length=ps.length)
  (h:∀ Q:Option av→St→Prop,(∀ j s z u q g l x v y,s.defs=[]→s.heap[b]?=aa (.lp z u q g l x v y) →
   C (.c (.f (.bool j.isNone))) (s.heap.set b (.lp z u q g l (if j.isNone then .ready else .done) j y))→Q j s)→WP tab F (aa b) [.code as,.lQ,.code bd] ⟨cu ps args I,[],H⟩ Q):∃ r H',Ev tab (.yield b) args H r H'∧C r H':=by
 have K:=h (fun j s=>∃ r H',C r H'∧ahN b r H' j s) fun j s z u q g l x v y A B E=>⟨_,_,E,A,z,u,q,g,l,x,v,y,B,rfl,rfl⟩
 obtain⟨n,m,J,j,s,A,r,H',B,E⟩:=K;exact⟨r,H',Vj L M ⟨n,m,J,j,s,A,E⟩,B⟩
def aeh(d:List ie)(r:V)(s:St):Prop:=∃ b,s.defs=[.ov b]∧s.heap[b]?=aa (.jF ae)∧∃ r0,results s.az (s.heap.set b (.jF ag)) d=aa r0∧iI deep (s.heap.set b (.jF ag)) r0=aa r
theorem WN{S:V→Prop}{ps:List P}{g:List ie}{body:av}(y:tab f=aa ⟨ps,g,body⟩)(x:args.length=ps.length)
  (h:∀ Q:Option av→St→Prop,(∀ j s r,S r→n8 g r s∨aeh g r s→Q j s)→WP tab f ab [.code body] ⟨cu ps args .e,[],[]⟩ Q):∃ r,S r∧bF tab f args r:=by
 have z:=h (fun _ s=>∃ r,S r∧(n8 g r s∨aeh g r s)) fun _ _ r q l=>⟨r,q,l⟩
 obtain⟨n,m,d,j,s,q,r,hr,⟨v,r0,l,u⟩ | ⟨b,v,A,r0,l,u⟩⟩:=z
 ·exact⟨r,hr,r0,s.heap,wK y x ⟨n,m,d,j,s,q,0,0,s.heap,by rw [v];rfl,l,rfl⟩,u⟩
 ·exact⟨r,hr,r0,s.heap.set b (.jF ag),wK y x ⟨n,m,d,j,s,q,0,0,_,by rw [v];simp only [dJ,A],l,rfl⟩,u⟩
theorem dk{C:V→aj→Prop}{ps:List P}{b:List ie}{body:av}(y:tab f=aa ⟨ps,b,body⟩)(x:args.length=ps.length)
  (h:∀ Q:Option av→St→Prop,(∀ j s r,s.defs=[]→results s.az s.heap b=aa r→C r s.heap→Q j s)→WP tab f ab [.code body] ⟨cu ps args .e,[],H⟩ Q):∃ r H',Ev tab (.fn f) args H r H'∧C r H':=by
 have u:=h (fun _ s=>s.defs=[]∧∃ r,results s.az s.heap b=aa r∧C r s.heap) fun _ _ r g l q=>⟨g,r,l,q⟩
 obtain⟨n,m,d,j,s,g,v,r,l,q⟩:=u;exact⟨r,s.heap,wK y x ⟨n,m,d,j,s,g,0,0,s.heap,by rw [v];rfl,l,rfl⟩,q⟩
end
end
section
open Go
theorem rO{c:cC}:∀(a b:List aP) (s:St),fe c (a++b) s=(fe c a s).bind (fe c b)
 | [],b,s=>rfl
 | o::a,b,s=>by
  simp only [List.cons_append,fe];cases fj c s o with
  | none=>rfl| some s'=>exact rO a b s'
theorem uR{c:cC}:∀(os:List aP) (s:St) {s':St},fe c os s=aa s'→∃ b,dv c os s=aa b∧b.getLast?=aa s'∧∀ i,i≤os.length→fe c (os.take i) s=b[i]?
 | [],s,s',h=>by
  simp only [fe,sh]at h;subst h;refine⟨[s],rfl,rfl,fun i hi=>?_⟩;have:i=0:=by simpa using hi
  subst this;rfl
 | o::os,s,s',h=>by
  simp only [fe]at h;cases d:fj c s o with
  | none=>simp [d]at h
  | some m=>
   simp only [d]at h;obtain⟨b,g,j,l⟩:=uR os m h;refine⟨s::b,by simp only [dv,d,g],by rw [List.getLast?_cons,j];rfl,fun i hi=>?_⟩;cases i with
   | zero=>rfl
   | succ i=>
    simp only [List.take_succ_cons,fe,d,List.getElem?_cons_succ];exact l i (by simpa using hi)
def np(o:aP)(b l:St):Prop:=wanted b.az o.g=aa ag∨∃ v g d j,bs b.az b.heap o.op=aa (v,g)∧bs b.az l.heap o.op=aa (d,j)∧v.beq d=ae
section
variable{tab:Nat→Option aD}{fn:Nat}{ro:Option Nat}{k:List cd}{s:St}{Q:Option av→St→Prop}
def adR(tab:Nat→Option aD)(ops:List aP)(s:St)(c:Nat × Nat):Prop:=c.2≤ops.length∧∃ o,ops[c.1]?=aa o ∧
 ((c.1≤c.2∧vd tab (ops.take c.1) s fun b=>vd tab ((ops.drop c.1).take (c.2-c.1)) b fun d=>np o b d) ∨
 (c.2≤c.1∧vd tab (ops.take c.2) s fun d=>vd tab ((ops.drop c.2).take (c.1-c.2)) d fun b=>np o b d))
theorem W7{ops:List aP}{c:Nat × Nat}(h:adR tab ops s c):∃ m d o g j,c.2≤ops.length∧ops[c.1]?=aa o∧fe (CF tab m d) (ops.take c.1) s=aa g∧fe (CF tab m d) (ops.take c.2) s=aa j∧np o g j:=by
 have y:∀(a b:Nat) (K:St→St→Prop),a≤b→vd tab (ops.take a) s (fun l=>vd tab ((ops.drop a).take (b-a)) l fun q=>K l q) →
   ∃ m d l q,fe (CF tab m d) (ops.take a) s=aa l∧fe (CF tab m d) (ops.take b) s=aa q∧K l q:=by
  intro a b K M h;obtain⟨m,d,l,u,v⟩:=iE _ _ h;obtain⟨E,z,q,x,L⟩:=iE _ _ v;have F:=dn (jn (tab:=tab) (aqS m E) (aqS d z)) _ _ u;have J:=dn (jn (tab:=tab) (aqN m E) (aqN d z)) _ _ x;refine⟨max m E,max d z,l,q,F,?_,L⟩;have:ops.take b=ops.take a++(ops.drop a).take (b-a):=by
   have N:b=a+(b-a):=by omega
   conv=>lhs;rw [N,List.take_add]
  rw [this,rO,F];exact J
 obtain⟨H,o,I,⟨A,h⟩ | ⟨B,h⟩⟩:=h
 ·obtain⟨m,d,g,j,u,v,x⟩:=y _ _ (fun g j=>np o g j) A h;exact⟨m,d,o,g,j,H,I,u,v,x⟩
 ·obtain⟨m,d,j,g,u,v,x⟩:=y _ _ (fun j g=>np o g j) B h;exact⟨m,d,o,g,j,H,I,v,u,x⟩
theorem kG{ops:List aP}{b:List (Nat × Nat)}(hr:ro=ab∨ops.all (·.op.dP)=ae)(h:vd tab ops s fun s'=>WP tab fn ro k s' Q)(hk:∀ c ∈ b,adR tab ops s c) :
  WP tab fn ro (.code (.region ops b)::k) s Q:=by
 obtain⟨m,d,s',h1,n,m',d',j,s2,h2,h3⟩:=iE ops s h;have g:∃ M D,∀ c ∈ b,∃ o u y,c.2≤ops.length∧ops[c.1]?=aa o∧fe (CF tab M D) (ops.take c.1) s=aa u∧fe (CF tab M D) (ops.take c.2) s=aa y∧np o u y:=by
  clear h1 h2 h;induction b with
  | nil=>exact⟨0,0,fun c F=>by cases F⟩
  | cons c cs U=>
   obtain⟨M,D,U⟩:=U fun c F=>hk c (aqQ _ F);obtain⟨W,H,o,u,y,a1,z,A,B,E⟩:=W7 (hk c aqK);refine⟨max M W,max D H,fun c' q=>?_⟩;rcases arw.1 q with rfl | q
   ·have l:=jn (tab:=tab) (aqN M W) (aqN D H);exact⟨o,u,y,a1,z,dn l _ _ A,dn l _ _ B,E⟩
   ·obtain⟨o,u,y,a1,z,A,B,E⟩:=U c' q;have l:=jn (tab:=tab) (aqS M W) (aqS D H);exact⟨o,u,y,a1,z,dn l _ _ A,dn l _ _ B,E⟩
 obtain⟨M,D,g⟩:=g;obtain⟨Y,L,N,O⟩:∃ x,m≤x∧m'≤x∧M≤x:=⟨max (max m m') M,by omega,by omega,by omega⟩
 obtain⟨X,I,J,K⟩:∃ x,d≤x∧d'≤x∧D≤x:=⟨max (max d d') D,by omega,by omega,by omega⟩
 refine⟨n+1,Y,X,j,s2,?_,h3⟩;have e1:=dn (jn (tab:=tab) L I) ops _ h1;have e2:=uA N J (IT n) h2;have S:(ro.isSome&&!ops.all (·.op.dP))=ag:=by
  rcases hr with rfl | hr
  ·rfl
  ·rw [hr];simp
 obtain⟨ss,f1,f2,f3⟩:=uR ops s e1;have hx:fE (CF tab Y X) ops b s=aa s':=by
  cases b with
  | nil=>simpa only [fE]using e1
  | cons x xs=>
   simp only [fE,f1];rw [bh,f2];rw [List.all_eq_true];intro c F;obtain⟨o,u,y,a1,z,A,B,E⟩:=g c F;have l:=jn (tab:=tab) O K;have hi:c.1≤ops.length:=by
    have:=(By.1 z).1;omega
   have Z:=dn l _ _ A;have b4:=dn l _ _ B;rw [f3 _ hi]at Z;rw [f3 _ a1]at b4;simp only [sameAt,z,Z,b4];rcases E with hw | ⟨v,H1,v',H2,g1,g2,g3⟩
   ·rw [hw]
   ·split
    ·rfl
    ·simp only [g1,g2,g3]
 simp only [run,S,hx,e2];simp
end
end
section
open Go
theorem wW(l:List Int):(ints l).flatten=l.map fi:=by
 induction l with
 | nil=>rfl| cons m l b=>simp only [ints,ao1,aqV]at b ⊢;rw [b];rfl
theorem sk{n:Nat}:∀(l:List C) (H:aj),(∀ x ∈ l,∃ y,x=.f y)→l.foldl (fun H x=>iX n x H) H=H
 | [],_,_=>rfl
 | x::l,H,h=>by
  obtain⟨y,rfl⟩:=h x aqK;simp only [arx,Fs];exact sk l H fun x b=>h x (aqQ _ b)
end
section
open Go
def RB(H:aj)(b sz ep:Nat)(rows:List (List FC)):Prop:=H[b]?=aa (.bG sz (rows.flatten.map .f) 0 ep .loc)
def Fm(b:Nat)(H H':aj):Prop:=H.length≤H'.length∧∀ d:Nat,d≠b→d<H.length→H'[d]?=H[d]?
theorem Fm.refl{b:Nat}(H:aj):Fm b H H:=⟨IT _,fun _ _ _=>rfl⟩
theorem Fm.trans{b:Nat}{H H' d:aj}(h:Fm b H H')(j:Fm b H' d):Fm b H d:=
 ⟨aqL h.1 j.1,fun g e l=>(j.2 g e (arh l h.1)).trans (h.2 g e l)⟩
theorem Fm.push{b:Nat}(H J:aj):Fm b H (H++J):=⟨by simp,fun d _ l=>AI l⟩
theorem Fm.set{b:Nat}(H:aj)(x:cS):Fm b H (H.set b x):=⟨by simp,fun d e _=>AT (Ne.symm e)⟩
theorem Fm.get{b:Nat}{H H':aj}(h:Fm b H H'){d:Nat}{x:cS}(g:H[d]?=aa x)(e:d≠b):H'[d]?=aa x:=by rw [h.2 d e (aw g)];exact g
theorem Ca{sz:Nat}{row:List FC}(hr:row.length=sz):∀ {rows:List (List FC)} {j:Nat},bL sz rows→j<rows.length →
  rows.flatten.take (j*sz)++row++rows.flatten.drop (j*sz+sz)=(rows.set j row).flatten
 | [],_,_,d=>by simp at d
 | r::rows,0,b,_=>by
  have:=b r aqK;subst this;simp
 | r::rows,j+1,b,d=>by
  have g:=b r aqK;have s:=Ca hr (rows:=rows) (j:=j) (fun x q=>b x (aqQ _ q)) (by simpa using d);simp only [aqV,ar4];rw [←s];have l:(j+1)*sz=r.length+j*sz:=by rw [g,arc];omega
  have m:(j+1)*sz+sz=r.length+(j*sz+sz):=by omega
  rw [m,l,List.take_append,List.drop_append];simp [aqI,aro]
section
variable{H:aj}{b sz ep j:Nat}{rows:List (List FC)}{row:List FC}
theorem RB.lt(h:RB H b sz ep rows):b<H.length:=aw h
theorem RB.push(h:RB H b sz ep rows)(J:aj):RB (H++J) b sz ep rows:=by
 unfold RB at *;rw [AI (aw h)];exact h
theorem RB.len(h:RB H b sz ep rows){o l c:Nat}:bE H (.sl b o l c ep sz)=aa l:=by
 unfold RB at h;simp [bE,h]
theorem RB.idx(h:RB H b sz ep rows){n c:Nat}{k:IntKind}{i:Int}(d:0≤i)(hi:i<n){o:Nat}:aL H sz ab (.c (.sl b o n c ep sz)) (.c (.f (.int k i)))=aa (.c (.ptr b (o+i.toNat*sz) ep)):=by
 unfold RB at h;simp only [aL,dy,d,hi,if_true,h,and_self]
theorem RB.ldr(h:RB H b sz ep rows)(g:bL sz rows)(l:rows[j]?=aa row):aX H (aa sz) (.c (.ptr b (j*sz) ep))=aa (.a (row.map .f)):=by
 unfold RB at h;have d:row.length=sz:=g row (api l);have:=tC (k:=0) g l (by omega);simp only [au,h,if_true];rw [←List.map_drop];rw [Nat.add_zero]at this;rw [this];have m:(row.map C.f++((rows.drop (j+1)).flatten.map C.f)).take sz=row.map C.f:=by
  rw [ard (by simp [d]),aqI (by simp [d])]
 simp [d]
theorem RB.str(h:RB H b sz ep rows)(l:bL sz rows)(m:j<rows.length)(hr:row.length=sz) :
  ∃ H',df H (.ptr b (j*sz) ep) (row.map .f)=aa H'∧RB H' b sz ep (rows.set j row)∧Fm b H H'∧H'.length=H.length:=by
 have q:=eE l;have g:(j+1)*sz≤rows.length*sz:=arl _ m;have d:j*sz+sz≤rows.flatten.length:=by rw [q];rw [arc]at g;omega
 unfold RB at h ⊢;refine⟨H.set b (.bG sz ((rows.set j row).flatten.map .f) 0 ep .loc),?_,?_,Fm.set _ _,by simp⟩
 ·simp only [bu,h,Nat.zero_le,true_and,aq3,hr,d,if_true];rw [←Ca hr l m];simp [over,hr]
 ·exact IS (aw h)
end
theorem aaU{k n:Nat}(h:k≤n):CB (vi k) n=aa k:=by
 have:(0:Int)≤k∧(k:Int)≤n:=by omega
 simp [CB,dy,this]
theorem jz{t:T}{H:aj}{x:ie}{r:V}(h:bJ t H x=aa r):Km.results t H [x]=aa r:=by
 simp [Km.results,bj,h]
@[simp] theorem al1 {t:T} {H:aj} (sz:Nat) (zs:List FC) (x:Arg):bs t H (.clear sz zs x)=(tq H sz zs (x.ev t)).map (.t [],·):=rfl
@[simp] theorem alN {a b:Int}:Ku ag [vi a,vi b]=aa (vi (max a b)):=by
 have:(if a<b then b else a)=max a b:=by split<;>omega
 simp only [Ku,xf,Fp];simp [this,V.int]
end
section
open Go
def gX(l:List (List FC))(i j:Nat):List (List FC):=(l.set i (l.getD j [])).set j (l.getD i [])
def ea(a b:Nat)(l d:List (List FC)):Prop:=d.Perm l∧d.take a=l.take a∧d.drop b=l.drop b
theorem ea.refl(a b:Nat)(l:List (List FC)):ea a b l l:=⟨.refl _,rfl,rfl⟩
theorem ea.trans{a b:Nat}{l j d:List (List FC)}(h:ea a b l j)(g:ea a b j d):ea a b l d:=⟨g.1.trans h.1,g.2.1.trans h.2.1,g.2.2.trans h.2.2⟩
theorem ea.len{a b:Nat}{l d:List (List FC)}(h:ea a b l d):d.length=l.length:=h.1.length_eq
theorem ea.lt{a b:Nat}{l d:List (List FC)}(h:ea a b l d){i:Nat}(hi:i<a):d[i]?=l[i]?:=by
 have:=congrArg (·[i]?) h.2.1;simpa [aqT,hi]using this
theorem ea.ge{a b:Nat}{l d:List (List FC)}(h:ea a b l d){i:Nat}(hi:b≤i):d[i]?=l[i]?:=by
 have:=congrArg (·[i-b]?) h.2.2;simpa [aqF,show b+(i-b)=i by omega]using this
theorem ea.mono{a b a' d:Nat}{l g:List (List FC)}(h:ea a b l g)(j:a'≤a)(m:b≤d):ea a' d l g:=by
 refine⟨h.1,?_,?_⟩
 ·have:=congrArg (·.take a') h.2.1;simpa [List.take_take,Nat.min_eq_left j]using this
 ·have:=congrArg (·.drop (d-b)) h.2.2;simpa [arB,show b+(d-b)=d by omega]using this
theorem zv(l:List (List FC))(i j:Nat):(gX l i j).length=l.length:=by simp [gX]
theorem gi{l:List (List FC)}{i j:Nat}(hi:i<l.length)(g:j<l.length)(k:Nat):(gX l i j)[k]?=if k=j then l[i]? else if k=i then l[j]? else l[k]?:=by
 have m:l.getD i []=l[i]:=by simp [List.getD,At hi]
 have q:l.getD j []=l[j]:=by simp [List.getD,At g]
 simp only [gX,m,q,List.getElem?_set];by_cases b:j=k
 ·subst b;simp [At hi,g]
 ·by_cases d:i=k
  ·subst d;simp [b,Ne.symm b,At g,hi]
  ·simp [b,d,Ne.symm b,Ne.symm d]
theorem ew{a b:Nat}{l:List (List FC)}{i j:Nat}(hi:a≤i)(s:i<b)(x:a≤j)(u:j<b)(v:b≤l.length):ea a b l (gX l i j):=by
 have d:i<l.length:=by omega
 have g:j<l.length:=by omega
 refine⟨?_,?_,?_⟩
 ·have m:l.getD i []=l[i]:=by simp [List.getD,At d]
  have q:l.getD j []=l[j]:=by simp [List.getD,At g]
  simp only [gX,m,q];exact List.set_set_perm d g
 ·apply List.ext_getElem?;intro k;simp only [aqT];split
  ·rw [gi d g,aY (by omega),aY (by omega)]
  ·rfl
 ·apply List.ext_getElem?;intro k;simp only [aqF];rw [gi d g,aY (by omega),aY (by omega)]
section
variable{H:aj}{b sz ep:Nat}{rows:List (List FC)}
theorem RB.swap(h:RB H b sz ep rows)(l:bL sz rows){i j:Nat}(hi:i<rows.length)(q:j<rows.length) :
  ∃ d g,df H (.ptr b (i*sz) ep) (rows[j].map .f)=aa d∧RB d b sz ep (rows.set i rows[j])∧df d (.ptr b (j*sz) ep) (rows[i].map .f)=aa g∧RB g b sz ep (gX rows i j)∧Fm b H g:=by
 have z:rows[i].length=sz:=l _ (OF hi);have s:rows[j].length=sz:=l _ (OF q);obtain⟨d,A,r1,x,-⟩:=h.str l hi s;have m:bL sz (rows.set i rows[j]):=fun r hr=>by
  rcases List.mem_or_eq_of_mem_set hr with h | rfl
  ·exact l r h
  ·exact s
 obtain⟨g,B,r2,y,-⟩:=r1.str m (j:=j) (by simpa using q) z;refine⟨d,g,A,r1,B,?_,x.trans y⟩;have u:rows.getD i []=rows[i]:=by simp [List.getD,At hi]
 have v:rows.getD j []=rows[j]:=by simp [List.getD,At q]
 simp only [gX,u,v];exact r2
theorem ea.rW{a b:Nat}{l d:List (List FC)}(h:ea a b l d)(g:bL sz l):bL sz d:=fun r hr=>g r (h.1.mem_iff.1 hr)
end
structure uU(W:List FC→Prop)(c:List FC→List FC→Int):Prop where
 Dk:∀ {x y},W x→W y→c x y<0→¬ c y x<0
 trans:∀ {x y z},W x→W y→W z→¬ c y x<0→¬ c z y<0→¬ c z x<0
def Up(c:List FC→List FC→Int)(a b:Nat)(l:List (List FC)):Prop:=∀ i j x y,a≤i→i<j→j<b→l[i]?=aa x→l[j]?=aa y→¬ c y x<0
end
section
open Go
theorem wz{l:List (List FC)}{a m b:Nat}(j:a≤m)(q:m≤b)(s:b≤l.length):∃ X U V Y,l=X++(U++(V++Y))∧X.length=a∧U.length=m-a∧V.length=b-m:=by
 refine⟨l.take a,(l.drop a).take (m-a),(l.drop m).take (b-m),l.drop b,?_,by simp;omega,by simp;omega,by simp;omega⟩;have g:(l.drop m).take (b-m)++l.drop b=l.drop m:=by
  have:=aq0 (b-m) (l.drop m);rwa [arB,show m+(b-m)=b by omega]at this
 have d:(l.drop a).take (m-a)++l.drop m=l.drop a:=by
  have:=aq0 (m-a) (l.drop a);rwa [arB,show a+(m-a)=m by omega]at this
 rw [g,d,aq0]
theorem ea.mem{a b:Nat}{l m:List (List FC)}(h:ea a b l m)(d:a≤b)(K:b≤l.length){i:Nat}{x:List FC}(W:a≤i)(Z:i<b)(z:m[i]?=aa x):∃ j,a≤j∧j<b∧l[j]?=aa x:=by
 obtain⟨X,U,V,Y,e,S,lU,Q⟩:=wz (IT a) d K;have hl:=h.len;obtain⟨X',E,F,v,H,u,O,s⟩:=wz (l:=m) (IT a) d (by omega);obtain rfl:U=[]:=arj.1 (by omega);obtain rfl:E=[]:=arj.1 (by omega);obtain⟨g,N,L⟩:=h;subst e;subst H;have I:X'=X:=by
  simpa [ard (show a≤X.length by omega),ard (show a≤X'.length by omega),aqI (show X.length≤a by omega),aqI (show X'.length≤a by omega)]using N
 have J:v=Y:=by
  have q:∀ {A B C:List (List FC)},A.length=a→B.length=b-a→(A++([]++(B++C))).drop b=C:=by
   intro A B C hA hB;rw [ar3,←aro,List.drop_append_of_le_length (by simp;omega),List.drop_of_length_le (by simp;omega),ar3]
  rwa [q u s,q S Q]at L
 subst I;subst J;have g:F.Perm V:=by
  have:=(List.perm_append_left_iff X').1 g;simp only [ar3]at this;exact(List.perm_append_right_iff v).1 this
 rw [ar3,aqJ (by omega),AI (by omega)]at z;obtain⟨j,y⟩:=arf (g.mem_iff.1 (api z));have M:=(By.1 y).1;refine⟨a+j,by omega,by omega,?_⟩;rw [ar3,aqJ (by omega),AI (by omega)];rw [←y];congr 1;omega
section
variable{W:List FC→Prop}{c:List FC→List FC→Int}
theorem Up.mono{a b a' d:Nat}{l:List (List FC)}(h:Up c a b l)(u:a≤a')(v:d≤b):Up c a' d l:=
 fun i j x y q g s m hy=>h i j x y (by omega) g (by omega) m hy
theorem Up.one{a b:Nat}{l:List (List FC)}(h:b≤a+1):Up c a b l:=fun i j x y d g m=>by omega
theorem Up.of{a b:Nat}{l q:List (List FC)}(h:Up c a b l)(m:∀ k,a≤k→k<b→q[k]?=l[k]?):Up c a b q:=fun i j x y d s g u hy=>
 h i j x y d s g (by rw [←m i d (by omega)];exact u) (by rw [←m j (by omega) g];exact hy)
def jC(c:List FC→List FC→Int)(l:List (List FC))(i j:Nat):Prop:=∀ x y,l[i]?=aa x→l[j]?=aa y→¬ c y x<0
theorem jC.trans{l:List (List FC)}{i j k:Nat}(hc:uU W c)(b:∀ r ∈ l,W r)(h:jC c l i j)(q:jC c l j k)(d:j<l.length):jC c l i k:=fun x y g hy=>by
 have m:=At d;exact hc.trans (b _ (api g)) (b _ (OF d)) (b _ (api hy)) (h _ _ g m) (q _ _ m hy)
end
end
section
open Go
def bf:C→Option Nat
 | .sl b _ _ _ _ _=>aa b| _=>ab
def LR(H:aj)(c:C)(sz:Nat)(rows:List (List FC)):Prop:=(rows=[]∧(c=.f .aE∨c=.f .es))∨(rows≠[]∧∃ b ep,c=.sl b 0 rows.length 0 ep sz∧RB H b sz ep rows)
def Kb(H H':aj)(c:C):Prop:=H.length≤H'.length∧∀(i:Nat) y,H[i]?=aa y→bf c≠aa i→H'[i]?=aa y
section
variable{H H':aj}{c:C}{sz:Nat}{rows:List (List FC)}
theorem LR.nil(H:aj)(sz:Nat):LR H (.f .aE) sz []:=.inl ⟨rfl,.inl rfl⟩
theorem LR.bY(h:LR H c sz rows)(g:∀ i y,H[i]?=aa y→bf c=aa i→H'[i]?=aa y):LR H' c sz rows:=by
 rcases h with h | ⟨h,b,ep,rfl,d⟩
 ·exact .inl h
 ·exact .inr ⟨h,b,ep,rfl,g b _ d rfl⟩
theorem LR.push(h:LR H c sz rows)(J:aj):LR (H++J) c sz rows:=h.bY fun i y hy _=>by rw [AI (aw hy)];exact hy
theorem LR.lt(h:LR H c sz rows){i:Nat}(hi:bf c=aa i):i<H.length:=by
 rcases h with⟨_,rfl | rfl⟩ | ⟨h,b,ep,rfl,d⟩
 ·cases hi
 ·cases hi
 ·cases hi;exact d.lt
theorem LR.cY(h:LR H c sz rows){i:Nat}{cs:List C}{j:Nat}(g:H[i]?=aa (.box cs j)):bf c≠aa i:=by
 rcases h with⟨_,rfl | rfl⟩ | ⟨h,b,ep,rfl,d⟩
 ·simp [bf]
 ·simp [bf]
 ·intro e;cases e;unfold RB at d;rw [d]at g;cases g
theorem LR.set(h:LR H c sz rows){i:Nat}(hi:bf c≠aa i)(x:cS):LR (H.set i x) c sz rows:=h.bY fun j y hy b=>by
 have:i≠j:=by rintro rfl;exact hi b
 rw [AT this];exact hy
theorem LR.len(h:LR H c sz rows):bE H c=aa rows.length:=by
 rcases h with⟨rfl,rfl | rfl⟩ | ⟨h,b,ep,rfl,d⟩
 ·rfl
 ·rfl
 ·exact d.len
theorem LR.ex(h:LR H c sz rows)(j:bL sz rows)(n:Nat):∃ g,da (n+1) H c=aa (sl g rows):=by
 rcases h with⟨rfl,rfl | rfl⟩ | ⟨h,b,ep,rfl,d⟩
 ·exact⟨.nil,rfl⟩
 ·exact⟨.es,rfl⟩
 ·refine⟨.fs,?_⟩;have m:rows.length*sz=rows.flatten.length:=(eE j).symm;unfold RB at d;simp only [lf,d];rw [bh ⟨trivial,trivial,by rw [aq3,aq8,m];exact IT _⟩,List.drop_zero,aqI (by rw [aq3];omega),qz];cases rows with
  | nil=>exact absurd rfl h| cons x l=>simp [sl]
theorem LR.app(h:LR H c sz rows)(u:bL sz rows)(tI:sz≠0){row:List FC}(hr:row.length=sz){bytes:Nat}(d:bN (rows.length+1) bytes=ae){b1 fl1:Nat}(q:H[b1]?=aa (.box (row.map .f) fl1)) :
  ∃ l H',bX H sz bytes (.c c) (.c (.sl b1 0 1 1 0 sz))=aa (.c l,H')∧LR H' l sz (rows++[row])∧Kb H H' c∧(bf l=bf c∨bf l=aa H.length):=by
 have g:cT H sz (.c (.sl b1 0 1 1 0 sz))=aa (1,row.map .f):=jQ q (by simp [hr]);rcases h with⟨rfl,s⟩ | ⟨x,b,ep,rfl,m⟩
 ·have d:bN 1 bytes=ae:=by simpa using d
  refine⟨.sl H.length 0 1 0 0 sz,H++[.bG sz (row.map .f) 0 0 .loc],?_,.inr ⟨by simp,H.length,0,rfl,?_⟩,⟨by simp,fun i y hy _=>by rw [AI (aw hy)];exact hy⟩,.inr rfl⟩
  ·rcases s with rfl | rfl<;>simp [bX,g,d,tI]
  ·simp [RB]
 ·have j:rows.length*sz=rows.flatten.length:=(eE u).symm;unfold RB at m;refine⟨.sl b 0 (rows.length+1) 0 (ep+1) sz,H.set b (.bG sz (rows.flatten.map .f++row.map .f) 0 (ep+1) .loc),?_,.inr ⟨by simp,b,ep+1,by simp,?_⟩,⟨by simp,fun i y hy v=>?_⟩,.inl rfl⟩
  ·simp only [bX,g,tI,if_false,m,and_self,if_true];simp only [Nat.add_one_ne_zero,if_false];rw [bh ⟨trivial,by rw [aq3];exact j,by simp⟩,d];simp
  ·unfold RB;rw [IS (aw m)];simp
  ·have:b≠i:=by rintro rfl;exact v rfl
   rw [AT this];exact hy
theorem Kb.refl(H:aj)(c:C):Kb H H c:=⟨IT _,fun _ _ h _=>h⟩
theorem Kb.ajA{b o l cp ep s:Nat}(h:Fm b H H'):Kb H H' (.sl b o l cp ep s):=⟨h.1,fun i y hy d=>by
 have:i≠b:=by rintro rfl;exact d rfl
 exact h.get hy this⟩
end
end
section
open Go
theorem tF{g:Type}{sz:Nat}:∀ {rows:List (List g)} {j:Nat} {row:List g},(∀ r ∈ rows,r.length=sz)→rows[j]?=aa row→(rows.flatten.drop (j*sz)).take sz=row
 | [],j,row,_,b=>by simp at b
 | r::rows,0,row,d,b=>by
  simp at b;subst b;have:=d r aqK;subst this;simp
 | r::rows,j+1,row,d,b=>by
  have hr:=d r aqK;have m:=tF (rows:=rows) (j:=j) (row:=row) (fun x l=>d x (aqQ _ l)) (by simpa using b);rw [aqV,show(j+1)*sz=r.length+j*sz by rw [hr,arc];omega,←arB,List.drop_left];exact m
theorem uf{b:Type}:∀ {cs:List b} {k:Nat} {x:b},k<cs.length→over cs k [x]=cs.set k x
 | [],k,x,h=>by simp at h
 | c::cs,0,x,_=>by simp [over]
 | c::cs,k+1,x,h=>by
  have:=uf (cs:=cs) (k:=k) (x:=x) (by simpa using h);simp only [over,aqW,List.length_nil]at this ⊢;rw [List.take_succ_cons,ar4,←this];simp
section
variable{H:aj}{b sz ep j k n:Nat}{rows:List (List FC)}{row:List FC}
theorem RB.ldc{x:FC}(h:RB H b sz ep rows)(g:bL sz rows)(l:rows[j]?=aa row)(m:row[k]?=aa x):aX H ab (.c (.ptr b (j*sz+k) ep))=aa (.c (.f x)):=by
 unfold RB at h;have q:row.length=sz:=g row (api l);have s:=(By.1 m).1;have:=tG g l (by omega:k<sz);simp only [au,h,if_true];rw [List.map_drop.symm];have e:(rows.flatten.drop (j*sz+k))[0]?=aa x:=by rw [aqF,Nat.add_zero,this,m]
 cases d:rows.flatten.drop (j*sz+k)with
 | nil=>rw [d]at e;simp at e| cons y ys=>rw [d]at e;simp at e;simp [aI,e]
end
def ae9(sz:Nat)(zs:List FC)(bytes:Nat):aD:=⟨[P.nat 0],[.tmp (P.nat 2)],.seq (.region [⟨D 2,.bB (.k (.c (.f (.aE)))),ab⟩] []) (.seq (.seq (.region [⟨D 3,.bB (R 0),ab⟩,⟨D 4,.eq ag .sl (R 3) (.k (.c (.f (.aE)))),ab⟩] [])
 (.cond (R 4) (.seq (.region [⟨D 2,.bB (.k (.c (.f (.aE)))),ab⟩] []) .ret) .skip)) (.seq (.region [⟨D 5,.aU sz zs 0 [],ab⟩,⟨D 6,.bB (R 0),ab⟩,⟨D 7,.append sz bytes (R 5) (R 6),ab⟩,⟨D 2,.bB (R 7),ab⟩] []) .ret))⟩
section
variable{tab:Nat→Option aD}{F sz bytes:Nat}{zs:List FC}{H:aj}{g:Tg}{rows:List (List FC)}
theorem wJ{cs:List FC}{n:Nat}:wI H .sl (.c (.f (.fs cs n))) (.c (.f .aE))=aa ag:=rfl
theorem aa8:wI H .sl (.c (.f .aE)) (.c (.f .aE))=aa ae:=rfl
theorem aiV:wI H .sl (.c (.f .es)) (.c (.f .aE))=aa ag:=rfl
theorem A9(u:tab F=aa (ae9 sz zs bytes))(l:sz≠0)(v:bL sz rows)(j:bN rows.length bytes=ae) :
  ∃ r H',Ev tab (.fn F) [.c (.f (sl g rows))] H r H'∧∃ c J,r=.c c∧H'=H++J∧LR (H++J) c sz rows∧∀ i,bf c=aa i→H.length≤i:=by
 refine dk (C:=fun r H'=>∃ c J,r=.c c∧H'=H++J∧LR (H++J) c sz rows∧∀ i,bf c=aa i→H.length≤i) u rfl fun Q m=>?_;apply ai;simp;apply an;apply ai;cases rows with
 | nil=>
  cases g with
  | nil=>
   simp [sl,Tg.fc,aa8];refine al (by simp) ?_;apply ai;simp;exact aH (m _ _ (.c (.f .aE)) rfl (by simp [Km.results,bj]) ⟨_,[],rfl,by simp,.inl ⟨rfl,.inl rfl⟩,by simp [bf]⟩)
  | es=>
   simp [sl,Tg.fc,aiV];refine a5 (by simp) ?_;apply ai;simp [bX,cT,bE,cF,l];exact aH (m _ _ (.c (.f .es)) rfl (by simp [Km.results,bj]) ⟨_,[],rfl,by simp,.inl ⟨rfl,.inr rfl⟩,by simp [bf]⟩)
  | fs=>
   simp [sl,Tg.fc,wJ];refine a5 (by simp) ?_;apply ai;simp [bX,cT,bE,cF,l];exact aH (m _ _ (.c (.f .es)) rfl (by simp [Km.results,bj]) ⟨_,[],rfl,by simp,.inl ⟨rfl,.inr rfl⟩,by simp [bf]⟩)
 | cons x r=>
  have d:cT H sz (.c (.f (.fs (x::r).flatten (x::r).length)))=aa ((x::r).length,(x::r).flatten.map .f):=by
   have q:=U9 (H:=H) (g:=.fs) v;have s:=tQ (H:=H) .fs (x::r);simp only [sl,ar5,anc,if_false]at q s;simp only [cT,q,s]
  have b:bN (r.length+1) bytes=ae:=by simpa using j
  simp only [sl,ar5,anc,if_false];simp [wJ];refine a5 (by simp) ?_;apply ai;simp only [aqV,aqW]at d;simp [bX,d,l,b];refine aH (m _ _ (.c (.sl H.length 0 (r.length+1) 0 0 sz)) rfl (by simp [Km.results,bj]) ⟨_,[.bG sz ((x::r).flatten.map .f) 0 0 .loc],rfl,by simp,.inr ⟨by simp,H.length,0,rfl,by simp [RB]⟩,by simp [bf]⟩)
end
end
section
set_option linter.unusedVariables false
open Go
abbrev yn(d:Nat)(op:cG):aP:=⟨D d,op,ab⟩
abbrev gM(d k g:Nat):aP:=⟨D d,.bB (R k),G g ae⟩
abbrev xI(d z k g:Nat):aP:=⟨D d,.load (aa z) (R k),G g ae⟩
abbrev ym(d k:Nat):aP:=⟨D d,.bB (R k),ab⟩
abbrev yi(n:Int):Arg:=.k (.c (.f (.int .i64 n)))
abbrev yt:Arg:=.k (.c (.f (.bool ae)))
abbrev yf:Arg:=.k (.c (.f (.bool ag)))
abbrev ys(z a b:Nat):aP:=⟨ab,.store z (R a) (R b),ab⟩
abbrev yb(d:Nat)(o:BinOp)(a b:Nat):aP:=⟨D d,.bin o (R a) (R b),ab⟩
abbrev ya(d z a b:Nat):aP:=⟨D d,.aV z ab (R a) (R b),ab⟩
abbrev yl(d z a:Nat):aP:=⟨D d,.load (aa z) (R a),ab⟩
abbrev yr(l:List aP):av:=.region l []
structure jg where
 BS:Nat
 ins:Nat
 heap:Nat
 vF:Nat
 brk:Nat
 piv:Nat
 rev:Nat
 part:Nat
 Wz:Nat
 pins:Nat
 vl:Nat
 XG:Nat
 ord:Nat
 npt:Nat
 V1:Nat
 len:Nat
 aoD:Nat
 aoC:Nat
 rot:Nat
 swr:Nat
section
variable(σ:jg)(sz:Nat)
def af7:av:=.seq (yr [ym 26 0,ym 27 1,ym 28 2,ym 29 4,yn 30 (.call σ.ins [R 26,R 27,R 28,R 29] ae)]) .ret
def af9:av:=.seq (yr [ym 33 0,ym 34 1,ym 35 2,ym 36 4,yn 37 (.call σ.heap [R 33,R 34,R 35,R 36] ae)]) .ret
def aga:av:=yr [ym 45 3,yn 46 (.bin .sub (R 45) (yi 1)),ym 3 46]
def af_:av:=.seq (yr [ym 40 0,ym 41 1,ym 42 2,ym 43 4,yn 44 (.call σ.brk [R 40,R 41,R 42,R 43] ae)]) (aga)
def age:av:=yr [yn 14 (.bB (yi 1))]
def agd:av:=.seq (yr [ym 62 2,yn 63 (.bin .sub (R 62) (yi 1)),ym 64 13,ym 65 1,yb 66 .sub 64 65,yb 67 .sub 63 66,ym 13 67]) (age)
def agc:av:=.seq (yr [ym 57 0,ym 58 1,ym 59 2,ym 60 4,yn 61 (.call σ.rev [R 57,R 58,R 59,R 60] ae)]) (agd)
def agf:av:=.seq (yr [ym 76 0,ym 77 1,ym 78 2,ym 79 4,yn 80 (.call σ.pins [R 76,R 77,R 78,R 79] ae)]) (.cond (R 80) .ret .skip)
def agi:av:=.seq (yr [ym 104 15,ym 1 104]) (.exit 1)
def agh:av:=.seq (yr [ym 98 0,ym 99 1,ym 100 2,ym 101 13,ym 102 4,yn 103 (.call σ.Wz [R 98,R 99,R 100,R 101,R 102] ae),ym 15 103]) (agi)
def agp:av:=yr [ym 135 16,yn 136 (.bin .add (R 135) (yi 1)),ym 1 136]
def ago:av:=.seq (yr [ym 129 0,ym 130 1,ym 131 16,ym 132 3,ym 133 4,yn 134 (.call σ.BS [R 129,R 130,R 131,R 132,R 133] ae)]) (agp)
def agn:av:=.seq (yr [ym 126 18,ym 127 20,yb 128 .geq 126 127,ym 10 128]) (ago σ)
def ags:av:=yr [ym 147 16,ym 2 147]
def agr:av:=.seq (yr [ym 140 0,ym 141 16,yn 142 (.bin .add (R 141) (yi 1)),ym 143 2,ym 144 3,ym 145 4,yn 146 (.call σ.BS [R 140,R 142,R 143,R 144,R 145] ae)]) (ags)
def agq:av:=.seq (yr [ym 137 19,ym 138 20,yb 139 .geq 137 138,ym 10 139]) (agr σ)
def agm:av:=.seq (yr [ym 123 18,ym 124 19,yb 125 .lss 123 124]) (.cond (R 125) (agn σ) (agq σ))
def agl:av:=.seq (yr [ym 121 12,yn 122 (.bin .quo (R 121) (yi 8)),ym 20 122]) (agm σ)
def agk:av:=.seq (yr [ym 115 16,ym 116 1,yb 117 .sub 115 116,ym 118 2,ym 119 16,yb 120 .sub 118 119,ym 18 117,ym 19 120]) (agl σ)
def agj:av:=.seq (yr [ym 114 17,ym 11 114]) (agk σ)
def Ww:av:=.seq (yr [ym 106 0,ym 107 1,ym 108 2,ym 109 13,ym 110 4,yn 111 (.call σ.part [R 106,R 107,R 108,R 109,R 110] ae),ym 105 111,yn 112 (.extract (R 105) 0),yn 113 (.extract (R 105) 1),ym 16 112,ym 17 113]) (agj σ)
def Wv:av:=.seq (.seq (yr [ym 81 1,yn 82 (.bin .gtr (R 81) (yi 0)),ym 83 82,gM 84 4 83,gM 85 0 83,gM 86 1 83,⟨D 87,.bin .sub (R 86) (yi 1),G 83 ae⟩,⟨D 88,.aV sz ab (R 85) (R 87),G 83 ae⟩,xI 89 sz 88 83,gM 90 0 83,gM 91 13 83,⟨D 92,.aV sz ab (R 90) (R 91),G 83 ae⟩,xI 93 sz 92 83,⟨D 94,.bP (R 84) [R 89,R 93] ae,G 83 ae⟩,⟨D 95,.bin .lss (R 94) (yi 0),G 83 ae⟩,⟨D 96,.un .not (R 95),G 83 ae⟩,yn 97 (.pick (R 83) (R 96) yf)]) (.cond (R 97) (agh σ) .skip)) (Ww σ)
def Wu:av:=.seq (.seq (yr [ym 68 10,ym 69 68,gM 70 11 69,yn 71 (.pick (R 69) (R 70) yf),ym 72 71,gM 73 14 72,⟨D 74,.bin .eql (R 73) (yi 1),G 72 ae⟩,yn 75 (.pick (R 72) (R 74) yf)]) (.cond (R 75) (agf σ) .skip)) (Wv σ sz)
def agb:av:=.seq (.seq (yr [ym 55 14,yn 56 (.bin .eql (R 55) (yi 2))]) (.cond (R 56) (agc σ) .skip)) (Wu σ sz)
def Wt:av:=.seq (yr [ym 48 0,ym 49 1,ym 50 2,ym 51 4,yn 52 (.call σ.piv [R 48,R 49,R 50,R 51] ae),ym 47 52,yn 53 (.extract (R 47) 0),yn 54 (.extract (R 47) 1),ym 13 53,ym 14 54]) (agb σ sz)
def af':av:=.seq (.seq (yr [ym 38 10,yn 39 (.un .not (R 38))]) (.cond (R 39) (af_ σ) .skip)) (Wt σ sz)
def af8:av:=.seq (.seq (yr [ym 31 3,yn 32 (.bin .eql (R 31) (yi 0))]) (.cond (R 32) (af9 σ) .skip)) (af' σ sz)
def akA:av:=.seq (.seq (yr [ym 24 12,yn 25 (.bin .leq (R 24) (yi 12))]) (.cond (R 25) (af7 σ) .skip)) (af8 σ sz)
def akz:av:=.seq (yr [ym 21 2,ym 22 1,yb 23 .sub 21 22,ym 12 23]) (akA σ sz)
def xw:av:=.block 1 (akz σ sz)
def aky:av:=.seq (yr [yn 11 (.bB yt)]) (.block 0 (.loop (xw σ sz)))
def akx:av:=.seq (yr [yn 10 (.bB yt)]) (aky σ sz)
def Wx(σ:jg)(sz:Nat):aD:=⟨[P.nat 0,P.nat 1,P.nat 2,P.nat 3,P.nat 4],[],(akx σ sz)⟩
end
section
variable(σ:jg)(sz:Nat)
def afv:av:=yr [ym 37 0,ym 38 9,ym 39 0,ym 40 9,yn 41 (.bin .sub (R 40) (yi 1)),ym 42 0,ym 43 9,yn 44 (.bin .sub (R 43) (yi 1)),ya 45 sz 42 44,yl 46 sz 45,ym 47 0,ym 48 9,ya 49 sz 47 48,yl 50 sz 49,ya 51 sz 37 38,ys sz 51 46,ya 52 sz 39 41,ys sz 52 50]
def afw:av:=yr [ym 35 9,yn 36 (.bin .sub (R 35) (yi 1)),ym 9 36]
def afu:av:=.seq (.block 3 (afv sz)) (afw)
def afs:av:=.seq (.seq (yr [ym 18 9,ym 19 1,yb 20 .gtr 18 19,ym 21 20,gM 22 3 21,gM 23 0 21,gM 24 9 21,⟨D 25,.aV sz ab (R 23) (R 24),G 21 ae⟩,xI 26 sz 25 21,gM 27 0 21,gM 28 9 21,⟨D 29,.bin .sub (R 28) (yi 1),G 21 ae⟩,⟨D 30,.aV sz ab (R 27) (R 29),G 21 ae⟩,xI 31 sz 30 21,⟨D 32,.bP (R 22) [R 26,R 31] ae,G 21 ae⟩,⟨D 33,.bin .lss (R 32) (yi 0),G 21 ae⟩,yn 34 (.pick (R 21) (R 33) yf)]) (.cond (R 34) .skip (.exit 2))) (afu sz)
def afr:av:=.seq (yr [ym 17 8,ym 9 17]) (.block 2 (.loop (afs sz)))
def yE:av:=yr [ym 15 8,yn 16 (.bin .add (R 15) (yi 1)),ym 8 16]
def ai_:av:=.seq (.block 1 (afr sz)) (yE)
def Fh:av:=.seq (.seq (yr [ym 12 8,ym 13 2,yb 14 .lss 12 13]) (.cond (R 14) .skip (.exit 0))) (ai_ sz)
def ai':av:=.seq (yr [ym 10 1,yn 11 (.bin .add (R 10) (yi 1)),ym 8 11]) (.block 0 (.loop (Fh sz)))
def Bk(σ:jg)(sz:Nat):aD:=⟨[P.nat 0,P.nat 1,P.nat 2,P.nat 3],[],(ai' sz)⟩
end
section
variable(σ:jg)(sz:Nat)
def abg:av:=yr [ym 24 0,ym 25 11,ym 26 10,ym 27 8,ym 28 3,yn 29 (.call σ.vF [R 24,R 25,R 26,R 27,R 28] ae)]
def abh:av:=yr [ym 22 11,yn 23 (.bin .sub (R 22) (yi 1)),ym 11 23]
def abf:av:=.seq (.block 1 (abg σ)) (abh)
def abe:av:=.seq (.seq (yr [ym 20 11,yn 21 (.bin .geq (R 20) (yi 0))]) (.cond (R 21) .skip (.exit 0))) (abf σ)
def abl:av:=yr [ym 54 0,ym 55 9,ym 56 12,ym 57 8,ym 58 3,yn 59 (.call σ.vF [R 54,R 55,R 56,R 57,R 58] ae)]
def abk:av:=.seq (yr [ym 36 0,ym 37 8,ym 38 0,ym 39 8,ym 40 12,yb 41 .add 39 40,ym 42 0,ym 43 8,ym 44 12,yb 45 .add 43 44,ya 46 sz 42 45,yl 47 sz 46,ym 48 0,ym 49 8,ya 50 sz 48 49,yl 51 sz 50,ya 52 sz 36 37,ys sz 52 47,ya 53 sz 38 41,ys sz 53 51]) (abl σ)
def abm:av:=yr [ym 34 12,yn 35 (.bin .sub (R 34) (yi 1)),ym 12 35]
def abj:av:=.seq (.block 3 (abk σ sz)) (abm)
def abi:av:=.seq (.seq (yr [ym 32 12,yn 33 (.bin .geq (R 32) (yi 0))]) (.cond (R 33) .skip (.exit 2))) (abj σ sz)
def Fc:av:=.seq (yr [ym 30 10,yn 31 (.bin .sub (R 30) (yi 1)),ym 12 31]) (.block 2 (.loop (abi σ sz)))
def afk:av:=.seq (.seq (yr [ym 17 10,yn 18 (.bin .sub (R 17) (yi 1)),yn 19 (.bin .quo (R 18) (yi 2)),ym 11 19]) (.block 0 (.loop (abe σ)))) (Fc σ sz)
def afj:av:=.seq (yr [ym 14 2,ym 15 1,yb 16 .sub 14 15,ym 10 16]) (afk σ sz)
def afi:av:=.seq (yr [yn 9 (.bB (yi 0))]) (afj σ sz)
def afh:av:=.seq (yr [ym 13 1,ym 8 13]) (afi σ sz)
def DE(σ:jg)(sz:Nat):aD:=⟨[P.nat 0,P.nat 1,P.nat 2,P.nat 3],[],(afh σ sz)⟩
end
section
variable(σ:jg)(sz:Nat)
def acU:av:=yr [ym 41 11,yn 42 (.bin .add (R 41) (yi 1)),ym 11 42]
def acW:av:=yr [ym 81 11,ym 10 81]
def acV:av:=.seq (yr [ym 59 0,ym 60 3,ym 61 10,yb 62 .add 60 61,ym 63 0,ym 64 3,ym 65 11,yb 66 .add 64 65,ym 67 0,ym 68 3,ym 69 11,yb 70 .add 68 69,ya 71 sz 67 70,yl 72 sz 71,ym 73 0,ym 74 3,ym 75 10,yb 76 .add 74 75,ya 77 sz 73 76,yl 78 sz 77,ya 79 sz 59 62,ys sz 79 72,ya 80 sz 63 66,ys sz 80 78]) (acW)
def FY:av:=.seq (.seq (yr [ym 43 4,ym 44 0,ym 45 3,ym 46 10,yb 47 .add 45 46,ya 48 sz 44 47,yl 49 sz 48,ym 50 0,ym 51 3,ym 52 11,yb 53 .add 51 52,ya 54 sz 50 53,yl 55 sz 54,yn 56 (.bP (R 43) [R 49,R 55] ae),yn 57 (.bin .lss (R 56) (yi 0)),yn 58 (.un .not (R 57))]) (.cond (R 58) .ret .skip)) (acV sz)
def acT:av:=.seq (.seq (yr [ym 19 11,yn 20 (.bin .add (R 19) (yi 1)),ym 21 2,yb 22 .lss 20 21,ym 23 22,gM 24 4 23,gM 25 0 23,gM 26 3 23,gM 27 11 23,⟨D 28,.bin .add (R 26) (R 27),G 23 ae⟩,⟨D 29,.aV sz ab (R 25) (R 28),G 23 ae⟩,xI 30 sz 29 23,gM 31 0 23,gM 32 3 23,gM 33 11 23,⟨D 34,.bin .add (R 32) (R 33),G 23 ae⟩,⟨D 35,.bin .add (R 34) (yi 1),G 23 ae⟩,⟨D 36,.aV sz ab (R 31) (R 35),G 23 ae⟩,xI 37 sz 36 23,⟨D 38,.bP (R 24) [R 30,R 37] ae,G 23 ae⟩,⟨D 39,.bin .lss (R 38) (yi 0),G 23 ae⟩,yn 40 (.pick (R 23) (R 39) yf)]) (.cond (R 40) acU .skip)) (FY sz)
def ag':av:=.seq (.seq (yr [ym 16 11,ym 17 2,yb 18 .geq 16 17]) (.cond (R 18) (.exit 0) .skip)) (acT sz)
def ag9:av:=.seq (yr [ym 13 10,yn 14 (.bin .mul (yi 2) (R 13)),yn 15 (.bin .add (R 14) (yi 1)),ym 11 15]) (ag' sz)
def Xc:av:=.block 1 (ag9 sz)
def ag8:av:=.seq (yr [ym 12 1,ym 10 12]) (.block 0 (.loop (Xc sz)))
def zl(σ:jg)(sz:Nat):aD:=⟨[P.nat 0,P.nat 1,P.nat 2,P.nat 3,P.nat 4],[],(ag8 sz)⟩
end
section
variable(σ:jg)(sz:Nat)
def aeX:av:=yr [ym 46 12,ym 47 8,yb 48 .sub 46 47,ym 12 48]
def U0:av:=yr [ym 49 0,ym 50 11,ym 51 0,ym 52 1,ym 53 12,yb 54 .add 52 53,ym 55 0,ym 56 1,ym 57 12,yb 58 .add 56 57,ya 59 sz 55 58,yl 60 sz 59,ym 61 0,ym 62 11,ya 63 sz 61 62,yl 64 sz 63,ya 65 sz 49 50,ys sz 65 60,ya 66 sz 51 54,ys sz 66 64]
def aeW:av:=.seq (.seq (yr [ym 43 12,ym 44 8,yb 45 .geq 43 44]) (.cond (R 45) aeX .skip)) (U0 sz)
def aeV:av:=.seq (yr [yn 38 (.call σ.V1 [R 9] ae),ym 39 10,yn 40 (.bin .sub (R 39) (.k (.c (.f (.int .u64 1))))),yb 41 .and 38 40,yn 42 (.eM .i64 (R 41)),ym 12 42]) (aeW sz)
def U1:av:=yr [ym 36 11,yn 37 (.bin .add (R 36) (yi 1)),ym 11 37]
def aeU:av:=.seq (.block 1 (aeV σ sz)) (U1)
def UZ:av:=.seq (.seq (yr [ym 28 11,ym 29 1,ym 30 8,yn 31 (.bin .quo (R 30) (yi 4)),yn 32 (.bin .mul (R 31) (yi 2)),yb 33 .add 29 32,yn 34 (.bin .add (R 33) (yi 1)),yb 35 .leq 28 34]) (.cond (R 35) .skip (.exit 0))) (aeU σ sz)
def aiG:av:=.seq (yr [ym 22 1,ym 23 8,yn 24 (.bin .quo (R 23) (yi 4)),yn 25 (.bin .mul (R 24) (yi 2)),yb 26 .add 22 25,yn 27 (.bin .sub (R 26) (yi 1)),ym 11 27]) (.block 0 (.loop (UZ σ sz)))
def aiF:av:=.seq (yr [ym 20 8,yn 21 (.call σ.npt [R 20] ag),ym 10 21]) (aiG σ sz)
def aiE:av:=.seq (yr [ym 18 8,yn 19 (.eM .u64 (R 18)),yn 9 (.alloc [(.int .u64 0)]),ys 1 9 19]) (aiF σ sz)
def aiD:av:=.seq (yr [ym 16 8,yn 17 (.bin .geq (R 16) (yi 8))]) (.cond (R 17) (aiE σ sz) .skip)
def aiC:av:=.seq (yr [ym 13 2,ym 14 1,yb 15 .sub 13 14,ym 8 15]) (aiD σ sz)
def U2(σ:jg)(sz:Nat):aD:=⟨[P.nat 0,P.nat 1,P.nat 2,P.nat 3],[],(aiC σ sz)⟩
end
section
variable(σ:jg)(sz:Nat)
def agP:av:=yr [ym 45 0,ym 46 14,ym 47 3,yn 48 (.call σ.vl [R 45,R 46,R 11,R 47] ae),ym 14 48]
def agO:av:=.seq (yr [ym 41 0,ym 42 13,ym 43 3,yn 44 (.call σ.vl [R 41,R 42,R 11,R 43] ae),ym 13 44]) (agP σ)
def agN:av:=.seq (yr [ym 37 0,ym 38 12,ym 39 3,yn 40 (.call σ.vl [R 37,R 38,R 11,R 39] ae),ym 12 40]) (agO σ)
def WG:av:=yr [ym 49 0,ym 50 12,ym 51 13,ym 52 14,ym 53 3,yn 54 (.call σ.XG [R 49,R 50,R 51,R 52,R 11,R 53] ae),ym 13 54]
def agM:av:=.seq (.seq (yr [ym 35 10,yn 36 (.bin .geq (R 35) (yi 50))]) (.cond (R 36) (agN σ) .skip)) (WG σ)
def agR:av:=.seq (yr [ym 59 13,ym 8 59,yn 9 (.bB (yi 1))]) .ret
def agT:av:=.seq (yr [ym 62 13,ym 8 62,yn 9 (.bB (yi 2))]) .ret
def agU:av:=.seq (yr [ym 56 13,ym 8 56,yn 9 (.bB (yi 0))]) .ret
def agS:av:=.seq (yr [yn 61 (.bin .eql (R 55) (yi 12)),ym 60 61]) (.cond (R 60) agT agU)
def agQ:av:=.seq (yr [yn 58 (.bin .eql (R 55) (yi 0)),ym 57 58]) (.cond (R 57) agR agS)
def Ef:av:=.seq (yr [yn 55 (.load ab (R 11))]) (.block 0 agQ)
def agL:av:=.seq (.seq (yr [ym 33 10,yn 34 (.bin .geq (R 33) (yi 8))]) (.cond (R 34) (agM σ) .skip)) (Ef)
def agK:av:=.seq (yr [ym 28 1,ym 29 10,yn 30 (.bin .quo (R 29) (yi 4)),yn 31 (.bin .mul (R 30) (yi 3)),yb 32 .add 28 31,ym 14 32]) (agL σ)
def akJ:av:=.seq (yr [ym 23 1,ym 24 10,yn 25 (.bin .quo (R 24) (yi 4)),yn 26 (.bin .mul (R 25) (yi 2)),yb 27 .add 23 26,ym 13 27]) (agK σ)
def akI:av:=.seq (yr [ym 18 1,ym 19 10,yn 20 (.bin .quo (R 19) (yi 4)),yn 21 (.bin .mul (R 20) (yi 1)),yb 22 .add 18 21,ym 12 22]) (akJ σ)
def akH:av:=.seq (yr [yn 11 (.alloc [(.int .i64 0)])]) (akI σ)
def akG:av:=.seq (yr [ym 15 2,ym 16 1,yb 17 .sub 15 16,ym 10 17]) (akH σ)
def akF:av:=.seq (yr [yn 8 (.bB (yi 0)),yn 9 (.bB (yi 0))]) (akG σ)
def WH(σ:jg)(sz:Nat):aD:=⟨[P.nat 0,P.nat 1,P.nat 2,P.nat 3],[.tmp (P.nat 8),.tmp (P.nat 9)],(akF σ)⟩
end
section
variable(σ:jg)(sz:Nat)
def ag4:av:=yr [ym 32 9,yn 33 (.bin .sub (R 32) (yi 1)),ym 9 33]
def ag3:av:=.seq (yr [ym 30 8,yn 31 (.bin .add (R 30) (yi 1)),ym 8 31]) (ag4)
def ag2:av:=.seq (yr [ym 16 0,ym 17 8,ym 18 0,ym 19 9,ym 20 0,ym 21 9,ya 22 sz 20 21,yl 23 sz 22,ym 24 0,ym 25 8,ya 26 sz 24 25,yl 27 sz 26,ya 28 sz 16 17,ys sz 28 23,ya 29 sz 18 19,ys sz 29 27]) (ag3)
def ak6:av:=.seq (.seq (yr [ym 13 8,ym 14 9,yb 15 .lss 13 14]) (.cond (R 15) .skip (.exit 0))) (.block 1 (ag2 sz))
def ak5:av:=.seq (yr [ym 11 2,yn 12 (.bin .sub (R 11) (yi 1)),ym 9 12]) (.block 0 (.loop (ak6 sz)))
def ak4:av:=.seq (yr [ym 10 1,ym 8 10]) (ak5 sz)
def WZ(σ:jg)(sz:Nat):aD:=⟨[P.nat 0,P.nat 1,P.nat 2,P.nat 3],[],(ak4 sz)⟩
end
section
variable(σ:jg)(sz:Nat)
def abY:av:=yr [ym 48 12,yn 49 (.bin .add (R 48) (yi 1)),ym 12 49]
def af5:av:=.seq (.seq (yr [ym 32 12,ym 33 13,yb 34 .leq 32 33,ym 35 34,gM 36 4 35,gM 37 0 35,gM 38 12 35,⟨D 39,.aV sz ab (R 37) (R 38),G 35 ae⟩,xI 40 sz 39 35,gM 41 0 35,gM 42 1 35,⟨D 43,.aV sz ab (R 41) (R 42),G 35 ae⟩,xI 44 sz 43 35,⟨D 45,.bP (R 36) [R 40,R 44] ae,G 35 ae⟩,⟨D 46,.bin .lss (R 45) (yi 0),G 35 ae⟩,yn 47 (.pick (R 35) (R 46) yf)]) (.cond (R 47) .skip (.exit 0))) (.block 1 abY)
def Wo:av:=.block 0 (.loop (af5 sz))
def ab1:av:=yr [ym 67 13,yn 68 (.bin .sub (R 67) (yi 1)),ym 13 68]
def ab0:av:=.seq (.seq (yr [ym 50 12,ym 51 13,yb 52 .leq 50 51,ym 53 52,gM 54 4 53,gM 55 0 53,gM 56 13 53,⟨D 57,.aV sz ab (R 55) (R 56),G 53 ae⟩,xI 58 sz 57 53,gM 59 0 53,gM 60 1 53,⟨D 61,.aV sz ab (R 59) (R 60),G 53 ae⟩,xI 62 sz 61 53,⟨D 63,.bP (R 54) [R 58,R 62] ae,G 53 ae⟩,⟨D 64,.bin .lss (R 63) (yi 0),G 53 ae⟩,⟨D 65,.un .not (R 64),G 53 ae⟩,yn 66 (.pick (R 53) (R 65) yf)]) (.cond (R 66) .skip (.exit 2))) (.block 3 ab1)
def FB:av:=.block 2 (.loop (ab0 sz))
def ab4:av:=.seq (yr [ym 86 13,ym 10 86,yn 11 (.bB yt)]) .ret
def ab3:av:=.seq (yr [ym 72 0,ym 73 13,ym 74 0,ym 75 1,ym 76 0,ym 77 1,ya 78 sz 76 77,yl 79 sz 78,ym 80 0,ym 81 13,ya 82 sz 80 81,yl 83 sz 82,ya 84 sz 72 73,ys sz 84 79,ya 85 sz 74 75,ys sz 85 83]) (ab4)
def ab_:av:=yr [ym 121 12,yn 122 (.bin .add (R 121) (yi 1)),ym 12 122]
def ab':av:=.seq (.seq (yr [ym 105 12,ym 106 13,yb 107 .leq 105 106,ym 108 107,gM 109 4 108,gM 110 0 108,gM 111 12 108,⟨D 112,.aV sz ab (R 110) (R 111),G 108 ae⟩,xI 113 sz 112 108,gM 114 0 108,gM 115 1 108,⟨D 116,.aV sz ab (R 114) (R 115),G 108 ae⟩,xI 117 sz 116 108,⟨D 118,.bP (R 109) [R 113,R 117] ae,G 108 ae⟩,⟨D 119,.bin .lss (R 118) (yi 0),G 108 ae⟩,yn 120 (.pick (R 108) (R 119) yf)]) (.cond (R 120) .skip (.exit 6))) (.block 7 ab_)
def FD:av:=.block 6 (.loop (ab' sz))
def acd:av:=yr [ym 140 13,yn 141 (.bin .sub (R 140) (yi 1)),ym 13 141]
def acb:av:=.seq (.seq (yr [ym 123 12,ym 124 13,yb 125 .leq 123 124,ym 126 125,gM 127 4 126,gM 128 0 126,gM 129 13 126,⟨D 130,.aV sz ab (R 128) (R 129),G 126 ae⟩,xI 131 sz 130 126,gM 132 0 126,gM 133 1 126,⟨D 134,.aV sz ab (R 132) (R 133),G 126 ae⟩,xI 135 sz 134 126,⟨D 136,.bP (R 127) [R 131,R 135] ae,G 126 ae⟩,⟨D 137,.bin .lss (R 136) (yi 0),G 126 ae⟩,⟨D 138,.un .not (R 137),G 126 ae⟩,yn 139 (.pick (R 126) (R 138) yf)]) (.cond (R 139) .skip (.exit 8))) (.block 9 acd)
def FE:av:=.block 8 (.loop (acb sz))
def ach:av:=yr [ym 161 13,yn 162 (.bin .sub (R 161) (yi 1)),ym 13 162]
def acg:av:=.seq (yr [ym 159 12,yn 160 (.bin .add (R 159) (yi 1)),ym 12 160]) (ach)
def acf:av:=.seq (yr [ym 145 0,ym 146 12,ym 147 0,ym 148 13,ym 149 0,ym 150 13,ya 151 sz 149 150,yl 152 sz 151,ym 153 0,ym 154 12,ya 155 sz 153 154,yl 156 sz 155,ya 157 sz 145 146,ys sz 157 152,ya 158 sz 147 148,ys sz 158 156]) (acg)
def ace:av:=.seq (.seq (yr [ym 142 12,ym 143 13,yb 144 .gtr 142 143]) (.cond (R 144) (.exit 4) .skip)) (acf sz)
def aca:av:=.seq (FE sz) (ace sz)
def ab9:av:=.seq (FD sz) (aca sz)
def aci:av:=.seq (yr [ym 177 13,ym 10 177,yn 11 (.bB yf)]) .ret
def FF:av:=.seq (yr [ym 163 0,ym 164 13,ym 165 0,ym 166 1,ym 167 0,ym 168 1,ya 169 sz 167 168,yl 170 sz 169,ym 171 0,ym 172 13,ya 173 sz 171 172,yl 174 sz 173,ya 175 sz 163 164,ys sz 175 170,ya 176 sz 165 166,ys sz 176 174]) (aci)
def ab8:av:=.seq (.block 4 (.loop (.block 5 (ab9 sz)))) (FF sz)
def ab7:av:=.seq (yr [ym 103 13,yn 104 (.bin .sub (R 103) (yi 1)),ym 13 104]) (ab8 sz)
def ab6:av:=.seq (yr [ym 101 12,yn 102 (.bin .add (R 101) (yi 1)),ym 12 102]) (ab7 sz)
def ab5:av:=.seq (yr [ym 87 0,ym 88 12,ym 89 0,ym 90 13,ym 91 0,ym 92 13,ya 93 sz 91 92,yl 94 sz 93,ym 95 0,ym 96 12,ya 97 sz 95 96,yl 98 sz 97,ya 99 sz 87 88,ys sz 99 94,ya 100 sz 89 90,ys sz 100 98]) (ab6 sz)
def ab2:av:=.seq (.seq (yr [ym 69 12,ym 70 13,yb 71 .gtr 69 70]) (.cond (R 71) (ab3 sz) .skip)) (ab5 sz)
def abZ:av:=.seq (FB sz) (ab2 sz)
def af4:av:=.seq (Wo sz) (abZ sz)
def af3:av:=.seq (yr [ym 28 1,yn 29 (.bin .add (R 28) (yi 1)),ym 30 2,yn 31 (.bin .sub (R 30) (yi 1)),ym 12 29,ym 13 31]) (af4 sz)
def af2:av:=.seq (yr [ym 14 0,ym 15 1,ym 16 0,ym 17 3,ym 18 0,ym 19 3,ya 20 sz 18 19,yl 21 sz 20,ym 22 0,ym 23 1,ya 24 sz 22 23,yl 25 sz 24,ya 26 sz 14 15,ys sz 26 21,ya 27 sz 16 17,ys sz 27 25]) (af3 sz)
def af1:av:=.seq (yr [yn 10 (.bB (yi 0)),yn 11 (.bB yf)]) (af2 sz)
def Ea(σ:jg)(sz:Nat):aD:=⟨[P.nat 0,P.nat 1,P.nat 2,P.nat 3,P.nat 4],[.tmp (P.nat 10),.tmp (P.nat 11)],(af1 sz)⟩
end
section
variable(σ:jg)(sz:Nat)
def agw:av:=yr [ym 48 11,yn 49 (.bin .add (R 48) (yi 1)),ym 11 49]
def agv:av:=.seq (.seq (yr [ym 31 11,ym 32 12,yb 33 .leq 31 32,ym 34 33,gM 35 4 34,gM 36 0 34,gM 37 1 34,⟨D 38,.aV sz ab (R 36) (R 37),G 34 ae⟩,xI 39 sz 38 34,gM 40 0 34,gM 41 11 34,⟨D 42,.aV sz ab (R 40) (R 41),G 34 ae⟩,xI 43 sz 42 34,⟨D 44,.bP (R 35) [R 39,R 43] ae,G 34 ae⟩,⟨D 45,.bin .lss (R 44) (yi 0),G 34 ae⟩,⟨D 46,.un .not (R 45),G 34 ae⟩,yn 47 (.pick (R 34) (R 46) yf)]) (.cond (R 47) .skip (.exit 2))) (.block 3 agw)
def WA:av:=.block 2 (.loop (agv sz))
def agz:av:=yr [ym 66 12,yn 67 (.bin .sub (R 66) (yi 1)),ym 12 67]
def agy:av:=.seq (.seq (yr [ym 50 11,ym 51 12,yb 52 .leq 50 51,ym 53 52,gM 54 4 53,gM 55 0 53,gM 56 1 53,⟨D 57,.aV sz ab (R 55) (R 56),G 53 ae⟩,xI 58 sz 57 53,gM 59 0 53,gM 60 12 53,⟨D 61,.aV sz ab (R 59) (R 60),G 53 ae⟩,xI 62 sz 61 53,⟨D 63,.bP (R 54) [R 58,R 62] ae,G 53 ae⟩,⟨D 64,.bin .lss (R 63) (yi 0),G 53 ae⟩,yn 65 (.pick (R 53) (R 64) yf)]) (.cond (R 65) .skip (.exit 4))) (.block 5 agz)
def WB:av:=.block 4 (.loop (agy sz))
def agD:av:=yr [ym 87 12,yn 88 (.bin .sub (R 87) (yi 1)),ym 12 88]
def agC:av:=.seq (yr [ym 85 11,yn 86 (.bin .add (R 85) (yi 1)),ym 11 86]) (agD)
def agB:av:=.seq (yr [ym 71 0,ym 72 11,ym 73 0,ym 74 12,ym 75 0,ym 76 12,ya 77 sz 75 76,yl 78 sz 77,ym 79 0,ym 80 11,ya 81 sz 79 80,yl 82 sz 81,ya 83 sz 71 72,ys sz 83 78,ya 84 sz 73 74,ys sz 84 82]) (agC)
def agA:av:=.seq (.seq (yr [ym 68 11,ym 69 12,yb 70 .gtr 68 69]) (.cond (R 70) (.exit 0) .skip)) (agB sz)
def agx:av:=.seq (WB sz) (agA sz)
def agu:av:=.seq (WA sz) (agx sz)
def WC:av:=.seq (yr [ym 89 11,ym 10 89]) .ret
def akE:av:=.seq (.block 0 (.loop (.block 1 (agu sz)))) (WC)
def akD:av:=.seq (yr [ym 27 1,yn 28 (.bin .add (R 27) (yi 1)),ym 29 2,yn 30 (.bin .sub (R 29) (yi 1)),ym 11 28,ym 12 30]) (akE sz)
def akC:av:=.seq (yr [ym 13 0,ym 14 1,ym 15 0,ym 16 3,ym 17 0,ym 18 3,ya 19 sz 17 18,yl 20 sz 19,ym 21 0,ym 22 1,ya 23 sz 21 22,yl 24 sz 23,ya 25 sz 13 14,ys sz 25 20,ya 26 sz 15 16,ys sz 26 24]) (akD sz)
def akB:av:=.seq (yr [yn 10 (.bB (yi 0))]) (akC sz)
def WD(σ:jg)(sz:Nat):aD:=⟨[P.nat 0,P.nat 1,P.nat 2,P.nat 3,P.nat 4],[.tmp (P.nat 10)],(akB sz)⟩
end
section
variable(σ:jg)(sz:Nat)
def acq:av:=yr [ym 37 9,yn 38 (.bin .add (R 37) (yi 1)),ym 9 38]
def acp:av:=.seq (.seq (yr [ym 19 9,ym 20 2,yb 21 .lss 19 20,ym 22 21,gM 23 3 22,gM 24 0 22,gM 25 9 22,⟨D 26,.aV sz ab (R 24) (R 25),G 22 ae⟩,xI 27 sz 26 22,gM 28 0 22,gM 29 9 22,⟨D 30,.bin .sub (R 29) (yi 1),G 22 ae⟩,⟨D 31,.aV sz ab (R 28) (R 30),G 22 ae⟩,xI 32 sz 31 22,⟨D 33,.bP (R 23) [R 27,R 32] ae,G 22 ae⟩,⟨D 34,.bin .lss (R 33) (yi 0),G 22 ae⟩,⟨D 35,.un .not (R 34),G 22 ae⟩,yn 36 (.pick (R 22) (R 35) yf)]) (.cond (R 36) .skip (.exit 2))) (.block 3 acq)
def FH:av:=.block 2 (.loop (acp sz))
def acs:av:=.seq (yr [yn 8 (.bB yt)]) .ret
def acv:av:=.seq (yr [yn 8 (.bB yf)]) .ret
def acC:av:=yr [ym 85 0,ym 86 11,ym 87 0,ym 88 11,yn 89 (.bin .sub (R 88) (yi 1)),ym 90 0,ym 91 11,yn 92 (.bin .sub (R 91) (yi 1)),ya 93 sz 90 92,yl 94 sz 93,ym 95 0,ym 96 11,ya 97 sz 95 96,yl 98 sz 97,ya 99 sz 85 86,ys sz 99 94,ya 100 sz 87 89,ys sz 100 98]
def acB:av:=.seq (.seq (yr [ym 72 3,ym 73 0,ym 74 11,ya 75 sz 73 74,yl 76 sz 75,ym 77 0,ym 78 11,yn 79 (.bin .sub (R 78) (yi 1)),ya 80 sz 77 79,yl 81 sz 80,yn 82 (.bP (R 72) [R 76,R 81] ae),yn 83 (.bin .lss (R 82) (yi 0)),yn 84 (.un .not (R 83))]) (.cond (R 84) (.exit 4) .skip)) (acC sz)
def acD:av:=yr [ym 70 11,yn 71 (.bin .sub (R 70) (yi 1)),ym 11 71]
def acA:av:=.seq (.block 5 (acB sz)) (acD)
def acz:av:=.seq (.seq (yr [ym 68 11,yn 69 (.bin .geq (R 68) (yi 1))]) (.cond (R 69) .skip (.exit 4))) (acA sz)
def FI:av:=.block 4 (.loop (acz sz))
def acy:av:=.seq (yr [ym 66 9,yn 67 (.bin .sub (R 66) (yi 1)),ym 11 67]) (FI sz)
def acI:av:=yr [ym 125 0,ym 126 12,ym 127 0,ym 128 12,yn 129 (.bin .sub (R 128) (yi 1)),ym 130 0,ym 131 12,yn 132 (.bin .sub (R 131) (yi 1)),ya 133 sz 130 132,yl 134 sz 133,ym 135 0,ym 136 12,ya 137 sz 135 136,yl 138 sz 137,ya 139 sz 125 126,ys sz 139 134,ya 140 sz 127 129,ys sz 140 138]
def acH:av:=.seq (.seq (yr [ym 112 3,ym 113 0,ym 114 12,ya 115 sz 113 114,yl 116 sz 115,ym 117 0,ym 118 12,yn 119 (.bin .sub (R 118) (yi 1)),ya 120 sz 117 119,yl 121 sz 120,yn 122 (.bP (R 112) [R 116,R 121] ae),yn 123 (.bin .lss (R 122) (yi 0)),yn 124 (.un .not (R 123))]) (.cond (R 124) (.exit 6) .skip)) (acI sz)
def acJ:av:=yr [ym 110 12,yn 111 (.bin .add (R 110) (yi 1)),ym 12 111]
def acG:av:=.seq (.block 7 (acH sz)) (acJ)
def acF:av:=.seq (.seq (yr [ym 107 12,ym 108 2,yb 109 .lss 107 108]) (.cond (R 109) .skip (.exit 6))) (acG sz)
def FK:av:=.block 6 (.loop (acF sz))
def acE:av:=.seq (yr [ym 105 9,yn 106 (.bin .add (R 105) (yi 1)),ym 12 106]) (FK sz)
def FJ:av:=.seq (yr [ym 101 2,ym 102 9,yb 103 .sub 101 102,yn 104 (.bin .geq (R 103) (yi 2))]) (.cond (R 104) (acE sz) .skip)
def acx:av:=.seq (.seq (yr [ym 62 9,ym 63 1,yb 64 .sub 62 63,yn 65 (.bin .geq (R 64) (yi 2))]) (.cond (R 65) (acy sz) .skip)) (FJ sz)
def acw:av:=.seq (yr [ym 46 0,ym 47 9,ym 48 0,ym 49 9,yn 50 (.bin .sub (R 49) (yi 1)),ym 51 0,ym 52 9,yn 53 (.bin .sub (R 52) (yi 1)),ya 54 sz 51 53,yl 55 sz 54,ym 56 0,ym 57 9,ya 58 sz 56 57,yl 59 sz 58,ya 60 sz 46 47,ys sz 60 55,ya 61 sz 48 50,ys sz 61 59]) (acx sz)
def acu:av:=.seq (.seq (yr [ym 42 2,ym 43 1,yb 44 .sub 42 43,yn 45 (.bin .lss (R 44) (yi 50))]) (.cond (R 45) acv .skip)) (acw sz)
def acr:av:=.seq (.seq (yr [ym 39 9,ym 40 2,yb 41 .eql 39 40]) (.cond (R 41) acs .skip)) (acu sz)
def aco:av:=.seq (FH sz) (acr sz)
def yZ:av:=yr [ym 17 10,yn 18 (.bin .add (R 17) (yi 1)),ym 10 18]
def acn:av:=.seq (.block 1 (aco sz)) (yZ)
def Ec:av:=.seq (.seq (yr [ym 15 10,yn 16 (.bin .lss (R 15) (yi 5))]) (.cond (R 16) .skip (.exit 0))) (acn sz)
def sF:av:=.seq (yr [yn 8 (.bB yf)]) .ret
def agJ:av:=.seq (.seq (yr [yn 10 (.bB (yi 0))]) (.block 0 (.loop (Ec sz)))) (sF)
def agI:av:=.seq (yr [ym 13 1,yn 14 (.bin .add (R 13) (yi 1)),ym 9 14]) (agJ sz)
def agH:av:=.seq (yr [yn 8 (.bB yf)]) (agI sz)
def Ed(σ:jg)(sz:Nat):aD:=⟨[P.nat 0,P.nat 1,P.nat 2,P.nat 3],[.tmp (P.nat 8)],(agH sz)⟩
end
def afH(σ:jg):av:=.seq (yr [ym 9 0,ym 10 1,yn 11 (.bin .sub (R 10) (yi 1)),ym 12 1,ym 13 1,yn 14 (.bin .add (R 13) (yi 1)),ym 15 2,ym 16 3,yn 17 (.call σ.XG [R 9,R 11,R 12,R 14,R 15,R 16] ae),ym 8 17]) .ret
def afG(σ:jg):av:=.seq (yr [yn 8 (.bB (yi 0))]) (afH σ)
def yN(σ:jg)(sz:Nat):aD:=⟨[P.nat 0,P.nat 1,P.nat 2,P.nat 3],[.tmp (P.nat 8)],(afG σ)⟩
section
variable(σ:jg)(sz:Nat)
def ajr:av:=.seq (yr [ym 40 2,ym 12 40]) .ret
def ajq:av:=.seq (yr [ym 32 0,ym 33 1,ym 34 2,ym 35 4,ym 36 5,yn 37 (.call σ.ord [R 32,R 33,R 34,R 35,R 36] ae),ym 31 37,yn 38 (.extract (R 31) 0),yn 39 (.extract (R 31) 1),ym 1 38,ym 2 39]) (ajr)
def ajp:av:=.seq (yr [ym 23 0,ym 24 2,ym 25 3,ym 26 4,ym 27 5,yn 28 (.call σ.ord [R 23,R 24,R 25,R 26,R 27] ae),ym 22 28,yn 29 (.extract (R 22) 0),yn 30 (.extract (R 22) 1),ym 2 29,ym 3 30]) (ajq σ)
def ajo:av:=.seq (yr [ym 14 0,ym 15 1,ym 16 2,ym 17 4,ym 18 5,yn 19 (.call σ.ord [R 14,R 15,R 16,R 17,R 18] ae),ym 13 19,yn 20 (.extract (R 13) 0),yn 21 (.extract (R 13) 1),ym 1 20,ym 2 21]) (ajp σ)
def ajn:av:=.seq (yr [yn 12 (.bB (yi 0))]) (ajo σ)
def Bw(σ:jg)(sz:Nat):aD:=⟨[P.nat 0,P.nat 1,P.nat 2,P.nat 3,P.nat 4,P.nat 5],[.tmp (P.nat 12)],(ajn σ)⟩
end
section
variable(σ:jg)(sz:Nat)
def ajQ:av:=.seq (yr [ym 28 2,ym 29 1,ym 10 28,ym 11 29]) .ret
def ajP:av:=.seq (yr [ym 23 3,yn 24 (.bw (R 23)),yn 25 (.load ab (R 24)),yn 26 (.bin .add (R 25) (yi 1)),yn 27 (.bw (R 23)),ys 1 27 26]) (ajQ)
def afX:av:=.seq (yr [ym 30 1,ym 31 2,ym 10 30,ym 11 31]) .ret
def ajO:av:=.seq (.seq (yr [ym 12 4,ym 13 0,ym 14 2,ya 15 sz 13 14,yl 16 sz 15,ym 17 0,ym 18 1,ya 19 sz 17 18,yl 20 sz 19,yn 21 (.bP (R 12) [R 16,R 20] ae),yn 22 (.bin .lss (R 21) (yi 0))]) (.cond (R 22) ajP .skip)) (afX)
def ajN:av:=.seq (yr [yn 10 (.bB (yi 0)),yn 11 (.bB (yi 0))]) (ajO sz)
def xp(σ:jg)(sz:Nat):aD:=⟨[P.nat 0,P.nat 1,P.nat 2,P.nat 3,P.nat 4],[.tmp (P.nat 10),.tmp (P.nat 11)],(ajN sz)⟩
end
def aju(σ:jg):av:=.seq (yr [ym 3 0,yn 4 (.eM .u64 (R 3)),yn 5 (.call σ.len [R 4] ag),yn 6 (.bin .shl (.k (.c (.f (.int .u64 1)))) (R 5)),ym 2 6]) .ret
def ajt(σ:jg):av:=.seq (yr [yn 2 (.bB (.k (.c (.f (.int .u64 0)))))]) (aju σ)
def Fu(σ:jg)(sz:Nat):aD:=⟨[P.nat 0],[.tmp (P.nat 2)],(ajt σ)⟩
section
variable(σ:jg)(sz:Nat)
def ajz:av:=.seq (yr [ym 30 0,yn 31 (.bw (R 30)),yn 32 (.load ab (R 31)),ym 2 32]) .ret
def ajy:av:=.seq (yr [ym 21 0,yn 22 (.bw (R 21)),yn 23 (.load ab (R 22)),ym 24 0,yn 25 (.bw (R 24)),yn 26 (.load ab (R 25)),yn 27 (.bin .shl (R 26) (.k (.c (.f (.int .u64 17))))),yb 28 .xor 23 27,yn 29 (.bw (R 21)),ys 1 29 28]) (ajz)
def ajx:av:=.seq (yr [ym 12 0,yn 13 (.bw (R 12)),yn 14 (.load ab (R 13)),ym 15 0,yn 16 (.bw (R 15)),yn 17 (.load ab (R 16)),yn 18 (.bin .shr (R 17) (.k (.c (.f (.int .u64 7))))),yb 19 .xor 14 18,yn 20 (.bw (R 12)),ys 1 20 19]) (ajy)
def ajw:av:=.seq (yr [ym 3 0,yn 4 (.bw (R 3)),yn 5 (.load ab (R 4)),ym 6 0,yn 7 (.bw (R 6)),yn 8 (.load ab (R 7)),yn 9 (.bin .shl (R 8) (.k (.c (.f (.int .u64 13))))),yb 10 .xor 5 9,yn 11 (.bw (R 3)),ys 1 11 10]) (ajx)
def ajv:av:=.seq (yr [yn 2 (.bB (.k (.c (.f (.int .u64 0)))))]) (ajw)
def Fv(σ:jg)(sz:Nat):aD:=⟨[P.nat 0],[.tmp (P.nat 2)],(ajv)⟩
end
end
section
open Go
def Cv(tab:Nat→Option aD)(cv:V)(W:List FC→Prop)(c:List FC→List FC→Int):Prop:=
 ∀ x y,W x→W y→∀ H,∃ F b J,bQ cv [.a (x.map .f),.a (y.map .f)]=aa (.fn F,b)∧Ev tab (.fn F) b H (vi (c x y)) (H++J)
section
variable{W:List FC→Prop}{c:List FC→List FC→Int}{l:List (List FC)}
theorem jC.of_lt{i j:Nat}(hc:uU W c)(g:∀ r ∈ l,W r){x y:List FC}(m:l[i]?=aa x)(hy:l[j]?=aa y)(h:c x y<0):jC c l i j:=fun q s b d=>by
 rw [m]at b;rw [hy]at d;cases b;cases d;exact hc.Dk (g _ (api m)) (g _ (api hy)) h
theorem jC.of_le{i j:Nat}{x y:List FC}(g:l[i]?=aa x)(hy:l[j]?=aa y)(h:¬ c y x<0):jC c l i j:=fun m q b d=>by
 rw [g]at b;rw [hy]at d;cases b;cases d;exact h
theorem jC.get{b:List (List FC)}{i j i' d:Nat}(h:jC c l i j)(g:b[i']?=l[i]?)(m:b[d]?=l[j]?):jC c b i' d:=fun x y q hy=>h x y (by rw [←g];exact q) (by rw [←m];exact hy)
def EN(c:List FC→List FC→Int)(a i j:Nat)(l:List (List FC)):Prop:=∀ p q,a≤p→p<q→q≤i→q≠j→jC c l p q
theorem EN.start{a i:Nat}(h:Up c a i l):EN c a i i l:=fun p q b d g j=>fun x y=>h p q x y b d (by omega)
theorem EN.step{a i j:Nat}(hc:uU W c)(A:∀ r ∈ l,W r)(h:EN c a i (j+1) l)(B:a≤j)(F:j+1≤i)(hi:i<l.length){x y:List FC}(E:l[j+1]?=aa x)(hy:l[j]?=aa y)(s:c x y<0):EN c a i j (gX l (j+1) j):=by
 intro p q u v m z;have g:∀ k,(gX l (j+1) j)[k]?=if k=j then l[j+1]? else if k=j+1 then l[j]? else l[k]?:=fun k=>gi (by omega) (by omega) k;by_cases b:q=j+1
 ·subst b;by_cases p1:p=j
  ·subst p1;exact(jC.of_lt hc A E hy s).get (by rw [g,bh rfl]) (by rw [g,aY (by omega),bh rfl])
  ·exact(h p j u (by omega) (by omega) (by omega)).get (by rw [g,aY (by omega),aY (by omega)]) (by rw [g,aY (by omega),bh rfl])
 ·have d:(gX l (j+1) j)[q]?=l[q]?:=by rw [g,aY z,aY b]
  by_cases p1:p=j
  ·subst p1;exact(h (p+1) q (by omega) (by omega) m b).get (by rw [g,bh rfl]) d
  by_cases p2:p=j+1
  ·subst p2;exact(h j q B (by omega) m b).get (by rw [g,aY (by omega),bh rfl]) d
  ·exact(h p q u v m b).get (by rw [g,aY p1,aY p2]) d
theorem EN.front{a i:Nat}(h:EN c a i a l):Up c a (i+1) l:=fun p q x y b d g=>h p q b d (by omega) (by omega) x y
theorem EN.stop{a i j:Nat}(hc:uU W c)(s:∀ r ∈ l,W r)(h:EN c a i (j+1) l)(v:a≤j)(z:j+1≤i)(hi:i<l.length)(b:jC c l j (j+1)):Up c a (i+1) l:=by
 intro p q x y d m u;by_cases g:q=j+1
 ·subst g;by_cases p1:p=j
  ·subst p1;exact b x y
  ·exact((h p j d (by omega) (by omega) (by omega)).trans hc s b (by omega)) x y
 ·exact h p q d m (by omega) g x y
end
section
variable{tab:Nat→Option aD}{σ:jg}{sz:Nat}{H:aj}{b ep:Nat}{rows:List (List FC)}{cv:V}{W:List FC→Prop}{c:List FC→List FC→Int}
theorem RB.at(h:RB H b sz ep rows){i:Nat}(hi:i<rows.length):aL H sz ab (.c (.sl b 0 rows.length 0 ep sz)) (vi i)=aa (.c (.ptr b (i*sz) ep)):=by
 have:=h.idx (n:=rows.length) (c:=0) (k:=.i64) (o:=0) (i:=(i:Int)) (by omega) (by omega);rwa [Int.toNat_natCast,aq8]at this
theorem RB.ldi(h:RB H b sz ep rows)(d:bL sz rows){i:Nat}(hi:i<rows.length):aX H (aa sz) (.c (.ptr b (i*sz) ep))=aa (.a (rows[i].map .f)):=h.ldr d (At hi)
theorem afx(hT:tab σ.ins=aa (Bk σ sz))(b9:Cv tab cv W c)(hc:uU W c){n a e:Nat}(hn:rows.length=n)(hl:n≤1000000000)(d:RB H b sz ep rows)(hg:bL sz rows)(hW:∀ r ∈ rows,W r)(c_:a≤e)(d6:e≤n) :
  ∃ r H',Ev tab (.fn σ.ins) [.c (.sl b 0 n 0 ep sz),vi a,vi e,cv] H r H'∧(r=.t []∧Fm b H H'∧∃ l',RB H' b sz ep l'∧ea a e rows l'∧Up c a e l'):=by
 refine dk hT rfl fun Q hQ=>?_;apply ai;simp [aO (n:=(a:Int)+1)];refine aC ?_;refine bD (fun m s=>∃(i:Nat) (t:T) (U:aj) (l:List (List FC)),s=⟨t,[],U⟩∧m=n+1-i∧a+1≤i∧(i≤e∨i=a+1)∧t.g 0=.c (.sl b 0 n 0 ep sz)∧t.g 1=vi a∧t.g 2=vi e∧t.g 3=cv∧t.g 8=vi i ∧
  Fm b H U∧RB U b sz ep l∧ea a e rows l∧Up c a i l) _
  ⟨a+1,_,H,rows,rfl,rfl,by omega,.inr rfl,by simp,by simp,by simp,by simp,by simp,Fm.refl H,d,ea.refl _ _ _,Up.one (by omega)⟩ ?_
 rintro m s ⟨i,t,U,l,rfl,rfl,d8,hi,B,E,L,M,I,v,d,g,b7⟩ ih;have A:=g.len;apply an;apply ai;simp [I,L];by_cases a_:i<e
 case neg=>
  refine ak (by simp [a_]) ?_;refine bp (k':=[]) rfl ?_;exact iV (hQ _ _ _ rfl rfl ⟨rfl,v,l,d,g,b7.mono (IT _) (by omega)⟩)
 refine al (by simp [a_]) (aM ?_);apply an;refine aC ?_;apply ai;simp [I];refine aC ?_;refine bD (fun m s=>∃(j:Nat) (t:T) (O:aj) (q:List (List FC)),s=⟨t,[],O⟩∧j=m∧a≤j∧j≤i∧t.g 0=.c (.sl b 0 n 0 ep sz)∧t.g 1=vi a∧t.g 2=vi e∧t.g 3=cv∧t.g 8=vi i∧t.g 9=vi j ∧
  Fm b H O∧RB O b sz ep q∧ea a e rows q∧EN c a i j q) i
  ⟨i,_,U,l,rfl,rfl,by omega,by omega,by simp [B],by simp [E],by simp [L],by simp [M],by simp [I],by simp,v,d,g,EN.start b7⟩ ?_
 rintro m s ⟨j,t,O,q,rfl,rfl,d9,a9,B,E,L,M,I,X,v,d,g,z⟩ c9;have A:=g.len;have x:=g.rW hg;have K:∀ r ∈ q,W r:=fun r hr=>hW r (g.1.mem_iff.1 hr);have stop:Up c a (i+1) q→∀ t:T,t.g 0=.c (.sl b 0 n 0 ep sz)→t.g 1=vi a→t.g 2=vi e→t.g 3=cv→t.g 8=vi i→∀ S,Fm b H S→RB S b sz ep q →
   WP tab σ.ins ab [.inBlock 1,.code (yE),.inLoop (Fh sz),.inBlock 0] ⟨t,[],S⟩ Q:=by
  intro hp t B E L M I S v d;refine aA (aq (.inl rfl) ?_);simp [I,aO (n:=(i:Int)+1)];exact ih (n+1-(i+1)) _ (by omega) ⟨i+1,_,S,q,rfl,rfl,by omega,.inl (by omega),by simp [B],by simp [E],by simp [L],by simp [M],by simp,v,d,g,hp⟩
 apply an;apply ai;by_cases hj:j=a
 ·subst hj;simp [X,E];refine ak (by simp) ?_;refine bp (k':=[.inBlock 1,.code (yE),.inLoop (Fh sz),.inBlock 0]) rfl ?_;exact stop z.front _ (by simp [B]) (by simp [E]) (by simp [L]) (by simp [M]) (by simp [I]) _ v d
 obtain⟨k,rfl⟩:∃ k,j=k+1:=⟨j-1,by omega⟩
 have N:k+1<q.length:=by omega
 have c1:((k+1:Nat):Int)=(k:Int)+1:=by omega
 have i1:=d.at N;have i0:=d.at (show k<q.length by omega);have l1:=d.ldi x N;have l0:=d.ldi x (show k<q.length by omega);rw [A,hn]at i1 i0;rw [c1]at i1 X;obtain⟨F,ar,J,Z,b_⟩:=b9 q[k+1] q[k] (K _ (OF _)) (K _ (OF _)) O;have he:=b_.eq;have gt:(a:Int)<(k:Int)+1:=by omega
 simp [X,B,E,M,gt,i1,i0,l1,l0,Z,he,-au,aO (n:=(k:Int))];by_cases y:c q[k+1] q[k]<0
 case neg=>
  refine ak (by simp [y]) ?_;refine bp (k':=[.inBlock 1,.code (yE),.inLoop (Fh sz),.inBlock 0]) rfl ?_;exact stop (z.stop hc K (by omega) a9 (by omega) (jC.of_le (At (by omega)) (At N) y)) _ (by simp [B]) (by simp [E]) (by simp [L]) (by simp [M]) (by simp [I]) _ (v.trans (Fm.push _ _)) (d.push _)
 refine al (by simp [y]) (aM ?_);have w1:q[k+1].length=sz:=x _ (OF _);have w0:q[k].length=sz:=x _ (OF _);have u:=d.push J;obtain⟨HJ,Y⟩:=aT (O++J);rw [←Y]at u ⊢;have a8:Fm b H HJ:=by rw [Y];exact v.trans (Fm.push _ _)
 have i1:=u.at N;have i0:=u.at (show k<q.length by omega);have l1:=u.ldi x N;have l0:=u.ldi x (show k<q.length by omega);obtain⟨S,H4,s1,r1,s2,r2,f2⟩:=u.swap x N (show k<q.length by omega);have i2:=r1.at (show k<(q.set (k+1) q[k]).length by simp;omega);rw [List.length_set]at i2;rw [A,hn]at i1 i0 i2;rw [c1]at i1;apply an;refine aC ?_;refine aq (.inl rfl) ?_;simp [X,B,i1,i0,i2,l1,l0,s1,s2,w1,w0,-au,-bu,aO (n:=(k:Int))];refine aA ?_;refine aq (.inl rfl) ?_;simp [X,aO (n:=(k:Int))];exact c9 k _ (by omega) ⟨k,_,H4,gX q (k+1) k,rfl,rfl,by omega,by omega,by simp [B],by simp [E],by simp [L],by simp [M],by simp [I],by simp,a8.trans f2,r2,
  g.trans (ew (by omega) (by omega) (by omega) (by omega) (by omega)),z.step hc K (by omega) a9 (by omega) (At N) (At (by omega)) y⟩
end
end
section
open Go
section
variable{tab:Nat→Option aD}{σ:jg}{sz:Nat}{H:aj}{b ep:Nat}{rows:List (List FC)}{cv:V}{W:List FC→Prop}{c:List FC→List FC→Int}
theorem RB.gX(h:RB H b sz ep rows)(l:bL sz rows){n i j:Nat}(s:rows.length=n)(hi:i<n)(m:j<n):∃(x y:List FC) (d g:aj),rows[i]?=aa x∧rows[j]?=aa y ∧
  aL H sz ab (.c (.sl b 0 n 0 ep sz)) (vi i)=aa (.c (.ptr b (i*sz) ep))∧aL H sz ab (.c (.sl b 0 n 0 ep sz)) (vi j)=aa (.c (.ptr b (j*sz) ep)) ∧
  aX H (aa sz) (.c (.ptr b (i*sz) ep))=aa (.a (x.map .f))∧aX H (aa sz) (.c (.ptr b (j*sz) ep))=aa (.a (y.map .f))∧x.length=sz∧y.length=sz ∧
  df H (.ptr b (i*sz) ep) (y.map .f)=aa d∧aL d sz ab (.c (.sl b 0 n 0 ep sz)) (vi j)=aa (.c (.ptr b (j*sz) ep))∧df d (.ptr b (j*sz) ep) (x.map .f)=aa g∧RB g b sz ep (gX rows i j)∧Fm b H g:=by
 subst s;obtain⟨d,g,u,r1,v,r2,q⟩:=h.swap l hi m;have i2:=r1.at (show j<(rows.set i rows[j]).length by simpa using m);rw [List.length_set]at i2;exact⟨rows[i],rows[j],d,g,At hi,At m,h.at hi,h.at m,h.ldi l hi,h.ldi l m,l _ (OF _),l _ (OF _),u,i2,v,r2,q⟩
theorem RB.ask(h:RB H b sz ep rows)(q:bL sz rows)(l:Cv tab cv W c)(g:∀ r ∈ rows,W r){n i j:Nat}(v:rows.length=n)(hi:i<n)(m:j<n):∃(x y:List FC) (F:Nat) (d:List V) (J:aj),rows[i]?=aa x∧rows[j]?=aa y ∧
  aL H sz ab (.c (.sl b 0 n 0 ep sz)) (vi i)=aa (.c (.ptr b (i*sz) ep))∧aL H sz ab (.c (.sl b 0 n 0 ep sz)) (vi j)=aa (.c (.ptr b (j*sz) ep)) ∧
  aX H (aa sz) (.c (.ptr b (i*sz) ep))=aa (.a (x.map .f))∧aX H (aa sz) (.c (.ptr b (j*sz) ep))=aa (.a (y.map .f)) ∧
  bQ cv [.a (x.map .f),.a (y.map .f)]=aa (.fn F,d)∧Ev tab (.fn F) d H=E2 (vi (c x y)) (H++J)∧W x∧W y:=by
 subst v;obtain⟨F,d,J,s,u⟩:=l rows[i] rows[j] (g _ (OF _)) (g _ (OF _)) H;exact⟨rows[i],rows[j],F,d,J,At hi,At m,h.at hi,h.at m,h.ldi q hi,h.ldi q m,s,u.eq,g _ (OF _),g _ (OF _)⟩
theorem ag5(M:tab σ.rev=aa (WZ σ sz)){n a e:Nat}(Y:rows.length=n)(hl:n≤1000000000)(q:RB H b sz ep rows)(S:bL sz rows)(N:a<e)(O:e≤n) :
  ∃ r H',Ev tab (.fn σ.rev) [.c (.sl b 0 n 0 ep sz),vi a,vi e,cv] H r H'∧(r=.t []∧Fm b H H'∧∃ I,RB H' b sz ep I∧ea a e rows I):=by
 refine dk M rfl fun Q L=>?_;obtain⟨d,rfl⟩:∃ d,e=d+1:=⟨e-1,by omega⟩
 apply ai;simp;apply ai;simp [aO (n:=(d:Int))];refine aC ?_;refine bD (fun m s=>∃(i j:Nat) (t:T) (A:aj) (l:List (List FC)),s=⟨t,[],A⟩∧m=n+1-i∧a≤i∧j≤d∧i≤j+1∧t.g 0=.c (.sl b 0 n 0 ep sz)∧t.g 8=vi i∧t.g 9=vi j ∧
  Fm b H A∧RB A b sz ep l∧ea a (d+1) rows l) _
  ⟨a,d,_,H,rows,rfl,rfl,by omega,by omega,by omega,by simp,by simp,by simp,Fm.refl H,q,ea.refl _ _ _⟩ ?_
 rintro m s ⟨i,j,t,A,l,rfl,rfl,U,X,W,F,B,E,u,q,g⟩ Z;have v:=g.len;apply an;apply ai;simp [B,E];by_cases z:i<j
 case neg=>
  refine ak (by simp [z]) ?_;refine bp (k':=[]) rfl ?_;exact iV (L _ _ _ rfl rfl ⟨rfl,u,l,q,g⟩)
 refine al (by simp [z]) (aM ?_);obtain⟨x,y,H2,J,-,-,i1,j1,l1,l2,w1,w2,s1,j2,s2,r2,K⟩:=q.gX (g.rW S) (v.trans Y) (i:=i) (j:=j) (by omega) (by omega);refine aC ?_;apply ai;simp [F,B,E,i1,j1,l1,l2,w1,w2,s1,j2,s2,-au,-bu];apply ai;simp [B,aO (n:=(i:Int)+1)];refine aq (.inl rfl) ?_;simp [E,aO (n:=(j:Int)-1)];refine aA ?_;refine Z (n+1-(i+1)) _ (by omega) ⟨i+1,j-1,_,J,gX l i j,rfl,rfl,by omega,by omega,by omega,by simp [F],by simp,by simp;omega,u.trans K,r2,g.trans (ew (by omega) (by omega) (by omega) (by omega) (by omega))⟩
def NB(H:aj)(p:Nat):Prop:=∃ k:Int,H[p]?=aa (.box [.f (fi k)] 0)
theorem NB.push{p:Nat}(h:NB H p)(J:aj):NB (H++J) p:=by
 obtain⟨k,h⟩:=h;exact⟨k,by rw [AI (aw h)];exact h⟩
theorem afY(z:tab σ.ord=aa (xp σ sz))(m:Cv tab cv W c){n p i j:Nat}(K:rows.length=n)(s:RB H b sz ep rows)(E:bL sz rows)(A:∀ r ∈ rows,W r)(hi:i<n)(I:j<n)(v:NB H p)(L:p≠b) :
  ∃ r H',Ev tab (.fn σ.ord) [.c (.sl b 0 n 0 ep sz),vi i,vi j,.c (.ptr p 0 0),cv] H r H'∧((r=.t [vi i,vi j]∨r=.t [vi j,vi i])∧Fm p H H'∧NB H' p):=by
 refine dk z rfl fun Q u=>?_;obtain⟨x,y,F,S,J,-,-,i1,M,N,O,d,B,-,-⟩:=s.ask E m A K I hi;obtain⟨k,l⟩:=v.push J;have q:=aw l;apply ai;simp;apply an;apply ai;simp [i1,M,N,O,d,B,-au];by_cases g:c x y<0
 ·refine al (by simp [g]) (ai ?_);simp [l];apply ai;simp;refine aH (u _ _ (.t [vi j,vi i]) rfl (by simp [Km.results,bj]) ⟨.inr rfl,?_,?_⟩)
  ·exact(Fm.push _ _).trans (Fm.set _ _)
  ·exact⟨_,IS q⟩
 ·refine ak (by simp [g]) (aM (ai ?_));simp;exact aH (u _ _ (.t [vi i,vi j]) rfl (by simp [Km.results,bj]) ⟨.inl rfl,Fm.push _ _,v.push J⟩)
theorem VQ(X:tab σ.XG=aa (Bw σ sz))(S:tab σ.ord=aa (xp σ sz))(l:Cv tab cv W c){n p i j k:Nat}(e:rows.length=n)(d:RB H b sz ep rows)(Z:bL sz rows)(Y:∀ r ∈ rows,W r)(hi:i<n)(m:j<n)(a:k<n)(s:NB H p)(g:p≠b) :
  ∃ r H',Ev tab (.fn σ.XG) [.c (.sl b 0 n 0 ep sz),vi i,vi j,vi k,.c (.ptr p 0 0),cv] H r H'∧((∃ q:Nat,r=vi q∧(q=i∨q=j∨q=k))∧Fm p H H'∧NB H' p):=by
 have key:∀ {H:aj} {i j:Nat},RB H b sz ep rows→NB H p→i<n→j<n→∃(x y:Nat) (H':aj),Ev tab (.fn σ.ord) [.c (.sl b 0 n 0 ep sz),vi i,vi j,.c (.ptr p 0 0),cv] H=E2 (.t [vi x,vi y]) H'∧(x=i∧y=j∨x=j∧y=i)∧Fm p H H'∧NB H' p:=by
  intro H i j d s hi m;obtain⟨r,H',A,hr,B,z⟩:=afY S l e d Z Y hi m s g;rcases hr with rfl | rfl
  ·exact⟨i,j,H',A.eq,.inl ⟨rfl,rfl⟩,B,z⟩
  ·exact⟨j,i,H',A.eq,.inr ⟨rfl,rfl⟩,B,z⟩
 obtain⟨f,o,F,L,w,u,b1⟩:=key d s hi m;have r1:RB F b sz ep rows:=u.get d (Ne.symm g);obtain⟨h,y2,I,M,o2,v,J⟩:=key r1 b1 (show o<n by omega) a;have r2:RB I b sz ep rows:=v.get r1 (Ne.symm g);obtain⟨x3,E,t,N,o3,O,K⟩:=key r2 J (show f<n by omega) (show h<n by omega);refine dk X rfl fun Q U=>?_;apply ai;simp;apply ai;simp [L];apply ai;simp [M];apply ai;simp [N];apply ai;simp;refine aH (U _ _ (vi E) rfl (by simp [Km.results,bj]) ⟨⟨E,rfl,by omega⟩,u.trans (v.trans O),K⟩)
theorem yO(y:tab σ.vl=aa (yN σ sz))(u:tab σ.XG=aa (Bw σ sz))(v:tab σ.ord=aa (xp σ sz))(l:Cv tab cv W c){n p i:Nat}(F:rows.length=n)(K:n≤1000000000)(s:RB H b sz ep rows)(E:bL sz rows)(z:∀ r ∈ rows,W r)(J:0<i)(hi:i+1<n)(I:NB H p)(m:p≠b) :
  ∃ r H',Ev tab (.fn σ.vl) [.c (.sl b 0 n 0 ep sz),vi i,.c (.ptr p 0 0),cv] H r H'∧((∃ q:Nat,r=vi q∧i≤q+1∧q≤i+1)∧Fm p H H'∧NB H' p):=by
 obtain⟨d,rfl⟩:∃ d,i=d+1:=⟨i-1,by omega⟩
 obtain⟨r,H',g,⟨q,rfl,L⟩,B,A⟩:=VQ (i:=d) (j:=d+1) (k:=d+1+1) u v l F s E z (by omega) (by omega) hi I m;refine dk y rfl fun Q x=>?_;have g:=g.eq;simp at g;apply ai;simp;apply ai;simp [aO (n:=(d:Int)),aO (n:=(d:Int)+1+1),g];exact aH (x _ _ (vi q) rfl (by simp [Km.results,bj]) ⟨⟨q,rfl,by omega,by omega⟩,B,A⟩)
def Kp(H H':aj):Prop:=H.length≤H'.length∧∀ b:Nat,b<H.length→H'[b]?=H[b]?
theorem Kp.fm{b:Nat}{H H':aj}(h:Kp H H'):Fm b H H':=⟨h.1,fun d _ l=>h.2 d l⟩
theorem Kp.push(H J:aj):Kp H (H++J):=⟨by simp,fun b l=>AI l⟩
theorem Kp.next{H H' b:aj}{p:Nat}(h:Kp H H')(j:H.length≤p)(g:Fm p H' b):Kp H b:=⟨aqL h.1 g.1,fun d l=>(g.2 d (by omega) (arh l h.1)).trans (h.2 d l)⟩
theorem Kp.rb{H H':aj}{b sz ep:Nat}{rows:List (List FC)}(h:Kp H H')(d:RB H b sz ep rows):RB H' b sz ep rows:=by
 unfold RB at *;rw [h.2 b (aw d)];exact d
theorem acO{a b:Nat}(s:0<b)(m:a≤9223372036854775807):bM .quo (vi a) (vi b)=aa (vi ((a / b:Nat):Int)):=by
 have g:(a / b:Nat)≤a:=Nat.div_le_self a b;obtain⟨q,d⟩:=aT (a / b);have j:((a:Int) / b)=(q:Int):=by rw [d];simp
 have l:q≤a:=by rw [d];exact g
 rw [←d,xZ (by omega),Int.tdiv_eq_ediv_of_nonneg (by omega),j,aO]
theorem agV(hT:tab σ.piv=aa (WH σ sz))(Z:tab σ.vl=aa (yN σ sz))(F:tab σ.XG=aa (Bw σ sz))(I:tab σ.ord=aa (xp σ sz))(v:Cv tab cv W c){n a e:Nat}(M:rows.length=n)(hl:n≤1000000000)(m:RB H b sz ep rows)(K:bL sz rows)(J:∀ r ∈ rows,W r)(b7:a+8≤e)(b_:e≤n) :
  ∃ r H',Ev tab (.fn σ.piv) [.c (.sl b 0 n 0 ep sz),vi a,vi e,cv] H r H'∧((∃(q:Nat) (h:Int),r=.t [vi q,vi h]∧a≤q∧q<e)∧Kp H H'):=by
 obtain⟨L,rfl⟩:∃ L,e=a+L:=⟨e-a,by omega⟩
 obtain⟨d,hd⟩:=aT (L / 4);have N:bM .quo (vi (L:Int)) (vi 4)=aa (vi (d:Int)):=by
  have:=acO (a:=L) (b:=4) (by omega) (by omega);rw [hd];exact this
 have b9:=m.lt;have hw:IntKind.i64.wrap ((a:Int)+L-a)=L:=by rw [aO];omega
 refine dk hT rfl fun Q hQ=>?_;have O:∀(t:T) (s:aj) (q:Nat),t.g 11=.c (.ptr H.length 0 0)→t.g 13=vi q→a≤q→q<a+L→NB s H.length→Kp H s→WP tab σ.piv ab [.code (Ef)] ⟨t,[],s⟩ Q:=by
  intro t s q u l X Y ⟨k,hk⟩ g;apply ai;simp [u,hk];refine aC ?_;apply ai;simp;by_cases k1:k=0
  ·refine al (by simp [k1]) (ai ?_);simp [l];exact aH (hQ _ _ (.t [vi q,vi 1]) rfl (by simp [Km.results,bj]) ⟨⟨q,1,rfl,X,Y⟩,g⟩)
  refine ak (by simp [k1]) ?_;apply ai;simp;by_cases k2:k=12
  ·refine al (by simp [k2]) (ai ?_);simp [l];exact aH (hQ _ _ (.t [vi q,vi 2]) rfl (by simp [Km.results,bj]) ⟨⟨q,2,rfl,X,Y⟩,g⟩)
  refine ak (by simp [k2]) ?_;apply ai;simp [l];exact aH (hQ _ _ (.t [vi q,vi 0]) rfl (by simp [Km.results,bj]) ⟨⟨q,0,rfl,X,Y⟩,g⟩)
 have mid:∀(t:T) (s:aj) (i j k:Nat),t.g 0=.c (.sl b 0 n 0 ep sz)→t.g 3=cv→t.g 11=.c (.ptr H.length 0 0)→t.g 12=vi i→t.g 13=vi j→t.g 14=vi k→a≤i→i<a+L→a≤j→j<a+L→a≤k→k<a+L→NB s H.length→Kp H s →
   WP tab σ.piv ab [.code (WG σ),.code (Ef)] ⟨t,[],s⟩ Q:=by
  intro t s i j k g0 g3 u S l U i1 i2 j1 j2 k1 k2 x g;obtain⟨r,H3,he,⟨q,rfl,N⟩,hf,a8⟩:=VQ (p:=H.length) (i:=i) (j:=j) (k:=k) F I v M (g.rb m) K J (by omega) (by omega) (by omega) x (by omega);have he:=he.eq;refine aq (.inl rfl) ?_;simp [g0,g3,u,S,l,U,he];exact O _ H3 q (by simp [u]) (by simp) (by omega) (by omega) a8 (g.next (IT _) hf)
 apply ai;simp;apply ai;simp [hw];apply ai;simp;apply ai;simp [N,aO (n:=(d:Int)),aO (n:=(a:Int)+d)];apply ai;simp [N,aO (n:=(d:Int)*2),aO (n:=(a:Int)+d*2)];apply ai;simp [N,aO (n:=(d:Int)*3),aO (n:=(a:Int)+d*3)];apply an;apply ai;simp;refine al (by simp;omega) ?_;apply an;apply ai;simp;have x:NB (H++[.box [.f (fi 0)] 0]) H.length:=⟨0,by simp⟩
 have g:Kp H (H++[.box [.f (fi 0)] 0]):=Kp.push _ _;by_cases a_:50≤L
 case neg=>
  refine ak (by simp;omega) (aM ?_);exact mid _ _ (a+d) (a+d*2) (a+d*3) (by simp) (by simp) (by simp) (by simp) (by simp) (by simp) (by omega) (by omega) (by omega) (by omega) (by omega) (by omega) x g
 refine al (by simp;omega) ?_;obtain⟨r1,H1,A,⟨q1,rfl,c9⟩,f1,b1⟩:=yO (p:=H.length) (i:=a+d) Z F I v M hl (g.rb m) K J (by omega) (by omega) x (by omega);have y:=g.next (IT _) f1;obtain⟨r2,s,B,⟨q2,rfl,c_⟩,f2,b2⟩:=yO (p:=H.length) (i:=a+d*2) Z F I v M hl (y.rb m) K J (by omega) (by omega) b1 (by omega);have z:=y.next (IT _) f2;obtain⟨r3,H3,E,⟨q3,rfl,d6⟩,f3,b3⟩:=yO (p:=H.length) (i:=a+d*3) Z F I v M hl (z.rb m) K J (by omega) (by omega) b2 (by omega);have a9:=z.next (IT _) f3;have A:=A.eq;have B:=B.eq;have E:=E.eq;simp at A B E;apply ai;simp [A];apply ai;simp [B];refine aq (.inl rfl) ?_;simp [E];exact mid _ _ q1 q2 q3 (by simp) (by simp) (by simp) (by simp) (by simp) (by simp) (by omega) (by omega) (by omega) (by omega) (by omega) (by omega) b3 a9
end
end
section
open Go
section
variable{tab:Nat→Option aD}{σ:jg}{sz:Nat}{cv:V}{W:List FC→Prop}{c:List FC→List FC→Int}
theorem Wr{n a e i j ep b:Nat}{rows:List (List FC)}{p:List FC}{H0:aj}{k:List cd}{Q:Option av→St→Prop}(S:Cv tab cv W c)(hn:rows.length=n)(hl:n≤1000000000)(hg:bL sz rows)(hW:∀ r ∈ rows,W r)
  {t:T} {H:aj} (a8:a<i) (a_:i≤j+1) (b7:j<e) (a9:e≤n) (hp:rows[a]?=aa p)
  (A:t.g 0=.c (.sl b 0 n 0 ep sz)) (B:t.g 1=vi a) (E:t.g 4=cv) (v:t.g 12=vi i) (u:t.g 13=vi j) (l:Fm b H0 H) (g:RB H b sz ep rows)
  (next:∀(t:T) (H:aj) (K:Nat),(i≤K∧K≤j+1)→(∀(q:Nat) x,i≤q→q<K→rows[q]?=aa x→c x p<0)→(j<K∨∀ x,rows[K]?=aa x→¬ c x p<0) →
   t.g 0=.c (.sl b 0 n 0 ep sz)→t.g 1=vi a→t.g 4=cv→t.g 12=vi K→t.g 13=vi j→Fm b H0 H→RB H b sz ep rows→WP tab σ.part ab k ⟨t,[],H⟩ Q) :
  WP tab σ.part ab (.code (Wo sz)::k) ⟨t,[],H⟩ Q:=by
 refine aC ?_;refine bD (fun m s=>∃(q:Nat) (t:T) (N:aj),s=⟨t,[],N⟩∧(q+m=j+1∧i≤q)∧(∀(r:Nat) x,i≤r→r<q→rows[r]?=aa x→c x p<0) ∧
   t.g 0=.c (.sl b 0 n 0 ep sz)∧t.g 1=vi a∧t.g 4=cv∧t.g 12=vi q∧t.g 13=vi j∧Fm b H0 N∧RB N b sz ep rows) (j+1-i)
  ⟨i,_,H,rfl,by omega,fun r x Y Z=>by omega,A,B,E,v,u,l,g⟩ ?_
 rintro m s ⟨q,t,N,rfl,hm,d,A,B,E,v,u,l,g⟩ ih;apply an;apply ai;by_cases M:q≤j
 case neg=>
  simp [v,u,M];refine ak (by simp) ?_;refine bp (k':=k) rfl ?_;exact next _ _ q (by omega) d (.inl (by omega)) (by simp [A]) (by simp [B]) (by simp [E]) (by simp [v]) (by simp [u]) l g
 obtain⟨x,y,F,ar,J,U,X,i1,j1,l1,l2,L,he,-,-⟩:=g.ask hg S hW hn (i:=q) (j:=a) (by omega) (by omega);simp [v,u,M,A,B,E,i1,j1,l1,l2,L,he,-au];have ep:p=y:=by rw [hp]at X;exact arN X
 subst ep;by_cases O:c x p<0
 case neg=>
  refine ak (by simp [O]) ?_;refine bp (k':=k) rfl ?_;refine next _ _ q (by omega) d (.inr fun z I=>?_) (by simp [A]) (by simp [B]) (by simp [E]) (by simp [v]) (by simp [u]) (l.trans (Fm.push _ _)) (g.push _)
  rw [U]at I;cases I;exact O
 refine al (by simp [O]) (aM ?_);refine aC (aq (.inl rfl) ?_);simp [v,u,aO (n:=(q:Int)+1)];refine aA (ih (m-1) _ (by omega) ⟨q+1,_,_,rfl,by omega,fun r z Y Z I=>?_,by simp [A],by simp [B],by simp [E],by simp,by simp [u],l.trans (Fm.push _ _),g.push _⟩);by_cases hr:r=q
 ·subst hr;rw [U]at I;cases I;exact O
 ·exact d r z (by omega) (by omega) I
theorem Wp{n a e i j ep b:Nat}{rows:List (List FC)}{p:List FC}{H0:aj}{k:List cd}{Q:Option av→St→Prop}(S:Cv tab cv W c)(hn:rows.length=n)(hl:n≤1000000000)(hg:bL sz rows)(hW:∀ r ∈ rows,W r)
  {t:T} {H:aj} (a8:a<i) (a_:i≤j+1) (b7:j<e) (a9:e≤n) (hp:rows[a]?=aa p)
  (A:t.g 0=.c (.sl b 0 n 0 ep sz)) (B:t.g 1=vi a) (E:t.g 4=cv) (u:t.g 12=vi i) (v:t.g 13=vi j) (l:Fm b H0 H) (g:RB H b sz ep rows)
  (next:∀(t:T) (H:aj) (K:Nat),(K≤j∧i≤K+1)→(∀(q:Nat) x,K<q→q≤j→rows[q]?=aa x→¬ c x p<0)→(K<i∨∀ x,rows[K]?=aa x→¬ ¬ c x p<0) →
   t.g 0=.c (.sl b 0 n 0 ep sz)→t.g 1=vi a→t.g 4=cv→t.g 12=vi i→t.g 13=vi K→Fm b H0 H→RB H b sz ep rows→WP tab σ.part ab k ⟨t,[],H⟩ Q) :
  WP tab σ.part ab (.code (FB sz)::k) ⟨t,[],H⟩ Q:=by
 refine aC ?_;refine bD (fun m s=>∃(q:Nat) (t:T) (N:aj),s=⟨t,[],N⟩∧(q+1=i+m∧q≤j)∧(∀(r:Nat) x,q<r→r≤j→rows[r]?=aa x→¬ c x p<0) ∧
   t.g 0=.c (.sl b 0 n 0 ep sz)∧t.g 1=vi a∧t.g 4=cv∧t.g 12=vi i∧t.g 13=vi q∧Fm b H0 N∧RB N b sz ep rows) (j+1-i)
  ⟨j,_,H,rfl,by omega,fun r x Y Z=>by omega,A,B,E,u,v,l,g⟩ ?_
 rintro m s ⟨q,t,N,rfl,hm,d,A,B,E,u,v,l,g⟩ ih;apply an;apply ai;by_cases M:i≤q
 case neg=>
  simp [u,v,M];refine ak (by simp) ?_;refine bp (k':=k) rfl ?_;exact next _ _ q (by omega) d (.inl (by omega)) (by simp [A]) (by simp [B]) (by simp [E]) (by simp [u]) (by simp [v]) l g
 obtain⟨x,y,F,ar,J,U,X,i1,j1,l1,l2,L,he,-,-⟩:=g.ask hg S hW hn (i:=q) (j:=a) (by omega) (by omega);simp [u,v,M,A,B,E,i1,j1,l1,l2,L,he,-au];have ep:p=y:=by rw [hp]at X;exact arN X
 subst ep;by_cases O:c x p<0
 case pos=>
  refine ak (by simp [O]) ?_;refine bp (k':=k) rfl ?_;refine next _ _ q (by omega) d (.inr fun z I=>?_) (by simp [A]) (by simp [B]) (by simp [E]) (by simp [u]) (by simp [v]) (l.trans (Fm.push _ _)) (g.push _)
  rw [U]at I;cases I;exact fun h=>h O
 refine al (by simp [O]) (aM ?_);refine aC (aq (.inl rfl) ?_);simp [u,v,aO (n:=(q:Int)-1)];refine aA (ih (m-1) _ (by omega) ⟨q-1,_,_,rfl,by omega,fun r z Y Z I=>?_,by simp [A],by simp [B],by simp [E],by simp [u],by simp;omega,l.trans (Fm.push _ _),g.push _⟩);by_cases hr:r=q
 ·subst hr;rw [U]at I;cases I;exact O
 ·exact d r z (by omega) (by omega) I
theorem Ws{n a e i j ep b:Nat}{rows:List (List FC)}{p:List FC}{H0:aj}{k:List cd}{Q:Option av→St→Prop}(S:Cv tab cv W c)(hn:rows.length=n)(hl:n≤1000000000)(hg:bL sz rows)(hW:∀ r ∈ rows,W r)
  {t:T} {H:aj} (a8:a<i) (a_:i≤j+1) (b7:j<e) (a9:e≤n) (hp:rows[a]?=aa p)
  (A:t.g 0=.c (.sl b 0 n 0 ep sz)) (B:t.g 1=vi a) (E:t.g 4=cv) (v:t.g 12=vi i) (u:t.g 13=vi j) (l:Fm b H0 H) (g:RB H b sz ep rows)
  (next:∀(t:T) (H:aj) (K:Nat),(i≤K∧K≤j+1)→(∀(q:Nat) x,i≤q→q<K→rows[q]?=aa x→c x p<0)→(j<K∨∀ x,rows[K]?=aa x→¬ c x p<0) →
   t.g 0=.c (.sl b 0 n 0 ep sz)→t.g 1=vi a→t.g 4=cv→t.g 12=vi K→t.g 13=vi j→Fm b H0 H→RB H b sz ep rows→WP tab σ.part ab k ⟨t,[],H⟩ Q) :
  WP tab σ.part ab (.code (FD sz)::k) ⟨t,[],H⟩ Q:=by
 refine aC ?_;refine bD (fun m s=>∃(q:Nat) (t:T) (N:aj),s=⟨t,[],N⟩∧(q+m=j+1∧i≤q)∧(∀(r:Nat) x,i≤r→r<q→rows[r]?=aa x→c x p<0) ∧
   t.g 0=.c (.sl b 0 n 0 ep sz)∧t.g 1=vi a∧t.g 4=cv∧t.g 12=vi q∧t.g 13=vi j∧Fm b H0 N∧RB N b sz ep rows) (j+1-i)
  ⟨i,_,H,rfl,by omega,fun r x Y Z=>by omega,A,B,E,v,u,l,g⟩ ?_
 rintro m s ⟨q,t,N,rfl,hm,d,A,B,E,v,u,l,g⟩ ih;apply an;apply ai;by_cases M:q≤j
 case neg=>
  simp [v,u,M];refine ak (by simp) ?_;refine bp (k':=k) rfl ?_;exact next _ _ q (by omega) d (.inl (by omega)) (by simp [A]) (by simp [B]) (by simp [E]) (by simp [v]) (by simp [u]) l g
 obtain⟨x,y,F,ar,J,U,X,i1,j1,l1,l2,L,he,-,-⟩:=g.ask hg S hW hn (i:=q) (j:=a) (by omega) (by omega);simp [v,u,M,A,B,E,i1,j1,l1,l2,L,he,-au];have ep:p=y:=by rw [hp]at X;exact arN X
 subst ep;by_cases O:c x p<0
 case neg=>
  refine ak (by simp [O]) ?_;refine bp (k':=k) rfl ?_;refine next _ _ q (by omega) d (.inr fun z I=>?_) (by simp [A]) (by simp [B]) (by simp [E]) (by simp [v]) (by simp [u]) (l.trans (Fm.push _ _)) (g.push _)
  rw [U]at I;cases I;exact O
 refine al (by simp [O]) (aM ?_);refine aC (aq (.inl rfl) ?_);simp [v,u,aO (n:=(q:Int)+1)];refine aA (ih (m-1) _ (by omega) ⟨q+1,_,_,rfl,by omega,fun r z Y Z I=>?_,by simp [A],by simp [B],by simp [E],by simp,by simp [u],l.trans (Fm.push _ _),g.push _⟩);by_cases hr:r=q
 ·subst hr;rw [U]at I;cases I;exact O
 ·exact d r z (by omega) (by omega) I
theorem Wq{n a e i j ep b:Nat}{rows:List (List FC)}{p:List FC}{H0:aj}{k:List cd}{Q:Option av→St→Prop}(S:Cv tab cv W c)(hn:rows.length=n)(hl:n≤1000000000)(hg:bL sz rows)(hW:∀ r ∈ rows,W r)
  {t:T} {H:aj} (a8:a<i) (a_:i≤j+1) (b7:j<e) (a9:e≤n) (hp:rows[a]?=aa p)
  (A:t.g 0=.c (.sl b 0 n 0 ep sz)) (B:t.g 1=vi a) (E:t.g 4=cv) (u:t.g 12=vi i) (v:t.g 13=vi j) (l:Fm b H0 H) (g:RB H b sz ep rows)
  (next:∀(t:T) (H:aj) (K:Nat),(K≤j∧i≤K+1)→(∀(q:Nat) x,K<q→q≤j→rows[q]?=aa x→¬ c x p<0)→(K<i∨∀ x,rows[K]?=aa x→¬ ¬ c x p<0) →
   t.g 0=.c (.sl b 0 n 0 ep sz)→t.g 1=vi a→t.g 4=cv→t.g 12=vi i→t.g 13=vi K→Fm b H0 H→RB H b sz ep rows→WP tab σ.part ab k ⟨t,[],H⟩ Q) :
  WP tab σ.part ab (.code (FE sz)::k) ⟨t,[],H⟩ Q:=by
 refine aC ?_;refine bD (fun m s=>∃(q:Nat) (t:T) (N:aj),s=⟨t,[],N⟩∧(q+1=i+m∧q≤j)∧(∀(r:Nat) x,q<r→r≤j→rows[r]?=aa x→¬ c x p<0) ∧
   t.g 0=.c (.sl b 0 n 0 ep sz)∧t.g 1=vi a∧t.g 4=cv∧t.g 12=vi i∧t.g 13=vi q∧Fm b H0 N∧RB N b sz ep rows) (j+1-i)
  ⟨j,_,H,rfl,by omega,fun r x Y Z=>by omega,A,B,E,u,v,l,g⟩ ?_
 rintro m s ⟨q,t,N,rfl,hm,d,A,B,E,u,v,l,g⟩ ih;apply an;apply ai;by_cases M:i≤q
 case neg=>
  simp [u,v,M];refine ak (by simp) ?_;refine bp (k':=k) rfl ?_;exact next _ _ q (by omega) d (.inl (by omega)) (by simp [A]) (by simp [B]) (by simp [E]) (by simp [u]) (by simp [v]) l g
 obtain⟨x,y,F,ar,J,U,X,i1,j1,l1,l2,L,he,-,-⟩:=g.ask hg S hW hn (i:=q) (j:=a) (by omega) (by omega);simp [u,v,M,A,B,E,i1,j1,l1,l2,L,he,-au];have ep:p=y:=by rw [hp]at X;exact arN X
 subst ep;by_cases O:c x p<0
 case pos=>
  refine ak (by simp [O]) ?_;refine bp (k':=k) rfl ?_;refine next _ _ q (by omega) d (.inr fun z I=>?_) (by simp [A]) (by simp [B]) (by simp [E]) (by simp [u]) (by simp [v]) (l.trans (Fm.push _ _)) (g.push _)
  rw [U]at I;cases I;exact fun h=>h O
 refine al (by simp [O]) (aM ?_);refine aC (aq (.inl rfl) ?_);simp [u,v,aO (n:=(q:Int)-1)];refine aA (ih (m-1) _ (by omega) ⟨q-1,_,_,rfl,by omega,fun r z Y Z I=>?_,by simp [A],by simp [B],by simp [E],by simp [u],by simp;omega,l.trans (Fm.push _ _),g.push _⟩);by_cases hr:r=q
 ·subst hr;rw [U]at I;cases I;exact O
 ·exact d r z (by omega) (by omega) I
theorem agG{n a e i j ep b:Nat}{rows:List (List FC)}{p:List FC}{H0:aj}{k:List cd}{Q:Option av→St→Prop}(S:Cv tab cv W c)(hn:rows.length=n)(hl:n≤1000000000)(hg:bL sz rows)(hW:∀ r ∈ rows,W r)
  {t:T} {H:aj} (a8:a<i) (a_:i≤j+1) (b7:j<e) (a9:e≤n) (hp:rows[a]?=aa p)
  (A:t.g 0=.c (.sl b 0 n 0 ep sz)) (B:t.g 1=vi a) (E:t.g 4=cv) (v:t.g 11=vi i) (u:t.g 12=vi j) (l:Fm b H0 H) (g:RB H b sz ep rows)
  (next:∀(t:T) (H:aj) (K:Nat),(i≤K∧K≤j+1)→(∀(q:Nat) x,i≤q→q<K→rows[q]?=aa x→¬ c p x<0)→(j<K∨∀ x,rows[K]?=aa x→¬ ¬ c p x<0) →
   t.g 0=.c (.sl b 0 n 0 ep sz)→t.g 1=vi a→t.g 4=cv→t.g 11=vi K→t.g 12=vi j→Fm b H0 H→RB H b sz ep rows→WP tab σ.Wz ab k ⟨t,[],H⟩ Q) :
  WP tab σ.Wz ab (.code (WA sz)::k) ⟨t,[],H⟩ Q:=by
 refine aC ?_;refine bD (fun m s=>∃(q:Nat) (t:T) (N:aj),s=⟨t,[],N⟩∧(q+m=j+1∧i≤q)∧(∀(r:Nat) x,i≤r→r<q→rows[r]?=aa x→¬ c p x<0) ∧
   t.g 0=.c (.sl b 0 n 0 ep sz)∧t.g 1=vi a∧t.g 4=cv∧t.g 11=vi q∧t.g 12=vi j∧Fm b H0 N∧RB N b sz ep rows) (j+1-i)
  ⟨i,_,H,rfl,by omega,fun r x Y Z=>by omega,A,B,E,v,u,l,g⟩ ?_
 rintro m s ⟨q,t,N,rfl,hm,d,A,B,E,v,u,l,g⟩ ih;apply an;apply ai;by_cases M:q≤j
 case neg=>
  simp [v,u,M];refine ak (by simp) ?_;refine bp (k':=k) rfl ?_;exact next _ _ q (by omega) d (.inl (by omega)) (by simp [A]) (by simp [B]) (by simp [E]) (by simp [v]) (by simp [u]) l g
 obtain⟨x,y,F,ar,J,U,X,i1,j1,l1,l2,L,he,-,-⟩:=g.ask hg S hW hn (i:=a) (j:=q) (by omega) (by omega);simp [v,u,M,A,B,E,i1,j1,l1,l2,L,he,-au];have ep:p=x:=by rw [hp]at U;exact arN U
 subst ep;by_cases O:c p y<0
 case pos=>
  refine ak (by simp [O]) ?_;refine bp (k':=k) rfl ?_;refine next _ _ q (by omega) d (.inr fun z I=>?_) (by simp [A]) (by simp [B]) (by simp [E]) (by simp [v]) (by simp [u]) (l.trans (Fm.push _ _)) (g.push _)
  rw [X]at I;cases I;exact fun h=>h O
 refine al (by simp [O]) (aM ?_);refine aC (aq (.inl rfl) ?_);simp [v,u,aO (n:=(q:Int)+1)];refine aA (ih (m-1) _ (by omega) ⟨q+1,_,_,rfl,by omega,fun r z Y Z I=>?_,by simp [A],by simp [B],by simp [E],by simp,by simp [u],l.trans (Fm.push _ _),g.push _⟩);by_cases hr:r=q
 ·subst hr;rw [X]at I;cases I;exact O
 ·exact d r z (by omega) (by omega) I
theorem agE{n a e i j ep b:Nat}{rows:List (List FC)}{p:List FC}{H0:aj}{k:List cd}{Q:Option av→St→Prop}(S:Cv tab cv W c)(hn:rows.length=n)(hl:n≤1000000000)(hg:bL sz rows)(hW:∀ r ∈ rows,W r)
  {t:T} {H:aj} (a8:a<i) (a_:i≤j+1) (b7:j<e) (a9:e≤n) (hp:rows[a]?=aa p)
  (A:t.g 0=.c (.sl b 0 n 0 ep sz)) (B:t.g 1=vi a) (E:t.g 4=cv) (u:t.g 11=vi i) (v:t.g 12=vi j) (l:Fm b H0 H) (g:RB H b sz ep rows)
  (next:∀(t:T) (H:aj) (K:Nat),(K≤j∧i≤K+1)→(∀(q:Nat) x,K<q→q≤j→rows[q]?=aa x→c p x<0)→(K<i∨∀ x,rows[K]?=aa x→¬ c p x<0) →
   t.g 0=.c (.sl b 0 n 0 ep sz)→t.g 1=vi a→t.g 4=cv→t.g 11=vi i→t.g 12=vi K→Fm b H0 H→RB H b sz ep rows→WP tab σ.Wz ab k ⟨t,[],H⟩ Q) :
  WP tab σ.Wz ab (.code (WB sz)::k) ⟨t,[],H⟩ Q:=by
 refine aC ?_;refine bD (fun m s=>∃(q:Nat) (t:T) (N:aj),s=⟨t,[],N⟩∧(q+1=i+m∧q≤j)∧(∀(r:Nat) x,q<r→r≤j→rows[r]?=aa x→c p x<0) ∧
   t.g 0=.c (.sl b 0 n 0 ep sz)∧t.g 1=vi a∧t.g 4=cv∧t.g 11=vi i∧t.g 12=vi q∧Fm b H0 N∧RB N b sz ep rows) (j+1-i)
  ⟨j,_,H,rfl,by omega,fun r x Y Z=>by omega,A,B,E,u,v,l,g⟩ ?_
 rintro m s ⟨q,t,N,rfl,hm,d,A,B,E,u,v,l,g⟩ ih;apply an;apply ai;by_cases M:i≤q
 case neg=>
  simp [u,v,M];refine ak (by simp) ?_;refine bp (k':=k) rfl ?_;exact next _ _ q (by omega) d (.inl (by omega)) (by simp [A]) (by simp [B]) (by simp [E]) (by simp [u]) (by simp [v]) l g
 obtain⟨x,y,F,ar,J,U,X,i1,j1,l1,l2,L,he,-,-⟩:=g.ask hg S hW hn (i:=a) (j:=q) (by omega) (by omega);simp [u,v,M,A,B,E,i1,j1,l1,l2,L,he,-au];have ep:p=x:=by rw [hp]at U;exact arN U
 subst ep;by_cases O:c p y<0
 case neg=>
  refine ak (by simp [O]) ?_;refine bp (k':=k) rfl ?_;refine next _ _ q (by omega) d (.inr fun z I=>?_) (by simp [A]) (by simp [B]) (by simp [E]) (by simp [u]) (by simp [v]) (l.trans (Fm.push _ _)) (g.push _)
  rw [X]at I;cases I;exact O
 refine al (by simp [O]) (aM ?_);refine aC (aq (.inl rfl) ?_);simp [u,v,aO (n:=(q:Int)-1)];refine aA (ih (m-1) _ (by omega) ⟨q-1,_,_,rfl,by omega,fun r z Y Z I=>?_,by simp [A],by simp [B],by simp [E],by simp [u],by simp;omega,l.trans (Fm.push _ _),g.push _⟩);by_cases hr:r=q
 ·subst hr;rw [X]at I;cases I;exact O
 ·exact d r z (by omega) (by omega) I
def vf(c:List FC→List FC→Int)(a i j e:Nat)(p:List FC)(l:List (List FC)):Prop:=
 l[a]?=aa p∧(∀(k:Nat) x,a<k→k<i→l[k]?=aa x→c x p<0)∧(∀(k:Nat) x,j<k→k<e→l[k]?=aa x→¬ c x p<0)
def lO(c:List FC→List FC→Int)(a e m:Nat)(l:List (List FC)):Prop:=
 ∃ p,l[m]?=aa p∧(∀(k:Nat) x,a≤k→k<m→l[k]?=aa x→c x p<0)∧(∀(k:Nat) x,m<k→k<e→l[k]?=aa x→¬ c x p<0)
theorem vf.swap{a i j e:Nat}{p:List FC}{l:List (List FC)}(h:vf c a i j e p l)(y:a<i)(z:i<j)(d:j<l.length)(hi:∀ x,l[i]?=aa x→¬ c x p<0)(A:∀ x,l[j]?=aa x→c x p<0):vf c a (i+1) (j-1) e p (gX l i j):=by
 obtain⟨s,u,v⟩:=h;have g:∀ k,(gX l i j)[k]?=if k=j then l[i]? else if k=i then l[j]? else l[k]?:=fun k=>gi (by omega) d k;refine⟨?_,fun k x m q b=>?_,fun k x m q b=>?_⟩
 ·rw [g,aY (by omega),aY (by omega)];exact s
 ·rw [g,aY (by omega)]at b;by_cases e:k=i
  ·rw [bh e]at b;exact A x b
  ·rw [aY e]at b;exact u k x m (by omega) b
 ·rw [g]at b;by_cases e:k=j
  ·rw [bh e]at b;exact hi x b
  ·rw [aY e,aY (by omega)]at b;exact v k x (by omega) q b
theorem vf.done{a i j e:Nat}{p:List FC}{l:List (List FC)}(h:vf c a i j e p l)(y:a≤j)(z:i=j+1)(d:j<l.length):lO c a e j (gX l j a):=by
 obtain⟨m,q,v⟩:=h;have g:∀ k,(gX l j a)[k]?=if k=a then l[j]? else if k=j then l[a]? else l[k]?:=fun k=>gi d (by omega) k;refine⟨p,?_,fun k x s u b=>?_,fun k x s u b=>?_⟩
 ·rw [g];by_cases e:j=a
  ·rw [bh e,e];exact m
  ·rw [aY e,bh rfl];exact m
 ·rw [g]at b;by_cases e:k=a
  ·rw [bh e]at b;exact q j x (by omega) (by omega) b
  ·rw [aY e,aY (by omega)]at b;exact q k x (by omega) (by omega) b
 ·rw [g,aY (by omega),aY (by omega)]at b;exact v k x s u b
theorem acj{H:aj}{rows:List (List FC)}{n a e v b ep:Nat}(hT:tab σ.part=aa (Ea σ sz))(a9:Cv tab cv W c)(hn:rows.length=n)(hl:n≤1000000000)(g:RB H b sz ep rows)(hg:bL sz rows)(hW:∀ r ∈ rows,W r)(d9:a<e)(a_:e≤n)(d_:a≤v)(e_:v<e) :
  ∃ r H',Ev tab (.fn σ.part) [.c (.sl b 0 n 0 ep sz),vi a,vi e,vi v,cv] H r H'∧((∃(m:Nat) (w:Bool),r=.t [vi m,vb w]∧a≤m∧m<e∧Fm b H H'∧∃ l',RB H' b sz ep l'∧ea a e rows l'∧lO c a e m l')):=by
 refine dk hT rfl fun Q hQ=>?_;obtain⟨d,rfl⟩:∃ d,e=d+1:=⟨e-1,by omega⟩
 obtain⟨x,p,H1,H2,F,hp,i1,j1,l1,l2,w1,w2,s1,j2,s2,r2,f2⟩:=g.gX hg hn (i:=a) (j:=v) (by omega) (by omega);have B:ea a (d+1) rows (gX rows a v):=ew (by omega) (by omega) (by omega) (by omega) (by omega);have b7:vf c a (a+1) d (d+1) p (gX rows a v):=by
  refine⟨?_,fun k x k1 k2=>by omega,fun k x k1 k2=>by omega⟩;rw [gi (by omega) (by omega)];by_cases e:a=v
  ·rw [bh e,e];exact hp
  ·rw [aY e,bh rfl];exact hp
 apply ai;simp;apply ai;simp [i1,j1,l1,l2,w1,w2,s1,j2,s2,-au,-bu];apply ai;simp [aO (n:=(a:Int)+1),aO (n:=(d:Int))];apply an;have I:∀(w:Bool) (t:T) (H3:aj) (l:List (List FC)) (i j:Nat),a≤j→j<d+1→i=j+1→vf c a i j (d+1) p l→ea a (d+1) rows l→Fm b H H3→RB H3 b sz ep l →
   ∃(x y:List FC) (H4 H5:aj),aL H3 sz ab (.c (.sl b 0 n 0 ep sz)) (vi j)=aa (.c (.ptr b (j*sz) ep))∧aL H3 sz ab (.c (.sl b 0 n 0 ep sz)) (vi a)=aa (.c (.ptr b (a*sz) ep)) ∧
    aX H3 (aa sz) (.c (.ptr b (j*sz) ep))=aa (.a (x.map .f))∧aX H3 (aa sz) (.c (.ptr b (a*sz) ep))=aa (.a (y.map .f))∧x.length=sz∧y.length=sz ∧
    df H3 (.ptr b (j*sz) ep) (y.map .f)=aa H4∧aL H4 sz ab (.c (.sl b 0 n 0 ep sz)) (vi a)=aa (.c (.ptr b (a*sz) ep))∧df H4 (.ptr b (a*sz) ep) (x.map .f)=aa H5 ∧
    (a≤j∧j<d+1∧Fm b H H5∧∃ l',RB H5 b sz ep l'∧ea a (d+1) rows l'∧lO c a (d+1) j l'):=by
  intro w t H3 l i j h1 h2 h3 O u q g;have M:=u.len;obtain⟨x,y,H4,H5,-,-,i1,j1,l1,l2,w1,w2,s1,j2,s2,r2,f2⟩:=g.gX (u.rW hg) (M.trans hn) (i:=j) (j:=a) (by omega) (by omega);exact⟨x,y,H4,H5,i1,j1,l1,l2,w1,w2,s1,j2,s2,h1,h2,q.trans f2,_,r2,u.trans (ew (by omega) (by omega) (by omega) (by omega) (by omega)),O.done h1 h3 (by omega)⟩
 have E:∀ {l},ea a (d+1) rows l→bL sz l:=fun h=>h.rW hg;have U:∀ {l},ea a (d+1) rows l→∀ r ∈ l,W r:=fun h r hr=>hW r (h.1.mem_iff.1 hr);refine Wr a9 (B.len.trans hn) hl (E B) (U B) (i:=a+1) (j:=d) (e:=d+1) (H0:=H) (by omega) (by omega) (by omega) a_ b7.1 (by simp) (by simp) (by simp) (by simp) (by simp) f2 r2 ?_;intro t H3 z b_ N S X Z g4 Y L q g;apply an;refine Wp a9 (B.len.trans hn) hl (E B) (U B) (i:=z) (j:=d) (e:=d+1) (H0:=H) (by omega) (by omega) (by omega) a_ b7.1 X Z g4 Y L q g ?_;intro t H4 A c_ J K X Z g4 Y L q g;have a8:vf c a z A (d+1) p (gX rows a v):=⟨b7.1,fun k x k1 k2 F=>N k x (by omega) k2 F,fun k x k1 k2 F=>J k x k1 (by omega) F⟩
 apply an;apply ai;simp [Y,L];by_cases o:A<z
 ·obtain⟨x,y,H5,H6,i1,j1,l1,l2,w1,w2,s1,j2,s2,f⟩:=I ae t H4 _ z A (by omega) (by omega) (by omega) a8 B q g;refine al (by simp [o]) (ai ?_);simp [X,Z,L,i1,j1,l1,l2,w1,w2,s1,j2,s2,-au,-bu];apply ai;simp [L];exact aH (hQ _ _ (.t [vi A,vb ae]) rfl (by simp [Km.results,bj]) ⟨A,ae,rfl,f⟩)
 refine a5 (by simp [o]) ?_;have ni:∀ x,(gX rows a v)[z]?=aa x→¬ c x p<0:=by
  rcases S with h | h
  ·omega
  ·exact h
 have nj:∀ x,(gX rows a v)[A]?=aa x→c x p<0:=by
  rcases K with h | h
  ·omega
  ·exact fun x F=>Classical.not_not.1 (h x F)
 have d8:z≠A:=by
  rintro rfl;have F:=At (l:=gX rows a v) (i:=z) (by rw [zv];omega);exact ni _ F (nj _ F)
 obtain⟨x5,y5,H5,H6,-,-,i1,j1,l1,l2,w1,w2,s1,j2,s2,r5,f5⟩:=g.gX (E B) (B.len.trans hn) (i:=z) (j:=A) (by omega) (by omega);apply ai;simp [X,Y,L,i1,j1,l1,l2,w1,w2,s1,j2,s2,-au,-bu];apply ai;simp [Y,aO (n:=(z:Int)+1)];apply ai;simp [L,aO (n:=(A:Int)-1)];apply an;refine aC ?_;refine bD (fun m s=>∃(i j:Nat) (t:T) (H1:aj) (l:List (List FC)),s=⟨t,[],H1⟩∧m=j+1-i∧a<i∧i≤j+1∧j<d+1∧t.g 0=.c (.sl b 0 n 0 ep sz)∧t.g 1=vi a∧t.g 4=cv∧t.g 12=vi i∧t.g 13=vi j ∧
   Fm b H H1∧RB H1 b sz ep l∧ea a (d+1) rows l∧vf c a i j (d+1) p l) _
  ⟨z+1,A-1,_,H6,_,rfl,rfl,by omega,by omega,by omega,by simp [X],by simp [Z],by simp [g4],by simp,by simp;omega,q.trans f5,r5,
   B.trans (ew (by omega) (by omega) (by omega) (by omega) (by rw [zv];omega)),a8.swap (by omega) (by omega) (by rw [zv];omega) ni nj⟩ ?_
 rintro m s ⟨i,j,t,H1,l,rfl,rfl,b9,c9,d6,X,Z,g4,Y,L,q,g,u,O⟩ ih;have M:=u.len;refine aC ?_;apply an;refine Ws a9 (M.trans hn) hl (E u) (U u) (i:=i) (j:=j) (e:=d+1) (H0:=H) b9 c9 d6 a_ O.1 X Z g4 Y L q g ?_;intro t H3 z b_ N S X Z g4 Y L q g;apply an;refine Wq a9 (M.trans hn) hl (E u) (U u) (i:=z) (j:=j) (e:=d+1) (H0:=H) (by omega) (by omega) (by omega) a_ O.1 X Z g4 Y L q g ?_;intro t H4 A c_ J K X Z g4 Y L q g;have a8:vf c a z A (d+1) p l:=⟨O.1,fun k x k1 k2 F=>by
   by_cases hk:k<i
   ·exact O.2.1 k x k1 hk F
   ·exact N k x (by omega) k2 F,fun k x k1 k2 F=>by
   by_cases hk:j<k
   ·exact O.2.2 k x hk k2 F
   ·exact J k x k1 (by omega) F⟩
 apply an;apply ai;simp [Y,L];by_cases o:A<z
 ·obtain⟨x,y,H5,H6,i1,j1,l1,l2,w1,w2,s1,j2,s2,f⟩:=I ag t H4 _ z A (by omega) (by omega) (by omega) a8 u q g;refine al (by simp [o]) ?_;refine bp (k':=[.code (FF sz)]) rfl ?_;apply ai;simp [X,Z,L,i1,j1,l1,l2,w1,w2,s1,j2,s2,-au,-bu];apply ai;simp [L];exact aH (hQ _ _ (.t [vi A,vb ag]) rfl (by simp [Km.results,bj]) ⟨A,ag,rfl,f⟩)
 refine a5 (by simp [o]) ?_;have ni:∀ x,l[z]?=aa x→¬ c x p<0:=by
  rcases S with h | h
  ·omega
  ·exact h
 have nj:∀ x,l[A]?=aa x→c x p<0:=by
  rcases K with h | h
  ·omega
  ·exact fun x F=>Classical.not_not.1 (h x F)
 have d8:z≠A:=by
  rintro rfl;have F:=At (l:=l) (i:=z) (by omega);exact ni _ F (nj _ F)
 obtain⟨x5,y5,H5,H6,-,-,i1,j1,l1,l2,w1,w2,s1,j2,s2,r5,f5⟩:=g.gX (E u) (M.trans hn) (i:=z) (j:=A) (by omega) (by omega);apply ai;simp [X,Y,L,i1,j1,l1,l2,w1,w2,s1,j2,s2,-au,-bu];apply ai;simp [Y,aO (n:=(z:Int)+1)];refine aq (.inl rfl) ?_;simp [L,aO (n:=(A:Int)-1)];exact aA (ih _ _ (by omega) ⟨z+1,A-1,_,H6,_,rfl,rfl,by omega,by omega,by omega,by simp [X],by simp [Z],by simp [g4],by simp,by simp;omega,q.trans f5,r5,
   u.trans (ew (by omega) (by omega) (by omega) (by omega) (by omega)),a8.swap (by omega) (by omega) (by omega) ni nj⟩)
end
end
section
open Go
section
variable{tab:Nat→Option aD}{σ:jg}{sz:Nat}{cv:V}{W:List FC→Prop}{c:List FC→List FC→Int}
def JA(c:List FC→List FC→Int)(a i j e:Nat)(p:List FC)(l:List (List FC)):Prop:=
 l[a]?=aa p∧(∀(k:Nat) x,a<k→k<i→l[k]?=aa x→¬ c p x<0)∧(∀(k:Nat) x,j<k→k<e→l[k]?=aa x→c p x<0)
theorem JA.swap{a i j e:Nat}{p:List FC}{l:List (List FC)}(h:JA c a i j e p l)(y:a<i)(z:i<j)(d:j<l.length)(hi:∀ x,l[i]?=aa x→c p x<0)(A:∀ x,l[j]?=aa x→¬ c p x<0):JA c a (i+1) (j-1) e p (gX l i j):=by
 obtain⟨s,u,v⟩:=h;have g:∀ k,(gX l i j)[k]?=if k=j then l[i]? else if k=i then l[j]? else l[k]?:=fun k=>gi (by omega) d k;refine⟨?_,fun k x m q b=>?_,fun k x m q b=>?_⟩
 ·rw [g,aY (by omega),aY (by omega)];exact s
 ·rw [g,aY (by omega)]at b;by_cases e:k=i
  ·rw [bh e]at b;exact A x b
  ·rw [aY e]at b;exact u k x m (by omega) b
 ·rw [g]at b;by_cases e:k=j
  ·rw [bh e]at b;exact hi x b
  ·rw [aY e,aY (by omega)]at b;exact v k x (by omega) q b
theorem agF{H:aj}{rows:List (List FC)}{n a e v b ep:Nat}{p:List FC}(hT:tab σ.Wz=aa (WD σ sz))(a8:Cv tab cv W c)(b_:uU W c)(hn:rows.length=n)(hl:n≤1000000000)(g:RB H b sz ep rows)(hg:bL sz rows)(hW:∀ r ∈ rows,W r)(d9:a<e)(a9:e≤n)(d_:a≤v)(g_:v<e)(F:rows[v]?=aa p) :
  ∃ r H',Ev tab (.fn σ.Wz) [.c (.sl b 0 n 0 ep sz),vi a,vi e,vi v,cv] H r H'∧((∃(m:Nat),r=vi m∧a<m∧m≤e∧Fm b H H'∧∃ l',RB H' b sz ep l'∧ea a e rows l'∧(∀(k:Nat) x,a≤k→k<m→l'[k]?=aa x→¬ c p x<0)∧(∀(k:Nat) x,m≤k→k<e→l'[k]?=aa x→c p x<0))):=by
 refine dk hT rfl fun Q hQ=>?_;obtain⟨d,rfl⟩:∃ d,e=d+1:=⟨e-1,by omega⟩
 obtain⟨x,p',H1,H2,I,b7,i1,j1,l1,l2,w1,w2,s1,j2,s2,r2,f2⟩:=g.gX hg hn (i:=a) (j:=v) (by omega) (by omega);obtain rfl:p=p':=by rw [F]at b7;exact arN b7
 have Y:¬ c p p<0:=fun h=>b_.Dk (hW _ (api F)) (hW _ (api F)) h h;have d8:ea a (d+1) rows (gX rows a v):=ew (by omega) (by omega) (by omega) (by omega) (by omega);have d6:JA c a (a+1) d (d+1) p (gX rows a v):=by
  refine⟨?_,fun k x o M=>by omega,fun k x o M=>by omega⟩;rw [gi (by omega) (by omega)];by_cases e:a=v
  ·rw [bh e,e];exact F
  ·rw [aY e,bh rfl];exact F
 apply ai;simp;apply ai;simp [i1,j1,l1,l2,w1,w2,s1,j2,s2,-au,-bu];apply ai;simp [aO (n:=(a:Int)+1),aO (n:=(d:Int))];apply an;have A:∀ {l},ea a (d+1) rows l→bL sz l:=fun h=>h.rW hg;have S:∀ {l},ea a (d+1) rows l→∀ r ∈ l,W r:=fun h r hr=>hW r (h.1.mem_iff.1 hr);refine aC ?_;refine bD (fun m s=>∃(i j:Nat) (t:T) (H1:aj) (l:List (List FC)),s=⟨t,[],H1⟩∧m=j+1-i∧a<i∧i≤j+1∧j<d+1∧t.g 0=.c (.sl b 0 n 0 ep sz)∧t.g 1=vi a∧t.g 4=cv∧t.g 11=vi i∧t.g 12=vi j ∧
   Fm b H H1∧RB H1 b sz ep l∧ea a (d+1) rows l∧JA c a i j (d+1) p l) _
  ⟨a+1,d,_,H2,_,rfl,rfl,by omega,by omega,by omega,by simp,by simp,by simp,by simp,by simp,f2,r2,d8,d6⟩ ?_
 rintro m s ⟨i,j,t,H1,l,rfl,rfl,b9,c9,c_,w,g1,g4,O,U,y,g,u,E⟩ ih;have B:=u.len;refine aC ?_;apply an;refine agG a8 (B.trans hn) hl (A u) (S u) (i:=i) (j:=j) (e:=d+1) (H0:=H) b9 c9 c_ a9 E.1 w g1 g4 O U y g ?_;intro t H3 J e_ X Z w g1 g4 O U y g;apply an;refine agE a8 (B.trans hn) hl (A u) (S u) (i:=J) (j:=j) (e:=d+1) (H0:=H) (by omega) (by omega) (by omega) a9 E.1 w g1 g4 O U y g ?_;intro t H4 f f9 K L w g1 g4 O U y g;have N:JA c a J f (d+1) p l:=⟨E.1,fun k x o M I=>by
   by_cases hk:k<i
   ·exact E.2.1 k x o hk I
   ·exact X k x (by omega) M I,fun k x o M I=>by
   by_cases hk:j<k
   ·exact E.2.2 k x hk M I
   ·exact K k x o (by omega) I⟩
 apply an;apply ai;simp [O,U];by_cases a_:f<J
 ·refine al (by simp [a_]) ?_;refine bp (k':=[.code (WC)]) rfl ?_;apply ai;simp [O];refine aH (hQ _ _ (vi J) rfl (by simp [Km.results,bj]) ⟨J,rfl,by omega,by omega,y,l,g,u,fun q z o M hz=>?_,fun q z o M hz=>N.2.2 q z (by omega) M hz⟩);by_cases e:q=a
  ·rw [e,N.1]at hz;cases hz;exact Y
  ·exact N.2.1 q z (by omega) M hz
 refine a5 (by simp [a_]) ?_;have ni:∀ x,l[J]?=aa x→c p x<0:=by
  rcases Z with h | h
  ·omega
  ·exact fun x I=>Classical.not_not.1 (h x I)
 have nj:∀ x,l[f]?=aa x→¬ c p x<0:=by
  rcases L with h | h
  ·omega
  ·exact h
 have f_:J≠f:=by
  rintro rfl;have I:=At (l:=l) (i:=J) (by omega);exact nj _ I (ni _ I)
 obtain⟨x5,y5,H5,H6,-,-,i1,j1,l1,l2,w1,w2,s1,j2,s2,r5,f5⟩:=g.gX (A u) (B.trans hn) (i:=J) (j:=f) (by omega) (by omega);apply ai;simp [w,O,U,i1,j1,l1,l2,w1,w2,s1,j2,s2,-au,-bu];apply ai;simp [O,aO (n:=(J:Int)+1)];refine aq (.inl rfl) ?_;simp [U,aO (n:=(f:Int)-1)];exact aA (ih _ _ (by omega) ⟨J+1,f-1,_,H6,_,rfl,rfl,by omega,by omega,by omega,by simp [w],by simp [g1],by simp [g4],by simp,by simp;omega,y.trans f5,r5,
   u.trans (ew (by omega) (by omega) (by omega) (by omega) (by omega)),N.swap (by omega) (by omega) (by omega) ni nj⟩)
end
end
end Km
