/-
  Our own small machine for Go code by value, held ph the model: part 4. No program in AJ.
-/
import Derived.Test.YthkmdpgdicohdaaGreatK3
import Derived.ChangeArms
import Derived.DataReads
import Derived.Deep.Slices
import Derived.ProofKit
import Derived.RowKit3
import Derived.Below
import Derived.Carry
import Derived.Laws.IdiomArrays
open Option renaming some → aa,none → ab
open Bool renaming true → ae,false → ag
open Nat renaming le_refl → IT, add_mul → ac3, mul_le_mul_right → adi, min_eq_left → adQ, le_max_left → acV, le_max_right → acQ, le_trans → acT, lt_of_lt_of_le → adb, zero_add → adt
open Option renaming bind_some → acY, map_eq_some_iff → IN
open List renaming mem_cons_of_mem → acM, flatten_cons → ac4, length_append → acZ, length_cons → adf, mem_cons_self → acK, drop_append → aev, take_succ_cons → aeq, take_of_length_le → acS, mem_map → adx, getElem?_eq_some_iff → If, mem_of_getElem? → acI, drop_drop → adT, drop_eq_getElem_cons → acP, getElem?_eq_getElem → By, length_map → ac1, length_drop → adg, map_append → adP, take_append_of_le_length → adk, drop_zero → ady, getElem?_map → adh, findIdx?_eq_some_iff_getElem → aeg, getElem_mem → acE, map_cons → ac5, getElem?_append_left → AT, getElem?_set_ne → AI, getElem?_set_self → OF, flatten_append → aer, getElem?_append_right → acR, take_append_drop → adD, take_take → ad7, append_nil → adZ, getElem?_of_mem → ac9, mem_cons → ac2, mem_append_left → adj, mem_append_right → adE, append_assoc → adG, getElem?_take → acX, getElem?_drop → acO, nil_append → ad0
open Bool renaming and_eq_true → BY
open Option.some renaming injEq → sh, inj → adz
set_option linter.unusedVariables false
set_option linter.constructorNameAsVariable false
set_option linter.unusedSimpArgs false
set_option linter.unusedSectionVars false
set_option maxRecDepth 100000
namespace Km
section
open Go
def P.CW:Nat→Nat→P
 | 0,_=>.h| k+1,n=>if n=0 then .h else if n % 2=1 then .o (CW k ((n-1) / 2))else .i (CW k ((n-2) / 2))
def P.nat(n:Nat):P:=P.CW n n
theorem lX:∀(k n:Nat),n≤k→(P.CW k n).toNat=n
 | 0,n,b=>by simp [P.CW,P.toNat];omega
 | k+1,n,b=>by
  unfold P.CW;split
  ·simp [P.toNat, *]
  ·split
   ·simp [P.toNat];rw [lX k _ (by omega)];omega
   ·simp [P.toNat];rw [lX k _ (by omega)];omega
theorem sI(n:Nat):(P.nat n).toNat=n:=lX n n (IT n)
theorem UW{a b:Nat}(d:a≠b):P.nat a≠P.nat b:=fun e=>d (by rw [←sI a,←sI b,e])
theorem T.e9(v:V):∀(p:P) (t:T),(t.set p v).get p=v
 | .h,.e=>rfl| .h,.n _ _ _=>rfl| .o p,.e=>T.e9 v p .e| .o p,.n l _ _=>T.e9 v p l| .i p,.e=>T.e9 v p .e| .i p,.n _ _ r=>T.e9 v p r
theorem T.gH(v:V):∀(p q:P) (t:T),p≠q→(t.set p v).get q=t.get q
 | .h,.h,_,h=>absurd rfl h| .h,.o q,.e,_=>by cases q<;>rfl
 | .h,.i q,.e,_=>by cases q<;>rfl
 | .h,.o _,.n _ _ _,_=>rfl| .h,.i _,.n _ _ _,_=>rfl| .o _,.h,.e,_=>rfl| .o _,.h,.n _ _ _,_=>rfl| .i _,.h,.e,_=>rfl| .i _,.h,.n _ _ _,_=>rfl
 | .o p,.o q,.e,h=>by
  show(T.set .e p v).get q=_;rw [T.gH v p q .e (fun e=>h (by rw [e]))];cases q<;>rfl
 | .o p,.o q,.n l _ _,h=>T.gH v p q l (fun e=>h (by rw [e]))
 | .o p,.i q,.e,h=>by
  show T.get .e q=_;cases q<;>rfl
 | .o _,.i _,.n _ _ _,_=>rfl
 | .i p,.o q,.e,h=>by
  show T.get .e q=_;cases q<;>rfl
 | .i _,.o _,.n _ _ _,_=>rfl
 | .i p,.i q,.e,h=>by
  show(T.set .e p v).get q=_;rw [T.gH v p q .e (fun e=>h (by rw [e]))];cases q<;>rfl
 | .i p,.i q,.n _ _ r,h=>T.gH v p q r (fun e=>h (by rw [e]))
def T.g(t:T)(n:Nat):V:=t.get (P.nat n)
def T.s(t:T)(n:Nat)(v:V):T:=t.set (P.nat n) v
@[simp] theorem T.g_s (t:T) (n m:Nat) (v:V):(t.s n v).g m=if n=m then v else t.g m:=by
 unfold T.g T.s;split
 ·rename_i h;subst h;exact T.e9 v _ t
 ·rename_i h;exact T.gH v _ _ t (UW h)
def R(n:Nat):Arg:=.r (P.nat n)
def D(n:Nat):Option P:=aa (P.nat n)
def G(n:Nat)(w:Bool):Option (P × Bool):=aa (P.nat n,w)
abbrev vi(n:Int):V:=.c (.f (.int .i64 n))
abbrev vb(b:Bool):V:=.c (.f (.bool b))
abbrev fi(n:Int):FC:=.int .i64 n
@[simp] theorem O7 (t:T) (n:Nat):(R n).ev t=t.g n:=rfl
@[simp] theorem acs (t:T) (v:V):(Arg.k v).ev t=v:=rfl
@[simp] theorem abB (t:T) (n:Nat) (v:V):gK t (D n) v=t.s n v:=rfl
@[simp] theorem Xo (t:T) (v:V):gK t ab v=t:=rfl
@[simp] theorem PA (t:T) (n:Nat):t.get (P.nat n)=t.g n:=rfl
@[simp] theorem Tj (n:Nat) (ps:List P) (v:V) (b:List V) (t:T):bP (P.nat n::ps) (v::b) t=bP ps b (t.s n v):=rfl
@[simp] theorem WQ (b:List V) (t:T):bP [] b t=t:=rfl
@[simp] theorem Tm (t:T):wanted t ab=aa ae:=rfl
@[simp] theorem aal (t:T) (n:Nat) (w:Bool):wanted t (G n w)=match t.g n with
  | .c (.f (.bool b))=>aa (b == w)| .t []=>aa ag| _=>ab:=rfl
attribute [simp] cK
def KO(o:Option (V × aj))(t:T)(ds:List dm)(K:V→St→Prop):Prop:=∃ p,o=aa p∧K p.1 ⟨t,ds,p.2⟩
@[simp] theorem aaw (v:V) (H:aj) (t:T) (ds:List dm) (K:V→St→Prop):KO (aa (v,H)) t ds K↔K v ⟨t,ds,H⟩:=⟨fun⟨_,h,k⟩=>by cases h;exact k,fun k=>⟨_,rfl,k⟩⟩
def KP(P:V→Prop)(t:T)(ds:List dm)(H:aj)(K:V→St→Prop):Prop:=∃ x,P x∧K x ⟨t,ds,H⟩
@[simp] theorem ab8 (x:V) (t:T) (ds:List dm) (H:aj) (K:V→St→Prop):KP (Eq x) t ds H K↔K x ⟨t,ds,H⟩:=⟨fun⟨_,h,k⟩=>by cases h;exact k,fun k=>⟨x,rfl,k⟩⟩
def E2(x:V)(H:aj)(y:V)(H':aj):Prop:=x=y∧H=H'
def KE(P:V→aj→Prop)(t:T)(ds:List dm)(K:V→St→Prop):Prop:=∃ x H,P x H∧K x ⟨t,ds,H⟩
@[simp] theorem ab7 (x:V) (H:aj) (t:T) (ds:List dm) (K:V→St→Prop):KE (E2 x H) t ds K↔K x ⟨t,ds,H⟩:=⟨fun⟨_,_,⟨b,d⟩,k⟩=>by cases b;cases d;exact k,fun k=>⟨x,H,⟨rfl,rfl⟩,k⟩⟩
section
variable(tab:Nat→Option aw)
def KC(b:Option (List V))(f:Nat)(t:T)(ds:List dm)(H:aj)(K:V→St→Prop):Prop:=∃ a,b=aa a∧KP (cB tab f a) t ds H K
def KD(c:Option (Callee × List V))(t:T)(ds:List dm)(H:aj)(K:V→St→Prop):Prop:=∃ a,c=aa a∧KE (Ev tab a.1 a.2 H) t ds K
def KS(os:List aH)(L:St→Prop)(s:St):Prop:=rz tab os s L
def FS(s:St)(K:St→Prop):Prop:=K s
def KV(o:Option P)(os:List aH)(L:St→Prop)(v:V)(s:St):Prop:=FS ⟨gK s.al o v,s.defs,s.heap⟩ (KS tab os L)
def GRD(w:Option Bool)(b:cj)(o:Option P)(os:List aH)(L:St→Prop)(s:St):Prop:=
 match w with
 | some ae=>jW tab s b (KV tab o os L)| some ag=>FS ⟨gK s.al o (.t []),s.defs,s.heap⟩ (KS tab os L)| none=>False
end
section
variable{tab:Nat→Option aw}{t:T}{ds:List dm}{H:aj}{K:V→St→Prop}{L:St→Prop}
@[simp] theorem aau (a:List V) (f:Nat):KC tab (aa a) f t ds H K↔KP (cB tab f a) t ds H K:=⟨fun⟨_,h,k⟩=>by cases h;exact k,fun k=>⟨_,rfl,k⟩⟩
@[simp] theorem aav (c:Callee) (a:List V):KD tab (aa (c,a)) t ds H K↔KE (Ev tab c a H) t ds K:=⟨fun⟨_,h,k⟩=>by cases h;exact k,fun k=>⟨_,rfl,k⟩⟩
@[simp] theorem ab4 (s:St) (K:St→Prop):FS s K↔K s:=Iff.rfl
@[simp ↓] theorem ab9 (os:List aH) (s:St):KS tab os L s↔rz tab os s L:=Iff.rfl
@[simp ↓] theorem ab' (o:Option P) (os:List aH) (v:V):KV tab o os L v ⟨t,ds,H⟩↔FS ⟨gK t o v,ds,H⟩ (KS tab os L):=Iff.rfl
@[simp ↓] theorem ab6 (b:cj) (o:Option P) (os:List aH) (s:St):GRD tab (aa ae) b o os L s↔jW tab s b (KV tab o os L):=Iff.rfl
@[simp ↓] theorem ab5 (b:cj) (o:Option P) (os:List aH):GRD tab (aa ag) b o os L ⟨t,ds,H⟩↔FS ⟨gK t o (.t []),ds,H⟩ (KS tab os L):=Iff.rfl
@[simp ↓] theorem aax (s:St):rz tab [] s L↔L s:=Iff.rfl
@[simp ↓] theorem XG (o:Option P) (b:cj) (os:List aH):rz tab (⟨o,b,ab⟩::os) ⟨t,ds,H⟩ L↔jW tab ⟨t,ds,H⟩ b (KV tab o os L):=Iff.rfl
@[simp ↓] theorem W4 (o:Option P) (b:cj) (n:Nat) (w:Bool) (os:List aH) :
  rz tab (⟨o,b,G n w⟩::os) ⟨t,ds,H⟩ L↔GRD tab (wanted t (G n w)) b o os L ⟨t,ds,H⟩:=by
 simp only [rz];rcases d:wanted t (G n w)with _ | _ | _<;>exact Iff.rfl
def cj.plain:cj→Bool
 | .call _ _ _ | .bH _ _ _ | .recover | .defer _ _=>ag| _=>ae
theorem cw{b:cj}(h:b.plain=ae):jW tab ⟨t,ds,H⟩ b K↔KO (aW t H b) t ds K:=by
 have:jW tab ⟨t,ds,H⟩ b K↔∃ v H',aW t H b=aa (v,H')∧K v ⟨t,ds,H'⟩:=by
  cases b<;>first | exact Iff.rfl | simp [cj.plain]at h
 rw [this];exact⟨fun⟨v,H',h,k⟩=>⟨(v,H'),h,k⟩,fun⟨p,h,k⟩=>⟨p.1,p.2,h,k⟩⟩
@[simp ↓] theorem aaW (x:Arg):jW tab ⟨t,ds,H⟩ (.cb x) K↔KO (aW t H (.cb x)) t ds K:=cw rfl
@[simp ↓] theorem Zv (c a b:Arg):jW tab ⟨t,ds,H⟩ (.pick c a b) K↔KO (aW t H (.pick c a b)) t ds K:=cw rfl
@[simp ↓] theorem Xg (zs:List FC):jW tab ⟨t,ds,H⟩ (.alloc zs) K↔KO (aW t H (.alloc zs)) t ds K:=cw rfl
@[simp ↓] theorem aaT (x:Arg):jW tab ⟨t,ds,H⟩ (.box x) K↔KO (aW t H (.box x)) t ds K:=cw rfl
@[simp ↓] theorem Xh (zs:List FC) (b:List (Nat × Nat × Arg)):jW tab ⟨t,ds,H⟩ (.build zs b) K↔KO (aW t H (.build zs b)) t ds K:=cw rfl
@[simp ↓] theorem U3 (sz:Nat) (zs:List FC) (len:Nat) (b:List (Nat × Arg)):jW tab ⟨t,ds,H⟩ (.aZ sz zs len b) K↔KO (aW t H (.aZ sz zs len b)) t ds K:=cw rfl
@[simp ↓] theorem Zs (n:Option Nat) (x:Arg):jW tab ⟨t,ds,H⟩ (.load n x) K↔KO (aW t H (.load n x)) t ds K:=cw rfl
@[simp ↓] theorem Xm (n:Nat) (x y:Arg):jW tab ⟨t,ds,H⟩ (.store n x y) K↔KO (aW t H (.store n x y)) t ds K:=cw rfl
@[simp ↓] theorem U6 (x:Arg):jW tab ⟨t,ds,H⟩ (.bp x) K↔KO (aW t H (.bp x)) t ds K:=cw rfl
@[simp ↓] theorem aaS (b:BinOp) (x y:Arg):jW tab ⟨t,ds,H⟩ (.bin b x y) K↔KO (aW t H (.bin b x y)) t ds K:=cw rfl
@[simp ↓] theorem abu (neg:Bool) (k:Ch) (x y:Arg):jW tab ⟨t,ds,H⟩ (.eq neg k x y) K↔KO (aW t H (.eq neg k x y)) t ds K:=cw rfl
@[simp ↓] theorem abv (b:UnOp) (x:Arg):jW tab ⟨t,ds,H⟩ (.un b x) K↔KO (aW t H (.un b x)) t ds K:=cw rfl
@[simp ↓] theorem aaU (k:IntKind) (x:Arg):jW tab ⟨t,ds,H⟩ (.gF k x) K↔KO (aW t H (.gF k x)) t ds K:=cw rfl
@[simp ↓] theorem Zu (f:Nat) (b:List Arg):jW tab ⟨t,ds,H⟩ (.eT f b) K↔KO (aW t H (.eT f b)) t ds K:=cw rfl
@[simp ↓] theorem S3 (sz bytes:Nat) (zs:List FC) (l c:Arg):jW tab ⟨t,ds,H⟩ (.dh sz bytes zs l c) K↔KO (aW t H (.dh sz bytes zs l c)) t ds K:=cw rfl
@[simp ↓] theorem Xl (sz:Nat) (x:Arg) (lo b mx:Option Arg):jW tab ⟨t,ds,H⟩ (.slice sz x lo b mx) K↔KO (aW t H (.slice sz x lo b mx)) t ds K:=cw rfl
@[simp ↓] theorem U4 (off:Nat) (x:Arg):jW tab ⟨t,ds,H⟩ (.aJ off x) K↔KO (aW t H (.aJ off x)) t ds K:=cw rfl
@[simp ↓] theorem U5 (sz:Nat) (b:Option Nat) (x i:Arg):jW tab ⟨t,ds,H⟩ (.bh sz b x i) K↔KO (aW t H (.bh sz b x i)) t ds K:=cw rfl
@[simp ↓] theorem S0 (x:Arg) (i:Nat):jW tab ⟨t,ds,H⟩ (.extract x i) K↔KO (aW t H (.extract x i)) t ds K:=cw rfl
@[simp ↓] theorem aaV (x:Arg):jW tab ⟨t,ds,H⟩ (.len x) K↔KO (aW t H (.len x)) t ds K:=cw rfl
@[simp ↓] theorem U2 (sz bytes:Nat) (x y:Arg):jW tab ⟨t,ds,H⟩ (.append sz bytes x y) K↔KO (aW t H (.append sz bytes x y)) t ds K:=cw rfl
@[simp ↓] theorem Zt (lo:Bool) (xs:List Arg):jW tab ⟨t,ds,H⟩ (.dZ lo xs) K↔KO (aW t H (.dZ lo xs)) t ds K:=cw rfl
@[simp ↓] theorem Xk (sz:Nat) (zs:List FC) (x:Arg):jW tab ⟨t,ds,H⟩ (.clear sz zs x) K↔KO (aW t H (.clear sz zs x)) t ds K:=cw rfl
@[simp ↓] theorem Zr (f:Nat) (args:List Arg):jW tab ⟨t,ds,H⟩ (.call f args ag) K ↔
  KC tab (aY (db deep H) (cK t args)) f t ds ((cK t args).foldl (Md deep) H) K:=by
 simp only [jW,KC,KP];constructor
 ·intro h;rw [aU (by simp)]at h;obtain⟨b,r,d,g,j⟩:=h;exact⟨b,d,r,g,j⟩
 ·rintro⟨b,d,r,g,j⟩;rw [aU (by simp)];exact⟨b,r,d,g,j⟩
@[simp ↓] theorem Xj (f:Nat) (args:List Arg):jW tab ⟨t,ds,H⟩ (.call f args ae) K↔KD tab (aa (.fn f,cK t args)) t ds H K:=by simp [jW,KD,KE]
@[simp ↓] theorem Xi (x:Arg) (args:List Arg) (h:Bool):jW tab ⟨t,ds,H⟩ (.bH x args h) K↔KD tab (bG (x.ev t) (cK t args)) t ds H K:=by
 simp only [jW,KD,KE];constructor
 ·rintro⟨c,as,r,H',b,d,g⟩;exact⟨(c,as),b,r,H',d,g⟩
 ·rintro⟨⟨c,as⟩,b,r,H',d,g⟩;exact⟨c,as,r,H',b,d,g⟩
end
def x6:V→Option Bool
 | .c (.f (.bool b))=>aa b| _=>ab
@[simp] theorem W5 (b:Bool):x6 (.c (.f (.bool b)))=aa b:=rfl
section
variable{t:T}{H:aj}
@[simp] theorem acm (x:Arg):aW t H (.cb x)=aa (x.ev t,H):=rfl
@[simp] theorem acn (o:Os) (sz:Nat):aW t H (.pre o sz)=if o=.loc∨sz=0 then ab else aa (.c (.sl H.length 0 0 0 0 sz),H++[.bA sz [] 0 0 o]):=rfl
@[simp] theorem ab2 (c x y:Arg):aW t H (.pick c x y)=(x6 (c.ev t)).map fun b=>(if b then x.ev t else y.ev t,H):=by
 simp only [aW,x6];split
 ·rename_i b h;simp only [h];cases b<;>rfl
 ·rename_i h;split
  ·rename_i b d;exact absurd d (h b)
  ·rfl
@[simp] theorem aa3 (zs:List FC):aW t H (.alloc zs)=aa (.c (.ptr H.length 0 0),H++[.box (zs.map .f) 0]):=rfl
@[simp] theorem aci (x:Arg):aW t H (.box x)=(x.ev t).cells?.map fun xs=>(.c (.ptr H.length 0 0),H++[.box xs 0]):=by
 simp only [aW];cases (x.ev t).cells?<;>rfl
@[simp] theorem aa4 (zs:List FC) (ps:List (Nat × Nat × Arg)):aW t H (.build zs ps)=(cT t (zs.map .f) ps).map fun cs=>(.a cs,H):=rfl
@[simp] theorem aao (sz:Nat) (zs:List FC) (n:Nat) (ps:List (Nat × Arg)):aW t H (.aZ sz zs n ps) =
  if n=0 then(if ps.isEmpty then aa (.c (.f .es),H)else ab)else
  (cT t ((bX n zs).map .f) (ps.map fun p=>(p.1*sz,sz,p.2))).map fun cs=>(.c (.sl H.length 0 n n 0 sz),H++[.box cs 0]):=rfl
@[simp] theorem abY (n:Option Nat) (x:Arg):aW t H (.load n x)=(dz H n (x.ev t)).map (·,H):=rfl
def uK(H:aj)(n:Nat)(x y:V):Option aj:=
 match x,y.cells? with
 | .c p,aa xs=>if xs.length=n then gD H p xs else ab| _,_=>ab
@[simp] theorem aa' (n:Nat) (x y:Arg):aW t H (.store n x y)=(uK H n (x.ev t) (y.ev t)).map (.top,·):=by
 simp only [aW,uK];cases x.ev t with
 | c p=>cases (y.ev t).cells? with
  | none=>rfl| some xs=>by_cases h:xs.length=n<;>simp [h]
 | _=>rfl
@[simp] theorem aaj (n:Nat) (p:C) (y:V):uK H n (.c p) y=y.cells?.bind fun xs=>if xs.length=n then gD H p xs else ab:=by
 simp only [uK];cases y.cells?<;>rfl
@[simp] theorem ach (b:BinOp) (x y:Arg):aW t H (.bin b x y)=(bt b (x.ev t) (y.ev t)).map (·,H):=rfl
@[simp] theorem acC (neg:Bool) (k:Ch) (x y:Arg):aW t H (.eq neg k x y)=(JH H k (x.ev t) (y.ev t)).map fun b=>(vb (if neg then !b else b),H):=rfl
@[simp] theorem acD (b:UnOp) (x:Arg):aW t H (.un b x)=(unV b (x.ev t)).map (·,H):=rfl
def Ui(k:IntKind):V→Option V
 | .c (.f (.int _ n))=>aa (.c (.f (.int k (k.wrap n))))| _=>ab
@[simp] theorem abl (k j:IntKind) (n:Int):Ui k (.c (.f (.int j n)))=aa (.c (.f (.int k (k.wrap n)))):=rfl
@[simp] theorem acj (k:IntKind) (x:Arg):aW t H (.gF k x)=(Ui k (x.ev t)).map (·,H):=by
 simp only [aW,Ui];split
 ·rename_i h;simp only [h];rfl
 ·rename_i h;split
  ·rename_i b;exact absurd b (h _ _)
  ·rfl
@[simp] theorem ab1 (f:Nat) (b:List Arg):aW t H (.eT f b)=(aY o7 (cK t b)).map fun xs=>(.c (.cl f xs),H):=rfl
@[simp] theorem ab0 (f:Nat) (b:List Arg):aW t H (.rG f b)=(aY o7 (cK t b)).map fun xs=>(.c (.bm f xs),H):=rfl
@[simp] theorem aa8 (sz:Nat) (x:Arg) (lo b mx:Option Arg):aW t H (.slice sz x lo b mx)=(dL H sz (x.ev t) (lo.map (·.ev t)) (b.map (·.ev t)) (mx.map (·.ev t))).map (·,H):=rfl
@[simp] theorem aaq (sz:Nat) (zs:List FC) (n:Nat) (ps:List (Nat × Arg)):aW t H (.fT sz zs n ps)=((cT t ((bX n zs).map .f) (ps.map fun p=>(p.1*sz,sz,p.2))).bind fun cs=>if n=0 then ab else Py cs).map fun b=>(.c (.f (.fs b n)),H):=rfl
@[simp] theorem ab3 (sz:Nat) (x b mx:Arg):aW t H (.qV sz x b mx)=w7 H sz (x.ev t) (b.ev t) (mx.ev t):=rfl
@[simp] theorem aa7 (n sz:Nat) (x:Arg) (lo b mx:Option Arg):aW t H (.lM n sz x lo b mx)=(il H n sz (x.ev t) (lo.map (·.ev t)) (b.map (·.ev t)) (mx.map (·.ev t))).map (·,H):=rfl
@[simp] theorem aa9 (x:Arg) (lo b:Option Arg):aW t H (.nA x lo b)=(qY (x.ev t) (lo.map (·.ev t)) (b.map (·.ev t))).map (·,H):=rfl
@[simp] theorem aap (o:Nat) (x:Arg):aW t H (.aJ o x)=(gh o (x.ev t)).map (·,H):=rfl
@[simp] theorem aa6 (o:Nat) (n:Option Nat) (x:Arg):aW t H (.field o n x)=(nS o n (x.ev t)).map (·,H):=rfl
@[simp] theorem aar (sz:Nat) (b:Option Nat) (x i:Arg):aW t H (.bh sz b x i)=(a6 H sz b (x.ev t) (i.ev t)).map (·,H):=rfl
@[simp] theorem abW (x i:Arg):aW t H (.idxs x i)=(vW (x.ev t) (i.ev t)).map (·,H):=rfl
@[simp] theorem abV (len sz:Nat) (n:Option Nat) (x i:Arg):aW t H (.tJ len sz n x i)=(vV len sz n (x.ev t) (i.ev t)).map (·,H):=rfl
def cOf:V→Option C
 | .c x=>aa x| _=>ab
@[simp] theorem ab_ (x:C):cOf (.c x)=aa x:=rfl
@[simp] theorem ack (x:Arg):aW t H (.len x)=((cOf (x.ev t)).bind (bM H)).map fun n=>(vi (n:Nat),H):=by
 simp only [aW,cOf];cases x.ev t with
 | c y=>simp only [acY];cases bM H y<;>rfl
 | _=>rfl
def strOf:V→Option ByteArray
 | .c (.f (.str s))=>aa s| _=>ab
@[simp] theorem aaZ (s:ByteArray):strOf (.c (.f (.str s)))=aa s:=rfl
@[simp] theorem abX (n:Nat):aW t H (.qt n)=aa (vi (n:Nat),H):=rfl
@[simp] theorem aan (sz bytes:Nat) (x y:Arg):aW t H (.append sz bytes x y)=bJ H sz bytes (x.ev t) (y.ev t):=rfl
@[simp] theorem abU (sz:Nat) (x y:Arg):aW t H (.copy sz x y)=copyV H sz (x.ev t) (y.ev t):=rfl
@[simp] theorem abZ (lo:Bool) (xs:List Arg):aW t H (.dZ lo xs)=(wh lo (cK t xs)).map (·,H):=rfl
def tOf:V→Option (List V)
 | .t b=>aa b| _=>ab
@[simp] theorem acf (b:List V):tOf (.t b)=aa b:=rfl
@[simp] theorem Xw (x:Arg) (i:Nat):aW t H (.extract x i)=(tOf (x.ev t)).bind fun d=>d[i]?.map (·,H):=by
 simp only [aW,tOf];split
 ·rename_i h;simp only [h];rfl
 ·rename_i h;split
  ·rename_i b;exact absurd b (h _)
  ·rfl
def px:V→Option V
 | .c (.ptr b o e)=>aa (.c (.ptr b o e))| .c (.f (.fp cs o))=>aa (.c (.f (.fp cs o)))| _=>ab
@[simp] theorem UX (b o e:Nat):px (.c (.ptr b o e))=aa (.c (.ptr b o e)):=rfl
@[simp] theorem Xf (cs:List FC) (o:Nat):px (.c (.f (.fp cs o)))=aa (.c (.f (.fp cs o))):=rfl
@[simp] theorem aas (x:Arg):aW t H (.bp x)=(px (x.ev t)).map (·,H):=by
 simp only [aW,px];split
 ·rename_i h;simp only [h];rfl
 ·rename_i h;simp only [h];rfl
 ·rename_i b d;split
  ·rename_i h;exact absurd h (b _ _ _)
  ·rename_i h;exact absurd h (d _ _)
  ·rfl
@[simp] theorem W9 (f:Nat) (b:List FC) (args:List V):bG (.c (.f (.fn f b))) args=aa (.fn f,args++b.map fun x=>.c (.f x)):=rfl
@[simp] theorem W8 (f:Nat) (b:List C) (args:List V):bG (.c (.cl f b)) args=aa (.fn f,args++b.map .c):=rfl
@[simp] theorem W7 (f:Nat) (first:List C) (args:List V):bG (.c (.bm f first)) args=aa (.fn f,first.map .c++args):=rfl
end
section
variable{k:IntKind}{a b:Int}{H:aj}
@[simp] theorem aay:bt .add (.c (.f (.int k a))) (.c (.f (.int k b)))=aa (.c (.f (.int k (k.wrap (a+b))))):=by simp [bt,hV,V.int]
@[simp] theorem aaG:bt .sub (.c (.f (.int k a))) (.c (.f (.int k b)))=aa (.c (.f (.int k (k.wrap (a-b))))):=by simp [bt,hV,V.int]
@[simp] theorem aaE:bt .mul (.c (.f (.int k a))) (.c (.f (.int k b)))=aa (.c (.f (.int k (k.wrap (a*b))))):=by simp [bt,hV,V.int]
theorem mH(h:b≠0):bt .quo (.c (.f (.int k a))) (.c (.f (.int k b)))=aa (.c (.f (.int k (k.wrap (a.tdiv b))))):=by simp [bt,hV,V.int,h]
theorem fA(h:b≠0):bt .rem (.c (.f (.int k a))) (.c (.f (.int k b)))=aa (.c (.f (.int k (a.tmod b)))):=by simp [bt,hV,V.int,h]
@[simp] theorem aaz:bt .eql (.c (.f (.int k a))) (.c (.f (.int k b)))=aa (vb (decide (a=b))):=by simp [bt,hV,V.bool];rfl
@[simp] theorem aaF:bt .neq (.c (.f (.int k a))) (.c (.f (.int k b)))=aa (vb (!decide (a=b))):=by simp [bt,hV,V.bool];rfl
@[simp] theorem aaD:bt .lss (.c (.f (.int k a))) (.c (.f (.int k b)))=aa (vb (decide (a<b))):=by simp [bt,hV,V.bool]
@[simp] theorem aaC:bt .leq (.c (.f (.int k a))) (.c (.f (.int k b)))=aa (vb (decide (a≤b))):=by simp [bt,hV,V.bool]
@[simp] theorem aaB:bt .gtr (.c (.f (.int k a))) (.c (.f (.int k b)))=aa (vb (decide (b<a))):=by simp [bt,hV,V.bool]
@[simp] theorem aaA:bt .geq (.c (.f (.int k a))) (.c (.f (.int k b)))=aa (vb (decide (b≤a))):=by simp [bt,hV,V.bool]
@[simp] theorem YM {x y:Bool}:DV .bool (.f (.bool x)) (.f (.bool y))=aa (x == y):=rfl
@[simp] theorem aaL:DV .int (.f (.int k a)) (.f (.int k b))=aa (a == b):=by simp [DV]
@[simp] theorem aaM {x y:ByteArray}:DV .str (.f (.str x)) (.f (.str y))=aa (x == y):=rfl
@[simp] theorem aaK:nR [] [] []=aa ae:=rfl
@[simp] theorem YL {q:CK} {qs:List CK} {x y:C} {xs ys:List C}:nR (q::qs) (x::xs) (y::ys)=(DV q x y).bind fun c=>(nR qs xs ys).map fun d=>c&&d:=by
 simp only [nR];cases DV q x y<;>cases nR qs xs ys<;>rfl
@[simp] theorem YN {x y:Bool}:JH H .bool (.c (.f (.bool x))) (.c (.f (.bool y)))=aa (x == y):=rfl
@[simp] theorem abn {ks:List CK} {xs ys:List C}:JH H (.st ks) (.a xs) (.a ys)=nR ks xs ys:=rfl
@[simp] theorem abT {x:Bool}:unV .not (.c (.f (.bool x)))=aa (vb (!x)):=rfl
@[simp] theorem Uq {o c o' ep:Nat}:gh o (.c (.ptr c o' ep))=aa (.c (.ptr c (o'+o) ep)):=rfl
@[simp] theorem Xa {o o':Nat} {cs:List FC}:gh o (.c (.f (.fp cs o')))=aa (.c (.f (.fp cs (o'+o)))):=rfl
@[simp] theorem aaJ {x:C}:(V.c x).cells?=aa [x]:=rfl
@[simp] theorem aaI {xs:List C}:(V.a xs).cells?=aa xs:=rfl
@[simp] theorem acp {n:Nat} {x:FC}:dI n H (.f x)=aa x:=by cases n<;>rfl
@[simp] theorem YO {n:Nat} {x:C}:db n H (.c x)=(dI n H x).map fun y=>.c (.f y):=rfl
@[simp] theorem acd {n f:Nat} {b:List C}:dI (n+1) H (.cl f b)=(aY (dI n H) b).map (.fn f):=rfl
@[simp] theorem abp {n b o e:Nat}:dI (n+1) H (.ptr b o e)=match H[b]? with
  | some (.box cs _)=>(aY (dI n H) cs).map (.fp · o)| _=>ab:=rfl
theorem oP{n b o l c ep sz:Nat}:dI (n+1) H (.sl b o l c ep sz)=match H[b]? with
  | some (.box cs _)=>if o+l*sz≤cs.length then(aY (dI n H) ((cs.drop o).take (l*sz))).map (.fs · l)else ab| some (.bA s cs _ e .loc)=>if ep=e∧sz=s∧o+l*sz≤cs.length then(aY (dI n H) ((cs.drop o).take (l*sz))).map (.fs · l)else ab| some (.bA s _ _ e .nil)=>if ep=e∧sz=s then aa .ax else ab| some (.bA s _ _ e .es)=>if ep=e∧sz=s then aa .es else ab| _=>ab:=rfl
theorem J_{n b o e:Nat}:lW (n+1) (.ptr b o e) H=match H[b]? with
  | some (.box cs fl)=>cs.foldl (fun H x=>lW n x H) (H.set b (.box cs (Nat.max fl cs.length)))
  | _=>H:=rfl
theorem Zg{n b o l c e sz:Nat}:lW (n+1) (.sl b o l c e sz) H=match H[b]? with
  | some (.box cs fl)=>((cs.drop o).take (l*sz)).foldl (fun H x=>lW n x H) (H.set b (.box cs (Nat.max fl (o+l*sz))))
  | some (.bA s cs fl e d)=>((cs.drop o).take (l*sz)).foldl (fun H x=>lW n x H) (H.set b (.bA s cs (Nat.max fl (o+l*sz)) e d))
  | _=>H:=rfl
theorem SX{n f:Nat}{b:List C}:lW (n+1) (.cl f b) H=b.foldl (fun H x=>lW n x H) H:=rfl
@[simp] theorem acv {n:Nat} {x:C}:Md n H (.c x)=lW n x H:=rfl
@[simp] theorem acb {n:Nat} {x:C}:nE n H (.c x)=(dI n H x).map fun y=>.c (.f y):=rfl
theorem tU{n:Nat}:∀(xs:List FC),aY (dI n H) (xs.map .f)=aa xs
 | []=>rfl| x::xs=>by simp [aY,tU xs]
@[simp] theorem aca {n:Nat} {xs:List C}:db n H (.a xs)=(aY (dI n H) xs).map fun ys=>.a (ys.map .f):=rfl
@[simp] theorem aaP {n:Nat} (xs:List FC):aY (dI n H) (xs.map .f)=aa xs:=tU xs
@[simp] theorem acu {n:Nat} {xs:List C}:Md n H (.a xs)=xs.foldl (fun H x=>lW n x H) H:=rfl
@[simp] theorem ace {n:Nat} {x:FC}:lW n (.f x) H=H:=by cases n<;>rfl
end
theorem wrap64{n:Int}(b:-9223372036854775808≤n)(d:n≤9223372036854775807):IntKind.wrap .i64 n=n:=by
 simp only [IntKind.wrap,IntKind.bits,IntKind.signed];simp;omega
theorem aK{n:Int}(b:-9223372036854775808≤n:=by omega)(d:n≤9223372036854775807:=by omega):IntKind.wrap .i64 n=n:=wrap64 b d
@[simp] theorem cast_eq (a b:Nat):((a:Int)=(b:Int))=(a=b):=propext Int.natCast_inj
@[simp] theorem Y_ {b d:Type} (g:b→Option d):aY g []=aa []:=rfl
@[simp] theorem Xe {b d:Type} (g:b→Option d) (x:b) (xs:List b):aY g (x::xs)=(g x).bind fun y=>(aY g xs).map (y::·):=by
 simp only [aY];cases g x<;>cases aY g xs<;>simp
@[simp] theorem aa0 (x:C) (xs:List C):bY ab (x::xs)=aa (.c x):=rfl
@[simp] theorem aa1 (n:Nat) (xs:List C):bY (aa n) xs=if n≤xs.length then aa (.a (xs.take n))else ab:=rfl
@[simp] theorem aP (H:aj) (n:Option Nat) (b o ep:Nat):dz H n (.c (.ptr b o ep))=match H[b]? with
  | some (.box cs _)=>bY n (cs.drop o)| some (.bA _ cs _ e .loc)=>if ep=e then bY n (cs.drop o)else ab| _=>ab:=by
 simp only [dz,bo];split
 ·rename_i h;simp only [h];rfl
 ·rename_i h;simp only [h];split<;>rfl
 ·rename_i d g;split
  ·rename_i h;exact absurd h (d _ _)
  ·rename_i h;exact absurd h (g _ _ _ _)
  ·rfl
theorem mY(H:aj)(n:Option Nat)(cs:List FC)(o:Nat):dz H n (.c (.f (.fp cs o)))=bY n ((cs.drop o).map .f):=rfl
@[simp] theorem bZ (H:aj) (b o ep:Nat) (xs:List C):gD H (.ptr b o ep) xs=match H[b]? with
  | some (.box cs fl)=>if fl≤o∧o+xs.length≤cs.length then aa (H.set b (.box (over cs o xs) fl))else ab| some (.bA sz cs fl e .loc)=>if ep=e∧fl≤o∧o+xs.length≤cs.length then aa (H.set b (.bA sz (over cs o xs) fl e .loc))else ab| _=>ab:=rfl
attribute [simp] over bX
@[simp] theorem Vm (t:T) (cs:List C):cT t cs []=aa cs:=rfl
@[simp] theorem S5 (t:T) (cs:List C) (o n:Nat) (x:Arg) (ps:List (Nat × Nat × Arg)):cT t cs ((o,n,x)::ps)=(x.ev t).cells?.bind fun xs=>if xs.length=n∧o+xs.length≤cs.length then cT t (over cs o xs) ps else ab:=by
 simp only [cT];cases (x.ev t).cells?<;>rfl
@[simp] theorem abj (x:FC):o7 (.c (.f x))=aa (.f x):=rfl
@[simp] theorem YK (b o e:Nat):o7 (.c (.ptr b o e))=aa (.ptr b o e):=rfl
@[simp] theorem aaH (b o l c e s:Nat):o7 (.c (.sl b o l c e s))=aa (.sl b o l c e s):=rfl
def WZ:V→Option V
 | .t _=>ab| v=>aa v
@[simp] theorem abS (x:C):WZ (.c x)=aa (.c x):=rfl
@[simp] theorem abR (x:List C):WZ (.a x)=aa (.a x):=rfl
@[simp] theorem aaX (t:T) (H:aj) (n:Nat):cD t H (.tmp (P.nat n))=WZ (t.g n):=by
 simp only [cD,PA];cases t.g n<;>rfl
@[simp] theorem aac (t:T) (H:aj) (n:Nat) (k:Option Nat):cD t H (.cell (P.nat n) k)=dz H k (t.g n):=rfl
@[simp] theorem aaN {t:T} {H:aj} {x:fF} {r:V}:rv [x] r ⟨t,[],H⟩↔∃ r0,cD t H x=aa r0∧nE deep H r0=aa r:=by
 simp only [rv,results,true_and,aY];cases cD t H x<;>simp
@[simp] theorem aaO {t:T} {H:aj} {x y:fF} {a b:V}:rv [x,y] (.t [a,b]) ⟨t,[],H⟩ ↔
  (∃ r0,cD t H x=aa r0∧db deep H r0=aa a)∧∃ r0,cD t H y=aa r0∧db deep H r0=aa b:=by
 simp only [rv,results,true_and,aY];cases cD t H x with
 | none=>simp
 | some u=>cases cD t H y with
  | none=>simp| some w=>cases d:db deep H u<;>cases g:db deep H w<;>simp [nE,d,g]
inductive Tg where | nil | es | fs
 deriving DecidableEq
def Tg.fc:Tg→FC
 | .nil=>.ax| .es=>.es| .fs=>.fs [] 0
def sl(g:Tg)(rows:List (List FC)):FC:=if rows.isEmpty then g.fc else .fs rows.flatten rows.length
def bC(sz:Nat)(rows:List (List FC)):Prop:=∀ r ∈ rows,r.length=sz
theorem cX{sz:Nat}:∀ {rows:List (List FC)},bC sz rows→rows.flatten.length=rows.length*sz
 | [],_=>by simp
 | r::rows,h=>by
  have:=cX (rows:=rows) fun x b=>h x (acM _ b);simp only [ac4,acZ,adf,this,h r acK,ac3,Nat.one_mul];omega
theorem nQ{sz:Nat}:∀ {rows:List (List FC)} (j:Nat),bC sz rows→rows.flatten.drop (j*sz)=(rows.drop j).flatten
 | rows,0,_=>by simp
 | [],j+1,_=>by simp
 | r::rows,j+1,h=>by
  have b:=h r acK;have:=nQ (rows:=rows) j fun x d=>h x (acM _ d);rw [ac4,List.drop_succ_cons,←this,ac3,Nat.one_mul,aev,b];simp [b,show j*sz+sz-sz=j*sz by omega]
theorem oH{sz:Nat}:∀ {rows:List (List FC)} (j:Nat),bC sz rows→rows.flatten.take (j*sz)=(rows.take j).flatten
 | rows,0,_=>by simp
 | [],j+1,_=>by simp
 | r::rows,j+1,h=>by
  have b:=h r acK;have:=oH (rows:=rows) j fun x d=>h x (acM _ d);rw [ac4,aeq,ac4,←this,ac3,Nat.one_mul,List.take_append,b];simp [b,show j*sz+sz-sz=j*sz by omega];rw [acS (by omega)]
theorem bC.map{b:Type}{sz:Nat}{l:List b}{g:b→List FC}(h:∀ x,(g x).length=sz):bC sz (l.map g):=fun r d=>by
 obtain⟨x,_,rfl⟩:=adx.1 d;exact h x
theorem qh{sz j k:Nat}{rows:List (List FC)}{row:List FC}(d:bC sz rows)(b:rows[j]?=aa row)(l:k≤sz) :
  rows.flatten.drop (j*sz+k)=row.drop k++(rows.drop (j+1)).flatten:=by
 have g:j<rows.length:=(If.1 b).1;have m:row.length=sz:=d row (acI b);rw [←adT,nQ j d,acP g,ac4];have:rows[j]=row:=by simpa [By g]using b
 rw [this,aev,show k-row.length=0 by omega];simp
variable{H:aj}
theorem ic{sz j k:Nat}{rows:List (List FC)}{row:List FC}{x:FC}(b:bC sz rows)(d:rows[j]?=aa row)(l:row[k]?=aa x) :
  dz H ab (.c (.f (.fp rows.flatten (j*sz+k))))=aa (.c (.f x)):=by
 have m:row.length=sz:=b row (acI d);have g:k<row.length:=(If.1 l).1;have e:=qh (k:=k) b d (by omega);simp only [dz,bo,acY,e];rw [acP g];have:row[k]=x:=by simpa [By g]using l
 simp [bY,this]
theorem PW{sz j k n:Nat}{rows:List (List FC)}{row:List FC}(b:bC sz rows)(d:rows[j]?=aa row)(g:k+n≤sz) :
  dz H (aa n) (.c (.f (.fp rows.flatten (j*sz+k))))=aa (.a (((row.drop k).take n).map .f)):=by
 have l:row.length=sz:=b row (acI d);have e:=qh (k:=k) b d (by omega);simp only [dz,bo,acY,e];simp only [bY];rw [bf (by simp only [ac1,acZ,adg];omega)];rw [adP,adk (by simp only [ac1,adg];omega),List.map_take]
theorem dt{sz j:Nat}{rows:List (List FC)}{row:List FC}(b:bC sz rows)(d:rows[j]?=aa row) :
  dz H (aa sz) (.c (.f (.fp rows.flatten (j*sz))))=aa (.a (row.map .f)):=by
 have g:row.length=sz:=b row (acI d);have:=PW (H:=H) (k:=0) (n:=sz) b d (by omega);simp only [Nat.add_zero,ady]at this;rw [this,acS (by omega)]
theorem mZ{sz j:Nat}{rows:List (List FC)}{row:List FC}{x:FC}(b:bC sz rows)(d:rows[j]?=aa row)(g:row[0]?=aa x) :
  dz H ab (.c (.f (.fp rows.flatten (j*sz))))=aa (.c (.f x)):=ic (k:=0) b d g
theorem PV{j:Nat}{l:List Int}{x:Int}(b:l[j]?=aa x) :
  dz H ab (.c (.f (.fp (l.map fun n=>[fi n]).flatten (j*1))))=aa (vi x):=
 mZ (row:=[fi x]) (bC.map fun _=>rfl) (by rw [adh,b];rfl) rfl
@[simp] theorem abr (g:Tg) (rows:List (List FC)):bM H (.f (sl g rows))=aa rows.length:=by
 cases rows with
 | nil=>cases g<;>rfl
 | cons r rows=>rfl
theorem bW{g:Tg}{rows:List (List FC)}{sz:Nat}{k:IntKind}{i:Int}(d:0≤i)(b:i<rows.length) :
  a6 H sz ab (.c (.f (sl g rows))) (.c (.f (.int k i)))=aa (.c (.f (.fp rows.flatten (i.toNat*sz)))):=by
 cases rows with
 | nil=>simp at b;omega
 | cons r rows=>
  simp only [adf]at b;simp [a6,fK,sl,d];omega
end
section
open Go
def Kf(tab:Nat→Option aw)(f:Nat)(args:List V)(r:V):Prop:=∀ H,∃ J,Ev tab (.fn f) args H r (H++J)
section
variable{tab:Nat→Option aw}{f:Nat}{args:List V}{r:V}
theorem Kf.pure{x:FC}(h:Kf tab f args (.c (.f x))):cB tab f args (.c (.f x)):=by
 obtain⟨J,h⟩:=h [];exact⟨_,_,h,by simp⟩
theorem Kf.eq{x:FC}(h:Kf tab f args (.c (.f x))):cB tab f args=Eq (.c (.f x)):=
 funext fun r=>propext ⟨fun k=>h.pure.Uj k,fun e=>e▸h.pure⟩
theorem cB.eq{r:V}(h:cB tab f args r):cB tab f args=Eq r:=funext fun _=>propext ⟨fun k=>h.Uj k,fun e=>e▸h⟩
noncomputable def Y3 (tab:Nat→Option aw) (f:Nat) (args:List V) (H:aj):aj:=Classical.epsilon fun J=>∃ r,Ev tab (.fn f) args H r (H++J)
theorem Kf.ev(h:Kf tab f args r)(H:aj):Ev tab (.fn f) args H=E2 r (H++Y3 tab f args H):=by
 have l:∃ J,∃ r,Ev tab (.fn f) args H r (H++J):=by obtain⟨J,b⟩:=h H;exact⟨J,r,b⟩
 have m:∃ r,Ev tab (.fn f) args H r (H++Y3 tab f args H):=Classical.epsilon_spec l;obtain⟨J,b⟩:=h H;obtain⟨r',d⟩:=m;obtain⟨rfl,e⟩:=b.Uj d;funext x H';exact propext ⟨fun k=>d.Uj k,fun⟨g,j⟩=>g▸j▸d⟩
theorem Ev.eq{c:Callee}{H H':aj}(h:Ev tab c args H r H'):Ev tab c args H=E2 r H':=funext fun _=>funext fun _=>propext ⟨fun k=>h.Uj k,fun⟨b,d⟩=>b▸d▸h⟩
theorem Kf.Wf{xs:List FC}(h:Kf tab f args (.a (xs.map .f))):cB tab f args (.a (xs.map .f)):=by
 obtain⟨J,h⟩:=h [];exact⟨_,_,h,by simp [nE]⟩
def O4(b:List fF)(r:V)(H:aj)(s:St):Prop:=s.defs=[]∧results s.al s.heap b=aa r∧∃ J,s.heap=H++J
theorem dF{ps:List P}{b:List fF}{body:ak}(y:tab f=aa ⟨ps,b,body⟩)(x:args.length=ps.length)
  (h:∀(H:aj) (Q:Option ak→St→Prop),(∀ j s,O4 b r H s→Q j s)→WP tab f ab [.code body] ⟨bP ps args .e,[],H⟩ Q):Kf tab f args r:=by
 intro H;have g:=h H (fun _ s=>O4 b r H s) fun _ _ h=>h;obtain⟨n,m,d,j,s,l,v,q,J,u⟩:=g;exact⟨J,qk y x ⟨n,m,d,j,s,l,0,0,s.heap,by rw [v];rfl,by rw [q],u⟩⟩
@[simp] theorem YS {t:T} {H H':aj} {x:fF}:O4 [x] r H ⟨t,[],H'⟩↔cD t H' x=aa r∧∃ J,H'=H++J:=by
 simp only [O4,results,true_and,aY];cases cD t H' x<;>simp
theorem wK{m d:Nat}{x:FC}(h:(CF tab m d (.fn f) args []).map (·.1)=aa (.c (.f x))):cB tab f args (.c (.f x)):=by
 rw [IN]at h;obtain⟨⟨r,H'⟩,b,g⟩:=h;exact⟨r,H',⟨m,d,b⟩,by rw [show r=.c (.f x) from g];simp⟩
theorem rM{b:Bool}(h:∃ m d H',dx tab (oA tab) m d (.fn f) [] []=aa (.c (.f (.bool b)),H')):cB tab f [] (vb b):=by
 obtain⟨m,d,H',h⟩:=h;exact⟨_,H',⟨m,d,h⟩,by simp⟩
theorem gZ{S:V→Prop}{ps:List P}{b:List fF}{body:ak}(z:tab f=aa ⟨ps,b,body⟩)(x:args.length=ps.length)
  (h:∀ Q:Option ak→St→Prop,(∀ j s r,S r→rv b r s→Q j s)→WP tab f ab [.code body] ⟨bP ps args .e,[],[]⟩ Q):∃ r,S r∧cB tab f args r:=by
 have q:=h (fun _ s=>∃ r,S r∧rv b r s) fun _ _ r g l=>⟨r,g,l⟩
 obtain⟨n,m,d,j,s,g,r,y,v,r0,l,u⟩:=q;exact⟨r,y,r0,s.heap,qk z x ⟨n,m,d,j,s,g,0,0,s.heap,by rw [v];rfl,l,rfl⟩,u⟩
variable{fn i:Nat}{ro:Option Nat}{k:List ca}{ds:List dm}{Q:Option ak→St→Prop}
def UC(a x:Nat):ak:=.region [⟨D x,.bin .add (R a) (.k (.c (.f (.int .i64 1)))),ab⟩,⟨D a,.cb (R x),ab⟩] []
def zk(i a b c x:Nat)(body:ak):ak:=.seq (.region [⟨D c,.bin .lss (R a) (R b),ab⟩] []) (.seq (.cond (R c) .skip (.exit i)) (.seq body (UC a x)))
def zZ(i a b c x:Nat)(body:ak):ak:=.block i (.loop (zk i a b c x body))
theorem et{a b c x:Nat}{body:ak}{t:T}{H:aj}(N:Nat)(I:Nat→T→aj→Prop)(J:N≤9223372036854775807)(y:a≠b)(A:x≠b)
  (g:t.g a=vi 0) (l:t.g b=vi N) (E:I 0 t H)
  (step:∀ j t H,j<N→I j t H→t.g a=vi j→t.g b=vi N →
   (∀ q H',I (j+1) ((q.s x (vi (j+1:Nat))).s a (vi (j+1:Nat))) H'→q.g a=vi j→q.g b=vi N →
    WP tab fn ro (.code (UC a x)::.inLoop (zk i a b c x body)::.inBlock i::k) ⟨q,ds,H'⟩ Q) →
   WP tab fn ro (.code body::.code (UC a x)::.inLoop (zk i a b c x body)::.inBlock i::k) ⟨t.s c (vb ae),ds,H⟩ Q)
  (done:∀ t H,I N t H→t.g a=vi N→t.g b=vi N→WP tab fn ro k ⟨t.s c (vb ag),ds,H⟩ Q) :
  WP tab fn ro (.code (zZ i a b c x body)::k) ⟨t,ds,H⟩ Q:=by
 have m:∀ ops:List aH,ops.all (·.op.dA)=ae→ro=ab∨ops.all (·.op.dA)=ae:=fun _ h=>.inr h;refine aB ?_;refine bu (fun n s=>∃ j t H,s=⟨t,ds,H⟩∧j≤N∧n=N-j∧I j t H∧t.g a=vi j∧t.g b=vi N) N ⟨0,t,H,rfl,by omega,by omega,E,g,l⟩ ?_;rintro n s ⟨j,t,H,rfl,K,rfl,B,g,l⟩ F;apply aq;refine au (m _ rfl) ?_;simp [g,l];by_cases d:j<N
 ·rw [decide_eq_true d];apply aq;refine an (by simp) ?_;refine aO ?_;apply aq;refine step j t H d B g l fun q H' u v z=>?_;refine au (m _ rfl) ?_;simp [v];rw [aK];refine F (N-(j+1)) _ (by omega) ⟨j+1,_,H',rfl,by omega,rfl,by simpa using u,by simp,?_⟩;simp [y,A,z]
 ·have:j=N:=by omega
  subst this;rw [decide_eq_false d];apply aq;refine aD (by simp) ?_;refine ba (k':=k) (by simp [exitTo]) ?_;exact done t H B g l
def oS(a x y:Nat):ak:=.region [⟨D x,.cb (R a),ab⟩,⟨D y,.bin .add (R x) (.k (.c (.f (.int .i64 1)))),ab⟩,⟨D a,.cb (R y),ab⟩] []
def pE(i a c x y:Nat)(b:List aH)(body:ak):ak:=.seq (.seq (.region b []) (.cond (R c) .skip (.exit i))) (.seq body (oS a x y))
def Jr(i a c x y:Nat)(b:List aH)(body:ak):ak:=.block i (.loop (pE i a c x y b body))
theorem jC{a c x y:Nat}{g:List aH}{body:ak}{t:T}{H:aj}(N:Nat)(I:Nat→T→aj→Prop)(K:N≤9223372036854775807)(B:g.all (·.op.dA)=ae)
  (d:t.g a=vi 0) (E:I 0 t H)
  (l:∀ j t H (L:St→Prop),j≤N→I j t H→t.g a=vi j→(∀ b,I j b H→b.g a=vi j→b.g c=vb (decide ((j:Int)<(N:Int)))→L ⟨b,ds,H⟩)→rz tab g ⟨t,ds,H⟩ L)
  (step:∀ j t H,j<N→I j t H→t.g a=vi j →
   (∀ b H',I (j+1) (((b.s x (vi j)).s y (vi (j+1:Nat))).s a (vi (j+1:Nat))) H'→b.g a=vi j →
    WP tab fn ro (.code (oS a x y)::.inLoop (pE i a c x y g body)::.inBlock i::k) ⟨b,ds,H'⟩ Q) →
   WP tab fn ro (.code body::.code (oS a x y)::.inLoop (pE i a c x y g body)::.inBlock i::k) ⟨t,ds,H⟩ Q)
  (done:∀ t H,I N t H→t.g a=vi N→WP tab fn ro k ⟨t,ds,H⟩ Q) :
  WP tab fn ro (.code (Jr i a c x y g body)::k) ⟨t,ds,H⟩ Q:=by
 have m:∀ ops:List aH,ops.all (·.op.dA)=ae→ro=ab∨ops.all (·.op.dA)=ae:=fun _ h=>.inr h;refine aB ?_;refine bu (fun n s=>∃ j t H,s=⟨t,ds,H⟩∧j≤N∧n=N-j∧I j t H∧t.g a=vi j) N ⟨0,t,H,rfl,by omega,by omega,E,d⟩ ?_;rintro n s ⟨j,t,H,rfl,F,rfl,q,d⟩ J;apply aq;apply aq;refine au (m _ B) ?_;refine l j t H _ F q d fun b q d u=>?_;by_cases A:j<N
 ·rw [decide_eq_true (by omega)]at u;refine an u ?_;refine aO ?_;apply aq;refine step j b H A q d fun b H' v z=>?_;refine au (m _ rfl) ?_;simp [z];rw [aK];exact J (N-(j+1)) _ (by omega) ⟨j+1,_,H',rfl,by omega,rfl,by simpa using v,by simp⟩
 ·have:j=N:=by omega
  subst this;rw [decide_eq_false (by omega)]at u;refine aD u ?_;refine ba (k':=k) (by simp [exitTo]) ?_;exact done b H q d
end
end
section
open Go
def jy{b:Type}(l:List b)(p:b→Bool):Int:=match l.findIdx? p with | some j=>j | none=>-1
theorem CC{b:Type}(l:List b)(p:b→Bool):decide (0≤jy l p)=l.any p:=by
 unfold jy;cases h:l.findIdx? p with
 | none=>
  rw [List.findIdx?_eq_none_iff]at h;have:l.any p=ag:=by rw [List.any_eq_false];intro x m;simp [h x m]
  simp [this]
 | some j=>
  rw [aeg]at h;obtain⟨d,g,_⟩:=h;have:l.any p=ae:=by rw [List.any_eq_true];exact⟨l[j],acE d,g⟩
  simp [this]
theorem CB{d:Type}{l:List d}{p:d→Bool}{j:Nat}(g:j<l.length)(q:p l[j]=ae)(m:∀(i:Nat) (b:i<j),p (l[i]'(by omega))=ag):jy l p=j:=by
 have:l.findIdx? p=aa j:=by
  rw [aeg];exact⟨g,q,fun i b=>by simp [m i b]⟩
 simp [jy,this]
theorem CD{d:Type}{l:List d}{p:d→Bool}(g:∀(i:Nat) (b:i<l.length),p l[i]=ag):jy l p = -1:=by
 have:l.findIdx? p=ab:=by
  rw [List.findIdx?_eq_none_iff];intro x j;obtain⟨i,b,rfl⟩:=List.getElem_of_mem j;exact g i b
 simp [jy,this]
def ints(l:List Int):List (List FC):=l.map fun n=>[fi n]
@[simp] theorem Y1 (l:List Int):(ints l).length=l.length:=by simp [ints]
theorem kB{j:Nat}{l:List Int}(b:j<l.length){H:aj}:dz H ab (.c (.f (.fp (ints l).flatten j)))=aa (vi l[j]):=by
 have:=PV (H:=H) (By b);simpa [ints]using this
variable{tab:Nat→Option aw}
def PN(t:List aH):ak:=.block 1 (.seq (.region [⟨D 10,.cb (R 8),ab⟩,⟨D 5,.cb (R 10),ab⟩] []) (.seq
 (.region t []) (.cond (R 16) (.seq (.region [⟨D 17,.cb (R 5),ab⟩,⟨D 4,.cb (R 17),ab⟩] []) .ret) .skip)))
def YX(t:List aH):aw:=⟨[P.nat 0,P.nat 1],[.tmp (P.nat 4)],.seq (.region [⟨D 4,.cb (.k (.c (.f (.int .i64 0)))),ab⟩] [])
 (.seq (.seq (.region [⟨D 6,.cb (R 0),ab⟩,⟨D 7,.len (R 6),ab⟩,⟨D 8,.cb (.k (.c (.f (.int .i64 0)))),ab⟩] []) (zZ 0 8 7 9 18 (PN t)))
 (.seq (.region [⟨D 4,.cb (.k (.c (.f (.int .i64 (-1))))),ab⟩] []) .ret))⟩
def SN(sz:Nat)(b:Option Nat):List aH:=[⟨D 11,.cb (R 1),ab⟩,⟨D 12,.cb (R 0),ab⟩,⟨D 13,.cb (R 5),ab⟩,⟨D 14,.bh sz ab (R 12) (R 13),ab⟩,⟨D 15,.load b (R 14),ab⟩,⟨D 16,.bH (R 11) [(R 15)] ae,ab⟩]
theorem UB{f:Nat}{d:List aH}(Z:tab f=aa (YX d)){x y:V}{I:Type}{l:List I}{p:I→Bool}(Y:l.length≤9223372036854775807)
  (hx:∃ c,x=.c c∧∀ H,bM H c=aa l.length)
  (m:∀(j:Nat) (z:j<l.length) (t:T) (H:aj) (L:St→Prop),t.g 0=x→t.g 1=y→t.g 5=vi j →
   (∀ b J,b.g 0=x→b.g 1=y→b.g 5=vi j→b.g 7=t.g 7→b.g 8=t.g 8→b.g 16=vb (p l[j])→L ⟨b,[],H++J⟩)→rz tab d ⟨t,[],H⟩ L) :
  Kf tab f [x,y] (vi (jy l p)):=by
 obtain⟨c,rfl,W⟩:=hx;refine dF Z rfl fun H Q E=>?_;apply aq;refine au (.inl rfl) ?_;simp;apply aq;apply aq;refine au (.inl rfl) ?_;simp [W];refine et l.length (fun j t H'=>t.g 0=.c c∧t.g 1=y∧(∃ J,H'=H++J)∧∀(i:Nat) (g:i<l.length),i<j→p l[i]=ag) Y (by decide) (by decide) (by simp) (by simp) (by simp) ?_ ?_
 ·rintro j t _ z ⟨A,B,⟨J,rfl⟩,s⟩ v F next
  refine aB ?_;apply aq;refine au (.inl rfl) ?_;simp [v];apply aq;refine au (.inl rfl) ?_;refine m j z _ _ _ (by simp [A]) (by simp [B]) (by simp) fun b K M N O S U q=>?_;cases u:p l[j]with
  | true=>
   refine an (by simp [q,u]) ?_;apply aq;refine au (.inl rfl) ?_;simp [O];refine aG (E _ _ ?_);have:=CB z u (fun i g=>s i (by omega) g);simp [this]
  | false=>
   refine aD (by simp [q,u]) ?_;refine aO (az (next _ _ ?_ (by simp [U,v]) (by simp [S,F])));refine⟨by simp [M],by simp [N],⟨J++K,by simp⟩,fun i g X=>?_⟩;by_cases e:i=j
   ·subst e;exact u
   ·exact s i g (by omega)
 ·rintro t _ ⟨A,B,⟨J,rfl⟩,s⟩ v F;apply aq;refine au (.inl rfl) ?_;simp;refine aG (E _ _ ?_);have:=CD (l:=l) (p:=p) (fun i g=>s i g g);simp [this]
theorem nZ{f sz:Nat}{y:Option Nat}(I:tab f=aa (YX (SN sz y))){q:Type}(l:List q)(enc:q→List FC)(val:q→V)(p:q→Bool)(g:Tg)(k:Nat)(b:List FC)
  (E:l.length≤9223372036854775807) (d:∀(j:Nat) (m:j<l.length) (H:aj),dz H y (.c (.f (.fp (l.map enc).flatten (j*sz))))=aa (val l[j]))
  (F:∀ x ∈ l,Kf tab k (val x::b.map fun c=>.c (.f c)) (vb (p x))) :
  Kf tab f [.c (.f (sl g (l.map enc))),.c (.f (.fn k b))] (vi (jy l p)):=by
 refine UB I E ⟨_,rfl,fun H=>by simp⟩ ?_;intro j m t H L s u v z;have A:=(F l[j] (acE m)).ev H;have B:=bW (H:=H) (g:=g) (rows:=l.map enc) (sz:=sz) (k:=.i64) (i:=(j:Int)) (by omega) (by simpa using m);simp [SN,s,u,v,B,d j m,A];exact z _ _ (by simp [s]) (by simp [u]) (by simp [v]) (by simp) (by simp) (by simp)
def Ct(f:Nat):aw:=⟨[P.nat 0,P.nat 1],[.tmp (P.nat 4)],.seq (.region [⟨D 4,.cb (.k (.c (.f (.bool ag)))),ab⟩] []) (.seq
 (.region [⟨D 5,.cb (R 0),ab⟩,⟨D 6,.cb (R 1),ab⟩,⟨D 7,.call f [(R 5),(R 6)] ag,ab⟩,⟨D 8,.bin .geq (R 7) (.k (.c (.f (.int .i64 0)))),ab⟩,⟨D 4,.cb (R 8),ab⟩] []) .ret)⟩
theorem kj{f k:Nat}(m:tab f=aa (Ct k)){a b:FC}{d:Type}{l:List d}{p:d→Bool}(h:Kf tab k [.c (.f a),.c (.f b)] (vi (jy l p))) :
  Kf tab f [.c (.f a),.c (.f b)] (vb (l.any p)):=by
 refine dF m rfl fun H Q g=>?_;apply aq;refine au (.inl rfl) ?_;simp;apply aq;refine au (.inl rfl) ?_;have j:=h.eq;simp [j];refine aG (g _ _ ?_);simp [CC]
end
section
open Go
theorem av{H:aj}{b:Nat}{x:bK}(h:H[b]?=aa x):b<H.length:=(If.1 h).1
theorem dM{l m:Type}{g g':l→Option m}:∀ {xs:List l} {ys:List m},(∀ x y,x ∈ xs→g x=aa y→g' x=aa y)→aY g xs=aa ys→aY g' xs=aa ys
 | [],ys,_,h=>h
 | x::xs,ys,j,h=>by
  simp only [aY]at h ⊢;cases d:g x with
  | none=>simp [d]at h
  | some y=>
   cases b:aY g xs with
   | none=>simp [d,b]at h
   | some zs=>
    simp only [d,b]at h;rw [j x y acK d,dM (fun x y q=>j x y (acM _ q)) b];exact h
theorem qx{j l:Type}{g:j→Option l}:∀ {xs:List j} {ys:List l},aY g xs=aa ys→ys.length=xs.length
 | [],ys,h=>by simp [aY]at h;subst h;rfl
 | x::xs,ys,h=>by
  simp only [aY]at h;cases d:g x with
  | none=>simp [d]at h
  | some y=>
   cases b:aY g xs with
   | none=>simp [d,b]at h| some zs=>simp [d,b]at h;subst h;simp [qx b]
theorem oV{q s:Type}{g:q→Option s}:∀ {xs b:List q} {ys d:List s},aY g xs=aa ys→aY g b=aa d→aY g (xs++b)=aa (ys++d)
 | [],b,ys,d,h,l=>by simp [aY]at h;subst h;simpa using l
 | x::xs,b,ys,d,h,l=>by
  simp only [aY,List.cons_append]at h ⊢;cases m:g x with
  | none=>simp [m]at h
  | some y=>
   cases j:aY g xs with
   | none=>simp [m,j]at h| some zs=>simp [m,j]at h;subst h;simp [oV j l]
def eP:Nat→aj→C→Option FC
 | _,_,.f x=>aa x| 0,_,_=>ab
 | n+1,H,.ptr b off _=>match H[b]? with
  | some (.box cs _)=>(aY (eP n H) cs).map (.fp · off)| _=>ab
 | n+1,H,.sl b o l _ _ sz=>match H[b]? with
  | some (.box cs _)=>if o+l*sz≤cs.length then(aY (eP n H) ((cs.drop o).take (l*sz))).map (.fs · l)else ab| _=>ab
 | _+1,_,_=>ab
@[simp] theorem YP {n:Nat} {H:aj} {x:FC}:eP n H (.f x)=aa x:=by cases n<;>rfl
@[simp] theorem we {n:Nat} {H:aj}:∀(xs:List FC),aY (eP n H) (xs.map .f)=aa xs
 | []=>rfl| x::xs=>by simp only [ac5,aY,YP,we xs]
theorem mN{H H':aj}(j:∀(b:Nat) cs fl,H[b]?=aa (.box cs fl)→∃ d,H'[b]?=aa (.box cs d)):∀(n:Nat) (x:C) (y:FC),eP n H x=aa y→eP n H' x=aa y
 | n,.f x,y,h=>by simpa using h
 | 0,.ptr _ _ _,_,h=>by simp [eP]at h
 | 0,.sl _ _ _ _ _ _,_,h=>by simp [eP]at h
 | n+1,.ptr b off e,y,h=>by
  simp only [eP]at h ⊢;split at h
  ·rename_i cs fl g;obtain⟨d,m⟩:=j b cs fl g;simp only [m];rw [IN]at h ⊢;obtain⟨zs,q,s⟩:=h;exact⟨zs,dM (fun x y _=>mN j n x y) q,s⟩
  ·simp at h
 | n+1,.sl b o l c e sz,y,h=>by
  simp only [eP]at h ⊢;split at h
  ·rename_i cs fl g;obtain⟨d,m⟩:=j b cs fl g;simp only [m];split at h
   ·rename_i u;rw [bf u];rw [IN]at h ⊢;obtain⟨zs,q,s⟩:=h;exact⟨zs,dM (fun x y _=>mN j n x y) q,s⟩
   ·simp at h
  ·simp at h
 | 0,.cl _ _,_,h=>by simp [eP]at h
 | 0,.yl _,_,h=>by simp [eP]at h
 | 0,.mp _,_,h=>by simp [eP]at h
 | 0,.it _,_,h=>by simp [eP]at h
 | 0,.bm _ _,_,h=>by simp [eP]at h
 | 0,.mi _,_,h=>by simp [eP]at h
 | _+1,.cl _ _,_,h=>by simp [eP]at h
 | _+1,.yl _,_,h=>by simp [eP]at h
 | _+1,.mp _,_,h=>by simp [eP]at h
 | _+1,.it _,_,h=>by simp [eP]at h
 | _+1,.bm _ _,_,h=>by simp [eP]at h
 | _+1,.mi _,_,h=>by simp [eP]at h
theorem tB{H:aj}:∀(n:Nat) (x:C) (y:FC),eP n H x=aa y→dI n H x=aa y
 | n,.f x,y,h=>by simpa using h
 | 0,.ptr _ _ _,_,h=>by simp [eP]at h
 | 0,.sl _ _ _ _ _ _,_,h=>by simp [eP]at h
 | n+1,.ptr b off e,y,h=>by
  simp only [eP]at h;simp only [dI];split at h
  ·rename_i cs fl d
   try simp only [d]
   rw [IN]at h ⊢;obtain⟨zs,g,j⟩:=h;exact⟨zs,dM (fun x y _=>tB n x y) g,j⟩
  ·simp at h
 | n+1,.sl b o l c e sz,y,h=>by
  simp only [eP]at h;simp only [dI];split at h
  ·rename_i cs fl d
   try simp only [d]
   split at h
   ·rename_i m;rw [bf m];rw [IN]at h ⊢;obtain⟨zs,g,j⟩:=h;exact⟨zs,dM (fun x y _=>tB n x y) g,j⟩
   ·simp at h
  ·simp at h
 | 0,.cl _ _,_,h=>by simp [eP]at h
 | 0,.yl _,_,h=>by simp [eP]at h
 | 0,.mp _,_,h=>by simp [eP]at h
 | 0,.it _,_,h=>by simp [eP]at h
 | 0,.bm _ _,_,h=>by simp [eP]at h
 | 0,.mi _,_,h=>by simp [eP]at h
 | _+1,.cl _ _,_,h=>by simp [eP]at h
 | _+1,.yl _,_,h=>by simp [eP]at h
 | _+1,.mp _,_,h=>by simp [eP]at h
 | _+1,.it _,_,h=>by simp [eP]at h
 | _+1,.bm _ _,_,h=>by simp [eP]at h
 | _+1,.mi _,_,h=>by simp [eP]at h
theorem yu{H:aj}:∀ {n m:Nat} {x:C} {y:FC},eP n H x=aa y→n≤m→eP m H x=aa y
 | n,m,.f x,y,h,_=>by simpa using h
 | 0,_,.ptr _ _ _,_,h,_=>by simp [eP]at h
 | 0,_,.sl _ _ _ _ _ _,_,h,_=>by simp [eP]at h
 | _+1,0,_,_,_,s=>by omega
 | n+1,m+1,.ptr b off e,y,h,s=>by
  simp only [eP]at h ⊢;split at h
  ·rename_i cs fl d
   try simp only [d]
   rw [IN]at h ⊢;obtain⟨zs,g,j⟩:=h;exact⟨zs,dM (fun x y _ q=>yu q (by omega)) g,j⟩
  ·simp at h
 | n+1,m+1,.sl b o l c e sz,y,h,s=>by
  simp only [eP]at h ⊢;split at h
  ·rename_i cs fl d
   try simp only [d]
   split at h
   ·rename_i u;rw [bf u];rw [IN]at h ⊢;obtain⟨zs,g,j⟩:=h;exact⟨zs,dM (fun x y _ q=>yu q (by omega)) g,j⟩
   ·simp at h
  ·simp at h
 | 0,_,.cl _ _,_,h,_=>by simp [eP]at h
 | 0,_,.yl _,_,h,_=>by simp [eP]at h
 | 0,_,.mp _,_,h,_=>by simp [eP]at h
 | 0,_,.it _,_,h,_=>by simp [eP]at h
 | 0,_,.bm _ _,_,h,_=>by simp [eP]at h
 | 0,_,.mi _,_,h,_=>by simp [eP]at h
 | _+1,_+1,.cl _ _,_,h,_=>by simp [eP]at h
 | _+1,_+1,.yl _,_,h,_=>by simp [eP]at h
 | _+1,_+1,.mp _,_,h,_=>by simp [eP]at h
 | _+1,_+1,.it _,_,h,_=>by simp [eP]at h
 | _+1,_+1,.bm _ _,_,h,_=>by simp [eP]at h
 | _+1,_+1,.mi _,_,h,_=>by simp [eP]at h
theorem Un{H:aj}{n m:Nat}{x:C}{y:FC}(h:eP n H x=aa y)(b:n≤m):dI m H x=aa y:=tB m x y (yu h b)
theorem vM{H:aj}(L:aj){n:Nat}{x:C}{y:FC}(h:eP n H x=aa y):eP n (H++L) x=aa y:=
 mN (fun b cs fl d=>⟨fl,by rw [AT (av d)];exact d⟩) n x y h
def Tg.os:Tg→Os
 | .nil=>.nil| _=>.es
def LB(z:Bool)(H:aj)(sz:Nat)(v:V)(g:Tg)(rows:List (List FC)):Prop:=
 (rows=[]∧v=.c (.f g.fc)∧g≠.fs) ∨
 ∃ b ep fl d cs,v=.c (.sl b 0 rows.length 0 ep sz)∧H[b]?=aa (.bA sz cs fl ep d)∧aY (eP 60 H) cs=aa rows.flatten∧fl≤cs.length∧(z=ae→fl=0) ∧
  (rows=[]→d=g.os∧g≠.fs)∧(rows≠[]→d=.loc)
variable{z:Bool}{H H':aj}{sz bytes:Nat}{v y:V}{g:Tg}{rows:List (List FC)}{row:List FC}{cs:List C}
theorem LB.push(h:LB z H sz v g rows)(L:aj):LB z (H++L) sz v g rows:=by
 rcases h with h | ⟨b,ep,fl,st,cs,j,d,l,m⟩
 ·exact .inl h
 ·exact .inr ⟨b,ep,fl,st,cs,j,by rw [AT (av d)];exact d,dM (fun x y _=>vM L) l,m⟩
theorem LB.es0:LB z H sz (.c (.f .es)) .es []:=.inl ⟨rfl,rfl,by decide⟩
theorem LB.app(h:LB z H sz v g rows)(hg:bC sz rows)(O:row.length=sz)(xh:sz≠0)(hy:dC H sz y=aa (1,cs))(hc:aY (eP 60 H) cs=aa row)(l:bB (rows.length+1) bytes=ae) :
  ∃ I H',bJ H sz bytes v y=aa (I,H')∧LB z H' sz I g (rows++[row])∧H.length≤H'.length∧(∀(b:Nat) cs fl,H[b]?=aa (.box cs fl)→H'[b]?=aa (.box cs fl)):=by
 rcases h with⟨rfl,rfl,A⟩ | ⟨b,ep,fl,st,ds,rfl,u,B,J,L,M,N⟩
 ·have j:bB 1 bytes=ae:=by simpa using l
  refine⟨.c (.sl H.length 0 1 0 0 sz),H++[.bA sz cs 0 0 .loc],?_,?_,by simp,fun b cs fl F=>by rw [AT (av F)];exact F⟩
  ·cases g with
   | nil=>simp [bJ,hy,xh,Tg.fc,j]| es=>simp [bJ,hy,xh,Tg.fc,j]| fs=>exact absurd rfl A
  ·exact .inr ⟨H.length,0,0,.loc,cs,by simp,by simp,by simpa using dM (fun x y _=>vM _) hc,by simp,fun _=>rfl,fun h=>by simp at h,fun _=>rfl⟩
 ·have K:rows.length*sz=ds.length:=by rw [←qx B,cX hg]
  have E:∀(q:Nat) cs' m,H[q]?=aa (.box cs' m)→∃ s,(H.set b (.bA sz (ds++cs) fl (ep+1) .loc))[q]?=aa (.box cs' s):=by
   intro q cs' m d;have:b≠q:=by rintro rfl;rw [u]at d;cases d
   exact⟨m,by rw [AI this];exact d⟩
  refine⟨.c (.sl b 0 (rows.length+1) 0 (ep+1) sz),H.set b (.bA sz (ds++cs) fl (ep+1) .loc),?_,?_,by simp,?_⟩
  ·simp only [bJ,hy,xh,if_false,u,and_self,if_true];simp only [Nat.add_one_ne_zero,if_false];rw [bf ⟨trivial,K,by omega⟩,l];simp
  ·refine .inr ⟨b,ep+1,fl,.loc,ds++cs,by simp,?_,?_,?_,L,fun h=>by simp at h,fun _=>rfl⟩
   ·rw [OF (av u)]
   ·rw [aer];simpa using oV (dM (fun x y _=>mN E 60 x y) B) (dM (fun x y _=>mN E 60 x y) hc)
   ·simp only [acZ];omega
  ·intro q cs' m d;have:b≠q:=by rintro rfl;rw [u]at d;cases d
   rw [AI this];exact d
theorem LB.len(h:LB z H sz v g rows):∃ c,v=.c c∧bM H c=aa rows.length:=by
 rcases h with⟨rfl,rfl,l⟩ | ⟨b,ep,fl,st,ds,rfl,d,m,j,u,q,s⟩
 ·cases g<;>exact⟨_,rfl,rfl⟩
 ·exact⟨_,rfl,by simp [bM,d]⟩
theorem LB.fz(h:LB z H sz v g rows)(hg:bC sz rows):db deep H v=aa (.c (.f (sl g rows))):=by
 rcases h with⟨rfl,rfl,d⟩ | ⟨b,ep,fl,st,ds,rfl,j,l,m,E,q,s⟩
 ·simp [sl]
 ·have B:rows.length*sz=ds.length:=by rw [←qx l,cX hg]
  cases rows with
  | nil=>
   obtain⟨rfl,d⟩:=q rfl;cases g with
   | nil=>simp [deep,oP,j,Tg.os,sl,Tg.fc]| es=>simp [deep,oP,j,Tg.os,sl,Tg.fc]| fs=>exact absurd rfl d
  | cons r A=>
   have:=s (by simp);subst this;have up:aY (dI 63 H) ds=aa (r::A).flatten:=dM (fun x y _ u=>Un u (by decide)) l;simp only [YO,deep,oP,j];rw [bf ⟨trivial,trivial,by omega⟩,ady,acS (by omega),up];simp [sl]
theorem LB.fzV(h:LB z H sz v g rows)(hg:bC sz rows):nE deep H v=aa (.c (.f (sl g rows))):=by
 have:=h.fz hg;obtain⟨c,rfl,_⟩:=h.len;exact this
theorem kU{b fl c:Nat}(h:H[b]?=aa (.box cs fl))(d:cs.length=sz):dC H sz (.c (.sl b 0 1 c 0 sz))=aa (1,cs):=by
 simp [dC,bM,cW,h,d];rw [←d,List.take_length]
end
section
open Go
def xb(P:Program):List Field→Nat→Nat→Bool
 | [],o,n=>o == n| f::b,o,n=>f.offset == o&&xb P b (o+P.cellsOf f.type) n
def eH(P:Program):Nat→TypeId→Bool
 | 0,_=>ag
 | n+1,t=>match P.underlying t with
  | some .bool=>P.cellsOf t == 1| some (.int _)=>P.cellsOf t == 1| some .string=>P.cellsOf t == 1| some (.slice e)=>P.cellsOf t == 1&&P.cellsOf e != 0&&eH P n e| some (.struct b)=>xb P b.toList 0 (P.cellsOf t)&&b.toList.all fun f=>eH P n f.type
  | some (.array k e)=>P.cellsOf t == k*P.cellsOf e&&eH P n e| _=>ag
def r_(S:TypeId→List FC→Prop):List TypeId→List FC→Prop
 | [],xs=>xs=[]| t::ts,xs=>∃ p q,xs=p++q∧S t p∧r_ S ts q
def nM(P:Program):Nat→TypeId→List FC→Prop
 | 0,_,_=>False
 | n+1,t,xs=>match P.underlying t with
  | some .bool=>∃ b,xs=[.bool b]| some (.int k)=>∃ m,xs=[.int k m]∧(Lit.int k m).wf=ae| some .string=>∃ s,xs=[.str s]∧s.size≤maxLen| some (.slice e)=>∃ g rows,xs=[sl g rows]∧bC (P.cellsOf e) rows∧rows.length≤maxLen∧∀ r ∈ rows,nM P n e r| some (.struct d)=>r_ (nM P n) (d.toList.map (·.type)) xs| some (.array k e)=>∃ rows,xs=rows.flatten∧rows.length=k∧bC (P.cellsOf e) rows∧∀ r ∈ rows,nM P n e r| _=>False
theorem vP{m:Type}{sz:Nat}:∀ {rows:List (List m)} {j k:Nat} {row:List m},(∀ r ∈ rows,r.length=sz)→rows[j]?=aa row→k<sz→rows.flatten[j*sz+k]?=row[k]?
 | [],j,k,row,_,b,_=>by simp at b
 | r::rows,0,k,row,d,b,g=>by
  simp at b;subst b;have:=d r acK;rw [ac4,AT (by omega)];simp
 | r::rows,j+1,k,row,d,b,g=>by
  have l:=d r acK;rw [ac4,acR (by rw [l,ac3];omega)];have e:(j+1)*sz+k-r.length=j*sz+k:=by rw [l,ac3];omega
  rw [e];exact vP (rows:=rows) (fun x q=>d x (acM _ q)) (by simpa using b) g
theorem vQ{d:Type}{sz:Nat}:∀ {rows:List (List d)},(∀ r ∈ rows,r.length=sz)→rows.flatten.length=rows.length*sz
 | [],_=>by simp
 | r::rows,h=>by
  have:=vQ (rows:=rows) fun x b=>h x (acM _ b);simp only [ac4,acZ,adf,this,h r acK,ac3,Nat.one_mul];omega
def yX(w:World):Nat→Nat→Prop:=fun c _=>c<w.heap.size
theorem zP{w:World}{a:Addr}{v:Value}(h:w.cell? a=aa v):a.block<w.heap.size∧a.spot=ab:=by
 unfold World.cell? at h;split at h
 ·rename_i b;split at h
  ·simp at h
  ·rename_i d;refine⟨?_,by simpa using d⟩;exact(Array.getElem?_eq_some_iff.1 b).1
 ·simp at h
theorem A2.flatten{l m:Type}{R:l→m→Prop}{g:List (List l)}{d:List (List m)}(j:g.length=d.length)
  (h:∀(i:Nat) xs ys,g[i]?=aa xs→d[i]?=aa ys→A2 R xs ys):A2 R g.flatten d.flatten:=by
 induction g generalizing d with
 | nil=>cases d with
  | nil=>exact A2.nil| cons y ys=>simp at j
 | cons x xs u=>cases d with
  | nil=>simp at j
  | cons y ys=>
   rw [ac4,ac4];exact(h 0 x y rfl rfl).append (u (by simpa using j) fun i a b q s=>h (i+1) a b (by simpa using q) (by simpa using s))
section
variable{H:Type}{enc:TypeId × Value→H}{P:Program}{w:World}{base:Nat}{spare:Nat→Bool}{held:Bool}{σ:Nat→FuncId}
def XF(σ:Nat→FuncId)(P:Program)(w:World)(n:Nat)(t:TypeId)(cs:List Value):Prop:=∃ xs,A2 (bS σ (yX w) w) xs cs∧nM P n t xs
theorem oR{n:Nat}(v:∀ {t:TypeId} {fuel:Nat} {cs:List Value} {x:DataW H × List MemPlace},eH P n t=ae→DataW.trod enc P w base spare held fuel t cs=aa x→XF σ P w n t cs∧cs.length=P.cellsOf t)
  {fuel:Nat}:∀(b:List Field) (o N:Nat) (cs:List Value),xb P b o N=ae→(b.all fun f=>eH P n f.type)=ae→cs.length=N →
   (∀ f ∈ b,∃ x,DataW.trod enc P w base spare held fuel f.type ((cs.drop f.offset).take (P.cellsOf f.type))=aa x) →
   ∃ xs,A2 (bS σ (yX w) w) xs (cs.drop o)∧r_ (nM P n) (b.map (·.type)) xs
 | [],o,N,cs,d,_,m,_=>by
  simp [xb]at d;exact⟨[],by rw [List.drop_of_length_le (by omega)];exact A2.nil,rfl⟩
 | f::b,o,N,cs,d,l,m,u=>by
  simp only [xb,BY,beq_iff_eq]at d;simp only [List.all_cons,BY]at l;obtain⟨x,j⟩:=u f acK;rw [d.1]at j;obtain⟨⟨p,z,B⟩,s⟩:=v l.1 j;obtain⟨q,A,sq⟩:=oR v b (o+P.cellsOf f.type) N cs d.2 l.2 m fun g y=>u g (acM _ y);refine⟨p++q,?_,p,q,rfl,B,sq⟩;have:cs.drop o=(cs.drop o).take (P.cellsOf f.type)++cs.drop (o+P.cellsOf f.type):=by
   rw [←adT,adD]
  rw [this];exact z.append A
theorem I'(c o n k:Nat):((⟨c,o,ab⟩:Addr).add n).add k=⟨c,o+(n+k),ab⟩:=by
 unfold Addr.add;by_cases b:n=0<;>by_cases d:k=0<;>simp [b,d];omega
theorem LZ{t e:TypeId}{k n:Nat}{cs:List Value}{x:DataW H × List MemPlace}(l:P.underlying t=aa (.array k e))(h:DataW.trod enc P w base spare held (n+1) t cs=aa x) :
  cs.length=P.cellsOf t∧∀ i,i<k→∃ y,DataW.trod enc P w base spare held n e ((cs.drop (i*P.cellsOf e)).take (P.cellsOf e))=aa y:=by
 unfold DataW.trod at h;rw [l]at h;simp only [Option.ite_none_right_eq_some,IN]at h;obtain⟨j,xs,d,m⟩:=h;refine⟨j,fun i g=>?_⟩;have:=mapM_some_get d i i (by simp [g]);have b:xs.length=k:=by simpa using mapM_some_length d
 rw [By (by omega)]at this;exact⟨_,this⟩
theorem se{l:Type}{sz:Nat}:∀ {k:Nat} {cs:List l},cs.length=k*sz→cs=((List.range k).map fun i=>(cs.drop (i*sz)).take sz).flatten
 | 0,cs,h=>by simp at h;simp [h]
 | k+1,cs,h=>by
  have d:(cs.take (k*sz)).length=k*sz:=by rw [List.length_take,h,ac3];omega
  have j:=se d;rw [List.range_succ,adP,aer];have e:((List.range k).map fun i=>(cs.drop (i*sz)).take sz)=(List.range k).map fun i=>((cs.take (k*sz)).drop (i*sz)).take sz:=by
   refine List.map_congr_left fun i g=>?_;have b:i<k:=by simpa using g
   have:(i+1)*sz≤k*sz:=adi _ b;rw [ac3]at this;rw [List.drop_take,ad7,adQ (by omega)]
  rw [e,←j];simp only [ac5,List.map_nil,ac4,List.flatten_nil,adZ];have:(cs.drop (k*sz)).take sz=cs.drop (k*sz):=acS (by rw [adg,h,ac3];omega);rw [this,adD]
theorem abq{n:Nat}:∀ {t:TypeId} {fuel:Nat} {cs:List Value} {x:DataW H × List MemPlace},eH P n t=ae→DataW.trod enc P w base spare held fuel t cs=aa x →
  XF σ P w n t cs∧cs.length=P.cellsOf t:=by
 induction n with
 | zero=>intro t fuel cs x j;simp [eH]at j
 | succ n ih=>
  intro t fuel cs x j h;simp only [eH]at j;split at j
  ·rename_i l;obtain⟨b,rfl,_⟩:=DataW.trod_bool l h;exact⟨⟨[.bool b],.cons (.bool b) .nil,by simp only [nM,l];exact⟨b,rfl⟩⟩,by simp at j;simp [j]⟩
  ·rename_i k l;obtain⟨m,rfl,_,hw⟩:=DataW.trod_int l h;exact⟨⟨[.int k m],.cons (.int k m) .nil,by simp only [nM,l];exact⟨m,rfl,hw⟩⟩,by simp at j;simp [j]⟩
  ·rename_i l;obtain⟨s,rfl,_,hw⟩:=DataW.trod_string l h;exact⟨⟨[.str s],.cons (.str s) .nil,by simp only [nM,l];exact⟨s,rfl,hw⟩⟩,by simp at j;simp [j]⟩
  ·rename_i e l;simp only [BY,beq_iff_eq,bne_iff_ne]at j;obtain⟨⟨J,c8⟩,he⟩:=j;rcases DataW.trod_slice l h with⟨rfl,_⟩ | ⟨a,len,cap,a8,rest,m,_,rfl,_,hb,K,hm,c4,b7,_,_⟩
   ·exact⟨⟨[sl .nil []],.cons .ax .nil,by simp only [nM,l];exact⟨.nil,[],rfl,fun r z=>by simp at z,by simp,fun r z=>by simp at z⟩⟩,by simpa using J.symm⟩
   ·refine⟨?_,by simpa using J.symm⟩;have B:∀ i,i<len→∃ p:List Value × List FC,w.cells? base (a.add (i*P.cellsOf e)) (P.cellsOf e)=aa p.1∧A2 (bS σ (yX w) w) p.2 p.1∧nM P n e p.2:=by
     intro i g;have:=b7 i g;rw [By (by omega)]at this;obtain⟨cs',J,S⟩:=Option.bind_eq_some_iff.1 this;obtain⟨⟨xs,ha,j⟩,_⟩:=ih he S;exact⟨(cs',xs),J,ha,j⟩
    obtain⟨p,M⟩:=Go.Deep.choose_lt B;by_cases h0:len=0
    ·subst h0;refine⟨[sl .fs []],.cons (.SQ a cap) .nil,?_⟩;simp only [nM,l];exact⟨.fs,[],rfl,fun r z=>by simp at z,by simp,fun r z=>by simp at z⟩
    have F:a.spot=ab:=by
     have:=M 0 (by omega);obtain⟨_,c6,a_⟩:=World.cells?_some this.1;have:=a_ 0 (by omega);rw [By (by omega)]at this;have:=(zP this).2;simpa [Addr.add]using this
    obtain⟨c,o,sp⟩:=a;simp only at F;subst F
    let d:=(List.range len).map fun i=>(p i).1
    let rows:=(List.range len).map fun i=>(p i).2
    have Z:∀ v ∈ d,v.length=P.cellsOf e:=by
     intro v Z;obtain⟨i,g,rfl⟩:=adx.1 Z;exact(World.cells?_some (M i (by simpa using g)).1).2.1
    have hg:bC (P.cellsOf e) rows:=by
     intro r z;obtain⟨i,g,rfl⟩:=adx.1 z;obtain⟨J,S,_⟩:=M i (by simpa using g);rw [S.len,(World.cells?_some J).2.1]
    have hA:A2 (bS σ (yX w) w) rows.flatten d.flatten:=by
     refine A2.flatten (by simp [rows,d]) fun i xs ys I L=>?_;simp only [rows,d,adh,IN]at I L;obtain⟨i1,O,rfl⟩:=I;obtain⟨i2,Q,rfl⟩:=L;rw [O]at Q;cases Q;have:=acI O;exact(M i1 (by simpa using this)).2.1
    have E:∀ i u,d.flatten[i]?=aa u→w.cell? ⟨c,o+i,ab⟩=aa u:=by
     intro i u Y;have g:i<d.flatten.length:=(If.1 Y).1;rw [vQ Z]at g;have b_:d.length=len:=by simp [d]
     rw [b_]at g;have N:i / P.cellsOf e<len:=Nat.div_lt_of_lt_mul (by rw [Nat.mul_comm];exact g);have hk:i % P.cellsOf e<P.cellsOf e:=Nat.mod_lt _ (by omega);have A:i=i / P.cellsOf e*P.cellsOf e+i % P.cellsOf e:=by rw [Nat.mul_comm];exact(Nat.div_add_mod _ _).symm
     have X:d[i / P.cellsOf e]?=aa (p (i / P.cellsOf e)).1:=by simp [d,N]
     rw [A,vP Z X hk]at Y;obtain⟨_,_,hc⟩:=World.cells?_some (M _ N).1;have:=hc _ hk;rw [Y]at this;rw [←this,I',←A]
    refine⟨[sl .fs rows],.cons ?_ .nil,?_⟩
    ·have b9:rows≠[]:=by simp [rows];omega
     have W:rows.length=len:=by simp [rows]
     have:sl Tg.fs rows=.fs rows.flatten len:=by
      cases z:rows with
      | nil=>exact absurd z b9| cons r rs=>simp only [sl,List.isEmpty_cons,Bool.false_eq_true,if_false];rw [←z,W]
     rw [this];refine .fs rows.flatten len c o cap d.flatten K hA.len.symm (fun i g=>?_) E fun i x u I Y=>hA.2 i x u I Y;have A:i<d.flatten.length:=by rw [←hA.len];exact g
     exact(zP (E i _ (By A))).1
    ·simp only [nM,l];have W:rows.length=len:=by simp [rows]
     refine⟨.fs,rows,rfl,hg,by omega,fun r z=>?_⟩;obtain⟨i,g,rfl⟩:=adx.1 z;exact(M i (by simpa using g)).2.2
  ·rename_i fs l;simp only [BY]at j;obtain⟨xs,m,_,_,K,_,I⟩:=DataW.trod_struct l h;refine⟨?_,K⟩;obtain⟨ys,J,S⟩:=oR (n:=n) (fuel:=m) ih fs.toList 0 _ cs j.1 j.2 K fun f hf=>by
    obtain⟨i,g⟩:=ac9 hf;rw [Array.getElem?_toList]at g;have:=I i f g;rw [this];have c7:i<fs.size:=(Array.getElem?_eq_some_iff.1 g).1;exact⟨_,By (by omega)⟩
   exact⟨ys,by simpa using J,by simp only [nM,l];exact S⟩
  ·rename_i k e l;simp only [BY,beq_iff_eq]at j;obtain⟨U,he⟩:=j;cases fuel with
   | zero=>simp [DataW.trod]at h
   | succ m=>
   obtain⟨K,I⟩:=LZ l h;refine⟨?_,K⟩;have B:∀ i,i<k→∃ q:List FC,A2 (bS σ (yX w) w) q ((cs.drop (i*P.cellsOf e)).take (P.cellsOf e))∧nM P n e q:=by
    intro i g;obtain⟨y,L⟩:=I i g;obtain⟨⟨q,a,b⟩,_⟩:=ih he L;exact⟨q,a,b⟩
   obtain⟨q,N⟩:=Go.Deep.choose_lt B
   let rows:=(List.range k).map q
   have b6:cs=((List.range k).map fun i=>(cs.drop (i*P.cellsOf e)).take (P.cellsOf e)).flatten:=se (by rw [K,U]);refine⟨rows.flatten,?_,?_⟩
   ·rw [b6];refine A2.flatten (by simp [rows]) fun i xs ys I L=>?_;simp only [rows,adh,IN]at I L;obtain⟨i1,O,rfl⟩:=I;obtain⟨i2,Q,rfl⟩:=L;rw [O]at Q;cases Q;have:=acI O;exact(N i1 (by simpa using this)).1
   ·simp only [nM,l];refine⟨rows,rfl,by simp [rows],fun r z=>?_,fun r z=>?_⟩
    ·obtain⟨i,g,rfl⟩:=adx.1 z;have A:i<k:=by simpa using g
     rw [(N i A).1.len,List.length_take,adg,K,U];have:(i+1)*P.cellsOf e≤k*P.cellsOf e:=adi _ A;rw [ac3]at this;omega
    ·obtain⟨i,g,rfl⟩:=adx.1 z;exact(N i (by simpa using g)).2
  ·simp at j
end
section
variable{P:Program}{n:Nat}{t e:TypeId}{xs:List FC}
theorem pH{k:IntKind}(b:P.underlying t=aa (.int k))(h:nM P (n+1) t xs):∃ m,xs=[.int k m]∧(Lit.int k m).wf=ae:=by simpa only [nM,b]using h
theorem oC(b:P.underlying t=aa (.slice e))(h:nM P (n+1) t xs):∃ g rows,xs=[sl g rows]∧bC (P.cellsOf e) rows∧rows.length≤maxLen∧∀ r ∈ rows,nM P n e r:=by simpa only [nM,b]using h
theorem zl{d:Array Field}{ts:List TypeId}(g:P.underlying t=aa (.struct d))(b:d.toList.map (·.type)=ts)(h:nM P (n+1) t xs):r_ (nM P n) ts xs:=by
 subst b;simpa only [nM,g]using h
theorem ny{S:TypeId→List FC→Prop}{ts:List TypeId}(h:r_ S (t::ts) xs):∃ p q,xs=p++q∧S t p∧r_ S ts q:=h
theorem pF{d:Type}{enc:d→List FC}{p:d→Prop}:∀ {rows:List (List FC)},(∀ r ∈ rows,∃ x,r=enc x∧p x)→∃ l:List d,rows=l.map enc∧∀ x ∈ l,p x
 | [],_=>⟨[],rfl,by simp⟩
 | r::rows,h=>by
  obtain⟨x,rfl,m⟩:=h r acK;obtain⟨l,rfl,g⟩:=pF fun r j=>h r (acM _ j);exact⟨x::l,rfl,fun y b=>by
   rcases ac2.1 b with rfl | b
   ·exact m
   ·exact g y b⟩
end
end
section
open Go Go.ChangeShapes Go.WideShapes Go.ChangeAt Go.RowKit
def pJ(P:Program)(t:TypeId)(a:V):Prop:=(∃ xs,a=.a (xs.map .f)∧nM P 40 t xs∧(∃ d,P.underlying t=aa d∧((∃ b,d=.struct b)∨∃ n e,d=.array n e))) ∨
 (∃ x,a=.c (.f x)∧nM P 40 t [x])
def pe(P:Program):List TypeId→List V→Prop
 | [],as=>as=[]| t::ts,as=>∃ a b,as=a::b∧pJ P t a∧pe P ts b
section
variable{H:Type}{enc:TypeId × Value→H}{P:Program}{W W':World}
theorem rK{f:Func}{s:ChangeSpec}{g B l A:Bool}{args:Array Value}{v:Value}{ds F:List (DataW H)}{d pa pv:List MemPlace}
  (K:DataW.Whole enc P f.params.toList s.vars g W args.toList ds F d)
  (z:∀(b:Nat) (E:Nat→Bool) (O:Bool),DataW.TrodAll enc P W' b E O f.resultTypes.toList (v.resultList f.resultTypes.size) (s.fn H (ds++F)).results [])
  (m:∀ E:Nat→Bool,(∀ p ∈ d,E p.block=ae)→DataW.TrodAll enc P W' 0 E ae f.params.toList args.toList (s.fn H (ds++F)).args pa)
  (u:∀ E:Nat→Bool,(∀ p ∈ d,E p.block=ae)→DataW.TrodVars enc P W' E s.vars (s.fn H (ds++F)).vars pv)
  (x:d=pa++pv) (M:Below W.heap.size W W')
  (L:∀(j:Nat) (t:TypeId) (r:Value),f.resultTypes[j]?=aa t→(v.resultList f.resultTypes.size)[j]?=aa r→Value.okWide P W' .any 0 t r) :
  s.post enc P f g B l A W args v W':=by
 have I:∀ p ∈ d,p.block<W.heap.size:=fun p q=>K.lt p q;have y:∀ p ∈ d,(fun b=>decide (b<W.heap.size)) p.block=ae:=fun p q=>by simpa using I p q
 refine⟨ds,F,d,[],pa,pv,K,z _ _ _,m _ y,u _ y,World.keptBut_mono (fun p q=>⟨q,?_⟩) (M.frame (· ∈ d)),fun _=>?_⟩
 ·rw [x,List.mem_append]at q;exact Or.inr q
 ·obtain⟨_,_,_,_,_,S,Q⟩:=K;refine⟨L,_,_,([]++pa)++pv,⟨[]++pa,pv,trodAll_append (m _ (fun _ _=>rfl)) (z _ _ _),u _ (fun _ _=>rfl),rfl,?_,?_⟩,?_⟩
  ·intro b off q;have J:MemPlace.cell b off ∈ d:=by rw [x];simpa using q
   rw [M.frozen (p:=⟨b,off,ab⟩) (I _ J)];exact S b off J
  ·intro N;have:=Q N;rw [x]at this;simpa using this
  ·intro p q _;rw [x];simpa using q
theorem lO(s:laidOutB P=ae){y:Nat→Bool}(m:Below W.heap.size W W'):∀ {ts:List TypeId} {l:List Value} {ds:List (DataW H)} {ps:List MemPlace},
  (ts.all fun t=>P.readableRec t&&decide (t<P.types.size))=ae→DataW.TrodAll enc P W 0 (fun _=>ae) ae ts l ds ps→(∀ p ∈ ps,p.block<W.heap.size)→(∀ p ∈ ps,y p.block=ae) →
  DataW.TrodAll enc P W' 0 y ae ts l ds ps
 | [],[],[],ps,_,h,_,_=>h
 | t::ts,v::l,d::ds,ps,j,⟨p,q,z,A,e⟩,g,u=>by
  subst e;simp only [List.all_cons,BY,decide_eq_true_eq]at j;exact⟨p,q,WideElems.Trod_stays s j.1.1 j.1.2 z (fun x b=>m.same (g x (adj _ b))) (fun x b=>u x (adj _ b)),
   lO s m j.2 A (fun x b=>g x (adE _ b)) (fun x b=>u x (adE _ b)),rfl⟩
 | [],_::_,_,_,_,h,_,_=>by cases h
 | [],[],_::_,_,_,h,_,_=>by cases h
 | _::_,[],_,_,_,h,_,_=>by cases h
 | _::_,_::_,[],_,_,h,_,_=>by cases h
variable{σ:Nat→FuncId}
def X0(W:World):Wd:=⟨fun _=>ab,yX W,[],W,W.heap.size⟩
theorem L2{xs:List FC}{cs:Array Value}(h:A2 (bS σ (yX W) W) xs cs.toList):VR σ (X0 W) (.a (xs.map .f)) (.agg cs):=
 ⟨cs.toList,by simp,A2.map (g:=C.f) (h.jj fun _ _ h=>h)⟩
theorem Jf{t:TypeId}{v:Value}{d:DataW H}{ps:List MemPlace}{base:Nat}{spare:Nat→Bool}{held:Bool}{b0:Nat}(s:eH P 40 t=ae)(g:Value.okWide P W .any b0 t v)
  (E:DataW.Trod enc P W base spare held t v d ps):∃ a,VR σ (X0 W) a v∧pJ P t a:=by
 obtain⟨fuel,q⟩:=E;obtain⟨⟨xs,m,u⟩,I⟩:=abq (σ:=σ) s q;have l:v.cells.toList=[v]→∃ a,VR σ (X0 W) a v∧pJ P t a:=by
  intro F;rw [F]at m
  match xs,m.len with
  | [x],_=>exact⟨.c (.f x),m.of_cons.1,.inr ⟨x,rfl,u⟩⟩
 unfold eH at s;unfold Value.okWide at g;split at g
 ·rename_i y j;obtain⟨cs,rfl,_,_⟩:=g;exact⟨_,L2 m,.inl ⟨xs,rfl,u,_,j,.inl ⟨_,rfl⟩⟩⟩
 ·rename_i n e j;obtain⟨cs,rfl,_,_⟩:=g;exact⟨_,L2 m,.inl ⟨xs,rfl,u,_,j,.inr ⟨_,_,rfl⟩⟩⟩
 ·rename_i A B;refine l ?_;split at s
  ·rename_i j;obtain⟨b,z,_⟩:=DataW.trod_bool j q;simp only [Cell.okWide,j,Cell.ok]at g;cases v<;>simp_all [Value.cells]
  ·rename_i j;obtain⟨b,z,_⟩:=DataW.trod_int j q;simp only [Cell.okWide,j,Cell.ok]at g;cases v<;>simp_all [Value.cells]
  ·rename_i j;obtain⟨b,z,_⟩:=DataW.trod_string j q;simp only [Cell.okWide,j,Cell.ok]at g;cases v<;>simp_all [Value.cells]
  ·rename_i j;simp only [Cell.okWide,j,Cell.ok]at g;cases v<;>simp_all [Value.cells]
  ·rename_i y j;exact absurd j (A y)
  ·rename_i n e j;exact absurd j (B n e)
  ·simp at s
theorem sa{base:Nat}{spare:Nat→Bool}{held:Bool}{b0:Nat}:∀ {ts:List TypeId} {g:List Value} {ds:List (DataW H)} {ps:List MemPlace},(ts.all fun t=>eH P 40 t)=ae →
  (∀(j:Nat) t v,ts[j]?=aa t→g[j]?=aa v→Value.okWide P W .any b0 t v)→DataW.TrodAll enc P W base spare held ts g ds ps →
  ∃ as,A2 (VR σ (X0 W)) as g∧pe P ts as
 | [],[],[],_,_,_,_=>⟨[],A2.nil,rfl⟩
 | t::ts,v::g,d::ds,ps,l,b,⟨p,q,u,x,_⟩=>by
  simp only [List.all_cons,BY]at l;obtain⟨a,y,A⟩:=Jf (σ:=σ) l.1 (b 0 t v rfl rfl) u;obtain⟨m,z,B⟩:=sa l.2 (fun j t v h s=>b (j+1) t v (by simpa using h) (by simpa using s)) x;exact⟨a::m,.cons y z,a,m,rfl,A,B⟩
 | [],_::_,_,_,_,_,h=>by cases h
 | [],[],_::_,_,_,_,h=>by cases h
 | _::_,[],_,_,_,_,h=>by cases h
 | _::_,_::_,[],_,_,_,h=>by cases h
theorem Px{n:Nat}{H:aj}{v:V}{b:Bool}(h:nE (n+1) H v=aa (.c (.f (.bool b)))):v=.c (.f (.bool b)):=by
 cases v with
 | top=>simp [nE,db]at h| a xs=>simp [nE,db]at h| t xs=>simp [nE]at h
 | c x=>
  simp only [nE,db,IN]at h;obtain⟨y,d,h⟩:=h;cases h;cases x with
  | f x=>simpa [dI]using d| ptr b o e=>simp only [dI]at d;split at d<;>simp at d
  | sl b o l c e s=>
   simp only [dI]at d;split at d
   ·split at d<;>simp at d
   ·split at d<;>simp at d
   ·split at d<;>simp at d
   ·split at d<;>simp at d
   ·simp at d
  | cl f g=>simp [dI]at d| _=>simp [dI]at d
variable{tab:Nat→Option aw}
theorem zc(x:Env P σ tab (oA tab)){f:Nat}{args:List V}{us:List Value}(h:cB tab f args (vb ae))(W:World)(z:A2 (VR σ (X0 W)) args us) :
  Calls P (σ f) us.toArray W fun e w'=>e=.returned (.bool ae)∧Below W.heap.size W w':=by
 obtain⟨r,H',⟨m,d,h⟩,j⟩:=h;have j:=Px (n:=63) j;subst j;intro cs
 let X:=X0 W
 have y:SR P σ X:=⟨fun b L h=>by simp [X,X0]at h,fun b M L K h=>by simp [X,X0]at h,fun c i h=>h⟩
 obtain⟨q,X',u,s,⟨E,F,H,l,fn,I,J⟩,N,O,v,g,Q⟩:=(Jo x m d).fn f args [] _ H' h X us .normal cs rfl y (IT _) z (.inl rfl) (.inl rfl);have B:=VR.bool v;subst B;exact⟨.returned (.bool ae),X'.w,q,⟨rfl,⟨g.os,g.tape,g.output,g.size,fun k A=>g.frame k A (fun b L h=>by simp [X,X0]at h)⟩⟩,s,l,E,F,H,fn,by rw [l];exact I,J⟩
theorem JT(hE:Env P σ tab (oA tab)){s:ChangeSpec}{f:Func}{fi:Nat}{tb:TypeId}(x:s.vars=[])(B:laidOutB P=ae){ts:List TypeId}(F:f.params.toList=ts)
  (O:∀ ds:List (DataW H),ds.length=ts.length→s.fn H ds=⟨[.lit (.bool ae)],ds,[]⟩)
  (y:f.resultTypes=#[tb]) (K:P.underlying tb=aa .bool) (E:(ts.all fun t=>P.readableRec t&&decide (t<P.types.size))=ae) (u:(ts.all fun t=>eH P 40 t)=ae)
  (Q:∀ as,pe P ts as→cB tab fi as (vb ae)) {g A l z:Bool} {base:Nat} {args:Array Value} {ds gs:List (DataW H)} {d:List MemPlace}
  (L:∀(j:Nat) t v,f.params[j]?=aa t→args[j]?=aa v→Value.okWide P W .any base t v) (X:DataW.Whole enc P f.params.toList s.vars g W args.toList ds gs d) :
  Calls P (σ fi) args W fun e W'=>∃ v,e=.returned v∧s.post enc P f g A l z W args v W':=by
 have I:=X;obtain⟨p,q,N,U,Y,a8,a_⟩:=X;rw [F]at N;rw [x]at U;obtain⟨rfl,rfl⟩:=trodVars_none U;simp only [adZ]at Y;subst Y;obtain⟨as,h1,h2⟩:=sa (σ:=σ) (b0:=base) u (fun j t v h h'=>L j t v (by rw [←Array.getElem?_toList,F];exact h) (by rw [←Array.getElem?_toList];exact h')) N;have J:ds.length=ts.length:=by
  have:∀ {ts:List TypeId} {M:List Value} {ds:List (DataW H)} {ps:List MemPlace},DataW.TrodAll enc P W 0 (fun _=>ae) ae ts M ds ps→ds.length=ts.length:=by
   intro ts;induction ts with
   | nil=>intro M ds ps h;cases M<;>cases ds<;>first | rfl | cases h
   | cons t ts ih=>intro M ds ps h;cases M<;>cases ds<;>first | (obtain⟨_,_,_,h,_⟩:=h;simp [ih h]) | cases h
  exact this N
 have m:=O ds J;have Z:=zc hE (Q as h2) W h1;rw [Array.toArray_toList]at Z;refine Z.mono fun e W' h=>?_;obtain⟨he,hg⟩:=h;subst he;refine⟨_,rfl,rK (pa:=d) (pv:=[]) I (fun b sp hd=>?_) (fun sp S=>?_) (fun sp _=>?_) (by simp) hg ?_⟩
 ·rw [adZ,m,y];exact trodAll_mk1 (shut_bool K _)
 ·rw [adZ,m,F];exact lO B hg E N (fun p hp=>I.lt p hp) S
 ·rw [adZ,m,x];exact rfl
 ·exact ok_one y rfl (okWide_bool_mk K _)
end
end
section
open Go
section
variable{tab:Nat→Option aw}{f:Nat}{args:List V}{r:V}{fn:Nat}{k:List ca}{t:T}{ds:List dm}{H H':aj}{Q:Option ak→St→Prop}
theorem oe{x:Arg}{ps:List P}{as bd:ak}{g:Nat}{s:List V}(A:bG (x.ev t) [.c (.yl (H.length+1))]=aa (.fn g,s))
  (l:Ev tab (.fn g) s (H++[.fk ae,.lp fn t ps as bd .ready ab H.length]) r H')
  (h:WP tab fn ab (.fZ (H.length+1)::k) ⟨t,.hY H.length::ds,H'⟩ Q):WP tab fn ab (.code (.dE x ps as bd)::k) ⟨t,ds,H⟩ Q:=by
 obtain⟨m,d,l⟩:=l;obtain⟨n,q,b,j,s',y,z⟩:=h;refine⟨n+1,max m q,max d b,j,s',?_,z⟩;have u:=gT (tab:=tab) (acV m q) (acV d b) _ _ _ _ l;have v:=qT (acQ m q) (acQ d b) (IT n) y;simp only [run,A,u,v];simp
theorem qp{ro:Option Nat}{b j d:Nat}{q:T}{ps:List P}{as bd:ak}{l:eL}(s:H[b]?=aa (.lp j q ps as bd l ab d))(g:l≠.busy)
  (h:WP tab fn ro k ⟨t,ds,H.set b (.lp j q ps as bd .exhausted ab d)⟩ Q):WP tab fn ro (.fZ b::k) ⟨t,ds,H⟩ Q:=by
 refine iX h fun m d n=>?_;simp only [run,s,aU g]
theorem tO{ro:Option Nat}{b j d:Nat}{q:T}{ps:List P}{as bd:ak}{l:eL}(s:H[b]?=aa (.lp j q ps as bd l (aa .ret) d))(g:l≠.busy)
  (h:WP tab fn ro (.code .ret::k) ⟨t,ds,H.set b (.lp j q ps as bd .exhausted (aa .ret) d)⟩ Q):WP tab fn ro (.fZ b::k) ⟨t,ds,H⟩ Q:=by
 refine iX h fun m d n=>?_;simp only [run,s,aU g]
theorem tN{b g d:Nat}{l:T}{ps:List P}{as bd:ak}{j:Option ak}(q:H[b]?=aa (.lp g l ps as bd .ready j d))
  (h:WP tab fn (aa b) k ⟨t,ds,H.set b (.lp g l ps as bd .busy j d)⟩ Q):WP tab fn (aa b) (.ke::k) ⟨t,ds,H⟩ Q:=by
 refine iX h fun m d n=>?_;simp only [run,q]
@[simp] theorem W_ {b:Nat} {as:List V}:bG (.c (.yl b)) as=aa (.yield b,as):=rfl
def XE(b:Nat)(r:V)(H':aj)(j:Option ak)(s:St):Prop:=s.defs=[]∧∃ g l ps as bd q m d,s.heap[b]?=aa (.lp g l ps as bd q m d)∧r=.c (.f (.bool j.isNone)) ∧
 H'=s.heap.set b (.lp g l ps as bd (if j.isNone then .ready else .done) j d)
theorem JI{b l d:Nat}{q:T}{ps:List P}{as bd:ak}{K:eL}{F:Option ak}(A:H[b]?=aa (.lp l q ps as bd K F d))(E:args.length=ps.length)
  (h:WP tab l (aa b) [.code as,.ke,.code bd] ⟨bP ps args q,[],H⟩ (XE b r H')):Ev tab (.yield b) args H r H':=by
 obtain⟨n,m,g,j,s,y,B,O,M,J,v,x,L,I,N,z,rfl,rfl⟩:=h;refine⟨max m n,g+1,?_⟩;have u:run (CF tab (max m n) g) l (max m n) (aa b) [.code as,.ke,.code bd] ⟨bP ps args q,[],H⟩=aa (j,s):=qT (acV m n) (IT g) (acQ m n) y;simp only [CF]at u ⊢;simp only [dx,A,E,if_true,u,B,List.isEmpty_nil,z];rfl
theorem kr{C:V→aj→Prop}{b F d:Nat}{I:T}{ps:List P}{as bd:ak}{O:eL}{N:Option ak}(L:H[b]?=aa (.lp F I ps as bd O N d))(M:args.length=ps.length)
  (h:∀ Q:Option ak→St→Prop,(∀ j s z u q g l x v y,s.defs=[]→s.heap[b]?=aa (.lp z u q g l x v y) →
   C (.c (.f (.bool j.isNone))) (s.heap.set b (.lp z u q g l (if j.isNone then .ready else .done) j y))→Q j s)→WP tab F (aa b) [.code as,.ke,.code bd] ⟨bP ps args I,[],H⟩ Q):∃ r H',Ev tab (.yield b) args H r H'∧C r H':=by
 have K:=h (fun j s=>∃ r H',C r H'∧XE b r H' j s) fun j s z u q g l x v y A B E=>⟨_,_,E,A,z,u,q,g,l,x,v,y,B,rfl,rfl⟩
 obtain⟨n,m,J,j,s,A,r,H',B,E⟩:=K;exact⟨r,H',JI L M ⟨n,m,J,j,s,A,E⟩,B⟩
def XD(d:List fF)(r:V)(s:St):Prop:=∃ b,s.defs=[.hY b]∧s.heap[b]?=aa (.fk ae)∧∃ r0,results s.al (s.heap.set b (.fk ag)) d=aa r0∧nE deep (s.heap.set b (.fk ag)) r0=aa r
theorem Le{S:V→Prop}{ps:List P}{g:List fF}{body:ak}(z:tab f=aa ⟨ps,g,body⟩)(x:args.length=ps.length)
  (h:∀ Q:Option ak→St→Prop,(∀ j s r,S r→rv g r s∨XD g r s→Q j s)→WP tab f ab [.code body] ⟨bP ps args .e,[],[]⟩ Q):∃ r,S r∧cB tab f args r:=by
 have A:=h (fun _ s=>∃ r,S r∧(rv g r s∨XD g r s)) fun _ _ r q l=>⟨r,q,l⟩
 obtain⟨n,m,d,j,s,q,r,y,⟨v,r0,l,u⟩ | ⟨b,v,B,r0,l,u⟩⟩:=A
 ·exact⟨r,y,r0,s.heap,qk z x ⟨n,m,d,j,s,q,0,0,s.heap,by rw [v];rfl,l,rfl⟩,u⟩
 ·exact⟨r,y,r0,s.heap.set b (.fk ag),qk z x ⟨n,m,d,j,s,q,0,0,_,by rw [v];simp only [cV,B],l,rfl⟩,u⟩
theorem dy{C:V→aj→Prop}{ps:List P}{b:List fF}{body:ak}(y:tab f=aa ⟨ps,b,body⟩)(x:args.length=ps.length)
  (h:∀ Q:Option ak→St→Prop,(∀ j s r,s.defs=[]→results s.al s.heap b=aa r→C r s.heap→Q j s)→WP tab f ab [.code body] ⟨bP ps args .e,[],H⟩ Q):∃ r H',Ev tab (.fn f) args H r H'∧C r H':=by
 have u:=h (fun _ s=>s.defs=[]∧∃ r,results s.al s.heap b=aa r∧C r s.heap) fun _ _ r g l q=>⟨g,r,l,q⟩
 obtain⟨n,m,d,j,s,g,v,r,l,q⟩:=u;exact⟨r,s.heap,qk y x ⟨n,m,d,j,s,g,0,0,s.heap,by rw [v];rfl,l,rfl⟩,q⟩
end
end
section
open Go
theorem o4{c:bQ}:∀(a b:List aH) (s:St),ej c (a++b) s=(ej c a s).bind (ej c b)
 | [],b,s=>rfl
 | o::a,b,s=>by
  simp only [List.cons_append,ej];cases eo c s o with
  | none=>rfl| some s'=>exact o4 a b s'
theorem rf{c:bQ}:∀(os:List aH) (s:St) {s':St},ej c os s=aa s'→∃ b,di c os s=aa b∧b.getLast?=aa s'∧∀ i,i≤os.length→ej c (os.take i) s=b[i]?
 | [],s,s',h=>by
  simp only [ej,sh]at h;subst h;refine⟨[s],rfl,rfl,fun i g=>?_⟩;have:i=0:=by simpa using g
  subst this;rfl
 | o::os,s,s',h=>by
  simp only [ej]at h;cases d:eo c s o with
  | none=>simp [d]at h
  | some q=>
   simp only [d]at h;obtain⟨b,j,l,m⟩:=rf os q h;refine⟨s::b,by simp only [di,d,j],by rw [List.getLast?_cons,l];rfl,fun i g=>?_⟩;cases i with
   | zero=>rfl
   | succ i=>
    simp only [aeq,ej,d,List.getElem?_cons_succ];exact m i (by simpa using g)
def oL(o:aH)(b l:St):Prop:=wanted b.al o.g=aa ag∨∃ v g d j,aW b.al b.heap o.op=aa (v,g)∧aW b.al l.heap o.op=aa (d,j)∧v.beq d=ae
section
variable{tab:Nat→Option aw}{fn:Nat}{ro:Option Nat}{k:List ca}{s:St}{Q:Option ak→St→Prop}
def SH(tab:Nat→Option aw)(ops:List aH)(s:St)(c:Nat × Nat):Prop:=c.2≤ops.length∧∃ o,ops[c.1]?=aa o ∧
 ((c.1≤c.2∧rz tab (ops.take c.1) s fun b=>rz tab ((ops.drop c.1).take (c.2-c.1)) b fun d=>oL o b d) ∨
 (c.2≤c.1∧rz tab (ops.take c.2) s fun d=>rz tab ((ops.drop c.2).take (c.1-c.2)) d fun b=>oL o b d))
theorem LK{ops:List aH}{c:Nat × Nat}(h:SH tab ops s c):∃ m d o g j,c.2≤ops.length∧ops[c.1]?=aa o∧ej (CF tab m d) (ops.take c.1) s=aa g∧ej (CF tab m d) (ops.take c.2) s=aa j∧oL o g j:=by
 have y:∀(a b:Nat) (K:St→St→Prop),a≤b→rz tab (ops.take a) s (fun l=>rz tab ((ops.drop a).take (b-a)) l fun q=>K l q) →
   ∃ m d l q,ej (CF tab m d) (ops.take a) s=aa l∧ej (CF tab m d) (ops.take b) s=aa q∧K l q:=by
  intro a b K M h;obtain⟨m,d,l,u,v⟩:=gz _ _ h;obtain⟨E,z,q,x,L⟩:=gz _ _ v;have F:=cZ (gT (tab:=tab) (acV m E) (acV d z)) _ _ u;have J:=cZ (gT (tab:=tab) (acQ m E) (acQ d z)) _ _ x;refine⟨max m E,max d z,l,q,F,?_,L⟩;have:ops.take b=ops.take a++(ops.drop a).take (b-a):=by
   have N:b=a+(b-a):=by omega
   conv=>lhs;rw [N,List.take_add]
  rw [this,o4,F];exact J
 obtain⟨H,o,I,⟨A,h⟩ | ⟨B,h⟩⟩:=h
 ·obtain⟨m,d,g,j,u,v,x⟩:=y _ _ (fun g j=>oL o g j) A h;exact⟨m,d,o,g,j,H,I,u,v,x⟩
 ·obtain⟨m,d,j,g,u,v,x⟩:=y _ _ (fun j g=>oL o g j) B h;exact⟨m,d,o,g,j,H,I,v,u,x⟩
theorem qq{ops:List aH}{b:List (Nat × Nat)}(N:ro=ab∨ops.all (·.op.dA)=ae)(h:rz tab ops s fun s'=>WP tab fn ro k s' Q)(hk:∀ c ∈ b,SH tab ops s c) :
  WP tab fn ro (.code (.region ops b)::k) s Q:=by
 obtain⟨m,d,s',h1,n,m',d',j,s2,h2,h3⟩:=gz ops s h;have g:∃ M D,∀ c ∈ b,∃ o u y,c.2≤ops.length∧ops[c.1]?=aa o∧ej (CF tab M D) (ops.take c.1) s=aa u∧ej (CF tab M D) (ops.take c.2) s=aa y∧oL o u y:=by
  clear h1 h2 h;induction b with
  | nil=>exact⟨0,0,fun c B=>by cases B⟩
  | cons c cs S=>
   obtain⟨M,D,S⟩:=S fun c B=>hk c (acM _ B);obtain⟨U,E,o,u,y,a1,z,A,a4,a5⟩:=LK (hk c acK);refine⟨max M U,max D E,fun c' q=>?_⟩;rcases ac2.1 q with rfl | q
   ·have l:=gT (tab:=tab) (acQ M U) (acQ D E);exact⟨o,u,y,a1,z,cZ l _ _ A,cZ l _ _ a4,a5⟩
   ·obtain⟨o,u,y,a1,z,A,a4,a5⟩:=S c' q;have l:=gT (tab:=tab) (acV M U) (acV D E);exact⟨o,u,y,a1,z,cZ l _ _ A,cZ l _ _ a4,a5⟩
 obtain⟨M,D,g⟩:=g;obtain⟨X,J,K,L⟩:∃ x,m≤x∧m'≤x∧M≤x:=⟨max (max m m') M,by omega,by omega,by omega⟩
 obtain⟨W,F,H,I⟩:∃ x,d≤x∧d'≤x∧D≤x:=⟨max (max d d') D,by omega,by omega,by omega⟩
 refine⟨n+1,X,W,j,s2,?_,h3⟩;have e1:=cZ (gT (tab:=tab) J F) ops _ h1;have e2:=qT K H (IT n) h2;have O:(ro.isSome&&!ops.all (·.op.dA))=ag:=by
  rcases N with rfl | N
  ·rfl
  ·rw [N];simp
 obtain⟨ss,f1,f2,f3⟩:=rf ops s e1;have hx:eI (CF tab X W) ops b s=aa s':=by
  cases b with
  | nil=>simpa only [eI]using e1
  | cons x xs=>
   simp only [eI,f1];rw [bf,f2];rw [List.all_eq_true];intro c B;obtain⟨o,u,y,a1,z,A,a4,a5⟩:=g c B;have l:=gT (tab:=tab) L I;have hi:c.1≤ops.length:=by
    have:=(If.1 z).1;omega
   have Y:=cZ l _ _ A;have Z:=cZ l _ _ a4;rw [f3 _ hi]at Y;rw [f3 _ a1]at Z;simp only [sameAt,z,Y,Z];rcases a5 with hw | ⟨v,H1,v',H2,g1,g2,g3⟩
   ·rw [hw]
   ·split
    ·rfl
    ·simp only [g1,g2,g3]
 simp only [run,O,hx,e2];simp
end
end
section
open Go
def RB(H:aj)(b sz ep:Nat)(rows:List (List FC)):Prop:=H[b]?=aa (.bA sz (rows.flatten.map .f) 0 ep .loc)
def Fm(b:Nat)(H H':aj):Prop:=H.length≤H'.length∧∀ d:Nat,d≠b→d<H.length→H'[d]?=H[d]?
theorem Fm.refl{b:Nat}(H:aj):Fm b H H:=⟨IT _,fun _ _ _=>rfl⟩
theorem Fm.trans{b:Nat}{H H' d:aj}(h:Fm b H H')(j:Fm b H' d):Fm b H d:=
 ⟨acT h.1 j.1,fun g e l=>(j.2 g e (adb l h.1)).trans (h.2 g e l)⟩
theorem Fm.push{b:Nat}(H J:aj):Fm b H (H++J):=⟨by simp,fun d _ l=>AT l⟩
theorem Fm.set{b:Nat}(H:aj)(x:bK):Fm b H (H.set b x):=⟨by simp,fun d e _=>AI (Ne.symm e)⟩
theorem Fm.get{b:Nat}{H H':aj}(h:Fm b H H'){d:Nat}{x:bK}(g:H[d]?=aa x)(e:d≠b):H'[d]?=aa x:=by rw [h.2 d e (av g)];exact g
theorem wX{sz:Nat}{row:List FC}(q:row.length=sz):∀ {rows:List (List FC)} {j:Nat},bC sz rows→j<rows.length →
  rows.flatten.take (j*sz)++row++rows.flatten.drop (j*sz+sz)=(rows.set j row).flatten
 | [],_,_,d=>by simp at d
 | r::rows,0,b,_=>by
  have:=b r acK;subst this;simp
 | r::rows,j+1,b,d=>by
  have g:=b r acK;have u:=wX q (rows:=rows) (j:=j) (fun x s=>b x (acM _ s)) (by simpa using d);simp only [ac4,List.set_cons_succ];rw [←u];have l:(j+1)*sz=r.length+j*sz:=by rw [g,ac3];omega
  have m:(j+1)*sz+sz=r.length+(j*sz+sz):=by omega
  rw [m,l,List.take_append,aev];simp [acS,adG]
section
variable{H:aj}{b sz ep j:Nat}{rows:List (List FC)}{row:List FC}
theorem RB.lt(h:RB H b sz ep rows):b<H.length:=av h
theorem RB.push(h:RB H b sz ep rows)(J:aj):RB (H++J) b sz ep rows:=by
 unfold RB at *;rw [AT (av h)];exact h
theorem RB.len(h:RB H b sz ep rows){o l c:Nat}:bM H (.sl b o l c ep sz)=aa l:=by
 unfold RB at h;simp [bM,h]
theorem RB.idx(h:RB H b sz ep rows){n c:Nat}{k:IntKind}{i:Int}(d:0≤i)(g:i<n){o:Nat}:a6 H sz ab (.c (.sl b o n c ep sz)) (.c (.f (.int k i)))=aa (.c (.ptr b (o+i.toNat*sz) ep)):=by
 unfold RB at h;simp only [a6,fK,d,g,if_true,h,and_self]
theorem RB.Y7(h:RB H b sz ep rows)(hg:bC sz rows)(g:rows[j]?=aa row):dz H (aa sz) (.c (.ptr b (j*sz) ep))=aa (.a (row.map .f)):=by
 unfold RB at h;have d:row.length=sz:=hg row (acI g);have:=qh (k:=0) hg g (by omega);simp only [aP,h,if_true];rw [←List.map_drop];rw [Nat.add_zero]at this;rw [this];have l:(row.map C.f++((rows.drop (j+1)).flatten.map C.f)).take sz=row.map C.f:=by
  rw [adk (by simp [d]),acS (by simp [d])]
 simp [d]
theorem RB.str(h:RB H b sz ep rows)(hg:bC sz rows)(m:j<rows.length)(l:row.length=sz) :
  ∃ H',gD H (.ptr b (j*sz) ep) (row.map .f)=aa H'∧RB H' b sz ep (rows.set j row)∧Fm b H H'∧H'.length=H.length:=by
 have q:=cX hg;have g:(j+1)*sz≤rows.length*sz:=adi _ m;have d:j*sz+sz≤rows.flatten.length:=by rw [q];rw [ac3]at g;omega
 unfold RB at h ⊢;refine⟨H.set b (.bA sz ((rows.set j row).flatten.map .f) 0 ep .loc),?_,?_,Fm.set _ _,by simp⟩
 ·simp only [bZ,h,Nat.zero_le,true_and,ac1,l,d,if_true];rw [←wX l hg m];simp [over,l]
 ·exact OF (av h)
end
theorem zM{k n:Nat}(h:k≤n):uQ (vi k) n=aa k:=by
 have:(0:Int)≤k∧(k:Int)≤n:=by omega
 simp [uQ,fK,this]
theorem RB.qX{H:aj}{b sz ep n k:Nat}{rows:List (List FC)}(h:RB H b sz ep rows)(g:k<n) :
  dL H sz (.c (.sl b 0 n 0 ep sz)) (aa (vi k)) ab ab=aa (.c (.sl b (k*sz) (n-k) 0 ep sz)):=by
 unfold RB at h;have d:bw n n (aa (vi k)) ab ab=aa (k,n,n):=by simp [bw,zM (Nat.le_of_lt g)]
 simp [dL,h,d];omega
theorem RB.LP{H:aj}{b sz ep n k:Nat}{rows:List (List FC)}(h:RB H b sz ep rows)(g:k≤n)(j:0<k) :
  dL H sz (.c (.sl b 0 n 0 ep sz)) ab (aa (vi k)) ab=aa (.c (.sl b 0 k 0 ep sz)):=by
 unfold RB at h;have d:bw n n ab (aa (vi k)) ab=aa (0,k,n):=by simp [bw,zM g]
 simp [dL,h,d]
 try omega
theorem RB.clr{H:aj}{b sz ep n k:Nat}{rows:List (List FC)}{zs:List FC}(h:RB H b sz ep rows)(hg:bC sz rows)(x:rows.length=n)(A:k<n)(s:zs.length=sz) :
  ∃ H',lV H sz zs (.c (.sl b (k*sz) (n-k) 0 ep sz))=aa H'∧RB H' b sz ep (rows.take k++List.replicate (n-k) zs)∧Fm b H H':=by
 have v:=cX hg;have d:=h.len (o:=k*sz) (l:=n-k) (c:=0);have g:(bX (n-k) zs).length=(n-k)*sz:=by
  have:bC sz (List.replicate (n-k) zs):=fun r z=>by rw [List.eq_of_mem_replicate z,s]
  simpa [bX]using cX this
 have m:k*sz+(n-k)*sz=rows.flatten.length:=by rw [v,x,←ac3];congr 1;omega
 unfold RB at h ⊢;refine⟨H.set b (.bA sz ((rows.take k++List.replicate (n-k) zs).flatten.map .f) 0 ep .loc),?_,OF (av h),Fm.set _ _⟩;have y:n-k≠0:=by omega
 have u:(rows.take k++List.replicate (n-k) zs).flatten.map C.f=over (rows.flatten.map .f) (k*sz) ((bX (n-k) zs).map .f):=by
  rw [aer,←oH k hg];simp only [over,ac1,g,adP,List.map_take];rw [List.drop_eq_nil_of_le (by simp only [ac1];omega)];simp [bX]
 simp only [lV,d];rw [u];obtain⟨q,j⟩:∃ q,n-k=q+1:=⟨n-k-1,by omega⟩
 rw [j];simp only [s,if_true,h,and_self,bZ,Nat.zero_le,true_and,ac1];rw [←j,g,bf (by omega)]
theorem jH{t:T}{H:aj}{x:fF}{r:V}(h:cD t H x=aa r):Km.results t H [x]=aa r:=by
 simp [Km.results,aY,h]
@[simp] theorem aa5 {t:T} {H:aj} (sz:Nat) (zs:List FC) (x:Arg):aW t H (.clear sz zs x)=(lV H sz zs (x.ev t)).map (.t [],·):=rfl
@[simp] theorem aaQ {a b:Int}:wh ag [vi a,vi b]=aa (vi (max a b)):=by
 have:(if a<b then b else a)=max a b:=by split<;>omega
 simp only [wh,qy,wg];simp [this,V.int]
@[simp] theorem aaR {a b:Int}:wh ae [vi a,vi b]=aa (vi (min a b)):=by
 have:(if b<a then b else a)=min a b:=by split<;>omega
 simp only [wh,qy,wg];simp [this,V.int]
end
section
open Go
def fO(l:List (List FC))(i j:Nat):List (List FC):=(l.set i (l.getD j [])).set j (l.getD i [])
def dG(a b:Nat)(l d:List (List FC)):Prop:=d.Perm l∧d.take a=l.take a∧d.drop b=l.drop b
theorem dG.refl(a b:Nat)(l:List (List FC)):dG a b l l:=⟨.refl _,rfl,rfl⟩
theorem dG.trans{a b:Nat}{l j d:List (List FC)}(h:dG a b l j)(g:dG a b j d):dG a b l d:=⟨g.1.trans h.1,g.2.1.trans h.2.1,g.2.2.trans h.2.2⟩
theorem dG.len{a b:Nat}{l d:List (List FC)}(h:dG a b l d):d.length=l.length:=h.1.length_eq
theorem dG.lt{a b:Nat}{l d:List (List FC)}(h:dG a b l d){i:Nat}(g:i<a):d[i]?=l[i]?:=by
 have:=congrArg (·[i]?) h.2.1;simpa [acX,g]using this
theorem dG.ge{a b:Nat}{l d:List (List FC)}(h:dG a b l d){i:Nat}(g:b≤i):d[i]?=l[i]?:=by
 have:=congrArg (·[i-b]?) h.2.2;simpa [acO,show b+(i-b)=i by omega]using this
theorem dG.mono{a b a' d:Nat}{l g:List (List FC)}(h:dG a b l g)(j:a'≤a)(m:b≤d):dG a' d l g:=by
 refine⟨h.1,?_,?_⟩
 ·have:=congrArg (·.take a') h.2.1;simpa [ad7,adQ j]using this
 ·have:=congrArg (·.drop (d-b)) h.2.2;simpa [adT,show b+(d-b)=d by omega]using this
theorem uL(l:List (List FC))(i j:Nat):(fO l i j).length=l.length:=by simp [fO]
theorem fj{l:List (List FC)}{i j:Nat}(g:i<l.length)(m:j<l.length)(k:Nat):(fO l i j)[k]?=if k=j then l[i]? else if k=i then l[j]? else l[k]?:=by
 have q:l.getD i []=l[i]:=by simp [List.getD,By g]
 have s:l.getD j []=l[j]:=by simp [List.getD,By m]
 simp only [fO,q,s,List.getElem?_set];by_cases b:j=k
 ·subst b;simp [By g,m]
 ·by_cases d:i=k
  ·subst d;simp [b,Ne.symm b,By m,g]
  ·simp [b,d,Ne.symm b,Ne.symm d]
theorem dY{a b:Nat}{l:List (List FC)}{i j:Nat}(x:a≤i)(s:i<b)(y:a≤j)(u:j<b)(v:b≤l.length):dG a b l (fO l i j):=by
 have d:i<l.length:=by omega
 have g:j<l.length:=by omega
 refine⟨?_,?_,?_⟩
 ·have m:l.getD i []=l[i]:=by simp [List.getD,By d]
  have q:l.getD j []=l[j]:=by simp [List.getD,By g]
  simp only [fO,m,q];exact List.set_set_perm d g
 ·apply List.ext_getElem?;intro k;simp only [acX];split
  ·rw [fj d g,aU (by omega),aU (by omega)]
  ·rfl
 ·apply List.ext_getElem?;intro k;simp only [acO];rw [fj d g,aU (by omega),aU (by omega)]
section
variable{H:aj}{b sz ep:Nat}{rows:List (List FC)}
theorem RB.swap(h:RB H b sz ep rows)(hg:bC sz rows){i j:Nat}(m:i<rows.length)(q:j<rows.length) :
  ∃ d g,gD H (.ptr b (i*sz) ep) (rows[j].map .f)=aa d∧RB d b sz ep (rows.set i rows[j])∧gD d (.ptr b (j*sz) ep) (rows[i].map .f)=aa g∧RB g b sz ep (fO rows i j)∧Fm b H g:=by
 have z:rows[i].length=sz:=hg _ (acE m);have s:rows[j].length=sz:=hg _ (acE q);obtain⟨d,B,r1,x,-⟩:=h.str hg m s;have l:bC sz (rows.set i rows[j]):=fun r A=>by
  rcases List.mem_or_eq_of_mem_set A with h | rfl
  ·exact hg r h
  ·exact s
 obtain⟨g,E,r2,y,-⟩:=r1.str l (j:=j) (by simpa using q) z;refine⟨d,g,B,r1,E,?_,x.trans y⟩;have u:rows.getD i []=rows[i]:=by simp [List.getD,By m]
 have v:rows.getD j []=rows[j]:=by simp [List.getD,By q]
 simp only [fO,u,v];exact r2
theorem dG.o9{a b:Nat}{l d:List (List FC)}(h:dG a b l d)(hg:bC sz l):bC sz d:=fun r g=>hg r (h.1.mem_iff.1 g)
end
structure ru(W:List FC→Prop)(c:List FC→List FC→Int):Prop where
 x4:∀ {x y},W x→W y→c x y<0→¬ c y x<0
 trans:∀ {x y z},W x→W y→W z→¬ c y x<0→¬ c z y<0→¬ c z x<0
def Up(c:List FC→List FC→Int)(a b:Nat)(l:List (List FC)):Prop:=∀ i j x y,a≤i→i<j→j<b→l[i]?=aa x→l[j]?=aa y→¬ c y x<0
end
section
open Go
theorem sd{l:List (List FC)}{a m b:Nat}(j:a≤m)(q:m≤b)(s:b≤l.length):∃ X U V Y,l=X++(U++(V++Y))∧X.length=a∧U.length=m-a∧V.length=b-m:=by
 refine⟨l.take a,(l.drop a).take (m-a),(l.drop m).take (b-m),l.drop b,?_,by simp;omega,by simp;omega,by simp;omega⟩;have g:(l.drop m).take (b-m)++l.drop b=l.drop m:=by
  have:=adD (b-m) (l.drop m);rwa [adT,show m+(b-m)=b by omega]at this
 have d:(l.drop a).take (m-a)++l.drop m=l.drop a:=by
  have:=adD (m-a) (l.drop a);rwa [adT,show a+(m-a)=m by omega]at this
 rw [g,d,adD]
theorem dG.mem{a b:Nat}{l m:List (List FC)}(h:dG a b l m)(d:a≤b)(K:b≤l.length){i:Nat}{x:List FC}(W:a≤i)(Z:i<b)(z:m[i]?=aa x):∃ j,a≤j∧j<b∧l[j]?=aa x:=by
 obtain⟨X,U,V,Y,e,S,lU,Q⟩:=sd (IT a) d K;have hl:=h.len;obtain⟨X',E,F,v,H,u,O,s⟩:=sd (l:=m) (IT a) d (by omega);obtain rfl:U=[]:=List.length_eq_zero_iff.1 (by omega);obtain rfl:E=[]:=List.length_eq_zero_iff.1 (by omega);obtain⟨g,N,L⟩:=h;subst e;subst H;have I:X'=X:=by
  simpa [adk (show a≤X.length by omega),adk (show a≤X'.length by omega),acS (show X.length≤a by omega),acS (show X'.length≤a by omega)]using N
 have J:v=Y:=by
  have q:∀ {A B C:List (List FC)},A.length=a→B.length=b-a→(A++([]++(B++C))).drop b=C:=by
   intro A B C hA hB;rw [ad0,←adG,List.drop_append_of_le_length (by simp;omega),List.drop_of_length_le (by simp;omega),ad0]
  rwa [q u s,q S Q]at L
 subst I;subst J;have g:F.Perm V:=by
  have:=(List.perm_append_left_iff X').1 g;simp only [ad0]at this;exact(List.perm_append_right_iff v).1 this
 rw [ad0,acR (by omega),AT (by omega)]at z;obtain⟨j,y⟩:=ac9 (g.mem_iff.1 (acI z));have M:=(If.1 y).1;refine⟨a+j,by omega,by omega,?_⟩;rw [ad0,acR (by omega),AT (by omega)];rw [←y];congr 1;omega
section
variable{W:List FC→Prop}{c:List FC→List FC→Int}
theorem Up.mono{a b a' d:Nat}{l:List (List FC)}(h:Up c a b l)(u:a≤a')(v:d≤b):Up c a' d l:=
 fun i j x y q g s m hy=>h i j x y (by omega) g (by omega) m hy
theorem Up.one{a b:Nat}{l:List (List FC)}(h:b≤a+1):Up c a b l:=fun i j x y d g m=>by omega
theorem Up.of{a b:Nat}{l q:List (List FC)}(h:Up c a b l)(m:∀ k,a≤k→k<b→q[k]?=l[k]?):Up c a b q:=fun i j x y d s g u hy=>
 h i j x y d s g (by rw [←m i d (by omega)];exact u) (by rw [←m j (by omega) g];exact hy)
def hU(c:List FC→List FC→Int)(l:List (List FC))(i j:Nat):Prop:=∀ x y,l[i]?=aa x→l[j]?=aa y→¬ c y x<0
theorem hU.trans{l:List (List FC)}{i j k:Nat}(hc:ru W c)(b:∀ r ∈ l,W r)(h:hU c l i j)(q:hU c l j k)(d:j<l.length):hU c l i k:=fun x y g hy=>by
 have m:=By d;exact hc.trans (b _ (acI g)) (b _ (acE d)) (b _ (acI hy)) (h _ _ g m) (q _ _ m hy)
end
end
section
open Go
def eS:C→Option Nat
 | .sl b _ _ _ _ _=>aa b| _=>ab
def LR(H:aj)(c:C)(sz:Nat)(rows:List (List FC)):Prop:=(rows=[]∧(c=.f .ax∨c=.f .es))∨(rows≠[]∧∃ b ep,c=.sl b 0 rows.length 0 ep sz∧RB H b sz ep rows)
def Kb(H H':aj)(c:C):Prop:=H.length≤H'.length∧∀(i:Nat) y,H[i]?=aa y→eS c≠aa i→H'[i]?=aa y
section
variable{H H':aj}{c:C}{sz:Nat}{rows:List (List FC)}
theorem LR.nil(H:aj)(sz:Nat):LR H (.f .ax) sz []:=.inl ⟨rfl,.inl rfl⟩
theorem LR.cC(h:LR H c sz rows)(g:∀ i y,H[i]?=aa y→eS c=aa i→H'[i]?=aa y):LR H' c sz rows:=by
 rcases h with h | ⟨h,b,ep,rfl,d⟩
 ·exact .inl h
 ·exact .inr ⟨h,b,ep,rfl,g b _ d rfl⟩
theorem LR.push(h:LR H c sz rows)(J:aj):LR (H++J) c sz rows:=h.cC fun i y hy _=>by rw [AT (av hy)];exact hy
theorem LR.lt(h:LR H c sz rows){i:Nat}(d:eS c=aa i):i<H.length:=by
 rcases h with⟨_,rfl | rfl⟩ | ⟨h,b,ep,rfl,g⟩
 ·cases d
 ·cases d
 ·cases d;exact g.lt
theorem LR.fU(h:LR H c sz rows){i:Nat}{cs:List C}{fl:Nat}(g:H[i]?=aa (.box cs fl)):eS c≠aa i:=by
 rcases h with⟨_,rfl | rfl⟩ | ⟨h,b,ep,rfl,d⟩
 ·simp [eS]
 ·simp [eS]
 ·intro e;cases e;unfold RB at d;rw [d]at g;cases g
theorem LR.set(h:LR H c sz rows){i:Nat}(b:eS c≠aa i)(x:bK):LR (H.set i x) c sz rows:=h.cC fun j y hy d=>by
 have:i≠j:=by rintro rfl;exact b d
 rw [AI this];exact hy
theorem LR.len(h:LR H c sz rows):bM H c=aa rows.length:=by
 rcases h with⟨rfl,rfl | rfl⟩ | ⟨h,b,ep,rfl,d⟩
 ·rfl
 ·rfl
 ·exact d.len
theorem LR.ex(h:LR H c sz rows)(hg:bC sz rows)(n:Nat):∃ g,dI (n+1) H c=aa (sl g rows):=by
 rcases h with⟨rfl,rfl | rfl⟩ | ⟨h,b,ep,rfl,d⟩
 ·exact⟨.nil,rfl⟩
 ·exact⟨.es,rfl⟩
 ·refine⟨.fs,?_⟩;have j:rows.length*sz=rows.flatten.length:=(cX hg).symm;unfold RB at d;simp only [oP,d];rw [bf ⟨trivial,trivial,by rw [ac1,adt,j];exact IT _⟩,ady,acS (by rw [ac1];omega),tU];cases rows with
  | nil=>exact absurd rfl h| cons x l=>simp [sl]
theorem LO{g g':Tg}{rows:List (List FC)}(h:rows≠[]):sl g rows=sl g' rows:=by
 cases rows with
 | nil=>exact absurd rfl h| cons x l=>rfl
theorem LR.exU(h:LR H c sz rows)(hg:bC sz rows):∃ g,∀(H':aj) (n:Nat),(∀ i y,H[i]?=aa y→eS c=aa i→H'[i]?=aa y)→dI (n+1) H' c=aa (sl g rows):=by
 by_cases b:rows=[]
 ·rcases h with⟨rfl,rfl | rfl⟩ | ⟨h,_⟩
  ·exact⟨.nil,fun _ _ _=>rfl⟩
  ·exact⟨.es,fun _ _ _=>rfl⟩
  ·exact absurd b h
 ·refine⟨.fs,fun H' n d=>?_⟩;obtain⟨g,e⟩:=(h.cC d).ex hg n;rw [e,LO b]
theorem LR.app(h:LR H c sz rows)(hg:bC sz rows)(xh:sz≠0){row:List FC}(z:row.length=sz){bytes:Nat}(d:bB (rows.length+1) bytes=ae){b1 m:Nat}(s:H[b1]?=aa (.box (row.map .f) m)) :
  ∃ l H',bJ H sz bytes (.c c) (.c (.sl b1 0 1 1 0 sz))=aa (.c l,H')∧LR H' l sz (rows++[row])∧Kb H H' c∧(eS l=eS c∨eS l=aa H.length):=by
 have g:dC H sz (.c (.sl b1 0 1 1 0 sz))=aa (1,row.map .f):=kU s (by simp [z]);rcases h with⟨rfl,u⟩ | ⟨x,b,ep,rfl,q⟩
 ·have d:bB 1 bytes=ae:=by simpa using d
  refine⟨.sl H.length 0 1 0 0 sz,H++[.bA sz (row.map .f) 0 0 .loc],?_,.inr ⟨by simp,H.length,0,rfl,?_⟩,⟨by simp,fun i y hy _=>by rw [AT (av hy)];exact hy⟩,.inr rfl⟩
  ·rcases u with rfl | rfl<;>simp [bJ,g,d,xh]
  ·simp [RB]
 ·have j:rows.length*sz=rows.flatten.length:=(cX hg).symm;unfold RB at q;refine⟨.sl b 0 (rows.length+1) 0 (ep+1) sz,H.set b (.bA sz (rows.flatten.map .f++row.map .f) 0 (ep+1) .loc),?_,.inr ⟨by simp,b,ep+1,by simp,?_⟩,⟨by simp,fun i y hy v=>?_⟩,.inl rfl⟩
  ·simp only [bJ,g,xh,if_false,q,and_self,if_true];simp only [Nat.add_one_ne_zero,if_false];rw [bf ⟨trivial,by rw [ac1];exact j,by simp⟩,d];simp
  ·unfold RB;rw [OF (av q)];simp
  ·have:b≠i:=by rintro rfl;exact v rfl
   rw [AI this];exact hy
theorem Kb.push(H J:aj)(c:C):Kb H (H++J) c:=⟨by simp,fun i y hy _=>by rw [AT (av hy)];exact hy⟩
end
end
section
open Go
theorem wA{b:Type}:∀ {cs:List b} {k:Nat} {x:b},k<cs.length→over cs k [x]=cs.set k x
 | [],k,x,h=>by simp at h
 | c::cs,0,x,_=>by simp [over]
 | c::cs,k+1,x,h=>by
  have:=wA (cs:=cs) (k:=k) (x:=x) (by simpa using h);simp only [over,adf,List.length_nil]at this ⊢;rw [aeq,List.set_cons_succ,←this];simp
end
section
set_option linter.unusedVariables false
open Go
abbrev yn(d:Nat)(op:cj):aH:=⟨D d,op,ab⟩
abbrev fE(d k g:Nat):aH:=⟨D d,.cb (R k),G g ae⟩
abbrev te(d z k g:Nat):aH:=⟨D d,.load (aa z) (R k),G g ae⟩
abbrev ym(d k:Nat):aH:=⟨D d,.cb (R k),ab⟩
abbrev yi(n:Int):Arg:=.k (.c (.f (.int .i64 n)))
abbrev yt:Arg:=.k (.c (.f (.bool ae)))
abbrev yf:Arg:=.k (.c (.f (.bool ag)))
abbrev ys(z a b:Nat):aH:=⟨ab,.store z (R a) (R b),ab⟩
abbrev yb(d:Nat)(o:BinOp)(a b:Nat):aH:=⟨D d,.bin o (R a) (R b),ab⟩
abbrev ya(d z a b:Nat):aH:=⟨D d,.bh z ab (R a) (R b),ab⟩
abbrev yl(d z a:Nat):aH:=⟨D d,.load (aa z) (R a),ab⟩
abbrev yr(l:List aH):ak:=.region l []
structure gP where
 y8:Nat
 ins:Nat
 heap:Nat
 rP:Nat
 SO:Nat
 Rg:Nat
 rev:Nat
 part:Nat
 K5:Nat
 pins:Nat
 rF:Nat
 Mc:Nat
 ord:Nat
 SY:Nat
 SZ:Nat
 len:Nat
 abP:Nat
 abO:Nat
 rot:Nat
 swr:Nat
section
variable(σ:gP)(sz:Nat)
def Vn:ak:=.seq (yr [ym 26 0,ym 27 1,ym 28 2,ym 29 4,yn 30 (.call σ.ins [R 26,R 27,R 28,R 29] ae)]) .ret
def Vp:ak:=.seq (yr [ym 33 0,ym 34 1,ym 35 2,ym 36 4,yn 37 (.call σ.heap [R 33,R 34,R 35,R 36] ae)]) .ret
def Vs:ak:=yr [ym 45 3,yn 46 (.bin .sub (R 45) (yi 1)),ym 3 46]
def Vr:ak:=.seq (yr [ym 40 0,ym 41 1,ym 42 2,ym 43 4,yn 44 (.call σ.SO [R 40,R 41,R 42,R 43] ae)]) (Vs)
def Vw:ak:=yr [yn 14 (.cb (yi 1))]
def Vv:ak:=.seq (yr [ym 62 2,yn 63 (.bin .sub (R 62) (yi 1)),ym 64 13,ym 65 1,yb 66 .sub 64 65,yb 67 .sub 63 66,ym 13 67]) (Vw)
def Vu:ak:=.seq (yr [ym 57 0,ym 58 1,ym 59 2,ym 60 4,yn 61 (.call σ.rev [R 57,R 58,R 59,R 60] ae)]) (Vv)
def Vx:ak:=.seq (yr [ym 76 0,ym 77 1,ym 78 2,ym 79 4,yn 80 (.call σ.pins [R 76,R 77,R 78,R 79] ae)]) (.cond (R 80) .ret .skip)
def Vz:ak:=.seq (yr [ym 104 15,ym 1 104]) (.exit 1)
def Vy:ak:=.seq (yr [ym 98 0,ym 99 1,ym 100 2,ym 101 13,ym 102 4,yn 103 (.call σ.K5 [R 98,R 99,R 100,R 101,R 102] ae),ym 15 103]) (Vz)
def VG:ak:=yr [ym 135 16,yn 136 (.bin .add (R 135) (yi 1)),ym 1 136]
def VF:ak:=.seq (yr [ym 129 0,ym 130 1,ym 131 16,ym 132 3,ym 133 4,yn 134 (.call σ.y8 [R 129,R 130,R 131,R 132,R 133] ae)]) (VG)
def VE:ak:=.seq (yr [ym 126 18,ym 127 20,yb 128 .geq 126 127,ym 10 128]) (VF σ)
def VJ:ak:=yr [ym 147 16,ym 2 147]
def VI:ak:=.seq (yr [ym 140 0,ym 141 16,yn 142 (.bin .add (R 141) (yi 1)),ym 143 2,ym 144 3,ym 145 4,yn 146 (.call σ.y8 [R 140,R 142,R 143,R 144,R 145] ae)]) (VJ)
def VH:ak:=.seq (yr [ym 137 19,ym 138 20,yb 139 .geq 137 138,ym 10 139]) (VI σ)
def VD:ak:=.seq (yr [ym 123 18,ym 124 19,yb 125 .lss 123 124]) (.cond (R 125) (VE σ) (VH σ))
def VC:ak:=.seq (yr [ym 121 12,yn 122 (.bin .quo (R 121) (yi 8)),ym 20 122]) (VD σ)
def VB:ak:=.seq (yr [ym 115 16,ym 116 1,yb 117 .sub 115 116,ym 118 2,ym 119 16,yb 120 .sub 118 119,ym 18 117,ym 19 120]) (VC σ)
def VA:ak:=.seq (yr [ym 114 17,ym 11 114]) (VB σ)
def K3:ak:=.seq (yr [ym 106 0,ym 107 1,ym 108 2,ym 109 13,ym 110 4,yn 111 (.call σ.part [R 106,R 107,R 108,R 109,R 110] ae),ym 105 111,yn 112 (.extract (R 105) 0),yn 113 (.extract (R 105) 1),ym 16 112,ym 17 113]) (VA σ)
def K2:ak:=.seq (.seq (yr [ym 81 1,yn 82 (.bin .gtr (R 81) (yi 0)),ym 83 82,fE 84 4 83,fE 85 0 83,fE 86 1 83,⟨D 87,.bin .sub (R 86) (yi 1),G 83 ae⟩,⟨D 88,.bh sz ab (R 85) (R 87),G 83 ae⟩,te 89 sz 88 83,fE 90 0 83,fE 91 13 83,⟨D 92,.bh sz ab (R 90) (R 91),G 83 ae⟩,te 93 sz 92 83,⟨D 94,.bH (R 84) [R 89,R 93] ae,G 83 ae⟩,⟨D 95,.bin .lss (R 94) (yi 0),G 83 ae⟩,⟨D 96,.un .not (R 95),G 83 ae⟩,yn 97 (.pick (R 83) (R 96) yf)]) (.cond (R 97) (Vy σ) .skip)) (K3 σ)
def K1:ak:=.seq (.seq (yr [ym 68 10,ym 69 68,fE 70 11 69,yn 71 (.pick (R 69) (R 70) yf),ym 72 71,fE 73 14 72,⟨D 74,.bin .eql (R 73) (yi 1),G 72 ae⟩,yn 75 (.pick (R 72) (R 74) yf)]) (.cond (R 75) (Vx σ) .skip)) (K2 σ sz)
def Vt:ak:=.seq (.seq (yr [ym 55 14,yn 56 (.bin .eql (R 55) (yi 2))]) (.cond (R 56) (Vu σ) .skip)) (K1 σ sz)
def K0:ak:=.seq (yr [ym 48 0,ym 49 1,ym 50 2,ym 51 4,yn 52 (.call σ.Rg [R 48,R 49,R 50,R 51] ae),ym 47 52,yn 53 (.extract (R 47) 0),yn 54 (.extract (R 47) 1),ym 13 53,ym 14 54]) (Vt σ sz)
def Vq:ak:=.seq (.seq (yr [ym 38 10,yn 39 (.un .not (R 38))]) (.cond (R 39) (Vr σ) .skip)) (K0 σ sz)
def Vo:ak:=.seq (.seq (yr [ym 31 3,yn 32 (.bin .eql (R 31) (yi 0))]) (.cond (R 32) (Vp σ) .skip)) (Vq σ sz)
def ZP:ak:=.seq (.seq (yr [ym 24 12,yn 25 (.bin .leq (R 24) (yi 12))]) (.cond (R 25) (Vn σ) .skip)) (Vo σ sz)
def ZO:ak:=.seq (yr [ym 21 2,ym 22 1,yb 23 .sub 21 22,ym 12 23]) (ZP σ sz)
def sS:ak:=.block 1 (ZO σ sz)
def ZN:ak:=.seq (yr [yn 11 (.cb yt)]) (.block 0 (.loop (sS σ sz)))
def ZM:ak:=.seq (yr [yn 10 (.cb yt)]) (ZN σ sz)
def K4(σ:gP)(sz:Nat):aw:=⟨[P.nat 0,P.nat 1,P.nat 2,P.nat 3,P.nat 4],[],(ZM σ sz)⟩
end
section
variable(σ:gP)(sz:Nat)
def UH:ak:=yr [ym 37 0,ym 38 9,ym 39 0,ym 40 9,yn 41 (.bin .sub (R 40) (yi 1)),ym 42 0,ym 43 9,yn 44 (.bin .sub (R 43) (yi 1)),ya 45 sz 42 44,yl 46 sz 45,ym 47 0,ym 48 9,ya 49 sz 47 48,yl 50 sz 49,ya 51 sz 37 38,ys sz 51 46,ya 52 sz 39 41,ys sz 52 50]
def UI:ak:=yr [ym 35 9,yn 36 (.bin .sub (R 35) (yi 1)),ym 9 36]
def UG:ak:=.seq (.block 3 (UH sz)) (UI)
def UF:ak:=.seq (.seq (yr [ym 18 9,ym 19 1,yb 20 .gtr 18 19,ym 21 20,fE 22 3 21,fE 23 0 21,fE 24 9 21,⟨D 25,.bh sz ab (R 23) (R 24),G 21 ae⟩,te 26 sz 25 21,fE 27 0 21,fE 28 9 21,⟨D 29,.bin .sub (R 28) (yi 1),G 21 ae⟩,⟨D 30,.bh sz ab (R 27) (R 29),G 21 ae⟩,te 31 sz 30 21,⟨D 32,.bH (R 22) [R 26,R 31] ae,G 21 ae⟩,⟨D 33,.bin .lss (R 32) (yi 0),G 21 ae⟩,yn 34 (.pick (R 21) (R 33) yf)]) (.cond (R 34) .skip (.exit 2))) (UG sz)
def UE:ak:=.seq (yr [ym 17 8,ym 9 17]) (.block 2 (.loop (UF sz)))
def tK:ak:=yr [ym 15 8,yn 16 (.bin .add (R 15) (yi 1)),ym 8 16]
def Y0:ak:=.seq (.block 1 (UE sz)) (tK)
def z6:ak:=.seq (.seq (yr [ym 12 8,ym 13 2,yb 14 .lss 12 13]) (.cond (R 14) .skip (.exit 0))) (Y0 sz)
def YZ:ak:=.seq (yr [ym 10 1,yn 11 (.bin .add (R 10) (yi 1)),ym 8 11]) (.block 0 (.loop (z6 sz)))
def v3(σ:gP)(sz:Nat):aw:=⟨[P.nat 0,P.nat 1,P.nat 2,P.nat 3],[],(YZ sz)⟩
end
section
variable(σ:gP)(sz:Nat)
def PE:ak:=yr [ym 24 0,ym 25 11,ym 26 10,ym 27 8,ym 28 3,yn 29 (.call σ.rP [R 24,R 25,R 26,R 27,R 28] ae)]
def PF:ak:=yr [ym 22 11,yn 23 (.bin .sub (R 22) (yi 1)),ym 11 23]
def PD:ak:=.seq (.block 1 (PE σ)) (PF)
def PC:ak:=.seq (.seq (yr [ym 20 11,yn 21 (.bin .geq (R 20) (yi 0))]) (.cond (R 21) .skip (.exit 0))) (PD σ)
def PJ:ak:=yr [ym 54 0,ym 55 9,ym 56 12,ym 57 8,ym 58 3,yn 59 (.call σ.rP [R 54,R 55,R 56,R 57,R 58] ae)]
def PI:ak:=.seq (yr [ym 36 0,ym 37 8,ym 38 0,ym 39 8,ym 40 12,yb 41 .add 39 40,ym 42 0,ym 43 8,ym 44 12,yb 45 .add 43 44,ya 46 sz 42 45,yl 47 sz 46,ym 48 0,ym 49 8,ya 50 sz 48 49,yl 51 sz 50,ya 52 sz 36 37,ys sz 52 47,ya 53 sz 38 41,ys sz 53 51]) (PJ σ)
def PK:ak:=yr [ym 34 12,yn 35 (.bin .sub (R 34) (yi 1)),ym 12 35]
def PH:ak:=.seq (.block 3 (PI σ sz)) (PK)
def PG:ak:=.seq (.seq (yr [ym 32 12,yn 33 (.bin .geq (R 32) (yi 0))]) (.cond (R 33) .skip (.exit 2))) (PH σ sz)
def z3:ak:=.seq (yr [ym 30 10,yn 31 (.bin .sub (R 30) (yi 1)),ym 12 31]) (.block 2 (.loop (PG σ sz)))
def Ux:ak:=.seq (.seq (yr [ym 17 10,yn 18 (.bin .sub (R 17) (yi 1)),yn 19 (.bin .quo (R 18) (yi 2)),ym 11 19]) (.block 0 (.loop (PC σ)))) (z3 σ sz)
def Uw:ak:=.seq (yr [ym 14 2,ym 15 1,yb 16 .sub 14 15,ym 10 16]) (Ux σ sz)
def Uv:ak:=.seq (yr [yn 9 (.cb (yi 0))]) (Uw σ sz)
def Uu:ak:=.seq (yr [ym 13 1,ym 8 13]) (Uv σ sz)
def yB(σ:gP)(sz:Nat):aw:=⟨[P.nat 0,P.nat 1,P.nat 2,P.nat 3],[],(Uu σ sz)⟩
end
section
variable(σ:gP)(sz:Nat)
def RO:ak:=yr [ym 41 11,yn 42 (.bin .add (R 41) (yi 1)),ym 11 42]
def RQ:ak:=yr [ym 81 11,ym 10 81]
def RP:ak:=.seq (yr [ym 59 0,ym 60 3,ym 61 10,yb 62 .add 60 61,ym 63 0,ym 64 3,ym 65 11,yb 66 .add 64 65,ym 67 0,ym 68 3,ym 69 11,yb 70 .add 68 69,ya 71 sz 67 70,yl 72 sz 71,ym 73 0,ym 74 3,ym 75 10,yb 76 .add 74 75,ya 77 sz 73 76,yl 78 sz 77,ya 79 sz 59 62,ys sz 79 72,ya 80 sz 63 66,ys sz 80 78]) (RQ)
def AG:ak:=.seq (.seq (yr [ym 43 4,ym 44 0,ym 45 3,ym 46 10,yb 47 .add 45 46,ya 48 sz 44 47,yl 49 sz 48,ym 50 0,ym 51 3,ym 52 11,yb 53 .add 51 52,ya 54 sz 50 53,yl 55 sz 54,yn 56 (.bH (R 43) [R 49,R 55] ae),yn 57 (.bin .lss (R 56) (yi 0)),yn 58 (.un .not (R 57))]) (.cond (R 58) .ret .skip)) (RP sz)
def RN:ak:=.seq (.seq (yr [ym 19 11,yn 20 (.bin .add (R 19) (yi 1)),ym 21 2,yb 22 .lss 20 21,ym 23 22,fE 24 4 23,fE 25 0 23,fE 26 3 23,fE 27 11 23,⟨D 28,.bin .add (R 26) (R 27),G 23 ae⟩,⟨D 29,.bh sz ab (R 25) (R 28),G 23 ae⟩,te 30 sz 29 23,fE 31 0 23,fE 32 3 23,fE 33 11 23,⟨D 34,.bin .add (R 32) (R 33),G 23 ae⟩,⟨D 35,.bin .add (R 34) (yi 1),G 23 ae⟩,⟨D 36,.bh sz ab (R 31) (R 35),G 23 ae⟩,te 37 sz 36 23,⟨D 38,.bH (R 24) [R 30,R 37] ae,G 23 ae⟩,⟨D 39,.bin .lss (R 38) (yi 0),G 23 ae⟩,yn 40 (.pick (R 23) (R 39) yf)]) (.cond (R 40) RO .skip)) (AG sz)
def WT:ak:=.seq (.seq (yr [ym 16 11,ym 17 2,yb 18 .geq 16 17]) (.cond (R 18) (.exit 0) .skip)) (RN sz)
def WS:ak:=.seq (yr [ym 13 10,yn 14 (.bin .mul (yi 2) (R 13)),yn 15 (.bin .add (R 14) (yi 1)),ym 11 15]) (WT sz)
def LM:ak:=.block 1 (WS sz)
def WR:ak:=.seq (yr [ym 12 1,ym 10 12]) (.block 0 (.loop (LM sz)))
def uG(σ:gP)(sz:Nat):aw:=⟨[P.nat 0,P.nat 1,P.nat 2,P.nat 3,P.nat 4],[],(WR sz)⟩
end
section
variable(σ:gP)(sz:Nat)
def Ub:ak:=yr [ym 46 12,ym 47 8,yb 48 .sub 46 47,ym 12 48]
def Ji:ak:=yr [ym 49 0,ym 50 11,ym 51 0,ym 52 1,ym 53 12,yb 54 .add 52 53,ym 55 0,ym 56 1,ym 57 12,yb 58 .add 56 57,ya 59 sz 55 58,yl 60 sz 59,ym 61 0,ym 62 11,ya 63 sz 61 62,yl 64 sz 63,ya 65 sz 49 50,ys sz 65 60,ya 66 sz 51 54,ys sz 66 64]
def Ua:ak:=.seq (.seq (yr [ym 43 12,ym 44 8,yb 45 .geq 43 44]) (.cond (R 45) Ub .skip)) (Ji sz)
def T_:ak:=.seq (yr [yn 38 (.call σ.SZ [R 9] ae),ym 39 10,yn 40 (.bin .sub (R 39) (.k (.c (.f (.int .u64 1))))),yb 41 .and 38 40,yn 42 (.gF .i64 (R 41)),ym 12 42]) (Ua sz)
def Jj:ak:=yr [ym 36 11,yn 37 (.bin .add (R 36) (yi 1)),ym 11 37]
def T':ak:=.seq (.block 1 (T_ σ sz)) (Jj)
def Jh:ak:=.seq (.seq (yr [ym 28 11,ym 29 1,ym 30 8,yn 31 (.bin .quo (R 30) (yi 4)),yn 32 (.bin .mul (R 31) (yi 2)),yb 33 .add 29 32,yn 34 (.bin .add (R 33) (yi 1)),yb 35 .leq 28 34]) (.cond (R 35) .skip (.exit 0))) (T' σ sz)
def YH:ak:=.seq (yr [ym 22 1,ym 23 8,yn 24 (.bin .quo (R 23) (yi 4)),yn 25 (.bin .mul (R 24) (yi 2)),yb 26 .add 22 25,yn 27 (.bin .sub (R 26) (yi 1)),ym 11 27]) (.block 0 (.loop (Jh σ sz)))
def YG:ak:=.seq (yr [ym 20 8,yn 21 (.call σ.SY [R 20] ag),ym 10 21]) (YH σ sz)
def YF:ak:=.seq (yr [ym 18 8,yn 19 (.gF .u64 (R 18)),yn 9 (.alloc [(.int .u64 0)]),ys 1 9 19]) (YG σ sz)
def YE:ak:=.seq (yr [ym 16 8,yn 17 (.bin .geq (R 16) (yi 8))]) (.cond (R 17) (YF σ sz) .skip)
def YD:ak:=.seq (yr [ym 13 2,ym 14 1,yb 15 .sub 13 14,ym 8 15]) (YE σ sz)
def Jk(σ:gP)(sz:Nat):aw:=⟨[P.nat 0,P.nat 1,P.nat 2,P.nat 3],[],(YD σ sz)⟩
end
section
variable(σ:gP)(sz:Nat)
def V8:ak:=yr [ym 45 0,ym 46 14,ym 47 3,yn 48 (.call σ.rF [R 45,R 46,R 11,R 47] ae),ym 14 48]
def V7:ak:=.seq (yr [ym 41 0,ym 42 13,ym 43 3,yn 44 (.call σ.rF [R 41,R 42,R 11,R 43] ae),ym 13 44]) (V8 σ)
def V6:ak:=.seq (yr [ym 37 0,ym 38 12,ym 39 3,yn 40 (.call σ.rF [R 37,R 38,R 11,R 39] ae),ym 12 40]) (V7 σ)
def La:ak:=yr [ym 49 0,ym 50 12,ym 51 13,ym 52 14,ym 53 3,yn 54 (.call σ.Mc [R 49,R 50,R 51,R 52,R 11,R 53] ae),ym 13 54]
def V5:ak:=.seq (.seq (yr [ym 35 10,yn 36 (.bin .geq (R 35) (yi 50))]) (.cond (R 36) (V6 σ) .skip)) (La σ)
def V':ak:=.seq (yr [ym 59 13,ym 8 59,yn 9 (.cb (yi 1))]) .ret
def Wa:ak:=.seq (yr [ym 62 13,ym 8 62,yn 9 (.cb (yi 2))]) .ret
def Wb:ak:=.seq (yr [ym 56 13,ym 8 56,yn 9 (.cb (yi 0))]) .ret
def V_:ak:=.seq (yr [yn 61 (.bin .eql (R 55) (yi 12)),ym 60 61]) (.cond (R 60) Wa Wb)
def V9:ak:=.seq (yr [yn 58 (.bin .eql (R 55) (yi 0)),ym 57 58]) (.cond (R 57) V' V_)
def zb:ak:=.seq (yr [yn 55 (.load ab (R 11))]) (.block 0 V9)
def V4:ak:=.seq (.seq (yr [ym 33 10,yn 34 (.bin .geq (R 33) (yi 8))]) (.cond (R 34) (V5 σ) .skip)) (zb)
def V3:ak:=.seq (yr [ym 28 1,ym 29 10,yn 30 (.bin .quo (R 29) (yi 4)),yn 31 (.bin .mul (R 30) (yi 3)),yb 32 .add 28 31,ym 14 32]) (V4 σ)
def ZZ:ak:=.seq (yr [ym 23 1,ym 24 10,yn 25 (.bin .quo (R 24) (yi 4)),yn 26 (.bin .mul (R 25) (yi 2)),yb 27 .add 23 26,ym 13 27]) (V3 σ)
def ZY:ak:=.seq (yr [ym 18 1,ym 19 10,yn 20 (.bin .quo (R 19) (yi 4)),yn 21 (.bin .mul (R 20) (yi 1)),yb 22 .add 18 21,ym 12 22]) (ZZ σ)
def ZX:ak:=.seq (yr [yn 11 (.alloc [(.int .i64 0)])]) (ZY σ)
def ZW:ak:=.seq (yr [ym 15 2,ym 16 1,yb 17 .sub 15 16,ym 10 17]) (ZX σ)
def ZV:ak:=.seq (yr [yn 8 (.cb (yi 0)),yn 9 (.cb (yi 0))]) (ZW σ)
def Lb(σ:gP)(sz:Nat):aw:=⟨[P.nat 0,P.nat 1,P.nat 2,P.nat 3],[.tmp (P.nat 8),.tmp (P.nat 9)],(ZV σ)⟩
end
section
variable(σ:gP)(sz:Nat)
def WM:ak:=yr [ym 32 9,yn 33 (.bin .sub (R 32) (yi 1)),ym 9 33]
def WL:ak:=.seq (yr [ym 30 8,yn 31 (.bin .add (R 30) (yi 1)),ym 8 31]) (WM)
def WK:ak:=.seq (yr [ym 16 0,ym 17 8,ym 18 0,ym 19 9,ym 20 0,ym 21 9,ya 22 sz 20 21,yl 23 sz 22,ym 24 0,ym 25 8,ya 26 sz 24 25,yl 27 sz 26,ya 28 sz 16 17,ys sz 28 23,ya 29 sz 18 19,ys sz 29 27]) (WL)
def aaf:ak:=.seq (.seq (yr [ym 13 8,ym 14 9,yb 15 .lss 13 14]) (.cond (R 15) .skip (.exit 0))) (.block 1 (WK sz))
def aae:ak:=.seq (yr [ym 11 2,yn 12 (.bin .sub (R 11) (yi 1)),ym 9 12]) (.block 0 (.loop (aaf sz)))
def aad:ak:=.seq (yr [ym 10 1,ym 8 10]) (aae sz)
def LC(σ:gP)(sz:Nat):aw:=⟨[P.nat 0,P.nat 1,P.nat 2,P.nat 3],[],(aad sz)⟩
end
section
variable(σ:gP)(sz:Nat)
def Qu:ak:=yr [ym 48 12,yn 49 (.bin .add (R 48) (yi 1)),ym 12 49]
def Vl:ak:=.seq (.seq (yr [ym 32 12,ym 33 13,yb 34 .leq 32 33,ym 35 34,fE 36 4 35,fE 37 0 35,fE 38 12 35,⟨D 39,.bh sz ab (R 37) (R 38),G 35 ae⟩,te 40 sz 39 35,fE 41 0 35,fE 42 1 35,⟨D 43,.bh sz ab (R 41) (R 42),G 35 ae⟩,te 44 sz 43 35,⟨D 45,.bH (R 36) [R 40,R 44] ae,G 35 ae⟩,⟨D 46,.bin .lss (R 45) (yi 0),G 35 ae⟩,yn 47 (.pick (R 35) (R 46) yf)]) (.cond (R 47) .skip (.exit 0))) (.block 1 Qu)
def KU:ak:=.block 0 (.loop (Vl sz))
def Qx:ak:=yr [ym 67 13,yn 68 (.bin .sub (R 67) (yi 1)),ym 13 68]
def Qw:ak:=.seq (.seq (yr [ym 50 12,ym 51 13,yb 52 .leq 50 51,ym 53 52,fE 54 4 53,fE 55 0 53,fE 56 13 53,⟨D 57,.bh sz ab (R 55) (R 56),G 53 ae⟩,te 58 sz 57 53,fE 59 0 53,fE 60 1 53,⟨D 61,.bh sz ab (R 59) (R 60),G 53 ae⟩,te 62 sz 61 53,⟨D 63,.bH (R 54) [R 58,R 62] ae,G 53 ae⟩,⟨D 64,.bin .lss (R 63) (yi 0),G 53 ae⟩,⟨D 65,.un .not (R 64),G 53 ae⟩,yn 66 (.pick (R 53) (R 65) yf)]) (.cond (R 66) .skip (.exit 2))) (.block 3 Qx)
def Ak:ak:=.block 2 (.loop (Qw sz))
def QA:ak:=.seq (yr [ym 86 13,ym 10 86,yn 11 (.cb yt)]) .ret
def Qz:ak:=.seq (yr [ym 72 0,ym 73 13,ym 74 0,ym 75 1,ym 76 0,ym 77 1,ya 78 sz 76 77,yl 79 sz 78,ym 80 0,ym 81 13,ya 82 sz 80 81,yl 83 sz 82,ya 84 sz 72 73,ys sz 84 79,ya 85 sz 74 75,ys sz 85 83]) (QA)
def QI:ak:=yr [ym 121 12,yn 122 (.bin .add (R 121) (yi 1)),ym 12 122]
def QG:ak:=.seq (.seq (yr [ym 105 12,ym 106 13,yb 107 .leq 105 106,ym 108 107,fE 109 4 108,fE 110 0 108,fE 111 12 108,⟨D 112,.bh sz ab (R 110) (R 111),G 108 ae⟩,te 113 sz 112 108,fE 114 0 108,fE 115 1 108,⟨D 116,.bh sz ab (R 114) (R 115),G 108 ae⟩,te 117 sz 116 108,⟨D 118,.bH (R 109) [R 113,R 117] ae,G 108 ae⟩,⟨D 119,.bin .lss (R 118) (yi 0),G 108 ae⟩,yn 120 (.pick (R 108) (R 119) yf)]) (.cond (R 120) .skip (.exit 6))) (.block 7 QI)
def Al:ak:=.block 6 (.loop (QG sz))
def QL:ak:=yr [ym 140 13,yn 141 (.bin .sub (R 140) (yi 1)),ym 13 141]
def QK:ak:=.seq (.seq (yr [ym 123 12,ym 124 13,yb 125 .leq 123 124,ym 126 125,fE 127 4 126,fE 128 0 126,fE 129 13 126,⟨D 130,.bh sz ab (R 128) (R 129),G 126 ae⟩,te 131 sz 130 126,fE 132 0 126,fE 133 1 126,⟨D 134,.bh sz ab (R 132) (R 133),G 126 ae⟩,te 135 sz 134 126,⟨D 136,.bH (R 127) [R 131,R 135] ae,G 126 ae⟩,⟨D 137,.bin .lss (R 136) (yi 0),G 126 ae⟩,⟨D 138,.un .not (R 137),G 126 ae⟩,yn 139 (.pick (R 126) (R 138) yf)]) (.cond (R 139) .skip (.exit 8))) (.block 9 QL)
def Am:ak:=.block 8 (.loop (QK sz))
def QP:ak:=yr [ym 161 13,yn 162 (.bin .sub (R 161) (yi 1)),ym 13 162]
def QO:ak:=.seq (yr [ym 159 12,yn 160 (.bin .add (R 159) (yi 1)),ym 12 160]) (QP)
def QN:ak:=.seq (yr [ym 145 0,ym 146 12,ym 147 0,ym 148 13,ym 149 0,ym 150 13,ya 151 sz 149 150,yl 152 sz 151,ym 153 0,ym 154 12,ya 155 sz 153 154,yl 156 sz 155,ya 157 sz 145 146,ys sz 157 152,ya 158 sz 147 148,ys sz 158 156]) (QO)
def QM:ak:=.seq (.seq (yr [ym 142 12,ym 143 13,yb 144 .gtr 142 143]) (.cond (R 144) (.exit 4) .skip)) (QN sz)
def QJ:ak:=.seq (Am sz) (QM sz)
def QF:ak:=.seq (Al sz) (QJ sz)
def QQ:ak:=.seq (yr [ym 177 13,ym 10 177,yn 11 (.cb yf)]) .ret
def An:ak:=.seq (yr [ym 163 0,ym 164 13,ym 165 0,ym 166 1,ym 167 0,ym 168 1,ya 169 sz 167 168,yl 170 sz 169,ym 171 0,ym 172 13,ya 173 sz 171 172,yl 174 sz 173,ya 175 sz 163 164,ys sz 175 170,ya 176 sz 165 166,ys sz 176 174]) (QQ)
def QE:ak:=.seq (.block 4 (.loop (.block 5 (QF sz)))) (An sz)
def QD:ak:=.seq (yr [ym 103 13,yn 104 (.bin .sub (R 103) (yi 1)),ym 13 104]) (QE sz)
def QC:ak:=.seq (yr [ym 101 12,yn 102 (.bin .add (R 101) (yi 1)),ym 12 102]) (QD sz)
def QB:ak:=.seq (yr [ym 87 0,ym 88 12,ym 89 0,ym 90 13,ym 91 0,ym 92 13,ya 93 sz 91 92,yl 94 sz 93,ym 95 0,ym 96 12,ya 97 sz 95 96,yl 98 sz 97,ya 99 sz 87 88,ys sz 99 94,ya 100 sz 89 90,ys sz 100 98]) (QC sz)
def Qy:ak:=.seq (.seq (yr [ym 69 12,ym 70 13,yb 71 .gtr 69 70]) (.cond (R 71) (Qz sz) .skip)) (QB sz)
def Qv:ak:=.seq (Ak sz) (Qy sz)
def Vk:ak:=.seq (KU sz) (Qv sz)
def Vj:ak:=.seq (yr [ym 28 1,yn 29 (.bin .add (R 28) (yi 1)),ym 30 2,yn 31 (.bin .sub (R 30) (yi 1)),ym 12 29,ym 13 31]) (Vk sz)
def Vi:ak:=.seq (yr [ym 14 0,ym 15 1,ym 16 0,ym 17 3,ym 18 0,ym 19 3,ya 20 sz 18 19,yl 21 sz 20,ym 22 0,ym 23 1,ya 24 sz 22 23,yl 25 sz 24,ya 26 sz 14 15,ys sz 26 21,ya 27 sz 16 17,ys sz 27 25]) (Vj sz)
def Vh:ak:=.seq (yr [yn 10 (.cb (yi 0)),yn 11 (.cb yf)]) (Vi sz)
def y6(σ:gP)(sz:Nat):aw:=⟨[P.nat 0,P.nat 1,P.nat 2,P.nat 3,P.nat 4],[.tmp (P.nat 10),.tmp (P.nat 11)],(Vh sz)⟩
end
section
variable(σ:gP)(sz:Nat)
def VN:ak:=yr [ym 48 11,yn 49 (.bin .add (R 48) (yi 1)),ym 11 49]
def VM:ak:=.seq (.seq (yr [ym 31 11,ym 32 12,yb 33 .leq 31 32,ym 34 33,fE 35 4 34,fE 36 0 34,fE 37 1 34,⟨D 38,.bh sz ab (R 36) (R 37),G 34 ae⟩,te 39 sz 38 34,fE 40 0 34,fE 41 11 34,⟨D 42,.bh sz ab (R 40) (R 41),G 34 ae⟩,te 43 sz 42 34,⟨D 44,.bH (R 35) [R 39,R 43] ae,G 34 ae⟩,⟨D 45,.bin .lss (R 44) (yi 0),G 34 ae⟩,⟨D 46,.un .not (R 45),G 34 ae⟩,yn 47 (.pick (R 34) (R 46) yf)]) (.cond (R 47) .skip (.exit 2))) (.block 3 VN)
def K6:ak:=.block 2 (.loop (VM sz))
def VQ:ak:=yr [ym 66 12,yn 67 (.bin .sub (R 66) (yi 1)),ym 12 67]
def VP:ak:=.seq (.seq (yr [ym 50 11,ym 51 12,yb 52 .leq 50 51,ym 53 52,fE 54 4 53,fE 55 0 53,fE 56 1 53,⟨D 57,.bh sz ab (R 55) (R 56),G 53 ae⟩,te 58 sz 57 53,fE 59 0 53,fE 60 12 53,⟨D 61,.bh sz ab (R 59) (R 60),G 53 ae⟩,te 62 sz 61 53,⟨D 63,.bH (R 54) [R 58,R 62] ae,G 53 ae⟩,⟨D 64,.bin .lss (R 63) (yi 0),G 53 ae⟩,yn 65 (.pick (R 53) (R 64) yf)]) (.cond (R 65) .skip (.exit 4))) (.block 5 VQ)
def K7:ak:=.block 4 (.loop (VP sz))
def VV:ak:=yr [ym 87 12,yn 88 (.bin .sub (R 87) (yi 1)),ym 12 88]
def VU:ak:=.seq (yr [ym 85 11,yn 86 (.bin .add (R 85) (yi 1)),ym 11 86]) (VV)
def VT:ak:=.seq (yr [ym 71 0,ym 72 11,ym 73 0,ym 74 12,ym 75 0,ym 76 12,ya 77 sz 75 76,yl 78 sz 77,ym 79 0,ym 80 11,ya 81 sz 79 80,yl 82 sz 81,ya 83 sz 71 72,ys sz 83 78,ya 84 sz 73 74,ys sz 84 82]) (VU)
def VS:ak:=.seq (.seq (yr [ym 68 11,ym 69 12,yb 70 .gtr 68 69]) (.cond (R 70) (.exit 0) .skip)) (VT sz)
def VO:ak:=.seq (K7 sz) (VS sz)
def VL:ak:=.seq (K6 sz) (VO sz)
def K8:ak:=.seq (yr [ym 89 11,ym 10 89]) .ret
def ZT:ak:=.seq (.block 0 (.loop (.block 1 (VL sz)))) (K8)
def ZS:ak:=.seq (yr [ym 27 1,yn 28 (.bin .add (R 27) (yi 1)),ym 29 2,yn 30 (.bin .sub (R 29) (yi 1)),ym 11 28,ym 12 30]) (ZT sz)
def ZR:ak:=.seq (yr [ym 13 0,ym 14 1,ym 15 0,ym 16 3,ym 17 0,ym 18 3,ya 19 sz 17 18,yl 20 sz 19,ym 21 0,ym 22 1,ya 23 sz 21 22,yl 24 sz 23,ya 25 sz 13 14,ys sz 25 20,ya 26 sz 15 16,ys sz 26 24]) (ZS sz)
def ZQ:ak:=.seq (yr [yn 10 (.cb (yi 0))]) (ZR sz)
def K9(σ:gP)(sz:Nat):aw:=⟨[P.nat 0,P.nat 1,P.nat 2,P.nat 3,P.nat 4],[.tmp (P.nat 10)],(ZQ sz)⟩
end
section
variable(σ:gP)(sz:Nat)
def QX:ak:=yr [ym 37 9,yn 38 (.bin .add (R 37) (yi 1)),ym 9 38]
def QW:ak:=.seq (.seq (yr [ym 19 9,ym 20 2,yb 21 .lss 19 20,ym 22 21,fE 23 3 22,fE 24 0 22,fE 25 9 22,⟨D 26,.bh sz ab (R 24) (R 25),G 22 ae⟩,te 27 sz 26 22,fE 28 0 22,fE 29 9 22,⟨D 30,.bin .sub (R 29) (yi 1),G 22 ae⟩,⟨D 31,.bh sz ab (R 28) (R 30),G 22 ae⟩,te 32 sz 31 22,⟨D 33,.bH (R 23) [R 27,R 32] ae,G 22 ae⟩,⟨D 34,.bin .lss (R 33) (yi 0),G 22 ae⟩,⟨D 35,.un .not (R 34),G 22 ae⟩,yn 36 (.pick (R 22) (R 35) yf)]) (.cond (R 36) .skip (.exit 2))) (.block 3 QX)
def Ap:ak:=.block 2 (.loop (QW sz))
def QZ:ak:=.seq (yr [yn 8 (.cb yt)]) .ret
def Q1:ak:=.seq (yr [yn 8 (.cb yf)]) .ret
def Q8:ak:=yr [ym 85 0,ym 86 11,ym 87 0,ym 88 11,yn 89 (.bin .sub (R 88) (yi 1)),ym 90 0,ym 91 11,yn 92 (.bin .sub (R 91) (yi 1)),ya 93 sz 90 92,yl 94 sz 93,ym 95 0,ym 96 11,ya 97 sz 95 96,yl 98 sz 97,ya 99 sz 85 86,ys sz 99 94,ya 100 sz 87 89,ys sz 100 98]
def Q7:ak:=.seq (.seq (yr [ym 72 3,ym 73 0,ym 74 11,ya 75 sz 73 74,yl 76 sz 75,ym 77 0,ym 78 11,yn 79 (.bin .sub (R 78) (yi 1)),ya 80 sz 77 79,yl 81 sz 80,yn 82 (.bH (R 72) [R 76,R 81] ae),yn 83 (.bin .lss (R 82) (yi 0)),yn 84 (.un .not (R 83))]) (.cond (R 84) (.exit 4) .skip)) (Q8 sz)
def Q9:ak:=yr [ym 70 11,yn 71 (.bin .sub (R 70) (yi 1)),ym 11 71]
def Q6:ak:=.seq (.block 5 (Q7 sz)) (Q9)
def Q5:ak:=.seq (.seq (yr [ym 68 11,yn 69 (.bin .geq (R 68) (yi 1))]) (.cond (R 69) .skip (.exit 4))) (Q6 sz)
def Aq:ak:=.block 4 (.loop (Q5 sz))
def Q4:ak:=.seq (yr [ym 66 9,yn 67 (.bin .sub (R 66) (yi 1)),ym 11 67]) (Aq sz)
def Rd:ak:=yr [ym 125 0,ym 126 12,ym 127 0,ym 128 12,yn 129 (.bin .sub (R 128) (yi 1)),ym 130 0,ym 131 12,yn 132 (.bin .sub (R 131) (yi 1)),ya 133 sz 130 132,yl 134 sz 133,ym 135 0,ym 136 12,ya 137 sz 135 136,yl 138 sz 137,ya 139 sz 125 126,ys sz 139 134,ya 140 sz 127 129,ys sz 140 138]
def Rc:ak:=.seq (.seq (yr [ym 112 3,ym 113 0,ym 114 12,ya 115 sz 113 114,yl 116 sz 115,ym 117 0,ym 118 12,yn 119 (.bin .sub (R 118) (yi 1)),ya 120 sz 117 119,yl 121 sz 120,yn 122 (.bH (R 112) [R 116,R 121] ae),yn 123 (.bin .lss (R 122) (yi 0)),yn 124 (.un .not (R 123))]) (.cond (R 124) (.exit 6) .skip)) (Rd sz)
def Re:ak:=yr [ym 110 12,yn 111 (.bin .add (R 110) (yi 1)),ym 12 111]
def Rb:ak:=.seq (.block 7 (Rc sz)) (Re)
def Ra:ak:=.seq (.seq (yr [ym 107 12,ym 108 2,yb 109 .lss 107 108]) (.cond (R 109) .skip (.exit 6))) (Rb sz)
def As:ak:=.block 6 (.loop (Ra sz))
def Q_:ak:=.seq (yr [ym 105 9,yn 106 (.bin .add (R 105) (yi 1)),ym 12 106]) (As sz)
def Ar:ak:=.seq (yr [ym 101 2,ym 102 9,yb 103 .sub 101 102,yn 104 (.bin .geq (R 103) (yi 2))]) (.cond (R 104) (Q_ sz) .skip)
def Q3:ak:=.seq (.seq (yr [ym 62 9,ym 63 1,yb 64 .sub 62 63,yn 65 (.bin .geq (R 64) (yi 2))]) (.cond (R 65) (Q4 sz) .skip)) (Ar sz)
def Q2:ak:=.seq (yr [ym 46 0,ym 47 9,ym 48 0,ym 49 9,yn 50 (.bin .sub (R 49) (yi 1)),ym 51 0,ym 52 9,yn 53 (.bin .sub (R 52) (yi 1)),ya 54 sz 51 53,yl 55 sz 54,ym 56 0,ym 57 9,ya 58 sz 56 57,yl 59 sz 58,ya 60 sz 46 47,ys sz 60 55,ya 61 sz 48 50,ys sz 61 59]) (Q3 sz)
def Q0:ak:=.seq (.seq (yr [ym 42 2,ym 43 1,yb 44 .sub 42 43,yn 45 (.bin .lss (R 44) (yi 50))]) (.cond (R 45) Q1 .skip)) (Q2 sz)
def QY:ak:=.seq (.seq (yr [ym 39 9,ym 40 2,yb 41 .eql 39 40]) (.cond (R 41) QZ .skip)) (Q0 sz)
def QV:ak:=.seq (Ap sz) (QY sz)
def uu:ak:=yr [ym 17 10,yn 18 (.bin .add (R 17) (yi 1)),ym 10 18]
def QU:ak:=.seq (.block 1 (QV sz)) (uu)
def y9:ak:=.seq (.seq (yr [ym 15 10,yn 16 (.bin .lss (R 15) (yi 5))]) (.cond (R 16) .skip (.exit 0))) (QU sz)
def pA:ak:=.seq (yr [yn 8 (.cb yf)]) .ret
def V2:ak:=.seq (.seq (yr [yn 10 (.cb (yi 0))]) (.block 0 (.loop (y9 sz)))) (pA)
def V1:ak:=.seq (yr [ym 13 1,yn 14 (.bin .add (R 13) (yi 1)),ym 9 14]) (V2 sz)
def V0:ak:=.seq (yr [yn 8 (.cb yf)]) (V1 sz)
def y_(σ:gP)(sz:Nat):aw:=⟨[P.nat 0,P.nat 1,P.nat 2,P.nat 3],[.tmp (P.nat 8)],(V0 sz)⟩
end
def UP(σ:gP):ak:=.seq (yr [ym 9 0,ym 10 1,yn 11 (.bin .sub (R 10) (yi 1)),ym 12 1,ym 13 1,yn 14 (.bin .add (R 13) (yi 1)),ym 15 2,ym 16 3,yn 17 (.call σ.Mc [R 9,R 11,R 12,R 14,R 15,R 16] ae),ym 8 17]) .ret
def UO(σ:gP):ak:=.seq (yr [yn 8 (.cb (yi 0))]) (UP σ)
def tS(σ:gP)(sz:Nat):aw:=⟨[P.nat 0,P.nat 1,P.nat 2,P.nat 3],[.tmp (P.nat 8)],(UO σ)⟩
section
variable(σ:gP)(sz:Nat)
def Ze:ak:=.seq (yr [ym 40 2,ym 12 40]) .ret
def Zd:ak:=.seq (yr [ym 32 0,ym 33 1,ym 34 2,ym 35 4,ym 36 5,yn 37 (.call σ.ord [R 32,R 33,R 34,R 35,R 36] ae),ym 31 37,yn 38 (.extract (R 31) 0),yn 39 (.extract (R 31) 1),ym 1 38,ym 2 39]) (Ze)
def Zc:ak:=.seq (yr [ym 23 0,ym 24 2,ym 25 3,ym 26 4,ym 27 5,yn 28 (.call σ.ord [R 23,R 24,R 25,R 26,R 27] ae),ym 22 28,yn 29 (.extract (R 22) 0),yn 30 (.extract (R 22) 1),ym 2 29,ym 3 30]) (Zd σ)
def Zb:ak:=.seq (yr [ym 14 0,ym 15 1,ym 16 2,ym 17 4,ym 18 5,yn 19 (.call σ.ord [R 14,R 15,R 16,R 17,R 18] ae),ym 13 19,yn 20 (.extract (R 13) 0),yn 21 (.extract (R 13) 1),ym 1 20,ym 2 21]) (Zc σ)
def Za:ak:=.seq (yr [yn 12 (.cb (yi 0))]) (Zb σ)
def wj(σ:gP)(sz:Nat):aw:=⟨[P.nat 0,P.nat 1,P.nat 2,P.nat 3,P.nat 4,P.nat 5],[.tmp (P.nat 12)],(Za σ)⟩
end
section
variable(σ:gP)(sz:Nat)
def ZC:ak:=.seq (yr [ym 28 2,ym 29 1,ym 10 28,ym 11 29]) .ret
def ZB:ak:=.seq (yr [ym 23 3,yn 24 (.bp (R 23)),yn 25 (.load ab (R 24)),yn 26 (.bin .add (R 25) (yi 1)),yn 27 (.bp (R 23)),ys 1 27 26]) (ZC)
def U7:ak:=.seq (yr [ym 30 1,ym 31 2,ym 10 30,ym 11 31]) .ret
def ZA:ak:=.seq (.seq (yr [ym 12 4,ym 13 0,ym 14 2,ya 15 sz 13 14,yl 16 sz 15,ym 17 0,ym 18 1,ya 19 sz 17 18,yl 20 sz 19,yn 21 (.bH (R 12) [R 16,R 20] ae),yn 22 (.bin .lss (R 21) (yi 0))]) (.cond (R 22) ZB .skip)) (U7)
def Zz:ak:=.seq (yr [yn 10 (.cb (yi 0)),yn 11 (.cb (yi 0))]) (ZA sz)
def sJ(σ:gP)(sz:Nat):aw:=⟨[P.nat 0,P.nat 1,P.nat 2,P.nat 3,P.nat 4],[.tmp (P.nat 10),.tmp (P.nat 11)],(Zz sz)⟩
end
def Zi(σ:gP):ak:=.seq (yr [ym 3 0,yn 4 (.gF .u64 (R 3)),yn 5 (.call σ.len [R 4] ag),yn 6 (.bin .shl (.k (.c (.f (.int .u64 1)))) (R 5)),ym 2 6]) .ret
def Zh(σ:gP):ak:=.seq (yr [yn 2 (.cb (.k (.c (.f (.int .u64 0)))))]) (Zi σ)
def Af(σ:gP)(sz:Nat):aw:=⟨[P.nat 0],[.tmp (P.nat 2)],(Zh σ)⟩
section
variable(σ:gP)(sz:Nat)
def Zn:ak:=.seq (yr [ym 30 0,yn 31 (.bp (R 30)),yn 32 (.load ab (R 31)),ym 2 32]) .ret
def Zm:ak:=.seq (yr [ym 21 0,yn 22 (.bp (R 21)),yn 23 (.load ab (R 22)),ym 24 0,yn 25 (.bp (R 24)),yn 26 (.load ab (R 25)),yn 27 (.bin .shl (R 26) (.k (.c (.f (.int .u64 17))))),yb 28 .xor 23 27,yn 29 (.bp (R 21)),ys 1 29 28]) (Zn)
def Zl:ak:=.seq (yr [ym 12 0,yn 13 (.bp (R 12)),yn 14 (.load ab (R 13)),ym 15 0,yn 16 (.bp (R 15)),yn 17 (.load ab (R 16)),yn 18 (.bin .shr (R 17) (.k (.c (.f (.int .u64 7))))),yb 19 .xor 14 18,yn 20 (.bp (R 12)),ys 1 20 19]) (Zm)
def Zk:ak:=.seq (yr [ym 3 0,yn 4 (.bp (R 3)),yn 5 (.load ab (R 4)),ym 6 0,yn 7 (.bp (R 6)),yn 8 (.load ab (R 7)),yn 9 (.bin .shl (R 8) (.k (.c (.f (.int .u64 13))))),yb 10 .xor 5 9,yn 11 (.bp (R 3)),ys 1 11 10]) (Zl)
def Zj:ak:=.seq (yr [yn 2 (.cb (.k (.c (.f (.int .u64 0)))))]) (Zk)
def Ag(σ:gP)(sz:Nat):aw:=⟨[P.nat 0],[.tmp (P.nat 2)],(Zj)⟩
end
end
section
open Go
def Cv(tab:Nat→Option aw)(cv:V)(W:List FC→Prop)(c:List FC→List FC→Int):Prop:=
 ∀ x y,W x→W y→∀ H,∃ F b J,bG cv [.a (x.map .f),.a (y.map .f)]=aa (.fn F,b)∧Ev tab (.fn F) b H (vi (c x y)) (H++J)
section
variable{W:List FC→Prop}{c:List FC→List FC→Int}{l:List (List FC)}
theorem hU.of_lt{i j:Nat}(hc:ru W c)(g:∀ r ∈ l,W r){x y:List FC}(m:l[i]?=aa x)(hy:l[j]?=aa y)(h:c x y<0):hU c l i j:=fun q s b d=>by
 rw [m]at b;rw [hy]at d;cases b;cases d;exact hc.x4 (g _ (acI m)) (g _ (acI hy)) h
theorem hU.of_le{i j:Nat}{x y:List FC}(g:l[i]?=aa x)(hy:l[j]?=aa y)(h:¬ c y x<0):hU c l i j:=fun m q b d=>by
 rw [g]at b;rw [hy]at d;cases b;cases d;exact h
theorem hU.get{b:List (List FC)}{i j d g:Nat}(h:hU c l i j)(m:b[d]?=l[i]?)(q:b[g]?=l[j]?):hU c b d g:=fun x y s hy=>h x y (by rw [←m];exact s) (by rw [←q];exact hy)
def zH(c:List FC→List FC→Int)(a i j:Nat)(l:List (List FC)):Prop:=∀ p q,a≤p→p<q→q≤i→q≠j→hU c l p q
theorem zH.start{a i:Nat}(h:Up c a i l):zH c a i i l:=fun p q b d g j=>fun x y=>h p q x y b d (by omega)
theorem zH.step{a i j:Nat}(hc:ru W c)(A:∀ r ∈ l,W r)(h:zH c a i (j+1) l)(B:a≤j)(H:j+1≤i)(F:i<l.length){x y:List FC}(E:l[j+1]?=aa x)(hy:l[j]?=aa y)(s:c x y<0):zH c a i j (fO l (j+1) j):=by
 intro p q u v m z;have g:∀ k,(fO l (j+1) j)[k]?=if k=j then l[j+1]? else if k=j+1 then l[j]? else l[k]?:=fun k=>fj (by omega) (by omega) k;by_cases b:q=j+1
 ·subst b;by_cases p1:p=j
  ·subst p1;exact(hU.of_lt hc A E hy s).get (by rw [g,bf rfl]) (by rw [g,aU (by omega),bf rfl])
  ·exact(h p j u (by omega) (by omega) (by omega)).get (by rw [g,aU (by omega),aU (by omega)]) (by rw [g,aU (by omega),bf rfl])
 ·have d:(fO l (j+1) j)[q]?=l[q]?:=by rw [g,aU z,aU b]
  by_cases p1:p=j
  ·subst p1;exact(h (p+1) q (by omega) (by omega) m b).get (by rw [g,bf rfl]) d
  by_cases p2:p=j+1
  ·subst p2;exact(h j q B (by omega) m b).get (by rw [g,aU (by omega),bf rfl]) d
  ·exact(h p q u v m b).get (by rw [g,aU p1,aU p2]) d
theorem zH.front{a i:Nat}(h:zH c a i a l):Up c a (i+1) l:=fun p q x y b d g=>h p q b d (by omega) (by omega) x y
theorem zH.stop{a i j:Nat}(hc:ru W c)(s:∀ r ∈ l,W r)(h:zH c a i (j+1) l)(v:a≤j)(A:j+1≤i)(z:i<l.length)(b:hU c l j (j+1)):Up c a (i+1) l:=by
 intro p q x y d m u;by_cases g:q=j+1
 ·subst g;by_cases p1:p=j
  ·subst p1;exact b x y
  ·exact((h p j d (by omega) (by omega) (by omega)).trans hc s b (by omega)) x y
 ·exact h p q d m (by omega) g x y
end
section
variable{tab:Nat→Option aw}{σ:gP}{sz:Nat}{H:aj}{b ep:Nat}{rows:List (List FC)}{cv:V}{W:List FC→Prop}{c:List FC→List FC→Int}
theorem RB.at(h:RB H b sz ep rows){i:Nat}(d:i<rows.length):a6 H sz ab (.c (.sl b 0 rows.length 0 ep sz)) (vi i)=aa (.c (.ptr b (i*sz) ep)):=by
 have:=h.idx (n:=rows.length) (c:=0) (k:=.i64) (o:=0) (i:=(i:Int)) (by omega) (by omega);rwa [Int.toNat_natCast,adt]at this
theorem RB.SW(h:RB H b sz ep rows)(hg:bC sz rows){i:Nat}(d:i<rows.length):dz H (aa sz) (.c (.ptr b (i*sz) ep))=aa (.a (rows[i].map .f)):=h.Y7 hg (By d)
theorem UJ(hT:tab σ.ins=aa (v3 σ sz))(b9:Cv tab cv W c)(hc:ru W c){n a e:Nat}(hn:rows.length=n)(hl:n≤1000000000)(d:RB H b sz ep rows)(hg:bC sz rows)(hW:∀ r ∈ rows,W r)(c6:a≤e)(c7:e≤n) :
  ∃ r H',Ev tab (.fn σ.ins) [.c (.sl b 0 n 0 ep sz),vi a,vi e,cv] H r H'∧(r=.t []∧Fm b H H'∧∃ l',RB H' b sz ep l'∧dG a e rows l'∧Up c a e l'):=by
 refine dy hT rfl fun Q hQ=>?_;apply ai;simp [aK (n:=(a:Int)+1)];refine aB ?_;refine bu (fun m s=>∃(i:Nat) (t:T) (U:aj) (l:List (List FC)),s=⟨t,[],U⟩∧m=n+1-i∧a+1≤i∧(i≤e∨i=a+1)∧t.g 0=.c (.sl b 0 n 0 ep sz)∧t.g 1=vi a∧t.g 2=vi e∧t.g 3=cv∧t.g 8=vi i ∧
  Fm b H U∧RB U b sz ep l∧dG a e rows l∧Up c a i l) _
  ⟨a+1,_,H,rows,rfl,rfl,by omega,.inr rfl,by simp,by simp,by simp,by simp,by simp,Fm.refl H,d,dG.refl _ _ _,Up.one (by omega)⟩ ?_
 rintro m s ⟨i,t,U,l,rfl,rfl,c8,hi,B,E,L,M,I,v,d,g,b7⟩ ih;have A:=g.len;apply aq;apply ai;simp [I,L];by_cases b6:i<e
 case neg=>
  refine aD (by simp [b6]) ?_;refine ba (k':=[]) rfl ?_;exact eu (hQ _ _ _ rfl rfl ⟨rfl,v,l,d,g,b7.mono (IT _) (by omega)⟩)
 refine an (by simp [b6]) (aO ?_);apply aq;refine aB ?_;apply ai;simp [I];refine aB ?_;refine bu (fun m s=>∃(j:Nat) (t:T) (O:aj) (q:List (List FC)),s=⟨t,[],O⟩∧j=m∧a≤j∧j≤i∧t.g 0=.c (.sl b 0 n 0 ep sz)∧t.g 1=vi a∧t.g 2=vi e∧t.g 3=cv∧t.g 8=vi i∧t.g 9=vi j ∧
  Fm b H O∧RB O b sz ep q∧dG a e rows q∧zH c a i j q) i
  ⟨i,_,U,l,rfl,rfl,by omega,by omega,by simp [B],by simp [E],by simp [L],by simp [M],by simp [I],by simp,v,d,g,zH.start b7⟩ ?_
 rintro m s ⟨j,t,O,q,rfl,rfl,c9,a_,B,E,L,M,I,X,v,d,g,z⟩ c4;have A:=g.len;have x:=g.o9 hg;have K:∀ r ∈ q,W r:=fun r hr=>hW r (g.1.mem_iff.1 hr);have stop:Up c a (i+1) q→∀ t:T,t.g 0=.c (.sl b 0 n 0 ep sz)→t.g 1=vi a→t.g 2=vi e→t.g 3=cv→t.g 8=vi i→∀ S,Fm b H S→RB S b sz ep q →
   WP tab σ.ins ab [.inBlock 1,.code (tK),.inLoop (z6 sz),.inBlock 0] ⟨t,[],S⟩ Q:=by
  intro hp t B E L M I S v d;refine az (au (.inl rfl) ?_);simp [I,aK (n:=(i:Int)+1)];exact ih (n+1-(i+1)) _ (by omega) ⟨i+1,_,S,q,rfl,rfl,by omega,.inl (by omega),by simp [B],by simp [E],by simp [L],by simp [M],by simp,v,d,g,hp⟩
 apply aq;apply ai;by_cases hj:j=a
 ·subst hj;simp [X,E];refine aD (by simp) ?_;refine ba (k':=[.inBlock 1,.code (tK),.inLoop (z6 sz),.inBlock 0]) rfl ?_;exact stop z.front _ (by simp [B]) (by simp [E]) (by simp [L]) (by simp [M]) (by simp [I]) _ v d
 obtain⟨k,rfl⟩:∃ k,j=k+1:=⟨j-1,by omega⟩
 have N:k+1<q.length:=by omega
 have c1:((k+1:Nat):Int)=(k:Int)+1:=by omega
 have i1:=d.at N;have i0:=d.at (show k<q.length by omega);have l1:=d.SW x N;have l0:=d.SW x (show k<q.length by omega);rw [A,hn]at i1 i0;rw [c1]at i1 X;obtain⟨F,ar,J,Z,b_⟩:=b9 q[k+1] q[k] (K _ (acE _)) (K _ (acE _)) O;have he:=b_.eq;have gt:(a:Int)<(k:Int)+1:=by omega
 simp [X,B,E,M,gt,i1,i0,l1,l0,Z,he,-aP,aK (n:=(k:Int))];by_cases y:c q[k+1] q[k]<0
 case neg=>
  refine aD (by simp [y]) ?_;refine ba (k':=[.inBlock 1,.code (tK),.inLoop (z6 sz),.inBlock 0]) rfl ?_;exact stop (z.stop hc K (by omega) a_ (by omega) (hU.of_le (By (by omega)) (By N) y)) _ (by simp [B]) (by simp [E]) (by simp [L]) (by simp [M]) (by simp [I]) _ (v.trans (Fm.push _ _)) (d.push _)
 refine an (by simp [y]) (aO ?_);have w1:q[k+1].length=sz:=x _ (acE _);have w0:q[k].length=sz:=x _ (acE _);have u:=d.push J;obtain⟨HJ,Y⟩:=bV (O++J);rw [←Y]at u ⊢;have a8:Fm b H HJ:=by rw [Y];exact v.trans (Fm.push _ _)
 have i1:=u.at N;have i0:=u.at (show k<q.length by omega);have l1:=u.SW x N;have l0:=u.SW x (show k<q.length by omega);obtain⟨S,H4,s1,r1,s2,r2,f2⟩:=u.swap x N (show k<q.length by omega);have i2:=r1.at (show k<(q.set (k+1) q[k]).length by simp;omega);rw [List.length_set]at i2;rw [A,hn]at i1 i0 i2;rw [c1]at i1;apply aq;refine aB ?_;refine au (.inl rfl) ?_;simp [X,B,i1,i0,i2,l1,l0,s1,s2,w1,w0,-aP,-bZ,aK (n:=(k:Int))];refine az ?_;refine au (.inl rfl) ?_;simp [X,aK (n:=(k:Int))];exact c4 k _ (by omega) ⟨k,_,H4,fO q (k+1) k,rfl,rfl,by omega,by omega,by simp [B],by simp [E],by simp [L],by simp [M],by simp [I],by simp,a8.trans f2,r2,
  g.trans (dY (by omega) (by omega) (by omega) (by omega) (by omega)),z.step hc K (by omega) a_ (by omega) (By N) (By (by omega)) y⟩
end
end
section
open Go
section
variable{tab:Nat→Option aw}{σ:gP}{sz:Nat}{H:aj}{b ep:Nat}{rows:List (List FC)}{cv:V}{W:List FC→Prop}{c:List FC→List FC→Int}
theorem RB.fO(h:RB H b sz ep rows)(hg:bC sz rows){n i j:Nat}(s:rows.length=n)(m:i<n)(l:j<n):∃(x y:List FC) (d g:aj),rows[i]?=aa x∧rows[j]?=aa y ∧
  a6 H sz ab (.c (.sl b 0 n 0 ep sz)) (vi i)=aa (.c (.ptr b (i*sz) ep))∧a6 H sz ab (.c (.sl b 0 n 0 ep sz)) (vi j)=aa (.c (.ptr b (j*sz) ep)) ∧
  dz H (aa sz) (.c (.ptr b (i*sz) ep))=aa (.a (x.map .f))∧dz H (aa sz) (.c (.ptr b (j*sz) ep))=aa (.a (y.map .f))∧x.length=sz∧y.length=sz ∧
  gD H (.ptr b (i*sz) ep) (y.map .f)=aa d∧a6 d sz ab (.c (.sl b 0 n 0 ep sz)) (vi j)=aa (.c (.ptr b (j*sz) ep))∧gD d (.ptr b (j*sz) ep) (x.map .f)=aa g∧RB g b sz ep (fO rows i j)∧Fm b H g:=by
 subst s;obtain⟨d,g,u,r1,v,r2,q⟩:=h.swap hg m l;have i2:=r1.at (show j<(rows.set i rows[j]).length by simpa using l);rw [List.length_set]at i2;exact⟨rows[i],rows[j],d,g,By m,By l,h.at m,h.at l,h.SW hg m,h.SW hg l,hg _ (acE _),hg _ (acE _),u,i2,v,r2,q⟩
theorem RB.ask(h:RB H b sz ep rows)(hg:bC sz rows)(l:Cv tab cv W c)(g:∀ r ∈ rows,W r){n i j:Nat}(v:rows.length=n)(m:i<n)(q:j<n):∃(x y:List FC) (F:Nat) (d:List V) (J:aj),rows[i]?=aa x∧rows[j]?=aa y ∧
  a6 H sz ab (.c (.sl b 0 n 0 ep sz)) (vi i)=aa (.c (.ptr b (i*sz) ep))∧a6 H sz ab (.c (.sl b 0 n 0 ep sz)) (vi j)=aa (.c (.ptr b (j*sz) ep)) ∧
  dz H (aa sz) (.c (.ptr b (i*sz) ep))=aa (.a (x.map .f))∧dz H (aa sz) (.c (.ptr b (j*sz) ep))=aa (.a (y.map .f)) ∧
  bG cv [.a (x.map .f),.a (y.map .f)]=aa (.fn F,d)∧Ev tab (.fn F) d H=E2 (vi (c x y)) (H++J)∧W x∧W y:=by
 subst v;obtain⟨F,d,J,s,u⟩:=l rows[i] rows[j] (g _ (acE _)) (g _ (acE _)) H;exact⟨rows[i],rows[j],F,d,J,By m,By q,h.at m,h.at q,h.SW hg m,h.SW hg q,s,u.eq,g _ (acE _),g _ (acE _)⟩
theorem WN(M:tab σ.rev=aa (LC σ sz)){n a e:Nat}(Y:rows.length=n)(hl:n≤1000000000)(q:RB H b sz ep rows)(S:bC sz rows)(N:a<e)(O:e≤n) :
  ∃ r H',Ev tab (.fn σ.rev) [.c (.sl b 0 n 0 ep sz),vi a,vi e,cv] H r H'∧(r=.t []∧Fm b H H'∧∃ I,RB H' b sz ep I∧dG a e rows I):=by
 refine dy M rfl fun Q L=>?_;obtain⟨d,rfl⟩:∃ d,e=d+1:=⟨e-1,by omega⟩
 apply ai;simp;apply ai;simp [aK (n:=(d:Int))];refine aB ?_;refine bu (fun m s=>∃(i j:Nat) (t:T) (A:aj) (l:List (List FC)),s=⟨t,[],A⟩∧m=n+1-i∧a≤i∧j≤d∧i≤j+1∧t.g 0=.c (.sl b 0 n 0 ep sz)∧t.g 8=vi i∧t.g 9=vi j ∧
  Fm b H A∧RB A b sz ep l∧dG a (d+1) rows l) _
  ⟨a,d,_,H,rows,rfl,rfl,by omega,by omega,by omega,by simp,by simp,by simp,Fm.refl H,q,dG.refl _ _ _⟩ ?_
 rintro m s ⟨i,j,t,A,l,rfl,rfl,U,X,W,F,B,E,u,q,g⟩ Z;have v:=g.len;apply aq;apply ai;simp [B,E];by_cases z:i<j
 case neg=>
  refine aD (by simp [z]) ?_;refine ba (k':=[]) rfl ?_;exact eu (L _ _ _ rfl rfl ⟨rfl,u,l,q,g⟩)
 refine an (by simp [z]) (aO ?_);obtain⟨x,y,H2,J,-,-,i1,j1,l1,l2,w1,w2,s1,j2,s2,r2,K⟩:=q.fO (g.o9 S) (v.trans Y) (i:=i) (j:=j) (by omega) (by omega);refine aB ?_;apply ai;simp [F,B,E,i1,j1,l1,l2,w1,w2,s1,j2,s2,-aP,-bZ];apply ai;simp [B,aK (n:=(i:Int)+1)];refine au (.inl rfl) ?_;simp [E,aK (n:=(j:Int)-1)];refine az ?_;refine Z (n+1-(i+1)) _ (by omega) ⟨i+1,j-1,_,J,fO l i j,rfl,rfl,by omega,by omega,by omega,by simp [F],by simp,by simp;omega,u.trans K,r2,g.trans (dY (by omega) (by omega) (by omega) (by omega) (by omega))⟩
def NB(H:aj)(p:Nat):Prop:=∃ k:Int,H[p]?=aa (.box [.f (fi k)] 0)
theorem NB.push{p:Nat}(h:NB H p)(J:aj):NB (H++J) p:=by
 obtain⟨k,h⟩:=h;exact⟨k,by rw [AT (av h)];exact h⟩
theorem U8(z:tab σ.ord=aa (sJ σ sz))(m:Cv tab cv W c){n p i j:Nat}(L:rows.length=n)(s:RB H b sz ep rows)(E:bC sz rows)(A:∀ r ∈ rows,W r)(I:i<n)(K:j<n)(v:NB H p)(M:p≠b) :
  ∃ r H',Ev tab (.fn σ.ord) [.c (.sl b 0 n 0 ep sz),vi i,vi j,.c (.ptr p 0 0),cv] H r H'∧((r=.t [vi i,vi j]∨r=.t [vi j,vi i])∧Fm p H H'∧NB H' p):=by
 refine dy z rfl fun Q u=>?_;obtain⟨x,y,F,U,J,-,-,i1,N,O,S,d,B,-,-⟩:=s.ask E m A L K I;obtain⟨k,l⟩:=v.push J;have q:=av l;apply ai;simp;apply aq;apply ai;simp [i1,N,O,S,d,B,-aP];by_cases g:c x y<0
 ·refine an (by simp [g]) (ai ?_);simp [l];apply ai;simp;refine aG (u _ _ (.t [vi j,vi i]) rfl (by simp [Km.results,aY]) ⟨.inr rfl,?_,?_⟩)
  ·exact(Fm.push _ _).trans (Fm.set _ _)
  ·exact⟨_,OF q⟩
 ·refine aD (by simp [g]) (aO (ai ?_));simp;exact aG (u _ _ (.t [vi i,vi j]) rfl (by simp [Km.results,aY]) ⟨.inl rfl,Fm.push _ _,v.push J⟩)
theorem J7(Y:tab σ.Mc=aa (wj σ sz))(U:tab σ.ord=aa (sJ σ sz))(l:Cv tab cv W c){n p i j k:Nat}(f:rows.length=n)(d:RB H b sz ep rows)(a:bC sz rows)(Z:∀ r ∈ rows,W r)(m:i<n)(s:j<n)(e:k<n)(u:NB H p)(g:p≠b) :
  ∃ r H',Ev tab (.fn σ.Mc) [.c (.sl b 0 n 0 ep sz),vi i,vi j,vi k,.c (.ptr p 0 0),cv] H r H'∧((∃ q:Nat,r=vi q∧(q=i∨q=j∨q=k))∧Fm p H H'∧NB H' p):=by
 have key:∀ {H:aj} {i j:Nat},RB H b sz ep rows→NB H p→i<n→j<n→∃(x y:Nat) (H':aj),Ev tab (.fn σ.ord) [.c (.sl b 0 n 0 ep sz),vi i,vi j,.c (.ptr p 0 0),cv] H=E2 (.t [vi x,vi y]) H'∧(x=i∧y=j∨x=j∧y=i)∧Fm p H H'∧NB H' p:=by
  intro H i j d u m s;obtain⟨r,H',B,h,E,A⟩:=U8 U l f d a Z m s u g;rcases h with rfl | rfl
  ·exact⟨i,j,H',B.eq,.inl ⟨rfl,rfl⟩,E,A⟩
  ·exact⟨j,i,H',B.eq,.inr ⟨rfl,rfl⟩,E,A⟩
 obtain⟨o,w,I,M,o1,v,b1⟩:=key d u m s;have r1:RB I b sz ep rows:=v.get d (Ne.symm g);obtain⟨t,y2,J,N,o2,z,K⟩:=key r1 b1 (show w<n by omega) e;have r2:RB J b sz ep rows:=z.get r1 (Ne.symm g);obtain⟨x3,F,H3,O,o3,S,L⟩:=key r2 K (show o<n by omega) (show t<n by omega);refine dy Y rfl fun Q X=>?_;apply ai;simp;apply ai;simp [M];apply ai;simp [N];apply ai;simp [O];apply ai;simp;refine aG (X _ _ (vi F) rfl (by simp [Km.results,aY]) ⟨⟨F,rfl,by omega⟩,v.trans (z.trans S),L⟩)
theorem tT(y:tab σ.rF=aa (tS σ sz))(u:tab σ.Mc=aa (wj σ sz))(v:tab σ.ord=aa (sJ σ sz))(l:Cv tab cv W c){n p i:Nat}(I:rows.length=n)(L:n≤1000000000)(s:RB H b sz ep rows)(E:bC sz rows)(z:∀ r ∈ rows,W r)(K:0<i)(F:i+1<n)(J:NB H p)(m:p≠b) :
  ∃ r H',Ev tab (.fn σ.rF) [.c (.sl b 0 n 0 ep sz),vi i,.c (.ptr p 0 0),cv] H r H'∧((∃ q:Nat,r=vi q∧i≤q+1∧q≤i+1)∧Fm p H H'∧NB H' p):=by
 obtain⟨d,rfl⟩:∃ d,i=d+1:=⟨i-1,by omega⟩
 obtain⟨r,H',g,⟨q,rfl,M⟩,B,A⟩:=J7 (i:=d) (j:=d+1) (k:=d+1+1) u v l I s E z (by omega) (by omega) F J m;refine dy y rfl fun Q x=>?_;have g:=g.eq;simp at g;apply ai;simp;apply ai;simp [aK (n:=(d:Int)),aK (n:=(d:Int)+1+1),g];exact aG (x _ _ (vi q) rfl (by simp [Km.results,aY]) ⟨⟨q,rfl,by omega,by omega⟩,B,A⟩)
def Kp(H H':aj):Prop:=H.length≤H'.length∧∀ b:Nat,b<H.length→H'[b]?=H[b]?
theorem Kp.fm{b:Nat}{H H':aj}(h:Kp H H'):Fm b H H':=⟨h.1,fun d _ l=>h.2 d l⟩
theorem Kp.push(H J:aj):Kp H (H++J):=⟨by simp,fun b l=>AT l⟩
theorem Kp.next{H H' b:aj}{p:Nat}(h:Kp H H')(j:H.length≤p)(g:Fm p H' b):Kp H b:=⟨acT h.1 g.1,fun d l=>(g.2 d (by omega) (adb l h.1)).trans (h.2 d l)⟩
theorem Kp.rb{H H':aj}{b sz ep:Nat}{rows:List (List FC)}(h:Kp H H')(d:RB H b sz ep rows):RB H' b sz ep rows:=by
 unfold RB at *;rw [h.2 b (av d)];exact d
theorem Ri{a b:Nat}(s:0<b)(m:a≤9223372036854775807):bt .quo (vi a) (vi b)=aa (vi ((a / b:Nat):Int)):=by
 have g:(a / b:Nat)≤a:=Nat.div_le_self a b;obtain⟨q,d⟩:=bV (a / b);have j:((a:Int) / b)=(q:Int):=by rw [d];simp
 have l:q≤a:=by rw [d];exact g
 rw [←d,mH (by omega),Int.tdiv_eq_ediv_of_nonneg (by omega),j,aK]
theorem Wc(hT:tab σ.Rg=aa (Lb σ sz))(Z:tab σ.rF=aa (tS σ sz))(F:tab σ.Mc=aa (wj σ sz))(I:tab σ.ord=aa (sJ σ sz))(v:Cv tab cv W c){n a e:Nat}(M:rows.length=n)(hl:n≤1000000000)(m:RB H b sz ep rows)(K:bC sz rows)(J:∀ r ∈ rows,W r)(b7:a+8≤e)(b_:e≤n) :
  ∃ r H',Ev tab (.fn σ.Rg) [.c (.sl b 0 n 0 ep sz),vi a,vi e,cv] H r H'∧((∃(q:Nat) (h:Int),r=.t [vi q,vi h]∧a≤q∧q<e)∧Kp H H'):=by
 obtain⟨L,rfl⟩:∃ L,e=a+L:=⟨e-a,by omega⟩
 obtain⟨d,hd⟩:=bV (L / 4);have N:bt .quo (vi (L:Int)) (vi 4)=aa (vi (d:Int)):=by
  have:=Ri (a:=L) (b:=4) (by omega) (by omega);rw [hd];exact this
 have b9:=m.lt;have hw:IntKind.i64.wrap ((a:Int)+L-a)=L:=by rw [aK];omega
 refine dy hT rfl fun Q hQ=>?_;have O:∀(t:T) (s:aj) (q:Nat),t.g 11=.c (.ptr H.length 0 0)→t.g 13=vi q→a≤q→q<a+L→NB s H.length→Kp H s→WP tab σ.Rg ab [.code (zb)] ⟨t,[],s⟩ Q:=by
  intro t s q u l X Y ⟨k,hk⟩ g;apply ai;simp [u,hk];refine aB ?_;apply ai;simp;by_cases k1:k=0
  ·refine an (by simp [k1]) (ai ?_);simp [l];exact aG (hQ _ _ (.t [vi q,vi 1]) rfl (by simp [Km.results,aY]) ⟨⟨q,1,rfl,X,Y⟩,g⟩)
  refine aD (by simp [k1]) ?_;apply ai;simp;by_cases k2:k=12
  ·refine an (by simp [k2]) (ai ?_);simp [l];exact aG (hQ _ _ (.t [vi q,vi 2]) rfl (by simp [Km.results,aY]) ⟨⟨q,2,rfl,X,Y⟩,g⟩)
  refine aD (by simp [k2]) ?_;apply ai;simp [l];exact aG (hQ _ _ (.t [vi q,vi 0]) rfl (by simp [Km.results,aY]) ⟨⟨q,0,rfl,X,Y⟩,g⟩)
 have mid:∀(t:T) (s:aj) (i j k:Nat),t.g 0=.c (.sl b 0 n 0 ep sz)→t.g 3=cv→t.g 11=.c (.ptr H.length 0 0)→t.g 12=vi i→t.g 13=vi j→t.g 14=vi k→a≤i→i<a+L→a≤j→j<a+L→a≤k→k<a+L→NB s H.length→Kp H s →
   WP tab σ.Rg ab [.code (La σ),.code (zb)] ⟨t,[],s⟩ Q:=by
  intro t s i j k g0 g3 u S l U i1 i2 j1 j2 k1 k2 x g;obtain⟨r,H3,he,⟨q,rfl,N⟩,hf,a8⟩:=J7 (p:=H.length) (i:=i) (j:=j) (k:=k) F I v M (g.rb m) K J (by omega) (by omega) (by omega) x (by omega);have he:=he.eq;refine au (.inl rfl) ?_;simp [g0,g3,u,S,l,U,he];exact O _ H3 q (by simp [u]) (by simp) (by omega) (by omega) a8 (g.next (IT _) hf)
 apply ai;simp;apply ai;simp [hw];apply ai;simp;apply ai;simp [N,aK (n:=(d:Int)),aK (n:=(a:Int)+d)];apply ai;simp [N,aK (n:=(d:Int)*2),aK (n:=(a:Int)+d*2)];apply ai;simp [N,aK (n:=(d:Int)*3),aK (n:=(a:Int)+d*3)];apply aq;apply ai;simp;refine an (by simp;omega) ?_;apply aq;apply ai;simp;have x:NB (H++[.box [.f (fi 0)] 0]) H.length:=⟨0,by simp⟩
 have g:Kp H (H++[.box [.f (fi 0)] 0]):=Kp.push _ _;by_cases b6:50≤L
 case neg=>
  refine aD (by simp;omega) (aO ?_);exact mid _ _ (a+d) (a+d*2) (a+d*3) (by simp) (by simp) (by simp) (by simp) (by simp) (by simp) (by omega) (by omega) (by omega) (by omega) (by omega) (by omega) x g
 refine an (by simp;omega) ?_;obtain⟨r1,H1,A,⟨q1,rfl,c4⟩,f1,b1⟩:=tT (p:=H.length) (i:=a+d) Z F I v M hl (g.rb m) K J (by omega) (by omega) x (by omega);have y:=g.next (IT _) f1;obtain⟨r2,s,B,⟨q2,rfl,c6⟩,f2,b2⟩:=tT (p:=H.length) (i:=a+d*2) Z F I v M hl (y.rb m) K J (by omega) (by omega) b1 (by omega);have z:=y.next (IT _) f2;obtain⟨r3,H3,E,⟨q3,rfl,c7⟩,f3,b3⟩:=tT (p:=H.length) (i:=a+d*3) Z F I v M hl (z.rb m) K J (by omega) (by omega) b2 (by omega);have a_:=z.next (IT _) f3;have A:=A.eq;have B:=B.eq;have E:=E.eq;simp at A B E;apply ai;simp [A];apply ai;simp [B];refine au (.inl rfl) ?_;simp [E];exact mid _ _ q1 q2 q3 (by simp) (by simp) (by simp) (by simp) (by simp) (by simp) (by omega) (by omega) (by omega) (by omega) (by omega) (by omega) b3 a_
end
end
section
open Go
section
variable{tab:Nat→Option aw}{σ:gP}{sz:Nat}{cv:V}{W:List FC→Prop}{c:List FC→List FC→Int}
theorem KY{n a e i j ep b:Nat}{rows:List (List FC)}{p:List FC}{H0:aj}{k:List ca}{Q:Option ak→St→Prop}(S:Cv tab cv W c)(hn:rows.length=n)(hl:n≤1000000000)(hg:bC sz rows)(hW:∀ r ∈ rows,W r)
  {t:T} {H:aj} (a8:a<i) (b6:i≤j+1) (b7:j<e) (a_:e≤n) (hp:rows[a]?=aa p)
  (A:t.g 0=.c (.sl b 0 n 0 ep sz)) (B:t.g 1=vi a) (E:t.g 4=cv) (v:t.g 12=vi i) (u:t.g 13=vi j) (l:Fm b H0 H) (g:RB H b sz ep rows)
  (next:∀(t:T) (H:aj) (K:Nat),(i≤K∧K≤j+1)→(∀(q:Nat) x,i≤q→q<K→rows[q]?=aa x→c x p<0)→(j<K∨∀ x,rows[K]?=aa x→¬ c x p<0) →
   t.g 0=.c (.sl b 0 n 0 ep sz)→t.g 1=vi a→t.g 4=cv→t.g 12=vi K→t.g 13=vi j→Fm b H0 H→RB H b sz ep rows→WP tab σ.part ab k ⟨t,[],H⟩ Q) :
  WP tab σ.part ab (.code (KU sz)::k) ⟨t,[],H⟩ Q:=by
 refine aB ?_;refine bu (fun m s=>∃(q:Nat) (t:T) (N:aj),s=⟨t,[],N⟩∧(q+m=j+1∧i≤q)∧(∀(r:Nat) x,i≤r→r<q→rows[r]?=aa x→c x p<0) ∧
   t.g 0=.c (.sl b 0 n 0 ep sz)∧t.g 1=vi a∧t.g 4=cv∧t.g 12=vi q∧t.g 13=vi j∧Fm b H0 N∧RB N b sz ep rows) (j+1-i)
  ⟨i,_,H,rfl,by omega,fun r x Y Z=>by omega,A,B,E,v,u,l,g⟩ ?_
 rintro m s ⟨q,t,N,rfl,hm,d,A,B,E,v,u,l,g⟩ ih;apply aq;apply ai;by_cases M:q≤j
 case neg=>
  simp [v,u,M];refine aD (by simp) ?_;refine ba (k':=k) rfl ?_;exact next _ _ q (by omega) d (.inl (by omega)) (by simp [A]) (by simp [B]) (by simp [E]) (by simp [v]) (by simp [u]) l g
 obtain⟨x,y,F,ar,J,U,X,i1,j1,l1,l2,L,he,-,-⟩:=g.ask hg S hW hn (i:=q) (j:=a) (by omega) (by omega);simp [v,u,M,A,B,E,i1,j1,l1,l2,L,he,-aP];have ep:p=y:=by rw [hp]at X;exact adz X
 subst ep;by_cases O:c x p<0
 case neg=>
  refine aD (by simp [O]) ?_;refine ba (k':=k) rfl ?_;refine next _ _ q (by omega) d (.inr fun z I=>?_) (by simp [A]) (by simp [B]) (by simp [E]) (by simp [v]) (by simp [u]) (l.trans (Fm.push _ _)) (g.push _)
  rw [U]at I;cases I;exact O
 refine an (by simp [O]) (aO ?_);refine aB (au (.inl rfl) ?_);simp [v,u,aK (n:=(q:Int)+1)];refine az (ih (m-1) _ (by omega) ⟨q+1,_,_,rfl,by omega,fun r z Y Z I=>?_,by simp [A],by simp [B],by simp [E],by simp,by simp [u],l.trans (Fm.push _ _),g.push _⟩);by_cases hr:r=q
 ·subst hr;rw [U]at I;cases I;exact O
 ·exact d r z (by omega) (by omega) I
theorem KW{n a e i j ep b:Nat}{rows:List (List FC)}{p:List FC}{H0:aj}{k:List ca}{Q:Option ak→St→Prop}(S:Cv tab cv W c)(hn:rows.length=n)(hl:n≤1000000000)(hg:bC sz rows)(hW:∀ r ∈ rows,W r)
  {t:T} {H:aj} (a8:a<i) (b6:i≤j+1) (b7:j<e) (a_:e≤n) (hp:rows[a]?=aa p)
  (A:t.g 0=.c (.sl b 0 n 0 ep sz)) (B:t.g 1=vi a) (E:t.g 4=cv) (u:t.g 12=vi i) (v:t.g 13=vi j) (l:Fm b H0 H) (g:RB H b sz ep rows)
  (next:∀(t:T) (H:aj) (K:Nat),(K≤j∧i≤K+1)→(∀(q:Nat) x,K<q→q≤j→rows[q]?=aa x→¬ c x p<0)→(K<i∨∀ x,rows[K]?=aa x→¬ ¬ c x p<0) →
   t.g 0=.c (.sl b 0 n 0 ep sz)→t.g 1=vi a→t.g 4=cv→t.g 12=vi i→t.g 13=vi K→Fm b H0 H→RB H b sz ep rows→WP tab σ.part ab k ⟨t,[],H⟩ Q) :
  WP tab σ.part ab (.code (Ak sz)::k) ⟨t,[],H⟩ Q:=by
 refine aB ?_;refine bu (fun m s=>∃(q:Nat) (t:T) (N:aj),s=⟨t,[],N⟩∧(q+1=i+m∧q≤j)∧(∀(r:Nat) x,q<r→r≤j→rows[r]?=aa x→¬ c x p<0) ∧
   t.g 0=.c (.sl b 0 n 0 ep sz)∧t.g 1=vi a∧t.g 4=cv∧t.g 12=vi i∧t.g 13=vi q∧Fm b H0 N∧RB N b sz ep rows) (j+1-i)
  ⟨j,_,H,rfl,by omega,fun r x Y Z=>by omega,A,B,E,u,v,l,g⟩ ?_
 rintro m s ⟨q,t,N,rfl,hm,d,A,B,E,u,v,l,g⟩ ih;apply aq;apply ai;by_cases M:i≤q
 case neg=>
  simp [u,v,M];refine aD (by simp) ?_;refine ba (k':=k) rfl ?_;exact next _ _ q (by omega) d (.inl (by omega)) (by simp [A]) (by simp [B]) (by simp [E]) (by simp [u]) (by simp [v]) l g
 obtain⟨x,y,F,ar,J,U,X,i1,j1,l1,l2,L,he,-,-⟩:=g.ask hg S hW hn (i:=q) (j:=a) (by omega) (by omega);simp [u,v,M,A,B,E,i1,j1,l1,l2,L,he,-aP];have ep:p=y:=by rw [hp]at X;exact adz X
 subst ep;by_cases O:c x p<0
 case pos=>
  refine aD (by simp [O]) ?_;refine ba (k':=k) rfl ?_;refine next _ _ q (by omega) d (.inr fun z I=>?_) (by simp [A]) (by simp [B]) (by simp [E]) (by simp [u]) (by simp [v]) (l.trans (Fm.push _ _)) (g.push _)
  rw [U]at I;cases I;exact fun h=>h O
 refine an (by simp [O]) (aO ?_);refine aB (au (.inl rfl) ?_);simp [u,v,aK (n:=(q:Int)-1)];refine az (ih (m-1) _ (by omega) ⟨q-1,_,_,rfl,by omega,fun r z Y Z I=>?_,by simp [A],by simp [B],by simp [E],by simp [u],by simp;omega,l.trans (Fm.push _ _),g.push _⟩);by_cases hr:r=q
 ·subst hr;rw [U]at I;cases I;exact O
 ·exact d r z (by omega) (by omega) I
theorem KZ{n a e i j ep b:Nat}{rows:List (List FC)}{p:List FC}{H0:aj}{k:List ca}{Q:Option ak→St→Prop}(S:Cv tab cv W c)(hn:rows.length=n)(hl:n≤1000000000)(hg:bC sz rows)(hW:∀ r ∈ rows,W r)
  {t:T} {H:aj} (a8:a<i) (b6:i≤j+1) (b7:j<e) (a_:e≤n) (hp:rows[a]?=aa p)
  (A:t.g 0=.c (.sl b 0 n 0 ep sz)) (B:t.g 1=vi a) (E:t.g 4=cv) (v:t.g 12=vi i) (u:t.g 13=vi j) (l:Fm b H0 H) (g:RB H b sz ep rows)
  (next:∀(t:T) (H:aj) (K:Nat),(i≤K∧K≤j+1)→(∀(q:Nat) x,i≤q→q<K→rows[q]?=aa x→c x p<0)→(j<K∨∀ x,rows[K]?=aa x→¬ c x p<0) →
   t.g 0=.c (.sl b 0 n 0 ep sz)→t.g 1=vi a→t.g 4=cv→t.g 12=vi K→t.g 13=vi j→Fm b H0 H→RB H b sz ep rows→WP tab σ.part ab k ⟨t,[],H⟩ Q) :
  WP tab σ.part ab (.code (Al sz)::k) ⟨t,[],H⟩ Q:=by
 refine aB ?_;refine bu (fun m s=>∃(q:Nat) (t:T) (N:aj),s=⟨t,[],N⟩∧(q+m=j+1∧i≤q)∧(∀(r:Nat) x,i≤r→r<q→rows[r]?=aa x→c x p<0) ∧
   t.g 0=.c (.sl b 0 n 0 ep sz)∧t.g 1=vi a∧t.g 4=cv∧t.g 12=vi q∧t.g 13=vi j∧Fm b H0 N∧RB N b sz ep rows) (j+1-i)
  ⟨i,_,H,rfl,by omega,fun r x Y Z=>by omega,A,B,E,v,u,l,g⟩ ?_
 rintro m s ⟨q,t,N,rfl,hm,d,A,B,E,v,u,l,g⟩ ih;apply aq;apply ai;by_cases M:q≤j
 case neg=>
  simp [v,u,M];refine aD (by simp) ?_;refine ba (k':=k) rfl ?_;exact next _ _ q (by omega) d (.inl (by omega)) (by simp [A]) (by simp [B]) (by simp [E]) (by simp [v]) (by simp [u]) l g
 obtain⟨x,y,F,ar,J,U,X,i1,j1,l1,l2,L,he,-,-⟩:=g.ask hg S hW hn (i:=q) (j:=a) (by omega) (by omega);simp [v,u,M,A,B,E,i1,j1,l1,l2,L,he,-aP];have ep:p=y:=by rw [hp]at X;exact adz X
 subst ep;by_cases O:c x p<0
 case neg=>
  refine aD (by simp [O]) ?_;refine ba (k':=k) rfl ?_;refine next _ _ q (by omega) d (.inr fun z I=>?_) (by simp [A]) (by simp [B]) (by simp [E]) (by simp [v]) (by simp [u]) (l.trans (Fm.push _ _)) (g.push _)
  rw [U]at I;cases I;exact O
 refine an (by simp [O]) (aO ?_);refine aB (au (.inl rfl) ?_);simp [v,u,aK (n:=(q:Int)+1)];refine az (ih (m-1) _ (by omega) ⟨q+1,_,_,rfl,by omega,fun r z Y Z I=>?_,by simp [A],by simp [B],by simp [E],by simp,by simp [u],l.trans (Fm.push _ _),g.push _⟩);by_cases hr:r=q
 ·subst hr;rw [U]at I;cases I;exact O
 ·exact d r z (by omega) (by omega) I
theorem KX{n a e i j ep b:Nat}{rows:List (List FC)}{p:List FC}{H0:aj}{k:List ca}{Q:Option ak→St→Prop}(S:Cv tab cv W c)(hn:rows.length=n)(hl:n≤1000000000)(hg:bC sz rows)(hW:∀ r ∈ rows,W r)
  {t:T} {H:aj} (a8:a<i) (b6:i≤j+1) (b7:j<e) (a_:e≤n) (hp:rows[a]?=aa p)
  (A:t.g 0=.c (.sl b 0 n 0 ep sz)) (B:t.g 1=vi a) (E:t.g 4=cv) (u:t.g 12=vi i) (v:t.g 13=vi j) (l:Fm b H0 H) (g:RB H b sz ep rows)
  (next:∀(t:T) (H:aj) (K:Nat),(K≤j∧i≤K+1)→(∀(q:Nat) x,K<q→q≤j→rows[q]?=aa x→¬ c x p<0)→(K<i∨∀ x,rows[K]?=aa x→¬ ¬ c x p<0) →
   t.g 0=.c (.sl b 0 n 0 ep sz)→t.g 1=vi a→t.g 4=cv→t.g 12=vi i→t.g 13=vi K→Fm b H0 H→RB H b sz ep rows→WP tab σ.part ab k ⟨t,[],H⟩ Q) :
  WP tab σ.part ab (.code (Am sz)::k) ⟨t,[],H⟩ Q:=by
 refine aB ?_;refine bu (fun m s=>∃(q:Nat) (t:T) (N:aj),s=⟨t,[],N⟩∧(q+1=i+m∧q≤j)∧(∀(r:Nat) x,q<r→r≤j→rows[r]?=aa x→¬ c x p<0) ∧
   t.g 0=.c (.sl b 0 n 0 ep sz)∧t.g 1=vi a∧t.g 4=cv∧t.g 12=vi i∧t.g 13=vi q∧Fm b H0 N∧RB N b sz ep rows) (j+1-i)
  ⟨j,_,H,rfl,by omega,fun r x Y Z=>by omega,A,B,E,u,v,l,g⟩ ?_
 rintro m s ⟨q,t,N,rfl,hm,d,A,B,E,u,v,l,g⟩ ih;apply aq;apply ai;by_cases M:i≤q
 case neg=>
  simp [u,v,M];refine aD (by simp) ?_;refine ba (k':=k) rfl ?_;exact next _ _ q (by omega) d (.inl (by omega)) (by simp [A]) (by simp [B]) (by simp [E]) (by simp [u]) (by simp [v]) l g
 obtain⟨x,y,F,ar,J,U,X,i1,j1,l1,l2,L,he,-,-⟩:=g.ask hg S hW hn (i:=q) (j:=a) (by omega) (by omega);simp [u,v,M,A,B,E,i1,j1,l1,l2,L,he,-aP];have ep:p=y:=by rw [hp]at X;exact adz X
 subst ep;by_cases O:c x p<0
 case pos=>
  refine aD (by simp [O]) ?_;refine ba (k':=k) rfl ?_;refine next _ _ q (by omega) d (.inr fun z I=>?_) (by simp [A]) (by simp [B]) (by simp [E]) (by simp [u]) (by simp [v]) (l.trans (Fm.push _ _)) (g.push _)
  rw [U]at I;cases I;exact fun h=>h O
 refine an (by simp [O]) (aO ?_);refine aB (au (.inl rfl) ?_);simp [u,v,aK (n:=(q:Int)-1)];refine az (ih (m-1) _ (by omega) ⟨q-1,_,_,rfl,by omega,fun r z Y Z I=>?_,by simp [A],by simp [B],by simp [E],by simp [u],by simp;omega,l.trans (Fm.push _ _),g.push _⟩);by_cases hr:r=q
 ·subst hr;rw [U]at I;cases I;exact O
 ·exact d r z (by omega) (by omega) I
theorem VY{n a e i j ep b:Nat}{rows:List (List FC)}{p:List FC}{H0:aj}{k:List ca}{Q:Option ak→St→Prop}(S:Cv tab cv W c)(hn:rows.length=n)(hl:n≤1000000000)(hg:bC sz rows)(hW:∀ r ∈ rows,W r)
  {t:T} {H:aj} (a8:a<i) (b6:i≤j+1) (b7:j<e) (a_:e≤n) (hp:rows[a]?=aa p)
  (A:t.g 0=.c (.sl b 0 n 0 ep sz)) (B:t.g 1=vi a) (E:t.g 4=cv) (v:t.g 11=vi i) (u:t.g 12=vi j) (l:Fm b H0 H) (g:RB H b sz ep rows)
  (next:∀(t:T) (H:aj) (K:Nat),(i≤K∧K≤j+1)→(∀(q:Nat) x,i≤q→q<K→rows[q]?=aa x→¬ c p x<0)→(j<K∨∀ x,rows[K]?=aa x→¬ ¬ c p x<0) →
   t.g 0=.c (.sl b 0 n 0 ep sz)→t.g 1=vi a→t.g 4=cv→t.g 11=vi K→t.g 12=vi j→Fm b H0 H→RB H b sz ep rows→WP tab σ.K5 ab k ⟨t,[],H⟩ Q) :
  WP tab σ.K5 ab (.code (K6 sz)::k) ⟨t,[],H⟩ Q:=by
 refine aB ?_;refine bu (fun m s=>∃(q:Nat) (t:T) (N:aj),s=⟨t,[],N⟩∧(q+m=j+1∧i≤q)∧(∀(r:Nat) x,i≤r→r<q→rows[r]?=aa x→¬ c p x<0) ∧
   t.g 0=.c (.sl b 0 n 0 ep sz)∧t.g 1=vi a∧t.g 4=cv∧t.g 11=vi q∧t.g 12=vi j∧Fm b H0 N∧RB N b sz ep rows) (j+1-i)
  ⟨i,_,H,rfl,by omega,fun r x Y Z=>by omega,A,B,E,v,u,l,g⟩ ?_
 rintro m s ⟨q,t,N,rfl,hm,d,A,B,E,v,u,l,g⟩ ih;apply aq;apply ai;by_cases M:q≤j
 case neg=>
  simp [v,u,M];refine aD (by simp) ?_;refine ba (k':=k) rfl ?_;exact next _ _ q (by omega) d (.inl (by omega)) (by simp [A]) (by simp [B]) (by simp [E]) (by simp [v]) (by simp [u]) l g
 obtain⟨x,y,F,ar,J,U,X,i1,j1,l1,l2,L,he,-,-⟩:=g.ask hg S hW hn (i:=a) (j:=q) (by omega) (by omega);simp [v,u,M,A,B,E,i1,j1,l1,l2,L,he,-aP];have ep:p=x:=by rw [hp]at U;exact adz U
 subst ep;by_cases O:c p y<0
 case pos=>
  refine aD (by simp [O]) ?_;refine ba (k':=k) rfl ?_;refine next _ _ q (by omega) d (.inr fun z I=>?_) (by simp [A]) (by simp [B]) (by simp [E]) (by simp [v]) (by simp [u]) (l.trans (Fm.push _ _)) (g.push _)
  rw [X]at I;cases I;exact fun h=>h O
 refine an (by simp [O]) (aO ?_);refine aB (au (.inl rfl) ?_);simp [v,u,aK (n:=(q:Int)+1)];refine az (ih (m-1) _ (by omega) ⟨q+1,_,_,rfl,by omega,fun r z Y Z I=>?_,by simp [A],by simp [B],by simp [E],by simp,by simp [u],l.trans (Fm.push _ _),g.push _⟩);by_cases hr:r=q
 ·subst hr;rw [X]at I;cases I;exact O
 ·exact d r z (by omega) (by omega) I
theorem VW{n a e i j ep b:Nat}{rows:List (List FC)}{p:List FC}{H0:aj}{k:List ca}{Q:Option ak→St→Prop}(S:Cv tab cv W c)(hn:rows.length=n)(hl:n≤1000000000)(hg:bC sz rows)(hW:∀ r ∈ rows,W r)
  {t:T} {H:aj} (a8:a<i) (b6:i≤j+1) (b7:j<e) (a_:e≤n) (hp:rows[a]?=aa p)
  (A:t.g 0=.c (.sl b 0 n 0 ep sz)) (B:t.g 1=vi a) (E:t.g 4=cv) (u:t.g 11=vi i) (v:t.g 12=vi j) (l:Fm b H0 H) (g:RB H b sz ep rows)
  (next:∀(t:T) (H:aj) (K:Nat),(K≤j∧i≤K+1)→(∀(q:Nat) x,K<q→q≤j→rows[q]?=aa x→c p x<0)→(K<i∨∀ x,rows[K]?=aa x→¬ c p x<0) →
   t.g 0=.c (.sl b 0 n 0 ep sz)→t.g 1=vi a→t.g 4=cv→t.g 11=vi i→t.g 12=vi K→Fm b H0 H→RB H b sz ep rows→WP tab σ.K5 ab k ⟨t,[],H⟩ Q) :
  WP tab σ.K5 ab (.code (K7 sz)::k) ⟨t,[],H⟩ Q:=by
 refine aB ?_;refine bu (fun m s=>∃(q:Nat) (t:T) (N:aj),s=⟨t,[],N⟩∧(q+1=i+m∧q≤j)∧(∀(r:Nat) x,q<r→r≤j→rows[r]?=aa x→c p x<0) ∧
   t.g 0=.c (.sl b 0 n 0 ep sz)∧t.g 1=vi a∧t.g 4=cv∧t.g 11=vi i∧t.g 12=vi q∧Fm b H0 N∧RB N b sz ep rows) (j+1-i)
  ⟨j,_,H,rfl,by omega,fun r x Y Z=>by omega,A,B,E,u,v,l,g⟩ ?_
 rintro m s ⟨q,t,N,rfl,hm,d,A,B,E,u,v,l,g⟩ ih;apply aq;apply ai;by_cases M:i≤q
 case neg=>
  simp [u,v,M];refine aD (by simp) ?_;refine ba (k':=k) rfl ?_;exact next _ _ q (by omega) d (.inl (by omega)) (by simp [A]) (by simp [B]) (by simp [E]) (by simp [u]) (by simp [v]) l g
 obtain⟨x,y,F,ar,J,U,X,i1,j1,l1,l2,L,he,-,-⟩:=g.ask hg S hW hn (i:=a) (j:=q) (by omega) (by omega);simp [u,v,M,A,B,E,i1,j1,l1,l2,L,he,-aP];have ep:p=x:=by rw [hp]at U;exact adz U
 subst ep;by_cases O:c p y<0
 case neg=>
  refine aD (by simp [O]) ?_;refine ba (k':=k) rfl ?_;refine next _ _ q (by omega) d (.inr fun z I=>?_) (by simp [A]) (by simp [B]) (by simp [E]) (by simp [u]) (by simp [v]) (l.trans (Fm.push _ _)) (g.push _)
  rw [X]at I;cases I;exact O
 refine an (by simp [O]) (aO ?_);refine aB (au (.inl rfl) ?_);simp [u,v,aK (n:=(q:Int)-1)];refine az (ih (m-1) _ (by omega) ⟨q-1,_,_,rfl,by omega,fun r z Y Z I=>?_,by simp [A],by simp [B],by simp [E],by simp [u],by simp;omega,l.trans (Fm.push _ _),g.push _⟩);by_cases hr:r=q
 ·subst hr;rw [X]at I;cases I;exact O
 ·exact d r z (by omega) (by omega) I
def rA(c:List FC→List FC→Int)(a i j e:Nat)(p:List FC)(l:List (List FC)):Prop:=
 l[a]?=aa p∧(∀(k:Nat) x,a<k→k<i→l[k]?=aa x→c x p<0)∧(∀(k:Nat) x,j<k→k<e→l[k]?=aa x→¬ c x p<0)
def ka(c:List FC→List FC→Int)(a e m:Nat)(l:List (List FC)):Prop:=
 ∃ p,l[m]?=aa p∧(∀(k:Nat) x,a≤k→k<m→l[k]?=aa x→c x p<0)∧(∀(k:Nat) x,m<k→k<e→l[k]?=aa x→¬ c x p<0)
theorem rA.swap{a i j e:Nat}{p:List FC}{l:List (List FC)}(h:rA c a i j e p l)(y:a<i)(A:i<j)(d:j<l.length)(z:∀ x,l[i]?=aa x→¬ c x p<0)(B:∀ x,l[j]?=aa x→c x p<0):rA c a (i+1) (j-1) e p (fO l i j):=by
 obtain⟨s,u,v⟩:=h;have g:∀ k,(fO l i j)[k]?=if k=j then l[i]? else if k=i then l[j]? else l[k]?:=fun k=>fj (by omega) d k;refine⟨?_,fun k x m q b=>?_,fun k x m q b=>?_⟩
 ·rw [g,aU (by omega),aU (by omega)];exact s
 ·rw [g,aU (by omega)]at b;by_cases e:k=i
  ·rw [bf e]at b;exact B x b
  ·rw [aU e]at b;exact u k x m (by omega) b
 ·rw [g]at b;by_cases e:k=j
  ·rw [bf e]at b;exact z x b
  ·rw [aU e,aU (by omega)]at b;exact v k x (by omega) q b
theorem rA.done{a i j e:Nat}{p:List FC}{l:List (List FC)}(h:rA c a i j e p l)(y:a≤j)(z:i=j+1)(d:j<l.length):ka c a e j (fO l j a):=by
 obtain⟨m,q,v⟩:=h;have g:∀ k,(fO l j a)[k]?=if k=a then l[j]? else if k=j then l[a]? else l[k]?:=fun k=>fj d (by omega) k;refine⟨p,?_,fun k x s u b=>?_,fun k x s u b=>?_⟩
 ·rw [g];by_cases e:j=a
  ·rw [bf e,e];exact m
  ·rw [aU e,bf rfl];exact m
 ·rw [g]at b;by_cases e:k=a
  ·rw [bf e]at b;exact q j x (by omega) (by omega) b
  ·rw [aU e,aU (by omega)]at b;exact q k x (by omega) (by omega) b
 ·rw [g,aU (by omega),aU (by omega)]at b;exact v k x s u b
theorem QR{H:aj}{rows:List (List FC)}{n a e v b ep:Nat}(hT:tab σ.part=aa (y6 σ sz))(a_:Cv tab cv W c)(hn:rows.length=n)(hl:n≤1000000000)(g:RB H b sz ep rows)(hg:bC sz rows)(hW:∀ r ∈ rows,W r)(c9:a<e)(b6:e≤n)(c_:a≤v)(d5:v<e) :
  ∃ r H',Ev tab (.fn σ.part) [.c (.sl b 0 n 0 ep sz),vi a,vi e,vi v,cv] H r H'∧((∃(m:Nat) (w:Bool),r=.t [vi m,vb w]∧a≤m∧m<e∧Fm b H H'∧∃ l',RB H' b sz ep l'∧dG a e rows l'∧ka c a e m l')):=by
 refine dy hT rfl fun Q hQ=>?_;obtain⟨d,rfl⟩:∃ d,e=d+1:=⟨e-1,by omega⟩
 obtain⟨x,p,H1,H2,F,hp,i1,j1,l1,l2,w1,w2,s1,j2,s2,r2,f2⟩:=g.fO hg hn (i:=a) (j:=v) (by omega) (by omega);have B:dG a (d+1) rows (fO rows a v):=dY (by omega) (by omega) (by omega) (by omega) (by omega);have b7:rA c a (a+1) d (d+1) p (fO rows a v):=by
  refine⟨?_,fun k x k1 k2=>by omega,fun k x k1 k2=>by omega⟩;rw [fj (by omega) (by omega)];by_cases e:a=v
  ·rw [bf e,e];exact hp
  ·rw [aU e,bf rfl];exact hp
 apply ai;simp;apply ai;simp [i1,j1,l1,l2,w1,w2,s1,j2,s2,-aP,-bZ];apply ai;simp [aK (n:=(a:Int)+1),aK (n:=(d:Int))];apply aq;have I:∀(w:Bool) (t:T) (H3:aj) (l:List (List FC)) (i j:Nat),a≤j→j<d+1→i=j+1→rA c a i j (d+1) p l→dG a (d+1) rows l→Fm b H H3→RB H3 b sz ep l →
   ∃(x y:List FC) (H4 H5:aj),a6 H3 sz ab (.c (.sl b 0 n 0 ep sz)) (vi j)=aa (.c (.ptr b (j*sz) ep))∧a6 H3 sz ab (.c (.sl b 0 n 0 ep sz)) (vi a)=aa (.c (.ptr b (a*sz) ep)) ∧
    dz H3 (aa sz) (.c (.ptr b (j*sz) ep))=aa (.a (x.map .f))∧dz H3 (aa sz) (.c (.ptr b (a*sz) ep))=aa (.a (y.map .f))∧x.length=sz∧y.length=sz ∧
    gD H3 (.ptr b (j*sz) ep) (y.map .f)=aa H4∧a6 H4 sz ab (.c (.sl b 0 n 0 ep sz)) (vi a)=aa (.c (.ptr b (a*sz) ep))∧gD H4 (.ptr b (a*sz) ep) (x.map .f)=aa H5 ∧
    (a≤j∧j<d+1∧Fm b H H5∧∃ l',RB H5 b sz ep l'∧dG a (d+1) rows l'∧ka c a (d+1) j l'):=by
  intro w t H3 l i j h1 h2 h3 O u q g;have M:=u.len;obtain⟨x,y,H4,H5,-,-,i1,j1,l1,l2,w1,w2,s1,j2,s2,r2,f2⟩:=g.fO (u.o9 hg) (M.trans hn) (i:=j) (j:=a) (by omega) (by omega);exact⟨x,y,H4,H5,i1,j1,l1,l2,w1,w2,s1,j2,s2,h1,h2,q.trans f2,_,r2,u.trans (dY (by omega) (by omega) (by omega) (by omega) (by omega)),O.done h1 h3 (by omega)⟩
 have E:∀ {l},dG a (d+1) rows l→bC sz l:=fun h=>h.o9 hg;have U:∀ {l},dG a (d+1) rows l→∀ r ∈ l,W r:=fun h r hr=>hW r (h.1.mem_iff.1 hr);refine KY a_ (B.len.trans hn) hl (E B) (U B) (i:=a+1) (j:=d) (e:=d+1) (H0:=H) (by omega) (by omega) (by omega) b6 b7.1 (by simp) (by simp) (by simp) (by simp) (by simp) f2 r2 ?_;intro t H3 z b_ N S X Z g4 Y L q g;apply aq;refine KW a_ (B.len.trans hn) hl (E B) (U B) (i:=z) (j:=d) (e:=d+1) (H0:=H) (by omega) (by omega) (by omega) b6 b7.1 X Z g4 Y L q g ?_;intro t H4 A c6 J K X Z g4 Y L q g;have a8:rA c a z A (d+1) p (fO rows a v):=⟨b7.1,fun k x k1 k2 F=>N k x (by omega) k2 F,fun k x k1 k2 F=>J k x k1 (by omega) F⟩
 apply aq;apply ai;simp [Y,L];by_cases o:A<z
 ·obtain⟨x,y,H5,H6,i1,j1,l1,l2,w1,w2,s1,j2,s2,f⟩:=I ae t H4 _ z A (by omega) (by omega) (by omega) a8 B q g;refine an (by simp [o]) (ai ?_);simp [X,Z,L,i1,j1,l1,l2,w1,w2,s1,j2,s2,-aP,-bZ];apply ai;simp [L];exact aG (hQ _ _ (.t [vi A,vb ae]) rfl (by simp [Km.results,aY]) ⟨A,ae,rfl,f⟩)
 refine bg (by simp [o]) ?_;have ni:∀ x,(fO rows a v)[z]?=aa x→¬ c x p<0:=by
  rcases S with h | h
  ·omega
  ·exact h
 have nj:∀ x,(fO rows a v)[A]?=aa x→c x p<0:=by
  rcases K with h | h
  ·omega
  ·exact fun x F=>Classical.not_not.1 (h x F)
 have c8:z≠A:=by
  rintro rfl;have F:=By (l:=fO rows a v) (i:=z) (by rw [uL];omega);exact ni _ F (nj _ F)
 obtain⟨x5,y5,H5,H6,-,-,i1,j1,l1,l2,w1,w2,s1,j2,s2,r5,f5⟩:=g.fO (E B) (B.len.trans hn) (i:=z) (j:=A) (by omega) (by omega);apply ai;simp [X,Y,L,i1,j1,l1,l2,w1,w2,s1,j2,s2,-aP,-bZ];apply ai;simp [Y,aK (n:=(z:Int)+1)];apply ai;simp [L,aK (n:=(A:Int)-1)];apply aq;refine aB ?_;refine bu (fun m s=>∃(i j:Nat) (t:T) (H1:aj) (l:List (List FC)),s=⟨t,[],H1⟩∧m=j+1-i∧a<i∧i≤j+1∧j<d+1∧t.g 0=.c (.sl b 0 n 0 ep sz)∧t.g 1=vi a∧t.g 4=cv∧t.g 12=vi i∧t.g 13=vi j ∧
   Fm b H H1∧RB H1 b sz ep l∧dG a (d+1) rows l∧rA c a i j (d+1) p l) _
  ⟨z+1,A-1,_,H6,_,rfl,rfl,by omega,by omega,by omega,by simp [X],by simp [Z],by simp [g4],by simp,by simp;omega,q.trans f5,r5,
   B.trans (dY (by omega) (by omega) (by omega) (by omega) (by rw [uL];omega)),a8.swap (by omega) (by omega) (by rw [uL];omega) ni nj⟩ ?_
 rintro m s ⟨i,j,t,H1,l,rfl,rfl,b9,c4,c7,X,Z,g4,Y,L,q,g,u,O⟩ ih;have M:=u.len;refine aB ?_;apply aq;refine KZ a_ (M.trans hn) hl (E u) (U u) (i:=i) (j:=j) (e:=d+1) (H0:=H) b9 c4 c7 b6 O.1 X Z g4 Y L q g ?_;intro t H3 z b_ N S X Z g4 Y L q g;apply aq;refine KX a_ (M.trans hn) hl (E u) (U u) (i:=z) (j:=j) (e:=d+1) (H0:=H) (by omega) (by omega) (by omega) b6 O.1 X Z g4 Y L q g ?_;intro t H4 A c6 J K X Z g4 Y L q g;have a8:rA c a z A (d+1) p l:=⟨O.1,fun k x k1 k2 F=>by
   by_cases hk:k<i
   ·exact O.2.1 k x k1 hk F
   ·exact N k x (by omega) k2 F,fun k x k1 k2 F=>by
   by_cases hk:j<k
   ·exact O.2.2 k x hk k2 F
   ·exact J k x k1 (by omega) F⟩
 apply aq;apply ai;simp [Y,L];by_cases o:A<z
 ·obtain⟨x,y,H5,H6,i1,j1,l1,l2,w1,w2,s1,j2,s2,f⟩:=I ag t H4 _ z A (by omega) (by omega) (by omega) a8 u q g;refine an (by simp [o]) ?_;refine ba (k':=[.code (An sz)]) rfl ?_;apply ai;simp [X,Z,L,i1,j1,l1,l2,w1,w2,s1,j2,s2,-aP,-bZ];apply ai;simp [L];exact aG (hQ _ _ (.t [vi A,vb ag]) rfl (by simp [Km.results,aY]) ⟨A,ag,rfl,f⟩)
 refine bg (by simp [o]) ?_;have ni:∀ x,l[z]?=aa x→¬ c x p<0:=by
  rcases S with h | h
  ·omega
  ·exact h
 have nj:∀ x,l[A]?=aa x→c x p<0:=by
  rcases K with h | h
  ·omega
  ·exact fun x F=>Classical.not_not.1 (h x F)
 have c8:z≠A:=by
  rintro rfl;have F:=By (l:=l) (i:=z) (by omega);exact ni _ F (nj _ F)
 obtain⟨x5,y5,H5,H6,-,-,i1,j1,l1,l2,w1,w2,s1,j2,s2,r5,f5⟩:=g.fO (E u) (M.trans hn) (i:=z) (j:=A) (by omega) (by omega);apply ai;simp [X,Y,L,i1,j1,l1,l2,w1,w2,s1,j2,s2,-aP,-bZ];apply ai;simp [Y,aK (n:=(z:Int)+1)];refine au (.inl rfl) ?_;simp [L,aK (n:=(A:Int)-1)];exact az (ih _ _ (by omega) ⟨z+1,A-1,_,H6,_,rfl,rfl,by omega,by omega,by omega,by simp [X],by simp [Z],by simp [g4],by simp,by simp;omega,q.trans f5,r5,
   u.trans (dY (by omega) (by omega) (by omega) (by omega) (by omega)),a8.swap (by omega) (by omega) (by omega) ni nj⟩)
end
end
end Km
