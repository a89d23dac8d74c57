/-
  Our own small machine for Go code by value, held tN the model: part 4. No program in Gw.
-/
import Derived.Test.YtnaofdffomdmhaaGreatK3
import Derived.ChangeArms
import Derived.DataReads
import Derived.Deep.Slices
import Derived.ProofKit
import Derived.RowKit3
import Derived.Below
import Derived.Carry
import Derived.Laws.IdiomArrays
open Option renaming some → aa,none → ab
open Bool renaming true → ae,false → ag
open Nat renaming le_refl → aft, add_mul → avM, one_mul → aw8, add_zero → awL, mul_le_mul_right → avX, min_eq_left → aws, le_max_left → avN, le_max_right → avC, le_trans → avv, lt_of_lt_of_le → avJ, zero_le → awv, zero_add → avP
open Option renaming bind_some → avS, bind_eq_some_iff → avy, map_eq_some_iff → IT
open List renaming map_cons → avl, foldl_cons → awA, mem_cons_of_mem → aul, flatten_cons → avD, length_append → api, length_cons → avB, mem_cons_self → atI, take_succ_cons → aw3, take_of_length_le → avj, mem_map → avx, getElem?_eq_some_iff → BY, mem_of_getElem? → avo, drop_drop → awi, drop_eq_getElem_cons → auR, getElem?_eq_getElem → By, length_map → avi, length_drop → avp, map_append → awb, take_append_of_le_length → avF, drop_zero → awj, getElem?_map → avR, isEmpty_cons → aw7, findIdx?_eq_some_iff_getElem → awq, getElem_mem → anc, getElem?_append_left → AT, getElem?_append_right → IS, take_append_drop → avL, length_take → avA, flatten_append → awF, take_take → awH, append_nil → av0, getElem?_of_mem → av2, mem_cons → avn, mem_append_left → awa, mem_append_right → awK, getElem?_set_ne → AI, set_cons_succ → axj, append_assoc → avU, map_drop → aw9, getElem?_set_self → IN, getElem?_take → avI, getElem?_drop → avt, ext_getElem? → awz, length_eq_zero_iff → av7, nil_append → awm, mem_of_mem_drop → av9, length_set → avw
open Bool renaming false_eq_true → avk, and_eq_true → If
open Option.some renaming injEq → At
open Int renaming toNat_natCast → avr
set_option linter.unusedVariables false
set_option linter.constructorNameAsVariable false
set_option linter.unusedSimpArgs false
set_option linter.unusedSectionVars false
set_option maxRecDepth 100000
namespace Km
section
open Go
def P.QW:Nat→Nat→P
 | 0,_=>.h| k+1,n=>if n=0 then .h else if n % 2=1 then .o (QW k ((n-1) / 2))else .i (QW k ((n-2) / 2))
def P.nat(n:Nat):P:=P.QW n n
theorem pO:∀(k n:Nat),n≤k→(P.QW k n).toNat=n
 | 0,n,b=>by simp [P.QW,P.toNat];omega
 | k+1,n,b=>by
  unfold P.QW;split
  ·simp [P.toNat, *]
  ·split
   ·simp [P.toNat];rw [pO k _ (by omega)];omega
   ·simp [P.toNat];rw [pO k _ (by omega)];omega
theorem sK(n:Nat):(P.nat n).toNat=n:=pO n n (aft n)
theorem nat_ne{a b:Nat}(d:a≠b):P.nat a≠P.nat b:=fun e=>d (by rw [←sK a,←sK b,e])
theorem T.gN(v:V):∀(p:P) (t:T),(t.set p v).get p=v
 | .h,.e=>rfl| .h,.n _ _ _=>rfl| .o p,.e=>T.gN v p .e| .o p,.n l _ _=>T.gN v p l| .i p,.e=>T.gN v p .e| .i p,.n _ _ r=>T.gN v p r
theorem T.jO(v:V):∀(p q:P) (t:T),p≠q→(t.set p v).get q=t.get q
 | .h,.h,_,h=>absurd rfl h| .h,.o q,.e,_=>by cases q<;>rfl
 | .h,.i q,.e,_=>by cases q<;>rfl
 | .h,.o _,.n _ _ _,_=>rfl| .h,.i _,.n _ _ _,_=>rfl| .o _,.h,.e,_=>rfl| .o _,.h,.n _ _ _,_=>rfl| .i _,.h,.e,_=>rfl| .i _,.h,.n _ _ _,_=>rfl
 | .o p,.o q,.e,h=>by
  show(T.set .e p v).get q=_;rw [T.jO v p q .e (fun e=>h (by rw [e]))];cases q<;>rfl
 | .o p,.o q,.n l _ _,h=>T.jO v p q l (fun e=>h (by rw [e]))
 | .o p,.i q,.e,h=>by
  show T.get .e q=_;cases q<;>rfl
 | .o _,.i _,.n _ _ _,_=>rfl
 | .i p,.o q,.e,h=>by
  show T.get .e q=_;cases q<;>rfl
 | .i _,.o _,.n _ _ _,_=>rfl
 | .i p,.i q,.e,h=>by
  show(T.set .e p v).get q=_;rw [T.jO v p q .e (fun e=>h (by rw [e]))];cases q<;>rfl
 | .i p,.i q,.n _ _ r,h=>T.jO v p q r (fun e=>h (by rw [e]))
def T.g(t:T)(n:Nat):V:=t.get (P.nat n)
def T.s(t:T)(n:Nat)(v:V):T:=t.set (P.nat n) v
@[simp] theorem T.g_s (t:T) (n m:Nat) (v:V):(t.s n v).g m=if n=m then v else t.g m:=by
 unfold T.g T.s;split
 ·rename_i h;subst h;exact T.gN v _ t
 ·rename_i h;exact T.jO v _ _ t (nat_ne h)
def R(n:Nat):Arg:=.r (P.nat n)
def D(n:Nat):Option P:=aa (P.nat n)
def G(n:Nat)(w:Bool):Option (P × Bool):=aa (P.nat n,w)
abbrev vi(n:Int):V:=.c (.f (.int .i64 n))
abbrev vb(b:Bool):V:=.c (.f (.bool b))
abbrev fi(n:Int):FC:=.int .i64 n
@[simp] theorem A9 (t:T) (n:Nat):(R n).ev t=t.g n:=rfl
@[simp] theorem avb (t:T) (v:V):(Arg.k v).ev t=v:=rfl
@[simp] theorem auq (t:T) (n:Nat) (v:V):jS t (D n) v=t.s n v:=rfl
@[simp] theorem aqx (t:T) (v:V):jS t ab v=t:=rfl
@[simp] theorem aj6 (t:T) (n:Nat):t.get (P.nat n)=t.g n:=rfl
@[simp] theorem amn (n:Nat) (ps:List P) (v:V) (b:List V) (t:T):cN (P.nat n::ps) (v::b) t=cN ps b (t.s n v):=rfl
@[simp] theorem apT (b:List V) (t:T):cN [] b t=t:=rfl
@[simp] theorem amr (t:T):wanted t ab=aa ae:=rfl
@[simp] theorem asU (t:T) (n:Nat) (w:Bool):wanted t (G n w)=match t.g n with
  | .c (.f (.bool b))=>aa (b == w)| .t []=>aa ag| _=>ab:=rfl
attribute [simp] dC
def KO(o:Option (V × aj))(t:T)(ds:List dQ)(K:V→St→Prop):Prop:=∃ p,o=aa p∧K p.1 ⟨t,ds,p.2⟩
@[simp] theorem as5 (v:V) (H:aj) (t:T) (ds:List dQ) (K:V→St→Prop):KO (aa (v,H)) t ds K↔K v ⟨t,ds,H⟩:=⟨fun⟨_,h,k⟩=>by cases h;exact k,fun k=>⟨_,rfl,k⟩⟩
def KP(P:V→Prop)(t:T)(ds:List dQ)(H:aj)(K:V→St→Prop):Prop:=∃ x,P x∧K x ⟨t,ds,H⟩
@[simp] theorem auO (x:V) (t:T) (ds:List dQ) (H:aj) (K:V→St→Prop):KP (Eq x) t ds H K↔K x ⟨t,ds,H⟩:=⟨fun⟨_,h,k⟩=>by cases h;exact k,fun k=>⟨x,rfl,k⟩⟩
def E2(x:V)(H:aj)(y:V)(H':aj):Prop:=x=y∧H=H'
def KE(P:V→aj→Prop)(t:T)(ds:List dQ)(K:V→St→Prop):Prop:=∃ x H,P x H∧K x ⟨t,ds,H⟩
@[simp] theorem auN (x:V) (H:aj) (t:T) (ds:List dQ) (K:V→St→Prop):KE (E2 x H) t ds K↔K x ⟨t,ds,H⟩:=⟨fun⟨_,_,⟨b,d⟩,k⟩=>by cases b;cases d;exact k,fun k=>⟨x,H,⟨rfl,rfl⟩,k⟩⟩
section
variable(tab:TB)
def KC(b:Option (List V))(f:Nat)(t:T)(ds:List dQ)(H:aj)(K:V→St→Prop):Prop:=∃ a,b=aa a∧KP (bg tab f a) t ds H K
def KD(c:Option (Callee × List V))(t:T)(ds:List dQ)(H:aj)(K:V→St→Prop):Prop:=∃ a,c=aa a∧KE (Ev tab a.1 a.2 H) t ds K
def KS(os:List aS)(L:St→Prop)(s:St):Prop:=wP tab os s L
def FS(s:St)(K:St→Prop):Prop:=K s
def KV(o:Option P)(os:List aS)(L:St→Prop)(v:V)(s:St):Prop:=FS ⟨jS s.aD o v,s.defs,s.heap⟩ (KS tab os L)
def GRD(w:Option Bool)(op:cW)(o:Option P)(os:List aS)(L:St→Prop)(s:St):Prop:=
 match w with
 | some ae=>jX tab s op (KV tab o os L)| some ag=>FS ⟨jS s.aD o (.t []),s.defs,s.heap⟩ (KS tab os L)| none=>False
end
section
variable{tab:TB}{t:T}{ds:List dQ}{H:aj}{K:V→St→Prop}{L:St→Prop}
@[simp] theorem as3 (a:List V) (f:Nat):KC tab (aa a) f t ds H K↔KP (bg tab f a) t ds H K:=⟨fun⟨_,h,k⟩=>by cases h;exact k,fun k=>⟨_,rfl,k⟩⟩
@[simp] theorem as4 (c:Callee) (a:List V):KD tab (aa (c,a)) t ds H K↔KE (Ev tab c a H) t ds K:=⟨fun⟨_,h,k⟩=>by cases h;exact k,fun k=>⟨_,rfl,k⟩⟩
@[simp] theorem auK (s:St) (K:St→Prop):FS s K↔K s:=Iff.rfl
@[simp ↓] theorem auP (os:List aS) (s:St):KS tab os L s↔wP tab os s L:=Iff.rfl
@[simp ↓] theorem auQ (o:Option P) (os:List aS) (v:V):KV tab o os L v ⟨t,ds,H⟩↔FS ⟨jS t o v,ds,H⟩ (KS tab os L):=Iff.rfl
@[simp ↓] theorem auM (op:cW) (o:Option P) (os:List aS) (s:St):GRD tab (aa ae) op o os L s↔jX tab s op (KV tab o os L):=Iff.rfl
@[simp ↓] theorem auL (op:cW) (o:Option P) (os:List aS):GRD tab (aa ag) op o os L ⟨t,ds,H⟩↔FS ⟨jS t o (.t []),ds,H⟩ (KS tab os L):=Iff.rfl
theorem FU{b:Bool}{op:cW}{o:Option P}{os:List aS}{s:St}(d:b=ag→GRD tab (aa ae) op o os L s)(g:b=ae→GRD tab (aa ag) op o os L s):GRD tab (aa !b) op o os L s:=by
 cases b
 ·exact d rfl
 ·exact g rfl
@[simp ↓] theorem as6 (s:St):wP tab [] s L↔L s:=Iff.rfl
@[simp ↓] theorem arD (o:Option P) (op:cW) (os:List aS):wP tab (⟨o,op,ab⟩::os) ⟨t,ds,H⟩ L↔jX tab ⟨t,ds,H⟩ op (KV tab o os L):=Iff.rfl
@[simp ↓] theorem aqb (o:Option P) (op:cW) (n:Nat) (w:Bool) (os:List aS) :
  wP tab (⟨o,op,G n w⟩::os) ⟨t,ds,H⟩ L↔GRD tab (wanted t (G n w)) op o os L ⟨t,ds,H⟩:=by
 simp only [wP];rcases b:wanted t (G n w)with _ | _ | _<;>exact Iff.rfl
def cW.plain:cW→Bool
 | .call _ _ _ | .cj _ _ _ | .recover | .defer _ _=>ag| _=>ae
theorem cz{op:cW}(h:op.plain=ae):jX tab ⟨t,ds,H⟩ op K↔KO (bq t H op) t ds K:=by
 have:jX tab ⟨t,ds,H⟩ op K↔∃ v H',bq t H op=aa (v,H')∧K v ⟨t,ds,H'⟩:=by
  cases op<;>first | exact Iff.rfl | simp [cW.plain]at h
 rw [this];exact⟨fun⟨v,H',h,k⟩=>⟨(v,H'),h,k⟩,fun⟨p,h,k⟩=>⟨p.1,p.2,h,k⟩⟩
@[simp ↓] theorem atv (x:Arg):jX tab ⟨t,ds,H⟩ (.aZ x) K↔KO (bq t H (.aZ x)) t ds K:=cz rfl
@[simp ↓] theorem asB (c a b:Arg):jX tab ⟨t,ds,H⟩ (.pick c a b) K↔KO (bq t H (.pick c a b)) t ds K:=cz rfl
@[simp ↓] theorem aqm (zs:List FC):jX tab ⟨t,ds,H⟩ (.alloc zs) K↔KO (bq t H (.alloc zs)) t ds K:=cz rfl
@[simp ↓] theorem atr (x:Arg):jX tab ⟨t,ds,H⟩ (.box x) K↔KO (bq t H (.box x)) t ds K:=cz rfl
@[simp ↓] theorem aqn (zs:List FC) (b:List (Nat × Nat × Arg)):jX tab ⟨t,ds,H⟩ (.build zs b) K↔KO (bq t H (.build zs b)) t ds K:=cz rfl
@[simp ↓] theorem aps (sz:Nat) (zs:List FC) (len:Nat) (b:List (Nat × Arg)):jX tab ⟨t,ds,H⟩ (.bK sz zs len b) K↔KO (bq t H (.bK sz zs len b)) t ds K:=cz rfl
@[simp ↓] theorem asx (n:Option Nat) (x:Arg):jX tab ⟨t,ds,H⟩ (.load n x) K↔KO (bq t H (.load n x)) t ds K:=cz rfl
@[simp ↓] theorem aqv (n:Nat) (x y:Arg):jX tab ⟨t,ds,H⟩ (.store n x y) K↔KO (bq t H (.store n x y)) t ds K:=cz rfl
@[simp ↓] theorem apx (x:Arg):jX tab ⟨t,ds,H⟩ (.bR x) K↔KO (bq t H (.bR x)) t ds K:=cz rfl
@[simp ↓] theorem atq (op:BinOp) (x y:Arg):jX tab ⟨t,ds,H⟩ (.bin op x y) K↔KO (bq t H (.bin op x y)) t ds K:=cz rfl
@[simp ↓] theorem auo (neg:Bool) (k:Fj) (x y:Arg):jX tab ⟨t,ds,H⟩ (.eq neg k x y) K↔KO (bq t H (.eq neg k x y)) t ds K:=cz rfl
@[simp ↓] theorem aup (op:UnOp) (x:Arg):jX tab ⟨t,ds,H⟩ (.un op x) K↔KO (bq t H (.un op x)) t ds K:=cz rfl
@[simp ↓] theorem att (k:IntKind) (x:Arg):jX tab ⟨t,ds,H⟩ (.fT k x) K↔KO (bq t H (.fT k x)) t ds K:=cz rfl
@[simp ↓] theorem asA (f:Nat) (b:List Arg):jX tab ⟨t,ds,H⟩ (.fR f b) K↔KO (bq t H (.fR f b)) t ds K:=cz rfl
@[simp ↓] theorem aqt:jX tab ⟨t,ds,H⟩ .jQ K↔KO (bq t H .jQ) t ds K:=cz rfl
@[simp ↓] theorem apw (d:CK) (b:FC) (m k:Arg):jX tab ⟨t,ds,H⟩ (.lookup d b m k) K↔KO (bq t H (.lookup d b m k)) t ds K:=cz rfl
@[simp ↓] theorem aqs (b:CK) (m k v:Arg):jX tab ⟨t,ds,H⟩ (.jg b m k v) K↔KO (bq t H (.jg b m k v)) t ds K:=cz rfl
@[simp ↓] theorem amj (sz bytes:Nat) (zs:List FC) (l c:Arg):jX tab ⟨t,ds,H⟩ (.dX sz bytes zs l c) K↔KO (bq t H (.dX sz bytes zs l c)) t ds K:=cz rfl
@[simp ↓] theorem aqu (sz:Nat) (x:Arg) (lo hi mx:Option Arg):jX tab ⟨t,ds,H⟩ (.slice sz x lo hi mx) K↔KO (bq t H (.slice sz x lo hi mx)) t ds K:=cz rfl
@[simp ↓] theorem apt (off:Nat) (x:Arg):jX tab ⟨t,ds,H⟩ (.aO off x) K↔KO (bq t H (.aO off x)) t ds K:=cz rfl
@[simp ↓] theorem aqr (off:Nat) (n:Option Nat) (x:Arg):jX tab ⟨t,ds,H⟩ (.field off n x) K↔KO (bq t H (.field off n x)) t ds K:=cz rfl
@[simp ↓] theorem apv (sz:Nat) (b:Option Nat) (x i:Arg):jX tab ⟨t,ds,H⟩ (.bE sz b x i) K↔KO (bq t H (.bE sz b x i)) t ds K:=cz rfl
@[simp ↓] theorem ami (x:Arg) (i:Nat):jX tab ⟨t,ds,H⟩ (.extract x i) K↔KO (bq t H (.extract x i)) t ds K:=cz rfl
@[simp ↓] theorem atu (x:Arg):jX tab ⟨t,ds,H⟩ (.len x) K↔KO (bq t H (.len x)) t ds K:=cz rfl
@[simp ↓] theorem ats (x:Arg):jX tab ⟨t,ds,H⟩ (.cap x) K↔KO (bq t H (.cap x)) t ds K:=cz rfl
@[simp ↓] theorem apr (sz bytes:Nat) (x y:Arg):jX tab ⟨t,ds,H⟩ (.append sz bytes x y) K↔KO (bq t H (.append sz bytes x y)) t ds K:=cz rfl
@[simp ↓] theorem asy (lo:Bool) (xs:List Arg):jX tab ⟨t,ds,H⟩ (.gQ lo xs) K↔KO (bq t H (.gQ lo xs)) t ds K:=cz rfl
@[simp ↓] theorem asv (sz bytes:Nat) (zs:List FC) (x n:Arg):jX tab ⟨t,ds,H⟩ (.lO sz bytes zs x n) K↔KO (bq t H (.lO sz bytes zs x n)) t ds K:=cz rfl
@[simp ↓] theorem aqq (sz:Nat) (zs:List FC) (x:Arg):jX tab ⟨t,ds,H⟩ (.clear sz zs x) K↔KO (bq t H (.clear sz zs x)) t ds K:=cz rfl
@[simp ↓] theorem apu (sz:Nat) (zs:List FC) (len:Nat) (b:List (Nat × Arg)):jX tab ⟨t,ds,H⟩ (.fP sz zs len b) K↔KO (bq t H (.fP sz zs len b)) t ds K:=cz rfl
@[simp ↓] theorem asz (f:Nat) (xs:List Arg):jX tab ⟨t,ds,H⟩ (.nq f xs) K↔KO (bq t H (.nq f xs)) t ds K:=cz rfl
@[simp ↓] theorem asw (f:Nat) (args:List Arg):jX tab ⟨t,ds,H⟩ (.call f args ag) K ↔
  KC tab (bj (cD deep H) (dC t args)) f t ds ((dC t args).foldl (mkV deep) H) K:=by
 simp only [jX,KC,KP];constructor
 ·intro h;rw [aY (by simp)]at h;obtain⟨b,r,d,g,j⟩:=h;exact⟨b,d,r,g,j⟩
 ·rintro⟨b,d,r,g,j⟩;rw [aY (by simp)];exact⟨b,r,d,g,j⟩
@[simp ↓] theorem aqp (f:Nat) (args:List Arg):jX tab ⟨t,ds,H⟩ (.call f args ae) K↔KD tab (aa (.fn f,dC t args)) t ds H K:=by simp [jX,KD,KE]
@[simp ↓] theorem aqo (x:Arg) (args:List Arg) (h:Bool):jX tab ⟨t,ds,H⟩ (.cj x args h) K↔KD tab (bX (x.ev t) (dC t args)) t ds H K:=by
 simp only [jX,KD,KE];constructor
 ·rintro⟨c,as,r,H',b,d,g⟩;exact⟨(c,as),b,r,H',d,g⟩
 ·rintro⟨⟨c,as⟩,b,r,H',d,g⟩;exact⟨c,as,r,H',b,d,g⟩
end
def DC:V→Option Bool
 | .c (.f (.bool b))=>aa b| _=>ab
@[simp] theorem aqc (b:Bool):DC (.c (.f (.bool b)))=aa b:=rfl
section
variable{t:T}{H:aj}
@[simp] theorem au3 (x:Arg):bq t H (.aZ x)=aa (x.ev t,H):=rfl
@[simp] theorem au4 (o:Os) (sz:Nat):bq t H (.pre o sz)=if o=.loc∨sz=0 then ab else aa (.c (.sl H.length 0 0 0 0 sz),H++[.cf sz [] 0 0 o]):=rfl
@[simp] theorem auI (c x y:Arg):bq t H (.pick c x y)=(DC (c.ev t)).map fun b=>(if b then x.ev t else y.ev t,H):=by
 simp only [bq,DC];split
 ·rename_i b h;simp only [h];cases b<;>rfl
 ·rename_i h;split
  ·rename_i b d;exact absurd d (h b)
  ·rfl
@[simp] theorem atD (zs:List FC):bq t H (.alloc zs)=aa (.c (.ptr H.length 0 0),H++[.box (zs.map .f) 0]):=rfl
@[simp] theorem auZ (x:Arg):bq t H (.box x)=(x.ev t).cells?.map fun xs=>(.c (.ptr H.length 0 0),H++[.box xs 0]):=by
 simp only [bq];cases (x.ev t).cells?<;>rfl
@[simp] theorem atE (zs:List FC) (ps:List (Nat × Nat × Arg)):bq t H (.build zs ps)=(dK t (zs.map .f) ps).map fun cs=>(.a cs,H):=rfl
@[simp] theorem asY (sz:Nat) (zs:List FC) (n:Nat) (ps:List (Nat × Arg)):bq t H (.bK sz zs n ps) =
  if n=0 then(if ps.isEmpty then aa (.c (.f .es),H)else ab)else
  (dK t ((cF n zs).map .f) (ps.map fun p=>(p.1*sz,sz,p.2))).map fun cs=>(.c (.sl H.length 0 n n 0 sz),H++[.box cs 0]):=rfl
@[simp] theorem auE (n:Option Nat) (x:Arg):bq t H (.load n x)=(aR H n (x.ev t)).map (·,H):=rfl
def Au(H:aj)(n:Nat)(x y:V):Option aj:=
 match x,y.cells? with
 | .c p,aa xs=>if xs.length=n then cX H p xs else ab| _,_=>ab
@[simp] theorem atL (n:Nat) (x y:Arg):bq t H (.store n x y)=(Au H n (x.ev t) (y.ev t)).map (.top,·):=by
 simp only [bq,Au];cases x.ev t with
 | c p=>cases (y.ev t).cells? with
  | none=>rfl| some xs=>by_cases h:xs.length=n<;>simp [h]
 | _=>rfl
@[simp] theorem asO (n:Nat) (p:C) (y:V):Au H n (.c p) y=y.cells?.bind fun xs=>if xs.length=n then cX H p xs else ab:=by
 simp only [Au];cases y.cells?<;>rfl
@[simp] theorem auY (op:BinOp) (x y:Arg):bq t H (.bin op x y)=(dq op (x.ev t) (y.ev t)).map (·,H):=rfl
@[simp] theorem avf (neg:Bool) (k:Fj) (x y:Arg):bq t H (.eq neg k x y)=(DN H k (x.ev t) (y.ev t)).map fun b=>(vb (if neg then !b else b),H):=rfl
@[simp] theorem avg (op:UnOp) (x:Arg):bq t H (.un op x)=(unV op (x.ev t)).map (·,H):=rfl
def aoL(k:IntKind):V→Option V
 | .c (.f (.int _ n))=>aa (.c (.f (.int k (k.wrap n))))| _=>ab
@[simp] theorem at3 (k j:IntKind) (n:Int):aoL k (.c (.f (.int j n)))=aa (.c (.f (.int k (k.wrap n)))):=rfl
@[simp] theorem au1 (k:IntKind) (x:Arg):bq t H (.fT k x)=(aoL k (x.ev t)).map (·,H):=by
 simp only [bq,aoL];split
 ·rename_i h;simp only [h];rfl
 ·rename_i h;split
  ·rename_i b;exact absurd b (h _ _)
  ·rfl
@[simp] theorem auH (f:Nat) (b:List Arg):bq t H (.fR f b)=(bj mU (dC t b)).map fun xs=>(.c (.cl f xs),H):=rfl
@[simp] theorem auG (f:Nat) (b:List Arg):bq t H (.nq f b)=(bj mU (dC t b)).map fun xs=>(.c (.bm f xs),H):=rfl
@[simp] theorem atJ (sz:Nat) (x:Arg) (lo hi mx:Option Arg):bq t H (.slice sz x lo hi mx)=(dW H sz (x.ev t) (lo.map (·.ev t)) (hi.map (·.ev t)) (mx.map (·.ev t))).map (·,H):=rfl
@[simp] theorem as0 (sz:Nat) (zs:List FC) (n:Nat) (ps:List (Nat × Arg)):bq t H (.fP sz zs n ps)=((dK t ((cF n zs).map .f) (ps.map fun p=>(p.1*sz,sz,p.2))).bind fun cs=>if n=0 then ab else fcL cs).map fun b=>(.c (.f (.fs b n)),H):=rfl
@[simp] theorem auJ (sz:Nat) (x hi mx:Arg):bq t H (.wg sz x hi mx)=CM H sz (x.ev t) (hi.ev t) (mx.ev t):=rfl
@[simp] theorem atH (n sz:Nat) (x:Arg) (lo hi mx:Option Arg):bq t H (.nB n sz x lo hi mx)=(kH H n sz (x.ev t) (lo.map (·.ev t)) (hi.map (·.ev t)) (mx.map (·.ev t))).map (·,H):=rfl
@[simp] theorem atK (x:Arg) (lo hi:Option Arg):bq t H (.oK x lo hi)=(wj (x.ev t) (lo.map (·.ev t)) (hi.map (·.ev t))).map (·,H):=rfl
@[simp] theorem asZ (o:Nat) (x:Arg):bq t H (.aO o x)=(jq o (x.ev t)).map (·,H):=rfl
@[simp] theorem atG (o:Nat) (n:Option Nat) (x:Arg):bq t H (.field o n x)=(iX o n (x.ev t)).map (·,H):=rfl
@[simp] theorem as1 (sz:Nat) (b:Option Nat) (x i:Arg):bq t H (.bE sz b x i)=(bH H sz b (x.ev t) (i.ev t)).map (·,H):=rfl
@[simp] theorem auC (x i:Arg):bq t H (.idxs x i)=(BL (x.ev t) (i.ev t)).map (·,H):=rfl
@[simp] theorem auB (len sz:Nat) (n:Option Nat) (x i:Arg):bq t H (.wW len sz n x i)=(BK len sz n (x.ev t) (i.ev t)).map (·,H):=rfl
def cOf:V→Option C
 | .c x=>aa x| _=>ab
@[simp] theorem auS (x:C):cOf (.c x)=aa x:=rfl
@[simp] theorem au2 (x:Arg):bq t H (.len x)=((cOf (x.ev t)).bind (bu H)).map fun n=>(vi (n:Nat),H):=by
 simp only [bq,cOf];cases x.ev t with
 | c y=>simp only [avS];cases bu H y<;>rfl
 | _=>rfl
@[simp] theorem au0 (x:Arg):bq t H (.cap x)=((cOf (x.ev t)).bind (jh H)).map fun n=>(vi (n:Nat),H):=by
 simp only [bq,cOf];cases x.ev t with
 | c y=>simp only [avS];cases jh H y<;>rfl
 | _=>rfl
def strOf:V→Option ByteArray
 | .c (.f (.str s))=>aa s| _=>ab
@[simp] theorem aty (s:ByteArray):strOf (.c (.f (.str s)))=aa s:=rfl
@[simp] theorem auD (n:Nat):bq t H (.ou n)=aa (vi (n:Nat),H):=rfl
@[simp] theorem asX (sz bytes:Nat) (x y:Arg):bq t H (.append sz bytes x y)=cH H sz bytes (x.ev t) (y.ev t):=rfl
@[simp] theorem auA (sz:Nat) (x y:Arg):bq t H (.copy sz x y)=copyV H sz (x.ev t) (y.ev t):=rfl
@[simp] theorem auF (lo:Bool) (xs:List Arg):bq t H (.gQ lo xs)=(xc lo (dC t xs)).map (·,H):=rfl
def tOf:V→Option (List V)
 | .t b=>aa b| _=>ab
@[simp] theorem auX (b:List V):tOf (.t b)=aa b:=rfl
@[simp] theorem aqz (x:Arg) (i:Nat):bq t H (.extract x i)=(tOf (x.ev t)).bind fun d=>d[i]?.map (·,H):=by
 simp only [bq,tOf];split
 ·rename_i h;simp only [h];rfl
 ·rename_i h;split
  ·rename_i b;exact absurd b (h _)
  ·rfl
def uc:V→Option V
 | .c (.ptr b o e)=>aa (.c (.ptr b o e))| .c (.f (.fp cs o))=>aa (.c (.f (.fp cs o)))| _=>ab
@[simp] theorem apn (b o e:Nat):uc (.c (.ptr b o e))=aa (.c (.ptr b o e)):=rfl
@[simp] theorem aql (cs:List FC) (o:Nat):uc (.c (.f (.fp cs o)))=aa (.c (.f (.fp cs o))):=rfl
@[simp] theorem as2 (x:Arg):bq t H (.bR x)=(uc (x.ev t)).map (·,H):=by
 simp only [bq,uc];split
 ·rename_i h;simp only [h];rfl
 ·rename_i h;simp only [h];rfl
 ·rename_i b d;split
  ·rename_i h;exact absurd h (b _ _ _)
  ·rename_i h;exact absurd h (d _ _)
  ·rfl
@[simp] theorem aqf (f:Nat) (b:List FC) (args:List V):bX (.c (.f (.fn f b))) args=aa (.fn f,args++b.map fun x=>.c (.f x)):=rfl
@[simp] theorem aqe (f:Nat) (b:List C) (args:List V):bX (.c (.cl f b)) args=aa (.fn f,args++b.map .c):=rfl
@[simp] theorem aqd (f:Nat) (first:List C) (args:List V):bX (.c (.bm f first)) args=aa (.fn f,first.map .c++args):=rfl
end
section
variable{k:IntKind}{a b:Int}{H:aj}
@[simp] theorem as7:dq .add (.c (.f (.int k a))) (.c (.f (.int k b)))=aa (.c (.f (.int k (k.wrap (a+b))))):=by simp [dq,oi,V.int]
@[simp] theorem ate:dq .sub (.c (.f (.int k a))) (.c (.f (.int k b)))=aa (.c (.f (.int k (k.wrap (a-b))))):=by simp [dq,oi,V.int]
@[simp] theorem atc:dq .mul (.c (.f (.int k a))) (.c (.f (.int k b)))=aa (.c (.f (.int k (k.wrap (a*b))))):=by simp [dq,oi,V.int]
theorem tO(h:b≠0):dq .quo (.c (.f (.int k a))) (.c (.f (.int k b)))=aa (.c (.f (.int k (k.wrap (a.tdiv b))))):=by simp [dq,oi,V.int,h]
theorem iB(h:b≠0):dq .rem (.c (.f (.int k a))) (.c (.f (.int k b)))=aa (.c (.f (.int k (a.tmod b)))):=by simp [dq,oi,V.int,h]
@[simp] theorem as8:dq .eql (.c (.f (.int k a))) (.c (.f (.int k b)))=aa (vb (decide (a=b))):=by simp [dq,oi,V.bool];rfl
@[simp] theorem atd:dq .neq (.c (.f (.int k a))) (.c (.f (.int k b)))=aa (vb (!decide (a=b))):=by simp [dq,oi,V.bool];rfl
@[simp] theorem atb:dq .lss (.c (.f (.int k a))) (.c (.f (.int k b)))=aa (vb (decide (a<b))):=by simp [dq,oi,V.bool]
@[simp] theorem ata:dq .leq (.c (.f (.int k a))) (.c (.f (.int k b)))=aa (vb (decide (a≤b))):=by simp [dq,oi,V.bool]
@[simp] theorem as_:dq .gtr (.c (.f (.int k a))) (.c (.f (.int k b)))=aa (vb (decide (b<a))):=by simp [dq,oi,V.bool]
@[simp] theorem as9:dq .geq (.c (.f (.int k a))) (.c (.f (.int k b)))=aa (vb (decide (b≤a))):=by simp [dq,oi,V.bool]
@[simp] theorem arY {x y:Bool}:Qm .bool (.f (.bool x)) (.f (.bool y))=aa (x == y):=rfl
@[simp] theorem atj:Qm .int (.f (.int k a)) (.f (.int k b))=aa (a == b):=by simp [Qm]
@[simp] theorem atk {x y:ByteArray}:Qm .str (.f (.str x)) (.f (.str y))=aa (x == y):=rfl
@[simp] theorem ati:rF [] [] []=aa ae:=rfl
@[simp] theorem arX {q:CK} {qs:List CK} {x y:C} {xs ys:List C}:rF (q::qs) (x::xs) (y::ys)=(Qm q x y).bind fun c=>(rF qs xs ys).map fun d=>c&&d:=by
 simp only [rF];cases Qm q x y<;>cases rF qs xs ys<;>rfl
@[simp] theorem arZ {x y:Bool}:DN H .bool (.c (.f (.bool x))) (.c (.f (.bool y)))=aa (x == y):=rfl
@[simp] theorem at6 {b:List CK} {xs ys:List C}:DN H (.st b) (.a xs) (.a ys)=rF b xs ys:=rfl
@[simp] theorem auz {x:Bool}:unV .not (.c (.f (.bool x)))=aa (vb (!x)):=rfl
@[simp] theorem aoT {o c o' ep:Nat}:jq o (.c (.ptr c o' ep))=aa (.c (.ptr c (o'+o) ep)):=rfl
@[simp] theorem aqh {o o':Nat} {cs:List FC}:jq o (.c (.f (.fp cs o')))=aa (.c (.f (.fp cs (o'+o)))):=rfl
@[simp] theorem ath {x:C}:(V.c x).cells?=aa [x]:=rfl
@[simp] theorem atg {xs:List C}:(V.a xs).cells?=aa xs:=rfl
@[simp] theorem au7 {n:Nat} {x:FC}:ey n H (.f x)=aa x:=by cases n<;>rfl
@[simp] theorem auU {n:Nat} {x:C}:cD n H (.c x)=(ey n H x).map fun y=>.c (.f y):=rfl
@[simp] theorem auW {n f:Nat} {b:List C}:ey (n+1) H (.cl f b)=(bj (ey n H) b).map (.fn f):=rfl
@[simp] theorem at7 {n b o e:Nat}:ey (n+1) H (.ptr b o e)=match H[b]? with
  | some (.box cs _)=>(bj (ey n H) cs).map (.fp · o)| _=>ab:=rfl
theorem mD{n b o l c ep sz:Nat}:ey (n+1) H (.sl b o l c ep sz)=match H[b]? with
  | some (.box cs _)=>if o+l*sz≤cs.length then(bj (ey n H) ((cs.drop o).take (l*sz))).map (.fs · l)else ab| some (.cf s cs _ e .loc)=>if ep=e∧sz=s∧o+l*sz≤cs.length then(bj (ey n H) ((cs.drop o).take (l*sz))).map (.fs · l)else ab| some (.cf s _ _ e .nil)=>if ep=e∧sz=s then aa .az else ab| some (.cf s _ _ e .es)=>if ep=e∧sz=s then aa .es else ab| _=>ab:=rfl
theorem zZ{n b o e:Nat}:gF (n+1) (.ptr b o e) H=match H[b]? with
  | some (.box cs fl)=>cs.foldl (fun H x=>gF n x H) (H.set b (.box cs (Nat.max fl cs.length)))
  | _=>H:=rfl
theorem qW{n b o l c e sz:Nat}:gF (n+1) (.sl b o l c e sz) H=match H[b]? with
  | some (.box cs fl)=>((cs.drop o).take (l*sz)).foldl (fun H x=>gF n x H) (H.set b (.box cs (Nat.max fl (o+l*sz))))
  | some (.cf s cs fl e d)=>((cs.drop o).take (l*sz)).foldl (fun H x=>gF n x H) (H.set b (.cf s cs (Nat.max fl (o+l*sz)) e d))
  | _=>H:=rfl
theorem Ge{n f:Nat}{b:List C}:gF (n+1) (.cl f b) H=b.foldl (fun H x=>gF n x H) H:=rfl
@[simp] theorem avd {n:Nat} {x:C}:mkV n H (.c x)=gF n x H:=rfl
@[simp] theorem auV {n:Nat} {x:C}:iU n H (.c x)=(ey n H x).map fun y=>.c (.f y):=rfl
theorem sI{n:Nat}:∀(xs:List FC),bj (ey n H) (xs.map .f)=aa xs
 | []=>rfl| x::xs=>by simp [bj,sI xs]
@[simp] theorem auT {n:Nat} {xs:List C}:cD n H (.a xs)=(bj (ey n H) xs).map fun ys=>.a (ys.map .f):=rfl
@[simp] theorem atn {n:Nat} (xs:List FC):bj (ey n H) (xs.map .f)=aa xs:=sI xs
@[simp] theorem avc {n:Nat} {xs:List C}:mkV n H (.a xs)=xs.foldl (fun H x=>gF n x H) H:=rfl
@[simp] theorem amh {n:Nat} {x:FC}:gF n (.f x) H=H:=by cases n<;>rfl
@[simp] theorem aqj {n:Nat} (xs:List FC):(xs.map C.f).foldl (fun H x=>gF n x H) H=H:=by
 induction xs with
 | nil=>rfl| cons x xs b=>simp only [avl,awA];rw [amh];exact b
end
theorem wrap64{n:Int}(b:-9223372036854775808≤n)(d:n≤9223372036854775807):IntKind.wrap .i64 n=n:=by
 simp only [IntKind.wrap,IntKind.bits,IntKind.signed];simp;omega
theorem aW{n:Int}(b:-9223372036854775808≤n:=by omega)(d:n≤9223372036854775807:=by omega):IntKind.wrap .i64 n=n:=wrap64 b d
@[simp] theorem cast_eq (a b:Nat):((a:Int)=(b:Int))=(a=b):=propext Int.natCast_inj
@[simp] theorem asp {b d:Type} (g:b→Option d):bj g []=aa []:=rfl
@[simp] theorem aqk {b d:Type} (g:b→Option d) (x:b) (xs:List b):bj g (x::xs)=(g x).bind fun y=>(bj g xs).map (y::·):=by
 simp only [bj];cases g x<;>cases bj g xs<;>simp
@[simp] theorem atz (x:C) (xs:List C):aV ab (x::xs)=aa (.c x):=rfl
@[simp] theorem atA (n:Nat) (xs:List C):aV (aa n) xs=if n≤xs.length then aa (.a (xs.take n))else ab:=rfl
@[simp] theorem aw (H:aj) (n:Option Nat) (b o ep:Nat):aR H n (.c (.ptr b o ep))=match H[b]? with
  | some (.box cs _)=>aV n (cs.drop o)| some (.cf _ cs _ e .loc)=>if ep=e then aV n (cs.drop o)else ab| _=>ab:=by
 simp only [aR,aE];split
 ·rename_i h;simp only [h];rfl
 ·rename_i h;simp only [h];split<;>rfl
 ·rename_i d g;split
  ·rename_i h;exact absurd h (d _ _)
  ·rename_i h;exact absurd h (g _ _ _ _)
  ·rfl
theorem oG(H:aj)(n:Option Nat)(cs:List FC)(o:Nat):aR H n (.c (.f (.fp cs o)))=aV n ((cs.drop o).map .f):=rfl
@[simp] theorem bh (H:aj) (b o ep:Nat) (xs:List C):cX H (.ptr b o ep) xs=match H[b]? with
  | some (.box cs fl)=>if fl≤o∧o+xs.length≤cs.length then aa (H.set b (.box (over cs o xs) fl))else ab| some (.cf sz cs fl e .loc)=>if ep=e∧fl≤o∧o+xs.length≤cs.length then aa (H.set b (.cf sz (over cs o xs) fl e .loc))else ab| _=>ab:=rfl
attribute [simp] over cF
@[simp] theorem apB (t:T) (cs:List C):dK t cs []=aa cs:=rfl
@[simp] theorem amk (t:T) (cs:List C) (o n:Nat) (x:Arg) (ps:List (Nat × Nat × Arg)):dK t cs ((o,n,x)::ps)=(x.ev t).cells?.bind fun xs=>if xs.length=n∧o+xs.length≤cs.length then dK t (over cs o xs) ps else ab:=by
 simp only [dK];cases (x.ev t).cells?<;>rfl
@[simp] theorem at1 (x:FC):mU (.c (.f x))=aa (.f x):=rfl
@[simp] theorem arV (b o e:Nat):mU (.c (.ptr b o e))=aa (.ptr b o e):=rfl
@[simp] theorem atf (b o l c e s:Nat):mU (.c (.sl b o l c e s))=aa (.sl b o l c e s):=rfl
def ap8:V→Option V
 | .t _=>ab| v=>aa v
@[simp] theorem auy (x:C):ap8 (.c x)=aa (.c x):=rfl
@[simp] theorem auw (x:List C):ap8 (.a x)=aa (.a x):=rfl
@[simp] theorem atw (t:T) (H:aj) (n:Nat):cA t H (.tmp (P.nat n))=ap8 (t.g n):=by
 simp only [cA,aj6];cases t.g n<;>rfl
@[simp] theorem asG (t:T) (H:aj) (n:Nat) (k:Option Nat):cA t H (.cell (P.nat n) k)=aR H k (t.g n):=rfl
@[simp] theorem atl {t:T} {H:aj} {x:gH} {r:V}:tD [x] r ⟨t,[],H⟩↔∃ b,cA t H x=aa b∧iU deep H b=aa r:=by
 simp only [tD,results,true_and,bj];cases cA t H x<;>simp
@[simp] theorem atm {t:T} {H:aj} {x y:gH} {a b:V}:tD [x,y] (.t [a,b]) ⟨t,[],H⟩ ↔
  (∃ d,cA t H x=aa d∧cD deep H d=aa a)∧∃ d,cA t H y=aa d∧cD deep H d=aa b:=by
 simp only [tD,results,true_and,bj];cases cA t H x with
 | none=>simp
 | some u=>cases cA t H y with
  | none=>simp| some w=>cases g:cD deep H u<;>cases j:cD deep H w<;>simp [iU,g,j]
@[simp] theorem aqi {t:T} {H:aj} {x y z:gH} {a b c:V}:tD [x,y,z] (.t [a,b,c]) ⟨t,[],H⟩ ↔
  (∃ d,cA t H x=aa d∧cD deep H d=aa a)∧(∃ d,cA t H y=aa d∧cD deep H d=aa b)∧∃ d,cA t H z=aa d∧cD deep H d=aa c:=by
 simp only [tD,results,true_and,bj];cases cA t H x with
 | none=>simp
 | some u=>cases cA t H y with
  | none=>simp
  | some w=>cases cA t H z with
   | none=>simp| some q=>cases g:cD deep H u<;>cases j:cD deep H w<;>cases l:cD deep H q<;>simp [iU,g,j,l]
inductive Tg where | nil | es | fs
 deriving DecidableEq
def Tg.fc:Tg→FC
 | .nil=>.az| .es=>.es| .fs=>.fs [] 0
def sl(g:Tg)(rows:List (List FC)):FC:=if rows.isEmpty then g.fc else .fs rows.flatten rows.length
def cu(sz:Nat)(rows:List (List FC)):Prop:=∀ r ∈ rows,r.length=sz
theorem bY{sz:Nat}:∀ {rows:List (List FC)},cu sz rows→rows.flatten.length=rows.length*sz
 | [],_=>by simp
 | r::rows,h=>by
  have:=bY (rows:=rows) fun x b=>h x (aul _ b);simp only [avD,api,avB,this,h r atI,avM,aw8];omega
theorem si{sz:Nat}:∀ {rows:List (List FC)} (j:Nat),cu sz rows→rows.flatten.drop (j*sz)=(rows.drop j).flatten
 | rows,0,_=>by simp
 | [],j+1,_=>by simp
 | r::rows,j+1,h=>by
  have b:=h r atI;have:=si (rows:=rows) j fun x d=>h x (aul _ d);rw [avD,List.drop_succ_cons,←this,avM,aw8,List.drop_append,b];simp [b,show j*sz+sz-sz=j*sz by omega]
theorem sV{sz:Nat}:∀ {rows:List (List FC)} (j:Nat),cu sz rows→rows.flatten.take (j*sz)=(rows.take j).flatten
 | rows,0,_=>by simp
 | [],j+1,_=>by simp
 | r::rows,j+1,h=>by
  have b:=h r atI;have:=sV (rows:=rows) j fun x d=>h x (aul _ d);rw [avD,aw3,avD,←this,avM,aw8,List.take_append,b];simp [b,show j*sz+sz-sz=j*sz by omega];rw [avj (by omega)]
theorem cu.map{b:Type}{sz:Nat}{l:List b}{g:b→List FC}(h:∀ x,(g x).length=sz):cu sz (l.map g):=fun r hr=>by
 obtain⟨x,_,rfl⟩:=avx.1 hr;exact h x
theorem uV{sz j k:Nat}{rows:List (List FC)}{row:List FC}(d:cu sz rows)(b:rows[j]?=aa row)(l:k≤sz) :
  rows.flatten.drop (j*sz+k)=row.drop k++(rows.drop (j+1)).flatten:=by
 have g:j<rows.length:=(BY.1 b).1;have m:row.length=sz:=d row (avo b);rw [←awi,si j d,auR g,avD];have:rows[j]=row:=by simpa [By g]using b
 rw [this,List.drop_append,show k-row.length=0 by omega];simp
variable{H:aj}
theorem gq{sz j k:Nat}{rows:List (List FC)}{row:List FC}{x:FC}(b:cu sz rows)(d:rows[j]?=aa row)(l:row[k]?=aa x) :
  aR H ab (.c (.f (.fp rows.flatten (j*sz+k))))=aa (.c (.f x)):=by
 have m:row.length=sz:=b row (avo d);have g:k<row.length:=(BY.1 l).1;have e:=uV (k:=k) b d (by omega);simp only [aR,aE,avS,e];rw [auR g];have:row[k]=x:=by simpa [By g]using l
 simp [aV,this]
theorem F'{sz j k n:Nat}{rows:List (List FC)}{row:List FC}(b:cu sz rows)(d:rows[j]?=aa row)(g:k+n≤sz) :
  aR H (aa n) (.c (.f (.fp rows.flatten (j*sz+k))))=aa (.a (((row.drop k).take n).map .f)):=by
 have l:row.length=sz:=b row (avo d);have e:=uV (k:=k) b d (by omega);simp only [aR,aE,avS,e];simp only [aV];rw [bf (by simp only [avi,api,avp];omega)];rw [awb,avF (by simp only [avi,avp];omega),List.map_take]
theorem bL{sz j:Nat}{rows:List (List FC)}{row:List FC}(b:cu sz rows)(d:rows[j]?=aa row) :
  aR H (aa sz) (.c (.f (.fp rows.flatten (j*sz))))=aa (.a (row.map .f)):=by
 have g:row.length=sz:=b row (avo d);have:=F' (H:=H) (k:=0) (n:=sz) b d (by omega);simp only [awL,awj]at this;rw [this,avj (by omega)]
theorem mc{sz j:Nat}{rows:List (List FC)}{row:List FC}{x:FC}(b:cu sz rows)(d:rows[j]?=aa row)(g:row[0]?=aa x) :
  aR H ab (.c (.f (.fp rows.flatten (j*sz))))=aa (.c (.f x)):=gq (k:=0) b d g
theorem akp{j:Nat}{l:List Int}{x:Int}(b:l[j]?=aa x) :
  aR H ab (.c (.f (.fp (l.map fun n=>[fi n]).flatten (j*1))))=aa (vi x):=
 mc (row:=[fi x]) (cu.map fun _=>rfl) (by rw [avR,b];rfl) rfl
@[simp] theorem D3 (g:Tg) (rows:List (List FC)):bu H (.f (sl g rows))=aa rows.length:=by
 cases rows with
 | nil=>cases g<;>rfl
 | cons r rows=>rfl
theorem bl{g:Tg}{rows:List (List FC)}{sz:Nat}{k:IntKind}{i:Int}(h0:0≤i)(b:i<rows.length) :
  bH H sz ab (.c (.f (sl g rows))) (.c (.f (.int k i)))=aa (.c (.f (.fp rows.flatten (i.toNat*sz)))):=by
 cases rows with
 | nil=>simp at b;omega
 | cons r rows=>
  simp only [avB]at b;simp [bH,ir,sl,h0];omega
theorem Br{g:Tg}{rows:List (List FC)}{sz:Nat}(b:cu sz rows):cP H sz (.f (sl g rows))=aa (rows.flatten.map .f):=by
 cases rows with
 | nil=>cases g<;>simp [sl,Tg.fc,cP]
 | cons r rows=>
  have:=bY b;simp only [sl,aw7,avk,if_false,cP,this,if_true]
end
section
open Go
def Kf(tab:TB)(f:Nat)(args:List V)(r:V):Prop:=∀ H,∃ J,Ev tab (.fn f) args H r (H++J)
section
variable{tab:TB}{f:Nat}{args:List V}{r:V}
theorem Kf.pure{x:FC}(h:Kf tab f args (.c (.f x))):bg tab f args (.c (.f x)):=by
 obtain⟨J,h⟩:=h [];exact⟨_,_,h,by simp⟩
theorem Kf.eq{x:FC}(h:Kf tab f args (.c (.f x))):bg tab f args=Eq (.c (.f x)):=
 funext fun r=>propext ⟨fun k=>h.pure.det k,fun e=>e▸h.pure⟩
theorem bg.eq{r:V}(h:bg tab f args r):bg tab f args=Eq r:=funext fun _=>propext ⟨fun k=>h.det k,fun e=>e▸h⟩
noncomputable def aki (tab:TB) (f:Nat) (args:List V) (H:aj):aj:=Classical.epsilon fun J=>∃ r,Ev tab (.fn f) args H r (H++J)
theorem Kf.ev(h:Kf tab f args r)(H:aj):Ev tab (.fn f) args H=E2 r (H++aki tab f args H):=by
 have j:∃ J,∃ r,Ev tab (.fn f) args H r (H++J):=by obtain⟨J,b⟩:=h H;exact⟨J,r,b⟩
 have l:∃ r,Ev tab (.fn f) args H r (H++aki tab f args H):=Classical.epsilon_spec j;obtain⟨J,b⟩:=h H;obtain⟨r',hr⟩:=l;obtain⟨rfl,e⟩:=b.det hr;funext x H';exact propext ⟨fun k=>hr.det k,fun⟨d,g⟩=>d▸g▸hr⟩
theorem Ev.eq{c:Callee}{H H':aj}(h:Ev tab c args H r H'):Ev tab c args H=E2 r H':=funext fun _=>funext fun _=>propext ⟨fun k=>h.det k,fun⟨b,d⟩=>b▸d▸h⟩
theorem Kf.Ey{xs:List FC}(h:Kf tab f args (.a (xs.map .f))):bg tab f args (.a (xs.map .f)):=by
 obtain⟨J,h⟩:=h [];exact⟨_,_,h,by simp [iU]⟩
def ajz(res:List gH)(r:V)(H:aj)(s:St):Prop:=s.defs=[]∧results s.aD s.heap res=aa r∧∃ J,s.heap=H++J
theorem cr{ps:List P}{res:List gH}{body:aG}(x:tab f=aa ⟨ps,res,body⟩)(v:args.length=ps.length)
  (h:∀(H:aj) (Q:Option aG→St→Prop),(∀ j s,ajz res r H s→Q j s)→WP tab f ab [.code body] ⟨cN ps args .e,[],H⟩ Q):Kf tab f args r:=by
 intro H;have b:=h H (fun _ s=>ajz res r H s) fun _ _ h=>h;obtain⟨n,m,d,j,s,g,u,l,J,q⟩:=b;exact⟨J,tc x v ⟨n,m,d,j,s,g,0,0,s.heap,by rw [u];rfl,by rw [l],q⟩⟩
@[simp] theorem ar3 {t:T} {H H':aj} {x:gH}:ajz [x] r H ⟨t,[],H'⟩↔cA t H' x=aa r∧∃ J,H'=H++J:=by
 simp only [ajz,results,true_and,bj];cases cA t H' x<;>simp
theorem re{m d:Nat}{x:V}(h:((CF tab m d (.fn f) args []).bind fun p=>iU deep p.2 p.1)=aa x):bg tab f args x:=by
 rw [avy]at h;obtain⟨⟨r,H'⟩,b,g⟩:=h;exact⟨r,H',⟨m,d,b⟩,g⟩
theorem ave{tab:TB}{f:Nat}{args:List V}{x:V}(h:((CF tab 60 10 (.fn f) args []).bind fun p=>iU deep p.2 p.1)=aa x):bg tab f args=Eq x:=bg.eq (re h)
theorem dY{S:V→Prop}{ps:List P}{res:List gH}{body:aG}(y:tab f=aa ⟨ps,res,body⟩)(v:args.length=ps.length)
  (h:∀ Q:Option aG→St→Prop,(∀ j s r,S r→tD res r s→Q j s)→WP tab f ab [.code body] ⟨cN ps args .e,[],[]⟩ Q):∃ r,S r∧bg tab f args r:=by
 have l:=h (fun _ s=>∃ r,S r∧tD res r s) fun _ _ r b g=>⟨r,b,g⟩
 obtain⟨n,m,d,j,s,b,r,x,u,z,g,q⟩:=l;exact⟨r,x,z,s.heap,tc y v ⟨n,m,d,j,s,b,0,0,s.heap,by rw [u];rfl,g,rfl⟩,q⟩
variable{fn i:Nat}{ro:Option Nat}{k:List da}{ds:List dQ}{Q:Option aG→St→Prop}
def tI(a x:Nat):aG:=.region [⟨D x,.bin .add (R a) (.k (.c (.f (.int .i64 1)))),ab⟩,⟨D a,.aZ (R x),ab⟩] []
def ja(i a b c x:Nat)(body:aG):aG:=.seq (.region [⟨D c,.bin .lss (R a) (R b),ab⟩] []) (.seq (.cond (R c) .skip (.exit i)) (.seq body (tI a x)))
def zK(i a b c x:Nat)(body:aG):aG:=.block i (.loop (ja i a b c x body))
theorem bS{a b c x:Nat}{body:aG}{t:T}{H:aj}(N:Nat)(I:Nat→T→aj→Prop)(F:N≤9223372036854775807)(y:a≠b)(A:x≠b)
  (g:t.g a=vi 0) (l:t.g b=vi N) (h0:I 0 t H)
  (step:∀ j t H,j<N→I j t H→t.g a=vi j→t.g b=vi N →
   (∀ q H',I (j+1) ((q.s x (vi (j+1:Nat))).s a (vi (j+1:Nat))) H'→q.g a=vi j→q.g b=vi N →
    WP tab fn ro (.code (tI a x)::.inLoop (ja i a b c x body)::.inBlock i::k) ⟨q,ds,H'⟩ Q) →
   WP tab fn ro (.code body::.code (tI a x)::.inLoop (ja i a b c x body)::.inBlock i::k) ⟨t.s c (vb ae),ds,H⟩ Q)
  (done:∀ t H,I N t H→t.g a=vi N→t.g b=vi N→WP tab fn ro k ⟨t.s c (vb ag),ds,H⟩ Q) :
  WP tab fn ro (.code (zK i a b c x body)::k) ⟨t,ds,H⟩ Q:=by
 have m:∀ ops:List aS,ops.all (·.op.dZ)=ae→ro=ab∨ops.all (·.op.dZ)=ae:=fun _ h=>.inr h;refine aF ?_;refine cI (fun n s=>∃ j t H,s=⟨t,ds,H⟩∧j≤N∧n=N-j∧I j t H∧t.g a=vi j∧t.g b=vi N) N ⟨0,t,H,rfl,by omega,by omega,h0,g,l⟩ ?_;rintro n s ⟨j,t,H,rfl,J,rfl,B,g,l⟩ E;apply an;refine aq (m _ rfl) ?_;simp [g,l];by_cases d:j<N
 ·rw [decide_eq_true d];apply an;refine au (by simp) ?_;refine aP ?_;apply an;refine step j t H d B g l fun q H' u v z=>?_;refine aq (m _ rfl) ?_;simp [v];rw [aW];refine E (N-(j+1)) _ (by omega) ⟨j+1,_,H',rfl,by omega,rfl,by simpa using u,by simp,?_⟩;simp [y,A,z]
 ·have:j=N:=by omega
  subst this;rw [decide_eq_false d];apply an;refine aB (by simp) ?_;refine bJ (k':=k) (by simp [exitTo]) ?_;exact done t H B g l
def adh(a x y:Nat):aG:=.region [⟨D x,.aZ (R a),ab⟩,⟨D y,.bin .add (R x) (.k (.c (.f (.int .i64 1)))),ab⟩,⟨D a,.aZ (R y),ab⟩] []
def Ak(i a c x y:Nat)(b:List aS)(body:aG):aG:=.seq (.seq (.region b []) (.cond (R c) .skip (.exit i))) (.seq body (adh a x y))
def acF(i a c x y:Nat)(b:List aS)(body:aG):aG:=.block i (.loop (Ak i a c x y b body))
theorem gP{a c x y:Nat}{g:List aS}{body:aG}{t:T}{H:aj}(N:Nat)(I:Nat→T→aj→Prop)(J:N≤9223372036854775807)(B:g.all (·.op.dZ)=ae)
  (d:t.g a=vi 0) (h0:I 0 t H)
  (l:∀ j t H (L:St→Prop),j≤N→I j t H→t.g a=vi j→(∀ b,I j b H→b.g a=vi j→b.g c=vb (decide ((j:Int)<(N:Int)))→L ⟨b,ds,H⟩)→wP tab g ⟨t,ds,H⟩ L)
  (step:∀ j t H,j<N→I j t H→t.g a=vi j →
   (∀ b H',I (j+1) (((b.s x (vi j)).s y (vi (j+1:Nat))).s a (vi (j+1:Nat))) H'→b.g a=vi j →
    WP tab fn ro (.code (adh a x y)::.inLoop (Ak i a c x y g body)::.inBlock i::k) ⟨b,ds,H'⟩ Q) →
   WP tab fn ro (.code body::.code (adh a x y)::.inLoop (Ak i a c x y g body)::.inBlock i::k) ⟨t,ds,H⟩ Q)
  (done:∀ t H,I N t H→t.g a=vi N→WP tab fn ro k ⟨t,ds,H⟩ Q) :
  WP tab fn ro (.code (acF i a c x y g body)::k) ⟨t,ds,H⟩ Q:=by
 have m:∀ ops:List aS,ops.all (·.op.dZ)=ae→ro=ab∨ops.all (·.op.dZ)=ae:=fun _ h=>.inr h;refine aF ?_;refine cI (fun n s=>∃ j t H,s=⟨t,ds,H⟩∧j≤N∧n=N-j∧I j t H∧t.g a=vi j) N ⟨0,t,H,rfl,by omega,by omega,h0,d⟩ ?_;rintro n s ⟨j,t,H,rfl,E,rfl,q,d⟩ F;apply an;apply an;refine aq (m _ B) ?_;refine l j t H _ E q d fun b q d u=>?_;by_cases A:j<N
 ·rw [decide_eq_true (by omega)]at u;refine au u ?_;refine aP ?_;apply an;refine step j b H A q d fun b H' v z=>?_;refine aq (m _ rfl) ?_;simp [z];rw [aW];exact F (N-(j+1)) _ (by omega) ⟨j+1,_,H',rfl,by omega,rfl,by simpa using v,by simp⟩
 ·have:j=N:=by omega
  subst this;rw [decide_eq_false (by omega)]at u;refine aB u ?_;refine bJ (k':=k) (by simp [exitTo]) ?_;exact done b H q d
end
end
section
open Go
def kz{b:Type}(l:List b)(p:b→Bool):Int:=match l.findIdx? p with | some j=>j | none=>-1
theorem Qq{b:Type}(l:List b)(p:b→Bool):decide (0≤kz l p)=l.any p:=by
 unfold kz;cases h:l.findIdx? p with
 | none=>
  rw [List.findIdx?_eq_none_iff]at h;have:l.any p=ag:=by rw [List.any_eq_false];intro x m;simp [h x m]
  simp [this]
 | some j=>
  rw [awq]at h;obtain⟨d,g,_⟩:=h;have:l.any p=ae:=by rw [List.any_eq_true];exact⟨l[j],anc d,g⟩
  simp [this]
theorem Qp{b:Type}{l:List b}{p:b→Bool}{j:Nat}(d:j<l.length)(m:p l[j]=ae)(g:∀(i:Nat) (hi:i<j),p (l[i]'(by omega))=ag):kz l p=j:=by
 have:l.findIdx? p=aa j:=by
  rw [awq];exact⟨d,m,fun i hi=>by simp [g i hi]⟩
 simp [kz,this]
theorem Qr{b:Type}{l:List b}{p:b→Bool}(d:∀(i:Nat) (hi:i<l.length),p l[i]=ag):kz l p = -1:=by
 have:l.findIdx? p=ab:=by
  rw [List.findIdx?_eq_none_iff];intro x g;obtain⟨i,hi,rfl⟩:=List.getElem_of_mem g;exact d i hi
 simp [kz,this]
def ints(l:List Int):List (List FC):=l.map fun n=>[fi n]
@[simp] theorem ase (l:List Int):(ints l).length=l.length:=by simp [ints]
theorem jP{j:Nat}{l:List Int}(b:j<l.length){H:aj}:aR H ab (.c (.f (.fp (ints l).flatten j)))=aa (vi l[j]):=by
 have:=akp (H:=H) (By b);simpa [ints]using this
variable{tab:TB}
def akc(t:List aS):aG:=.block 1 (.seq (.region [⟨D 10,.aZ (R 8),ab⟩,⟨D 5,.aZ (R 10),ab⟩] []) (.seq
 (.region t []) (.cond (R 16) (.seq (.region [⟨D 17,.aZ (R 5),ab⟩,⟨D 4,.aZ (R 17),ab⟩] []) .ret) .skip)))
def ao3(t:List aS):aL:=⟨[P.nat 0,P.nat 1],[.tmp (P.nat 4)],.seq (.region [⟨D 4,.aZ (.k (.c (.f (.int .i64 0)))),ab⟩] [])
 (.seq (.seq (.region [⟨D 6,.aZ (R 0),ab⟩,⟨D 7,.len (R 6),ab⟩,⟨D 8,.aZ (.k (.c (.f (.int .i64 0)))),ab⟩] []) (zK 0 8 7 9 18 (akc t)))
 (.seq (.region [⟨D 4,.aZ (.k (.c (.f (.int .i64 (-1))))),ab⟩] []) .ret))⟩
def al6:List aS:=[⟨D 11,.aZ (R 1),ab⟩,⟨D 12,.aZ (R 0),ab⟩,⟨D 13,.aZ (R 5),ab⟩,⟨D 14,.bE 1 ab (R 12) (R 13),ab⟩,⟨D 15,.load ab (R 14),ab⟩,⟨D 16,.bin .eql (R 11) (R 15),ab⟩]
def al4(sz:Nat)(ld:Option Nat):List aS:=[⟨D 11,.aZ (R 1),ab⟩,⟨D 12,.aZ (R 0),ab⟩,⟨D 13,.aZ (R 5),ab⟩,⟨D 14,.bE sz ab (R 12) (R 13),ab⟩,⟨D 15,.load ld (R 14),ab⟩,⟨D 16,.cj (R 11) [(R 15)] ae,ab⟩]
theorem ade{f:Nat}{d:List aS}(U:tab f=aa (ao3 d)){x y:V}{E:Type}{l:List E}{p:E→Bool}(S:l.length≤9223372036854775807)
  (W:∃ c,x=.c c∧∀ H,bu H c=aa l.length)
  (g:∀(j:Nat) (v:j<l.length) (t:T) (H:aj) (L:St→Prop),t.g 0=x→t.g 1=y→t.g 5=vi j →
   (∀ b J,b.g 0=x→b.g 1=y→b.g 5=vi j→b.g 7=t.g 7→b.g 8=t.g 8→b.g 16=vb (p l[j])→L ⟨b,[],H++J⟩)→wP tab d ⟨t,[],H⟩ L) :
  Kf tab f [x,y] (vi (kz l p)):=by
 obtain⟨c,rfl,N⟩:=W;refine cr U rfl fun H Q A=>?_;apply an;refine aq (.inl rfl) ?_;simp;apply an;apply an;refine aq (.inl rfl) ?_;simp [N];refine bS l.length (fun j t H'=>t.g 0=.c c∧t.g 1=y∧(∃ J,H'=H++J)∧∀(i:Nat) (hi:i<l.length),i<j→p l[i]=ag) S (by decide) (by decide) (by simp) (by simp) (by simp) ?_ ?_
 ·rintro j t _ v ⟨h0,z,⟨J,rfl⟩,q⟩ u B next
  refine aF ?_;apply an;refine aq (.inl rfl) ?_;simp [u];apply an;refine aq (.inl rfl) ?_;refine g j v _ _ _ (by simp [h0]) (by simp [z]) (by simp) fun b J' g0 F I K M m=>?_;cases s:p l[j]with
  | true=>
   refine au (by simp [m,s]) ?_;apply an;refine aq (.inl rfl) ?_;simp [I];refine aC (A _ _ ?_);have:=Qp v s (fun i hi=>q i (by omega) hi);simp [this]
  | false=>
   refine aB (by simp [m,s]) ?_;refine aP (aA (next _ _ ?_ (by simp [M,u]) (by simp [K,B])));refine⟨by simp [g0],by simp [F],⟨J++J',by simp⟩,fun i hi O=>?_⟩;by_cases e:i=j
   ·subst e;exact s
   ·exact q i hi (by omega)
 ·rintro t _ ⟨h0,z,⟨J,rfl⟩,q⟩ u B;apply an;refine aq (.inl rfl) ?_;simp;refine aC (A _ _ ?_);have:=Qr (l:=l) (p:=p) (fun i hi=>q i hi hi);simp [this]
theorem zP{f:Nat}(x:tab f=aa (ao3 al6))(g:Tg)(l:List Int)(v:Int)(u:l.length≤9223372036854775807) :
  Kf tab f [.c (.f (sl g (ints l))),vi v] (vi (kz l (· == v))):=by
 refine ade x u ⟨_,rfl,fun H=>by simp⟩ ?_;intro j s t H L h0 b d m;simp [al6,h0,b,d,bl,s,jP];have:=m ((((((t.s 11 (vi v)).s 12 (.c (.f (sl g (ints l))))).s 13 (vi j)).s 14 (.c (.f (.fp (ints l).flatten j)))).s 15 (vi l[j])).s 16 (vb (decide (v=l[j])))) [] (by simp [h0]) (by simp [b]) (by simp [d]) (by simp) (by simp) (by
  have q:decide (v=l[j])=(l[j] == v):=by rw [Bool.eq_iff_iff];simp;exact eq_comm
  simp only [T.g_s,if_true,q])
 simpa using this
theorem jF{f sz:Nat}{ld:Option Nat}(B:tab f=aa (ao3 (al4 sz ld))){q:Type}(l:List q)(enc:q→List FC)(val:q→V)(p:q→Bool)(g:Tg)(k:Nat)(b:List FC)
  (z:l.length≤9223372036854775807) (d:∀(j:Nat) (m:j<l.length) (H:aj),aR H ld (.c (.f (.fp (l.map enc).flatten (j*sz))))=aa (val l[j]))
  (A:∀ x ∈ l,Kf tab k (val x::b.map fun c=>.c (.f c)) (vb (p x))) :
  Kf tab f [.c (.f (sl g (l.map enc))),.c (.f (.fn k b))] (vi (kz l p)):=by
 refine ade B z ⟨_,rfl,fun H=>by simp⟩ ?_;intro j m t H L h0 s u v;have y:=(A l[j] (anc m)).ev H;have hi:=bl (H:=H) (g:=g) (rows:=l.map enc) (sz:=sz) (k:=.i64) (i:=(j:Int)) (by omega) (by simpa using m);simp [al4,h0,s,u,hi,d j m,y];exact v _ _ (by simp [h0]) (by simp [s]) (by simp [u]) (by simp) (by simp) (by simp)
def Qf(f:Nat):aL:=⟨[P.nat 0,P.nat 1],[.tmp (P.nat 4)],.seq (.region [⟨D 4,.aZ (.k (.c (.f (.bool ag)))),ab⟩] []) (.seq
 (.region [⟨D 5,.aZ (R 0),ab⟩,⟨D 6,.aZ (R 1),ab⟩,⟨D 7,.call f [(R 5),(R 6)] ag,ab⟩,⟨D 8,.bin .geq (R 7) (.k (.c (.f (.int .i64 0)))),ab⟩,⟨D 4,.aZ (R 8),ab⟩] []) .ret)⟩
theorem fh{f k:Nat}(m:tab f=aa (Qf k)){a b:FC}{d:Type}{l:List d}{p:d→Bool}(h:Kf tab k [.c (.f a),.c (.f b)] (vi (kz l p))) :
  Kf tab f [.c (.f a),.c (.f b)] (vb (l.any p)):=by
 refine cr m rfl fun H Q g=>?_;apply an;refine aq (.inl rfl) ?_;simp;apply an;refine aq (.inl rfl) ?_;have j:=h.eq;simp [j];refine aC (g _ _ ?_);simp [Qq]
end
section
open Go
theorem ak{H:aj}{b:Nat}{x:bw}(h:H[b]?=aa x):b<H.length:=(BY.1 h).1
variable{z:Bool}{H H':aj}{sz bytes:Nat}{v y:V}{g:Tg}{rows:List (List FC)}{row:List FC}{cs:List C}
theorem rX{b fl c:Nat}(h:H[b]?=aa (.box cs fl))(d:cs.length=sz):cU H sz (.c (.sl b 0 1 c 0 sz))=aa (1,cs):=by
 simp [cU,bu,cP,h,d];rw [←d,List.take_length]
end
section
open Go
def C1(P:Program):List Field→Nat→Nat→Bool
 | [],o,n=>o == n| f::b,o,n=>f.offset == o&&C1 P b (o+P.cellsOf f.type) n
def gj(P:Program):Nat→TypeId→Bool
 | 0,_=>ag
 | n+1,t=>match P.underlying t with
  | some .bool=>P.cellsOf t == 1| some (.int _)=>P.cellsOf t == 1| some .string=>P.cellsOf t == 1| some (.slice e)=>P.cellsOf t == 1&&P.cellsOf e != 0&&gj P n e| some (.struct b)=>C1 P b.toList 0 (P.cellsOf t)&&b.toList.all fun f=>gj P n f.type
  | some (.array k e)=>P.cellsOf t == k*P.cellsOf e&&gj P n e| _=>ag
def xN(S:TypeId→List FC→Prop):List TypeId→List FC→Prop
 | [],xs=>xs=[]| t::ts,xs=>∃ p q,xs=p++q∧S t p∧xN S ts q
def rE(P:Program):Nat→TypeId→List FC→Prop
 | 0,_,_=>False
 | n+1,t,xs=>match P.underlying t with
  | some .bool=>∃ b,xs=[.bool b]| some (.int k)=>∃ m,xs=[.int k m]∧(Lit.int k m).wf=ae| some .string=>∃ s,xs=[.str s]∧s.size≤maxLen| some (.slice e)=>∃ g rows,xs=[sl g rows]∧cu (P.cellsOf e) rows∧rows.length≤maxLen∧∀ r ∈ rows,rE P n e r| some (.struct d)=>xN (rE P n) (d.toList.map (·.type)) xs| some (.array k e)=>∃ rows,xs=rows.flatten∧rows.length=k∧cu (P.cellsOf e) rows∧∀ r ∈ rows,rE P n e r| _=>False
theorem vd{m:Type}{sz:Nat}:∀ {rows:List (List m)} {j k:Nat} {row:List m},(∀ r ∈ rows,r.length=sz)→rows[j]?=aa row→k<sz→rows.flatten[j*sz+k]?=row[k]?
 | [],j,k,row,_,b,_=>by simp at b
 | r::rows,0,k,row,d,b,g=>by
  simp at b;subst b;have:=d r atI;rw [avD,AT (by omega)];simp
 | r::rows,j+1,k,row,d,b,g=>by
  have l:=d r atI;rw [avD,IS (by rw [l,avM];omega)];have e:(j+1)*sz+k-r.length=j*sz+k:=by rw [l,avM];omega
  rw [e];exact vd (rows:=rows) (fun x q=>d x (aul _ q)) (by simpa using b) g
theorem vf{d:Type}{sz:Nat}:∀ {rows:List (List d)},(∀ r ∈ rows,r.length=sz)→rows.flatten.length=rows.length*sz
 | [],_=>by simp
 | r::rows,h=>by
  have:=vf (rows:=rows) fun x b=>h x (aul _ b);simp only [avD,api,avB,this,h r atI,avM,aw8];omega
def Em(w:World):Nat→Nat→Prop:=fun c _=>c<w.heap.size
theorem Fx{w:World}{a:Addr}{v:Value}(h:w.cell? a=aa v):a.block<w.heap.size∧a.spot=ab:=by
 unfold World.cell? at h;split at h
 ·rename_i b;split at h
  ·simp at h
  ·rename_i d;refine⟨?_,by simpa using d⟩;exact(Array.getElem?_eq_some_iff.1 b).1
 ·simp at h
theorem A2.flatten{l m:Type}{R:l→m→Prop}{g:List (List l)}{d:List (List m)}(j:g.length=d.length)
  (h:∀(i:Nat) xs ys,g[i]?=aa xs→d[i]?=aa ys→A2 R xs ys):A2 R g.flatten d.flatten:=by
 induction g generalizing d with
 | nil=>cases d with
  | nil=>exact A2.nil| cons y ys=>simp at j
 | cons x xs u=>cases d with
  | nil=>simp at j
  | cons y ys=>
   rw [avD,avD];exact(h 0 x y rfl rfl).append (u (by simpa using j) fun i a b q s=>h (i+1) a b (by simpa using q) (by simpa using s))
section
variable{H:Type}{enc:TypeId × Value→H}{P:Program}{w:World}{base:Nat}{spare:Nat→Bool}{held:Bool}{σ:Nat→FuncId}
def arC(σ:Nat→FuncId)(P:Program)(w:World)(n:Nat)(t:TypeId)(cs:List Value):Prop:=∃ xs,A2 (cS σ (Em w) w) xs cs∧rE P n t xs
theorem te{n:Nat}(v:∀ {t:TypeId} {fuel:Nat} {cs:List Value} {x:DataW H × List MemPlace},gj P n t=ae→DataW.trod enc P w base spare held fuel t cs=aa x→arC σ P w n t cs∧cs.length=P.cellsOf t)
  {fuel:Nat}:∀(b:List Field) (o N:Nat) (cs:List Value),C1 P b o N=ae→(b.all fun f=>gj P n f.type)=ae→cs.length=N →
   (∀ f ∈ b,∃ x,DataW.trod enc P w base spare held fuel f.type ((cs.drop f.offset).take (P.cellsOf f.type))=aa x) →
   ∃ xs,A2 (cS σ (Em w) w) xs (cs.drop o)∧xN (rE P n) (b.map (·.type)) xs
 | [],o,N,cs,d,_,m,_=>by
  simp [C1]at d;exact⟨[],by rw [List.drop_of_length_le (by omega)];exact A2.nil,rfl⟩
 | f::b,o,N,cs,d,l,m,u=>by
  simp only [C1,If,beq_iff_eq]at d;simp only [List.all_cons,If]at l;obtain⟨x,j⟩:=u f atI;rw [d.1]at j;obtain⟨⟨p,z,B⟩,s⟩:=v l.1 j;obtain⟨q,A,E⟩:=te v b (o+P.cellsOf f.type) N cs d.2 l.2 m fun g y=>u g (aul _ y);refine⟨p++q,?_,p,q,rfl,B,E⟩;have:cs.drop o=(cs.drop o).take (P.cellsOf f.type)++cs.drop (o+P.cellsOf f.type):=by
   rw [←awi,avL]
  rw [this];exact z.append A
theorem ack(c o n k:Nat):((⟨c,o,ab⟩:Addr).add n).add k=⟨c,o+(n+k),ab⟩:=by
 unfold Addr.add;by_cases b:n=0<;>by_cases d:k=0<;>simp [b,d];omega
theorem aeZ{t e:TypeId}{k n:Nat}{cs:List Value}{x:DataW H × List MemPlace}(j:P.underlying t=aa (.array k e))(h:DataW.trod enc P w base spare held (n+1) t cs=aa x) :
  cs.length=P.cellsOf t∧∀ i,i<k→∃ y,DataW.trod enc P w base spare held n e ((cs.drop (i*P.cellsOf e)).take (P.cellsOf e))=aa y:=by
 unfold DataW.trod at h;rw [j]at h;simp only [Option.ite_none_right_eq_some,IT]at h;obtain⟨g,xs,d,l⟩:=h;refine⟨g,fun i hi=>?_⟩;have:=mapM_some_get d i i (by simp [hi]);have b:xs.length=k:=by simpa using mapM_some_length d
 rw [By (by omega)]at this;exact⟨_,this⟩
theorem xT{j:Type}{sz:Nat}:∀ {k:Nat} {cs:List j},cs.length=k*sz→cs=((List.range k).map fun i=>(cs.drop (i*sz)).take sz).flatten
 | 0,cs,h=>by simp at h;simp [h]
 | k+1,cs,h=>by
  have d:(cs.take (k*sz)).length=k*sz:=by rw [avA,h,avM];omega
  have g:=xT d;rw [List.range_succ,awb,awF];have e:((List.range k).map fun i=>(cs.drop (i*sz)).take sz)=(List.range k).map fun i=>((cs.take (k*sz)).drop (i*sz)).take sz:=by
   refine List.map_congr_left fun i hi=>?_;have b:i<k:=by simpa using hi
   have:(i+1)*sz≤k*sz:=avX _ b;rw [avM]at this;rw [List.drop_take,awH,aws (by omega)]
  rw [e,←g];simp only [avl,List.map_nil,avD,List.flatten_nil,av0];have:(cs.drop (k*sz)).take sz=cs.drop (k*sz):=avj (by rw [avp,h,avM];omega);rw [this,avL]
theorem at8{n:Nat}:∀ {t:TypeId} {fuel:Nat} {cs:List Value} {x:DataW H × List MemPlace},gj P n t=ae→DataW.trod enc P w base spare held fuel t cs=aa x →
  arC σ P w n t cs∧cs.length=P.cellsOf t:=by
 induction n with
 | zero=>intro t fuel cs x g;simp [gj]at g
 | succ n ih=>
  intro t fuel cs x g h;simp only [gj]at g;split at g
  ·rename_i j;obtain⟨b,rfl,_⟩:=DataW.trod_bool j h;exact⟨⟨[.bool b],.cons (.bool b) .nil,by simp only [rE,j];exact⟨b,rfl⟩⟩,by simp at g;simp [g]⟩
  ·rename_i k j;obtain⟨m,rfl,_,hw⟩:=DataW.trod_int j h;exact⟨⟨[.int k m],.cons (.int k m) .nil,by simp only [rE,j];exact⟨m,rfl,hw⟩⟩,by simp at g;simp [g]⟩
  ·rename_i j;obtain⟨s,rfl,_,hw⟩:=DataW.trod_string j h;exact⟨⟨[.str s],.cons (.str s) .nil,by simp only [rE,j];exact⟨s,rfl,hw⟩⟩,by simp at g;simp [g]⟩
  ·rename_i e j;simp only [If,beq_iff_eq,bne_iff_ne]at g;obtain⟨⟨I,f7⟩,he⟩:=g;rcases DataW.trod_slice j h with⟨rfl,_⟩ | ⟨a,len,cap,Z,rest,m,_,rfl,_,hb,J,hm,d9,b9,_,_⟩
   ·exact⟨⟨[sl .nil []],.cons .az .nil,by simp only [rE,j];exact⟨.nil,[],rfl,fun r l=>by simp at l,by simp,fun r l=>by simp at l⟩⟩,by simpa using I.symm⟩
   ·refine⟨?_,by simpa using I.symm⟩;have A:∀ i,i<len→∃ p:List Value × List FC,w.cells? base (a.add (i*P.cellsOf e)) (P.cellsOf e)=aa p.1∧A2 (cS σ (Em w) w) p.2 p.1∧rE P n e p.2:=by
     intro i hi;have:=b9 i hi;rw [By (by omega)]at this;obtain⟨cs',I,Q⟩:=avy.1 this;obtain⟨⟨xs,ha,g⟩,_⟩:=ih he Q;exact⟨(cs',xs),I,ha,g⟩
    obtain⟨p,L⟩:=Go.Deep.choose_lt A;by_cases h0:len=0
    ·subst h0;refine⟨[sl .fs []],.cons (.fs0 a cap) .nil,?_⟩;simp only [rE,j];exact⟨.fs,[],rfl,fun r l=>by simp at l,by simp,fun r l=>by simp at l⟩
    have E:a.spot=ab:=by
     have:=L 0 (by omega);obtain⟨_,d_,a8⟩:=World.cells?_some this.1;have:=a8 0 (by omega);rw [By (by omega)]at this;have:=(Fx this).2;simpa [Addr.add]using this
    obtain⟨c,o,sp⟩:=a;simp only at E;subst E
    let d:=(List.range len).map fun i=>(p i).1
    let rows:=(List.range len).map fun i=>(p i).2
    have Y:∀ v ∈ d,v.length=P.cellsOf e:=by
     intro v Y;obtain⟨i,hi,rfl⟩:=avx.1 Y;exact(World.cells?_some (L i (by simpa using hi)).1).2.1
    have hg:cu (P.cellsOf e) rows:=by
     intro r l;obtain⟨i,hi,rfl⟩:=avx.1 l;obtain⟨I,Q,_⟩:=L i (by simpa using hi);rw [Q.len,(World.cells?_some I).2.1]
    have hA:A2 (cS σ (Em w) w) rows.flatten d.flatten:=by
     refine A2.flatten (by simp [rows,d]) fun i xs ys F K=>?_;simp only [rows,d,avR,IT]at F K;obtain⟨i1,N,rfl⟩:=F;obtain⟨i2,O,rfl⟩:=K;rw [N]at O;cases O;have:=avo N;exact(L i1 (by simpa using this)).2.1
    have B:∀ i u,d.flatten[i]?=aa u→w.cell? ⟨c,o+i,ab⟩=aa u:=by
     intro i u X;have hi:i<d.flatten.length:=(BY.1 X).1;rw [vf Y]at hi;have c_:d.length=len:=by simp [d]
     rw [c_]at hi;have M:i / P.cellsOf e<len:=Nat.div_lt_of_lt_mul (by rw [Nat.mul_comm];exact hi);have hk:i % P.cellsOf e<P.cellsOf e:=Nat.mod_lt _ (by omega);have z:i=i / P.cellsOf e*P.cellsOf e+i % P.cellsOf e:=by rw [Nat.mul_comm];exact(Nat.div_add_mod _ _).symm
     have W:d[i / P.cellsOf e]?=aa (p (i / P.cellsOf e)).1:=by simp [d,M]
     rw [z,vd Y W hk]at X;obtain⟨_,_,hc⟩:=World.cells?_some (L _ M).1;have:=hc _ hk;rw [X]at this;rw [←this,ack,←z]
    refine⟨[sl .fs rows],.cons ?_ .nil,?_⟩
    ·have b_:rows≠[]:=by simp [rows];omega
     have U:rows.length=len:=by simp [rows]
     have:sl Tg.fs rows=.fs rows.flatten len:=by
      cases l:rows with
      | nil=>exact absurd l b_| cons r rs=>simp only [sl,aw7,avk,if_false];rw [←l,U]
     rw [this];refine .fs rows.flatten len c o cap d.flatten J hA.len.symm (fun i hi=>?_) B fun i x u F X=>hA.2 i x u F X;have z:i<d.flatten.length:=by rw [←hA.len];exact hi
     exact(Fx (B i _ (By z))).1
    ·simp only [rE,j];have U:rows.length=len:=by simp [rows]
     refine⟨.fs,rows,rfl,hg,by omega,fun r l=>?_⟩;obtain⟨i,hi,rfl⟩:=avx.1 l;exact(L i (by simpa using hi)).2.2
  ·rename_i fs j;simp only [If]at g;obtain⟨xs,m,_,_,J,_,F⟩:=DataW.trod_struct j h;refine⟨?_,J⟩;obtain⟨ys,I,Q⟩:=te (n:=n) (fuel:=m) ih fs.toList 0 _ cs g.1 g.2 J fun f hf=>by
    obtain⟨i,hi⟩:=av2 hf;rw [Array.getElem?_toList]at hi;have:=F i f hi;rw [this];have e_:i<fs.size:=(Array.getElem?_eq_some_iff.1 hi).1;exact⟨_,By (by omega)⟩
   exact⟨ys,by simpa using I,by simp only [rE,j];exact Q⟩
  ·rename_i k e j;simp only [If,beq_iff_eq]at g;obtain⟨S,he⟩:=g;cases fuel with
   | zero=>simp [DataW.trod]at h
   | succ m=>
   obtain⟨J,F⟩:=aeZ j h;refine⟨?_,J⟩;have A:∀ i,i<k→∃ q:List FC,A2 (cS σ (Em w) w) q ((cs.drop (i*P.cellsOf e)).take (P.cellsOf e))∧rE P n e q:=by
    intro i hi;obtain⟨y,K⟩:=F i hi;obtain⟨⟨q,a,b⟩,_⟩:=ih he K;exact⟨q,a,b⟩
   obtain⟨q,M⟩:=Go.Deep.choose_lt A
   let rows:=(List.range k).map q
   have a_:cs=((List.range k).map fun i=>(cs.drop (i*P.cellsOf e)).take (P.cellsOf e)).flatten:=xT (by rw [J,S]);refine⟨rows.flatten,?_,?_⟩
   ·rw [a_];refine A2.flatten (by simp [rows]) fun i xs ys F K=>?_;simp only [rows,avR,IT]at F K;obtain⟨i1,N,rfl⟩:=F;obtain⟨i2,O,rfl⟩:=K;rw [N]at O;cases O;have:=avo N;exact(M i1 (by simpa using this)).1
   ·simp only [rE,j];refine⟨rows,rfl,by simp [rows],fun r l=>?_,fun r l=>?_⟩
    ·obtain⟨i,hi,rfl⟩:=avx.1 l;have z:i<k:=by simpa using hi
     rw [(M i z).1.len,avA,avp,J,S];have:(i+1)*P.cellsOf e≤k*P.cellsOf e:=avX _ z;rw [avM]at this;omega
    ·obtain⟨i,hi,rfl⟩:=avx.1 l;exact(M i (by simpa using hi)).2
  ·simp at g
end
section
variable{P:Program}{n:Nat}{t e:TypeId}{xs:List FC}
theorem fE{k:IntKind}(b:P.underlying t=aa (.int k))(h:rE P (n+1) t xs):∃ m,xs=[.int k m]∧(Lit.int k m).wf=ae:=by simpa only [rE,b]using h
theorem yT(b:P.underlying t=aa (.slice e))(h:rE P (n+1) t xs):∃ g rows,xs=[sl g rows]∧cu (P.cellsOf e) rows∧rows.length≤maxLen∧∀ r ∈ rows,rE P n e r:=by simpa only [rE,b]using h
theorem pU{d:Array Field}{ts:List TypeId}(g:P.underlying t=aa (.struct d))(b:d.toList.map (·.type)=ts)(h:rE P (n+1) t xs):xN (rE P n) ts xs:=by
 subst b;simpa only [rE,g]using h
theorem dH{S:TypeId→List FC→Prop}{ts:List TypeId}(h:xN S (t::ts) xs):∃ p q,xs=p++q∧S t p∧xN S ts q:=h
theorem Al{d:Type}{enc:d→List FC}{p:d→Prop}:∀ {rows:List (List FC)},(∀ r ∈ rows,∃ x,r=enc x∧p x)→∃ l:List d,rows=l.map enc∧∀ x ∈ l,p x
 | [],_=>⟨[],rfl,by simp⟩
 | r::rows,h=>by
  obtain⟨x,rfl,m⟩:=h r atI;obtain⟨l,rfl,g⟩:=Al fun r j=>h r (aul _ j);exact⟨x::l,rfl,fun y b=>by
   rcases avn.1 b with rfl | b
   ·exact m
   ·exact g y b⟩
end
end
section
open Go Go.ChangeShapes Go.WideShapes Go.ChangeAt Go.RowKit
def uj(P:Program)(t:TypeId)(a:V):Prop:=(∃ xs,a=.a (xs.map .f)∧rE P 40 t xs∧(∃ d,P.underlying t=aa d∧((∃ b,d=.struct b)∨∃ n e,d=.array n e))) ∨
 (∃ x,a=.c (.f x)∧rE P 40 t [x])
def tL(P:Program):List TypeId→List V→Prop
 | [],as=>as=[]| t::ts,as=>∃ a b,as=a::b∧uj P t a∧tL P ts b
section
variable{H:Type}{enc:TypeId × Value→H}{P:Program}{W W':World}
theorem xh{f:Func}{s:ChangeSpec}{g B l A:Bool}{args:Array Value}{v:Value}{ds F:List (DataW H)}{d pa pv:List MemPlace}
  (K:DataW.Whole enc P f.params.toList s.vars g W args.toList ds F d)
  (z:∀(b:Nat) (E:Nat→Bool) (O:Bool),DataW.TrodAll enc P W' b E O f.resultTypes.toList (v.resultList f.resultTypes.size) (s.fn H (ds++F)).results [])
  (m:∀ E:Nat→Bool,(∀ p ∈ d,E p.block=ae)→DataW.TrodAll enc P W' 0 E ae f.params.toList args.toList (s.fn H (ds++F)).args pa)
  (u:∀ E:Nat→Bool,(∀ p ∈ d,E p.block=ae)→DataW.TrodVars enc P W' E s.vars (s.fn H (ds++F)).vars pv)
  (x:d=pa++pv) (M:Below W.heap.size W W')
  (L:∀(j:Nat) (t:TypeId) (r:Value),f.resultTypes[j]?=aa t→(v.resultList f.resultTypes.size)[j]?=aa r→Value.okWide P W' .any 0 t r) :
  s.post enc P f g B l A W args v W':=by
 have I:∀ p ∈ d,p.block<W.heap.size:=fun p q=>K.lt p q;have y:∀ p ∈ d,(fun b=>decide (b<W.heap.size)) p.block=ae:=fun p q=>by simpa using I p q
 refine⟨ds,F,d,[],pa,pv,K,z _ _ _,m _ y,u _ y,World.keptBut_mono (fun p q=>⟨q,?_⟩) (M.frame (· ∈ d)),fun _=>?_⟩
 ·rw [x,List.mem_append]at q;exact Or.inr q
 ·obtain⟨_,_,_,_,_,S,Q⟩:=K;refine⟨L,_,_,([]++pa)++pv,⟨[]++pa,pv,trodAll_append (m _ (fun _ _=>rfl)) (z _ _ _),u _ (fun _ _=>rfl),rfl,?_,?_⟩,?_⟩
  ·intro b off q;have J:MemPlace.cell b off ∈ d:=by rw [x];simpa using q
   rw [M.frozen (p:=⟨b,off,ab⟩) (I _ J)];exact S b off J
  ·intro N;have:=Q N;rw [x]at this;simpa using this
  ·intro p q _;rw [x];simpa using q
theorem oL(s:laidOutB P=ae){y:Nat→Bool}(m:Below W.heap.size W W'):∀ {ts:List TypeId} {l:List Value} {ds:List (DataW H)} {ps:List MemPlace},
  (ts.all fun t=>P.readableRec t&&decide (t<P.types.size))=ae→DataW.TrodAll enc P W 0 (fun _=>ae) ae ts l ds ps→(∀ p ∈ ps,p.block<W.heap.size)→(∀ p ∈ ps,y p.block=ae) →
  DataW.TrodAll enc P W' 0 y ae ts l ds ps
 | [],[],[],ps,_,h,_,_=>h
 | t::ts,v::l,d::ds,ps,j,⟨p,q,z,A,e⟩,g,u=>by
  subst e;simp only [List.all_cons,If,decide_eq_true_eq]at j;exact⟨p,q,WideElems.Trod_stays s j.1.1 j.1.2 z (fun x b=>m.same (g x (awa _ b))) (fun x b=>u x (awa _ b)),
   oL s m j.2 A (fun x b=>g x (awK _ b)) (fun x b=>u x (awK _ b)),rfl⟩
 | [],_::_,_,_,_,h,_,_=>by cases h
 | [],[],_::_,_,_,h,_,_=>by cases h
 | _::_,[],_,_,_,h,_,_=>by cases h
 | _::_,_::_,[],_,_,h,_,_=>by cases h
variable{σ:Nat→FuncId}
def X0(W:World):Wd:=⟨fun _=>ab,Em W,[],W,W.heap.size⟩
theorem ae8{xs:List FC}{cs:Array Value}(h:A2 (cS σ (Em W) W) xs cs.toList):VR σ (X0 W) (.a (xs.map .f)) (.agg cs):=
 ⟨cs.toList,by simp,A2.map (g:=C.f) (h.lJ fun _ _ h=>h)⟩
theorem acx{t:TypeId}{v:Value}{d:DataW H}{ps:List MemPlace}{base:Nat}{spare:Nat→Bool}{held:Bool}{b0:Nat}(s:gj P 40 t=ae)(g:Value.okWide P W .any b0 t v)
  (E:DataW.Trod enc P W base spare held t v d ps):∃ a,VR σ (X0 W) a v∧uj P t a:=by
 obtain⟨fuel,q⟩:=E;obtain⟨⟨xs,m,u⟩,I⟩:=at8 (σ:=σ) s q;have l:v.cells.toList=[v]→∃ a,VR σ (X0 W) a v∧uj P t a:=by
  intro F;rw [F]at m
  match xs,m.len with
  | [x],_=>exact⟨.c (.f x),m.of_cons.1,.inr ⟨x,rfl,u⟩⟩
 unfold gj at s;unfold Value.okWide at g;split at g
 ·rename_i y j;obtain⟨cs,rfl,_,_⟩:=g;exact⟨_,ae8 m,.inl ⟨xs,rfl,u,_,j,.inl ⟨_,rfl⟩⟩⟩
 ·rename_i n e j;obtain⟨cs,rfl,_,_⟩:=g;exact⟨_,ae8 m,.inl ⟨xs,rfl,u,_,j,.inr ⟨_,_,rfl⟩⟩⟩
 ·rename_i A B;refine l ?_;split at s
  ·rename_i j;obtain⟨b,z,_⟩:=DataW.trod_bool j q;simp only [Cell.okWide,j,Cell.ok]at g;cases v<;>simp_all [Value.cells]
  ·rename_i j;obtain⟨b,z,_⟩:=DataW.trod_int j q;simp only [Cell.okWide,j,Cell.ok]at g;cases v<;>simp_all [Value.cells]
  ·rename_i j;obtain⟨b,z,_⟩:=DataW.trod_string j q;simp only [Cell.okWide,j,Cell.ok]at g;cases v<;>simp_all [Value.cells]
  ·rename_i j;simp only [Cell.okWide,j,Cell.ok]at g;cases v<;>simp_all [Value.cells]
  ·rename_i y j;exact absurd j (A y)
  ·rename_i n e j;exact absurd j (B n e)
  ·simp at s
theorem xR{base:Nat}{spare:Nat→Bool}{held:Bool}{b0:Nat}:∀ {ts:List TypeId} {g:List Value} {ds:List (DataW H)} {ps:List MemPlace},(ts.all fun t=>gj P 40 t)=ae →
  (∀(j:Nat) t v,ts[j]?=aa t→g[j]?=aa v→Value.okWide P W .any b0 t v)→DataW.TrodAll enc P W base spare held ts g ds ps →
  ∃ as,A2 (VR σ (X0 W)) as g∧tL P ts as
 | [],[],[],_,_,_,_=>⟨[],A2.nil,rfl⟩
 | t::ts,v::g,d::ds,ps,l,b,⟨p,q,u,x,_⟩=>by
  simp only [List.all_cons,If]at l;obtain⟨a,y,A⟩:=acx (σ:=σ) l.1 (b 0 t v rfl rfl) u;obtain⟨m,z,B⟩:=xR l.2 (fun j t v h s=>b (j+1) t v (by simpa using h) (by simpa using s)) x;exact⟨a::m,.cons y z,a,m,rfl,A,B⟩
 | [],_::_,_,_,_,_,h=>by cases h
 | [],[],_::_,_,_,_,h=>by cases h
 | _::_,[],_,_,_,_,h=>by cases h
 | _::_,_::_,[],_,_,_,h=>by cases h
theorem aj1{n:Nat}{H:aj}{v:V}{b:Bool}(h:iU (n+1) H v=aa (.c (.f (.bool b)))):v=.c (.f (.bool b)):=by
 cases v with
 | top=>simp [iU,cD]at h| a xs=>simp [iU,cD]at h| t xs=>simp [iU]at h
 | c x=>
  simp only [iU,cD,IT]at h;obtain⟨y,d,h⟩:=h;cases h;cases x with
  | f x=>simpa [ey]using d| ptr b o e=>simp only [ey]at d;split at d<;>simp at d
  | sl b o l c e s=>
   simp only [ey]at d;split at d
   ·split at d<;>simp at d
   ·split at d<;>simp at d
   ·split at d<;>simp at d
   ·split at d<;>simp at d
   ·simp at d
  | cl f g=>simp [ey]at d| _=>simp [ey]at d
variable{tab:TB}
theorem Ez(x:Env P σ tab.get tab.tt){f:Nat}{args:List V}{us:List Value}(h:bg tab f args (vb ae))(W:World)(z:A2 (VR σ (X0 W)) args us) :
  Calls P (σ f) us.toArray W fun e w'=>e=.returned (.bool ae)∧Below W.heap.size W w':=by
 obtain⟨r,H',⟨m,d,h⟩,j⟩:=h;have j:=aj1 (n:=63) j;subst j;intro cs
 let X:=X0 W
 have y:SR P σ X:=⟨fun b L h=>by simp [X,X0]at h,fun b M L K h=>by simp [X,X0]at h,fun c i h=>h⟩
 obtain⟨q,X',u,s,⟨E,F,H,l,fn,I,J⟩,N,O,v,g,Q⟩:=(acC x m d).fn f args [] _ H' h X us .normal cs rfl y (aft _) z (.inl rfl) (.inl rfl);have B:=VR.bool v;subst B;exact⟨.returned (.bool ae),X'.w,q,⟨rfl,⟨g.os,g.tape,g.output,g.size,fun k A=>g.frame k A (fun b L h=>by simp [X,X0]at h)⟩⟩,s,l,E,F,H,fn,by rw [l];exact I,J⟩
theorem ads(hE:Env P σ tab.get tab.tt){s:ChangeSpec}{f:Func}{fi:Nat}{tb:TypeId}(x:s.vars=[])(B:laidOutB P=ae){ts:List TypeId}(F:f.params.toList=ts)
  (O:∀ ds:List (DataW H),ds.length=ts.length→s.fn H ds=⟨[.lit (.bool ae)],ds,[]⟩)
  (y:f.resultTypes=#[tb]) (K:P.underlying tb=aa .bool) (E:(ts.all fun t=>P.readableRec t&&decide (t<P.types.size))=ae) (u:(ts.all fun t=>gj P 40 t)=ae)
  (Q:∀ as,tL P ts as→bg tab fi as (vb ae)) {g A l z:Bool} {base:Nat} {args:Array Value} {ds gs:List (DataW H)} {d:List MemPlace}
  (L:∀(j:Nat) t v,f.params[j]?=aa t→args[j]?=aa v→Value.okWide P W .any base t v) (X:DataW.Whole enc P f.params.toList s.vars g W args.toList ds gs d) :
  Calls P (σ fi) args W fun e W'=>∃ v,e=.returned v∧s.post enc P f g A l z W args v W':=by
 have I:=X;obtain⟨p,q,N,U,Y,a8,a_⟩:=X;rw [F]at N;rw [x]at U;obtain⟨rfl,rfl⟩:=trodVars_none U;simp only [av0]at Y;subst Y;obtain⟨as,h1,h2⟩:=xR (σ:=σ) (b0:=base) u (fun j t v h h'=>L j t v (by rw [←Array.getElem?_toList,F];exact h) (by rw [←Array.getElem?_toList];exact h')) N;have J:ds.length=ts.length:=by
  have:∀ {ts:List TypeId} {M:List Value} {ds:List (DataW H)} {ps:List MemPlace},DataW.TrodAll enc P W 0 (fun _=>ae) ae ts M ds ps→ds.length=ts.length:=by
   intro ts;induction ts with
   | nil=>intro M ds ps h;cases M<;>cases ds<;>first | rfl | cases h
   | cons t ts ih=>intro M ds ps h;cases M<;>cases ds<;>first | (obtain⟨_,_,_,h,_⟩:=h;simp [ih h]) | cases h
  exact this N
 have m:=O ds J;have Z:=Ez hE (Q as h2) W h1;rw [Array.toArray_toList]at Z;refine Z.mono fun e W' h=>?_;obtain⟨he,hg⟩:=h;subst he;refine⟨_,rfl,xh (pa:=d) (pv:=[]) I (fun b sp hd=>?_) (fun sp S=>?_) (fun sp _=>?_) (by simp) hg ?_⟩
 ·rw [av0,m,y];exact trodAll_mk1 (shut_bool K _)
 ·rw [av0,m,F];exact oL B hg E N (fun p hp=>I.lt p hp) S
 ·rw [av0,m,x];exact rfl
 ·exact ok_one y rfl (okWide_bool_mk K _)
end
end
section
open Go
section
variable{tab:TB}{f:Nat}{args:List V}{r:V}{fn:Nat}{k:List da}{t:T}{ds:List dQ}{H H':aj}{Q:Option aG→St→Prop}
theorem iu{x:Arg}{ps:List P}{as bd:aG}{g:Nat}{s:List V}(A:bX (x.ev t) [.c (.yl (H.length+1))]=aa (.fn g,s))
  (l:Ev tab (.fn g) s (H++[.eH ae,.lp fn t ps as bd .ready ab H.length]) r H')
  (h:WP tab fn ab (.je (H.length+1)::k) ⟨t,.gZ H.length::ds,H'⟩ Q):WP tab fn ab (.code (.fo x ps as bd)::k) ⟨t,ds,H⟩ Q:=by
 obtain⟨m,d,l⟩:=l;obtain⟨n,q,b,j,s',y,z⟩:=h;refine⟨n+1,max m q,max d b,j,s',?_,z⟩;have u:=kg (tab:=tab) (avN m q) (avN d b) _ _ _ _ l;have v:=wa (avC m q) (avC d b) (aft n) y;simp only [run,A,u,v];simp
theorem lj{ro:Option Nat}{b j d:Nat}{q:T}{ps:List P}{as bd:aG}{l:ej}(s:H[b]?=aa (.lp j q ps as bd l ab d))(g:l≠.busy)
  (h:WP tab fn ro k ⟨t,ds,H.set b (.lp j q ps as bd .exhausted ab d)⟩ Q):WP tab fn ro (.je b::k) ⟨t,ds,H⟩ Q:=by
 refine kh h fun m d n=>?_;simp only [run,s,aY g]
theorem mb{ro:Option Nat}{b j d:Nat}{q:T}{ps:List P}{as bd:aG}{l:ej}(s:H[b]?=aa (.lp j q ps as bd l (aa .ret) d))(g:l≠.busy)
  (h:WP tab fn ro (.code .ret::k) ⟨t,ds,H.set b (.lp j q ps as bd .exhausted (aa .ret) d)⟩ Q):WP tab fn ro (.je b::k) ⟨t,ds,H⟩ Q:=by
 refine kh h fun m d n=>?_;simp only [run,s,aY g]
theorem ma{b g d:Nat}{j:T}{ps:List P}{as bd:aG}{pd:Option aG}(l:H[b]?=aa (.lp g j ps as bd .ready pd d))
  (h:WP tab fn (aa b) k ⟨t,ds,H.set b (.lp g j ps as bd .busy pd d)⟩ Q):WP tab fn (aa b) (.mT::k) ⟨t,ds,H⟩ Q:=by
 refine kh h fun m d n=>?_;simp only [run,l]
@[simp] theorem aqg {b:Nat} {as:List V}:bX (.c (.yl b)) as=aa (.yield b,as):=rfl
def arB(b:Nat)(r:V)(H':aj)(j:Option aG)(s:St):Prop:=s.defs=[]∧∃ g l ps as bd m pd d,s.heap[b]?=aa (.lp g l ps as bd m pd d)∧r=.c (.f (.bool j.isNone)) ∧
 H'=s.heap.set b (.lp g l ps as bd (if j.isNone then .ready else .done) j d)
theorem ac2{b l d:Nat}{q:T}{ps:List P}{as bd:aG}{J:ej}{pd:Option aG}(A:H[b]?=aa (.lp l q ps as bd J pd d))(E:args.length=ps.length)
  (h:WP tab l (aa b) [.code as,.mT,.code bd] ⟨cN ps args q,[],H⟩ (arB b r H')):Ev tab (.yield b) args H r H':=by
 obtain⟨n,m,g,j,s,y,B,N,L,I,v,x,K,F,M,z,rfl,rfl⟩:=h;refine⟨max m n,g+1,?_⟩;have u:run (CF tab (max m n) g) l (max m n) (aa b) [.code as,.mT,.code bd] ⟨cN ps args q,[],H⟩=aa (j,s):=wa (avN m n) (aft g) (avC m n) y;simp only [CF]at u ⊢;simp only [eG,A,E,if_true,u,B,List.isEmpty_nil,z];rfl
theorem fj{C:V→aj→Prop}{b F d:Nat}{I:T}{ps:List P}{as bd:aG}{N:ej}{pd:Option aG}(L:H[b]?=aa (.lp F I ps as bd N pd d))(M:args.length=ps.length)
  (h:∀ Q:Option aG→St→Prop,(∀ j s z u q g l x v y,s.defs=[]→s.heap[b]?=aa (.lp z u q g l x v y) →
   C (.c (.f (.bool j.isNone))) (s.heap.set b (.lp z u q g l (if j.isNone then .ready else .done) j y))→Q j s)→WP tab F (aa b) [.code as,.mT,.code bd] ⟨cN ps args I,[],H⟩ Q):∃ r H',Ev tab (.yield b) args H r H'∧C r H':=by
 have K:=h (fun j s=>∃ r H',C r H'∧arB b r H' j s) fun j s z u q g l x v y A B E=>⟨_,_,E,A,z,u,q,g,l,x,v,y,B,rfl,rfl⟩
 obtain⟨n,m,J,j,s,A,r,H',B,E⟩:=K;exact⟨r,H',ac2 L M ⟨n,m,J,j,s,A,E⟩,B⟩
def arA(res:List gH)(r:V)(s:St):Prop:=∃ b,s.defs=[.gZ b]∧s.heap[b]?=aa (.eH ae)∧∃ d,results s.aD (s.heap.set b (.eH ag)) res=aa d∧iU deep (s.heap.set b (.eH ag)) d=aa r
theorem Cp{S:V→Prop}{ps:List P}{res:List gH}{body:aG}(z:tab f=aa ⟨ps,res,body⟩)(x:args.length=ps.length)
  (h:∀ Q:Option aG→St→Prop,(∀ j s r,S r→tD res r s∨arA res r s→Q j s)→WP tab f ab [.code body] ⟨cN ps args .e,[],[]⟩ Q):∃ r,S r∧bg tab f args r:=by
 have A:=h (fun _ s=>∃ r,S r∧(tD res r s∨arA res r s)) fun _ _ r l g=>⟨r,l,g⟩
 obtain⟨n,m,d,j,s,l,r,y,⟨u,v,g,q⟩ | ⟨b,u,B,v,g,q⟩⟩:=A
 ·exact⟨r,y,v,s.heap,tc z x ⟨n,m,d,j,s,l,0,0,s.heap,by rw [u];rfl,g,rfl⟩,q⟩
 ·exact⟨r,y,v,s.heap.set b (.eH ag),tc z x ⟨n,m,d,j,s,l,0,0,_,by rw [u];simp only [dL,B],g,rfl⟩,q⟩
theorem cL{C:V→aj→Prop}{ps:List P}{res:List gH}{body:aG}(x:tab f=aa ⟨ps,res,body⟩)(v:args.length=ps.length)
  (h:∀ Q:Option aG→St→Prop,(∀ j s r,s.defs=[]→results s.aD s.heap res=aa r→C r s.heap→Q j s)→WP tab f ab [.code body] ⟨cN ps args .e,[],H⟩ Q):∃ r H',Ev tab (.fn f) args H r H'∧C r H':=by
 have q:=h (fun _ s=>s.defs=[]∧∃ r,results s.aD s.heap res=aa r∧C r s.heap) fun _ _ r b g l=>⟨b,r,g,l⟩
 obtain⟨n,m,d,j,s,b,u,r,g,l⟩:=q;exact⟨r,s.heap,tc x v ⟨n,m,d,j,s,b,0,0,s.heap,by rw [u];rfl,g,rfl⟩,l⟩
end
end
section
open Go
theorem tC{c:cR}:∀(a b:List aS) (s:St),fG c (a++b) s=(fG c a s).bind (fG c b)
 | [],b,s=>rfl
 | o::a,b,s=>by
  simp only [List.cons_append,fG];cases fL c s o with
  | none=>rfl| some s'=>exact tC a b s'
theorem wJ{c:cR}:∀(os:List aS) (s:St) {s':St},fG c os s=aa s'→∃ ss,eb c os s=aa ss∧ss.getLast?=aa s'∧∀ i,i≤os.length→fG c (os.take i) s=ss[i]?
 | [],s,s',h=>by
  simp only [fG,At]at h;subst h;refine⟨[s],rfl,rfl,fun i hi=>?_⟩;have:i=0:=by simpa using hi
  subst this;rfl
 | o::os,s,s',h=>by
  simp only [fG]at h;cases b:fL c s o with
  | none=>simp [b]at h
  | some l=>
   simp only [b]at h;obtain⟨ss,d,g,j⟩:=wJ os l h;refine⟨s::ss,by simp only [eb,b,d],by rw [List.getLast?_cons,g];rfl,fun i hi=>?_⟩;cases i with
   | zero=>rfl
   | succ i=>
    simp only [aw3,fG,b,List.getElem?_cons_succ];exact j i (by simpa using hi)
def ib(o:aS)(b l:St):Prop:=wanted b.aD o.g=aa ag∨∃ v g d j,bq b.aD b.heap o.op=aa (v,g)∧bq b.aD l.heap o.op=aa (d,j)∧v.beq d=ae
section
variable{tab:TB}{fn:Nat}{ro:Option Nat}{k:List da}{s:St}{Q:Option aG→St→Prop}
def al1(tab:TB)(ops:List aS)(s:St)(c:Nat × Nat):Prop:=c.2≤ops.length∧∃ o,ops[c.1]?=aa o ∧
 ((c.1≤c.2∧wP tab (ops.take c.1) s fun b=>wP tab ((ops.drop c.1).take (c.2-c.1)) b fun d=>ib o b d) ∨
 (c.2≤c.1∧wP tab (ops.take c.2) s fun d=>wP tab ((ops.drop c.2).take (c.1-c.2)) d fun b=>ib o b d))
theorem aeo{ops:List aS}{c:Nat × Nat}(h:al1 tab ops s c):∃ m d o g j,c.2≤ops.length∧ops[c.1]?=aa o∧fG (CF tab m d) (ops.take c.1) s=aa g∧fG (CF tab m d) (ops.take c.2) s=aa j∧ib o g j:=by
 have y:∀(a b:Nat) (K:St→St→Prop),a≤b→wP tab (ops.take a) s (fun l=>wP tab ((ops.drop a).take (b-a)) l fun q=>K l q) →
   ∃ m d l q,fG (CF tab m d) (ops.take a) s=aa l∧fG (CF tab m d) (ops.take b) s=aa q∧K l q:=by
  intro a b K M h;obtain⟨m,d,l,u,v⟩:=jC _ _ h;obtain⟨E,z,q,x,L⟩:=jC _ _ v;have F:=dP (kg (tab:=tab) (avN m E) (avN d z)) _ _ u;have J:=dP (kg (tab:=tab) (avC m E) (avC d z)) _ _ x;refine⟨max m E,max d z,l,q,F,?_,L⟩;have:ops.take b=ops.take a++(ops.drop a).take (b-a):=by
   have N:b=a+(b-a):=by omega
   conv=>lhs;rw [N,List.take_add]
  rw [this,tC,F];exact J
 obtain⟨H,o,I,⟨A,h⟩ | ⟨B,h⟩⟩:=h
 ·obtain⟨m,d,g,j,u,v,x⟩:=y _ _ (fun g j=>ib o g j) A h;exact⟨m,d,o,g,j,H,I,u,v,x⟩
 ·obtain⟨m,d,j,g,u,v,x⟩:=y _ _ (fun j g=>ib o g j) B h;exact⟨m,d,o,g,j,H,I,v,u,x⟩
theorem gn{ops:List aS}{b:List (Nat × Nat)}(S:ro=ab∨ops.all (·.op.dZ)=ae)(h:wP tab ops s fun s'=>WP tab fn ro k s' Q)(hk:∀ c ∈ b,al1 tab ops s c) :
  WP tab fn ro (.code (.region ops b)::k) s Q:=by
 obtain⟨m,d,s',h1,n,m',d',j,s2,h2,h3⟩:=jC ops s h;have g:∃ M D,∀ c ∈ b,∃ o u y,c.2≤ops.length∧ops[c.1]?=aa o∧fG (CF tab M D) (ops.take c.1) s=aa u∧fG (CF tab M D) (ops.take c.2) s=aa y∧ib o u y:=by
  clear h1 h2 h;induction b with
  | nil=>exact⟨0,0,fun c F=>by cases F⟩
  | cons c cs W=>
   obtain⟨M,D,W⟩:=W fun c F=>hk c (aul _ F);obtain⟨X,H,o,u,y,a1,z,A,B,E⟩:=aeo (hk c atI);refine⟨max M X,max D H,fun c' q=>?_⟩;rcases avn.1 q with rfl | q
   ·have l:=kg (tab:=tab) (avC M X) (avC D H);exact⟨o,u,y,a1,z,dP l _ _ A,dP l _ _ B,E⟩
   ·obtain⟨o,u,y,a1,z,A,B,E⟩:=W c' q;have l:=kg (tab:=tab) (avN M X) (avN D H);exact⟨o,u,y,a1,z,dP l _ _ A,dP l _ _ B,E⟩
 obtain⟨M,D,g⟩:=g;obtain⟨Z,L,N,O⟩:∃ x,m≤x∧m'≤x∧M≤x:=⟨max (max m m') M,by omega,by omega,by omega⟩
 obtain⟨Y,I,J,K⟩:∃ x,d≤x∧d'≤x∧D≤x:=⟨max (max d d') D,by omega,by omega,by omega⟩
 refine⟨n+1,Z,Y,j,s2,?_,h3⟩;have e1:=dP (kg (tab:=tab) L I) ops _ h1;have e2:=wa N J (aft n) h2;have U:(ro.isSome&&!ops.all (·.op.dZ))=ag:=by
  rcases S with rfl | S
  ·rfl
  ·rw [S];simp
 obtain⟨ss,f1,f2,f3⟩:=wJ ops s e1;have hx:gk (CF tab Z Y) ops b s=aa s':=by
  cases b with
  | nil=>simpa only [gk]using e1
  | cons x xs=>
   simp only [gk,f1];rw [bf,f2];rw [List.all_eq_true];intro c F;obtain⟨o,u,y,a1,z,A,B,E⟩:=g c F;have l:=kg (tab:=tab) O K;have hi:c.1≤ops.length:=by
    have:=(BY.1 z).1;omega
   have b3:=dP l _ _ A;have b4:=dP l _ _ B;rw [f3 _ hi]at b3;rw [f3 _ a1]at b4;simp only [sameAt,z,b3,b4];rcases E with hw | ⟨v,H1,v',H2,g1,g2,g3⟩
   ·rw [hw]
   ·split
    ·rfl
    ·simp only [g1,g2,g3]
 simp only [run,U,hx,e2];simp
end
end
section
open Go
theorem tV{n:Nat}:∀(l:List C) (H:aj),(∀ x ∈ l,∃ y,x=.f y)→l.foldl (fun H x=>gF n x H) H=H
 | [],_,_=>rfl
 | x::l,H,h=>by
  obtain⟨y,rfl⟩:=h x atI;simp only [awA,amh];exact tV l H fun x b=>h x (aul _ b)
end
section
open Go
def RB(H:aj)(b sz ep:Nat)(rows:List (List FC)):Prop:=H[b]?=aa (.cf sz (rows.flatten.map .f) 0 ep .loc)
def Fm(b:Nat)(H H':aj):Prop:=H.length≤H'.length∧∀ d:Nat,d≠b→d<H.length→H'[d]?=H[d]?
theorem Fm.refl{b:Nat}(H:aj):Fm b H H:=⟨aft _,fun _ _ _=>rfl⟩
theorem Fm.trans{b:Nat}{H H' d:aj}(h:Fm b H H')(j:Fm b H' d):Fm b H d:=
 ⟨avv h.1 j.1,fun g e l=>(j.2 g e (avJ l h.1)).trans (h.2 g e l)⟩
theorem Fm.push{b:Nat}(H J:aj):Fm b H (H++J):=⟨by simp,fun d _ l=>AT l⟩
theorem Fm.set{b:Nat}(H:aj)(x:bw):Fm b H (H.set b x):=⟨by simp,fun d e _=>AI (Ne.symm e)⟩
theorem Fm.get{b:Nat}{H H':aj}(h:Fm b H H'){d:Nat}{x:bw}(g:H[d]?=aa x)(e:d≠b):H'[d]?=aa x:=by rw [h.2 d e (ak g)];exact g
theorem CH{sz:Nat}{row:List FC}(q:row.length=sz):∀ {rows:List (List FC)} {j:Nat},cu sz rows→j<rows.length →
  rows.flatten.take (j*sz)++row++rows.flatten.drop (j*sz+sz)=(rows.set j row).flatten
 | [],_,_,d=>by simp at d
 | r::rows,0,b,_=>by
  have:=b r atI;subst this;simp
 | r::rows,j+1,b,d=>by
  have g:=b r atI;have u:=CH q (rows:=rows) (j:=j) (fun x s=>b x (aul _ s)) (by simpa using d);simp only [avD,axj];rw [←u];have l:(j+1)*sz=r.length+j*sz:=by rw [g,avM];omega
  have m:(j+1)*sz+sz=r.length+(j*sz+sz):=by omega
  rw [m,l,List.take_append,List.drop_append];simp [avj,avU]
section
variable{H:aj}{b sz ep j:Nat}{rows:List (List FC)}{row:List FC}
theorem RB.lt(h:RB H b sz ep rows):b<H.length:=ak h
theorem RB.push(h:RB H b sz ep rows)(J:aj):RB (H++J) b sz ep rows:=by
 unfold RB at *;rw [AT (ak h)];exact h
theorem RB.len(h:RB H b sz ep rows){o l c:Nat}:bu H (.sl b o l c ep sz)=aa l:=by
 unfold RB at h;simp [bu,h]
theorem RB.idx(h:RB H b sz ep rows){n c:Nat}{k:IntKind}{i:Int}(h0:0≤i)(hi:i<n){o:Nat}:bH H sz ab (.c (.sl b o n c ep sz)) (.c (.f (.int k i)))=aa (.c (.ptr b (o+i.toNat*sz) ep)):=by
 unfold RB at h;simp only [bH,ir,h0,hi,if_true,h,and_self]
theorem RB.ldr(h:RB H b sz ep rows)(hg:cu sz rows)(g:rows[j]?=aa row):aR H (aa sz) (.c (.ptr b (j*sz) ep))=aa (.a (row.map .f)):=by
 unfold RB at h;have d:row.length=sz:=hg row (avo g);have:=uV (k:=0) hg g (by omega);simp only [aw,h,if_true];rw [←aw9];rw [awL]at this;rw [this];have h1:(row.map C.f++((rows.drop (j+1)).flatten.map C.f)).take sz=row.map C.f:=by
  rw [avF (by simp [d]),avj (by simp [d])]
 simp [d]
theorem RB.str(h:RB H b sz ep rows)(hg:cu sz rows)(l:j<rows.length)(hr:row.length=sz) :
  ∃ H',cX H (.ptr b (j*sz) ep) (row.map .f)=aa H'∧RB H' b sz ep (rows.set j row)∧Fm b H H'∧H'.length=H.length:=by
 have m:=bY hg;have g:(j+1)*sz≤rows.length*sz:=avX _ l;have d:j*sz+sz≤rows.flatten.length:=by rw [m];rw [avM]at g;omega
 unfold RB at h ⊢;refine⟨H.set b (.cf sz ((rows.set j row).flatten.map .f) 0 ep .loc),?_,?_,Fm.set _ _,by simp⟩
 ·simp only [bh,h,awv,true_and,avi,hr,d,if_true];rw [←CH hr hg l];simp [over,hr]
 ·exact IN (ak h)
end
theorem zx{k n:Nat}(h:k≤n):Bk (vi k) n=aa k:=by
 have:(0:Int)≤k∧(k:Int)≤n:=by omega
 simp [Bk,ir,this]
theorem RB.wi{H:aj}{b sz ep n k:Nat}{rows:List (List FC)}(h:RB H b sz ep rows)(g:k<n) :
  dW H sz (.c (.sl b 0 n 0 ep sz)) (aa (vi k)) ab ab=aa (.c (.sl b (k*sz) (n-k) 0 ep sz)):=by
 unfold RB at h;have d:bW n n (aa (vi k)) ab ab=aa (k,n,n):=by simp [bW,zx (Nat.le_of_lt g)]
 simp [dW,h,d];omega
theorem RB.aey{H:aj}{b sz ep n k:Nat}{rows:List (List FC)}(h:RB H b sz ep rows)(g:k≤n)(h0:0<k) :
  dW H sz (.c (.sl b 0 n 0 ep sz)) ab (aa (vi k)) ab=aa (.c (.sl b 0 k 0 ep sz)):=by
 unfold RB at h;have d:bW n n ab (aa (vi k)) ab=aa (0,k,n):=by simp [bW,zx g]
 simp [dW,h,d]
 try omega
theorem RB.clr{H:aj}{b sz ep n k:Nat}{rows:List (List FC)}{zs:List FC}(h:RB H b sz ep rows)(hg:cu sz rows)(x:rows.length=n)(z:k<n)(s:zs.length=sz) :
  ∃ H',oU H sz zs (.c (.sl b (k*sz) (n-k) 0 ep sz))=aa H'∧RB H' b sz ep (rows.take k++List.replicate (n-k) zs)∧Fm b H H':=by
 have v:=bY hg;have d:=h.len (o:=k*sz) (l:=n-k) (c:=0);have g:(cF (n-k) zs).length=(n-k)*sz:=by
  have:cu sz (List.replicate (n-k) zs):=fun r hr=>by rw [List.eq_of_mem_replicate hr,s]
  simpa [cF]using bY this
 have m:k*sz+(n-k)*sz=rows.flatten.length:=by rw [v,x,←avM];congr 1;omega
 unfold RB at h ⊢;refine⟨H.set b (.cf sz ((rows.take k++List.replicate (n-k) zs).flatten.map .f) 0 ep .loc),?_,IN (ak h),Fm.set _ _⟩;have y:n-k≠0:=by omega
 have u:(rows.take k++List.replicate (n-k) zs).flatten.map C.f=over (rows.flatten.map .f) (k*sz) ((cF (n-k) zs).map .f):=by
  rw [awF,←sV k hg];simp only [over,avi,g,awb,List.map_take];rw [List.drop_eq_nil_of_le (by simp only [avi];omega)];simp [cF]
 simp only [oU,d];rw [u];obtain⟨q,j⟩:∃ q,n-k=q+1:=⟨n-k-1,by omega⟩
 rw [j];simp only [s,if_true,h,and_self,bh,awv,true_and,avi];rw [←j,g,bf (by omega)]
theorem km{t:T}{H:aj}{x:gH}{r:V}(h:cA t H x=aa r):Km.results t H [x]=aa r:=by
 simp [Km.results,bj,h]
@[simp] theorem atF {t:T} {H:aj} (sz:Nat) (zs:List FC) (x:Arg):bq t H (.clear sz zs x)=(oU H sz zs (x.ev t)).map (.t [],·):=rfl
@[simp] theorem ato {a b:Int}:xc ag [vi a,vi b]=aa (vi (max a b)):=by
 have:(if a<b then b else a)=max a b:=by split<;>omega
 simp only [xc,tj,yH];simp [this,V.int]
@[simp] theorem atp {a b:Int}:xc ae [vi a,vi b]=aa (vi (min a b)):=by
 have:(if b<a then b else a)=min a b:=by split<;>omega
 simp only [xc,tj,yH];simp [this,V.int]
end
section
open Go
def AD(l:List (List FC))(i j:Nat):List (List FC):=(l.set i (l.getD j [])).set j (l.getD i [])
def iT(a b:Nat)(l l':List (List FC)):Prop:=l'.Perm l∧l'.take a=l.take a∧l'.drop b=l.drop b
theorem iT.refl(a b:Nat)(l:List (List FC)):iT a b l l:=⟨.refl _,rfl,rfl⟩
theorem iT.trans{a b:Nat}{l l' d:List (List FC)}(h:iT a b l l')(g:iT a b l' d):iT a b l d:=⟨g.1.trans h.1,g.2.1.trans h.2.1,g.2.2.trans h.2.2⟩
theorem iT.len{a b:Nat}{l l':List (List FC)}(h:iT a b l l'):l'.length=l.length:=h.1.length_eq
theorem iT.lt{a b:Nat}{l l':List (List FC)}(h:iT a b l l'){i:Nat}(hi:i<a):l'[i]?=l[i]?:=by
 have:=congrArg (·[i]?) h.2.1;simpa [avI,hi]using this
theorem iT.ge{a b:Nat}{l l':List (List FC)}(h:iT a b l l'){i:Nat}(hi:b≤i):l'[i]?=l[i]?:=by
 have:=congrArg (·[i-b]?) h.2.2;simpa [avt,show b+(i-b)=i by omega]using this
theorem iT.mono{a b a' d:Nat}{l l':List (List FC)}(h:iT a b l l')(g:a'≤a)(j:b≤d):iT a' d l l':=by
 refine⟨h.1,?_,?_⟩
 ·have:=congrArg (·.take a') h.2.1;simpa [awH,aws g]using this
 ·have:=congrArg (·.drop (d-b)) h.2.2;simpa [awi,show b+(d-b)=d by omega]using this
theorem od{l:List (List FC)}{i j:Nat}(hi:i<l.length)(g:j<l.length)(k:Nat):(AD l i j)[k]?=if k=j then l[i]? else if k=i then l[j]? else l[k]?:=by
 have m:l.getD i []=l[i]:=by simp [List.getD,By hi]
 have q:l.getD j []=l[j]:=by simp [List.getD,By g]
 simp only [AD,m,q,List.getElem?_set];by_cases b:j=k
 ·subst b;simp [By hi,g]
 ·by_cases d:i=k
  ·subst d;simp [b,Ne.symm b,By g,hi]
  ·simp [b,d,Ne.symm b,Ne.symm d]
theorem uh{a b:Nat}{l:List (List FC)}{i j:Nat}(hi:a≤i)(s:i<b)(x:a≤j)(u:j<b)(v:b≤l.length):iT a b l (AD l i j):=by
 have d:i<l.length:=by omega
 have g:j<l.length:=by omega
 refine⟨?_,?_,?_⟩
 ·have m:l.getD i []=l[i]:=by simp [List.getD,By d]
  have q:l.getD j []=l[j]:=by simp [List.getD,By g]
  simp only [AD,m,q];exact List.set_set_perm d g
 ·apply awz;intro k;simp only [avI];split
  ·rw [od d g,aY (by omega),aY (by omega)]
  ·rfl
 ·apply awz;intro k;simp only [avt];rw [od d g,aY (by omega),aY (by omega)]
section
variable{H:aj}{b sz ep:Nat}{rows:List (List FC)}
theorem RB.swap(h:RB H b sz ep rows)(hg:cu sz rows){i j:Nat}(hi:i<rows.length)(m:j<rows.length) :
  ∃ d g,cX H (.ptr b (i*sz) ep) (rows[j].map .f)=aa d∧RB d b sz ep (rows.set i rows[j])∧cX d (.ptr b (j*sz) ep) (rows[i].map .f)=aa g∧RB g b sz ep (AD rows i j)∧Fm b H g:=by
 have y:rows[i].length=sz:=hg _ (anc hi);have q:rows[j].length=sz:=hg _ (anc m);obtain⟨d,A,r1,v,-⟩:=h.str hg hi q;have l:cu sz (rows.set i rows[j]):=fun r hr=>by
  rcases List.mem_or_eq_of_mem_set hr with h | rfl
  ·exact hg r h
  ·exact q
 obtain⟨g,B,z,x,-⟩:=r1.str l (j:=j) (by simpa using m) y;refine⟨d,g,A,r1,B,?_,v.trans x⟩;have s:rows.getD i []=rows[i]:=by simp [List.getD,By hi]
 have u:rows.getD j []=rows[j]:=by simp [List.getD,By m]
 simp only [AD,s,u];exact z
theorem iT.wV{a b:Nat}{l l':List (List FC)}(h:iT a b l l')(hg:cu sz l):cu sz l':=fun r hr=>hg r (h.1.mem_iff.1 hr)
end
structure Dp(W:List FC→Prop)(c:List FC→List FC→Int):Prop where
 arQ:∀ {x y},W x→W y→c x y<0→¬ c y x<0
 trans:∀ {x y z},W x→W y→W z→¬ c y x<0→¬ c z y<0→¬ c z x<0
def Up(c:List FC→List FC→Int)(a b:Nat)(l:List (List FC)):Prop:=∀ i j x y,a≤i→i<j→j<b→l[i]?=aa x→l[j]?=aa y→¬ c y x<0
end
section
open Go
def PJ(l l':List (List FC))(a b n:Nat):Prop:=∀ k:Nat,l'[k]?=if a≤k∧k<a+n then l[k-a+b]? else if b≤k∧k<b+n then l[k-b+a]? else l[k]?
theorem PJ.zero(l:List (List FC))(a b:Nat):PJ l l a b 0:=fun k=>by
 rw [aY (by omega),aY (by omega)]
theorem PJ.step{l l':List (List FC)}{a b i:Nat}(h:PJ l l' a b i)(j:l'.length=l.length)(d:a+i<b)(g:b+i<l.length):PJ l (AD l' (a+i) (b+i)) a b (i+1):=fun k=>by
 rw [od (by omega) (by omega)];by_cases h1:k=b+i
 ·subst h1;rw [bf rfl,h,aY (by omega),aY (by omega),aY (by omega),bf (by omega)]
  congr 1;omega
 rw [aY h1];by_cases h2:k=a+i
 ·subst h2;rw [bf rfl,h,aY (by omega),aY (by omega),bf (by omega)]
  congr 1;omega
 rw [aY h2,h k];by_cases h3:a≤k∧k<a+i
 ·rw [bf h3,bf (by omega)]
 rw [aY h3,aY (show¬ (a≤k∧k<a+(i+1)) by omega)];by_cases h4:b≤k∧k<b+i
 ·rw [bf h4,bf (by omega)]
 rw [aY h4,aY (by omega)]
theorem PJ.blocks{X P M Q Z l':List (List FC)}{n:Nat}(d:P.length=n)(g:Q.length=n)(h:PJ (X++(P++(M++(Q++Z)))) l' X.length (X.length+n+M.length) n):l'=X++(Q++(M++(P++Z))):=by
 apply awz;intro k;rw [h k];by_cases b:k<X.length
 ·rw [aY (by omega),aY (by omega),AT b,AT b]
 rw [IS (l₁:=X) (l₂:=Q++(M++(P++Z))) (by omega)];by_cases j:k<X.length+n
 ·rw [bf (by omega),IS (by omega),IS (by omega),IS (by omega),AT (by omega),AT (by omega)]
  congr 1;omega
 rw [aY (by omega),IS (l₁:=Q) (by omega)];by_cases l:k<X.length+n+M.length
 ·rw [aY (by omega),IS (by omega),IS (by omega),AT (by omega),AT (by omega)]
  congr 1;omega
 rw [IS (l₁:=M) (l₂:=P++Z) (by omega)];by_cases m:k<X.length+n+M.length+n
 ·rw [bf (by omega),IS (by omega),AT (by omega),AT (by omega)]
  congr 1;omega
 rw [aY (by omega),IS (by omega),IS (by omega),IS (by omega),IS (by omega),IS (by omega)]
 congr 1;omega
def wM(l l':List (List FC))(a m b:Nat):Prop:=∀ k:Nat,l'[k]?=if a≤k∧k<a+(b-m)then l[k-a+m]? else if a+(b-m)≤k∧k<b then l[k-(b-m)]? else l[k]?
theorem wM.none(l:List (List FC)){a m b:Nat}(d:a≤m)(g:m≤b)(h:a=m∨m=b):wM l l a m b:=fun k=>by
 rcases h with rfl | rfl
 ·by_cases h1:a≤k∧k<a+(b-a)
  ·rw [bf h1];congr 1;omega
  ·rw [aY h1,aY (by omega)]
 ·rw [aY (by omega)];by_cases h1:a+(m-m)≤k∧k<m
  ·rw [bf h1];congr 1;omega
  ·rw [aY h1]
theorem wM.blocks{X U V Y:List (List FC)}:wM (X++(U++(V++Y))) (X++(V++(U++Y))) X.length (X.length+U.length) (X.length+U.length+V.length):=fun k=>by
 have e:X.length+U.length+V.length-(X.length+U.length)=V.length:=by omega
 rw [e];by_cases b:k<X.length
 ·rw [aY (by omega),aY (by omega),AT b,AT b]
 rw [IS (l₁:=X) (l₂:=V++(U++Y)) (by omega)];by_cases d:k<X.length+V.length
 ·rw [bf (by omega),IS (l₁:=X) (by omega),IS (l₁:=U) (by omega),AT (l₁:=V) (l₂:=Y) (by omega),AT (l₁:=V) (l₂:=U++Y) (by omega)]
  congr 1;omega
 rw [aY (by omega),IS (l₁:=V) (l₂:=U++Y) (by omega)];by_cases g:k<X.length+U.length+V.length
 ·rw [bf (by omega),IS (l₁:=X) (by omega),AT (l₁:=U) (l₂:=V++Y) (by omega),AT (l₁:=U) (l₂:=Y) (by omega)]
  congr 1;omega
 rw [aY (by omega),IS (l₁:=U) (l₂:=Y) (by omega),IS (l₁:=X) (by omega),IS (l₁:=U) (l₂:=V++Y) (by omega),IS (l₁:=V) (l₂:=Y) (by omega)]
 congr 1;omega
theorem rY{l:List (List FC)}{a m b:Nat}(j:a≤m)(q:m≤b)(s:b≤l.length):∃ X U V Y,l=X++(U++(V++Y))∧X.length=a∧U.length=m-a∧V.length=b-m:=by
 refine⟨l.take a,(l.drop a).take (m-a),(l.drop m).take (b-m),l.drop b,?_,by simp;omega,by simp;omega,by simp;omega⟩;have g:(l.drop m).take (b-m)++l.drop b=l.drop m:=by
  have:=avL (b-m) (l.drop m);rwa [awi,show m+(b-m)=b by omega]at this
 have d:(l.drop a).take (m-a)++l.drop m=l.drop a:=by
  have:=avL (m-a) (l.drop a);rwa [awi,show a+(m-a)=m by omega]at this
 rw [g,d,avL]
theorem iT.mem{a b:Nat}{l l':List (List FC)}(h:iT a b l l')(d:a≤b)(J:b≤l.length){i:Nat}{x:List FC}(h1:a≤i)(h2:i<b)(y:l'[i]?=aa x):∃ j,a≤j∧j<b∧l[j]?=aa x:=by
 obtain⟨X,U,V,Y,e,Q,lU,O⟩:=rY (aft a) d J;have Z:=h.len;obtain⟨X',z,E,u,F,s,N,m⟩:=rY (l:=l') (aft a) d (by omega);obtain rfl:U=[]:=av7.1 (by omega);obtain rfl:z=[]:=av7.1 (by omega);obtain⟨g,M,K⟩:=h;subst e;subst F;have H:X'=X:=by
  simpa [avF (show a≤X.length by omega),avF (show a≤X'.length by omega),avj (show X.length≤a by omega),avj (show X'.length≤a by omega)]using M
 have I:u=Y:=by
  have q:∀ {A B C:List (List FC)},A.length=a→B.length=b-a→(A++([]++(B++C))).drop b=C:=by
   intro A B C S W;rw [awm,←avU,List.drop_append_of_le_length (by simp;omega),List.drop_of_length_le (by simp;omega),awm]
  rwa [q s m,q Q O]at K
 subst H;subst I;have g:E.Perm V:=by
  have:=(List.perm_append_left_iff X').1 g;simp only [awm]at this;exact(List.perm_append_right_iff u).1 this
 rw [awm,IS (by omega),AT (by omega)]at y;obtain⟨j,v⟩:=av2 (g.mem_iff.1 (avo y));have L:=(BY.1 v).1;refine⟨a+j,by omega,by omega,?_⟩;rw [awm,IS (by omega),AT (by omega)];rw [←v];congr 1;omega
section
variable{W:List FC→Prop}{c:List FC→List FC→Int}
theorem Up.mono{a b a' d:Nat}{l:List (List FC)}(h:Up c a b l)(m:a≤a')(q:d≤b):Up c a' d l:=
 fun i j x y h1 h2 h3 g hy=>h i j x y (by omega) h2 (by omega) g hy
theorem Up.one{a b:Nat}{l:List (List FC)}(h:b≤a+1):Up c a b l:=fun i j x y h1 h2 h3=>by omega
theorem Up.of{a b:Nat}{l l':List (List FC)}(h:Up c a b l)(d:∀ k,a≤k→k<b→l'[k]?=l[k]?):Up c a b l':=fun i j x y h1 h2 h3 g hy=>
 h i j x y h1 h2 h3 (by rw [←d i h1 (by omega)];exact g) (by rw [←d j (by omega) h3];exact hy)
def kv(c:List FC→List FC→Int)(l:List (List FC))(i j:Nat):Prop:=∀ x y,l[i]?=aa x→l[j]?=aa y→¬ c y x<0
theorem Up.le{a b i j:Nat}{l:List (List FC)}(hc:Dp W c)(g:∀ r ∈ l,W r)(h:Up c a b l)(h1:a≤i)(h2:i≤j)(h3:j<b):kv c l i j:=fun x y d hy=>by
 by_cases e:i=j
 ·subst e;rw [d]at hy;cases hy;have:=avo d;intro q;exact hc.arQ (g _ this) (g _ this) q q
 ·exact h i j x y h1 (by omega) h3 d hy
theorem kv.trans{l:List (List FC)}{i j k:Nat}(hc:Dp W c)(b:∀ r ∈ l,W r)(h:kv c l i j)(q:kv c l j k)(d:j<l.length):kv c l i k:=fun x y g hy=>by
 have m:=By d;exact hc.trans (b _ (avo g)) (b _ (anc d)) (b _ (avo hy)) (h _ _ g m) (q _ _ m hy)
theorem adK{l H I J:List (List FC)}{a s m e b mid:Nat}(v:Dp W c)(u:∀ r ∈ l,W r)(L:Up c a m l)(M:Up c m b l)(h1:a≤s)(h2:s≤m)(h3:m≤e)(h4:e≤b)(O:mid+m=s+e)(hb:b≤l.length)
  (t:a<s→e<b→kv c l (s-1) e) (w:s<m→m<e→kv c l (e-1) s) (Q:wM l H s m e) (X:H.length=l.length) (K:iT a mid H I) (S:Up c a mid I) (F:iT mid b I J) (U:Up c mid b J):Up c a b J:=by
 intro i j x y hi A N g d;by_cases f:j<mid
 ·rw [F.lt (by omega)]at g;rw [F.lt (by omega)]at d;exact S i j x y hi A f g d
 by_cases k:mid≤i
 ·exact U i j x y k A N g d
 have o:=K.len;rw [F.lt (by omega)]at g;obtain⟨B,j1,j2,d⟩:=F.mem (by omega) (by omega) (by omega) N d;rw [K.ge (by omega)]at d;obtain⟨E,i1,i2,g⟩:=K.mem (by omega) (by omega) hi (by omega) g;rw [Q E]at g;rw [Q B]at d;have z:∀ p q:Nat,kv c l p q→l[p]?=aa x→l[q]?=aa y→¬ c y x<0:=fun p q h Y Z=>h _ _ Y Z;by_cases k3:E<s
 ·rw [aY (by omega),aY (by omega)]at g;by_cases n:B<e
  ·rw [aY (by omega),bf (by omega)]at d;exact z _ _ (L.le v u (by omega) (by omega) (by omega)) g d
  ·rw [aY (by omega),aY (by omega)]at d;exact z _ _ (((L.le v u (i:=E) (j:=s-1) (by omega) (by omega) (by omega)).trans v u (t (by omega) (by omega)) (by omega)).trans v u (M.le v u (i:=e) (j:=B) (by omega) (by omega) (by omega)) (by omega)) g d
 ·rw [bf (by omega)]at g;by_cases n:B<e
  ·rw [aY (by omega),bf (by omega)]at d;exact z _ _ (((M.le v u (i:=E-s+m) (j:=e-1) (by omega) (by omega) (by omega)).trans v u (w (by omega) (by omega)) (by omega)).trans v u (L.le v u (i:=s) (j:=B-(e-m)) (by omega) (by omega) (by omega)) (by omega)) g d
  ·rw [aY (by omega),aY (by omega)]at d;exact z _ _ (M.le v u (by omega) (by omega) (by omega)) g d
theorem aek{l l':List (List FC)}{a s m e b:Nat}(g:Dp W c)(d:∀ r ∈ l,W r)(A:Up c a m l)(B:Up c m b l)(O:a≤s)(Q:s≤m)(S:m≤e)(U:e≤b)(Y:b≤l.length)(X:s<m∨m<e)
  (H:a<s→m<e→kv c l (s-1) m) (N:s<m→m<e→kv c l (e-1) s) (I:s<m→e<b→kv c l (m-1) e) (E:wM l l' s m e):Up c a b l':=by
 intro i j x y hi J Z z u;rw [E i]at z;rw [E j]at u;have v:∀ p q:Nat,kv c l p q→l[p]?=aa x→l[q]?=aa y→¬ c y x<0:=fun p q h K L=>h _ _ K L;by_cases f:i<s
 ·rw [aY (by omega),aY (by omega)]at z;by_cases o:j<s
  ·rw [aY (by omega),aY (by omega)]at u;exact v _ _ (A.le g d (by omega) (by omega) (by omega)) z u
  by_cases M:j<s+(e-m)
  ·rw [bf (by omega)]at u;exact v _ _ (((A.le g d (i:=i) (j:=s-1) (by omega) (by omega) (by omega)).trans g d (H (by omega) (by omega)) (by omega)).trans g d (B.le g d (i:=m) (j:=j-s+m) (by omega) (by omega) (by omega)) (by omega)) z u
  rw [aY (by omega)]at u;by_cases F:j<e
  ·rw [bf (by omega)]at u;exact v _ _ (A.le g d (by omega) (by omega) (by omega)) z u
  rw [aY (by omega)]at u;by_cases q:m<e
  ·exact v _ _ (((A.le g d (i:=i) (j:=s-1) (by omega) (by omega) (by omega)).trans g d (H (by omega) q) (by omega)).trans g d (B.le g d (i:=m) (j:=j) (by omega) (by omega) (by omega)) (by omega)) z u
  ·exact v _ _ (((A.le g d (i:=i) (j:=m-1) (by omega) (by omega) (by omega)).trans g d (I (by omega) (by omega)) (by omega)).trans g d (B.le g d (i:=e) (j:=j) (by omega) (by omega) (by omega)) (by omega)) z u
 by_cases k:i<s+(e-m)
 ·rw [bf (by omega)]at z;by_cases M:j<s+(e-m)
  ·rw [bf (by omega)]at u;exact v _ _ (B.le g d (by omega) (by omega) (by omega)) z u
  rw [aY (by omega)]at u;by_cases F:j<e
  ·rw [bf (by omega)]at u;exact v _ _ (((B.le g d (i:=i-s+m) (j:=e-1) (by omega) (by omega) (by omega)).trans g d (N (by omega) (by omega)) (by omega)).trans g d (A.le g d (i:=s) (j:=j-(e-m)) (by omega) (by omega) (by omega)) (by omega)) z u
  rw [aY (by omega)]at u;exact v _ _ (B.le g d (by omega) (by omega) (by omega)) z u
 rw [aY (by omega)]at z;rw [aY (by omega)]at u;by_cases n:i<e
 ·rw [bf (by omega)]at z;by_cases F:j<e
  ·rw [bf (by omega)]at u;exact v _ _ (A.le g d (by omega) (by omega) (by omega)) z u
  rw [aY (by omega)]at u;exact v _ _ (((A.le g d (i:=i-(e-m)) (j:=m-1) (by omega) (by omega) (by omega)).trans g d (I (by omega) (by omega)) (by omega)).trans g d (B.le g d (i:=e) (j:=j) (by omega) (by omega) (by omega)) (by omega)) z u
 rw [aY (by omega)]at z;rw [aY (by omega)]at u;exact v _ _ (B.le g d (by omega) (by omega) (by omega)) z u
end
end
section
open Go
def bG:C→Option Nat
 | .sl b _ _ _ _ _=>aa b| _=>ab
def LR(H:aj)(c:C)(sz:Nat)(rows:List (List FC)):Prop:=(rows=[]∧(c=.f .az∨c=.f .es))∨(rows≠[]∧∃ b ep,c=.sl b 0 rows.length 0 ep sz∧RB H b sz ep rows)
def Kb(H H':aj)(c:C):Prop:=H.length≤H'.length∧∀(i:Nat) y,H[i]?=aa y→bG c≠aa i→H'[i]?=aa y
section
variable{H H':aj}{c:C}{sz:Nat}{rows:List (List FC)}
theorem LR.nil(H:aj)(sz:Nat):LR H (.f .az) sz []:=.inl ⟨rfl,.inl rfl⟩
theorem LR.cO(h:LR H c sz rows)(d:∀ i y,H[i]?=aa y→bG c=aa i→H'[i]?=aa y):LR H' c sz rows:=by
 rcases h with h | ⟨h,b,ep,rfl,h2⟩
 ·exact .inl h
 ·exact .inr ⟨h,b,ep,rfl,d b _ h2 rfl⟩
theorem LR.push(h:LR H c sz rows)(J:aj):LR (H++J) c sz rows:=h.cO fun i y hy _=>by rw [AT (ak hy)];exact hy
theorem LR.lt(h:LR H c sz rows){i:Nat}(hi:bG c=aa i):i<H.length:=by
 rcases h with⟨_,rfl | rfl⟩ | ⟨h,b,ep,rfl,h2⟩
 ·cases hi
 ·cases hi
 ·cases hi;exact h2.lt
theorem LR.pP(h:LR H c sz rows){i:Nat}{cs:List C}{fl:Nat}(d:H[i]?=aa (.box cs fl)):bG c≠aa i:=by
 rcases h with⟨_,rfl | rfl⟩ | ⟨h,b,ep,rfl,h2⟩
 ·simp [bG]
 ·simp [bG]
 ·intro e;cases e;unfold RB at h2;rw [h2]at d;cases d
theorem LR.set(h:LR H c sz rows){i:Nat}(hi:bG c≠aa i)(x:bw):LR (H.set i x) c sz rows:=h.cO fun j y hy b=>by
 have:i≠j:=by rintro rfl;exact hi b
 rw [AI this];exact hy
theorem LR.len(h:LR H c sz rows):bu H c=aa rows.length:=by
 rcases h with⟨rfl,rfl | rfl⟩ | ⟨h,b,ep,rfl,h2⟩
 ·rfl
 ·rfl
 ·exact h2.len
theorem LR.at(h:LR H c sz rows)(hg:cu sz rows){j:Nat}(d:j<rows.length):∃ b ep,bH H sz ab (.c c) (vi j)=aa (.c (.ptr b (j*sz) ep))∧aR H (aa sz) (.c (.ptr b (j*sz) ep))=aa (.a (rows[j].map .f)):=by
 rcases h with⟨rfl,_⟩ | ⟨h,b,ep,rfl,h2⟩
 ·simp at d
 ·have:=h2.idx (n:=rows.length) (c:=0) (k:=.i64) (o:=0) (i:=(j:Int)) (by omega) (by omega);rw [avr,avP]at this;exact⟨b,ep,this,h2.ldr hg (By d)⟩
theorem LR.ex(h:LR H c sz rows)(hg:cu sz rows)(n:Nat):∃ g,ey (n+1) H c=aa (sl g rows):=by
 rcases h with⟨rfl,rfl | rfl⟩ | ⟨h,b,ep,rfl,h2⟩
 ·exact⟨.nil,rfl⟩
 ·exact⟨.es,rfl⟩
 ·refine⟨.fs,?_⟩;have d:rows.length*sz=rows.flatten.length:=(bY hg).symm;unfold RB at h2;simp only [mD,h2];rw [bf ⟨trivial,trivial,by rw [avi,avP,d];exact aft _⟩,awj,avj (by rw [avi];omega),sI];cases rows with
  | nil=>exact absurd rfl h| cons x l=>simp [sl]
theorem aex{g g':Tg}{rows:List (List FC)}(h:rows≠[]):sl g rows=sl g' rows:=by
 cases rows with
 | nil=>exact absurd rfl h| cons x l=>rfl
theorem LR.exU(h:LR H c sz rows)(hg:cu sz rows):∃ g,∀(H':aj) (n:Nat),(∀ i y,H[i]?=aa y→bG c=aa i→H'[i]?=aa y)→ey (n+1) H' c=aa (sl g rows):=by
 by_cases hr:rows=[]
 ·rcases h with⟨rfl,rfl | rfl⟩ | ⟨h,_⟩
  ·exact⟨.nil,fun _ _ _=>rfl⟩
  ·exact⟨.es,fun _ _ _=>rfl⟩
  ·exact absurd hr h
 ·refine⟨.fs,fun H' n b=>?_⟩;obtain⟨g,e⟩:=(h.cO b).ex hg n;rw [e,aex hr]
theorem LR.app(h:LR H c sz rows)(hg:cu sz rows)(ot:sz≠0){row:List FC}(hr:row.length=sz){bytes:Nat}(d:bV (rows.length+1) bytes=ae){b1 fl1:Nat}(l:H[b1]?=aa (.box (row.map .f) fl1)) :
  ∃ c' H',cH H sz bytes (.c c) (.c (.sl b1 0 1 1 0 sz))=aa (.c c',H')∧LR H' c' sz (rows++[row])∧Kb H H' c∧(bG c'=bG c∨bG c'=aa H.length):=by
 have g:cU H sz (.c (.sl b1 0 1 1 0 sz))=aa (1,row.map .f):=rX l (by simp [hr]);rcases h with⟨rfl,m⟩ | ⟨s,b,ep,rfl,h2⟩
 ·have d:bV 1 bytes=ae:=by simpa using d
  refine⟨.sl H.length 0 1 0 0 sz,H++[.cf sz (row.map .f) 0 0 .loc],?_,.inr ⟨by simp,H.length,0,rfl,?_⟩,⟨by simp,fun i y hy _=>by rw [AT (ak hy)];exact hy⟩,.inr rfl⟩
  ·rcases m with rfl | rfl<;>simp [cH,g,d,ot]
  ·simp [RB]
 ·have j:rows.length*sz=rows.flatten.length:=(bY hg).symm;unfold RB at h2;refine⟨.sl b 0 (rows.length+1) 0 (ep+1) sz,H.set b (.cf sz (rows.flatten.map .f++row.map .f) 0 (ep+1) .loc),?_,.inr ⟨by simp,b,ep+1,by simp,?_⟩,⟨by simp,fun i y hy q=>?_⟩,.inl rfl⟩
  ·simp only [cH,g,ot,if_false,h2,and_self,if_true];simp only [Nat.add_one_ne_zero,if_false];rw [bf ⟨trivial,by rw [avi];exact j,by simp⟩,d];simp
  ·unfold RB;rw [IN (ak h2)];simp
  ·have:b≠i:=by rintro rfl;exact q rfl
   rw [AI this];exact hy
theorem Kb.refl(H:aj)(c:C):Kb H H c:=⟨aft _,fun _ _ h _=>h⟩
theorem Kb.push(H J:aj)(c:C):Kb H (H++J) c:=⟨by simp,fun i y hy _=>by rw [AT (ak hy)];exact hy⟩
theorem Kb.asr{b o l d ep s:Nat}(h:Fm b H H'):Kb H H' (.sl b o l d ep s):=⟨h.1,fun i y hy g=>by
 have:i≠b:=by rintro rfl;exact g rfl
 exact h.get hy this⟩
end
end
section
open Go
theorem oX{g:Type}{sz:Nat}:∀ {rows:List (List g)} {j:Nat} {row:List g},(∀ r ∈ rows,r.length=sz)→rows[j]?=aa row→(rows.flatten.drop (j*sz)).take sz=row
 | [],j,row,_,b=>by simp at b
 | r::rows,0,row,d,b=>by
  simp at b;subst b;have:=d r atI;subst this;simp
 | r::rows,j+1,row,d,b=>by
  have l:=d r atI;have q:=oX (rows:=rows) (j:=j) (row:=row) (fun x m=>d x (aul _ m)) (by simpa using b);rw [avD,show(j+1)*sz=r.length+j*sz by rw [l,avM];omega,←awi,List.drop_left];exact q
theorem Ce{b:Type}:∀ {cs:List b} {k:Nat} {x:b},k<cs.length→over cs k [x]=cs.set k x
 | [],k,x,h=>by simp at h
 | c::cs,0,x,_=>by simp [over]
 | c::cs,k+1,x,h=>by
  have:=Ce (cs:=cs) (k:=k) (x:=x) (by simpa using h);simp only [over,avB,List.length_nil]at this ⊢;rw [aw3,axj,←this];simp
theorem Qs{g:Type}{sz:Nat}:∀ {rows:List (List g)} {j k n:Nat} {row:List g},(∀ r ∈ rows,r.length=sz)→rows[j]?=aa row→k+n≤sz→(rows.flatten.drop (j*sz+k)).take n=(row.drop k).take n:=by
 intro rows j k n row b d m;have q:row.length=sz:=b row (avo d);have l:=oX b d;rw [←awi,←l,List.drop_take,awH,aws (by omega)]
theorem yg{m:Type}{sz:Nat}:∀ {rows:List (List m)} {j k:Nat} {row xs:List m},(∀ r ∈ rows,r.length=sz)→rows[j]?=aa row→k+xs.length≤sz→over rows.flatten (j*sz+k) xs=(rows.set j (over row k xs)).flatten
 | [],j,k,row,xs,_,b,_=>by simp at b
 | r::rows,0,k,row,xs,d,b,g=>by
  simp at b;subst b;have:=d r atI;simp only [over,avD,List.set_cons_zero,Nat.zero_mul,avP];rw [avF (by omega),List.drop_append_of_le_length (by omega)];simp
 | r::rows,j+1,k,row,xs,d,b,g=>by
  have q:=d r atI;have l:=yg (rows:=rows) (j:=j) (k:=k) (row:=row) (xs:=xs) (fun y s=>d y (aul _ s)) (by simpa using b) g;have e:(j+1)*sz+k=r.length+(j*sz+k):=by rw [q,avM];omega
  simp only [over,avD,axj]at l ⊢;rw [←l,e,List.take_length_add_append,Nat.add_assoc,List.drop_length_add_append];simp
theorem FP{g:Type}{sz:Nat}{rows:List (List g)}(b:∀ r ∈ rows,r.length=sz){j:Nat}(d:j<rows.length):j*sz+sz≤rows.flatten.length:=by
 rw [vf b];have:(j+1)*sz≤rows.length*sz:=avX _ d;rw [avM]at this;omega
section
variable{H:aj}{b sz ep j k n:Nat}{rows:List (List FC)}{row:List FC}
theorem RB.ldp(h:RB H b sz ep rows)(hg:cu sz rows)(g:rows[j]?=aa row)(l:k+n≤sz):aR H (aa n) (.c (.ptr b (j*sz+k) ep))=aa (.a (((row.drop k).take n).map .f)):=by
 unfold RB at h;have d:row.length=sz:=hg row (avo g);have:=Qs (n:=n) hg g l;simp only [aw,h,if_true];have e:((row.drop k).take n).length=n:=by simp [d];omega
 have m:=FP hg (BY.1 g).1;rw [←aw9];simp only [aV,avi];rw [bf (by rw [avp];omega),←List.map_take,this]
theorem RB.ldc{x:FC}(h:RB H b sz ep rows)(hg:cu sz rows)(g:rows[j]?=aa row)(l:row[k]?=aa x):aR H ab (.c (.ptr b (j*sz+k) ep))=aa (.c (.f x)):=by
 unfold RB at h;have m:row.length=sz:=hg row (avo g);have q:=(BY.1 l).1;have:=vd hg g (by omega:k<sz);simp only [aw,h,if_true];rw [aw9.symm];have e:(rows.flatten.drop (j*sz+k))[0]?=aa x:=by rw [avt,awL,this,l]
 cases d:rows.flatten.drop (j*sz+k)with
 | nil=>rw [d]at e;simp at e| cons y ys=>rw [d]at e;simp at e;simp [aV,e]
theorem RB.stp{xs:List FC}(h:RB H b sz ep rows)(hg:cu sz rows)(g:rows[j]?=aa row)(m:k+xs.length≤sz):∃ H',cX H (.ptr b (j*sz+k) ep) (xs.map .f)=aa H'∧RB H' b sz ep (rows.set j (over row k xs))∧Fm b H H'∧H'.length=H.length:=by
 have d:=(BY.1 g).1;have l:=FP hg d;unfold RB at h ⊢;refine⟨H.set b (.cf sz ((rows.set j (over row k xs)).flatten.map .f) 0 ep .loc),?_,IN (ak h),Fm.set _ _,by simp⟩;have e:over (rows.flatten.map C.f) (j*sz+k) (xs.map .f)=((rows.set j (over row k xs)).flatten).map .f:=by
  rw [←yg hg g m];simp [over]
 simp only [bh,h,awv,true_and,avi];rw [bf (by omega),e]
end
def aoK(sz:Nat)(zs:List FC)(bytes:Nat):aL:=⟨[P.nat 0],[.tmp (P.nat 2)],.seq (.region [⟨D 2,.aZ (.k (.c (.f (.az)))),ab⟩] []) (.seq (.seq (.region [⟨D 3,.aZ (R 0),ab⟩,⟨D 4,.eq ag .sl (R 3) (.k (.c (.f (.az)))),ab⟩] [])
 (.cond (R 4) (.seq (.region [⟨D 2,.aZ (.k (.c (.f (.az)))),ab⟩] []) .ret) .skip)) (.seq (.region [⟨D 5,.bK sz zs 0 [],ab⟩,⟨D 6,.aZ (R 0),ab⟩,⟨D 7,.append sz bytes (R 5) (R 6),ab⟩,⟨D 2,.aZ (R 7),ab⟩] []) .ret))⟩
section
variable{tab:TB}{F sz bytes:Nat}{zs:List FC}{H:aj}{g:Tg}{rows:List (List FC)}
theorem xZ{cs:List FC}{n:Nat}:DN H .sl (.c (.f (.fs cs n))) (.c (.f .az))=aa ag:=rfl
theorem ajZ:DN H .sl (.c (.f .az)) (.c (.f .az))=aa ae:=rfl
theorem ar0:DN H .sl (.c (.f .es)) (.c (.f .az))=aa ag:=rfl
theorem uP(u:tab F=aa (aoK sz zs bytes))(l:sz≠0)(v:cu sz rows)(j:bV rows.length bytes=ae) :
  ∃ r H',Ev tab (.fn F) [.c (.f (sl g rows))] H r H'∧∃ c J,r=.c c∧H'=H++J∧LR (H++J) c sz rows∧∀ i,bG c=aa i→H.length≤i:=by
 refine cL (C:=fun r H'=>∃ c J,r=.c c∧H'=H++J∧LR (H++J) c sz rows∧∀ i,bG c=aa i→H.length≤i) u rfl fun Q m=>?_;apply ai;simp;apply an;apply ai;cases rows with
 | nil=>
  cases g with
  | nil=>
   simp [sl,Tg.fc,ajZ];refine au (by simp) ?_;apply ai;simp;exact aC (m _ _ (.c (.f .az)) rfl (by simp [Km.results,bj]) ⟨_,[],rfl,by simp,.inl ⟨rfl,.inl rfl⟩,by simp [bG]⟩)
  | es=>
   simp [sl,Tg.fc,ar0];refine bo (by simp) ?_;apply ai;simp [cH,cU,bu,cP,l];exact aC (m _ _ (.c (.f .es)) rfl (by simp [Km.results,bj]) ⟨_,[],rfl,by simp,.inl ⟨rfl,.inr rfl⟩,by simp [bG]⟩)
  | fs=>
   simp [sl,Tg.fc,xZ];refine bo (by simp) ?_;apply ai;simp [cH,cU,bu,cP,l];exact aC (m _ _ (.c (.f .es)) rfl (by simp [Km.results,bj]) ⟨_,[],rfl,by simp,.inl ⟨rfl,.inr rfl⟩,by simp [bG]⟩)
 | cons x r=>
  have d:cU H sz (.c (.f (.fs (x::r).flatten (x::r).length)))=aa ((x::r).length,(x::r).flatten.map .f):=by
   have q:=Br (H:=H) (g:=.fs) v;have s:=D3 (H:=H) .fs (x::r);simp only [sl,aw7,avk,if_false]at q s;simp only [cU,q,s]
  have b:bV (r.length+1) bytes=ae:=by simpa using j
  simp only [sl,aw7,avk,if_false];simp [xZ];refine bo (by simp) ?_;apply ai;simp only [avD,avB]at d;simp [cH,d,l,b];refine aC (m _ _ (.c (.sl H.length 0 (r.length+1) 0 0 sz)) rfl (by simp [Km.results,bj]) ⟨_,[.cf sz ((x::r).flatten.map .f) 0 0 .loc],rfl,by simp,.inr ⟨by simp,H.length,0,rfl,by simp [RB]⟩,by simp [bG]⟩)
end
end
section
open Go
theorem mS{H:aj}{sz:Nat}{g:Tg}{rows:List (List FC)}(j:cu sz rows):cU H sz (.c (.f (sl g rows)))=aa (rows.length,rows.flatten.map .f):=by
 have b:=Br (H:=H) (g:=g) j;have d:=D3 (H:=H) g rows;have e:∀ s,sl g rows≠.str s:=fun s=>by cases rows<;>cases g<;>simp [sl,Tg.fc]
 generalize sl g rows=x at *;cases x<;>simp only [cU,b,d];exact absurd rfl (e _)
theorem akQ{H:aj}{sz:Nat}{g:Tg}{rows:List (List FC)}{k:Nat}(l:cu sz rows)(u:k≤rows.length)(z:rows.length≤9223372036854775807) :
  ∃ g',dW H sz (.c (.f (sl g rows))) (aa (vi k)) ab ab=aa (.c (.f (sl g' (rows.drop k)))):=by
 cases rows with
 | nil=>
  have:k=0:=by simpa using u
  subst this;cases g
  ·exact⟨.nil,rfl⟩
  ·exact⟨.es,rfl⟩
  ·exact⟨.fs,by simp [sl,Tg.fc,dW,bW];rfl⟩
 | cons x r=>
  refine⟨.fs,?_⟩;have d:Bk (vi k) (x::r).length=aa k:=by
   have:(0:Int)≤(k:Int)∧(k:Int)≤((x::r).length:Int):=⟨by omega,by omega⟩
   show(if(0:Int)≤(k:Int)∧(k:Int)≤((x::r).length:Int)then aa (k:Int).toNat else ab)=aa k;rw [bf this,avr]
  have b:bW (x::r).length (x::r).length (aa (vi k)) ab ab=aa (k,(x::r).length,(x::r).length):=by
   simp [bW];simp only [avB]at d;rw [d];rfl
  show dW H sz (.c (.f (.fs (x::r).flatten (x::r).length))) _ _ _=_;simp only [dW,b];have m:((x::r).flatten.drop (k*sz)).take (((x::r).length-k)*sz)=((x::r).drop k).flatten:=by
   rw [si k l,avj];rw [bY (fun y v=>l y (av9 v)),avp];exact aft _
  rw [m];have s:sl .fs ((x::r).drop k)=.fs ((x::r).drop k).flatten ((x::r).length-k):=by
   cases j:(x::r).drop k with
   | nil=>
    have:=congrArg List.length j;simp only [avp,List.length_nil]at this;rw [this];rfl
   | cons y q=>
    have:=congrArg List.length j;simp only [avp]at this;rw [this];rfl
  rw [s];simp
theorem LR.arP{H:aj}{c:C}{sz:Nat}{rows rows':List (List FC)}(h:LR H c sz rows)(hg:cu sz rows)(ot:sz≠0)(l:cu sz rows'){bytes:Nat}(d:bV (rows.length+rows'.length) bytes=ae)(g:Tg) :
  ∃ c' H',cH H sz bytes (.c c) (.c (.f (sl g rows')))=aa (.c c',H')∧LR H' c' sz (rows++rows')∧Kb H H' c∧(bG c'=bG c∨bG c'=aa H.length):=by
 by_cases h0:rows'=[]
 ·subst h0;refine⟨c,H,?_,by simpa using h,Kb.refl H c,.inl rfl⟩;have s:=mS (H:=H) (g:=g) l;rcases h with⟨rfl,rfl | rfl⟩ | ⟨q,b,ep,rfl,h2⟩
  ·simp only [cH,s,ot,if_false];simp
  ·simp only [cH,s,ot,if_false];simp
  ·unfold RB at h2;simp only [cH,s,ot,if_false,h2,and_self,if_true,List.length_nil]
 have u:rows'.length≠0:=fun e=>h0 (av7.1 e);have j:=mS (H:=H) (g:=g) l;have x:=bY l;rcases h with⟨rfl,v⟩ | ⟨q,b,ep,rfl,h2⟩
 ·have d:bV rows'.length bytes=ae:=by simpa using d
  refine⟨.sl H.length 0 rows'.length 0 0 sz,H++[.cf sz (rows'.flatten.map .f) 0 0 .loc],?_,.inr ⟨by simpa using h0,H.length,0,by simp,?_⟩,Kb.push H _ c,.inr rfl⟩
  ·rcases v with rfl | rfl<;>simp [cH,j,d,ot,u]
  ·simp [RB]
 ·have m:rows.length*sz=rows.flatten.length:=(bY hg).symm;unfold RB at h2;refine⟨.sl b 0 (rows.length+rows'.length) 0 (ep+1) sz,H.set b (.cf sz (rows.flatten.map .f++rows'.flatten.map .f) 0 (ep+1) .loc),?_,.inr ⟨by simp [q],b,ep+1,by simp,?_⟩,⟨by simp,fun i y hy z=>?_⟩,.inl rfl⟩
  ·simp only [cH,j,ot,if_false,h2,and_self,if_true,u];rw [bf ⟨trivial,by rw [avi];exact m,by simp⟩,d];simp
  ·unfold RB;rw [IN (ak h2)];simp
  ·have:b≠i:=by rintro rfl;exact z rfl
   rw [AI this];exact hy
end
section
set_option linter.unusedVariables false
open Go
abbrev yn(d:Nat)(op:cW):aS:=⟨D d,op,ab⟩
abbrev ygm(d k g:Nat):aS:=⟨D d,.aZ (R k),G g ae⟩
abbrev ygl(d z k g:Nat):aS:=⟨D d,.load (aa z) (R k),G g ae⟩
abbrev ym(d k:Nat):aS:=⟨D d,.aZ (R k),ab⟩
abbrev yi(n:Int):Arg:=.k (.c (.f (.int .i64 n)))
abbrev yt:Arg:=.k (.c (.f (.bool ae)))
abbrev yf:Arg:=.k (.c (.f (.bool ag)))
abbrev ys(z a b:Nat):aS:=⟨ab,.store z (R a) (R b),ab⟩
abbrev yb(d:Nat)(o:BinOp)(a b:Nat):aS:=⟨D d,.bin o (R a) (R b),ab⟩
abbrev ya(d z a b:Nat):aS:=⟨D d,.bE z ab (R a) (R b),ab⟩
abbrev yl(d z a:Nat):aS:=⟨D d,.load (aa z) (R a),ab⟩
abbrev yr(l:List aS):aG:=.region l []
structure C_ where
 pdq:Nat
 ins:Nat
 heap:Nat
 auv:Nat
 brk:Nat
 piv:Nat
 rev:Nat
 part:Nat
 peq:Nat
 pins:Nat
 aum:Nat
 med:Nat
 ord:Nat
 npt:Nat
 nxt:Nat
 len:Nat
 apY:Nat
 rz:Nat
 rot:Nat
 swr:Nat
section
variable(σ:C_)(sz:Nat)
def ao9:aG:=yr [ym 37 0,ym 38 9,ym 39 0,ym 40 9,yn 41 (.bin .sub (R 40) (yi 1)),ym 42 0,ym 43 9,yn 44 (.bin .sub (R 43) (yi 1)),ya 45 sz 42 44,yl 46 sz 45,ym 47 0,ym 48 9,ya 49 sz 47 48,yl 50 sz 49,ya 51 sz 37 38,ys sz 51 46,ya 52 sz 39 41,ys sz 52 50]
def ao':aG:=yr [ym 35 9,yn 36 (.bin .sub (R 35) (yi 1)),ym 9 36]
def ao8:aG:=.seq (.block 3 (ao9 sz)) (ao')
def ao7:aG:=.seq (.seq (yr [ym 18 9,ym 19 1,yb 20 .gtr 18 19,ym 21 20,ygm 22 3 21,ygm 23 0 21,ygm 24 9 21,⟨D 25,.bE sz ab (R 23) (R 24),G 21 ae⟩,ygl 26 sz 25 21,ygm 27 0 21,ygm 28 9 21,⟨D 29,.bin .sub (R 28) (yi 1),G 21 ae⟩,⟨D 30,.bE sz ab (R 27) (R 29),G 21 ae⟩,ygl 31 sz 30 21,⟨D 32,.cj (R 22) [R 26,R 31] ae,G 21 ae⟩,⟨D 33,.bin .lss (R 32) (yi 0),G 21 ae⟩,yn 34 (.pick (R 21) (R 33) yf)]) (.cond (R 34) .skip (.exit 2))) (ao8 sz)
def ao6:aG:=.seq (yr [ym 17 8,ym 9 17]) (.block 2 (.loop (ao7 sz)))
def zQ:aG:=yr [ym 15 8,yn 16 (.bin .add (R 15) (yi 1)),ym 8 16]
def asd:aG:=.seq (.block 1 (ao6 sz)) (zQ)
def F2:aG:=.seq (.seq (yr [ym 12 8,ym 13 2,yb 14 .lss 12 13]) (.cond (R 14) .skip (.exit 0))) (asd sz)
def asc:aG:=.seq (yr [ym 10 1,yn 11 (.bin .add (R 10) (yi 1)),ym 8 11]) (.block 0 (.loop (F2 sz)))
def amc(σ:C_)(sz:Nat):aL:=⟨[P.nat 0,P.nat 1,P.nat 2,P.nat 3],[],(asc sz)⟩
end
end
section
open Go
def Cv(tab:TB)(cv:V)(W:List FC→Prop)(c:List FC→List FC→Int):Prop:=
 ∀ x y,W x→W y→∀ H,∃ F b J,bX cv [.a (x.map .f),.a (y.map .f)]=aa (.fn F,b)∧Ev tab (.fn F) b H (vi (c x y)) (H++J)
section
variable{W:List FC→Prop}{c:List FC→List FC→Int}{l:List (List FC)}
theorem kv.of_lt{i j:Nat}(hc:Dp W c)(b:∀ r ∈ l,W r){x y:List FC}(d:l[i]?=aa x)(hy:l[j]?=aa y)(h:c x y<0):kv c l i j:=fun g m h1 h2=>by
 rw [d]at h1;rw [hy]at h2;cases h1;cases h2;exact hc.arQ (b _ (avo d)) (b _ (avo hy)) h
theorem kv.of_le{i j:Nat}{x y:List FC}(b:l[i]?=aa x)(hy:l[j]?=aa y)(h:¬ c y x<0):kv c l i j:=fun d g h1 h2=>by
 rw [b]at h1;rw [hy]at h2;cases h1;cases h2;exact h
theorem kv.get{l':List (List FC)}{i j b d:Nat}(h:kv c l i j)(h1:l'[b]?=l[i]?)(h2:l'[d]?=l[j]?):kv c l' b d:=fun x y g hy=>h x y (by rw [←h1];exact g) (by rw [←h2];exact hy)
def Ins(c:List FC→List FC→Int)(a i j:Nat)(l:List (List FC)):Prop:=∀ p q,a≤p→p<q→q≤i→q≠j→kv c l p q
theorem Ins.start{a i:Nat}(h:Up c a i l):Ins c a i i l:=fun p q h1 h2 h3 h4=>fun x y=>h p q x y h1 h2 (by omega)
theorem Ins.step{a i j:Nat}(hc:Dp W c)(s:∀ r ∈ l,W r)(h:Ins c a i (j+1) l)(u:a≤j)(z:j+1≤i)(hi:i<l.length){x y:List FC}(v:l[j+1]?=aa x)(hy:l[j]?=aa y)(d:c x y<0):Ins c a i j (AD l (j+1) j):=by
 intro p q h1 h2 h3 h4;have g:∀ k,(AD l (j+1) j)[k]?=if k=j then l[j+1]? else if k=j+1 then l[j]? else l[k]?:=fun k=>od (by omega) (by omega) k;by_cases q1:q=j+1
 ·subst q1;by_cases p1:p=j
  ·subst p1;exact(kv.of_lt hc s v hy d).get (by rw [g,bf rfl]) (by rw [g,aY (by omega),bf rfl])
  ·exact(h p j h1 (by omega) (by omega) (by omega)).get (by rw [g,aY (by omega),aY (by omega)]) (by rw [g,aY (by omega),bf rfl])
 ·have b:(AD l (j+1) j)[q]?=l[q]?:=by rw [g,aY h4,aY q1]
  by_cases p1:p=j
  ·subst p1;exact(h (p+1) q (by omega) (by omega) h3 q1).get (by rw [g,bf rfl]) b
  by_cases m:p=j+1
  ·subst m;exact(h j q u (by omega) h3 q1).get (by rw [g,aY (by omega),bf rfl]) b
  ·exact(h p q h1 h2 h3 q1).get (by rw [g,aY p1,aY m]) b
theorem Ins.front{a i:Nat}(h:Ins c a i a l):Up c a (i+1) l:=fun p q x y h1 h2 h3=>h p q h1 h2 (by omega) (by omega) x y
theorem Ins.stop{a i j:Nat}(hc:Dp W c)(d:∀ r ∈ l,W r)(h:Ins c a i (j+1) l)(g:a≤j)(m:j+1≤i)(hi:i<l.length)(b:kv c l j (j+1)):Up c a (i+1) l:=by
 intro p q x y h1 h2 h3;by_cases q1:q=j+1
 ·subst q1;by_cases p1:p=j
  ·subst p1;exact b x y
  ·exact((h p j h1 (by omega) (by omega) (by omega)).trans hc d b (by omega)) x y
 ·exact h p q h1 h2 (by omega) q1 x y
end
section
variable{tab:TB}{σ:C_}{sz:Nat}{H:aj}{b ep:Nat}{rows:List (List FC)}{cv:V}{W:List FC→Prop}{c:List FC→List FC→Int}
theorem RB.at(h:RB H b sz ep rows){i:Nat}(hi:i<rows.length):bH H sz ab (.c (.sl b 0 rows.length 0 ep sz)) (vi i)=aa (.c (.ptr b (i*sz) ep)):=by
 have:=h.idx (n:=rows.length) (c:=0) (k:=.i64) (o:=0) (i:=(i:Int)) (by omega) (by omega);rwa [avr,avP]at this
theorem RB.ldi(h:RB H b sz ep rows)(hg:cu sz rows){i:Nat}(hi:i<rows.length):aR H (aa sz) (.c (.ptr b (i*sz) ep))=aa (.a (rows[i].map .f)):=h.ldr hg (By hi)
theorem DZ(hT:tab σ.ins=aa (amc σ sz))(c_:Cv tab cv W c)(hc:Dp W c){n a e:Nat}(hn:rows.length=n)(hl:n≤1000000000)(d:RB H b sz ep rows)(hg:cu sz rows)(hW:∀ r ∈ rows,W r)(e_:a≤e)(f7:e≤n) :
  ∃ r H',Ev tab (.fn σ.ins) [.c (.sl b 0 n 0 ep sz),vi a,vi e,cv] H r H'∧(r=.t []∧Fm b H H'∧∃ l',RB H' b sz ep l'∧iT a e rows l'∧Up c a e l'):=by
 refine cL hT rfl fun Q hQ=>?_;apply ai;simp [aW (n:=(a:Int)+1)];refine aF ?_;refine cI (fun m s=>∃(i:Nat) (t:T) (U:aj) (l:List (List FC)),s=⟨t,[],U⟩∧m=n+1-i∧a+1≤i∧(i≤e∨i=a+1)∧t.g 0=.c (.sl b 0 n 0 ep sz)∧t.g 1=vi a∧t.g 2=vi e∧t.g 3=cv∧t.g 8=vi i ∧
  Fm b H U∧RB U b sz ep l∧iT a e rows l∧Up c a i l) _
  ⟨a+1,_,H,rows,rfl,rfl,by omega,.inr rfl,by simp,by simp,by simp,by simp,by simp,Fm.refl H,d,iT.refl _ _ _,Up.one (by omega)⟩ ?_
 rintro m s ⟨i,t,U,l,rfl,rfl,f8,hi,g0,B,K,L,E,v,d,g,b_⟩ ih;have A:=g.len;apply an;apply ai;simp [E,K];by_cases b9:i<e
 case neg=>
  refine aB (by simp [b9]) ?_;refine bJ (k':=[]) rfl ?_;exact cE (hQ _ _ _ rfl rfl ⟨rfl,v,l,d,g,b_.mono (aft _) (by omega)⟩)
 refine au (by simp [b9]) (aP ?_);apply an;refine aF ?_;apply ai;simp [E];refine aF ?_;refine cI (fun m s=>∃(j:Nat) (t:T) (O:aj) (q:List (List FC)),s=⟨t,[],O⟩∧j=m∧a≤j∧j≤i∧t.g 0=.c (.sl b 0 n 0 ep sz)∧t.g 1=vi a∧t.g 2=vi e∧t.g 3=cv∧t.g 8=vi i∧t.g 9=vi j ∧
  Fm b H O∧RB O b sz ep q∧iT a e rows q∧Ins c a i j q) i
  ⟨i,_,U,l,rfl,rfl,by omega,by omega,by simp [g0],by simp [B],by simp [K],by simp [L],by simp [E],by simp,v,d,g,Ins.start b_⟩ ?_
 rintro m s ⟨j,t,O,q,rfl,rfl,f_,a_,g0,B,K,L,E,X,v,d,g,z⟩ d_;have A:=g.len;have x:=g.wV hg;have I:∀ r ∈ q,W r:=fun r hr=>hW r (g.1.mem_iff.1 hr);have stop:Up c a (i+1) q→∀ t:T,t.g 0=.c (.sl b 0 n 0 ep sz)→t.g 1=vi a→t.g 2=vi e→t.g 3=cv→t.g 8=vi i→∀ S,Fm b H S→RB S b sz ep q →
   WP tab σ.ins ab [.inBlock 1,.code (zQ),.inLoop (F2 sz),.inBlock 0] ⟨t,[],S⟩ Q:=by
  intro hp t g0 B K L E S v d;refine aA (aq (.inl rfl) ?_);simp [E,aW (n:=(i:Int)+1)];exact ih (n+1-(i+1)) _ (by omega) ⟨i+1,_,S,q,rfl,rfl,by omega,.inl (by omega),by simp [g0],by simp [B],by simp [K],by simp [L],by simp,v,d,g,hp⟩
 apply an;apply ai;by_cases hj:j=a
 ·subst hj;simp [X,B];refine aB (by simp) ?_;refine bJ (k':=[.inBlock 1,.code (zQ),.inLoop (F2 sz),.inBlock 0]) rfl ?_;exact stop z.front _ (by simp [g0]) (by simp [B]) (by simp [K]) (by simp [L]) (by simp [E]) _ v d
 obtain⟨k,rfl⟩:∃ k,j=k+1:=⟨j-1,by omega⟩
 have N:k+1<q.length:=by omega
 have c1:((k+1:Nat):Int)=(k:Int)+1:=by omega
 have M:=d.at N;have i0:=d.at (show k<q.length by omega);have l1:=d.ldi x N;have l0:=d.ldi x (show k<q.length by omega);rw [A,hn]at M i0;rw [c1]at M X;obtain⟨F,ar,J,Z,d9⟩:=c_ q[k+1] q[k] (I _ (anc _)) (I _ (anc _)) O;have he:=d9.eq;have gt:(a:Int)<(k:Int)+1:=by omega
 simp [X,g0,B,L,gt,M,i0,l1,l0,Z,he,-aw,aW (n:=(k:Int))];by_cases y:c q[k+1] q[k]<0
 case neg=>
  refine aB (by simp [y]) ?_;refine bJ (k':=[.inBlock 1,.code (zQ),.inLoop (F2 sz),.inBlock 0]) rfl ?_;exact stop (z.stop hc I (by omega) a_ (by omega) (kv.of_le (By (by omega)) (By N) y)) _ (by simp [g0]) (by simp [B]) (by simp [K]) (by simp [L]) (by simp [E]) _ (v.trans (Fm.push _ _)) (d.push _)
 refine au (by simp [y]) (aP ?_);have w1:q[k+1].length=sz:=x _ (anc _);have w0:q[k].length=sz:=x _ (anc _);have u:=d.push J;obtain⟨HJ,Y⟩:=aJ (O++J);rw [←Y]at u ⊢;have a8:Fm b H HJ:=by rw [Y];exact v.trans (Fm.push _ _)
 have M:=u.at N;have i0:=u.at (show k<q.length by omega);have l1:=u.ldi x N;have l0:=u.ldi x (show k<q.length by omega);obtain⟨S,H4,s1,r1,s2,r2,f2⟩:=u.swap x N (show k<q.length by omega);have i2:=r1.at (show k<(q.set (k+1) q[k]).length by simp;omega);rw [avw]at i2;rw [A,hn]at M i0 i2;rw [c1]at M;apply an;refine aF ?_;refine aq (.inl rfl) ?_;simp [X,g0,M,i0,i2,l1,l0,s1,s2,w1,w0,-aw,-bh,aW (n:=(k:Int))];refine aA ?_;refine aq (.inl rfl) ?_;simp [X,aW (n:=(k:Int))];exact d_ k _ (by omega) ⟨k,_,H4,AD q (k+1) k,rfl,rfl,by omega,by omega,by simp [g0],by simp [B],by simp [K],by simp [L],by simp [E],by simp,a8.trans f2,r2,
  g.trans (uh (by omega) (by omega) (by omega) (by omega) (by omega)),z.step hc I (by omega) a_ (by omega) (By N) (By (by omega)) y⟩
end
end
section
open Go
section
variable{tab:TB}{σ:C_}{sz:Nat}{H:aj}{b ep:Nat}{rows:List (List FC)}{cv:V}{W:List FC→Prop}{c:List FC→List FC→Int}
theorem RB.AD(h:RB H b sz ep rows)(hg:cu sz rows){n i j:Nat}(s:rows.length=n)(hi:i<n)(l:j<n):∃(x y:List FC) (d g:aj),rows[i]?=aa x∧rows[j]?=aa y ∧
  bH H sz ab (.c (.sl b 0 n 0 ep sz)) (vi i)=aa (.c (.ptr b (i*sz) ep))∧bH H sz ab (.c (.sl b 0 n 0 ep sz)) (vi j)=aa (.c (.ptr b (j*sz) ep)) ∧
  aR H (aa sz) (.c (.ptr b (i*sz) ep))=aa (.a (x.map .f))∧aR H (aa sz) (.c (.ptr b (j*sz) ep))=aa (.a (y.map .f))∧x.length=sz∧y.length=sz ∧
  cX H (.ptr b (i*sz) ep) (y.map .f)=aa d∧bH d sz ab (.c (.sl b 0 n 0 ep sz)) (vi j)=aa (.c (.ptr b (j*sz) ep))∧cX d (.ptr b (j*sz) ep) (x.map .f)=aa g∧RB g b sz ep (AD rows i j)∧Fm b H g:=by
 subst s;obtain⟨d,g,v,r1,z,u,q⟩:=h.swap hg hi l;have m:=r1.at (show j<(rows.set i rows[j]).length by simpa using l);rw [avw]at m;exact⟨rows[i],rows[j],d,g,By hi,By l,h.at hi,h.at l,h.ldi hg hi,h.ldi hg l,hg _ (anc _),hg _ (anc _),v,m,z,u,q⟩
theorem RB.ask(h:RB H b sz ep rows)(hg:cu sz rows)(l:Cv tab cv W c)(g:∀ r ∈ rows,W r){n i j:Nat}(q:rows.length=n)(hi:i<n)(m:j<n):∃(x y:List FC) (F:Nat) (d:List V) (J:aj),rows[i]?=aa x∧rows[j]?=aa y ∧
  bH H sz ab (.c (.sl b 0 n 0 ep sz)) (vi i)=aa (.c (.ptr b (i*sz) ep))∧bH H sz ab (.c (.sl b 0 n 0 ep sz)) (vi j)=aa (.c (.ptr b (j*sz) ep)) ∧
  aR H (aa sz) (.c (.ptr b (i*sz) ep))=aa (.a (x.map .f))∧aR H (aa sz) (.c (.ptr b (j*sz) ep))=aa (.a (y.map .f)) ∧
  bX cv [.a (x.map .f),.a (y.map .f)]=aa (.fn F,d)∧Ev tab (.fn F) d H=E2 (vi (c x y)) (H++J)∧W x∧W y:=by
 subst q;obtain⟨F,d,J,h1,h2⟩:=l rows[i] rows[j] (g _ (anc _)) (g _ (anc _)) H;exact⟨rows[i],rows[j],F,d,J,By hi,By m,h.at hi,h.at m,h.ldi hg hi,h.ldi hg m,h1,h2.eq,g _ (anc _),g _ (anc _)⟩
def Kp(H H':aj):Prop:=H.length≤H'.length∧∀ b:Nat,b<H.length→H'[b]?=H[b]?
theorem Kp.refl(H:aj):Kp H H:=⟨aft _,fun _ _=>rfl⟩
theorem Kp.push(H J:aj):Kp H (H++J):=⟨by simp,fun b l=>AT l⟩
theorem Kp.next{H H' b:aj}{p:Nat}(h:Kp H H')(j:H.length≤p)(g:Fm p H' b):Kp H b:=⟨avv h.1 g.1,fun d l=>(g.2 d (by omega) (avJ l h.1)).trans (h.2 d l)⟩
end
end
section
set_option linter.unusedVariables false
open Go
section
variable(σ:C_)(sz:Nat)
def alr:aG:=.region [⟨D 20,.aZ (R 8),ab⟩,⟨D 21,.aZ (R 6),ab⟩,⟨D 22,.bin .add (R 20) (R 21),ab⟩,⟨D 8,.aZ (R 22),ab⟩] []
def alq:aG:=.seq (.region [⟨D 19,.aZ (R 8),ab⟩,⟨D 7,.aZ (R 19),ab⟩] []) (alr)
def alp:aG:=.seq (.region [⟨D 14,.aZ (R 0),ab⟩,⟨D 15,.aZ (R 7),ab⟩,⟨D 16,.aZ (R 8),ab⟩,⟨D 17,.aZ (R 2),ab⟩,⟨D 18,.call σ.ins [(R 14),(R 15),(R 16),(R 17)] ae,ab⟩] []) (alq)
def ap2:aG:=.seq (.seq (.region [⟨D 11,.aZ (R 8),ab⟩,⟨D 12,.aZ (R 1),ab⟩,⟨D 13,.bin .leq (R 11) (R 12),ab⟩] []) (.cond (R 13) .skip (.exit 0))) (.block 1 (alp σ))
def aly:aG:=.region [⟨D 45,.aZ (R 8),ab⟩,⟨D 46,.aZ (R 6),ab⟩,⟨D 47,.bin .mul (.k (.c (.f (.int .i64 2)))) (R 46),ab⟩,⟨D 48,.bin .add (R 45) (R 47),ab⟩,⟨D 8,.aZ (R 48),ab⟩] []
def alx:aG:=.seq (.region [⟨D 44,.aZ (R 8),ab⟩,⟨D 7,.aZ (R 44),ab⟩] []) (aly)
def alw:aG:=.seq (.region [⟨D 36,.aZ (R 0),ab⟩,⟨D 37,.aZ (R 7),ab⟩,⟨D 38,.aZ (R 7),ab⟩,⟨D 39,.aZ (R 6),ab⟩,⟨D 40,.bin .add (R 38) (R 39),ab⟩,⟨D 41,.aZ (R 8),ab⟩,⟨D 42,.aZ (R 2),ab⟩,⟨D 43,.call σ.rz [(R 36),(R 37),(R 40),(R 41),(R 42)] ae,ab⟩] []) (alx)
def alv:aG:=.seq (.seq (.region [⟨D 33,.aZ (R 8),ab⟩,⟨D 34,.aZ (R 1),ab⟩,⟨D 35,.bin .leq (R 33) (R 34),ab⟩] []) (.cond (R 35) .skip (.exit 4))) (.block 5 (alw σ))
def alA:aG:=.region [⟨D 55,.aZ (R 0),ab⟩,⟨D 56,.aZ (R 7),ab⟩,⟨D 57,.aZ (R 9),ab⟩,⟨D 58,.aZ (R 1),ab⟩,⟨D 59,.aZ (R 2),ab⟩,⟨D 60,.call σ.rz [(R 55),(R 56),(R 57),(R 58),(R 59)] ae,ab⟩] []
def alz:aG:=.seq (.region [⟨D 52,.aZ (R 9),ab⟩,⟨D 53,.aZ (R 1),ab⟩,⟨D 54,.bin .lss (R 52) (R 53),ab⟩] []) (.cond (R 54) (alA σ) .skip)
def alB:aG:=.region [⟨D 61,.aZ (R 6),ab⟩,⟨D 62,.bin .mul (R 61) (.k (.c (.f (.int .i64 2)))),ab⟩,⟨D 6,.aZ (R 62),ab⟩] []
def GD:aG:=.seq (.seq (.region [⟨D 49,.aZ (R 7),ab⟩,⟨D 50,.aZ (R 6),ab⟩,⟨D 51,.bin .add (R 49) (R 50),ab⟩,⟨D 9,.aZ (R 51),ab⟩] []) (alz σ)) (alB)
def alu:aG:=.seq (.block 4 (.loop (alv σ))) (GD σ)
def als:aG:=.seq (.region [⟨D 31,.aZ (R 6),ab⟩,⟨D 32,.bin .mul (.k (.c (.f (.int .i64 2)))) (R 31),ab⟩,⟨D 7,.aZ (.k (.c (.f (.int .i64 0)))),ab⟩,⟨D 8,.aZ (R 32),ab⟩] []) (alu σ)
def GC:aG:=.seq (.seq (.region [⟨D 28,.aZ (R 6),ab⟩,⟨D 29,.aZ (R 1),ab⟩,⟨D 30,.bin .lss (R 28) (R 29),ab⟩] []) (.cond (R 30) .skip (.exit 2))) (.block 3 (als σ))
def Aq:aG:=.seq (.region [⟨D 23,.aZ (R 0),ab⟩,⟨D 24,.aZ (R 7),ab⟩,⟨D 25,.aZ (R 1),ab⟩,⟨D 26,.aZ (R 2),ab⟩,⟨D 27,.call σ.ins [(R 23),(R 24),(R 25),(R 26)] ae,ab⟩] []) (.block 2 (.loop (GC σ)))
def ap1:aG:=.seq (.block 0 (.loop (ap2 σ))) (Aq σ)
def ap0:aG:=.seq (.region [⟨D 10,.aZ (R 6),ab⟩,⟨D 7,.aZ (.k (.c (.f (.int .i64 0)))),ab⟩,⟨D 8,.aZ (R 10),ab⟩] []) (ap1 σ)
def apZ:aG:=.seq (.region [⟨D 6,.aZ (.k (.c (.f (.int .i64 20)))),ab⟩] []) (ap0 σ)
def ap3(σ:C_)(sz:Nat):aL:=⟨[P.nat 0,P.nat 1,P.nat 2],[],(apZ σ)⟩
end
section
variable(σ:C_)(sz:Nat)
def akV:aG:=.region [⟨D 51,.aZ (R 12),ab⟩,⟨D 52,.bin .add (R 51) (.k (.c (.f (.int .i64 1)))),ab⟩,⟨D 10,.aZ (R 52),ab⟩] []
def akW:aG:=.region [⟨D 53,.aZ (R 12),ab⟩,⟨D 11,.aZ (R 53),ab⟩] []
def akU:aG:=.seq (.region [⟨D 40,.aZ (R 4),ab⟩,⟨D 41,.aZ (R 0),ab⟩,⟨D 42,.aZ (R 12),ab⟩,⟨D 43,.bE sz ab (R 41) (R 42),ab⟩,⟨D 44,.load (aa sz) (R 43),ab⟩,⟨D 45,.aZ (R 0),ab⟩,⟨D 46,.aZ (R 1),ab⟩,⟨D 47,.bE sz ab (R 45) (R 46),ab⟩,⟨D 48,.load (aa sz) (R 47),ab⟩,⟨D 49,.cj (R 40) [(R 44),(R 48)] ae,ab⟩,⟨D 50,.bin .lss (R 49) (.k (.c (.f (.int .i64 0)))),ab⟩] []) (.cond (R 50) akV akW)
def akT:aG:=.seq (.region [⟨D 34,.aZ (R 10),ab⟩,⟨D 35,.aZ (R 11),ab⟩,⟨D 36,.bin .add (R 34) (R 35),ab⟩,⟨D 37,.fT .u64 (R 36),ab⟩,⟨D 38,.bin .shr (R 37) (.k (.c (.f (.int .u64 1)))),ab⟩,⟨D 39,.fT .i64 (R 38),ab⟩,⟨D 12,.aZ (R 39),ab⟩] []) (akU sz)
def akS:aG:=.seq (.seq (.region [⟨D 31,.aZ (R 10),ab⟩,⟨D 32,.aZ (R 11),ab⟩,⟨D 33,.bin .lss (R 31) (R 32),ab⟩] []) (.cond (R 33) .skip (.exit 0))) (.block 1 (akT sz))
def akZ:aG:=.region [⟨D 61,.aZ (R 0),ab⟩,⟨D 62,.aZ (R 13),ab⟩,⟨D 63,.aZ (R 0),ab⟩,⟨D 64,.aZ (R 13),ab⟩,⟨D 65,.bin .add (R 64) (.k (.c (.f (.int .i64 1)))),ab⟩,⟨D 66,.aZ (R 0),ab⟩,⟨D 67,.aZ (R 13),ab⟩,⟨D 68,.bin .add (R 67) (.k (.c (.f (.int .i64 1)))),ab⟩,⟨D 69,.bE sz ab (R 66) (R 68),ab⟩,⟨D 70,.load (aa sz) (R 69),ab⟩,⟨D 71,.aZ (R 0),ab⟩,⟨D 72,.aZ (R 13),ab⟩,⟨D 73,.bE sz ab (R 71) (R 72),ab⟩,⟨D 74,.load (aa sz) (R 73),ab⟩,⟨D 75,.bE sz ab (R 61) (R 62),ab⟩,⟨ab,.store sz (R 75) (R 70),ab⟩,⟨D 76,.bE sz ab (R 63) (R 65),ab⟩,⟨ab,.store sz (R 76) (R 74),ab⟩] []
def ak0:aG:=.region [⟨D 59,.aZ (R 13),ab⟩,⟨D 60,.bin .add (R 59) (.k (.c (.f (.int .i64 1)))),ab⟩,⟨D 13,.aZ (R 60),ab⟩] []
def akY:aG:=.seq (.block 3 (akZ sz)) (ak0)
def akX:aG:=.seq (.seq (.region [⟨D 55,.aZ (R 13),ab⟩,⟨D 56,.aZ (R 10),ab⟩,⟨D 57,.bin .sub (R 56) (.k (.c (.f (.int .i64 1)))),ab⟩,⟨D 58,.bin .lss (R 55) (R 57),ab⟩] []) (.cond (R 58) .skip (.exit 2))) (akY sz)
def Gx:aG:=.seq (.seq (.region [⟨D 54,.aZ (R 1),ab⟩,⟨D 13,.aZ (R 54),ab⟩] []) (.block 2 (.loop (akX sz)))) .ret
def apW:aG:=.seq (.block 0 (.loop (akS sz))) (Gx sz)
def apV:aG:=.seq (.region [⟨D 30,.aZ (R 3),ab⟩,⟨D 11,.aZ (R 30),ab⟩] []) (apW sz)
def aeH:aG:=.seq (.region [⟨D 29,.aZ (R 2),ab⟩,⟨D 10,.aZ (R 29),ab⟩] []) (apV sz)
def ak7:aG:=.region [⟨D 104,.aZ (R 16),ab⟩,⟨D 105,.bin .add (R 104) (.k (.c (.f (.int .i64 1)))),ab⟩,⟨D 14,.aZ (R 105),ab⟩] []
def ak8:aG:=.region [⟨D 106,.aZ (R 16),ab⟩,⟨D 15,.aZ (R 106),ab⟩] []
def ak6:aG:=.seq (.region [⟨D 92,.aZ (R 4),ab⟩,⟨D 93,.aZ (R 0),ab⟩,⟨D 94,.aZ (R 2),ab⟩,⟨D 95,.bE sz ab (R 93) (R 94),ab⟩,⟨D 96,.load (aa sz) (R 95),ab⟩,⟨D 97,.aZ (R 0),ab⟩,⟨D 98,.aZ (R 16),ab⟩,⟨D 99,.bE sz ab (R 97) (R 98),ab⟩,⟨D 100,.load (aa sz) (R 99),ab⟩,⟨D 101,.cj (R 92) [(R 96),(R 100)] ae,ab⟩,⟨D 102,.bin .lss (R 101) (.k (.c (.f (.int .i64 0)))),ab⟩,⟨D 103,.un .not (R 102),ab⟩] []) (.cond (R 103) ak7 ak8)
def ak5:aG:=.seq (.region [⟨D 86,.aZ (R 14),ab⟩,⟨D 87,.aZ (R 15),ab⟩,⟨D 88,.bin .add (R 86) (R 87),ab⟩,⟨D 89,.fT .u64 (R 88),ab⟩,⟨D 90,.bin .shr (R 89) (.k (.c (.f (.int .u64 1)))),ab⟩,⟨D 91,.fT .i64 (R 90),ab⟩,⟨D 16,.aZ (R 91),ab⟩] []) (ak6 sz)
def ak4:aG:=.seq (.seq (.region [⟨D 83,.aZ (R 14),ab⟩,⟨D 84,.aZ (R 15),ab⟩,⟨D 85,.bin .lss (R 83) (R 84),ab⟩] []) (.cond (R 85) .skip (.exit 4))) (.block 5 (ak5 sz))
def ak_:aG:=.region [⟨D 113,.aZ (R 0),ab⟩,⟨D 114,.aZ (R 17),ab⟩,⟨D 115,.aZ (R 0),ab⟩,⟨D 116,.aZ (R 17),ab⟩,⟨D 117,.bin .sub (R 116) (.k (.c (.f (.int .i64 1)))),ab⟩,⟨D 118,.aZ (R 0),ab⟩,⟨D 119,.aZ (R 17),ab⟩,⟨D 120,.bin .sub (R 119) (.k (.c (.f (.int .i64 1)))),ab⟩,⟨D 121,.bE sz ab (R 118) (R 120),ab⟩,⟨D 122,.load (aa sz) (R 121),ab⟩,⟨D 123,.aZ (R 0),ab⟩,⟨D 124,.aZ (R 17),ab⟩,⟨D 125,.bE sz ab (R 123) (R 124),ab⟩,⟨D 126,.load (aa sz) (R 125),ab⟩,⟨D 127,.bE sz ab (R 113) (R 114),ab⟩,⟨ab,.store sz (R 127) (R 122),ab⟩,⟨D 128,.bE sz ab (R 115) (R 117),ab⟩,⟨ab,.store sz (R 128) (R 126),ab⟩] []
def ala:aG:=.region [⟨D 111,.aZ (R 17),ab⟩,⟨D 112,.bin .sub (R 111) (.k (.c (.f (.int .i64 1)))),ab⟩,⟨D 17,.aZ (R 112),ab⟩] []
def ak':aG:=.seq (.block 7 (ak_ sz)) (ala)
def ak9:aG:=.seq (.seq (.region [⟨D 108,.aZ (R 17),ab⟩,⟨D 109,.aZ (R 14),ab⟩,⟨D 110,.bin .gtr (R 108) (R 109),ab⟩] []) (.cond (R 110) .skip (.exit 6))) (ak' sz)
def Gz:aG:=.seq (.seq (.region [⟨D 107,.aZ (R 2),ab⟩,⟨D 17,.aZ (R 107),ab⟩] []) (.block 6 (.loop (ak9 sz)))) .ret
def ak3:aG:=.seq (.block 4 (.loop (ak4 sz))) (Gz sz)
def ak2:aG:=.seq (.region [⟨D 82,.aZ (R 2),ab⟩,⟨D 15,.aZ (R 82),ab⟩] []) (ak3 sz)
def Gy:aG:=.seq (.region [⟨D 81,.aZ (R 1),ab⟩,⟨D 14,.aZ (R 81),ab⟩] []) (ak2 sz)
def alg:aG:=.region [⟨D 144,.aZ (R 18),ab⟩,⟨D 21,.aZ (R 144),ab⟩] []
def alf:aG:=.seq (.region [⟨D 141,.aZ (R 19),ab⟩,⟨D 142,.aZ (R 3),ab⟩,⟨D 143,.bin .sub (R 141) (R 142),ab⟩,⟨D 20,.aZ (R 143),ab⟩] []) (alg)
def ali:aG:=.region [⟨D 146,.aZ (R 2),ab⟩,⟨D 21,.aZ (R 146),ab⟩] []
def alh:aG:=.seq (.region [⟨D 145,.aZ (R 1),ab⟩,⟨D 20,.aZ (R 145),ab⟩] []) (ali)
def aeB:aG:=.region [⟨D 172,.aZ (R 23),ab⟩,⟨D 173,.bin .add (R 172) (.k (.c (.f (.int .i64 1)))),ab⟩,⟨D 20,.aZ (R 173),ab⟩] []
def aeC:aG:=.region [⟨D 174,.aZ (R 23),ab⟩,⟨D 21,.aZ (R 174),ab⟩] []
def aeA:aG:=.seq (.region [⟨D 158,.aZ (R 4),ab⟩,⟨D 159,.aZ (R 0),ab⟩,⟨D 160,.aZ (R 22),ab⟩,⟨D 161,.aZ (R 23),ab⟩,⟨D 162,.bin .sub (R 160) (R 161),ab⟩,⟨D 163,.bE sz ab (R 159) (R 162),ab⟩,⟨D 164,.load (aa sz) (R 163),ab⟩,⟨D 165,.aZ (R 0),ab⟩,⟨D 166,.aZ (R 23),ab⟩,⟨D 167,.bE sz ab (R 165) (R 166),ab⟩,⟨D 168,.load (aa sz) (R 167),ab⟩,⟨D 169,.cj (R 158) [(R 164),(R 168)] ae,ab⟩,⟨D 170,.bin .lss (R 169) (.k (.c (.f (.int .i64 0)))),ab⟩,⟨D 171,.un .not (R 170),ab⟩] []) (.cond (R 171) aeB aeC)
def alm:aG:=.seq (.region [⟨D 152,.aZ (R 20),ab⟩,⟨D 153,.aZ (R 21),ab⟩,⟨D 154,.bin .add (R 152) (R 153),ab⟩,⟨D 155,.fT .u64 (R 154),ab⟩,⟨D 156,.bin .shr (R 155) (.k (.c (.f (.int .u64 1)))),ab⟩,⟨D 157,.fT .i64 (R 156),ab⟩,⟨D 23,.aZ (R 157),ab⟩] []) (aeA sz)
def alk:aG:=.seq (.seq (.region [⟨D 149,.aZ (R 20),ab⟩,⟨D 150,.aZ (R 21),ab⟩,⟨D 151,.bin .lss (R 149) (R 150),ab⟩] []) (.cond (R 151) .skip (.exit 8))) (.block 9 (alm sz))
def aeE:aG:=.region [⟨D 186,.aZ (R 0),ab⟩,⟨D 187,.aZ (R 20),ab⟩,⟨D 188,.aZ (R 2),ab⟩,⟨D 189,.aZ (R 24),ab⟩,⟨D 190,.aZ (R 4),ab⟩,⟨D 191,.call σ.rot [(R 186),(R 187),(R 188),(R 189),(R 190)] ae,ab⟩] []
def aeF:aG:=.region [⟨D 200,.aZ (R 0),ab⟩,⟨D 201,.aZ (R 1),ab⟩,⟨D 202,.aZ (R 20),ab⟩,⟨D 203,.aZ (R 18),ab⟩,⟨D 204,.aZ (R 4),ab⟩,⟨D 205,.call σ.rz [(R 200),(R 201),(R 202),(R 203),(R 204)] ae,ab⟩] []
def aeG:aG:=.region [⟨D 214,.aZ (R 0),ab⟩,⟨D 215,.aZ (R 18),ab⟩,⟨D 216,.aZ (R 24),ab⟩,⟨D 217,.aZ (R 3),ab⟩,⟨D 218,.aZ (R 4),ab⟩,⟨D 219,.call σ.rz [(R 214),(R 215),(R 216),(R 217),(R 218)] ae,ab⟩] []
def CO:aG:=.seq (.region [⟨D 206,.aZ (R 18),ab⟩,⟨D 207,.aZ (R 24),ab⟩,⟨D 208,.bin .lss (R 206) (R 207),ab⟩,⟨D 209,.aZ (R 208),ab⟩,ygm 210 24 209,ygm 211 3 209,⟨D 212,.bin .lss (R 210) (R 211),G 209 ae⟩,⟨D 213,.pick (R 209) (R 212) (.k (.c (.f (.bool ag)))),ab⟩] []) (.cond (R 213) (aeG σ) .skip)
def CN:aG:=.seq (.seq (.region [⟨D 192,.aZ (R 1),ab⟩,⟨D 193,.aZ (R 20),ab⟩,⟨D 194,.bin .lss (R 192) (R 193),ab⟩,⟨D 195,.aZ (R 194),ab⟩,ygm 196 20 195,ygm 197 18 195,⟨D 198,.bin .lss (R 196) (R 197),G 195 ae⟩,⟨D 199,.pick (R 195) (R 198) (.k (.c (.f (.bool ag)))),ab⟩] []) (.cond (R 199) (aeF σ) .skip)) (CO σ)
def aeD:aG:=.seq (.seq (.region [⟨D 178,.aZ (R 20),ab⟩,⟨D 179,.aZ (R 2),ab⟩,⟨D 180,.bin .lss (R 178) (R 179),ab⟩,⟨D 181,.aZ (R 180),ab⟩,ygm 182 2 181,ygm 183 24 181,⟨D 184,.bin .lss (R 182) (R 183),G 181 ae⟩,⟨D 185,.pick (R 181) (R 184) (.k (.c (.f (.bool ag)))),ab⟩] []) (.cond (R 185) (aeE σ) .skip)) (CN σ)
def wk:aG:=.seq (.region [⟨D 175,.aZ (R 19),ab⟩,⟨D 176,.aZ (R 20),ab⟩,⟨D 177,.bin .sub (R 175) (R 176),ab⟩,⟨D 24,.aZ (R 177),ab⟩] []) (aeD σ)
def alj:aG:=.seq (.block 8 (.loop (alk sz))) (wk σ)
def GA:aG:=.seq (.region [⟨D 147,.aZ (R 19),ab⟩,⟨D 148,.bin .sub (R 147) (.k (.c (.f (.int .i64 1)))),ab⟩,⟨D 22,.aZ (R 148),ab⟩] []) (alj σ sz)
def ale:aG:=.seq (.seq (.region [⟨D 138,.aZ (R 2),ab⟩,⟨D 139,.aZ (R 18),ab⟩,⟨D 140,.bin .gtr (R 138) (R 139),ab⟩] []) (.cond (R 140) alf alh)) (GA σ sz)
def ald:aG:=.seq (.region [⟨D 20,.aZ (.k (.c (.f (.int .i64 0)))),ab⟩,⟨D 21,.aZ (.k (.c (.f (.int .i64 0)))),ab⟩] []) (ale σ sz)
def alc:aG:=.seq (.region [⟨D 135,.aZ (R 18),ab⟩,⟨D 136,.aZ (R 2),ab⟩,⟨D 137,.bin .add (R 135) (R 136),ab⟩,⟨D 19,.aZ (R 137),ab⟩] []) (ald σ sz)
def alb:aG:=.seq (.region [⟨D 129,.aZ (R 1),ab⟩,⟨D 130,.aZ (R 3),ab⟩,⟨D 131,.bin .add (R 129) (R 130),ab⟩,⟨D 132,.fT .u64 (R 131),ab⟩,⟨D 133,.bin .shr (R 132) (.k (.c (.f (.int .u64 1)))),ab⟩,⟨D 134,.fT .i64 (R 133),ab⟩,⟨D 18,.aZ (R 134),ab⟩] []) (alc σ sz)
def ak1:aG:=.seq (.seq (.region [⟨D 77,.aZ (R 3),ab⟩,⟨D 78,.aZ (R 2),ab⟩,⟨D 79,.bin .sub (R 77) (R 78),ab⟩,⟨D 80,.bin .eql (R 79) (.k (.c (.f (.int .i64 1)))),ab⟩] []) (.cond (R 80) (Gy sz) .skip)) (alb σ sz)
def apU:aG:=.seq (.seq (.region [⟨D 25,.aZ (R 2),ab⟩,⟨D 26,.aZ (R 1),ab⟩,⟨D 27,.bin .sub (R 25) (R 26),ab⟩,⟨D 28,.bin .eql (R 27) (.k (.c (.f (.int .i64 1)))),ab⟩] []) (.cond (R 28) (aeH sz) .skip)) (ak1 σ sz)
def aeI(σ:C_)(sz:Nat):aL:=⟨[P.nat 0,P.nat 1,P.nat 2,P.nat 3,P.nat 4],[],(apU σ sz)⟩
end
section
variable(σ:C_)(sz:Nat)
def apO:aG:=.region [⟨D 32,.aZ (R 10),ab⟩,⟨D 33,.aZ (R 11),ab⟩,⟨D 34,.bin .sub (R 32) (R 33),ab⟩,⟨D 10,.aZ (R 34),ab⟩] []
def apN:aG:=.seq (.region [⟨D 24,.aZ (R 0),ab⟩,⟨D 25,.aZ (R 2),ab⟩,⟨D 26,.aZ (R 10),ab⟩,⟨D 27,.bin .sub (R 25) (R 26),ab⟩,⟨D 28,.aZ (R 2),ab⟩,⟨D 29,.aZ (R 11),ab⟩,⟨D 30,.aZ (R 4),ab⟩,⟨D 31,.call σ.swr [(R 24),(R 27),(R 28),(R 29),(R 30)] ae,ab⟩] []) (apO)
def apQ:aG:=.region [⟨D 47,.aZ (R 11),ab⟩,⟨D 48,.aZ (R 10),ab⟩,⟨D 49,.bin .sub (R 47) (R 48),ab⟩,⟨D 11,.aZ (R 49),ab⟩] []
def apP:aG:=.seq (.region [⟨D 35,.aZ (R 0),ab⟩,⟨D 36,.aZ (R 2),ab⟩,⟨D 37,.aZ (R 10),ab⟩,⟨D 38,.bin .sub (R 36) (R 37),ab⟩,⟨D 39,.aZ (R 2),ab⟩,⟨D 40,.aZ (R 11),ab⟩,⟨D 41,.bin .add (R 39) (R 40),ab⟩,⟨D 42,.aZ (R 10),ab⟩,⟨D 43,.bin .sub (R 41) (R 42),ab⟩,⟨D 44,.aZ (R 10),ab⟩,⟨D 45,.aZ (R 4),ab⟩,⟨D 46,.call σ.swr [(R 35),(R 38),(R 43),(R 44),(R 45)] ae,ab⟩] []) (apQ)
def apM:aG:=.seq (.region [⟨D 21,.aZ (R 10),ab⟩,⟨D 22,.aZ (R 11),ab⟩,⟨D 23,.bin .gtr (R 21) (R 22),ab⟩] []) (.cond (R 23) (apN σ) (apP σ))
def asK:aG:=.seq (.seq (.region [⟨D 18,.aZ (R 10),ab⟩,⟨D 19,.aZ (R 11),ab⟩,⟨D 20,.bin .neq (R 18) (R 19),ab⟩] []) (.cond (R 20) .skip (.exit 0))) (.block 1 (apM σ))
def aei:aG:=.region [⟨D 50,.aZ (R 0),ab⟩,⟨D 51,.aZ (R 2),ab⟩,⟨D 52,.aZ (R 10),ab⟩,⟨D 53,.bin .sub (R 51) (R 52),ab⟩,⟨D 54,.aZ (R 2),ab⟩,⟨D 55,.aZ (R 10),ab⟩,⟨D 56,.aZ (R 4),ab⟩,⟨D 57,.call σ.swr [(R 50),(R 53),(R 54),(R 55),(R 56)] ae,ab⟩] []
def asJ:aG:=.seq (.block 0 (.loop (asK σ))) (aei σ)
def asI:aG:=.seq (.region [⟨D 15,.aZ (R 3),ab⟩,⟨D 16,.aZ (R 2),ab⟩,⟨D 17,.bin .sub (R 15) (R 16),ab⟩,⟨D 11,.aZ (R 17),ab⟩] []) (asJ σ)
def asH:aG:=.seq (.region [⟨D 12,.aZ (R 2),ab⟩,⟨D 13,.aZ (R 1),ab⟩,⟨D 14,.bin .sub (R 12) (R 13),ab⟩,⟨D 10,.aZ (R 14),ab⟩] []) (asI σ)
def aej(σ:C_)(sz:Nat):aL:=⟨[P.nat 0,P.nat 1,P.nat 2,P.nat 3,P.nat 4],[],(asH σ)⟩
end
section
variable(σ:C_)(sz:Nat)
def ap4:aG:=.region [⟨D 16,.aZ (R 0),ab⟩,⟨D 17,.aZ (R 1),ab⟩,⟨D 18,.aZ (R 10),ab⟩,⟨D 19,.bin .add (R 17) (R 18),ab⟩,⟨D 20,.aZ (R 0),ab⟩,⟨D 21,.aZ (R 2),ab⟩,⟨D 22,.aZ (R 10),ab⟩,⟨D 23,.bin .add (R 21) (R 22),ab⟩,⟨D 24,.aZ (R 0),ab⟩,⟨D 25,.aZ (R 2),ab⟩,⟨D 26,.aZ (R 10),ab⟩,⟨D 27,.bin .add (R 25) (R 26),ab⟩,⟨D 28,.bE sz ab (R 24) (R 27),ab⟩,⟨D 29,.load (aa sz) (R 28),ab⟩,⟨D 30,.aZ (R 0),ab⟩,⟨D 31,.aZ (R 1),ab⟩,⟨D 32,.aZ (R 10),ab⟩,⟨D 33,.bin .add (R 31) (R 32),ab⟩,⟨D 34,.bE sz ab (R 30) (R 33),ab⟩,⟨D 35,.load (aa sz) (R 34),ab⟩,⟨D 36,.bE sz ab (R 16) (R 19),ab⟩,⟨ab,.store sz (R 36) (R 29),ab⟩,⟨D 37,.bE sz ab (R 20) (R 23),ab⟩,⟨ab,.store sz (R 37) (R 35),ab⟩] []
def ap5:aG:=.region [⟨D 14,.aZ (R 10),ab⟩,⟨D 15,.bin .add (R 14) (.k (.c (.f (.int .i64 1)))),ab⟩,⟨D 10,.aZ (R 15),ab⟩] []
def asR:aG:=.seq (.block 1 (ap4 sz)) (ap5)
def asQ:aG:=.seq (.seq (.region [⟨D 11,.aZ (R 10),ab⟩,⟨D 12,.aZ (R 3),ab⟩,⟨D 13,.bin .lss (R 11) (R 12),ab⟩] []) (.cond (R 13) .skip (.exit 0))) (asR sz)
def asP:aG:=.seq (.region [⟨D 10,.aZ (.k (.c (.f (.int .i64 0)))),ab⟩] []) (.block 0 (.loop (asQ sz)))
def GG(σ:C_)(sz:Nat):aL:=⟨[P.nat 0,P.nat 1,P.nat 2,P.nat 3,P.nat 4],[],(asP sz)⟩
end
end
section
set_option linter.unusedVariables false
open Go
theorem iL{tab:TB}{fn:Nat}{ro:Option Nat}{k:List da}{s:St}{Q:Option aG→St→Prop}{a:aG}(h:WP tab fn ro (.code a::.inLoop a::k) s Q):WP tab fn ro (.code (.loop a)::k) s Q:=kh h fun _ _ _=>rfl
theorem kX{lo hi:Nat}(h:lo+hi≤2000000000):IntKind.u64.wrap ((lo:Int)+hi)=(lo:Int)+hi:=by
 show((lo:Int)+hi) % 18446744073709551616=_;omega
theorem nf{lo hi q:Nat}(h:lo+hi≤2000000000)(d:q=(lo+hi) / 2):dq BinOp.shr (V.c (C.f (FC.int IntKind.u64 ((lo:Int)+hi)))) (V.c (C.f (FC.int IntKind.u64 1)))=aa (.c (.f (.int .u64 (q:Int)))):=by
 show aa (V.c (C.f (FC.int IntKind.u64 (Int.fdiv ((lo:Int)+hi) (2 ^ (min (1:Int).toNat IntKind.u64.bits))))))=_;have b:Int.fdiv ((lo:Int)+hi) (2 ^ (min (1:Int).toNat IntKind.u64.bits))=q:=by
  show Int.fdiv ((lo:Int)+hi) 2=q;rw [Int.fdiv_eq_ediv_of_nonneg _ (by omega)];omega
 rw [b]
section
variable{tab:TB}{σ:C_}{sz:Nat}{b ep:Nat}{cv:V}{W:List FC→Prop}{c:List FC→List FC→Int}
theorem ET{H:aj}{rows:List (List FC)}(U:tab σ.swr=aa (GG σ sz)){n x y m lo hi:Nat}(Y:rows.length=n)(hl:n≤1000000000)(g:RB H b sz ep rows)(W:cu sz rows)(h1:lo≤x)(h2:x+m≤y)(h3:y+m≤hi)(h4:hi≤n) :
  ∃ r H',Ev tab (.fn σ.swr) [.c (.sl b 0 n 0 ep sz),vi x,vi y,vi m,cv] H r H'∧(r=.t []∧Fm b H H'∧∃ l',RB H' b sz ep l'∧iT lo hi rows l'∧PJ rows l' x y m):=by
 refine cL U rfl fun Q S=>?_;apply ai;simp;refine aF ?_;refine cI (fun w s=>∃(i:Nat) (t:T) (A:aj) (l:List (List FC)),s=⟨t,[],A⟩∧i+w=m∧t.g 0=.c (.sl b 0 n 0 ep sz)∧t.g 1=vi x∧t.g 2=vi y∧t.g 3=vi m∧t.g 10=vi i ∧
  Fm b H A∧RB A b sz ep l∧iT lo hi rows l∧PJ rows l x y i) m
  ⟨0,_,H,rows,rfl,by omega,by simp,by simp,by simp,by simp,by simp,Fm.refl H,g,iT.refl _ _ _,PJ.zero _ _ _⟩ ?_
 rintro w s ⟨i,t,A,l,rfl,X,g0,E,F,I,v,z,g,d,J⟩ Z;have u:=d.len;apply an;apply ai;simp [v,I];by_cases B:i<m
 case neg=>
  obtain rfl:i=m:=by omega
  refine aB (by simp) ?_;refine bJ (k':=[]) rfl ?_;exact cE (S _ _ _ rfl rfl ⟨rfl,z,l,g,d,J⟩)
 refine au (by simp [B]) (aP ?_);obtain⟨p,q,H2,N,-,-,K,L,l1,l2,w1,w2,s1,M,s2,r2,O⟩:=g.AD (d.wV W) (u.trans Y) (i:=x+i) (j:=y+i) (by omega) (by omega);simp only [Int.natCast_add]at K L M;apply an;refine aF ?_;refine aq (.inl rfl) ?_;simp [g0,E,F,v,aW (n:=(x:Int)+i),aW (n:=(y:Int)+i),K,L,l1,l2,w1,w2,s1,M,s2,-aw,-bh];refine aA ?_;refine aq (.inl rfl) ?_;simp [v,aW (n:=(i:Int)+1)];exact Z (w-1) _ (by omega) ⟨i+1,_,N,_,rfl,by omega,by simp [g0],by simp [E],by simp [F],by simp [I],by simp,z.trans O,r2,d.trans (uh (by omega) (by omega) (by omega) (by omega) (by omega)),J.step u (by omega) (by omega)⟩
theorem apR{H:aj}{rows:List (List FC)}(hT:tab σ.rot=aa (aej σ sz))(hS:tab σ.swr=aa (GG σ sz)){n a m e:Nat}(hn:rows.length=n)(hl:n≤1000000000)(z:RB H b sz ep rows)(hg:cu sz rows)(h1:a<m)(h2:m<e)(h4:e≤n) :
  ∃ r H',Ev tab (.fn σ.rot) [.c (.sl b 0 n 0 ep sz),vi a,vi m,vi e,cv] H r H'∧(r=.t []∧Fm b H H'∧∃ l',RB H' b sz ep l'∧iT a e rows l'∧wM rows l' a m e):=by
 obtain⟨X0,L,S,f,rfl,lX,lU,lV⟩:=rY (l:=rows) (Nat.le_of_lt h1) (Nat.le_of_lt h2) (by omega);have b_:X0.length+(L.length+(S.length+f.length))=n:=by rw [←hn];simp
 refine cL hT rfl fun Q hQ=>?_;apply ai;simp [aW (n:=(m:Int)-a)];apply ai;simp [aW (n:=(e:Int)-m)];apply an;refine aF ?_;refine cI (fun w s=>∃(i j:Nat) (X U V Y:List (List FC)) (t:T) (H1:aj),s=⟨t,[],H1⟩∧w=i+j∧0<i∧0<j∧X.length+i=m∧U.length=i∧V.length=j∧X++(V++(U++Y))=X0++(S++(L++f))∧a≤X.length∧m+j≤e ∧
  t.g 0=.c (.sl b 0 n 0 ep sz)∧t.g 2=vi m∧t.g 4=cv∧t.g 10=vi i∧t.g 11=vi j∧Fm b H H1∧RB H1 b sz ep (X++(U++(V++Y)))∧iT a e (X0++(L++(S++f))) (X++(U++(V++Y)))) (e-a)
  ⟨m-a,e-m,X0,L,S,f,_,H,rfl,by omega,by omega,by omega,by omega,lU,lV,rfl,by omega,by omega,by simp,by simp,by simp,by simp;omega,by simp;omega,Fm.refl H,z,iT.refl _ _ _⟩ ?_
 rintro w s ⟨i,j,X,U,V,Y,t,H1,rfl,rfl,hi,hj,p,hU,hV,E,B,b9,g0,k,o,d,q,F,z,g⟩ ih;have u:=g.len;rw [hn]at u;have gr:=g.wV hg;have e1:((m:Int)-i)=((X.length:Nat):Int):=by omega
 have w0:IntKind.i64.wrap (X.length:Int)=X.length:=aW;apply an;apply ai;simp [d,q];by_cases a_:i=j
 ·
  subst a_;refine aB (by simp) ?_;refine bJ (k':=[.code (aei σ)]) rfl ?_;obtain⟨r,K,v,rfl,h,I,r2,s2,x2⟩:=ET (cv:=cv) (x:=X.length) (y:=m) (m:=i) (lo:=a) (hi:=e) hS u hl z gr B (by omega) (by omega) h4;have v:=v.eq;have J:=PJ.blocks (X:=X) (P:=U) (M:=[]) (Q:=V) (Z:=Y) (l':=I) (n:=i) hU hV (by simpa [p]using x2);simp only [awm]at J;refine aq (.inl rfl) ?_;simp [g0,k,o,d,e1,w0,v];refine cE (hQ _ ⟨_,[],K⟩ (.t []) rfl rfl ⟨rfl,F.trans h,I,r2,g.trans s2,?_⟩);rw [J,E];have:=wM.blocks (X:=X0) (U:=L) (V:=S) (Y:=f);rwa [lX,lU,lV,show a+(m-a)=m by omega,show m+(e-m)=e by omega]at this
 refine au (by simp [a_]) (aP ?_);refine aF ?_;apply an;refine aq (.inl rfl) ?_;simp [d,q];by_cases a8:j<i
 ·refine au (by simp [a8]) ?_;obtain⟨r,K,v,rfl,h,I,r2,s2,x2⟩:=ET (cv:=cv) (x:=X.length) (y:=m) (m:=j) (lo:=a) (hi:=e) hS u hl z gr B (by omega) (by omega) h4;have v:=v.eq;obtain⟨N,O,rfl,l1⟩:∃ N O,U=N++O∧N.length=j:=⟨U.take j,U.drop j,(avL j U).symm,by simp;omega⟩
  have A:O.length=i-j:=by simp at hU;omega
  have J:=PJ.blocks (X:=X) (P:=N) (M:=O) (Q:=V) (Z:=Y) (l':=I) (n:=j) l1 hV (by rw [A,show X.length+j+(i-j)=m by omega];simpa using x2);subst J;apply ai;simp [g0,k,o,d,q,e1,w0,v];refine aq (.inl rfl) ?_;simp [d,q,aW (n:=(i:Int)-j)];exact aA (ih (i-j+j) _ (by omega) ⟨i-j,j,X++V,O,N,Y,_,K,rfl,rfl,by omega,hj,by simp;omega,A,l1,by rw [←E];simp,by simp;omega,b9,by simp [g0],by simp [k],by simp [o],by simp;omega,by simp [q],F.trans h,by simpa using r2,by simpa using g.trans s2⟩)
 ·refine aB (by simp [a8]) ?_;obtain⟨r,K,v,rfl,h,I,r2,s2,x2⟩:=ET (cv:=cv) (x:=X.length) (y:=m+j-i) (m:=i) (lo:=a) (hi:=e) hS u hl z gr B (by omega) (by omega) h4;have v:=v.eq;obtain⟨W,c,rfl,l1⟩:∃ W c,V=W++c∧W.length=j-i:=⟨V.take (j-i),V.drop (j-i),(avL _ V).symm,by simp;omega⟩
  have A:c.length=i:=by simp at hV;omega
  have J:=PJ.blocks (X:=X) (P:=U) (M:=W) (Q:=c) (Z:=Y) (l':=I) (n:=i) hU A (by rw [l1,show X.length+i+(j-i)=m+j-i by omega];simpa using x2);subst J;have e2:((m:Int)+j-i)=((m+j-i:Nat):Int):=by omega
  apply ai;simp [g0,k,o,d,q,aW (n:=(m:Int)+j),aW (n:=((m+j-i:Nat):Int)),e1,e2,w0,v];refine aq (.inl rfl) ?_;simp [d,q,aW (n:=(j:Int)-i)];exact aA (ih (i+(j-i)) _ (by omega) ⟨i,j-i,X,c,W,U++Y,_,K,rfl,rfl,hi,by omega,p,A,l1,by rw [←E];simp,B,by omega,by simp [g0],by simp [k],by simp [o],by simp [d],by simp;omega,F.trans h,by simpa using r2,by simpa using g.trans s2⟩)
end
end
section
set_option linter.unusedVariables false
open Go
section
variable{W:List FC→Prop}{c:List FC→List FC→Int}{l l':List (List FC)}
theorem wM.up{a k:Nat}(h:wM l l' a (a+1) (k+1))(m:l'.length=l.length)(g:a≤k)(j:k+1<l.length):wM l (AD l' k (k+1)) a (a+1) (k+2):=fun q=>by
 rw [od (by omega) (by omega),h k,h (k+1),h q];by_cases q1:q=k+1
 ·subst q1;rw [bf rfl,aY (by omega),bf (by omega),aY (by omega),bf (by omega)]
  congr 1;omega
 rw [aY q1];by_cases b:q=k
 ·subst b;rw [bf rfl,aY (by omega),aY (by omega),bf (by omega)]
  congr 1;omega
 rw [aY b];by_cases d:a≤q∧q<a+(k+1-(a+1))
 ·rw [bf d,bf (by omega)]
 ·rw [aY d,aY (by omega),aY (by omega),aY (by omega)]
theorem wM.dn{m k:Nat}(h:wM l l' (k+1) m (m+1))(j:l'.length=l.length)(g:k+1≤m)(s:m<l.length):wM l (AD l' (k+1) k) k m (m+1):=fun q=>by
 rw [od (by omega) (by omega),h k,h (k+1),h q];have e:m+1-m=1:=by omega
 rw [e];by_cases q1:q=k
 ·subst q1;rw [bf rfl,bf (by omega),bf (by omega)]
  congr 1;omega
 rw [aY q1];by_cases b:q=k+1
 ·subst b;rw [bf rfl,aY (by omega),aY (by omega),aY (by omega),bf (by omega)]
  congr 1
 rw [aY b,aY (by omega),aY (show¬ (k≤q∧q<k+1) by omega)];by_cases d:k+1+1≤q∧q<m+1
 ·rw [bf d,bf (by omega)]
 ·rw [aY d,aY (by omega)]
theorem Up.add{a b d:Nat}(h:Up c (a+d) (b+d) l)(g:∀ k,a≤k→k<b→l'[k]?=l[k+d]?):Up c a b l':=fun i j x y h1 h2 h3 m hy=>
 h (i+d) (j+d) x y (by omega) (by omega) (by omega) (by rw [←g i h1 (by omega)];exact m) (by rw [←g j (by omega) h3];exact hy)
theorem Up.sub{a b d:Nat}(h:Up c (a-d) (b-d) l)(q:d≤a)(g:∀ k,a≤k→k<b→l'[k]?=l[k-d]?):Up c a b l':=fun i j x y h1 h2 h3 m hy=>
 h (i-d) (j-d) x y (by omega) (by omega) (by omega) (by rw [←g i h1 (by omega)];exact m) (by rw [←g j (by omega) h3];exact hy)
theorem kv.strict{i j:Nat}(hc:Dp W c)(d:∀ r ∈ l,W r){p x y:List FC}(q:W p)(h:kv c l i j)(g:l[i]?=aa x)(hy:l[j]?=aa y)(b:c y p<0):c x p<0:=by
 apply Classical.not_not.1;intro m;exact hc.trans q (d _ (avo g)) (d _ (avo hy)) m (h x y g hy) b
theorem kv.alF{i j:Nat}(hc:Dp W c)(d:∀ r ∈ l,W r){p x y:List FC}(q:W p)(h:kv c l i j)(g:l[i]?=aa x)(hy:l[j]?=aa y)(b:c p x<0):c p y<0:=by
 apply Classical.not_not.1;intro m;exact hc.trans (d _ (avo g)) (d _ (avo hy)) q (h x y g hy) m b
end
section
variable{tab:TB}{σ:C_}{sz:Nat}{b ep:Nat}{cv:V}{W:List FC→Prop}{c:List FC→List FC→Int}
theorem aeJ{H:aj}{rows:List (List FC)}{n a e:Nat}{Q:Option aG→St→Prop}{k:List da}(a8:Cv tab cv W c)(S:Dp W c)(hn:rows.length=n)(hl:n≤1000000000)(d:RB H b sz ep rows)(hg:cu sz rows)(B:∀ r ∈ rows,W r)
  (h2:a+1<e) (h4:e≤n) (u2:Up c (a+1) e rows) {t:T} (g0:t.g 0=.c (.sl b 0 n 0 ep sz)) (O:t.g 1=vi a) (g2:t.g 2=vi ((a+1:Nat):Int)) (g3:t.g 3=vi e) (U:t.g 4=cv)
  (hQ:∀ t H' l',Fm b H H'→RB H' b sz ep l'→iT a e rows l'→Up c a e l'→Q (aa .ret) ⟨t,[],H'⟩):WP tab σ.rz ab (.code (aeH sz)::k) ⟨t,[],H⟩ Q:=by
 obtain⟨p,f⟩:∃ p,rows[a]?=aa p:=⟨_,By (by omega)⟩
 have wp:W p:=B _ (avo f);apply ai;simp [g2];apply ai;simp [g3];apply an;refine aF ?_;refine cI (fun w s=>∃(lo hi:Nat) (t:T) (v:aj),s=⟨t,[],v⟩∧lo+w=hi∧a+1≤lo∧hi≤e∧t.g 0=.c (.sl b 0 n 0 ep sz)∧t.g 1=vi a∧t.g 4=cv∧t.g 10=vi lo∧t.g 11=vi hi∧Fm b H v∧RB v b sz ep rows ∧
   (∀(k:Nat) x,a+1≤k→k<lo→rows[k]?=aa x→c x p<0)∧(∀(k:Nat) x,hi≤k→k<e→rows[k]?=aa x→¬ c x p<0)) (e-(a+1))
  ⟨a+1,e,_,H,rfl,by omega,by omega,by omega,by simp [g0],by simp [O],by simp [U],by simp,by simp,Fm.refl H,d,fun k x h1 h2=>by omega,fun k x h1 h2=>by omega⟩ ?_
 rintro w s ⟨lo,hi,t,v,rfl,hw,h5,h6,g0,O,U,g,L,u,d,Z,Y⟩ ih;apply an;apply ai;simp [g,L];by_cases N:lo<hi
 ·refine au (by simp [N]) (aP ?_);obtain⟨q,hq⟩:=aJ ((lo+hi) / 2);refine aF ?_;apply ai;simp [g,L,aW (n:=(lo:Int)+hi),kX (lo:=lo) (hi:=hi) (by omega),nf (lo:=lo) (hi:=hi) (by omega) hq,aW (n:=(q:Int))];obtain⟨x,y,F,ar,J,K,hy,i1,j1,l1,l2,X,he,wx,-⟩:=d.ask hg a8 B hn (i:=q) (j:=a) (by omega) (by omega);rw [f]at hy;cases hy;apply ai;simp [g0,O,U,i1,j1,l1,l2,X,he,-aw];by_cases A:c x p<0
  ·refine au (by simp [A]) (aq (.inl rfl) ?_);simp [aW (n:=(q:Int)+1)];refine aA (ih (hi-(q+1)) _ (by omega) ⟨q+1,hi,_,_,rfl,by omega,by omega,h6,by simp [g0],by simp [O],by simp [U],by simp,by simp [L],u.trans (Fm.push _ _),d.push _,fun k z k1 k2 o=>?_,Y⟩);exact(u2.le S B k1 (by omega) (show q<e by omega)).strict S B wp o K A
  ·refine aB (by simp [A]) (aq (.inl rfl) ?_);simp;refine aA (ih (q-lo) _ (by omega) ⟨lo,q,_,_,rfl,by omega,h5,by omega,by simp [g0],by simp [O],by simp [U],by simp [g],by simp,u.trans (Fm.push _ _),d.push _,Z,fun k z k1 k2 o=>?_⟩);exact S.trans wp wx (B _ (avo o)) A ((u2.le S B (i:=q) (j:=k) (by omega) k1 k2) _ _ K o)
 refine aB (by simp [N]) ?_;obtain rfl:lo=hi:=by omega
 refine bJ (k':=.code (Gx sz)::k) rfl ?_;apply an;apply ai;simp [O];refine aF ?_;refine cI (fun w s=>∃(i:Nat) (t:T) (v:aj) (l:List (List FC)),s=⟨t,[],v⟩∧i+1+w=lo∧a≤i∧t.g 0=.c (.sl b 0 n 0 ep sz)∧t.g 10=vi lo∧t.g 13=vi i∧Fm b H v∧RB v b sz ep l∧iT a e rows l∧wM rows l a (a+1) (i+1)) (lo-(a+1))
  ⟨a,_,v,rows,rfl,by omega,by omega,by simp [g0],by simp [g],by simp,u,d,iT.refl _ _ _,wM.none _ (by omega) (by omega) (.inr rfl)⟩ ?_
 rintro w s ⟨i,t,v,l,rfl,hw,h7,g0,g,M,u,d,m,I⟩ ih;have E:=m.len;apply an;apply ai;simp [g,M,aW (n:=(lo:Int)-1)];by_cases N:i+1<lo
 ·refine au (by simp;omega) (aP ?_);obtain⟨x,y,H2,H3,-,-,i1,j1,l1,l2,w1,w2,s1,j2,s2,r2,f2⟩:=d.AD (m.wV hg) (E.trans hn) (i:=i) (j:=i+1) (by omega) (by omega);have c1:((i+1:Nat):Int)=(i:Int)+1:=by omega
  rw [c1]at j1 j2;apply an;refine aF (aq (.inl rfl) ?_);simp [g0,M,aW (n:=(i:Int)+1),i1,j1,l1,l2,w1,w2,s1,j2,s2,-aw,-bh];refine aA (aq (.inl rfl) ?_);simp [M,aW (n:=(i:Int)+1)];exact ih (w-1) _ (by omega) ⟨i+1,_,H3,_,rfl,by omega,by omega,by simp [g0],by simp [g],by simp,u.trans f2,r2,m.trans (uh (by omega) (by omega) (by omega) (by omega) (by omega)),I.up E h7 (by omega)⟩
 obtain rfl:lo=i+1:=by omega
 refine aB (by simp) ?_;refine bJ (k':=.code .ret::k) rfl ?_;refine aC (hQ _ _ l u d m ?_);refine aek S B (Up.one (by omega)) u2 (aft _) (by omega) h5 h6 (by omega) (.inl (by omega)) (fun h=>by omega) (fun _ h=>?_) (fun _ h=>?_) I
 ·have K:=By (l:=rows) (i:=i+1-1) (by omega);exact kv.of_lt S B K f (Z _ _ (by omega) (by omega) K)
 ·have K:=By (l:=rows) (i:=i+1) (by omega);exact kv.of_le f K (Y _ _ (by omega) h K)
theorem Rq{H:aj}{rows:List (List FC)}{n a m:Nat}{Q:Option aG→St→Prop}{k:List da}(a8:Cv tab cv W c)(X:Dp W c)(hn:rows.length=n)(hl:n≤1000000000)(g:RB H b sz ep rows)(hg:cu sz rows)(K:∀ r ∈ rows,W r)
  (h2:a<m) (h4:m<n) (u1:Up c a m rows) {t:T} (g0:t.g 0=.c (.sl b 0 n 0 ep sz)) (g1:t.g 1=vi a) (S:t.g 2=vi m) (Y:t.g 4=cv)
  (hQ:∀ t H' l',Fm b H H'→RB H' b sz ep l'→iT a (m+1) rows l'→Up c a (m+1) l'→Q (aa .ret) ⟨t,[],H'⟩):WP tab σ.rz ab (.code (Gy sz)::k) ⟨t,[],H⟩ Q:=by
 obtain⟨p,o⟩:∃ p,rows[m]?=aa p:=⟨_,By (by omega)⟩
 have wp:W p:=K _ (avo o);apply ai;simp [g1];apply ai;simp [S];apply an;refine aF ?_;refine cI (fun w s=>∃(lo hi:Nat) (t:T) (B:aj),s=⟨t,[],B⟩∧lo+w=hi∧a≤lo∧hi≤m∧t.g 0=.c (.sl b 0 n 0 ep sz)∧t.g 2=vi m∧t.g 4=cv∧t.g 14=vi lo∧t.g 15=vi hi∧Fm b H B∧RB B b sz ep rows ∧
   (∀(k:Nat) x,a≤k→k<lo→rows[k]?=aa x→¬ c p x<0)∧(∀(k:Nat) x,hi≤k→k<m→rows[k]?=aa x→c p x<0)) (m-a)
  ⟨a,m,_,H,rfl,by omega,by omega,by omega,by simp [g0],by simp [S],by simp [Y],by simp,by simp,Fm.refl H,g,fun k x h1 h2=>by omega,fun k x h1 h2=>by omega⟩ ?_
 rintro w s ⟨lo,hi,t,B,rfl,hw,h5,h6,g0,S,Y,u,O,A,g,f,e⟩ ih;apply an;apply ai;simp [u,O];by_cases U:lo<hi
 ·refine au (by simp [U]) (aP ?_);obtain⟨q,hq⟩:=aJ ((lo+hi) / 2);refine aF ?_;apply ai;simp [u,O,aW (n:=(lo:Int)+hi),kX (lo:=lo) (hi:=hi) (by omega),nf (lo:=lo) (hi:=hi) (by omega) hq,aW (n:=(q:Int))];obtain⟨x,y,F,ar,J,N,hy,i1,j1,l1,l2,Z,he,-,wy⟩:=g.ask hg a8 K hn (i:=m) (j:=q) (by omega) (by omega);rw [o]at N;cases N;apply ai;simp [g0,S,Y,i1,j1,l1,l2,Z,he,-aw];by_cases I:c p y<0
  ·refine aB (by simp [I]) (aq (.inl rfl) ?_);simp;refine aA (ih (q-lo) _ (by omega) ⟨lo,q,_,_,rfl,by omega,h5,by omega,by simp [g0],by simp [S],by simp [Y],by simp [u],by simp,A.trans (Fm.push _ _),g.push _,f,fun k z k1 k2 hz=>?_⟩);exact(u1.le X K (i:=q) (j:=k) (by omega) k1 k2).alF X K wp hy hz I
  ·refine au (by simp [I]) (aq (.inl rfl) ?_);simp [aW (n:=(q:Int)+1)];refine aA (ih (hi-(q+1)) _ (by omega) ⟨q+1,hi,_,_,rfl,by omega,by omega,h6,by simp [g0],by simp [S],by simp [Y],by simp,by simp [O],A.trans (Fm.push _ _),g.push _,fun k z k1 k2 hz=>?_,e⟩);exact X.trans (K _ (avo hz)) wy wp ((u1.le X K (i:=k) (j:=q) k1 (by omega) (by omega)) _ _ hz hy) I
 refine aB (by simp [U]) ?_;obtain rfl:lo=hi:=by omega
 refine bJ (k':=.code (Gz sz)::k) rfl ?_;apply an;apply ai;simp [S];refine aF ?_;refine cI (fun w s=>∃(i:Nat) (t:T) (B:aj) (l:List (List FC)),s=⟨t,[],B⟩∧i=lo+w∧i≤m∧t.g 0=.c (.sl b 0 n 0 ep sz)∧t.g 14=vi lo∧t.g 17=vi i∧Fm b H B∧RB B b sz ep l∧iT a (m+1) rows l∧wM rows l i m (m+1)) (m-lo)
  ⟨m,_,B,rows,rfl,by omega,by omega,by simp [g0],by simp [u],by simp,A,g,iT.refl _ _ _,wM.none _ (by omega) (by omega) (.inl rfl)⟩ ?_
 rintro w s ⟨i,t,B,l,rfl,hw,h7,g0,u,E,A,g,v,M⟩ ih;have L:=v.len;apply an;apply ai;simp [u,E];by_cases U:lo<i
 ·refine au (by simp;omega) (aP ?_);obtain⟨d,rfl⟩:∃ d,i=d+1:=⟨i-1,by omega⟩
  obtain⟨x,y,H2,H3,-,-,i1,j1,l1,l2,w1,w2,s1,j2,s2,r2,f2⟩:=g.AD (v.wV hg) (L.trans hn) (i:=d+1) (j:=d) (by omega) (by omega);have c1:((d+1:Nat):Int)=(d:Int)+1:=by omega
  rw [c1]at i1 E;apply an;refine aF (aq (.inl rfl) ?_);simp [g0,E,aW (n:=(d:Int)),i1,j1,l1,l2,w1,w2,s1,j2,s2,-aw,-bh];refine aA (aq (.inl rfl) ?_);simp [E,aW (n:=(d:Int))];exact ih (w-1) _ (by omega) ⟨d,_,H3,_,rfl,by omega,by omega,by simp [g0],by simp [u],by simp,A.trans f2,r2,v.trans (uh (by omega) (by omega) (by omega) (by omega) (by omega)),M.dn L h7 (by omega)⟩
 obtain rfl:lo=i:=by omega
 refine aB (by simp) ?_;refine bJ (k':=.code .ret::k) rfl ?_;refine aC (hQ _ _ l A g v ?_);refine aek X K u1 (Up.one (by omega)) h5 h6 (by omega) (aft _) (by omega) (.inr (by omega)) (fun h _=>?_) (fun h _=>?_) (fun _ h=>by omega) M
 ·have N:=By (l:=rows) (i:=lo-1) (by omega);exact kv.of_le N o (f _ _ (by omega) (by omega) N)
 ·have N:=By (l:=rows) (i:=lo) (by omega);exact kv.of_lt X K o N (e _ _ (by omega) (by omega) N)
end
end
section
set_option linter.unusedVariables false
open Go
section
variable{tab:TB}{σ:C_}{sz:Nat}{b ep:Nat}{cv:V}{W:List FC→Prop}{c:List FC→List FC→Int}
theorem aln(hT:tab σ.rz=aa (aeI σ sz))(hR:tab σ.rot=aa (aej σ sz))(hS:tab σ.swr=aa (GG σ sz))(d9:Cv tab cv W c)(hc:Dp W c){n:Nat}(hl:n≤1000000000):∀(d:Nat) {H:aj} {rows:List (List FC)} {a m e:Nat},e-a=d→rows.length=n→RB H b sz ep rows→cu sz rows→(∀ r ∈ rows,W r)→a<m→m<e→e≤n→Up c a m rows→Up c m e rows →
  ∃ r H',Ev tab (.fn σ.rz) [.c (.sl b 0 n 0 ep sz),vi a,vi m,vi e,cv] H r H'∧(r=.t []∧Fm b H H'∧∃ l',RB H' b sz ep l'∧iT a e rows l'∧Up c a e l'):=by
 intro d;induction d using Nat.strongRecOn with
 | _ d IH=>
 intro H rows a m e hd hn A hg Y h1 h2 h4 u1 u2;refine cL hT rfl fun Q hQ=>?_;apply an;apply ai;simp [aW (n:=(m:Int)-a)];by_cases i9:m=a+1
 ·subst i9;refine au (by simp;omega) ?_;exact aeJ d9 hc hn hl A hg Y h2 h4 u2 (by simp) (by simp) (by simp) (by simp) (by simp) fun t H' l' f r s u=>hQ _ _ _ rfl rfl ⟨rfl,f,l',r,s,u⟩
 refine aB (by simp;omega) (aP ?_);apply an;apply ai;simp [aW (n:=(e:Int)-m)];by_cases i8:e=m+1
 ·subst i8;refine au (by simp;omega) ?_;exact Rq d9 hc hn hl A hg Y h1 h4 u1 (by simp) (by simp) (by simp) (by simp) fun t H' l' f r s u=>hQ _ _ _ rfl rfl ⟨rfl,f,l',r,s,u⟩
 refine aB (by simp;omega) (aP ?_);obtain⟨mid,i4⟩:=aJ ((a+e) / 2);apply ai;simp [aW (n:=(a:Int)+e),kX (lo:=a) (hi:=e) (by omega),nf (lo:=a) (hi:=e) (by omega) i4,aW (n:=(mid:Int))];apply ai;simp [aW (n:=(mid:Int)+m)];apply ai;simp;have f7:∀(t:T) (X:aj) (s g:Nat) (M l2:List (List FC)),a≤s→s≤m→s≤mid→m≤g→mid≤g→g≤e→mid+m=s+g→(a<s→g<e→kv c rows (s-1) g)→(s<m→m<g→kv c rows (g-1) s)→wM rows M s m g→iT a e rows M→iT a mid M l2→Up c a mid l2 →
   t.g 0=.c (.sl b 0 n 0 ep sz)→t.g 3=vi e→t.g 4=cv→t.g 18=vi mid→t.g 24=vi g→Fm b H X→RB X b sz ep l2→WP tab σ.rz ab [.code (CO σ)] ⟨t,[],X⟩ Q:=by
  intro t X s g M l2 q1 q2 q3 q4 q5 q6 q7 x1 x2 E K a8 j4 g0 N O v U B A;have e1:=K.len;have e2:=a8.len;have v1:Up c mid g l2:=by
   refine Up.sub (l:=rows) (d:=g-m) (u1.mono (by omega) (by omega)) (by omega) fun k S k2=>?_;rw [a8.ge S,E k,aY (by omega),bf (by omega)]
  have v2:Up c g e l2:=(u2.mono (show m≤g by omega) (aft _)).of fun k S k2=>by rw [a8.ge (by omega),E k,aY (by omega),aY (by omega)]
  have b_:∀ l3,iT mid e l2 l3→Up c mid e l3→iT a e rows l3∧Up c a e l3:=fun l3 i6 j5=>
   ⟨K.trans ((a8.mono (aft _) (by omega)).trans (i6.mono (by omega) (aft _))),adK hc Y u1 u2 q1 q2 q4 q6 q7 (by omega) x1 x2 E e1 a8 j4 i6 j5⟩
  apply ai;by_cases S:mid<g
  ·by_cases k2:g<e
   ·simp [N,v,U,S,k2];obtain⟨r,H4,I,rfl,f4,l3,r3,s3,u3⟩:=IH (e-mid) (by omega) (H:=X) (rows:=l2) rfl (by omega) A (a8.wV (K.wV hg)) (fun r hr=>Y r (K.1.mem_iff.1 (a8.1.mem_iff.1 hr))) S k2 h4 v1 v2;obtain⟨w1,w2⟩:=b_ l3 s3 u3;have I:=I.eq;refine au (by simp) (aq (.inl rfl) ?_);simp [g0,N,O,v,U,I];exact cE (hQ _ _ _ rfl rfl ⟨rfl,B.trans f4,l3,r3,w1,w2⟩)
   ·simp [N,v,U,S,k2];obtain rfl:g=e:=by omega
    obtain⟨w1,w2⟩:=b_ l2 (iT.refl _ _ _) v1;refine bo (by simp) ?_;exact cE (hQ _ _ _ rfl rfl ⟨rfl,B,l2,A,w1,w2⟩)
  ·simp [N,v,U,S];obtain rfl:mid=g:=by omega
   obtain⟨w1,w2⟩:=b_ l2 (iT.refl _ _ _) v2;refine bo (by simp) ?_;exact cE (hQ _ _ _ rfl rfl ⟨rfl,B,l2,A,w1,w2⟩)
 have e_:∀(t:T) (X:aj) (s g:Nat) (M:List (List FC)),a≤s→s≤m→s≤mid→m≤g→mid≤g→g≤e→mid+m=s+g→(a<s→g<e→kv c rows (s-1) g)→(s<m→m<g→kv c rows (g-1) s)→wM rows M s m g→iT a e rows M →
   t.g 0=.c (.sl b 0 n 0 ep sz)→t.g 1=vi a→t.g 3=vi e→t.g 4=cv→t.g 18=vi mid→t.g 20=vi s→t.g 24=vi g→Fm b H X→RB X b sz ep M→WP tab σ.rz ab [.code (CN σ)] ⟨t,[],X⟩ Q:=by
  intro t X s g M q1 q2 q3 q4 q5 q6 q7 x1 x2 E K g0 g1 N O v z U B A;have e1:=K.len;have v1:Up c a s M:=(u1.mono (aft _) q2).of fun k S k2=>by rw [E k,aY (by omega),aY (by omega)]
  have v2:Up c s mid M:=by
   refine Up.add (l:=rows) (d:=m-s) (u2.mono (by omega) (by omega)) fun k S k2=>?_;rw [E k,bf (by omega)];congr 1;omega
  apply an;apply ai;by_cases S:a<s
  ·by_cases k2:s<mid
   ·simp [g1,v,z,S,k2];obtain⟨r,H4,I,rfl,f4,l3,r3,s3,u3⟩:=IH (mid-a) (by omega) (H:=X) (rows:=M) rfl (by omega) A (K.wV hg) (fun r hr=>Y r (K.1.mem_iff.1 hr)) S k2 (by omega) v1 v2;have I:=I.eq;refine au (by simp) (aq (.inl rfl) ?_);simp [g0,g1,O,v,z,I];exact f7 _ _ s g M l3 q1 q2 q3 q4 q5 q6 q7 x1 x2 E K s3 u3 (by simp [g0]) (by simp [N]) (by simp [O]) (by simp [v]) (by simp [U]) (B.trans f4) r3
   ·simp [g1,v,z,S,k2];obtain rfl:s=mid:=by omega
    refine bo (by simp) ?_;exact f7 _ _ s g M M q1 q2 q3 q4 q5 q6 q7 x1 x2 E K (iT.refl _ _ _) v1 (by simp [g0]) (by simp [N]) (by simp [O]) (by simp [v]) (by simp [U]) B A
  ·simp [g1,v,z,S];obtain rfl:a=s:=by omega
   refine bo (by simp) ?_;exact f7 _ _ a g M M q1 q2 q3 q4 q5 q6 q7 x1 x2 E K (iT.refl _ _ _) v2 (by simp [g0]) (by simp [N]) (by simp [O]) (by simp [v]) (by simp [U]) B A
 have i_:∀(t:T) (X:aj) (s0 Z s:Nat),(mid<m∧s0+e=mid+m∧Z=mid∨m≤mid∧s0=a∧Z=m)→s0≤s→s≤Z→(∀ k,s0≤k→k<s→kv c rows k (mid+m-1-k))→(∀ k,s≤k→k<Z→kv c rows (mid+m-1-k) k) →
   t.g 0=.c (.sl b 0 n 0 ep sz)→t.g 1=vi a→t.g 2=vi m→t.g 3=vi e→t.g 4=cv→t.g 18=vi mid→t.g 19=vi ((mid+m:Nat):Int)→t.g 20=vi s→Fm b H X→RB X b sz ep rows→WP tab σ.rz ab [.code (wk σ)] ⟨t,[],X⟩ Q:=by
  intro t X s0 Z s i5 S k2 i1 i2 g0 g1 g2 N O v L z B A;obtain⟨g,j6⟩:=aJ (mid+m-s);have c1:((mid+m:Nat):Int)-s=(g:Int):=by omega
  have x1:a<s→g<e→kv c rows (s-1) g:=fun p1 p2=>by
   have:=i1 (s-1) (by omega) (by omega);rwa [show mid+m-1-(s-1)=g by omega]at this
  have x2:s<m→m<g→kv c rows (g-1) s:=fun p1 p2=>by
   have:=i2 s (aft _) (by omega);rwa [show mid+m-1-s=g-1 by omega]at this
  rw [show((mid+m:Nat):Int)=(mid:Int)+m by omega]at L c1;apply ai;simp [L,z,c1,aW (n:=(g:Int))];apply an;apply ai;by_cases p1:s<m
  ·by_cases p2:m<g
   ·simp [g2,z,p1,p2];obtain⟨r,H4,I,rfl,f4,M,r1,s1,x⟩:=apR (cv:=cv) (a:=s) (m:=m) (e:=g) hR hS hn hl A hg p1 p2 (by omega);have I:=I.eq;refine au (by simp) (aq (.inl rfl) ?_);simp [g0,g2,O,z,I];exact e_ _ _ s g M (by omega) (by omega) (by omega) (by omega) (by omega) (by omega) (by omega) x1 x2 x (s1.mono (by omega) (by omega)) (by simp [g0]) (by simp [g1]) (by simp [N]) (by simp [O]) (by simp [v]) (by simp [z]) (by simp) (B.trans f4) r1
   ·simp [g2,z,p1,p2];refine bo (by simp) ?_;exact e_ _ _ s g rows (by omega) (by omega) (by omega) (by omega) (by omega) (by omega) (by omega) x1 x2 (wM.none _ (by omega) (by omega) (.inr (by omega))) (iT.refl _ _ _) (by simp [g0]) (by simp [g1]) (by simp [N]) (by simp [O]) (by simp [v]) (by simp [z]) (by simp) B A
  ·simp [g2,z,p1];refine bo (by simp) ?_;exact e_ _ _ s g rows (by omega) (by omega) (by omega) (by omega) (by omega) (by omega) (by omega) x1 x2 (wM.none _ (by omega) (by omega) (.inl (by omega))) (iT.refl _ _ _) (by simp [g0]) (by simp [g1]) (by simp [N]) (by simp [O]) (by simp [v]) (by simp [z]) (by simp) B A
 have i7:∀(t:T) (s0 Z:Nat),(mid<m∧s0+e=mid+m∧Z=mid∨m≤mid∧s0=a∧Z=m)→t.g 0=.c (.sl b 0 n 0 ep sz)→t.g 1=vi a→t.g 2=vi m→t.g 3=vi e→t.g 4=cv→t.g 18=vi mid→t.g 19=vi ((mid+m:Nat):Int)→t.g 20=vi s0→t.g 21=vi Z →
   WP tab σ.rz ab [.code (GA σ sz)] ⟨t,[],H⟩ Q:=by
  intro t s0 Z i5 g0 g1 g2 N O v L z a_;have c0:((mid+m:Nat):Int)=(mid:Int)+m:=by omega
  obtain⟨p,hp⟩:=aJ (mid+m-1);have c1:(mid:Int)+m-1=(p:Int):=by omega
  rw [c0]at L;apply ai;simp [L,c1,aW (n:=(p:Int))];apply an;refine aF ?_;refine cI (fun w s=>∃(lo hi:Nat) (t:T) (H1:aj),s=⟨t,[],H1⟩∧lo+w=hi∧s0≤lo∧hi≤Z∧t.g 0=.c (.sl b 0 n 0 ep sz)∧t.g 1=vi a∧t.g 2=vi m∧t.g 3=vi e∧t.g 4=cv∧t.g 18=vi mid∧t.g 19=vi ((mid:Int)+m)∧t.g 22=vi p∧t.g 20=vi lo∧t.g 21=vi hi∧Fm b H H1∧RB H1 b sz ep rows ∧
    (∀ k,s0≤k→k<lo→kv c rows k (mid+m-1-k))∧(∀ k,hi≤k→k<Z→kv c rows (mid+m-1-k) k)) (Z-s0)
   ⟨s0,Z,_,H,rfl,by omega,by omega,by omega,by simp [g0],by simp [g1],by simp [g2],by simp [N],by simp [O],by simp [v],by simp [L],by simp,by simp [z],by simp [a_],Fm.refl H,A,fun k h1 h2=>by omega,fun k h1 h2=>by omega⟩ ?_
  rintro w s ⟨lo,hi,t,H1,rfl,hw,h5,h6,g0,g1,g2,N,O,v,L,c_,z,a_,B,A,g_,f_⟩ ih;apply an;apply ai;simp [z,a_];by_cases h_:lo<hi
  ·refine au (by simp [h_]) (aP ?_);obtain⟨q,hq⟩:=aJ ((lo+hi) / 2);refine aF ?_;apply ai;simp [z,a_,aW (n:=(lo:Int)+hi),kX (lo:=lo) (hi:=hi) (by omega),nf (lo:=lo) (hi:=hi) (by omega) hq,aW (n:=(q:Int))];obtain⟨x,y,F,ar,J,hx,hy,i1,j1,M,l2,f8,he,wx,wy⟩:=A.ask hg d9 Y hn (i:=p-q) (j:=q) (by omega) (by omega);rw [show((p-q:Nat):Int)=(p:Int)-q by omega]at i1;apply ai;simp [g0,O,c_,aW (n:=(p:Int)-q),i1,j1,M,l2,f8,he,-aw];by_cases b9:c x y<0
   ·refine aB (by simp [b9]) (aq (.inl rfl) ?_);simp;refine aA (ih (q-lo) _ (by omega) ⟨lo,q,_,_,rfl,by omega,h5,by omega,by simp [g0],by simp [g1],by simp [g2],by simp [N],by simp [O],by simp [v],by simp [L],by simp [c_],by simp [z],by simp,B.trans (Fm.push _ _),A.push _,g_,fun k S k2=>?_⟩);exact((u2.le hc Y (i:=mid+m-1-k) (j:=p-q) (by omega) (by omega) (by omega)).trans hc Y (kv.of_lt hc Y hx hy b9) (by omega)).trans hc Y (u1.le hc Y (i:=q) (j:=k) (by omega) S (by omega)) (by omega)
   ·refine au (by simp [b9]) (aq (.inl rfl) ?_);simp [aW (n:=(q:Int)+1)];refine aA (ih (hi-(q+1)) _ (by omega) ⟨q+1,hi,_,_,rfl,by omega,by omega,h6,by simp [g0],by simp [g1],by simp [g2],by simp [N],by simp [O],by simp [v],by simp [L],by simp [c_],by simp,by simp [a_],B.trans (Fm.push _ _),A.push _,fun k S k2=>?_,f_⟩);exact((u1.le hc Y (i:=k) (j:=q) (by omega) (by omega) (by omega)).trans hc Y (kv.of_le hy hx b9) (by omega)).trans hc Y (u2.le hc Y (i:=p-q) (j:=mid+m-1-k) (by omega) (by omega) (by omega)) (by omega)
  refine aB (by simp [h_]) ?_;obtain rfl:lo=hi:=by omega
  refine bJ (k':=[.code (wk σ)]) rfl ?_;exact i_ _ _ s0 Z lo i5 h5 h6 g_ f_ (by simp [g0]) (by simp [g1]) (by simp [g2]) (by simp [N]) (by simp [O]) (by simp [v]) (by simp [L]) (by simp [z]) B A
 apply an;apply ai;simp;by_cases d_:mid<m
 ·refine au (by simp [d_]) ?_;have c2:(mid:Int)+m-e=((mid+m-e:Nat):Int):=by omega
  apply ai;simp [aW (n:=(mid:Int)+m-e)];refine aq (.inl rfl) ?_;simp;exact i7 _ (mid+m-e) mid (.inl ⟨d_,by omega,rfl⟩) (by simp) (by simp) (by simp) (by simp) (by simp) (by simp) (by simp) (by simp [c2]) (by simp)
 ·refine aB (by simp [d_]) ?_;apply ai;simp;refine aq (.inl rfl) ?_;simp;exact i7 _ a m (.inr ⟨by omega,rfl,rfl⟩) (by simp) (by simp) (by simp) (by simp) (by simp) (by simp) (by simp) (by simp) (by simp)
theorem alC(hT:tab σ.apY=aa (ap3 σ sz))(J:tab σ.ins=aa (amc σ sz))(hM:tab σ.rz=aa (aeI σ sz))(hR:tab σ.rot=aa (aej σ sz))(hS:tab σ.swr=aa (GG σ sz))(g:Cv tab cv W c)(B:Dp W c){H:aj}{rows:List (List FC)}{n:Nat}(F:rows.length=n)(hl:n<40)(y:RB H b sz ep rows)(E:cu sz rows)(L:∀ r ∈ rows,W r) :
  ∃ r H',Ev tab (.fn σ.apY) [.c (.sl b 0 n 0 ep sz),vi n,cv] H r H'∧(r=.t []∧Fm b H H'∧∃ l',RB H' b sz ep l'∧l'.Perm rows∧Up c 0 n l'):=by
 refine cL hT rfl fun Q K=>?_;apply ai;simp;apply ai;simp;apply an;refine aF ?_;refine iL ?_;apply an;apply ai;simp;by_cases v:20≤n
 case neg=>
  refine aB (by simp;omega) ?_;refine bJ (k':=[.code (Aq σ)]) rfl ?_;obtain⟨r,Z,j,rfl,A,U,N,x,O⟩:=DZ (a:=0) (e:=n) J g B F (by omega) y E L (by omega) (aft _);have j:=j.eq;simp at j;apply ai;simp [j];refine aF ?_;refine iL ?_;apply an;apply ai;simp;refine aB (by simp;omega) ?_;refine bJ (k':=[]) rfl ?_;exact cE (K _ _ _ rfl rfl ⟨rfl,A,U,N,x.1,O⟩)
 refine au (by simp;omega) (aP ?_);obtain⟨r,Z,j,rfl,A,U,N,x,O⟩:=DZ (a:=0) (e:=20) J g B F (by omega) y E L (by omega) v;have j:=j.eq;simp at j;have u:∀ {a e l},iT a e rows l→∀ r ∈ l,W r:=fun h r hr=>L r (h.1.mem_iff.1 hr);obtain⟨r,H2,q,rfl,S,M,X,Y,u2⟩:=DZ (a:=20) (e:=n) J g B (x.len.trans F) (by omega) N (x.wV E) (u x) v (aft _);have q:=q.eq;simp at q;refine aF ?_;apply ai;simp [j];apply ai;simp;refine aq (.inl rfl) ?_;simp [aW (n:=(20:Int)+20)];refine aA (sG ?_);apply an;apply ai;simp;refine aB (by simp [IntKind.wrap,IntKind.bits,IntKind.signed];omega) ?_;refine bJ (k':=[.code (Aq σ)]) rfl ?_;apply ai;simp [q];refine aF ?_;refine iL ?_;apply an;apply ai;simp;have d:iT 0 n rows M:=(x.mono (aft _) v).trans (Y.mono (by omega) (aft _));have z:Up c 0 20 M:=O.of fun k _ k2=>Y.lt k2;by_cases I:20<n
 case neg=>
  obtain rfl:n=20:=by omega
  refine aB (by simp) ?_;refine bJ (k':=[]) rfl ?_;exact cE (K _ _ _ rfl rfl ⟨rfl,A.trans S,M,X,d.1,z⟩)
 refine au (by simp;omega) (aP ?_);obtain⟨r,H3,s,rfl,f3,l3,r3,s3,u3⟩:=aln (b:=b) (ep:=ep) (sz:=sz) hM hR hS g B (n:=n) (by omega) n (a:=0) (m:=20) (e:=n) rfl (d.len.trans F) X (d.wV E) (u d) (by omega) I (aft _) z u2;have s:=s.eq;simp at s;refine aF ?_;apply ai;simp [aW (n:=(2:Int)*20)];apply an;refine aF ?_;refine iL ?_;apply an;apply ai;simp;refine aB (by simp [IntKind.wrap,IntKind.bits,IntKind.signed];omega) ?_;refine bJ (k':=[.code (GD σ),.inBlock 3,.inLoop (GC σ),.inBlock 2]) rfl ?_;apply an;apply ai;simp [aW (n:=(0:Int)+20),aW (n:=(20:Int))];apply ai;simp;refine au (by simp;omega) ?_;refine aq (.inl rfl) ?_;simp [s];refine aq (.inl rfl) ?_;simp;refine aA (sG ?_);apply an;apply ai;simp;refine aB (by simp [IntKind.wrap,IntKind.bits,IntKind.signed];omega) ?_;refine bJ (k':=[]) rfl ?_;exact cE (K _ _ _ rfl rfl ⟨rfl,A.trans (S.trans f3),l3,r3,s3.1.trans d.1,u3⟩)
end
end
section
open Go
def LX(H:aj)(c:C)(sz:Nat)(rows:List (List FC)):Prop:=(rows=[]∧(c=.f .az∨c=.f .es))∨(rows≠[]∧∃ b ep fl,c=.sl b 0 rows.length 0 ep sz∧H[b]?=aa (.cf sz (rows.flatten.map .f) fl ep .loc))
section
variable{H H':aj}{c c':C}{sz sz':Nat}{rows rows':List (List FC)}
theorem LR.x(h:LR H c sz rows):LX H c sz rows:=by
 rcases h with h | ⟨h,b,ep,rfl,h2⟩
 ·exact .inl h
 ·exact .inr ⟨h,b,ep,0,rfl,h2⟩
theorem LX.pP(h:LX H c sz rows){i:Nat}{cs:List C}{fl:Nat}(d:H[i]?=aa (.box cs fl)):bG c≠aa i:=by
 rcases h with⟨_,rfl | rfl⟩ | ⟨h,b,ep,fl,rfl,h2⟩
 ·simp [bG]
 ·simp [bG]
 ·intro e;cases e;rw [h2]at d;cases d
theorem LX.set(h:LX H c sz rows){i:Nat}(hi:bG c≠aa i)(x:bw):LX (H.set i x) c sz rows:=by
 rcases h with h | ⟨h,b,ep,fl,rfl,h2⟩
 ·exact .inl h
 ·have:i≠b:=by rintro rfl;exact hi rfl
  exact .inr ⟨h,b,ep,fl,rfl,by rw [AI this];exact h2⟩
theorem LX.mkH(h:LX H c' sz' rows')(n:Nat):gF (n+1) c' H=H∨∃ b ep fl d,bG c'=aa b∧H[b]?=aa (.cf sz' (rows'.flatten.map .f) fl ep .loc)∧gF (n+1) c' H=H.set b (.cf sz' (rows'.flatten.map .f) d ep .loc):=by
 rcases h with⟨_,rfl | rfl⟩ | ⟨j,b,ep,fl,rfl,h2⟩
 ·exact .inl rfl
 ·exact .inl rfl
 ·refine .inr ⟨b,ep,fl,Nat.max fl (0+rows'.length*sz'),rfl,h2,?_⟩;simp only [qW,h2];rw [tV];intro x g;have g:=av9 (List.mem_of_mem_take g);obtain⟨m,_,rfl⟩:=avx.1 g;exact⟨_,rfl⟩
theorem LX.mk(h:LX H c sz rows)(s:LX H c' sz' rows')(n:Nat):LX (gF (n+1) c' H) c sz rows:=by
 rcases s.mkH n with e | ⟨j,m,q,d,x,g,e⟩
 ·rw [e];exact h
 ·rw [e];rcases h with h | ⟨h,b,ep,fl,rfl,h2⟩
  ·exact .inl h
  ·by_cases l:j=b
   ·subst l;rw [h2]at g;injection g with g;injection g with q1 u y v z;subst q1;rw [←u,←v];exact .inr ⟨h,j,ep,d,rfl,IN (ak h2)⟩
   ·exact .inr ⟨h,b,ep,fl,rfl,by rw [AI l];exact h2⟩
theorem LX.amg(h:LX H c sz rows)(n:Nat){i:Nat}{cs:List C}{fl:Nat}(hi:H[i]?=aa (.box cs fl)):(gF (n+1) c H)[i]?=aa (.box cs fl):=by
 rcases h.mkH n with e | ⟨g,j,l,d,m,b,e⟩
 ·rw [e];exact hi
 ·rw [e];have:g≠i:=by rintro rfl;rw [hi]at b;cases b
  rw [AI this];exact hi
theorem LX.ex(h:LX H c sz rows)(hg:cu sz rows):∃ g,∀(H':aj) (n:Nat),LX H' c sz rows→ey (n+1) H' c=aa (sl g rows):=by
 by_cases hr:rows=[]
 ·rcases h with⟨rfl,rfl | rfl⟩ | ⟨h,_⟩
  ·exact⟨.nil,fun _ _ _=>rfl⟩
  ·exact⟨.es,fun _ _ _=>rfl⟩
  ·exact absurd hr h
 ·refine⟨.fs,fun H' n m=>?_⟩;rcases m with⟨e,_⟩ | ⟨j,b,ep,fl,rfl,h2⟩
  ·exact absurd e hr
  ·have d:rows.length*sz=rows.flatten.length:=(bY hg).symm;simp only [mD,h2];rw [bf ⟨trivial,trivial,by rw [avi,avP,d];exact aft _⟩,awj,avj (by rw [avi];omega),sI];cases rows with
   | nil=>exact absurd rfl hr| cons x l=>simp [sl]
end
end
end Km
