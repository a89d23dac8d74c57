/-
  Our own small machine for Go code by value, held sZ the model: part 4. No program in FR.
-/
import Derived.Test.YtnaofdffomdmhaaGreatK3
import Derived.ChangeArms
import Derived.DataReads
import Derived.Deep.Slices
import Derived.ProofKit
import Derived.RowKit3
import Derived.Below
import Derived.Carry
import Derived.Laws.IdiomArrays
open Option renaming some → aa,none → ab
open Bool renaming true → ae,false → ag
open Nat renaming le_refl → aft, add_mul → asL, one_mul → aud, add_zero → atJ, mul_le_mul_right → asW, min_eq_left → as8, le_max_left → asM, le_max_right → asD, le_trans → asz, lt_of_lt_of_le → asJ, zero_le → atr, zero_add → asN
open Option renaming bind_some → asR, bind_eq_some_iff → asB, map_eq_some_iff → IT
open List renaming map_cons → asq, foldl_cons → aty, mem_cons_of_mem → asm, flatten_cons → asE, length_append → api, length_cons → asX, mem_cons_self → asn, take_succ_cons → at5, take_of_length_le → arf, mem_map → asH, getElem?_eq_some_iff → BY, mem_of_getElem? → asp, drop_drop → ate, drop_eq_getElem_cons → arM, getElem?_eq_getElem → By, length_map → asi, length_drop → asr, map_append → as5, take_append_of_le_length → asG, drop_zero → atf, getElem?_map → asU, isEmpty_cons → aub, findIdx?_eq_some_iff_getElem → atl, getElem_mem → anc, getElem?_append_left → AT, getElem?_append_right → IS, drop_of_length_le → ato, take_append_drop → asP, length_take → ast, flatten_append → atP, take_take → atF, append_nil → as1, getElem?_of_mem → as2, mem_cons → asv, mem_append_left → atj, mem_append_right → atY, getElem?_set_ne → AI, set_cons_succ → aum, append_assoc → asT, getElem?_set_self → IN, getElem?_take → asI, getElem?_drop → asu, ext_getElem? → atx, length_eq_zero_iff → as4, nil_append → as9, length_set → ass
open Bool renaming false_eq_true → aso, and_eq_true → If
open Option.some renaming injEq → At
open Int renaming toNat_natCast → asy
set_option linter.unusedVariables false
set_option linter.constructorNameAsVariable false
set_option linter.unusedSimpArgs false
set_option linter.unusedSectionVars false
set_option maxRecDepth 100000
namespace Km
section
open Go
def P.O5:Nat→Nat→P
 | 0,_=>.h| k+1,n=>if n=0 then .h else if n % 2=1 then .o (O5 k ((n-1) / 2))else .i (O5 k ((n-2) / 2))
def P.nat(n:Nat):P:=P.O5 n n
theorem oq:∀(k n:Nat),n≤k→(P.O5 k n).toNat=n
 | 0,n,b=>by simp [P.O5,P.toNat];omega
 | k+1,n,b=>by
  unfold P.O5;split
  ·simp [P.toNat, *]
  ·split
   ·simp [P.toNat];rw [oq k _ (by omega)];omega
   ·simp [P.toNat];rw [oq k _ (by omega)];omega
theorem qW(n:Nat):(P.nat n).toNat=n:=oq n n (aft n)
theorem nat_ne{a b:Nat}(d:a≠b):P.nat a≠P.nat b:=fun e=>d (by rw [←qW a,←qW b,e])
theorem T.gD(v:V):∀(p:P) (t:T),(t.set p v).get p=v
 | .h,.e=>rfl| .h,.n _ _ _=>rfl| .o p,.e=>T.gD v p .e| .o p,.n l _ _=>T.gD v p l| .i p,.e=>T.gD v p .e| .i p,.n _ _ r=>T.gD v p r
theorem T.jt(v:V):∀(p q:P) (t:T),p≠q→(t.set p v).get q=t.get q
 | .h,.h,_,h=>absurd rfl h| .h,.o q,.e,_=>by cases q<;>rfl
 | .h,.i q,.e,_=>by cases q<;>rfl
 | .h,.o _,.n _ _ _,_=>rfl| .h,.i _,.n _ _ _,_=>rfl| .o _,.h,.e,_=>rfl| .o _,.h,.n _ _ _,_=>rfl| .i _,.h,.e,_=>rfl| .i _,.h,.n _ _ _,_=>rfl
 | .o p,.o q,.e,h=>by
  show(T.set .e p v).get q=_;rw [T.jt v p q .e (fun e=>h (by rw [e]))];cases q<;>rfl
 | .o p,.o q,.n l _ _,h=>T.jt v p q l (fun e=>h (by rw [e]))
 | .o p,.i q,.e,h=>by
  show T.get .e q=_;cases q<;>rfl
 | .o _,.i _,.n _ _ _,_=>rfl
 | .i p,.o q,.e,h=>by
  show T.get .e q=_;cases q<;>rfl
 | .i _,.o _,.n _ _ _,_=>rfl
 | .i p,.i q,.e,h=>by
  show(T.set .e p v).get q=_;rw [T.jt v p q .e (fun e=>h (by rw [e]))];cases q<;>rfl
 | .i p,.i q,.n _ _ r,h=>T.jt v p q r (fun e=>h (by rw [e]))
def T.g(t:T)(n:Nat):V:=t.get (P.nat n)
def T.s(t:T)(n:Nat)(v:V):T:=t.set (P.nat n) v
@[simp] theorem T.g_s (t:T) (n m:Nat) (v:V):(t.s n v).g m=if n=m then v else t.g m:=by
 unfold T.g T.s;split
 ·rename_i h;subst h;exact T.gD v _ t
 ·rename_i h;exact T.jt v _ _ t (nat_ne h)
def R(n:Nat):Arg:=.r (P.nat n)
def D(n:Nat):Option P:=aa (P.nat n)
def G(n:Nat)(w:Bool):Option (P × Bool):=aa (P.nat n,w)
abbrev vi(n:Int):V:=.c (.f (.int .i64 n))
abbrev vb(b:Bool):V:=.c (.f (.bool b))
abbrev fi(n:Int):FC:=.int .i64 n
@[simp] theorem CV (t:T) (n:Nat):(R n).ev t=t.g n:=rfl
@[simp] theorem asc (t:T) (v:V):(Arg.k v).ev t=v:=rfl
@[simp] theorem arl (t:T) (n:Nat) (v:V):jy t (D n) v=t.s n v:=rfl
@[simp] theorem anm (t:T) (v:V):jy t ab v=t:=rfl
@[simp] theorem aht (t:T) (n:Nat):t.get (P.nat n)=t.g n:=rfl
@[simp] theorem ajB (n:Nat) (ps:List P) (v:V) (b:List V) (t:T):cM (P.nat n::ps) (v::b) t=cM ps b (t.s n v):=rfl
@[simp] theorem amG (b:List V) (t:T):cM [] b t=t:=rfl
@[simp] theorem ajE (t:T):wanted t ab=aa ae:=rfl
@[simp] theorem apG (t:T) (n:Nat) (w:Bool):wanted t (G n w)=match t.g n with
  | .c (.f (.bool b))=>aa (b == w)| .t []=>aa ag| _=>ab:=rfl
attribute [simp] dz
def KO(o:Option (V × aj))(t:T)(ds:List dU)(K:V→St→Prop):Prop:=∃ p,o=aa p∧K p.1 ⟨t,ds,p.2⟩
@[simp] theorem apR (v:V) (H:aj) (t:T) (ds:List dU) (K:V→St→Prop):KO (aa (v,H)) t ds K↔K v ⟨t,ds,H⟩:=⟨fun⟨_,h,k⟩=>by cases h;exact k,fun k=>⟨_,rfl,k⟩⟩
def KP(P:V→Prop)(t:T)(ds:List dU)(H:aj)(K:V→St→Prop):Prop:=∃ x,P x∧K x ⟨t,ds,H⟩
@[simp] theorem arJ (x:V) (t:T) (ds:List dU) (H:aj) (K:V→St→Prop):KP (Eq x) t ds H K↔K x ⟨t,ds,H⟩:=⟨fun⟨_,h,k⟩=>by cases h;exact k,fun k=>⟨x,rfl,k⟩⟩
def E2(x:V)(H:aj)(y:V)(H':aj):Prop:=x=y∧H=H'
def KE(P:V→aj→Prop)(t:T)(ds:List dU)(K:V→St→Prop):Prop:=∃ x H,P x H∧K x ⟨t,ds,H⟩
@[simp] theorem arI (x:V) (H:aj) (t:T) (ds:List dU) (K:V→St→Prop):KE (E2 x H) t ds K↔K x ⟨t,ds,H⟩:=⟨fun⟨_,_,⟨b,d⟩,k⟩=>by cases b;cases d;exact k,fun k=>⟨x,H,⟨rfl,rfl⟩,k⟩⟩
section
variable(tab:TB)
def KC(b:Option (List V))(f:Nat)(t:T)(ds:List dU)(H:aj)(K:V→St→Prop):Prop:=∃ a,b=aa a∧KP (bh tab f a) t ds H K
def KD(c:Option (Callee × List V))(t:T)(ds:List dU)(H:aj)(K:V→St→Prop):Prop:=∃ a,c=aa a∧KE (Ev tab a.1 a.2 H) t ds K
def KS(os:List aP)(L:St→Prop)(s:St):Prop:=wE tab os s L
def FS(s:St)(K:St→Prop):Prop:=K s
def KV(o:Option P)(os:List aP)(L:St→Prop)(v:V)(s:St):Prop:=FS ⟨jy s.az o v,s.defs,s.heap⟩ (KS tab os L)
def GRD(w:Option Bool)(op:da)(o:Option P)(os:List aP)(L:St→Prop)(s:St):Prop:=
 match w with
 | some ae=>jD tab s op (KV tab o os L)| some ag=>FS ⟨jy s.az o (.t []),s.defs,s.heap⟩ (KS tab os L)| none=>False
end
section
variable{tab:TB}{t:T}{ds:List dU}{H:aj}{K:V→St→Prop}{L:St→Prop}
@[simp] theorem apP (a:List V) (f:Nat):KC tab (aa a) f t ds H K↔KP (bh tab f a) t ds H K:=⟨fun⟨_,h,k⟩=>by cases h;exact k,fun k=>⟨_,rfl,k⟩⟩
@[simp] theorem apQ (c:Callee) (a:List V):KD tab (aa (c,a)) t ds H K↔KE (Ev tab c a H) t ds K:=⟨fun⟨_,h,k⟩=>by cases h;exact k,fun k=>⟨_,rfl,k⟩⟩
@[simp] theorem arF (s:St) (K:St→Prop):FS s K↔K s:=Iff.rfl
@[simp ↓] theorem arK (os:List aP) (s:St):KS tab os L s↔wE tab os s L:=Iff.rfl
@[simp ↓] theorem arL (o:Option P) (os:List aP) (v:V):KV tab o os L v ⟨t,ds,H⟩↔FS ⟨jy t o v,ds,H⟩ (KS tab os L):=Iff.rfl
@[simp ↓] theorem arH (op:da) (o:Option P) (os:List aP) (s:St):GRD tab (aa ae) op o os L s↔jD tab s op (KV tab o os L):=Iff.rfl
@[simp ↓] theorem arG (op:da) (o:Option P) (os:List aP):GRD tab (aa ag) op o os L ⟨t,ds,H⟩↔FS ⟨jy t o (.t []),ds,H⟩ (KS tab os L):=Iff.rfl
theorem Fe{b:Bool}{op:da}{o:Option P}{os:List aP}{s:St}(d:b=ag→GRD tab (aa ae) op o os L s)(g:b=ae→GRD tab (aa ag) op o os L s):GRD tab (aa !b) op o os L s:=by
 cases b
 ·exact d rfl
 ·exact g rfl
@[simp ↓] theorem apS (s:St):wE tab [] s L↔L s:=Iff.rfl
@[simp ↓] theorem aoo (o:Option P) (op:da) (os:List aP):wE tab (⟨o,op,ab⟩::os) ⟨t,ds,H⟩ L↔jD tab ⟨t,ds,H⟩ op (KV tab o os L):=Iff.rfl
@[simp ↓] theorem am0 (o:Option P) (op:da) (n:Nat) (w:Bool) (os:List aP) :
  wE tab (⟨o,op,G n w⟩::os) ⟨t,ds,H⟩ L↔GRD tab (wanted t (G n w)) op o os L ⟨t,ds,H⟩:=by
 simp only [wE];rcases b:wanted t (G n w)with _ | _ | _<;>exact Iff.rfl
def da.plain:da→Bool
 | .call _ _ _ | .cr _ _ _ | .recover | .defer _ _=>ag| _=>ae
theorem cB{op:da}(h:op.plain=ae):jD tab ⟨t,ds,H⟩ op K↔KO (bo t H op) t ds K:=by
 have:jD tab ⟨t,ds,H⟩ op K↔∃ v H',bo t H op=aa (v,H')∧K v ⟨t,ds,H'⟩:=by
  cases op<;>first | exact Iff.rfl | simp [da.plain]at h
 rw [this];exact⟨fun⟨v,H',h,k⟩=>⟨(v,H'),h,k⟩,fun⟨p,h,k⟩=>⟨p.1,p.2,h,k⟩⟩
@[simp ↓] theorem aqg (x:Arg):jD tab ⟨t,ds,H⟩ (.a7 x) K↔KO (bo t H (.a7 x)) t ds K:=cB rfl
@[simp ↓] theorem apl (c a b:Arg):jD tab ⟨t,ds,H⟩ (.pick c a b) K↔KO (bo t H (.pick c a b)) t ds K:=cB rfl
@[simp ↓] theorem am_ (zs:List FC):jD tab ⟨t,ds,H⟩ (.alloc zs) K↔KO (bo t H (.alloc zs)) t ds K:=cB rfl
@[simp ↓] theorem aqc (x:Arg):jD tab ⟨t,ds,H⟩ (.box x) K↔KO (bo t H (.box x)) t ds K:=cB rfl
@[simp ↓] theorem ana (zs:List FC) (b:List (Nat × Nat × Arg)):jD tab ⟨t,ds,H⟩ (.build zs b) K↔KO (bo t H (.build zs b)) t ds K:=cB rfl
@[simp ↓] theorem amk (sz:Nat) (zs:List FC) (len:Nat) (b:List (Nat × Arg)):jD tab ⟨t,ds,H⟩ (.bP sz zs len b) K↔KO (bo t H (.bP sz zs len b)) t ds K:=cB rfl
@[simp ↓] theorem apg (n:Option Nat) (x:Arg):jD tab ⟨t,ds,H⟩ (.load n x) K↔KO (bo t H (.load n x)) t ds K:=cB rfl
@[simp ↓] theorem ank (n:Nat) (x y:Arg):jD tab ⟨t,ds,H⟩ (.store n x y) K↔KO (bo t H (.store n x y)) t ds K:=cB rfl
@[simp ↓] theorem amp (x:Arg):jD tab ⟨t,ds,H⟩ (.cq x) K↔KO (bo t H (.cq x)) t ds K:=cB rfl
@[simp ↓] theorem aqb (op:BinOp) (x y:Arg):jD tab ⟨t,ds,H⟩ (.bin op x y) K↔KO (bo t H (.bin op x y)) t ds K:=cB rfl
@[simp ↓] theorem arj (neg:Bool) (k:EI) (x y:Arg):jD tab ⟨t,ds,H⟩ (.eq neg k x y) K↔KO (bo t H (.eq neg k x y)) t ds K:=cB rfl
@[simp ↓] theorem ark (op:UnOp) (x:Arg):jD tab ⟨t,ds,H⟩ (.un op x) K↔KO (bo t H (.un op x)) t ds K:=cB rfl
@[simp ↓] theorem aqe (k:IntKind) (x:Arg):jD tab ⟨t,ds,H⟩ (.fP k x) K↔KO (bo t H (.fP k x)) t ds K:=cB rfl
@[simp ↓] theorem apk (f:Nat) (b:List Arg):jD tab ⟨t,ds,H⟩ (.fQ f b) K↔KO (bo t H (.fQ f b)) t ds K:=cB rfl
@[simp ↓] theorem ani:jD tab ⟨t,ds,H⟩ .jx K↔KO (bo t H .jx) t ds K:=cB rfl
@[simp ↓] theorem amo (d:CK) (b:FC) (m k:Arg):jD tab ⟨t,ds,H⟩ (.lookup d b m k) K↔KO (bo t H (.lookup d b m k)) t ds K:=cB rfl
@[simp ↓] theorem anh (b:CK) (m k v:Arg):jD tab ⟨t,ds,H⟩ (.iQ b m k v) K↔KO (bo t H (.iQ b m k v)) t ds K:=cB rfl
@[simp ↓] theorem ajx (sz bytes:Nat) (zs:List FC) (l c:Arg):jD tab ⟨t,ds,H⟩ (.dZ sz bytes zs l c) K↔KO (bo t H (.dZ sz bytes zs l c)) t ds K:=cB rfl
@[simp ↓] theorem anj (sz:Nat) (x:Arg) (lo hi mx:Option Arg):jD tab ⟨t,ds,H⟩ (.slice sz x lo hi mx) K↔KO (bo t H (.slice sz x lo hi mx)) t ds K:=cB rfl
@[simp ↓] theorem aml (off:Nat) (x:Arg):jD tab ⟨t,ds,H⟩ (.aR off x) K↔KO (bo t H (.aR off x)) t ds K:=cB rfl
@[simp ↓] theorem ang (off:Nat) (n:Option Nat) (x:Arg):jD tab ⟨t,ds,H⟩ (.field off n x) K↔KO (bo t H (.field off n x)) t ds K:=cB rfl
@[simp ↓] theorem amn (sz:Nat) (b:Option Nat) (x i:Arg):jD tab ⟨t,ds,H⟩ (.bM sz b x i) K↔KO (bo t H (.bM sz b x i)) t ds K:=cB rfl
@[simp ↓] theorem ajw (x:Arg) (i:Nat):jD tab ⟨t,ds,H⟩ (.extract x i) K↔KO (bo t H (.extract x i)) t ds K:=cB rfl
@[simp ↓] theorem aqf (x:Arg):jD tab ⟨t,ds,H⟩ (.len x) K↔KO (bo t H (.len x)) t ds K:=cB rfl
@[simp ↓] theorem aqd (x:Arg):jD tab ⟨t,ds,H⟩ (.cap x) K↔KO (bo t H (.cap x)) t ds K:=cB rfl
@[simp ↓] theorem amj (sz bytes:Nat) (x y:Arg):jD tab ⟨t,ds,H⟩ (.append sz bytes x y) K↔KO (bo t H (.append sz bytes x y)) t ds K:=cB rfl
@[simp ↓] theorem aph (lo:Bool) (xs:List Arg):jD tab ⟨t,ds,H⟩ (.gG lo xs) K↔KO (bo t H (.gG lo xs)) t ds K:=cB rfl
@[simp ↓] theorem ape (sz bytes:Nat) (zs:List FC) (x n:Arg):jD tab ⟨t,ds,H⟩ (.kQ sz bytes zs x n) K↔KO (bo t H (.kQ sz bytes zs x n)) t ds K:=cB rfl
@[simp ↓] theorem anf (sz:Nat) (zs:List FC) (x:Arg):jD tab ⟨t,ds,H⟩ (.clear sz zs x) K↔KO (bo t H (.clear sz zs x)) t ds K:=cB rfl
@[simp ↓] theorem amm (sz:Nat) (zs:List FC) (len:Nat) (b:List (Nat × Arg)):jD tab ⟨t,ds,H⟩ (.fL sz zs len b) K↔KO (bo t H (.fL sz zs len b)) t ds K:=cB rfl
@[simp ↓] theorem apj (f:Nat) (xs:List Arg):jD tab ⟨t,ds,H⟩ (.mq f xs) K↔KO (bo t H (.mq f xs)) t ds K:=cB rfl
@[simp ↓] theorem apf (f:Nat) (args:List Arg):jD tab ⟨t,ds,H⟩ (.call f args ag) K ↔
  KC tab (bg (cK deep H) (dz t args)) f t ds ((dz t args).foldl (mkV deep) H) K:=by
 simp only [jD,KC,KP];constructor
 ·intro h;rw [aX (by simp)]at h;obtain⟨b,r,d,g,j⟩:=h;exact⟨b,d,r,g,j⟩
 ·rintro⟨b,d,r,g,j⟩;rw [aX (by simp)];exact⟨b,r,d,g,j⟩
@[simp ↓] theorem ane (f:Nat) (args:List Arg):jD tab ⟨t,ds,H⟩ (.call f args ae) K↔KD tab (aa (.fn f,dz t args)) t ds H K:=by simp [jD,KD,KE]
@[simp ↓] theorem anb (x:Arg) (args:List Arg) (h:Bool):jD tab ⟨t,ds,H⟩ (.cr x args h) K↔KD tab (b5 (x.ev t) (dz t args)) t ds H K:=by
 simp only [jD,KD,KE];constructor
 ·rintro⟨c,as,r,H',b,d,g⟩;exact⟨(c,as),b,r,H',d,g⟩
 ·rintro⟨⟨c,as⟩,b,r,H',d,g⟩;exact⟨c,as,r,H',b,d,g⟩
end
def C5:V→Option Bool
 | .c (.f (.bool b))=>aa b| _=>ab
@[simp] theorem am1 (b:Bool):C5 (.c (.f (.bool b)))=aa b:=rfl
section
variable{t:T}{H:aj}
@[simp] theorem ar0 (x:Arg):bo t H (.a7 x)=aa (x.ev t,H):=rfl
@[simp] theorem ar1 (o:Os) (sz:Nat):bo t H (.pre o sz)=if o=.loc∨sz=0 then ab else aa (.c (.sl H.length 0 0 0 0 sz),H++[.cj sz [] 0 0 o]):=rfl
@[simp] theorem arD (c x y:Arg):bo t H (.pick c x y)=(C5 (c.ev t)).map fun b=>(if b then x.ev t else y.ev t,H):=by
 simp only [bo,C5];split
 ·rename_i b h;simp only [h];cases b<;>rfl
 ·rename_i h;split
  ·rename_i b d;exact absurd d (h b)
  ·rfl
@[simp] theorem aqo (zs:List FC):bo t H (.alloc zs)=aa (.c (.ptr H.length 0 0),H++[.box (zs.map .f) 0]):=rfl
@[simp] theorem arW (x:Arg):bo t H (.box x)=(x.ev t).cells?.map fun xs=>(.c (.ptr H.length 0 0),H++[.box xs 0]):=by
 simp only [bo];cases (x.ev t).cells?<;>rfl
@[simp] theorem aqp (zs:List FC) (ps:List (Nat × Nat × Arg)):bo t H (.build zs ps)=(dN t (zs.map .f) ps).map fun cs=>(.a cs,H):=rfl
@[simp] theorem apK (sz:Nat) (zs:List FC) (n:Nat) (ps:List (Nat × Arg)):bo t H (.bP sz zs n ps) =
  if n=0 then(if ps.isEmpty then aa (.c (.f .es),H)else ab)else
  (dN t ((cG n zs).map .f) (ps.map fun p=>(p.1*sz,sz,p.2))).map fun cs=>(.c (.sl H.length 0 n n 0 sz),H++[.box cs 0]):=rfl
@[simp] theorem arz (n:Option Nat) (x:Arg):bo t H (.load n x)=(aS H n (x.ev t)).map (·,H):=rfl
def zP(H:aj)(n:Nat)(x y:V):Option aj:=
 match x,y.cells? with
 | .c p,aa xs=>if xs.length=n then de H p xs else ab| _,_=>ab
@[simp] theorem aqv (n:Nat) (x y:Arg):bo t H (.store n x y)=(zP H n (x.ev t) (y.ev t)).map (.top,·):=by
 simp only [bo,zP];cases x.ev t with
 | c p=>cases (y.ev t).cells? with
  | none=>rfl| some xs=>by_cases h:xs.length=n<;>simp [h]
 | _=>rfl
@[simp] theorem apA (n:Nat) (p:C) (y:V):zP H n (.c p) y=y.cells?.bind fun xs=>if xs.length=n then de H p xs else ab:=by
 simp only [zP];cases y.cells?<;>rfl
@[simp] theorem arV (op:BinOp) (x y:Arg):bo t H (.bin op x y)=(dq op (x.ev t) (y.ev t)).map (·,H):=rfl
@[simp] theorem asg (neg:Bool) (k:EI) (x y:Arg):bo t H (.eq neg k x y)=(CC H k (x.ev t) (y.ev t)).map fun b=>(vb (if neg then !b else b),H):=rfl
@[simp] theorem ash (op:UnOp) (x:Arg):bo t H (.un op x)=(unV op (x.ev t)).map (·,H):=rfl
def alF(k:IntKind):V→Option V
 | .c (.f (.int _ n))=>aa (.c (.f (.int k (k.wrap n))))| _=>ab
@[simp] theorem aqO (k j:IntKind) (n:Int):alF k (.c (.f (.int j n)))=aa (.c (.f (.int k (k.wrap n)))):=rfl
@[simp] theorem arY (k:IntKind) (x:Arg):bo t H (.fP k x)=(alF k (x.ev t)).map (·,H):=by
 simp only [bo,alF];split
 ·rename_i h;simp only [h];rfl
 ·rename_i h;split
  ·rename_i b;exact absurd b (h _ _)
  ·rfl
@[simp] theorem arC (f:Nat) (b:List Arg):bo t H (.fQ f b)=(bg lY (dz t b)).map fun xs=>(.c (.cl f xs),H):=rfl
@[simp] theorem arB (f:Nat) (b:List Arg):bo t H (.mq f b)=(bg lY (dz t b)).map fun xs=>(.c (.bm f xs),H):=rfl
@[simp] theorem aqt (sz:Nat) (x:Arg) (lo hi mx:Option Arg):bo t H (.slice sz x lo hi mx)=(eQ H sz (x.ev t) (lo.map (·.ev t)) (hi.map (·.ev t)) (mx.map (·.ev t))).map (·,H):=rfl
@[simp] theorem apM (sz:Nat) (zs:List FC) (n:Nat) (ps:List (Nat × Arg)):bo t H (.fL sz zs n ps)=((dN t ((cG n zs).map .f) (ps.map fun p=>(p.1*sz,sz,p.2))).bind fun cs=>if n=0 then ab else fcL cs).map fun b=>(.c (.f (.fs b n)),H):=rfl
@[simp] theorem arE (sz:Nat) (x hi mx:Arg):bo t H (.vV sz x hi mx)=Cf H sz (x.ev t) (hi.ev t) (mx.ev t):=rfl
@[simp] theorem aqs (n sz:Nat) (x:Arg) (lo hi mx:Option Arg):bo t H (.mF n sz x lo hi mx)=(ka H n sz (x.ev t) (lo.map (·.ev t)) (hi.map (·.ev t)) (mx.map (·.ev t))).map (·,H):=rfl
@[simp] theorem aqu (x:Arg) (lo hi:Option Arg):bo t H (.nT x lo hi)=(vY (x.ev t) (lo.map (·.ev t)) (hi.map (·.ev t))).map (·,H):=rfl
@[simp] theorem apL (o:Nat) (x:Arg):bo t H (.aR o x)=(iY o (x.ev t)).map (·,H):=rfl
@[simp] theorem aqr (o:Nat) (n:Option Nat) (x:Arg):bo t H (.field o n x)=(jT o n (x.ev t)).map (·,H):=rfl
@[simp] theorem apN (sz:Nat) (b:Option Nat) (x i:Arg):bo t H (.bM sz b x i)=(bA H sz b (x.ev t) (i.ev t)).map (·,H):=rfl
@[simp] theorem arx (x i:Arg):bo t H (.idxs x i)=(Bn (x.ev t) (i.ev t)).map (·,H):=rfl
@[simp] theorem arw (len sz:Nat) (n:Option Nat) (x i:Arg):bo t H (.wL len sz n x i)=(Bm len sz n (x.ev t) (i.ev t)).map (·,H):=rfl
def cOf:V→Option C
 | .c x=>aa x| _=>ab
@[simp] theorem arN (x:C):cOf (.c x)=aa x:=rfl
@[simp] theorem arZ (x:Arg):bo t H (.len x)=((cOf (x.ev t)).bind (bt H)).map fun n=>(vi (n:Nat),H):=by
 simp only [bo,cOf];cases x.ev t with
 | c y=>simp only [asR];cases bt H y<;>rfl
 | _=>rfl
@[simp] theorem arX (x:Arg):bo t H (.cap x)=((cOf (x.ev t)).bind (iS H)).map fun n=>(vi (n:Nat),H):=by
 simp only [bo,cOf];cases x.ev t with
 | c y=>simp only [asR];cases iS H y<;>rfl
 | _=>rfl
def strOf:V→Option ByteArray
 | .c (.f (.str s))=>aa s| _=>ab
@[simp] theorem aqj (s:ByteArray):strOf (.c (.f (.str s)))=aa s:=rfl
@[simp] theorem ary (n:Nat):bo t H (.nv n)=aa (vi (n:Nat),H):=rfl
@[simp] theorem apJ (sz bytes:Nat) (x y:Arg):bo t H (.append sz bytes x y)=cI H sz bytes (x.ev t) (y.ev t):=rfl
@[simp] theorem arv (sz:Nat) (x y:Arg):bo t H (.copy sz x y)=copyV H sz (x.ev t) (y.ev t):=rfl
@[simp] theorem arA (lo:Bool) (xs:List Arg):bo t H (.gG lo xs)=(wP lo (dz t xs)).map (·,H):=rfl
def tOf:V→Option (List V)
 | .t b=>aa b| _=>ab
@[simp] theorem arU (b:List V):tOf (.t b)=aa b:=rfl
@[simp] theorem ano (x:Arg) (i:Nat):bo t H (.extract x i)=(tOf (x.ev t)).bind fun d=>d[i]?.map (·,H):=by
 simp only [bo,tOf];split
 ·rename_i h;simp only [h];rfl
 ·rename_i h;split
  ·rename_i b;exact absurd b (h _)
  ·rfl
def tt:V→Option V
 | .c (.ptr b o e)=>aa (.c (.ptr b o e))| .c (.f (.fp cs o))=>aa (.c (.f (.fp cs o)))| _=>ab
@[simp] theorem amg (b o e:Nat):tt (.c (.ptr b o e))=aa (.c (.ptr b o e)):=rfl
@[simp] theorem am' (cs:List FC) (o:Nat):tt (.c (.f (.fp cs o)))=aa (.c (.f (.fp cs o))):=rfl
@[simp] theorem apO (x:Arg):bo t H (.cq x)=(tt (x.ev t)).map (·,H):=by
 simp only [bo,tt];split
 ·rename_i h;simp only [h];rfl
 ·rename_i h;simp only [h];rfl
 ·rename_i b d;split
  ·rename_i h;exact absurd h (b _ _ _)
  ·rename_i h;exact absurd h (d _ _)
  ·rfl
@[simp] theorem am4 (f:Nat) (b:List FC) (args:List V):b5 (.c (.f (.fn f b))) args=aa (.fn f,args++b.map fun x=>.c (.f x)):=rfl
@[simp] theorem am3 (f:Nat) (b:List C) (args:List V):b5 (.c (.cl f b)) args=aa (.fn f,args++b.map .c):=rfl
@[simp] theorem am2 (f:Nat) (first:List C) (args:List V):b5 (.c (.bm f first)) args=aa (.fn f,first.map .c++args):=rfl
end
section
variable{k:IntKind}{a b:Int}{H:aj}
@[simp] theorem apT:dq .add (.c (.f (.int k a))) (.c (.f (.int k b)))=aa (.c (.f (.int k (k.wrap (a+b))))):=by simp [dq,ns,V.int]
@[simp] theorem ap1:dq .sub (.c (.f (.int k a))) (.c (.f (.int k b)))=aa (.c (.f (.int k (k.wrap (a-b))))):=by simp [dq,ns,V.int]
@[simp] theorem apZ:dq .mul (.c (.f (.int k a))) (.c (.f (.int k b)))=aa (.c (.f (.int k (k.wrap (a*b))))):=by simp [dq,ns,V.int]
theorem ta(h:b≠0):dq .quo (.c (.f (.int k a))) (.c (.f (.int k b)))=aa (.c (.f (.int k (k.wrap (a.tdiv b))))):=by simp [dq,ns,V.int,h]
theorem ik(h:b≠0):dq .rem (.c (.f (.int k a))) (.c (.f (.int k b)))=aa (.c (.f (.int k (a.tmod b)))):=by simp [dq,ns,V.int,h]
@[simp] theorem apU:dq .eql (.c (.f (.int k a))) (.c (.f (.int k b)))=aa (vb (decide (a=b))):=by simp [dq,ns,V.bool];rfl
@[simp] theorem ap0:dq .neq (.c (.f (.int k a))) (.c (.f (.int k b)))=aa (vb (!decide (a=b))):=by simp [dq,ns,V.bool];rfl
@[simp] theorem apY:dq .lss (.c (.f (.int k a))) (.c (.f (.int k b)))=aa (vb (decide (a<b))):=by simp [dq,ns,V.bool]
@[simp] theorem apX:dq .leq (.c (.f (.int k a))) (.c (.f (.int k b)))=aa (vb (decide (a≤b))):=by simp [dq,ns,V.bool]
@[simp] theorem apW:dq .gtr (.c (.f (.int k a))) (.c (.f (.int k b)))=aa (vb (decide (b<a))):=by simp [dq,ns,V.bool]
@[simp] theorem apV:dq .geq (.c (.f (.int k a))) (.c (.f (.int k b)))=aa (vb (decide (b≤a))):=by simp [dq,ns,V.bool]
@[simp] theorem aoK {x y:Bool}:E4 .bool (.f (.bool x)) (.f (.bool y))=aa (x == y):=rfl
@[simp] theorem ap6:E4 .int (.f (.int k a)) (.f (.int k b))=aa (a == b):=by simp [E4]
@[simp] theorem ap7 {x y:ByteArray}:E4 .str (.f (.str x)) (.f (.str y))=aa (x == y):=rfl
@[simp] theorem ap5:qa [] [] []=aa ae:=rfl
@[simp] theorem aoJ {q:CK} {qs:List CK} {x y:C} {xs ys:List C}:qa (q::qs) (x::xs) (y::ys)=(E4 q x y).bind fun c=>(qa qs xs ys).map fun d=>c&&d:=by
 simp only [qa];cases E4 q x y<;>cases qa qs xs ys<;>rfl
@[simp] theorem aoL {x y:Bool}:CC H .bool (.c (.f (.bool x))) (.c (.f (.bool y)))=aa (x == y):=rfl
@[simp] theorem De {b:List CK} {xs ys:List C}:CC H (.st b) (.a xs) (.a ys)=qa b xs ys:=rfl
@[simp] theorem aru {x:Bool}:unV .not (.c (.f (.bool x)))=aa (vb (!x)):=rfl
@[simp] theorem alO {o c o' ep:Nat}:iY o (.c (.ptr c o' ep))=aa (.c (.ptr c (o'+o) ep)):=rfl
@[simp] theorem am6 {o o':Nat} {cs:List FC}:iY o (.c (.f (.fp cs o')))=aa (.c (.f (.fp cs (o'+o)))):=rfl
@[simp] theorem ap4 {x:C}:(V.c x).cells?=aa [x]:=rfl
@[simp] theorem ap3 {xs:List C}:(V.a xs).cells?=aa xs:=rfl
@[simp] theorem ar4 {n:Nat} {x:FC}:eG n H (.f x)=aa x:=by cases n<;>rfl
@[simp] theorem arP {n:Nat} {x:C}:cK n H (.c x)=(eG n H x).map fun y=>.c (.f y):=rfl
@[simp] theorem arR {n f:Nat} {b:List C}:eG (n+1) H (.cl f b)=(bg (eG n H) b).map (.fn f):=rfl
@[simp] theorem aqR {n b o e:Nat}:eG (n+1) H (.ptr b o e)=match H[b]? with
  | some (.box cs _)=>(bg (eG n H) cs).map (.fp · o)| _=>ab:=rfl
theorem lJ{n b o l c ep sz:Nat}:eG (n+1) H (.sl b o l c ep sz)=match H[b]? with
  | some (.box cs _)=>if o+l*sz≤cs.length then(bg (eG n H) ((cs.drop o).take (l*sz))).map (.fs · l)else ab| some (.cj s cs _ e .loc)=>if ep=e∧sz=s∧o+l*sz≤cs.length then(bg (eG n H) ((cs.drop o).take (l*sz))).map (.fs · l)else ab| some (.cj s _ _ e .nil)=>if ep=e∧sz=s then aa .au else ab| some (.cj s _ _ e .es)=>if ep=e∧sz=s then aa .es else ab| _=>ab:=rfl
theorem DN{n b o e:Nat}:gu (n+1) (.ptr b o e) H=match H[b]? with
  | some (.box cs fl)=>cs.foldl (fun H x=>gu n x H) (H.set b (.box cs (Nat.max fl cs.length)))
  | _=>H:=rfl
theorem pF{n b o l c e sz:Nat}:gu (n+1) (.sl b o l c e sz) H=match H[b]? with
  | some (.box cs fl)=>((cs.drop o).take (l*sz)).foldl (fun H x=>gu n x H) (H.set b (.box cs (Nat.max fl (o+l*sz))))
  | some (.cj s cs fl e d)=>((cs.drop o).take (l*sz)).foldl (fun H x=>gu n x H) (H.set b (.cj s cs (Nat.max fl (o+l*sz)) e d))
  | _=>H:=rfl
theorem aba{n f:Nat}{b:List C}:gu (n+1) (.cl f b) H=b.foldl (fun H x=>gu n x H) H:=rfl
@[simp] theorem ase {n:Nat} {x:C}:mkV n H (.c x)=gu n x H:=rfl
@[simp] theorem arQ {n:Nat} {x:C}:iV n H (.c x)=(eG n H x).map fun y=>.c (.f y):=rfl
theorem qU{n:Nat}:∀(xs:List FC),bg (eG n H) (xs.map .f)=aa xs
 | []=>rfl| x::xs=>by simp [bg,qU xs]
@[simp] theorem arO {n:Nat} {xs:List C}:cK n H (.a xs)=(bg (eG n H) xs).map fun ys=>.a (ys.map .f):=rfl
@[simp] theorem ap' {n:Nat} (xs:List FC):bg (eG n H) (xs.map .f)=aa xs:=qU xs
@[simp] theorem asd {n:Nat} {xs:List C}:mkV n H (.a xs)=xs.foldl (fun H x=>gu n x H) H:=rfl
@[simp] theorem ajv {n:Nat} {x:FC}:gu n (.f x) H=H:=by cases n<;>rfl
@[simp] theorem am8 {n:Nat} (xs:List FC):(xs.map C.f).foldl (fun H x=>gu n x H) H=H:=by
 induction xs with
 | nil=>rfl| cons x xs b=>simp only [asq,aty];rw [ajv];exact b
end
theorem wrap64{n:Int}(b:-9223372036854775808≤n)(d:n≤9223372036854775807):IntKind.wrap .i64 n=n:=by
 simp only [IntKind.wrap,IntKind.bits,IntKind.signed];simp;omega
theorem aU{n:Int}(b:-9223372036854775808≤n:=by omega)(d:n≤9223372036854775807:=by omega):IntKind.wrap .i64 n=n:=wrap64 b d
@[simp] theorem cast_eq (a b:Nat):((a:Int)=(b:Int))=(a=b):=propext Int.natCast_inj
@[simp] theorem ao' {b d:Type} (g:b→Option d):bg g []=aa []:=rfl
@[simp] theorem am9 {b d:Type} (g:b→Option d) (x:b) (xs:List b):bg g (x::xs)=(g x).bind fun y=>(bg g xs).map (y::·):=by
 simp only [bg];cases g x<;>cases bg g xs<;>simp
@[simp] theorem aqk (x:C) (xs:List C):aQ ab (x::xs)=aa (.c x):=rfl
@[simp] theorem aql (n:Nat) (xs:List C):aQ (aa n) xs=if n≤xs.length then aa (.a (xs.take n))else ab:=rfl
@[simp] theorem av (H:aj) (n:Option Nat) (b o ep:Nat):aS H n (.c (.ptr b o ep))=match H[b]? with
  | some (.box cs _)=>aQ n (cs.drop o)| some (.cj _ cs _ e .loc)=>if ep=e then aQ n (cs.drop o)else ab| _=>ab:=by
 simp only [aS,aE];split
 ·rename_i h;simp only [h];rfl
 ·rename_i h;simp only [h];split<;>rfl
 ·rename_i d g;split
  ·rename_i h;exact absurd h (d _ _)
  ·rename_i h;exact absurd h (g _ _ _ _)
  ·rfl
theorem nQ(H:aj)(n:Option Nat)(cs:List FC)(o:Nat):aS H n (.c (.f (.fp cs o)))=aQ n ((cs.drop o).map .f):=rfl
@[simp] theorem bf (H:aj) (b o ep:Nat) (xs:List C):de H (.ptr b o ep) xs=match H[b]? with
  | some (.box cs fl)=>if fl≤o∧o+xs.length≤cs.length then aa (H.set b (.box (over cs o xs) fl))else ab| some (.cj sz cs fl e .loc)=>if ep=e∧fl≤o∧o+xs.length≤cs.length then aa (H.set b (.cj sz (over cs o xs) fl e .loc))else ab| _=>ab:=rfl
attribute [simp] over cG
@[simp] theorem amr (t:T) (cs:List C):dN t cs []=aa cs:=rfl
@[simp] theorem ajy (t:T) (cs:List C) (o n:Nat) (x:Arg) (ps:List (Nat × Nat × Arg)):dN t cs ((o,n,x)::ps)=(x.ev t).cells?.bind fun xs=>if xs.length=n∧o+xs.length≤cs.length then dN t (over cs o xs) ps else ab:=by
 simp only [dN];cases (x.ev t).cells?<;>rfl
@[simp] theorem aqM (x:FC):lY (.c (.f x))=aa (.f x):=rfl
@[simp] theorem aoH (b o e:Nat):lY (.c (.ptr b o e))=aa (.ptr b o e):=rfl
@[simp] theorem ap2 (b o l c e s:Nat):lY (.c (.sl b o l c e s))=aa (.sl b o l c e s):=rfl
def amV:V→Option V
 | .t _=>ab| v=>aa v
@[simp] theorem art (x:C):amV (.c x)=aa (.c x):=rfl
@[simp] theorem ars (x:List C):amV (.a x)=aa (.a x):=rfl
@[simp] theorem aqh (t:T) (H:aj) (n:Nat):cQ t H (.tmp (P.nat n))=amV (t.g n):=by
 simp only [cQ,aht];cases t.g n<;>rfl
@[simp] theorem apr (t:T) (H:aj) (n:Nat) (k:Option Nat):cQ t H (.cell (P.nat n) k)=aS H k (t.g n):=rfl
@[simp] theorem ap8 {t:T} {H:aj} {x:gw} {r:V}:rJ [x] r ⟨t,[],H⟩↔∃ b,cQ t H x=aa b∧iV deep H b=aa r:=by
 simp only [rJ,results,true_and,bg];cases cQ t H x<;>simp
@[simp] theorem ap9 {t:T} {H:aj} {x y:gw} {a b:V}:rJ [x,y] (.t [a,b]) ⟨t,[],H⟩ ↔
  (∃ d,cQ t H x=aa d∧cK deep H d=aa a)∧∃ d,cQ t H y=aa d∧cK deep H d=aa b:=by
 simp only [rJ,results,true_and,bg];cases cQ t H x with
 | none=>simp
 | some u=>cases cQ t H y with
  | none=>simp| some w=>cases g:cK deep H u<;>cases j:cK deep H w<;>simp [iV,g,j]
@[simp] theorem am7 {t:T} {H:aj} {x y z:gw} {a b c:V}:rJ [x,y,z] (.t [a,b,c]) ⟨t,[],H⟩ ↔
  (∃ d,cQ t H x=aa d∧cK deep H d=aa a)∧(∃ d,cQ t H y=aa d∧cK deep H d=aa b)∧∃ d,cQ t H z=aa d∧cK deep H d=aa c:=by
 simp only [rJ,results,true_and,bg];cases cQ t H x with
 | none=>simp
 | some u=>cases cQ t H y with
  | none=>simp
  | some w=>cases cQ t H z with
   | none=>simp| some q=>cases g:cK deep H u<;>cases j:cK deep H w<;>cases l:cK deep H q<;>simp [iV,g,j,l]
inductive Tg where | nil | es | fs
 deriving DecidableEq
def Tg.fc:Tg→FC
 | .nil=>.au| .es=>.es| .fs=>.fs [] 0
def sl(g:Tg)(rows:List (List FC)):FC:=if rows.isEmpty then g.fc else .fs rows.flatten rows.length
def cC(sz:Nat)(rows:List (List FC)):Prop:=∀ r ∈ rows,r.length=sz
theorem ct{sz:Nat}:∀ {rows:List (List FC)},cC sz rows→rows.flatten.length=rows.length*sz
 | [],_=>by simp
 | r::rows,h=>by
  have:=ct (rows:=rows) fun x b=>h x (asm _ b);simp only [asE,api,asX,this,h r asn,asL,aud];omega
theorem xC{sz:Nat}:∀ {rows:List (List FC)} (j:Nat),cC sz rows→rows.flatten.drop (j*sz)=(rows.drop j).flatten
 | rows,0,_=>by simp
 | [],j+1,_=>by simp
 | r::rows,j+1,h=>by
  have b:=h r asn;have:=xC (rows:=rows) j fun x d=>h x (asm _ d);rw [asE,List.drop_succ_cons,←this,asL,aud,List.drop_append,b];simp [b,show j*sz+sz-sz=j*sz by omega]
theorem yE{sz:Nat}:∀ {rows:List (List FC)} (j:Nat),cC sz rows→rows.flatten.take (j*sz)=(rows.take j).flatten
 | rows,0,_=>by simp
 | [],j+1,_=>by simp
 | r::rows,j+1,h=>by
  have b:=h r asn;have:=yE (rows:=rows) j fun x d=>h x (asm _ d);rw [asE,at5,asE,←this,asL,aud,List.take_append,b];simp [b,show j*sz+sz-sz=j*sz by omega];rw [arf (by omega)]
theorem cC.map{b:Type}{sz:Nat}{l:List b}{g:b→List FC}(h:∀ x,(g x).length=sz):cC sz (l.map g):=fun r d=>by
 obtain⟨x,_,rfl⟩:=asH.1 d;exact h x
theorem uj{sz j k:Nat}{rows:List (List FC)}{row:List FC}(d:cC sz rows)(b:rows[j]?=aa row)(l:k≤sz) :
  rows.flatten.drop (j*sz+k)=row.drop k++(rows.drop (j+1)).flatten:=by
 have g:j<rows.length:=(BY.1 b).1;have m:row.length=sz:=d row (asp b);rw [←ate,xC j d,arM g,asE];have:rows[j]=row:=by simpa [By g]using b
 rw [this,List.drop_append,show k-row.length=0 by omega];simp
variable{H:aj}
theorem ib{sz j k:Nat}{rows:List (List FC)}{row:List FC}{x:FC}(b:cC sz rows)(d:rows[j]?=aa row)(l:row[k]?=aa x) :
  aS H ab (.c (.f (.fp rows.flatten (j*sz+k))))=aa (.c (.f x)):=by
 have m:row.length=sz:=b row (asp d);have g:k<row.length:=(BY.1 l).1;have e:=uj (k:=k) b d (by omega);simp only [aS,aE,asR,e];rw [arM g];have:row[k]=x:=by simpa [By g]using l
 simp [aQ,this]
theorem Ft{sz j k n:Nat}{rows:List (List FC)}{row:List FC}(b:cC sz rows)(d:rows[j]?=aa row)(g:k+n≤sz) :
  aS H (aa n) (.c (.f (.fp rows.flatten (j*sz+k))))=aa (.a (((row.drop k).take n).map .f)):=by
 have l:row.length=sz:=b row (asp d);have e:=uj (k:=k) b d (by omega);simp only [aS,aE,asR,e];simp only [aQ];rw [ba (by simp only [asi,api,asr];omega)];rw [as5,asG (by simp only [asi,asr];omega),List.map_take]
theorem cf{sz j:Nat}{rows:List (List FC)}{row:List FC}(b:cC sz rows)(d:rows[j]?=aa row) :
  aS H (aa sz) (.c (.f (.fp rows.flatten (j*sz))))=aa (.a (row.map .f)):=by
 have g:row.length=sz:=b row (asp d);have:=Ft (H:=H) (k:=0) (n:=sz) b d (by omega);simp only [atJ,atf]at this;rw [this,arf (by omega)]
theorem m6{sz j:Nat}{rows:List (List FC)}{row:List FC}{x:FC}(b:cC sz rows)(d:rows[j]?=aa row)(g:row[0]?=aa x) :
  aS H ab (.c (.f (.fp rows.flatten (j*sz))))=aa (.c (.f x)):=ib (k:=0) b d g
theorem ahN{j:Nat}{l:List Int}{x:Int}(b:l[j]?=aa x) :
  aS H ab (.c (.f (.fp (l.map fun n=>[fi n]).flatten (j*1))))=aa (vi x):=
 m6 (row:=[fi x]) (cC.map fun _=>rfl) (by rw [asU,b];rfl) rfl
@[simp] theorem Dy (g:Tg) (rows:List (List FC)):bt H (.f (sl g rows))=aa rows.length:=by
 cases rows with
 | nil=>cases g<;>rfl
 | cons r rows=>rfl
theorem bC{g:Tg}{rows:List (List FC)}{sz:Nat}{k:IntKind}{i:Int}(h0:0≤i)(b:i<rows.length) :
  bA H sz ab (.c (.f (sl g rows))) (.c (.f (.int k i)))=aa (.c (.f (.fp rows.flatten (i.toNat*sz)))):=by
 cases rows with
 | nil=>simp at b;omega
 | cons r rows=>
  simp only [asX]at b;simp [bA,hZ,sl,h0];omega
theorem A5{g:Tg}{rows:List (List FC)}{sz:Nat}(b:cC sz rows):cS H sz (.f (sl g rows))=aa (rows.flatten.map .f):=by
 cases rows with
 | nil=>cases g<;>simp [sl,Tg.fc,cS]
 | cons r rows=>
  have:=ct b;simp only [sl,aub,aso,if_false,cS,this,if_true]
end
section
open Go
def Kf(tab:TB)(f:Nat)(args:List V)(r:V):Prop:=∀ H,∃ J,Ev tab (.fn f) args H r (H++J)
section
variable{tab:TB}{f:Nat}{args:List V}{r:V}
theorem Kf.pure{x:FC}(h:Kf tab f args (.c (.f x))):bh tab f args (.c (.f x)):=by
 obtain⟨J,h⟩:=h [];exact⟨_,_,h,by simp⟩
theorem Kf.eq{x:FC}(h:Kf tab f args (.c (.f x))):bh tab f args=Eq (.c (.f x)):=
 funext fun r=>propext ⟨fun k=>h.pure.det k,fun e=>e▸h.pure⟩
theorem bh.eq{r:V}(h:bh tab f args r):bh tab f args=Eq r:=funext fun _=>propext ⟨fun k=>h.det k,fun e=>e▸h⟩
noncomputable def ahG (tab:TB) (f:Nat) (args:List V) (H:aj):aj:=Classical.epsilon fun J=>∃ r,Ev tab (.fn f) args H r (H++J)
theorem Kf.ev(h:Kf tab f args r)(H:aj):Ev tab (.fn f) args H=E2 r (H++ahG tab f args H):=by
 have l:∃ J,∃ r,Ev tab (.fn f) args H r (H++J):=by obtain⟨J,b⟩:=h H;exact⟨J,r,b⟩
 have m:∃ r,Ev tab (.fn f) args H r (H++ahG tab f args H):=Classical.epsilon_spec l;obtain⟨J,b⟩:=h H;obtain⟨r',d⟩:=m;obtain⟨rfl,e⟩:=b.det d;funext x H';exact propext ⟨fun k=>d.det k,fun⟨g,j⟩=>g▸j▸d⟩
theorem Ev.eq{c:Callee}{H H':aj}(h:Ev tab c args H r H'):Ev tab c args H=E2 r H':=funext fun _=>funext fun _=>propext ⟨fun k=>h.det k,fun⟨b,d⟩=>b▸d▸h⟩
theorem Kf.D4{xs:List FC}(h:Kf tab f args (.a (xs.map .f))):bh tab f args (.a (xs.map .f)):=by
 obtain⟨J,h⟩:=h [];exact⟨_,_,h,by simp [iV]⟩
def agZ(res:List gw)(r:V)(H:aj)(s:St):Prop:=s.defs=[]∧results s.az s.heap res=aa r∧∃ J,s.heap=H++J
theorem cT{ps:List P}{res:List gw}{body:aF}(x:tab f=aa ⟨ps,res,body⟩)(v:args.length=ps.length)
  (h:∀(H:aj) (Q:Option aF→St→Prop),(∀ j s,agZ res r H s→Q j s)→WP tab f ab [.code body] ⟨cM ps args .e,[],H⟩ Q):Kf tab f args r:=by
 intro H;have b:=h H (fun _ s=>agZ res r H s) fun _ _ h=>h;obtain⟨n,m,d,j,s,g,u,l,J,q⟩:=b;exact⟨J,rq x v ⟨n,m,d,j,s,g,0,0,s.heap,by rw [u];rfl,by rw [l],q⟩⟩
@[simp] theorem aoP {t:T} {H H':aj} {x:gw}:agZ [x] r H ⟨t,[],H'⟩↔cQ t H' x=aa r∧∃ J,H'=H++J:=by
 simp only [agZ,results,true_and,bg];cases cQ t H' x<;>simp
theorem pJ{m d:Nat}{x:V}(h:((CF tab m d (.fn f) args []).bind fun p=>iV deep p.2 p.1)=aa x):bh tab f args x:=by
 rw [asB]at h;obtain⟨⟨r,H'⟩,b,g⟩:=h;exact⟨r,H',⟨m,d,b⟩,g⟩
theorem asf{tab:TB}{f:Nat}{args:List V}{x:V}(h:((CF tab 60 10 (.fn f) args []).bind fun p=>iV deep p.2 p.1)=aa x):bh tab f args=Eq x:=bh.eq (pJ h)
theorem fg{S:V→Prop}{ps:List P}{res:List gw}{body:aF}(y:tab f=aa ⟨ps,res,body⟩)(v:args.length=ps.length)
  (h:∀ Q:Option aF→St→Prop,(∀ j s r,S r→rJ res r s→Q j s)→WP tab f ab [.code body] ⟨cM ps args .e,[],[]⟩ Q):∃ r,S r∧bh tab f args r:=by
 have l:=h (fun _ s=>∃ r,S r∧rJ res r s) fun _ _ r b g=>⟨r,b,g⟩
 obtain⟨n,m,d,j,s,b,r,x,u,z,g,q⟩:=l;exact⟨r,x,z,s.heap,rq y v ⟨n,m,d,j,s,b,0,0,s.heap,by rw [u];rfl,g,rfl⟩,q⟩
variable{fn i:Nat}{ro:Option Nat}{k:List dg}{ds:List dU}{Q:Option aF→St→Prop}
def sU(a x:Nat):aF:=.region [⟨D x,.bin .add (R a) (.k (.c (.f (.int .i64 1)))),ab⟩,⟨D a,.a7 (R x),ab⟩] []
def iN(i a b c x:Nat)(body:aF):aF:=.seq (.region [⟨D c,.bin .lss (R a) (R b),ab⟩] []) (.seq (.cond (R c) .skip (.exit i)) (.seq body (sU a x)))
def zi(i a b c x:Nat)(body:aF):aF:=.block i (.loop (iN i a b c x body))
theorem bW{a b c x:Nat}{body:aF}{t:T}{H:aj}(N:Nat)(I:Nat→T→aj→Prop)(F:N≤9223372036854775807)(y:a≠b)(A:x≠b)
  (g:t.g a=vi 0) (l:t.g b=vi N) (h0:I 0 t H)
  (step:∀ j t H,j<N→I j t H→t.g a=vi j→t.g b=vi N →
   (∀ q H',I (j+1) ((q.s x (vi (j+1:Nat))).s a (vi (j+1:Nat))) H'→q.g a=vi j→q.g b=vi N →
    WP tab fn ro (.code (sU a x)::.inLoop (iN i a b c x body)::.inBlock i::k) ⟨q,ds,H'⟩ Q) →
   WP tab fn ro (.code body::.code (sU a x)::.inLoop (iN i a b c x body)::.inBlock i::k) ⟨t.s c (vb ae),ds,H⟩ Q)
  (done:∀ t H,I N t H→t.g a=vi N→t.g b=vi N→WP tab fn ro k ⟨t.s c (vb ag),ds,H⟩ Q) :
  WP tab fn ro (.code (zi i a b c x body)::k) ⟨t,ds,H⟩ Q:=by
 have m:∀ ops:List aP,ops.all (·.op.ea)=ae→ro=ab∨ops.all (·.op.ea)=ae:=fun _ h=>.inr h;refine aG ?_;refine cP (fun n s=>∃ j t H,s=⟨t,ds,H⟩∧j≤N∧n=N-j∧I j t H∧t.g a=vi j∧t.g b=vi N) N ⟨0,t,H,rfl,by omega,by omega,h0,g,l⟩ ?_;rintro n s ⟨j,t,H,rfl,J,rfl,B,g,l⟩ E;apply ak;refine al (m _ rfl) ?_;simp [g,l];by_cases d:j<N
 ·rw [decide_eq_true d];apply ak;refine aq (by simp) ?_;refine aO ?_;apply ak;refine step j t H d B g l fun q H' u v z=>?_;refine al (m _ rfl) ?_;simp [v];rw [aU];refine E (N-(j+1)) _ (by omega) ⟨j+1,_,H',rfl,by omega,rfl,by simpa using u,by simp,?_⟩;simp [y,A,z]
 ·have:j=N:=by omega
  subst this;rw [decide_eq_false d];apply ak;refine aD (by simp) ?_;refine bR (k':=k) (by simp [exitTo]) ?_;exact done t H B g l
def Fh(a x y:Nat):aF:=.region [⟨D x,.a7 (R a),ab⟩,⟨D y,.bin .add (R x) (.k (.c (.f (.int .i64 1)))),ab⟩,⟨D a,.a7 (R y),ab⟩] []
def tz(i a c x y:Nat)(b:List aP)(body:aF):aF:=.seq (.seq (.region b []) (.cond (R c) .skip (.exit i))) (.seq body (Fh a x y))
def Z9(i a c x y:Nat)(b:List aP)(body:aF):aF:=.block i (.loop (tz i a c x y b body))
theorem py{a c x y:Nat}{g:List aP}{body:aF}{t:T}{H:aj}(N:Nat)(I:Nat→T→aj→Prop)(J:N≤9223372036854775807)(B:g.all (·.op.ea)=ae)
  (d:t.g a=vi 0) (h0:I 0 t H)
  (l:∀ j t H (L:St→Prop),j≤N→I j t H→t.g a=vi j→(∀ b,I j b H→b.g a=vi j→b.g c=vb (decide ((j:Int)<(N:Int)))→L ⟨b,ds,H⟩)→wE tab g ⟨t,ds,H⟩ L)
  (step:∀ j t H,j<N→I j t H→t.g a=vi j →
   (∀ b H',I (j+1) (((b.s x (vi j)).s y (vi (j+1:Nat))).s a (vi (j+1:Nat))) H'→b.g a=vi j →
    WP tab fn ro (.code (Fh a x y)::.inLoop (tz i a c x y g body)::.inBlock i::k) ⟨b,ds,H'⟩ Q) →
   WP tab fn ro (.code body::.code (Fh a x y)::.inLoop (tz i a c x y g body)::.inBlock i::k) ⟨t,ds,H⟩ Q)
  (done:∀ t H,I N t H→t.g a=vi N→WP tab fn ro k ⟨t,ds,H⟩ Q) :
  WP tab fn ro (.code (Z9 i a c x y g body)::k) ⟨t,ds,H⟩ Q:=by
 have m:∀ ops:List aP,ops.all (·.op.ea)=ae→ro=ab∨ops.all (·.op.ea)=ae:=fun _ h=>.inr h;refine aG ?_;refine cP (fun n s=>∃ j t H,s=⟨t,ds,H⟩∧j≤N∧n=N-j∧I j t H∧t.g a=vi j) N ⟨0,t,H,rfl,by omega,by omega,h0,d⟩ ?_;rintro n s ⟨j,t,H,rfl,E,rfl,q,d⟩ F;apply ak;apply ak;refine al (m _ B) ?_;refine l j t H _ E q d fun b q d u=>?_;by_cases A:j<N
 ·rw [decide_eq_true (by omega)]at u;refine aq u ?_;refine aO ?_;apply ak;refine step j b H A q d fun b H' v z=>?_;refine al (m _ rfl) ?_;simp [z];rw [aU];exact F (N-(j+1)) _ (by omega) ⟨j+1,_,H',rfl,by omega,rfl,by simpa using v,by simp⟩
 ·have:j=N:=by omega
  subst this;rw [decide_eq_false (by omega)]at u;refine aD u ?_;refine bR (k':=k) (by simp [exitTo]) ?_;exact done b H q d
end
end
section
open Go
def jU{b:Type}(l:List b)(p:b→Bool):Int:=match l.findIdx? p with | some j=>j | none=>-1
theorem Oz{b:Type}(l:List b)(p:b→Bool):decide (0≤jU l p)=l.any p:=by
 unfold jU;cases h:l.findIdx? p with
 | none=>
  rw [List.findIdx?_eq_none_iff]at h;have:l.any p=ag:=by rw [List.any_eq_false];intro x m;simp [h x m]
  simp [this]
 | some j=>
  rw [atl]at h;obtain⟨d,g,_⟩:=h;have:l.any p=ae:=by rw [List.any_eq_true];exact⟨l[j],anc d,g⟩
  simp [this]
theorem Oy{b:Type}{l:List b}{p:b→Bool}{j:Nat}(d:j<l.length)(m:p l[j]=ae)(g:∀(i:Nat) (hi:i<j),p (l[i]'(by omega))=ag):jU l p=j:=by
 have:l.findIdx? p=aa j:=by
  rw [atl];exact⟨d,m,fun i hi=>by simp [g i hi]⟩
 simp [jU,this]
theorem OA{b:Type}{l:List b}{p:b→Bool}(d:∀(i:Nat) (hi:i<l.length),p l[i]=ag):jU l p = -1:=by
 have:l.findIdx? p=ab:=by
  rw [List.findIdx?_eq_none_iff];intro x g;obtain⟨i,hi,rfl⟩:=List.getElem_of_mem g;exact d i hi
 simp [jU,this]
def ints(l:List Int):List (List FC):=l.map fun n=>[fi n]
@[simp] theorem ao0 (l:List Int):(ints l).length=l.length:=by simp [ints]
theorem jw{j:Nat}{l:List Int}(b:j<l.length){H:aj}:aS H ab (.c (.f (.fp (ints l).flatten j)))=aa (vi l[j]):=by
 have:=ahN (H:=H) (By b);simpa [ints]using this
variable{tab:TB}
def ahA(t:List aP):aF:=.block 1 (.seq (.region [⟨D 10,.a7 (R 8),ab⟩,⟨D 5,.a7 (R 10),ab⟩] []) (.seq
 (.region t []) (.cond (R 16) (.seq (.region [⟨D 17,.a7 (R 5),ab⟩,⟨D 4,.a7 (R 17),ab⟩] []) .ret) .skip)))
def alY(t:List aP):aK:=⟨[P.nat 0,P.nat 1],[.tmp (P.nat 4)],.seq (.region [⟨D 4,.a7 (.k (.c (.f (.int .i64 0)))),ab⟩] [])
 (.seq (.seq (.region [⟨D 6,.a7 (R 0),ab⟩,⟨D 7,.len (R 6),ab⟩,⟨D 8,.a7 (.k (.c (.f (.int .i64 0)))),ab⟩] []) (zi 0 8 7 9 18 (ahA t)))
 (.seq (.region [⟨D 4,.a7 (.k (.c (.f (.int .i64 (-1))))),ab⟩] []) .ret))⟩
def ajj:List aP:=[⟨D 11,.a7 (R 1),ab⟩,⟨D 12,.a7 (R 0),ab⟩,⟨D 13,.a7 (R 5),ab⟩,⟨D 14,.bM 1 ab (R 12) (R 13),ab⟩,⟨D 15,.load ab (R 14),ab⟩,⟨D 16,.bin .eql (R 11) (R 15),ab⟩]
def ajh(sz:Nat)(b:Option Nat):List aP:=[⟨D 11,.a7 (R 1),ab⟩,⟨D 12,.a7 (R 0),ab⟩,⟨D 13,.a7 (R 5),ab⟩,⟨D 14,.bM sz ab (R 12) (R 13),ab⟩,⟨D 15,.load b (R 14),ab⟩,⟨D 16,.cr (R 11) [(R 15)] ae,ab⟩]
theorem aaI{f:Nat}{d:List aP}(U:tab f=aa (alY d)){x y:V}{E:Type}{l:List E}{p:E→Bool}(S:l.length≤9223372036854775807)
  (W:∃ c,x=.c c∧∀ H,bt H c=aa l.length)
  (g:∀(j:Nat) (v:j<l.length) (t:T) (H:aj) (L:St→Prop),t.g 0=x→t.g 1=y→t.g 5=vi j →
   (∀ b J,b.g 0=x→b.g 1=y→b.g 5=vi j→b.g 7=t.g 7→b.g 8=t.g 8→b.g 16=vb (p l[j])→L ⟨b,[],H++J⟩)→wE tab d ⟨t,[],H⟩ L) :
  Kf tab f [x,y] (vi (jU l p)):=by
 obtain⟨c,rfl,N⟩:=W;refine cT U rfl fun H Q A=>?_;apply ak;refine al (.inl rfl) ?_;simp;apply ak;apply ak;refine al (.inl rfl) ?_;simp [N];refine bW l.length (fun j t H'=>t.g 0=.c c∧t.g 1=y∧(∃ J,H'=H++J)∧∀(i:Nat) (hi:i<l.length),i<j→p l[i]=ag) S (by decide) (by decide) (by simp) (by simp) (by simp) ?_ ?_
 ·rintro j t _ v ⟨h0,z,⟨J,rfl⟩,q⟩ u B next
  refine aG ?_;apply ak;refine al (.inl rfl) ?_;simp [u];apply ak;refine al (.inl rfl) ?_;refine g j v _ _ _ (by simp [h0]) (by simp [z]) (by simp) fun b J' g0 F I K M m=>?_;cases s:p l[j]with
  | true=>
   refine aq (by simp [m,s]) ?_;apply ak;refine al (.inl rfl) ?_;simp [I];refine aB (A _ _ ?_);have:=Oy v s (fun i hi=>q i (by omega) hi);simp [this]
  | false=>
   refine aD (by simp [m,s]) ?_;refine aO (aw (next _ _ ?_ (by simp [M,u]) (by simp [K,B])));refine⟨by simp [g0],by simp [F],⟨J++J',by simp⟩,fun i hi O=>?_⟩;by_cases e:i=j
   ·subst e;exact s
   ·exact q i hi (by omega)
 ·rintro t _ ⟨h0,z,⟨J,rfl⟩,q⟩ u B;apply ak;refine al (.inl rfl) ?_;simp;refine aB (A _ _ ?_);have:=OA (l:=l) (p:=p) (fun i hi=>q i hi hi);simp [this]
theorem zo{f:Nat}(x:tab f=aa (alY ajj))(g:Tg)(l:List Int)(v:Int)(u:l.length≤9223372036854775807) :
  Kf tab f [.c (.f (sl g (ints l))),vi v] (vi (jU l (· == v))):=by
 refine aaI x u ⟨_,rfl,fun H=>by simp⟩ ?_;intro j s t H L h0 b d m;simp [ajj,h0,b,d,bC,s,jw];have:=m ((((((t.s 11 (vi v)).s 12 (.c (.f (sl g (ints l))))).s 13 (vi j)).s 14 (.c (.f (.fp (ints l).flatten j)))).s 15 (vi l[j])).s 16 (vb (decide (v=l[j])))) [] (by simp [h0]) (by simp [b]) (by simp [d]) (by simp) (by simp) (by
  have q:decide (v=l[j])=(l[j] == v):=by rw [Bool.eq_iff_iff];simp;exact eq_comm
  simp only [T.g_s,if_true,q])
 simpa using this
theorem kr{f sz:Nat}{v:Option Nat}(E:tab f=aa (alY (ajh sz v))){q:Type}(l:List q)(enc:q→List FC)(val:q→V)(p:q→Bool)(g:Tg)(k:Nat)(b:List FC)
  (A:l.length≤9223372036854775807) (d:∀(j:Nat) (m:j<l.length) (H:aj),aS H v (.c (.f (.fp (l.map enc).flatten (j*sz))))=aa (val l[j]))
  (B:∀ x ∈ l,Kf tab k (val x::b.map fun c=>.c (.f c)) (vb (p x))) :
  Kf tab f [.c (.f (sl g (l.map enc))),.c (.f (.fn k b))] (vi (jU l p)):=by
 refine aaI E A ⟨_,rfl,fun H=>by simp⟩ ?_;intro j m t H L h0 s u y;have z:=(B l[j] (anc m)).ev H;have hi:=bC (H:=H) (g:=g) (rows:=l.map enc) (sz:=sz) (k:=.i64) (i:=(j:Int)) (by omega) (by simpa using m);simp [ajh,h0,s,u,hi,d j m,z];exact y _ _ (by simp [h0]) (by simp [s]) (by simp [u]) (by simp) (by simp) (by simp)
def Om(f:Nat):aK:=⟨[P.nat 0,P.nat 1],[.tmp (P.nat 4)],.seq (.region [⟨D 4,.a7 (.k (.c (.f (.bool ag)))),ab⟩] []) (.seq
 (.region [⟨D 5,.a7 (R 0),ab⟩,⟨D 6,.a7 (R 1),ab⟩,⟨D 7,.call f [(R 5),(R 6)] ag,ab⟩,⟨D 8,.bin .geq (R 7) (.k (.c (.f (.int .i64 0)))),ab⟩,⟨D 4,.a7 (R 8),ab⟩] []) .ret)⟩
theorem gi{f k:Nat}(m:tab f=aa (Om k)){a b:FC}{d:Type}{l:List d}{p:d→Bool}(h:Kf tab k [.c (.f a),.c (.f b)] (vi (jU l p))) :
  Kf tab f [.c (.f a),.c (.f b)] (vb (l.any p)):=by
 refine cT m rfl fun H Q g=>?_;apply ak;refine al (.inl rfl) ?_;simp;apply ak;refine al (.inl rfl) ?_;have j:=h.eq;simp [j];refine aB (g _ _ ?_);simp [Oz]
end
section
open Go
theorem an{H:aj}{b:Nat}{x:bq}(h:H[b]?=aa x):b<H.length:=(BY.1 h).1
variable{z:Bool}{H H':aj}{sz bytes:Nat}{v y:V}{g:Tg}{rows:List (List FC)}{row:List FC}{cs:List C}
theorem qp{b fl c:Nat}(h:H[b]?=aa (.box cs fl))(d:cs.length=sz):cX H sz (.c (.sl b 0 1 c 0 sz))=aa (1,cs):=by
 simp [cX,bt,cS,h,d];rw [←d,List.take_length]
end
section
open Go
def Cq(P:Program):List Field→Nat→Nat→Bool
 | [],o,n=>o == n| f::b,o,n=>f.offset == o&&Cq P b (o+P.cellsOf f.type) n
def fY(P:Program):Nat→TypeId→Bool
 | 0,_=>ag
 | n+1,t=>match P.underlying t with
  | some .bool=>P.cellsOf t == 1| some (.int _)=>P.cellsOf t == 1| some .string=>P.cellsOf t == 1| some (.slice e)=>P.cellsOf t == 1&&P.cellsOf e != 0&&fY P n e| some (.struct b)=>Cq P b.toList 0 (P.cellsOf t)&&b.toList.all fun f=>fY P n f.type
  | some (.array k e)=>P.cellsOf t == k*P.cellsOf e&&fY P n e| _=>ag
def xp(S:TypeId→List FC→Prop):List TypeId→List FC→Prop
 | [],xs=>xs=[]| t::ts,xs=>∃ p q,xs=p++q∧S t p∧xp S ts q
def pZ(P:Program):Nat→TypeId→List FC→Prop
 | 0,_,_=>False
 | n+1,t,xs=>match P.underlying t with
  | some .bool=>∃ b,xs=[.bool b]| some (.int k)=>∃ m,xs=[.int k m]∧(Lit.int k m).wf=ae| some .string=>∃ s,xs=[.str s]∧s.size≤maxLen| some (.slice e)=>∃ g rows,xs=[sl g rows]∧cC (P.cellsOf e) rows∧rows.length≤maxLen∧∀ r ∈ rows,pZ P n e r| some (.struct d)=>xp (pZ P n) (d.toList.map (·.type)) xs| some (.array k e)=>∃ rows,xs=rows.flatten∧rows.length=k∧cC (P.cellsOf e) rows∧∀ r ∈ rows,pZ P n e r| _=>False
theorem uz{m:Type}{sz:Nat}:∀ {rows:List (List m)} {j k:Nat} {row:List m},(∀ r ∈ rows,r.length=sz)→rows[j]?=aa row→k<sz→rows.flatten[j*sz+k]?=row[k]?
 | [],j,k,row,_,b,_=>by simp at b
 | r::rows,0,k,row,d,b,g=>by
  simp at b;subst b;have:=d r asn;rw [asE,AT (by omega)];simp
 | r::rows,j+1,k,row,d,b,g=>by
  have l:=d r asn;rw [asE,IS (by rw [l,asL];omega)];have e:(j+1)*sz+k-r.length=j*sz+k:=by rw [l,asL];omega
  rw [e];exact uz (rows:=rows) (fun x q=>d x (asm _ q)) (by simpa using b) g
theorem uA{d:Type}{sz:Nat}:∀ {rows:List (List d)},(∀ r ∈ rows,r.length=sz)→rows.flatten.length=rows.length*sz
 | [],_=>by simp
 | r::rows,h=>by
  have:=uA (rows:=rows) fun x b=>h x (asm _ b);simp only [asE,api,asX,this,h r asn,asL,aud];omega
def DU(w:World):Nat→Nat→Prop:=fun c _=>c<w.heap.size
theorem ET{w:World}{a:Addr}{v:Value}(h:w.cell? a=aa v):a.block<w.heap.size∧a.spot=ab:=by
 unfold World.cell? at h;split at h
 ·rename_i b;split at h
  ·simp at h
  ·rename_i d;refine⟨?_,by simpa using d⟩;exact(Array.getElem?_eq_some_iff.1 b).1
 ·simp at h
theorem A2.flatten{l m:Type}{R:l→m→Prop}{g:List (List l)}{d:List (List m)}(j:g.length=d.length)
  (h:∀(i:Nat) xs ys,g[i]?=aa xs→d[i]?=aa ys→A2 R xs ys):A2 R g.flatten d.flatten:=by
 induction g generalizing d with
 | nil=>cases d with
  | nil=>exact A2.nil| cons y ys=>simp at j
 | cons x xs u=>cases d with
  | nil=>simp at j
  | cons y ys=>
   rw [asE,asE];exact(h 0 x y rfl rfl).append (u (by simpa using j) fun i a b q s=>h (i+1) a b (by simpa using q) (by simpa using s))
section
variable{H:Type}{enc:TypeId × Value→H}{P:Program}{w:World}{base:Nat}{spare:Nat→Bool}{held:Bool}{σ:Nat→FuncId}
def aon(σ:Nat→FuncId)(P:Program)(w:World)(n:Nat)(t:TypeId)(cs:List Value):Prop:=∃ xs,A2 (cV σ (DU w) w) xs cs∧pZ P n t xs
theorem ru{n:Nat}(v:∀ {t:TypeId} {fuel:Nat} {cs:List Value} {x:DataW H × List MemPlace},fY P n t=ae→DataW.trod enc P w base spare held fuel t cs=aa x→aon σ P w n t cs∧cs.length=P.cellsOf t)
  {fuel:Nat}:∀(b:List Field) (o N:Nat) (cs:List Value),Cq P b o N=ae→(b.all fun f=>fY P n f.type)=ae→cs.length=N →
   (∀ f ∈ b,∃ x,DataW.trod enc P w base spare held fuel f.type ((cs.drop f.offset).take (P.cellsOf f.type))=aa x) →
   ∃ xs,A2 (cV σ (DU w) w) xs (cs.drop o)∧xp (pZ P n) (b.map (·.type)) xs
 | [],o,N,cs,d,_,m,_=>by
  simp [Cq]at d;exact⟨[],by rw [ato (by omega)];exact A2.nil,rfl⟩
 | f::b,o,N,cs,d,l,m,u=>by
  simp only [Cq,If,beq_iff_eq]at d;simp only [List.all_cons,If]at l;obtain⟨x,j⟩:=u f asn;rw [d.1]at j;obtain⟨⟨p,z,B⟩,s⟩:=v l.1 j;obtain⟨q,A,E⟩:=ru v b (o+P.cellsOf f.type) N cs d.2 l.2 m fun g y=>u g (asm _ y);refine⟨p++q,?_,p,q,rfl,B,E⟩;have:cs.drop o=(cs.drop o).take (P.cellsOf f.type)++cs.drop (o+P.cellsOf f.type):=by
   rw [←ate,asP]
  rw [this];exact z.append A
theorem ZP(c o n k:Nat):((⟨c,o,ab⟩:Addr).add n).add k=⟨c,o+(n+k),ab⟩:=by
 unfold Addr.add;by_cases b:n=0<;>by_cases d:k=0<;>simp [b,d];omega
theorem aco{t e:TypeId}{k n:Nat}{cs:List Value}{x:DataW H × List MemPlace}(j:P.underlying t=aa (.array k e))(h:DataW.trod enc P w base spare held (n+1) t cs=aa x) :
  cs.length=P.cellsOf t∧∀ i,i<k→∃ y,DataW.trod enc P w base spare held n e ((cs.drop (i*P.cellsOf e)).take (P.cellsOf e))=aa y:=by
 unfold DataW.trod at h;rw [j]at h;simp only [Option.ite_none_right_eq_some,IT]at h;obtain⟨g,xs,d,l⟩:=h;refine⟨g,fun i hi=>?_⟩;have:=mapM_some_get d i i (by simp [hi]);have b:xs.length=k:=by simpa using mapM_some_length d
 rw [By (by omega)]at this;exact⟨_,this⟩
theorem xz{j:Type}{sz:Nat}:∀ {k:Nat} {cs:List j},cs.length=k*sz→cs=((List.range k).map fun i=>(cs.drop (i*sz)).take sz).flatten
 | 0,cs,h=>by simp at h;simp [h]
 | k+1,cs,h=>by
  have d:(cs.take (k*sz)).length=k*sz:=by rw [ast,h,asL];omega
  have g:=xz d;rw [List.range_succ,as5,atP];have e:((List.range k).map fun i=>(cs.drop (i*sz)).take sz)=(List.range k).map fun i=>((cs.take (k*sz)).drop (i*sz)).take sz:=by
   refine List.map_congr_left fun i hi=>?_;have b:i<k:=by simpa using hi
   have:(i+1)*sz≤k*sz:=asW _ b;rw [asL]at this;rw [List.drop_take,atF,as8 (by omega)]
  rw [e,←g];simp only [asq,List.map_nil,asE,List.flatten_nil,as1];have:(cs.drop (k*sz)).take sz=cs.drop (k*sz):=arf (by rw [asr,h,asL];omega);rw [this,asP]
theorem aqT{n:Nat}:∀ {t:TypeId} {fuel:Nat} {cs:List Value} {x:DataW H × List MemPlace},fY P n t=ae→DataW.trod enc P w base spare held fuel t cs=aa x →
  aon σ P w n t cs∧cs.length=P.cellsOf t:=by
 induction n with
 | zero=>intro t fuel cs x g;simp [fY]at g
 | succ n ih=>
  intro t fuel cs x g h;simp only [fY]at g;split at g
  ·rename_i j;obtain⟨b,rfl,_⟩:=DataW.trod_bool j h;exact⟨⟨[.bool b],.cons (.bool b) .nil,by simp only [pZ,j];exact⟨b,rfl⟩⟩,by simp at g;simp [g]⟩
  ·rename_i k j;obtain⟨m,rfl,_,hw⟩:=DataW.trod_int j h;exact⟨⟨[.int k m],.cons (.int k m) .nil,by simp only [pZ,j];exact⟨m,rfl,hw⟩⟩,by simp at g;simp [g]⟩
  ·rename_i j;obtain⟨s,rfl,_,hw⟩:=DataW.trod_string j h;exact⟨⟨[.str s],.cons (.str s) .nil,by simp only [pZ,j];exact⟨s,rfl,hw⟩⟩,by simp at g;simp [g]⟩
  ·rename_i e j;simp only [If,beq_iff_eq,bne_iff_ne]at g;obtain⟨⟨I,f7⟩,he⟩:=g;rcases DataW.trod_slice j h with⟨rfl,_⟩ | ⟨a,len,cap,Z,rest,m,_,rfl,_,hb,J,hm,d9,b9,_,_⟩
   ·exact⟨⟨[sl .nil []],.cons .au .nil,by simp only [pZ,j];exact⟨.nil,[],rfl,fun r l=>by simp at l,by simp,fun r l=>by simp at l⟩⟩,by simpa using I.symm⟩
   ·refine⟨?_,by simpa using I.symm⟩;have A:∀ i,i<len→∃ p:List Value × List FC,w.cells? base (a.add (i*P.cellsOf e)) (P.cellsOf e)=aa p.1∧A2 (cV σ (DU w) w) p.2 p.1∧pZ P n e p.2:=by
     intro i hi;have:=b9 i hi;rw [By (by omega)]at this;obtain⟨cs',I,Q⟩:=asB.1 this;obtain⟨⟨xs,ha,g⟩,_⟩:=ih he Q;exact⟨(cs',xs),I,ha,g⟩
    obtain⟨p,L⟩:=Go.Deep.choose_lt A;by_cases h0:len=0
    ·subst h0;refine⟨[sl .fs []],.cons (.fs0 a cap) .nil,?_⟩;simp only [pZ,j];exact⟨.fs,[],rfl,fun r l=>by simp at l,by simp,fun r l=>by simp at l⟩
    have E:a.spot=ab:=by
     have:=L 0 (by omega);obtain⟨_,d_,a8⟩:=World.cells?_some this.1;have:=a8 0 (by omega);rw [By (by omega)]at this;have:=(ET this).2;simpa [Addr.add]using this
    obtain⟨c,o,sp⟩:=a;simp only at E;subst E
    let d:=(List.range len).map fun i=>(p i).1
    let rows:=(List.range len).map fun i=>(p i).2
    have Y:∀ v ∈ d,v.length=P.cellsOf e:=by
     intro v Y;obtain⟨i,hi,rfl⟩:=asH.1 Y;exact(World.cells?_some (L i (by simpa using hi)).1).2.1
    have hg:cC (P.cellsOf e) rows:=by
     intro r l;obtain⟨i,hi,rfl⟩:=asH.1 l;obtain⟨I,Q,_⟩:=L i (by simpa using hi);rw [Q.len,(World.cells?_some I).2.1]
    have hA:A2 (cV σ (DU w) w) rows.flatten d.flatten:=by
     refine A2.flatten (by simp [rows,d]) fun i xs ys F K=>?_;simp only [rows,d,asU,IT]at F K;obtain⟨i1,N,rfl⟩:=F;obtain⟨i2,O,rfl⟩:=K;rw [N]at O;cases O;have:=asp N;exact(L i1 (by simpa using this)).2.1
    have B:∀ i u,d.flatten[i]?=aa u→w.cell? ⟨c,o+i,ab⟩=aa u:=by
     intro i u X;have hi:i<d.flatten.length:=(BY.1 X).1;rw [uA Y]at hi;have c_:d.length=len:=by simp [d]
     rw [c_]at hi;have M:i / P.cellsOf e<len:=Nat.div_lt_of_lt_mul (by rw [Nat.mul_comm];exact hi);have hk:i % P.cellsOf e<P.cellsOf e:=Nat.mod_lt _ (by omega);have z:i=i / P.cellsOf e*P.cellsOf e+i % P.cellsOf e:=by rw [Nat.mul_comm];exact(Nat.div_add_mod _ _).symm
     have W:d[i / P.cellsOf e]?=aa (p (i / P.cellsOf e)).1:=by simp [d,M]
     rw [z,uz Y W hk]at X;obtain⟨_,_,hc⟩:=World.cells?_some (L _ M).1;have:=hc _ hk;rw [X]at this;rw [←this,ZP,←z]
    refine⟨[sl .fs rows],.cons ?_ .nil,?_⟩
    ·have b_:rows≠[]:=by simp [rows];omega
     have U:rows.length=len:=by simp [rows]
     have:sl Tg.fs rows=.fs rows.flatten len:=by
      cases l:rows with
      | nil=>exact absurd l b_| cons r rs=>simp only [sl,aub,aso,if_false];rw [←l,U]
     rw [this];refine .fs rows.flatten len c o cap d.flatten J hA.len.symm (fun i hi=>?_) B fun i x u F X=>hA.2 i x u F X;have z:i<d.flatten.length:=by rw [←hA.len];exact hi
     exact(ET (B i _ (By z))).1
    ·simp only [pZ,j];have U:rows.length=len:=by simp [rows]
     refine⟨.fs,rows,rfl,hg,by omega,fun r l=>?_⟩;obtain⟨i,hi,rfl⟩:=asH.1 l;exact(L i (by simpa using hi)).2.2
  ·rename_i fs j;simp only [If]at g;obtain⟨xs,m,_,_,J,_,F⟩:=DataW.trod_struct j h;refine⟨?_,J⟩;obtain⟨ys,I,Q⟩:=ru (n:=n) (fuel:=m) ih fs.toList 0 _ cs g.1 g.2 J fun f hf=>by
    obtain⟨i,hi⟩:=as2 hf;rw [Array.getElem?_toList]at hi;have:=F i f hi;rw [this];have e_:i<fs.size:=(Array.getElem?_eq_some_iff.1 hi).1;exact⟨_,By (by omega)⟩
   exact⟨ys,by simpa using I,by simp only [pZ,j];exact Q⟩
  ·rename_i k e j;simp only [If,beq_iff_eq]at g;obtain⟨S,he⟩:=g;cases fuel with
   | zero=>simp [DataW.trod]at h
   | succ m=>
   obtain⟨J,F⟩:=aco j h;refine⟨?_,J⟩;have A:∀ i,i<k→∃ q:List FC,A2 (cV σ (DU w) w) q ((cs.drop (i*P.cellsOf e)).take (P.cellsOf e))∧pZ P n e q:=by
    intro i hi;obtain⟨y,K⟩:=F i hi;obtain⟨⟨q,a,b⟩,_⟩:=ih he K;exact⟨q,a,b⟩
   obtain⟨q,M⟩:=Go.Deep.choose_lt A
   let rows:=(List.range k).map q
   have a_:cs=((List.range k).map fun i=>(cs.drop (i*P.cellsOf e)).take (P.cellsOf e)).flatten:=xz (by rw [J,S]);refine⟨rows.flatten,?_,?_⟩
   ·rw [a_];refine A2.flatten (by simp [rows]) fun i xs ys F K=>?_;simp only [rows,asU,IT]at F K;obtain⟨i1,N,rfl⟩:=F;obtain⟨i2,O,rfl⟩:=K;rw [N]at O;cases O;have:=asp N;exact(M i1 (by simpa using this)).1
   ·simp only [pZ,j];refine⟨rows,rfl,by simp [rows],fun r l=>?_,fun r l=>?_⟩
    ·obtain⟨i,hi,rfl⟩:=asH.1 l;have z:i<k:=by simpa using hi
     rw [(M i z).1.len,ast,asr,J,S];have:(i+1)*P.cellsOf e≤k*P.cellsOf e:=asW _ z;rw [asL]at this;omega
    ·obtain⟨i,hi,rfl⟩:=asH.1 l;exact(M i (by simpa using hi)).2
  ·simp at g
end
section
variable{P:Program}{n:Nat}{t e:TypeId}{xs:List FC}
theorem fE{k:IntKind}(b:P.underlying t=aa (.int k))(h:pZ P (n+1) t xs):∃ m,xs=[.int k m]∧(Lit.int k m).wf=ae:=by simpa only [pZ,b]using h
theorem yw(b:P.underlying t=aa (.slice e))(h:pZ P (n+1) t xs):∃ g rows,xs=[sl g rows]∧cC (P.cellsOf e) rows∧rows.length≤maxLen∧∀ r ∈ rows,pZ P n e r:=by simpa only [pZ,b]using h
theorem oA{d:Array Field}{ts:List TypeId}(g:P.underlying t=aa (.struct d))(b:d.toList.map (·.type)=ts)(h:pZ P (n+1) t xs):xp (pZ P n) ts xs:=by
 subst b;simpa only [pZ,g]using h
theorem dD{S:TypeId→List FC→Prop}{ts:List TypeId}(h:xp S (t::ts) xs):∃ p q,xs=p++q∧S t p∧xp S ts q:=h
theorem zH{d:Type}{enc:d→List FC}{p:d→Prop}:∀ {rows:List (List FC)},(∀ r ∈ rows,∃ x,r=enc x∧p x)→∃ l:List d,rows=l.map enc∧∀ x ∈ l,p x
 | [],_=>⟨[],rfl,by simp⟩
 | r::rows,h=>by
  obtain⟨x,rfl,m⟩:=h r asn;obtain⟨l,rfl,g⟩:=zH fun r j=>h r (asm _ j);exact⟨x::l,rfl,fun y b=>by
   rcases asv.1 b with rfl | b
   ·exact m
   ·exact g y b⟩
end
end
section
open Go Go.ChangeShapes Go.WideShapes Go.ChangeAt Go.RowKit
def tG(P:Program)(t:TypeId)(a:V):Prop:=(∃ xs,a=.a (xs.map .f)∧pZ P 40 t xs∧(∃ d,P.underlying t=aa d∧((∃ b,d=.struct b)∨∃ n e,d=.array n e))) ∨
 (∃ x,a=.c (.f x)∧pZ P 40 t [x])
def oG(P:Program):List TypeId→List V→Prop
 | [],as=>as=[]| t::ts,as=>∃ a b,as=a::b∧tG P t a∧oG P ts b
section
variable{H:Type}{enc:TypeId × Value→H}{P:Program}{W W':World}
theorem wS{f:Func}{s:ChangeSpec}{g B l A:Bool}{args:Array Value}{v:Value}{ds F:List (DataW H)}{d pa pv:List MemPlace}
  (K:DataW.Whole enc P f.params.toList s.vars g W args.toList ds F d)
  (z:∀(b:Nat) (E:Nat→Bool) (O:Bool),DataW.TrodAll enc P W' b E O f.resultTypes.toList (v.resultList f.resultTypes.size) (s.fn H (ds++F)).results [])
  (m:∀ E:Nat→Bool,(∀ p ∈ d,E p.block=ae)→DataW.TrodAll enc P W' 0 E ae f.params.toList args.toList (s.fn H (ds++F)).args pa)
  (u:∀ E:Nat→Bool,(∀ p ∈ d,E p.block=ae)→DataW.TrodVars enc P W' E s.vars (s.fn H (ds++F)).vars pv)
  (x:d=pa++pv) (M:Below W.heap.size W W')
  (L:∀(j:Nat) (t:TypeId) (r:Value),f.resultTypes[j]?=aa t→(v.resultList f.resultTypes.size)[j]?=aa r→Value.okWide P W' .any 0 t r) :
  s.post enc P f g B l A W args v W':=by
 have I:∀ p ∈ d,p.block<W.heap.size:=fun p q=>K.lt p q;have y:∀ p ∈ d,(fun b=>decide (b<W.heap.size)) p.block=ae:=fun p q=>by simpa using I p q
 refine⟨ds,F,d,[],pa,pv,K,z _ _ _,m _ y,u _ y,World.keptBut_mono (fun p q=>⟨q,?_⟩) (M.frame (· ∈ d)),fun _=>?_⟩
 ·rw [x,List.mem_append]at q;exact Or.inr q
 ·obtain⟨_,_,_,_,_,S,Q⟩:=K;refine⟨L,_,_,([]++pa)++pv,⟨[]++pa,pv,trodAll_append (m _ (fun _ _=>rfl)) (z _ _ _),u _ (fun _ _=>rfl),rfl,?_,?_⟩,?_⟩
  ·intro b off q;have J:MemPlace.cell b off ∈ d:=by rw [x];simpa using q
   rw [M.frozen (p:=⟨b,off,ab⟩) (I _ J)];exact S b off J
  ·intro N;have:=Q N;rw [x]at this;simpa using this
  ·intro p q _;rw [x];simpa using q
theorem nU(s:laidOutB P=ae){y:Nat→Bool}(m:Below W.heap.size W W'):∀ {ts:List TypeId} {l:List Value} {ds:List (DataW H)} {ps:List MemPlace},
  (ts.all fun t=>P.readableRec t&&decide (t<P.types.size))=ae→DataW.TrodAll enc P W 0 (fun _=>ae) ae ts l ds ps→(∀ p ∈ ps,p.block<W.heap.size)→(∀ p ∈ ps,y p.block=ae) →
  DataW.TrodAll enc P W' 0 y ae ts l ds ps
 | [],[],[],ps,_,h,_,_=>h
 | t::ts,v::l,d::ds,ps,j,⟨p,q,z,A,e⟩,g,u=>by
  subst e;simp only [List.all_cons,If,decide_eq_true_eq]at j;exact⟨p,q,WideElems.Trod_stays s j.1.1 j.1.2 z (fun x b=>m.same (g x (atj _ b))) (fun x b=>u x (atj _ b)),
   nU s m j.2 A (fun x b=>g x (atY _ b)) (fun x b=>u x (atY _ b)),rfl⟩
 | [],_::_,_,_,_,h,_,_=>by cases h
 | [],[],_::_,_,_,h,_,_=>by cases h
 | _::_,[],_,_,_,h,_,_=>by cases h
 | _::_,_::_,[],_,_,h,_,_=>by cases h
variable{σ:Nat→FuncId}
def X0(W:World):Wd:=⟨fun _=>ab,DU W,[],W,W.heap.size⟩
theorem acx{xs:List FC}{cs:Array Value}(h:A2 (cV σ (DU W) W) xs cs.toList):VR σ (X0 W) (.a (xs.map .f)) (.agg cs):=
 ⟨cs.toList,by simp,A2.map (g:=C.f) (h.kI fun _ _ h=>h)⟩
theorem ZZ{t:TypeId}{v:Value}{d:DataW H}{ps:List MemPlace}{base:Nat}{spare:Nat→Bool}{held:Bool}{b0:Nat}(s:fY P 40 t=ae)(g:Value.okWide P W .any b0 t v)
  (E:DataW.Trod enc P W base spare held t v d ps):∃ a,VR σ (X0 W) a v∧tG P t a:=by
 obtain⟨fuel,q⟩:=E;obtain⟨⟨xs,m,u⟩,I⟩:=aqT (σ:=σ) s q;have l:v.cells.toList=[v]→∃ a,VR σ (X0 W) a v∧tG P t a:=by
  intro F;rw [F]at m
  match xs,m.len with
  | [x],_=>exact⟨.c (.f x),m.of_cons.1,.inr ⟨x,rfl,u⟩⟩
 unfold fY at s;unfold Value.okWide at g;split at g
 ·rename_i y j;obtain⟨cs,rfl,_,_⟩:=g;exact⟨_,acx m,.inl ⟨xs,rfl,u,_,j,.inl ⟨_,rfl⟩⟩⟩
 ·rename_i n e j;obtain⟨cs,rfl,_,_⟩:=g;exact⟨_,acx m,.inl ⟨xs,rfl,u,_,j,.inr ⟨_,_,rfl⟩⟩⟩
 ·rename_i A B;refine l ?_;split at s
  ·rename_i j;obtain⟨b,z,_⟩:=DataW.trod_bool j q;simp only [Cell.okWide,j,Cell.ok]at g;cases v<;>simp_all [Value.cells]
  ·rename_i j;obtain⟨b,z,_⟩:=DataW.trod_int j q;simp only [Cell.okWide,j,Cell.ok]at g;cases v<;>simp_all [Value.cells]
  ·rename_i j;obtain⟨b,z,_⟩:=DataW.trod_string j q;simp only [Cell.okWide,j,Cell.ok]at g;cases v<;>simp_all [Value.cells]
  ·rename_i j;simp only [Cell.okWide,j,Cell.ok]at g;cases v<;>simp_all [Value.cells]
  ·rename_i y j;exact absurd j (A y)
  ·rename_i n e j;exact absurd j (B n e)
  ·simp at s
theorem xv{base:Nat}{spare:Nat→Bool}{held:Bool}{b0:Nat}:∀ {ts:List TypeId} {g:List Value} {ds:List (DataW H)} {ps:List MemPlace},(ts.all fun t=>fY P 40 t)=ae →
  (∀(j:Nat) t v,ts[j]?=aa t→g[j]?=aa v→Value.okWide P W .any b0 t v)→DataW.TrodAll enc P W base spare held ts g ds ps →
  ∃ as,A2 (VR σ (X0 W)) as g∧oG P ts as
 | [],[],[],_,_,_,_=>⟨[],A2.nil,rfl⟩
 | t::ts,v::g,d::ds,ps,l,b,⟨p,q,u,x,_⟩=>by
  simp only [List.all_cons,If]at l;obtain⟨a,y,A⟩:=ZZ (σ:=σ) l.1 (b 0 t v rfl rfl) u;obtain⟨m,z,B⟩:=xv l.2 (fun j t v h s=>b (j+1) t v (by simpa using h) (by simpa using s)) x;exact⟨a::m,.cons y z,a,m,rfl,A,B⟩
 | [],_::_,_,_,_,_,h=>by cases h
 | [],[],_::_,_,_,_,h=>by cases h
 | _::_,[],_,_,_,_,h=>by cases h
 | _::_,_::_,[],_,_,_,h=>by cases h
theorem aho{n:Nat}{H:aj}{v:V}{b:Bool}(h:iV (n+1) H v=aa (.c (.f (.bool b)))):v=.c (.f (.bool b)):=by
 cases v with
 | top=>simp [iV,cK]at h| a xs=>simp [iV,cK]at h| t xs=>simp [iV]at h
 | c x=>
  simp only [iV,cK,IT]at h;obtain⟨y,d,h⟩:=h;cases h;cases x with
  | f x=>simpa [eG]using d| ptr b o e=>simp only [eG]at d;split at d<;>simp at d
  | sl b o l c e s=>
   simp only [eG]at d;split at d
   ·split at d<;>simp at d
   ·split at d<;>simp at d
   ·split at d<;>simp at d
   ·split at d<;>simp at d
   ·simp at d
  | cl f g=>simp [eG]at d| _=>simp [eG]at d
variable{tab:TB}
theorem D5(x:Env P σ tab.get tab.rD){f:Nat}{args:List V}{us:List Value}(h:bh tab f args (vb ae))(W:World)(z:A2 (VR σ (X0 W)) args us) :
  Calls P (σ f) us.toArray W fun e w'=>e=.returned (.bool ae)∧Below W.heap.size W w':=by
 obtain⟨r,H',⟨m,d,h⟩,j⟩:=h;have j:=aho (n:=63) j;subst j;intro cs
 let X:=X0 W
 have y:SR P σ X:=⟨fun b L h=>by simp [X,X0]at h,fun b M L K h=>by simp [X,X0]at h,fun c i h=>h⟩
 obtain⟨q,X',u,s,⟨E,F,H,l,fn,I,J⟩,N,O,v,g,Q⟩:=(Z4 x m d).fn f args [] _ H' h X us .normal cs rfl y (aft _) z (.inl rfl) (.inl rfl);have B:=VR.bool v;subst B;exact⟨.returned (.bool ae),X'.w,q,⟨rfl,⟨g.os,g.tape,g.output,g.size,fun k A=>g.frame k A (fun b L h=>by simp [X,X0]at h)⟩⟩,s,l,E,F,H,fn,by rw [l];exact I,J⟩
theorem Bt(hE:Env P σ tab.get tab.rD){s:ChangeSpec}{f:Func}{fi:Nat}{tb:TypeId}(x:s.vars=[])(B:laidOutB P=ae){ts:List TypeId}(F:f.params.toList=ts)
  (O:∀ ds:List (DataW H),ds.length=ts.length→s.fn H ds=⟨[.lit (.bool ae)],ds,[]⟩)
  (y:f.resultTypes=#[tb]) (K:P.underlying tb=aa .bool) (E:(ts.all fun t=>P.readableRec t&&decide (t<P.types.size))=ae) (u:(ts.all fun t=>fY P 40 t)=ae)
  (Q:∀ as,oG P ts as→bh tab fi as (vb ae)) {g A l z:Bool} {base:Nat} {args:Array Value} {ds gs:List (DataW H)} {d:List MemPlace}
  (L:∀(j:Nat) t v,f.params[j]?=aa t→args[j]?=aa v→Value.okWide P W .any base t v) (X:DataW.Whole enc P f.params.toList s.vars g W args.toList ds gs d) :
  Calls P (σ fi) args W fun e W'=>∃ v,e=.returned v∧s.post enc P f g A l z W args v W':=by
 have I:=X;obtain⟨p,q,N,U,Y,a8,a_⟩:=X;rw [F]at N;rw [x]at U;obtain⟨rfl,rfl⟩:=trodVars_none U;simp only [as1]at Y;subst Y;obtain⟨as,h1,h2⟩:=xv (σ:=σ) (b0:=base) u (fun j t v h h'=>L j t v (by rw [←Array.getElem?_toList,F];exact h) (by rw [←Array.getElem?_toList];exact h')) N;have J:ds.length=ts.length:=by
  have:∀ {ts:List TypeId} {M:List Value} {ds:List (DataW H)} {ps:List MemPlace},DataW.TrodAll enc P W 0 (fun _=>ae) ae ts M ds ps→ds.length=ts.length:=by
   intro ts;induction ts with
   | nil=>intro M ds ps h;cases M<;>cases ds<;>first | rfl | cases h
   | cons t ts ih=>intro M ds ps h;cases M<;>cases ds<;>first | (obtain⟨_,_,_,h,_⟩:=h;simp [ih h]) | cases h
  exact this N
 have m:=O ds J;have Z:=D5 hE (Q as h2) W h1;rw [Array.toArray_toList]at Z;refine Z.mono fun e W' h=>?_;obtain⟨he,hg⟩:=h;subst he;refine⟨_,rfl,wS (pa:=d) (pv:=[]) I (fun b sp hd=>?_) (fun sp S=>?_) (fun sp _=>?_) (by simp) hg ?_⟩
 ·rw [as1,m,y];exact trodAll_mk1 (shut_bool K _)
 ·rw [as1,m,F];exact nU B hg E N (fun p hp=>I.lt p hp) S
 ·rw [as1,m,x];exact rfl
 ·exact ok_one y rfl (okWide_bool_mk K _)
end
end
section
open Go
section
variable{tab:TB}{f:Nat}{args:List V}{r:V}{fn:Nat}{k:List dg}{t:T}{ds:List dU}{H H':aj}{Q:Option aF→St→Prop}
theorem ji{x:Arg}{ps:List P}{as bd:aF}{g:Nat}{s:List V}(A:b5 (x.ev t) [.c (.yl (H.length+1))]=aa (.fn g,s))
  (l:Ev tab (.fn g) s (H++[.fj ae,.lp fn t ps as bd .ready ab H.length]) r H')
  (h:WP tab fn ab (.iP (H.length+1)::k) ⟨t,.gM H.length::ds,H'⟩ Q):WP tab fn ab (.code (.fN x ps as bd)::k) ⟨t,ds,H⟩ Q:=by
 obtain⟨m,d,l⟩:=l;obtain⟨n,q,b,j,s',y,z⟩:=h;refine⟨n+1,max m q,max d b,j,s',?_,z⟩;have u:=jI (tab:=tab) (asM m q) (asM d b) _ _ _ _ l;have v:=vS (asD m q) (asD d b) (aft n) y;simp only [run,A,u,v];simp
theorem kv{ro:Option Nat}{b j d:Nat}{q:T}{ps:List P}{as bd:aF}{l:eL}(s:H[b]?=aa (.lp j q ps as bd l ab d))(g:l≠.busy)
  (h:WP tab fn ro k ⟨t,ds,H.set b (.lp j q ps as bd .exhausted ab d)⟩ Q):WP tab fn ro (.iP b::k) ⟨t,ds,H⟩ Q:=by
 refine jK h fun m d n=>?_;simp only [run,s,aX g]
theorem pz{ro:Option Nat}{b j d:Nat}{q:T}{ps:List P}{as bd:aF}{l:eL}(s:H[b]?=aa (.lp j q ps as bd l (aa .ret) d))(g:l≠.busy)
  (h:WP tab fn ro (.code .ret::k) ⟨t,ds,H.set b (.lp j q ps as bd .exhausted (aa .ret) d)⟩ Q):WP tab fn ro (.iP b::k) ⟨t,ds,H⟩ Q:=by
 refine jK h fun m d n=>?_;simp only [run,s,aX g]
theorem mZ{b g d:Nat}{j:T}{ps:List P}{as bd:aF}{pd:Option aF}(l:H[b]?=aa (.lp g j ps as bd .ready pd d))
  (h:WP tab fn (aa b) k ⟨t,ds,H.set b (.lp g j ps as bd .busy pd d)⟩ Q):WP tab fn (aa b) (.lW::k) ⟨t,ds,H⟩ Q:=by
 refine jK h fun m d n=>?_;simp only [run,l]
@[simp] theorem am5 {b:Nat} {as:List V}:b5 (.c (.yl b)) as=aa (.yield b,as):=rfl
def aom(b:Nat)(r:V)(H':aj)(j:Option aF)(s:St):Prop:=s.defs=[]∧∃ g l ps as bd m pd d,s.heap[b]?=aa (.lp g l ps as bd m pd d)∧r=.c (.f (.bool j.isNone)) ∧
 H'=s.heap.set b (.lp g l ps as bd (if j.isNone then .ready else .done) j d)
theorem aat{b l d:Nat}{q:T}{ps:List P}{as bd:aF}{J:eL}{pd:Option aF}(A:H[b]?=aa (.lp l q ps as bd J pd d))(E:args.length=ps.length)
  (h:WP tab l (aa b) [.code as,.lW,.code bd] ⟨cM ps args q,[],H⟩ (aom b r H')):Ev tab (.yield b) args H r H':=by
 obtain⟨n,m,g,j,s,y,B,N,L,I,v,x,K,F,M,z,rfl,rfl⟩:=h;refine⟨max m n,g+1,?_⟩;have u:run (CF tab (max m n) g) l (max m n) (aa b) [.code as,.lW,.code bd] ⟨cM ps args q,[],H⟩=aa (j,s):=vS (asM m n) (aft g) (asD m n) y;simp only [CF]at u ⊢;simp only [eI,A,E,if_true,u,B,List.isEmpty_nil,z];rfl
theorem gj{C:V→aj→Prop}{b F d:Nat}{I:T}{ps:List P}{as bd:aF}{N:eL}{pd:Option aF}(L:H[b]?=aa (.lp F I ps as bd N pd d))(M:args.length=ps.length)
  (h:∀ Q:Option aF→St→Prop,(∀ j s z u q g l x v y,s.defs=[]→s.heap[b]?=aa (.lp z u q g l x v y) →
   C (.c (.f (.bool j.isNone))) (s.heap.set b (.lp z u q g l (if j.isNone then .ready else .done) j y))→Q j s)→WP tab F (aa b) [.code as,.lW,.code bd] ⟨cM ps args I,[],H⟩ Q):∃ r H',Ev tab (.yield b) args H r H'∧C r H':=by
 have K:=h (fun j s=>∃ r H',C r H'∧aom b r H' j s) fun j s z u q g l x v y A B E=>⟨_,_,E,A,z,u,q,g,l,x,v,y,B,rfl,rfl⟩
 obtain⟨n,m,J,j,s,A,r,H',B,E⟩:=K;exact⟨r,H',aat L M ⟨n,m,J,j,s,A,E⟩,B⟩
def aol(res:List gw)(r:V)(s:St):Prop:=∃ b,s.defs=[.gM b]∧s.heap[b]?=aa (.fj ae)∧∃ d,results s.az (s.heap.set b (.fj ag)) res=aa d∧iV deep (s.heap.set b (.fj ag)) d=aa r
theorem BX{S:V→Prop}{ps:List P}{res:List gw}{body:aF}(z:tab f=aa ⟨ps,res,body⟩)(x:args.length=ps.length)
  (h:∀ Q:Option aF→St→Prop,(∀ j s r,S r→rJ res r s∨aol res r s→Q j s)→WP tab f ab [.code body] ⟨cM ps args .e,[],[]⟩ Q):∃ r,S r∧bh tab f args r:=by
 have A:=h (fun _ s=>∃ r,S r∧(rJ res r s∨aol res r s)) fun _ _ r l g=>⟨r,l,g⟩
 obtain⟨n,m,d,j,s,l,r,y,⟨u,v,g,q⟩ | ⟨b,u,B,v,g,q⟩⟩:=A
 ·exact⟨r,y,v,s.heap,rq z x ⟨n,m,d,j,s,l,0,0,s.heap,by rw [u];rfl,g,rfl⟩,q⟩
 ·exact⟨r,y,v,s.heap.set b (.fj ag),rq z x ⟨n,m,d,j,s,l,0,0,_,by rw [u];simp only [dO,B],g,rfl⟩,q⟩
theorem cJ{C:V→aj→Prop}{ps:List P}{res:List gw}{body:aF}(x:tab f=aa ⟨ps,res,body⟩)(v:args.length=ps.length)
  (h:∀ Q:Option aF→St→Prop,(∀ j s r,s.defs=[]→results s.az s.heap res=aa r→C r s.heap→Q j s)→WP tab f ab [.code body] ⟨cM ps args .e,[],H⟩ Q):∃ r H',Ev tab (.fn f) args H r H'∧C r H':=by
 have q:=h (fun _ s=>s.defs=[]∧∃ r,results s.az s.heap res=aa r∧C r s.heap) fun _ _ r b g l=>⟨b,r,g,l⟩
 obtain⟨n,m,d,j,s,b,u,r,g,l⟩:=q;exact⟨r,s.heap,rq x v ⟨n,m,d,j,s,b,0,0,s.heap,by rw [u];rfl,g,rfl⟩,l⟩
end
end
section
open Go
theorem rI{c:cU}:∀(a b:List aP) (s:St),fF c (a++b) s=(fF c a s).bind (fF c b)
 | [],b,s=>rfl
 | o::a,b,s=>by
  simp only [List.cons_append,fF];cases fJ c s o with
  | none=>rfl| some s'=>exact rI a b s'
theorem wv{c:cU}:∀(os:List aP) (s:St) {s':St},fF c os s=aa s'→∃ ss,eb c os s=aa ss∧ss.getLast?=aa s'∧∀ i,i≤os.length→fF c (os.take i) s=ss[i]?
 | [],s,s',h=>by
  simp only [fF,At]at h;subst h;refine⟨[s],rfl,rfl,fun i hi=>?_⟩;have:i=0:=by simpa using hi
  subst this;rfl
 | o::os,s,s',h=>by
  simp only [fF]at h;cases b:fJ c s o with
  | none=>simp [b]at h
  | some l=>
   simp only [b]at h;obtain⟨ss,d,g,j⟩:=wv os l h;refine⟨s::ss,by simp only [eb,b,d],by rw [List.getLast?_cons,g];rfl,fun i hi=>?_⟩;cases i with
   | zero=>rfl
   | succ i=>
    simp only [at5,fF,b,List.getElem?_cons_succ];exact j i (by simpa using hi)
def gQ(o:aP)(b l:St):Prop:=wanted b.az o.g=aa ag∨∃ v g d j,bo b.az b.heap o.op=aa (v,g)∧bo b.az l.heap o.op=aa (d,j)∧v.beq d=ae
section
variable{tab:TB}{fn:Nat}{ro:Option Nat}{k:List dg}{s:St}{Q:Option aF→St→Prop}
def aje(tab:TB)(ops:List aP)(s:St)(c:Nat × Nat):Prop:=c.2≤ops.length∧∃ o,ops[c.1]?=aa o ∧
 ((c.1≤c.2∧wE tab (ops.take c.1) s fun b=>wE tab ((ops.drop c.1).take (c.2-c.1)) b fun d=>gQ o b d) ∨
 (c.2≤c.1∧wE tab (ops.take c.2) s fun d=>wE tab ((ops.drop c.2).take (c.1-c.2)) d fun b=>gQ o b d))
theorem abM{ops:List aP}{c:Nat × Nat}(h:aje tab ops s c):∃ m d o g j,c.2≤ops.length∧ops[c.1]?=aa o∧fF (CF tab m d) (ops.take c.1) s=aa g∧fF (CF tab m d) (ops.take c.2) s=aa j∧gQ o g j:=by
 have y:∀(a b:Nat) (K:St→St→Prop),a≤b→wE tab (ops.take a) s (fun l=>wE tab ((ops.drop a).take (b-a)) l fun q=>K l q) →
   ∃ m d l q,fF (CF tab m d) (ops.take a) s=aa l∧fF (CF tab m d) (ops.take b) s=aa q∧K l q:=by
  intro a b K M h;obtain⟨m,d,l,u,v⟩:=jf _ _ h;obtain⟨E,z,q,x,L⟩:=jf _ _ v;have F:=dS (jI (tab:=tab) (asM m E) (asM d z)) _ _ u;have J:=dS (jI (tab:=tab) (asD m E) (asD d z)) _ _ x;refine⟨max m E,max d z,l,q,F,?_,L⟩;have:ops.take b=ops.take a++(ops.drop a).take (b-a):=by
   have N:b=a+(b-a):=by omega
   conv=>lhs;rw [N,List.take_add]
  rw [this,rI,F];exact J
 obtain⟨H,o,I,⟨A,h⟩ | ⟨B,h⟩⟩:=h
 ·obtain⟨m,d,g,j,u,v,x⟩:=y _ _ (fun g j=>gQ o g j) A h;exact⟨m,d,o,g,j,H,I,u,v,x⟩
 ·obtain⟨m,d,j,g,u,v,x⟩:=y _ _ (fun j g=>gQ o g j) B h;exact⟨m,d,o,g,j,H,I,v,u,x⟩
theorem gb{ops:List aP}{b:List (Nat × Nat)}(S:ro=ab∨ops.all (·.op.ea)=ae)(h:wE tab ops s fun s'=>WP tab fn ro k s' Q)(hk:∀ c ∈ b,aje tab ops s c) :
  WP tab fn ro (.code (.region ops b)::k) s Q:=by
 obtain⟨m,d,s',h1,n,m',d',j,s2,h2,h3⟩:=jf ops s h;have g:∃ M D,∀ c ∈ b,∃ o u y,c.2≤ops.length∧ops[c.1]?=aa o∧fF (CF tab M D) (ops.take c.1) s=aa u∧fF (CF tab M D) (ops.take c.2) s=aa y∧gQ o u y:=by
  clear h1 h2 h;induction b with
  | nil=>exact⟨0,0,fun c F=>by cases F⟩
  | cons c cs W=>
   obtain⟨M,D,W⟩:=W fun c F=>hk c (asm _ F);obtain⟨X,H,o,u,y,a1,z,A,B,E⟩:=abM (hk c asn);refine⟨max M X,max D H,fun c' q=>?_⟩;rcases asv.1 q with rfl | q
   ·have l:=jI (tab:=tab) (asD M X) (asD D H);exact⟨o,u,y,a1,z,dS l _ _ A,dS l _ _ B,E⟩
   ·obtain⟨o,u,y,a1,z,A,B,E⟩:=W c' q;have l:=jI (tab:=tab) (asM M X) (asM D H);exact⟨o,u,y,a1,z,dS l _ _ A,dS l _ _ B,E⟩
 obtain⟨M,D,g⟩:=g;obtain⟨Z,L,N,O⟩:∃ x,m≤x∧m'≤x∧M≤x:=⟨max (max m m') M,by omega,by omega,by omega⟩
 obtain⟨Y,I,J,K⟩:∃ x,d≤x∧d'≤x∧D≤x:=⟨max (max d d') D,by omega,by omega,by omega⟩
 refine⟨n+1,Z,Y,j,s2,?_,h3⟩;have e1:=dS (jI (tab:=tab) L I) ops _ h1;have e2:=vS N J (aft n) h2;have U:(ro.isSome&&!ops.all (·.op.ea))=ag:=by
  rcases S with rfl | S
  ·rfl
  ·rw [S];simp
 obtain⟨ss,f1,f2,f3⟩:=wv ops s e1;have hx:fZ (CF tab Z Y) ops b s=aa s':=by
  cases b with
  | nil=>simpa only [fZ]using e1
  | cons x xs=>
   simp only [fZ,f1];rw [ba,f2];rw [List.all_eq_true];intro c F;obtain⟨o,u,y,a1,z,A,B,E⟩:=g c F;have l:=jI (tab:=tab) O K;have hi:c.1≤ops.length:=by
    have:=(BY.1 z).1;omega
   have b3:=dS l _ _ A;have b4:=dS l _ _ B;rw [f3 _ hi]at b3;rw [f3 _ a1]at b4;simp only [sameAt,z,b3,b4];rcases E with hw | ⟨v,H1,v',H2,g1,g2,g3⟩
   ·rw [hw]
   ·split
    ·rfl
    ·simp only [g1,g2,g3]
 simp only [run,U,hx,e2];simp
end
end
section
open Go
theorem tj{n:Nat}:∀(l:List C) (H:aj),(∀ x ∈ l,∃ y,x=.f y)→l.foldl (fun H x=>gu n x H) H=H
 | [],_,_=>rfl
 | x::l,H,h=>by
  obtain⟨y,rfl⟩:=h x asn;simp only [aty,ajv];exact tj l H fun x b=>h x (asm _ b)
end
section
open Go
def RB(H:aj)(b sz ep:Nat)(rows:List (List FC)):Prop:=H[b]?=aa (.cj sz (rows.flatten.map .f) 0 ep .loc)
def Fm(b:Nat)(H H':aj):Prop:=H.length≤H'.length∧∀ d:Nat,d≠b→d<H.length→H'[d]?=H[d]?
theorem Fm.refl{b:Nat}(H:aj):Fm b H H:=⟨aft _,fun _ _ _=>rfl⟩
theorem Fm.trans{b:Nat}{H H' d:aj}(h:Fm b H H')(j:Fm b H' d):Fm b H d:=
 ⟨asz h.1 j.1,fun g e l=>(j.2 g e (asJ l h.1)).trans (h.2 g e l)⟩
theorem Fm.push{b:Nat}(H J:aj):Fm b H (H++J):=⟨by simp,fun d _ l=>AT l⟩
theorem Fm.set{b:Nat}(H:aj)(x:bq):Fm b H (H.set b x):=⟨by simp,fun d e _=>AI (Ne.symm e)⟩
theorem Fm.get{b:Nat}{H H':aj}(h:Fm b H H'){d:Nat}{x:bq}(g:H[d]?=aa x)(e:d≠b):H'[d]?=aa x:=by rw [h.2 d e (an g)];exact g
theorem Cb{sz:Nat}{row:List FC}(q:row.length=sz):∀ {rows:List (List FC)} {j:Nat},cC sz rows→j<rows.length →
  rows.flatten.take (j*sz)++row++rows.flatten.drop (j*sz+sz)=(rows.set j row).flatten
 | [],_,_,d=>by simp at d
 | r::rows,0,b,_=>by
  have:=b r asn;subst this;simp
 | r::rows,j+1,b,d=>by
  have g:=b r asn;have u:=Cb q (rows:=rows) (j:=j) (fun x s=>b x (asm _ s)) (by simpa using d);simp only [asE,aum];rw [←u];have l:(j+1)*sz=r.length+j*sz:=by rw [g,asL];omega
  have m:(j+1)*sz+sz=r.length+(j*sz+sz):=by omega
  rw [m,l,List.take_append,List.drop_append];simp [arf,asT]
section
variable{H:aj}{b sz ep j:Nat}{rows:List (List FC)}{row:List FC}
theorem RB.lt(h:RB H b sz ep rows):b<H.length:=an h
theorem RB.push(h:RB H b sz ep rows)(J:aj):RB (H++J) b sz ep rows:=by
 unfold RB at *;rw [AT (an h)];exact h
theorem RB.len(h:RB H b sz ep rows){o l c:Nat}:bt H (.sl b o l c ep sz)=aa l:=by
 unfold RB at h;simp [bt,h]
theorem RB.idx(h:RB H b sz ep rows){n c:Nat}{k:IntKind}{i:Int}(h0:0≤i)(hi:i<n){o:Nat}:bA H sz ab (.c (.sl b o n c ep sz)) (.c (.f (.int k i)))=aa (.c (.ptr b (o+i.toNat*sz) ep)):=by
 unfold RB at h;simp only [bA,hZ,h0,hi,if_true,h,and_self]
theorem RB.ldr(h:RB H b sz ep rows)(hg:cC sz rows)(g:rows[j]?=aa row):aS H (aa sz) (.c (.ptr b (j*sz) ep))=aa (.a (row.map .f)):=by
 unfold RB at h;have d:row.length=sz:=hg row (asp g);have:=uj (k:=0) hg g (by omega);simp only [av,h,if_true];rw [←List.map_drop];rw [atJ]at this;rw [this];have h1:(row.map C.f++((rows.drop (j+1)).flatten.map C.f)).take sz=row.map C.f:=by
  rw [asG (by simp [d]),arf (by simp [d])]
 simp [d]
theorem RB.str(h:RB H b sz ep rows)(hg:cC sz rows)(m:j<rows.length)(l:row.length=sz) :
  ∃ H',de H (.ptr b (j*sz) ep) (row.map .f)=aa H'∧RB H' b sz ep (rows.set j row)∧Fm b H H'∧H'.length=H.length:=by
 have q:=ct hg;have g:(j+1)*sz≤rows.length*sz:=asW _ m;have d:j*sz+sz≤rows.flatten.length:=by rw [q];rw [asL]at g;omega
 unfold RB at h ⊢;refine⟨H.set b (.cj sz ((rows.set j row).flatten.map .f) 0 ep .loc),?_,?_,Fm.set _ _,by simp⟩
 ·simp only [bf,h,atr,true_and,asi,l,d,if_true];rw [←Cb l hg m];simp [over,l]
 ·exact IN (an h)
end
theorem yV{k n:Nat}(h:k≤n):CB (vi k) n=aa k:=by
 have:(0:Int)≤k∧(k:Int)≤n:=by omega
 simp [CB,hZ,this]
theorem RB.vX{H:aj}{b sz ep n k:Nat}{rows:List (List FC)}(h:RB H b sz ep rows)(g:k<n) :
  eQ H sz (.c (.sl b 0 n 0 ep sz)) (aa (vi k)) ab ab=aa (.c (.sl b (k*sz) (n-k) 0 ep sz)):=by
 unfold RB at h;have d:cm n n (aa (vi k)) ab ab=aa (k,n,n):=by simp [cm,yV (Nat.le_of_lt g)]
 simp [eQ,h,d];omega
theorem RB.abW{H:aj}{b sz ep n k:Nat}{rows:List (List FC)}(h:RB H b sz ep rows)(g:k≤n)(h0:0<k) :
  eQ H sz (.c (.sl b 0 n 0 ep sz)) ab (aa (vi k)) ab=aa (.c (.sl b 0 k 0 ep sz)):=by
 unfold RB at h;have d:cm n n ab (aa (vi k)) ab=aa (0,k,n):=by simp [cm,yV g]
 simp [eQ,h,d]
 try omega
theorem RB.clr{H:aj}{b sz ep n k:Nat}{rows:List (List FC)}{zs:List FC}(h:RB H b sz ep rows)(hg:cC sz rows)(x:rows.length=n)(A:k<n)(s:zs.length=sz) :
  ∃ H',oe H sz zs (.c (.sl b (k*sz) (n-k) 0 ep sz))=aa H'∧RB H' b sz ep (rows.take k++List.replicate (n-k) zs)∧Fm b H H':=by
 have v:=ct hg;have d:=h.len (o:=k*sz) (l:=n-k) (c:=0);have g:(cG (n-k) zs).length=(n-k)*sz:=by
  have:cC sz (List.replicate (n-k) zs):=fun r z=>by rw [List.eq_of_mem_replicate z,s]
  simpa [cG]using ct this
 have m:k*sz+(n-k)*sz=rows.flatten.length:=by rw [v,x,←asL];congr 1;omega
 unfold RB at h ⊢;refine⟨H.set b (.cj sz ((rows.take k++List.replicate (n-k) zs).flatten.map .f) 0 ep .loc),?_,IN (an h),Fm.set _ _⟩;have y:n-k≠0:=by omega
 have u:(rows.take k++List.replicate (n-k) zs).flatten.map C.f=over (rows.flatten.map .f) (k*sz) ((cG (n-k) zs).map .f):=by
  rw [atP,←yE k hg];simp only [over,asi,g,as5,List.map_take];rw [List.drop_eq_nil_of_le (by simp only [asi];omega)];simp [cG]
 simp only [oe,d];rw [u];obtain⟨q,j⟩:∃ q,n-k=q+1:=⟨n-k-1,by omega⟩
 rw [j];simp only [s,if_true,h,and_self,bf,atr,true_and,asi];rw [←j,g,ba (by omega)]
theorem jO{t:T}{H:aj}{x:gw}{r:V}(h:cQ t H x=aa r):Km.results t H [x]=aa r:=by
 simp [Km.results,bg,h]
@[simp] theorem aqq {t:T} {H:aj} (sz:Nat) (zs:List FC) (x:Arg):bo t H (.clear sz zs x)=(oe H sz zs (x.ev t)).map (.t [],·):=rfl
@[simp] theorem ap_ {a b:Int}:wP ag [vi a,vi b]=aa (vi (max a b)):=by
 have:(if a<b then b else a)=max a b:=by split<;>omega
 simp only [wP,rA,yc];simp [this,V.int]
@[simp] theorem aqa {a b:Int}:wP ae [vi a,vi b]=aa (vi (min a b)):=by
 have:(if b<a then b else a)=min a b:=by split<;>omega
 simp only [wP,rA,yc];simp [this,V.int]
end
section
open Go
def zZ(l:List (List FC))(i j:Nat):List (List FC):=(l.set i (l.getD j [])).set j (l.getD i [])
def iH(a b:Nat)(l l':List (List FC)):Prop:=l'.Perm l∧l'.take a=l.take a∧l'.drop b=l.drop b
theorem iH.refl(a b:Nat)(l:List (List FC)):iH a b l l:=⟨.refl _,rfl,rfl⟩
theorem iH.trans{a b:Nat}{l l' d:List (List FC)}(h:iH a b l l')(g:iH a b l' d):iH a b l d:=⟨g.1.trans h.1,g.2.1.trans h.2.1,g.2.2.trans h.2.2⟩
theorem iH.len{a b:Nat}{l l':List (List FC)}(h:iH a b l l'):l'.length=l.length:=h.1.length_eq
theorem iH.lt{a b:Nat}{l l':List (List FC)}(h:iH a b l l'){i:Nat}(hi:i<a):l'[i]?=l[i]?:=by
 have:=congrArg (·[i]?) h.2.1;simpa [asI,hi]using this
theorem iH.ge{a b:Nat}{l l':List (List FC)}(h:iH a b l l'){i:Nat}(hi:b≤i):l'[i]?=l[i]?:=by
 have:=congrArg (·[i-b]?) h.2.2;simpa [asu,show b+(i-b)=i by omega]using this
theorem iH.mono{a b a' d:Nat}{l l':List (List FC)}(h:iH a b l l')(g:a'≤a)(j:b≤d):iH a' d l l':=by
 refine⟨h.1,?_,?_⟩
 ·have:=congrArg (·.take a') h.2.1;simpa [atF,as8 g]using this
 ·have:=congrArg (·.drop (d-b)) h.2.2;simpa [ate,show b+(d-b)=d by omega]using this
theorem nk{l:List (List FC)}{i j:Nat}(hi:i<l.length)(g:j<l.length)(k:Nat):(zZ l i j)[k]?=if k=j then l[i]? else if k=i then l[j]? else l[k]?:=by
 have m:l.getD i []=l[i]:=by simp [List.getD,By hi]
 have q:l.getD j []=l[j]:=by simp [List.getD,By g]
 simp only [zZ,m,q,List.getElem?_set];by_cases b:j=k
 ·subst b;simp [By hi,g]
 ·by_cases d:i=k
  ·subst d;simp [b,Ne.symm b,By g,hi]
  ·simp [b,d,Ne.symm b,Ne.symm d]
theorem tF{a b:Nat}{l:List (List FC)}{i j:Nat}(hi:a≤i)(s:i<b)(x:a≤j)(u:j<b)(v:b≤l.length):iH a b l (zZ l i j):=by
 have d:i<l.length:=by omega
 have g:j<l.length:=by omega
 refine⟨?_,?_,?_⟩
 ·have m:l.getD i []=l[i]:=by simp [List.getD,By d]
  have q:l.getD j []=l[j]:=by simp [List.getD,By g]
  simp only [zZ,m,q];exact List.set_set_perm d g
 ·apply atx;intro k;simp only [asI];split
  ·rw [nk d g,aX (by omega),aX (by omega)]
  ·rfl
 ·apply atx;intro k;simp only [asu];rw [nk d g,aX (by omega),aX (by omega)]
section
variable{H:aj}{b sz ep:Nat}{rows:List (List FC)}
theorem RB.swap(h:RB H b sz ep rows)(hg:cC sz rows){i j:Nat}(hi:i<rows.length)(m:j<rows.length) :
  ∃ d g,de H (.ptr b (i*sz) ep) (rows[j].map .f)=aa d∧RB d b sz ep (rows.set i rows[j])∧de d (.ptr b (j*sz) ep) (rows[i].map .f)=aa g∧RB g b sz ep (zZ rows i j)∧Fm b H g:=by
 have y:rows[i].length=sz:=hg _ (anc hi);have q:rows[j].length=sz:=hg _ (anc m);obtain⟨d,B,r1,v,-⟩:=h.str hg hi q;have l:cC sz (rows.set i rows[j]):=fun r z=>by
  rcases List.mem_or_eq_of_mem_set z with h | rfl
  ·exact hg r h
  ·exact q
 obtain⟨g,E,A,x,-⟩:=r1.str l (j:=j) (by simpa using m) y;refine⟨d,g,B,r1,E,?_,v.trans x⟩;have s:rows.getD i []=rows[i]:=by simp [List.getD,By hi]
 have u:rows.getD j []=rows[j]:=by simp [List.getD,By m]
 simp only [zZ,s,u];exact A
theorem iH.wK{a b:Nat}{l l':List (List FC)}(h:iH a b l l')(hg:cC sz l):cC sz l':=fun r d=>hg r (h.1.mem_iff.1 d)
end
structure CS(W:List FC→Prop)(c:List FC→List FC→Int):Prop where
 aoC:∀ {x y},W x→W y→c x y<0→¬ c y x<0
 trans:∀ {x y z},W x→W y→W z→¬ c y x<0→¬ c z y<0→¬ c z x<0
def Up(c:List FC→List FC→Int)(a b:Nat)(l:List (List FC)):Prop:=∀ i j x y,a≤i→i<j→j<b→l[i]?=aa x→l[j]?=aa y→¬ c y x<0
end
section
open Go
def NP(l l':List (List FC))(a b n:Nat):Prop:=∀ k:Nat,l'[k]?=if a≤k∧k<a+n then l[k-a+b]? else if b≤k∧k<b+n then l[k-b+a]? else l[k]?
theorem NP.zero(l:List (List FC))(a b:Nat):NP l l a b 0:=fun k=>by
 rw [aX (by omega),aX (by omega)]
theorem NP.step{l l':List (List FC)}{a b i:Nat}(h:NP l l' a b i)(j:l'.length=l.length)(d:a+i<b)(g:b+i<l.length):NP l (zZ l' (a+i) (b+i)) a b (i+1):=fun k=>by
 rw [nk (by omega) (by omega)];by_cases h1:k=b+i
 ·subst h1;rw [ba rfl,h,aX (by omega),aX (by omega),aX (by omega),ba (by omega)]
  congr 1;omega
 rw [aX h1];by_cases h2:k=a+i
 ·subst h2;rw [ba rfl,h,aX (by omega),aX (by omega),ba (by omega)]
  congr 1;omega
 rw [aX h2,h k];by_cases h3:a≤k∧k<a+i
 ·rw [ba h3,ba (by omega)]
 rw [aX h3,aX (show¬ (a≤k∧k<a+(i+1)) by omega)];by_cases h4:b≤k∧k<b+i
 ·rw [ba h4,ba (by omega)]
 rw [aX h4,aX (by omega)]
theorem NP.blocks{X P M Q Z l':List (List FC)}{n:Nat}(d:P.length=n)(g:Q.length=n)(h:NP (X++(P++(M++(Q++Z)))) l' X.length (X.length+n+M.length) n):l'=X++(Q++(M++(P++Z))):=by
 apply atx;intro k;rw [h k];by_cases b:k<X.length
 ·rw [aX (by omega),aX (by omega),AT b,AT b]
 rw [IS (l₁:=X) (l₂:=Q++(M++(P++Z))) (by omega)];by_cases j:k<X.length+n
 ·rw [ba (by omega),IS (by omega),IS (by omega),IS (by omega),AT (by omega),AT (by omega)]
  congr 1;omega
 rw [aX (by omega),IS (l₁:=Q) (by omega)];by_cases l:k<X.length+n+M.length
 ·rw [aX (by omega),IS (by omega),IS (by omega),AT (by omega),AT (by omega)]
  congr 1;omega
 rw [IS (l₁:=M) (l₂:=P++Z) (by omega)];by_cases m:k<X.length+n+M.length+n
 ·rw [ba (by omega),IS (by omega),AT (by omega),AT (by omega)]
  congr 1;omega
 rw [aX (by omega),IS (by omega),IS (by omega),IS (by omega),IS (by omega),IS (by omega)]
 congr 1;omega
def wB(l l':List (List FC))(a m b:Nat):Prop:=∀ k:Nat,l'[k]?=if a≤k∧k<a+(b-m)then l[k-a+m]? else if a+(b-m)≤k∧k<b then l[k-(b-m)]? else l[k]?
theorem wB.none(l:List (List FC)){a m b:Nat}(d:a≤m)(g:m≤b)(h:a=m∨m=b):wB l l a m b:=fun k=>by
 rcases h with rfl | rfl
 ·by_cases h1:a≤k∧k<a+(b-a)
  ·rw [ba h1];congr 1;omega
  ·rw [aX h1,aX (by omega)]
 ·rw [aX (by omega)];by_cases h1:a+(m-m)≤k∧k<m
  ·rw [ba h1];congr 1;omega
  ·rw [aX h1]
theorem wB.blocks{X U V Y:List (List FC)}:wB (X++(U++(V++Y))) (X++(V++(U++Y))) X.length (X.length+U.length) (X.length+U.length+V.length):=fun k=>by
 have e:X.length+U.length+V.length-(X.length+U.length)=V.length:=by omega
 rw [e];by_cases b:k<X.length
 ·rw [aX (by omega),aX (by omega),AT b,AT b]
 rw [IS (l₁:=X) (l₂:=V++(U++Y)) (by omega)];by_cases d:k<X.length+V.length
 ·rw [ba (by omega),IS (l₁:=X) (by omega),IS (l₁:=U) (by omega),AT (l₁:=V) (l₂:=Y) (by omega),AT (l₁:=V) (l₂:=U++Y) (by omega)]
  congr 1;omega
 rw [aX (by omega),IS (l₁:=V) (l₂:=U++Y) (by omega)];by_cases g:k<X.length+U.length+V.length
 ·rw [ba (by omega),IS (l₁:=X) (by omega),AT (l₁:=U) (l₂:=V++Y) (by omega),AT (l₁:=U) (l₂:=Y) (by omega)]
  congr 1;omega
 rw [aX (by omega),IS (l₁:=U) (l₂:=Y) (by omega),IS (l₁:=X) (by omega),IS (l₁:=U) (l₂:=V++Y) (by omega),IS (l₁:=V) (l₂:=Y) (by omega)]
 congr 1;omega
theorem qv{l:List (List FC)}{a m b:Nat}(j:a≤m)(q:m≤b)(s:b≤l.length):∃ X U V Y,l=X++(U++(V++Y))∧X.length=a∧U.length=m-a∧V.length=b-m:=by
 refine⟨l.take a,(l.drop a).take (m-a),(l.drop m).take (b-m),l.drop b,?_,by simp;omega,by simp;omega,by simp;omega⟩;have g:(l.drop m).take (b-m)++l.drop b=l.drop m:=by
  have:=asP (b-m) (l.drop m);rwa [ate,show m+(b-m)=b by omega]at this
 have d:(l.drop a).take (m-a)++l.drop m=l.drop a:=by
  have:=asP (m-a) (l.drop a);rwa [ate,show a+(m-a)=m by omega]at this
 rw [g,d,asP]
theorem iH.mem{a b:Nat}{l l':List (List FC)}(h:iH a b l l')(d:a≤b)(J:b≤l.length){i:Nat}{x:List FC}(h1:a≤i)(h2:i<b)(y:l'[i]?=aa x):∃ j,a≤j∧j<b∧l[j]?=aa x:=by
 obtain⟨X,U,V,Y,e,Q,lU,O⟩:=qv (aft a) d J;have Z:=h.len;obtain⟨X',z,E,u,F,s,N,m⟩:=qv (l:=l') (aft a) d (by omega);obtain rfl:U=[]:=as4.1 (by omega);obtain rfl:z=[]:=as4.1 (by omega);obtain⟨g,M,K⟩:=h;subst e;subst F;have H:X'=X:=by
  simpa [asG (show a≤X.length by omega),asG (show a≤X'.length by omega),arf (show X.length≤a by omega),arf (show X'.length≤a by omega)]using M
 have I:u=Y:=by
  have q:∀ {A B C:List (List FC)},A.length=a→B.length=b-a→(A++([]++(B++C))).drop b=C:=by
   intro A B C S W;rw [as9,←asT,List.drop_append_of_le_length (by simp;omega),ato (by simp;omega),as9]
  rwa [q s m,q Q O]at K
 subst H;subst I;have g:E.Perm V:=by
  have:=(List.perm_append_left_iff X').1 g;simp only [as9]at this;exact(List.perm_append_right_iff u).1 this
 rw [as9,IS (by omega),AT (by omega)]at y;obtain⟨j,v⟩:=as2 (g.mem_iff.1 (asp y));have L:=(BY.1 v).1;refine⟨a+j,by omega,by omega,?_⟩;rw [as9,IS (by omega),AT (by omega)];rw [←v];congr 1;omega
section
variable{W:List FC→Prop}{c:List FC→List FC→Int}
theorem Up.mono{a b a' d:Nat}{l:List (List FC)}(h:Up c a b l)(m:a≤a')(q:d≤b):Up c a' d l:=
 fun i j x y h1 h2 h3 g hy=>h i j x y (by omega) h2 (by omega) g hy
theorem Up.one{a b:Nat}{l:List (List FC)}(h:b≤a+1):Up c a b l:=fun i j x y h1 h2 h3=>by omega
theorem Up.of{a b:Nat}{l l':List (List FC)}(h:Up c a b l)(d:∀ k,a≤k→k<b→l'[k]?=l[k]?):Up c a b l':=fun i j x y h1 h2 h3 g hy=>
 h i j x y h1 h2 h3 (by rw [←d i h1 (by omega)];exact g) (by rw [←d j (by omega) h3];exact hy)
def jS(c:List FC→List FC→Int)(l:List (List FC))(i j:Nat):Prop:=∀ x y,l[i]?=aa x→l[j]?=aa y→¬ c y x<0
theorem Up.le{a b i j:Nat}{l:List (List FC)}(hc:CS W c)(g:∀ r ∈ l,W r)(h:Up c a b l)(h1:a≤i)(h2:i≤j)(h3:j<b):jS c l i j:=fun x y d hy=>by
 by_cases e:i=j
 ·subst e;rw [d]at hy;cases hy;have:=asp d;intro q;exact hc.aoC (g _ this) (g _ this) q q
 ·exact h i j x y h1 (by omega) h3 d hy
theorem jS.trans{l:List (List FC)}{i j k:Nat}(hc:CS W c)(b:∀ r ∈ l,W r)(h:jS c l i j)(q:jS c l j k)(d:j<l.length):jS c l i k:=fun x y g hy=>by
 have m:=By d;exact hc.trans (b _ (asp g)) (b _ (anc d)) (b _ (asp hy)) (h _ _ g m) (q _ _ m hy)
theorem aa8{l H I J:List (List FC)}{a s m e b mid:Nat}(v:CS W c)(u:∀ r ∈ l,W r)(L:Up c a m l)(M:Up c m b l)(h1:a≤s)(h2:s≤m)(h3:m≤e)(h4:e≤b)(O:mid+m=s+e)(hb:b≤l.length)
  (t:a<s→e<b→jS c l (s-1) e) (w:s<m→m<e→jS c l (e-1) s) (Q:wB l H s m e) (X:H.length=l.length) (K:iH a mid H I) (S:Up c a mid I) (F:iH mid b I J) (U:Up c mid b J):Up c a b J:=by
 intro i j x y hi A N g d;by_cases f:j<mid
 ·rw [F.lt (by omega)]at g;rw [F.lt (by omega)]at d;exact S i j x y hi A f g d
 by_cases k:mid≤i
 ·exact U i j x y k A N g d
 have o:=K.len;rw [F.lt (by omega)]at g;obtain⟨B,j1,j2,d⟩:=F.mem (by omega) (by omega) (by omega) N d;rw [K.ge (by omega)]at d;obtain⟨E,i1,i2,g⟩:=K.mem (by omega) (by omega) hi (by omega) g;rw [Q E]at g;rw [Q B]at d;have z:∀ p q:Nat,jS c l p q→l[p]?=aa x→l[q]?=aa y→¬ c y x<0:=fun p q h Y Z=>h _ _ Y Z;by_cases k3:E<s
 ·rw [aX (by omega),aX (by omega)]at g;by_cases n:B<e
  ·rw [aX (by omega),ba (by omega)]at d;exact z _ _ (L.le v u (by omega) (by omega) (by omega)) g d
  ·rw [aX (by omega),aX (by omega)]at d;exact z _ _ (((L.le v u (i:=E) (j:=s-1) (by omega) (by omega) (by omega)).trans v u (t (by omega) (by omega)) (by omega)).trans v u (M.le v u (i:=e) (j:=B) (by omega) (by omega) (by omega)) (by omega)) g d
 ·rw [ba (by omega)]at g;by_cases n:B<e
  ·rw [aX (by omega),ba (by omega)]at d;exact z _ _ (((M.le v u (i:=E-s+m) (j:=e-1) (by omega) (by omega) (by omega)).trans v u (w (by omega) (by omega)) (by omega)).trans v u (L.le v u (i:=s) (j:=B-(e-m)) (by omega) (by omega) (by omega)) (by omega)) g d
  ·rw [aX (by omega),aX (by omega)]at d;exact z _ _ (M.le v u (by omega) (by omega) (by omega)) g d
theorem abH{l l':List (List FC)}{a s m e b:Nat}(g:CS W c)(d:∀ r ∈ l,W r)(A:Up c a m l)(B:Up c m b l)(O:a≤s)(Q:s≤m)(S:m≤e)(U:e≤b)(Y:b≤l.length)(X:s<m∨m<e)
  (H:a<s→m<e→jS c l (s-1) m) (N:s<m→m<e→jS c l (e-1) s) (I:s<m→e<b→jS c l (m-1) e) (E:wB l l' s m e):Up c a b l':=by
 intro i j x y hi J Z z u;rw [E i]at z;rw [E j]at u;have v:∀ p q:Nat,jS c l p q→l[p]?=aa x→l[q]?=aa y→¬ c y x<0:=fun p q h K L=>h _ _ K L;by_cases f:i<s
 ·rw [aX (by omega),aX (by omega)]at z;by_cases o:j<s
  ·rw [aX (by omega),aX (by omega)]at u;exact v _ _ (A.le g d (by omega) (by omega) (by omega)) z u
  by_cases M:j<s+(e-m)
  ·rw [ba (by omega)]at u;exact v _ _ (((A.le g d (i:=i) (j:=s-1) (by omega) (by omega) (by omega)).trans g d (H (by omega) (by omega)) (by omega)).trans g d (B.le g d (i:=m) (j:=j-s+m) (by omega) (by omega) (by omega)) (by omega)) z u
  rw [aX (by omega)]at u;by_cases F:j<e
  ·rw [ba (by omega)]at u;exact v _ _ (A.le g d (by omega) (by omega) (by omega)) z u
  rw [aX (by omega)]at u;by_cases q:m<e
  ·exact v _ _ (((A.le g d (i:=i) (j:=s-1) (by omega) (by omega) (by omega)).trans g d (H (by omega) q) (by omega)).trans g d (B.le g d (i:=m) (j:=j) (by omega) (by omega) (by omega)) (by omega)) z u
  ·exact v _ _ (((A.le g d (i:=i) (j:=m-1) (by omega) (by omega) (by omega)).trans g d (I (by omega) (by omega)) (by omega)).trans g d (B.le g d (i:=e) (j:=j) (by omega) (by omega) (by omega)) (by omega)) z u
 by_cases k:i<s+(e-m)
 ·rw [ba (by omega)]at z;by_cases M:j<s+(e-m)
  ·rw [ba (by omega)]at u;exact v _ _ (B.le g d (by omega) (by omega) (by omega)) z u
  rw [aX (by omega)]at u;by_cases F:j<e
  ·rw [ba (by omega)]at u;exact v _ _ (((B.le g d (i:=i-s+m) (j:=e-1) (by omega) (by omega) (by omega)).trans g d (N (by omega) (by omega)) (by omega)).trans g d (A.le g d (i:=s) (j:=j-(e-m)) (by omega) (by omega) (by omega)) (by omega)) z u
  rw [aX (by omega)]at u;exact v _ _ (B.le g d (by omega) (by omega) (by omega)) z u
 rw [aX (by omega)]at z;rw [aX (by omega)]at u;by_cases n:i<e
 ·rw [ba (by omega)]at z;by_cases F:j<e
  ·rw [ba (by omega)]at u;exact v _ _ (A.le g d (by omega) (by omega) (by omega)) z u
  rw [aX (by omega)]at u;exact v _ _ (((A.le g d (i:=i-(e-m)) (j:=m-1) (by omega) (by omega) (by omega)).trans g d (I (by omega) (by omega)) (by omega)).trans g d (B.le g d (i:=e) (j:=j) (by omega) (by omega) (by omega)) (by omega)) z u
 rw [aX (by omega)]at z;rw [aX (by omega)]at u;exact v _ _ (B.le g d (by omega) (by omega) (by omega)) z u
end
end
section
open Go
def bB:C→Option Nat
 | .sl b _ _ _ _ _=>aa b| _=>ab
def LR(H:aj)(c:C)(sz:Nat)(rows:List (List FC)):Prop:=(rows=[]∧(c=.f .au∨c=.f .es))∨(rows≠[]∧∃ b ep,c=.sl b 0 rows.length 0 ep sz∧RB H b sz ep rows)
def Kb(H H':aj)(c:C):Prop:=H.length≤H'.length∧∀(i:Nat) y,H[i]?=aa y→bB c≠aa i→H'[i]?=aa y
section
variable{H H':aj}{c:C}{sz:Nat}{rows:List (List FC)}
theorem LR.nil(H:aj)(sz:Nat):LR H (.f .au) sz []:=.inl ⟨rfl,.inl rfl⟩
theorem LR.cO(h:LR H c sz rows)(d:∀ i y,H[i]?=aa y→bB c=aa i→H'[i]?=aa y):LR H' c sz rows:=by
 rcases h with h | ⟨h,b,ep,rfl,h2⟩
 ·exact .inl h
 ·exact .inr ⟨h,b,ep,rfl,d b _ h2 rfl⟩
theorem LR.push(h:LR H c sz rows)(J:aj):LR (H++J) c sz rows:=h.cO fun i y hy _=>by rw [AT (an hy)];exact hy
theorem LR.lt(h:LR H c sz rows){i:Nat}(hi:bB c=aa i):i<H.length:=by
 rcases h with⟨_,rfl | rfl⟩ | ⟨h,b,ep,rfl,h2⟩
 ·cases hi
 ·cases hi
 ·cases hi;exact h2.lt
theorem LR.ot(h:LR H c sz rows){i:Nat}{cs:List C}{fl:Nat}(d:H[i]?=aa (.box cs fl)):bB c≠aa i:=by
 rcases h with⟨_,rfl | rfl⟩ | ⟨h,b,ep,rfl,h2⟩
 ·simp [bB]
 ·simp [bB]
 ·intro e;cases e;unfold RB at h2;rw [h2]at d;cases d
theorem LR.set(h:LR H c sz rows){i:Nat}(hi:bB c≠aa i)(x:bq):LR (H.set i x) c sz rows:=h.cO fun j y hy b=>by
 have:i≠j:=by rintro rfl;exact hi b
 rw [AI this];exact hy
theorem LR.len(h:LR H c sz rows):bt H c=aa rows.length:=by
 rcases h with⟨rfl,rfl | rfl⟩ | ⟨h,b,ep,rfl,h2⟩
 ·rfl
 ·rfl
 ·exact h2.len
theorem LR.at(h:LR H c sz rows)(hg:cC sz rows){j:Nat}(d:j<rows.length):∃ b ep,bA H sz ab (.c c) (vi j)=aa (.c (.ptr b (j*sz) ep))∧aS H (aa sz) (.c (.ptr b (j*sz) ep))=aa (.a (rows[j].map .f)):=by
 rcases h with⟨rfl,_⟩ | ⟨h,b,ep,rfl,h2⟩
 ·simp at d
 ·have:=h2.idx (n:=rows.length) (c:=0) (k:=.i64) (o:=0) (i:=(j:Int)) (by omega) (by omega);rw [asy,asN]at this;exact⟨b,ep,this,h2.ldr hg (By d)⟩
theorem LR.ex(h:LR H c sz rows)(hg:cC sz rows)(n:Nat):∃ g,eG (n+1) H c=aa (sl g rows):=by
 rcases h with⟨rfl,rfl | rfl⟩ | ⟨h,b,ep,rfl,h2⟩
 ·exact⟨.nil,rfl⟩
 ·exact⟨.es,rfl⟩
 ·refine⟨.fs,?_⟩;have d:rows.length*sz=rows.flatten.length:=(ct hg).symm;unfold RB at h2;simp only [lJ,h2];rw [ba ⟨trivial,trivial,by rw [asi,asN,d];exact aft _⟩,atf,arf (by rw [asi];omega),qU];cases rows with
  | nil=>exact absurd rfl h| cons x l=>simp [sl]
theorem abV{g g':Tg}{rows:List (List FC)}(h:rows≠[]):sl g rows=sl g' rows:=by
 cases rows with
 | nil=>exact absurd rfl h| cons x l=>rfl
theorem LR.exU(h:LR H c sz rows)(hg:cC sz rows):∃ g,∀(H':aj) (n:Nat),(∀ i y,H[i]?=aa y→bB c=aa i→H'[i]?=aa y)→eG (n+1) H' c=aa (sl g rows):=by
 by_cases b:rows=[]
 ·rcases h with⟨rfl,rfl | rfl⟩ | ⟨h,_⟩
  ·exact⟨.nil,fun _ _ _=>rfl⟩
  ·exact⟨.es,fun _ _ _=>rfl⟩
  ·exact absurd b h
 ·refine⟨.fs,fun H' n d=>?_⟩;obtain⟨g,e⟩:=(h.cO d).ex hg n;rw [e,abV b]
theorem LR.app(h:LR H c sz rows)(hg:cC sz rows)(nu:sz≠0){row:List FC}(u:row.length=sz){bytes:Nat}(d:bY (rows.length+1) bytes=ae){b1 fl1:Nat}(l:H[b1]?=aa (.box (row.map .f) fl1)) :
  ∃ c' H',cI H sz bytes (.c c) (.c (.sl b1 0 1 1 0 sz))=aa (.c c',H')∧LR H' c' sz (rows++[row])∧Kb H H' c∧(bB c'=bB c∨bB c'=aa H.length):=by
 have g:cX H sz (.c (.sl b1 0 1 1 0 sz))=aa (1,row.map .f):=qp l (by simp [u]);rcases h with⟨rfl,m⟩ | ⟨s,b,ep,rfl,h2⟩
 ·have d:bY 1 bytes=ae:=by simpa using d
  refine⟨.sl H.length 0 1 0 0 sz,H++[.cj sz (row.map .f) 0 0 .loc],?_,.inr ⟨by simp,H.length,0,rfl,?_⟩,⟨by simp,fun i y hy _=>by rw [AT (an hy)];exact hy⟩,.inr rfl⟩
  ·rcases m with rfl | rfl<;>simp [cI,g,d,nu]
  ·simp [RB]
 ·have j:rows.length*sz=rows.flatten.length:=(ct hg).symm;unfold RB at h2;refine⟨.sl b 0 (rows.length+1) 0 (ep+1) sz,H.set b (.cj sz (rows.flatten.map .f++row.map .f) 0 (ep+1) .loc),?_,.inr ⟨by simp,b,ep+1,by simp,?_⟩,⟨by simp,fun i y hy q=>?_⟩,.inl rfl⟩
  ·simp only [cI,g,nu,if_false,h2,and_self,if_true];simp only [Nat.add_one_ne_zero,if_false];rw [ba ⟨trivial,by rw [asi];exact j,by simp⟩,d];simp
  ·unfold RB;rw [IN (an h2)];simp
  ·have:b≠i:=by rintro rfl;exact q rfl
   rw [AI this];exact hy
theorem Kb.refl(H:aj)(c:C):Kb H H c:=⟨aft _,fun _ _ h _=>h⟩
theorem Kb.push(H J:aj)(c:C):Kb H (H++J) c:=⟨by simp,fun i y hy _=>by rw [AT (an hy)];exact hy⟩
theorem Kb.apa{b o l d ep s:Nat}(h:Fm b H H'):Kb H H' (.sl b o l d ep s):=⟨h.1,fun i y hy g=>by
 have:i≠b:=by rintro rfl;exact g rfl
 exact h.get hy this⟩
end
end
section
open Go
theorem oi{g:Type}{sz:Nat}:∀ {rows:List (List g)} {j:Nat} {row:List g},(∀ r ∈ rows,r.length=sz)→rows[j]?=aa row→(rows.flatten.drop (j*sz)).take sz=row
 | [],j,row,_,b=>by simp at b
 | r::rows,0,row,d,b=>by
  simp at b;subst b;have:=d r asn;subst this;simp
 | r::rows,j+1,row,d,b=>by
  have l:=d r asn;have q:=oi (rows:=rows) (j:=j) (row:=row) (fun x m=>d x (asm _ m)) (by simpa using b);rw [asE,show(j+1)*sz=r.length+j*sz by rw [l,asL];omega,←ate,List.drop_left];exact q
theorem BN{b:Type}:∀ {cs:List b} {k:Nat} {x:b},k<cs.length→over cs k [x]=cs.set k x
 | [],k,x,h=>by simp at h
 | c::cs,0,x,_=>by simp [over]
 | c::cs,k+1,x,h=>by
  have:=BN (cs:=cs) (k:=k) (x:=x) (by simpa using h);simp only [over,asX,List.length_nil]at this ⊢;rw [at5,aum,←this];simp
theorem OB{g:Type}{sz:Nat}:∀ {rows:List (List g)} {j k n:Nat} {row:List g},(∀ r ∈ rows,r.length=sz)→rows[j]?=aa row→k+n≤sz→(rows.flatten.drop (j*sz+k)).take n=(row.drop k).take n:=by
 intro rows j k n row b d m;have q:row.length=sz:=b row (asp d);have l:=oi b d;rw [←ate,←l,List.drop_take,atF,as8 (by omega)]
theorem xI{m:Type}{sz:Nat}:∀ {rows:List (List m)} {j k:Nat} {row xs:List m},(∀ r ∈ rows,r.length=sz)→rows[j]?=aa row→k+xs.length≤sz→over rows.flatten (j*sz+k) xs=(rows.set j (over row k xs)).flatten
 | [],j,k,row,xs,_,b,_=>by simp at b
 | r::rows,0,k,row,xs,d,b,g=>by
  simp at b;subst b;have:=d r asn;simp only [over,asE,List.set_cons_zero,Nat.zero_mul,asN];rw [asG (by omega),List.drop_append_of_le_length (by omega)];simp
 | r::rows,j+1,k,row,xs,d,b,g=>by
  have q:=d r asn;have l:=xI (rows:=rows) (j:=j) (k:=k) (row:=row) (xs:=xs) (fun y s=>d y (asm _ s)) (by simpa using b) g;have e:(j+1)*sz+k=r.length+(j*sz+k):=by rw [q,asL];omega
  simp only [over,asE,aum]at l ⊢;rw [←l,e,List.take_length_add_append,Nat.add_assoc,List.drop_length_add_append];simp
theorem Fb{g:Type}{sz:Nat}{rows:List (List g)}(b:∀ r ∈ rows,r.length=sz){j:Nat}(d:j<rows.length):j*sz+sz≤rows.flatten.length:=by
 rw [uA b];have:(j+1)*sz≤rows.length*sz:=asW _ d;rw [asL]at this;omega
section
variable{H:aj}{b sz ep j k n:Nat}{rows:List (List FC)}{row:List FC}
theorem RB.ldp(h:RB H b sz ep rows)(hg:cC sz rows)(g:rows[j]?=aa row)(l:k+n≤sz):aS H (aa n) (.c (.ptr b (j*sz+k) ep))=aa (.a (((row.drop k).take n).map .f)):=by
 unfold RB at h;have d:row.length=sz:=hg row (asp g);have:=OB (n:=n) hg g l;simp only [av,h,if_true];have e:((row.drop k).take n).length=n:=by simp [d];omega
 have m:=Fb hg (BY.1 g).1;rw [←List.map_drop];simp only [aQ,asi];rw [ba (by rw [asr];omega),←List.map_take,this]
theorem RB.ldc{x:FC}(h:RB H b sz ep rows)(hg:cC sz rows)(g:rows[j]?=aa row)(l:row[k]?=aa x):aS H ab (.c (.ptr b (j*sz+k) ep))=aa (.c (.f x)):=by
 unfold RB at h;have m:row.length=sz:=hg row (asp g);have q:=(BY.1 l).1;have:=uz hg g (by omega:k<sz);simp only [av,h,if_true];rw [List.map_drop.symm];have e:(rows.flatten.drop (j*sz+k))[0]?=aa x:=by rw [asu,atJ,this,l]
 cases d:rows.flatten.drop (j*sz+k)with
 | nil=>rw [d]at e;simp at e| cons y ys=>rw [d]at e;simp at e;simp [aQ,e]
theorem RB.stp{xs:List FC}(h:RB H b sz ep rows)(hg:cC sz rows)(g:rows[j]?=aa row)(m:k+xs.length≤sz):∃ H',de H (.ptr b (j*sz+k) ep) (xs.map .f)=aa H'∧RB H' b sz ep (rows.set j (over row k xs))∧Fm b H H'∧H'.length=H.length:=by
 have d:=(BY.1 g).1;have l:=Fb hg d;unfold RB at h ⊢;refine⟨H.set b (.cj sz ((rows.set j (over row k xs)).flatten.map .f) 0 ep .loc),?_,IN (an h),Fm.set _ _,by simp⟩;have e:over (rows.flatten.map C.f) (j*sz+k) (xs.map .f)=((rows.set j (over row k xs)).flatten).map .f:=by
  rw [←xI hg g m];simp [over]
 simp only [bf,h,atr,true_and,asi];rw [ba (by omega),e]
end
def alE(sz:Nat)(zs:List FC)(bytes:Nat):aK:=⟨[P.nat 0],[.tmp (P.nat 2)],.seq (.region [⟨D 2,.a7 (.k (.c (.f (.au)))),ab⟩] []) (.seq (.seq (.region [⟨D 3,.a7 (R 0),ab⟩,⟨D 4,.eq ag .sl (R 3) (.k (.c (.f (.au)))),ab⟩] [])
 (.cond (R 4) (.seq (.region [⟨D 2,.a7 (.k (.c (.f (.au)))),ab⟩] []) .ret) .skip)) (.seq (.region [⟨D 5,.bP sz zs 0 [],ab⟩,⟨D 6,.a7 (R 0),ab⟩,⟨D 7,.append sz bytes (R 5) (R 6),ab⟩,⟨D 2,.a7 (R 7),ab⟩] []) .ret))⟩
section
variable{tab:TB}{F sz bytes:Nat}{zs:List FC}{H:aj}{g:Tg}{rows:List (List FC)}
theorem xF{cs:List FC}{n:Nat}:CC H .sl (.c (.f (.fs cs n))) (.c (.f .au))=aa ag:=rfl
theorem ahm:CC H .sl (.c (.f .au)) (.c (.f .au))=aa ae:=rfl
theorem aoM:CC H .sl (.c (.f .es)) (.c (.f .au))=aa ag:=rfl
theorem ub(u:tab F=aa (alE sz zs bytes))(l:sz≠0)(v:cC sz rows)(j:bY rows.length bytes=ae) :
  ∃ r H',Ev tab (.fn F) [.c (.f (sl g rows))] H r H'∧∃ c J,r=.c c∧H'=H++J∧LR (H++J) c sz rows∧∀ i,bB c=aa i→H.length≤i:=by
 refine cJ (C:=fun r H'=>∃ c J,r=.c c∧H'=H++J∧LR (H++J) c sz rows∧∀ i,bB c=aa i→H.length≤i) u rfl fun Q m=>?_;apply ai;simp;apply ak;apply ai;cases rows with
 | nil=>
  cases g with
  | nil=>
   simp [sl,Tg.fc,ahm];refine aq (by simp) ?_;apply ai;simp;exact aB (m _ _ (.c (.f .au)) rfl (by simp [Km.results,bg]) ⟨_,[],rfl,by simp,.inl ⟨rfl,.inl rfl⟩,by simp [bB]⟩)
  | es=>
   simp [sl,Tg.fc,aoM];refine bp (by simp) ?_;apply ai;simp [cI,cX,bt,cS,l];exact aB (m _ _ (.c (.f .es)) rfl (by simp [Km.results,bg]) ⟨_,[],rfl,by simp,.inl ⟨rfl,.inr rfl⟩,by simp [bB]⟩)
  | fs=>
   simp [sl,Tg.fc,xF];refine bp (by simp) ?_;apply ai;simp [cI,cX,bt,cS,l];exact aB (m _ _ (.c (.f .es)) rfl (by simp [Km.results,bg]) ⟨_,[],rfl,by simp,.inl ⟨rfl,.inr rfl⟩,by simp [bB]⟩)
 | cons x r=>
  have d:cX H sz (.c (.f (.fs (x::r).flatten (x::r).length)))=aa ((x::r).length,(x::r).flatten.map .f):=by
   have q:=A5 (H:=H) (g:=.fs) v;have s:=Dy (H:=H) .fs (x::r);simp only [sl,aub,aso,if_false]at q s;simp only [cX,q,s]
  have b:bY (r.length+1) bytes=ae:=by simpa using j
  simp only [sl,aub,aso,if_false];simp [xF];refine bp (by simp) ?_;apply ai;simp only [asE,asX]at d;simp [cI,d,l,b];refine aB (m _ _ (.c (.sl H.length 0 (r.length+1) 0 0 sz)) rfl (by simp [Km.results,bg]) ⟨_,[.cj sz ((x::r).flatten.map .f) 0 0 .loc],rfl,by simp,.inr ⟨by simp,H.length,0,rfl,by simp [RB]⟩,by simp [bB]⟩)
end
end
section
open Go
theorem lT{H:aj}{sz:Nat}{g:Tg}{rows:List (List FC)}(j:cC sz rows):cX H sz (.c (.f (sl g rows)))=aa (rows.length,rows.flatten.map .f):=by
 have b:=A5 (H:=H) (g:=g) j;have d:=Dy (H:=H) g rows;have e:∀ s,sl g rows≠.str s:=fun s=>by cases rows<;>cases g<;>simp [sl,Tg.fc]
 generalize sl g rows=x at *;cases x<;>simp only [cX,b,d];exact absurd rfl (e _)
theorem LR.aqI{H:aj}{c:C}{sz:Nat}{rows rows':List (List FC)}(h:LR H c sz rows)(hg:cC sz rows)(nu:sz≠0)(l:cC sz rows'){bytes:Nat}(d:bY (rows.length+rows'.length) bytes=ae)(g:Tg) :
  ∃ c' H',cI H sz bytes (.c c) (.c (.f (sl g rows')))=aa (.c c',H')∧LR H' c' sz (rows++rows')∧Kb H H' c∧(bB c'=bB c∨bB c'=aa H.length):=by
 by_cases h0:rows'=[]
 ·subst h0;refine⟨c,H,?_,by simpa using h,Kb.refl H c,.inl rfl⟩;have s:=lT (H:=H) (g:=g) l;rcases h with⟨rfl,rfl | rfl⟩ | ⟨q,b,ep,rfl,h2⟩
  ·simp only [cI,s,nu,if_false];simp
  ·simp only [cI,s,nu,if_false];simp
  ·unfold RB at h2;simp only [cI,s,nu,if_false,h2,and_self,if_true,List.length_nil]
 have u:rows'.length≠0:=fun e=>h0 (as4.1 e);have j:=lT (H:=H) (g:=g) l;have x:=ct l;rcases h with⟨rfl,v⟩ | ⟨q,b,ep,rfl,h2⟩
 ·have d:bY rows'.length bytes=ae:=by simpa using d
  refine⟨.sl H.length 0 rows'.length 0 0 sz,H++[.cj sz (rows'.flatten.map .f) 0 0 .loc],?_,.inr ⟨by simpa using h0,H.length,0,by simp,?_⟩,Kb.push H _ c,.inr rfl⟩
  ·rcases v with rfl | rfl<;>simp [cI,j,d,nu,u]
  ·simp [RB]
 ·have m:rows.length*sz=rows.flatten.length:=(ct hg).symm;unfold RB at h2;refine⟨.sl b 0 (rows.length+rows'.length) 0 (ep+1) sz,H.set b (.cj sz (rows.flatten.map .f++rows'.flatten.map .f) 0 (ep+1) .loc),?_,.inr ⟨by simp [q],b,ep+1,by simp,?_⟩,⟨by simp,fun i y hy z=>?_⟩,.inl rfl⟩
  ·simp only [cI,j,nu,if_false,h2,and_self,if_true,u];rw [ba ⟨trivial,by rw [asi];exact m,by simp⟩,d];simp
  ·unfold RB;rw [IN (an h2)];simp
  ·have:b≠i:=by rintro rfl;exact z rfl
   rw [AI this];exact hy
end
section
set_option linter.unusedVariables false
open Go
abbrev yn(d:Nat)(op:da):aP:=⟨D d,op,ab⟩
abbrev ygm(d k g:Nat):aP:=⟨D d,.a7 (R k),G g ae⟩
abbrev ygl(d z k g:Nat):aP:=⟨D d,.load (aa z) (R k),G g ae⟩
abbrev ym(d k:Nat):aP:=⟨D d,.a7 (R k),ab⟩
abbrev yi(n:Int):Arg:=.k (.c (.f (.int .i64 n)))
abbrev yt:Arg:=.k (.c (.f (.bool ae)))
abbrev yf:Arg:=.k (.c (.f (.bool ag)))
abbrev ys(z a b:Nat):aP:=⟨ab,.store z (R a) (R b),ab⟩
abbrev yb(d:Nat)(o:BinOp)(a b:Nat):aP:=⟨D d,.bin o (R a) (R b),ab⟩
abbrev ya(d z a b:Nat):aP:=⟨D d,.bM z ab (R a) (R b),ab⟩
abbrev yl(d z a:Nat):aP:=⟨D d,.load (aa z) (R a),ab⟩
abbrev yr(l:List aP):aF:=.region l []
structure CA where
 pdq:Nat
 ins:Nat
 heap:Nat
 arq:Nat
 brk:Nat
 piv:Nat
 rev:Nat
 part:Nat
 peq:Nat
 pins:Nat
 arh:Nat
 med:Nat
 ord:Nat
 npt:Nat
 nxt:Nat
 len:Nat
 amL:Nat
 pU:Nat
 rot:Nat
 swr:Nat
section
variable(σ:CA)(sz:Nat)
def al4:aF:=yr [ym 37 0,ym 38 9,ym 39 0,ym 40 9,yn 41 (.bin .sub (R 40) (yi 1)),ym 42 0,ym 43 9,yn 44 (.bin .sub (R 43) (yi 1)),ya 45 sz 42 44,yl 46 sz 45,ym 47 0,ym 48 9,ya 49 sz 47 48,yl 50 sz 49,ya 51 sz 37 38,ys sz 51 46,ya 52 sz 39 41,ys sz 52 50]
def al5:aF:=yr [ym 35 9,yn 36 (.bin .sub (R 35) (yi 1)),ym 9 36]
def al3:aF:=.seq (.block 3 (al4 sz)) (al5)
def al2:aF:=.seq (.seq (yr [ym 18 9,ym 19 1,yb 20 .gtr 18 19,ym 21 20,ygm 22 3 21,ygm 23 0 21,ygm 24 9 21,⟨D 25,.bM sz ab (R 23) (R 24),G 21 ae⟩,ygl 26 sz 25 21,ygm 27 0 21,ygm 28 9 21,⟨D 29,.bin .sub (R 28) (yi 1),G 21 ae⟩,⟨D 30,.bM sz ab (R 27) (R 29),G 21 ae⟩,ygl 31 sz 30 21,⟨D 32,.cr (R 22) [R 26,R 31] ae,G 21 ae⟩,⟨D 33,.bin .lss (R 32) (yi 0),G 21 ae⟩,yn 34 (.pick (R 21) (R 33) yf)]) (.cond (R 34) .skip (.exit 2))) (al3 sz)
def al1:aF:=.seq (yr [ym 17 8,ym 9 17]) (.block 2 (.loop (al2 sz)))
def zp:aF:=yr [ym 15 8,yn 16 (.bin .add (R 15) (yi 1)),ym 8 16]
def aoZ:aF:=.seq (.block 1 (al1 sz)) (zp)
def Fj:aF:=.seq (.seq (yr [ym 12 8,ym 13 2,yb 14 .lss 12 13]) (.cond (R 14) .skip (.exit 0))) (aoZ sz)
def aoY:aF:=.seq (yr [ym 10 1,yn 11 (.bin .add (R 10) (yi 1)),ym 8 11]) (.block 0 (.loop (Fj sz)))
def ajr(σ:CA)(sz:Nat):aK:=⟨[P.nat 0,P.nat 1,P.nat 2,P.nat 3],[],(aoY sz)⟩
end
end
section
open Go
def Cv(tab:TB)(cv:V)(W:List FC→Prop)(c:List FC→List FC→Int):Prop:=
 ∀ x y,W x→W y→∀ H,∃ F b J,b5 cv [.a (x.map .f),.a (y.map .f)]=aa (.fn F,b)∧Ev tab (.fn F) b H (vi (c x y)) (H++J)
section
variable{W:List FC→Prop}{c:List FC→List FC→Int}{l:List (List FC)}
theorem jS.of_lt{i j:Nat}(hc:CS W c)(b:∀ r ∈ l,W r){x y:List FC}(d:l[i]?=aa x)(hy:l[j]?=aa y)(h:c x y<0):jS c l i j:=fun g m h1 h2=>by
 rw [d]at h1;rw [hy]at h2;cases h1;cases h2;exact hc.aoC (b _ (asp d)) (b _ (asp hy)) h
theorem jS.of_le{i j:Nat}{x y:List FC}(b:l[i]?=aa x)(hy:l[j]?=aa y)(h:¬ c y x<0):jS c l i j:=fun d g h1 h2=>by
 rw [b]at h1;rw [hy]at h2;cases h1;cases h2;exact h
theorem jS.get{l':List (List FC)}{i j b d:Nat}(h:jS c l i j)(h1:l'[b]?=l[i]?)(h2:l'[d]?=l[j]?):jS c l' b d:=fun x y g hy=>h x y (by rw [←h1];exact g) (by rw [←h2];exact hy)
def ZG(c:List FC→List FC→Int)(a i j:Nat)(l:List (List FC)):Prop:=∀ p q,a≤p→p<q→q≤i→q≠j→jS c l p q
theorem ZG.start{a i:Nat}(h:Up c a i l):ZG c a i i l:=fun p q h1 h2 h3 h4=>fun x y=>h p q x y h1 h2 (by omega)
theorem ZG.step{a i j:Nat}(hc:CS W c)(s:∀ r ∈ l,W r)(h:ZG c a i (j+1) l)(u:a≤j)(z:j+1≤i)(hi:i<l.length){x y:List FC}(v:l[j+1]?=aa x)(hy:l[j]?=aa y)(d:c x y<0):ZG c a i j (zZ l (j+1) j):=by
 intro p q h1 h2 h3 h4;have g:∀ k,(zZ l (j+1) j)[k]?=if k=j then l[j+1]? else if k=j+1 then l[j]? else l[k]?:=fun k=>nk (by omega) (by omega) k;by_cases q1:q=j+1
 ·subst q1;by_cases p1:p=j
  ·subst p1;exact(jS.of_lt hc s v hy d).get (by rw [g,ba rfl]) (by rw [g,aX (by omega),ba rfl])
  ·exact(h p j h1 (by omega) (by omega) (by omega)).get (by rw [g,aX (by omega),aX (by omega)]) (by rw [g,aX (by omega),ba rfl])
 ·have b:(zZ l (j+1) j)[q]?=l[q]?:=by rw [g,aX h4,aX q1]
  by_cases p1:p=j
  ·subst p1;exact(h (p+1) q (by omega) (by omega) h3 q1).get (by rw [g,ba rfl]) b
  by_cases m:p=j+1
  ·subst m;exact(h j q u (by omega) h3 q1).get (by rw [g,aX (by omega),ba rfl]) b
  ·exact(h p q h1 h2 h3 q1).get (by rw [g,aX p1,aX m]) b
theorem ZG.front{a i:Nat}(h:ZG c a i a l):Up c a (i+1) l:=fun p q x y h1 h2 h3=>h p q h1 h2 (by omega) (by omega) x y
theorem ZG.stop{a i j:Nat}(hc:CS W c)(d:∀ r ∈ l,W r)(h:ZG c a i (j+1) l)(g:a≤j)(m:j+1≤i)(hi:i<l.length)(b:jS c l j (j+1)):Up c a (i+1) l:=by
 intro p q x y h1 h2 h3;by_cases q1:q=j+1
 ·subst q1;by_cases p1:p=j
  ·subst p1;exact b x y
  ·exact((h p j h1 (by omega) (by omega) (by omega)).trans hc d b (by omega)) x y
 ·exact h p q h1 h2 (by omega) q1 x y
end
section
variable{tab:TB}{σ:CA}{sz:Nat}{H:aj}{b ep:Nat}{rows:List (List FC)}{cv:V}{W:List FC→Prop}{c:List FC→List FC→Int}
theorem RB.at(h:RB H b sz ep rows){i:Nat}(hi:i<rows.length):bA H sz ab (.c (.sl b 0 rows.length 0 ep sz)) (vi i)=aa (.c (.ptr b (i*sz) ep)):=by
 have:=h.idx (n:=rows.length) (c:=0) (k:=.i64) (o:=0) (i:=(i:Int)) (by omega) (by omega);rwa [asy,asN]at this
theorem RB.ldi(h:RB H b sz ep rows)(hg:cC sz rows){i:Nat}(hi:i<rows.length):aS H (aa sz) (.c (.ptr b (i*sz) ep))=aa (.a (rows[i].map .f)):=h.ldr hg (By hi)
theorem Du(hT:tab σ.ins=aa (ajr σ sz))(c_:Cv tab cv W c)(hc:CS W c){n a e:Nat}(hn:rows.length=n)(hl:n≤1000000000)(d:RB H b sz ep rows)(hg:cC sz rows)(hW:∀ r ∈ rows,W r)(e_:a≤e)(f7:e≤n) :
  ∃ r H',Ev tab (.fn σ.ins) [.c (.sl b 0 n 0 ep sz),vi a,vi e,cv] H r H'∧(r=.t []∧Fm b H H'∧∃ l',RB H' b sz ep l'∧iH a e rows l'∧Up c a e l'):=by
 refine cJ hT rfl fun Q hQ=>?_;apply ai;simp [aU (n:=(a:Int)+1)];refine aG ?_;refine cP (fun m s=>∃(i:Nat) (t:T) (U:aj) (l:List (List FC)),s=⟨t,[],U⟩∧m=n+1-i∧a+1≤i∧(i≤e∨i=a+1)∧t.g 0=.c (.sl b 0 n 0 ep sz)∧t.g 1=vi a∧t.g 2=vi e∧t.g 3=cv∧t.g 8=vi i ∧
  Fm b H U∧RB U b sz ep l∧iH a e rows l∧Up c a i l) _
  ⟨a+1,_,H,rows,rfl,rfl,by omega,.inr rfl,by simp,by simp,by simp,by simp,by simp,Fm.refl H,d,iH.refl _ _ _,Up.one (by omega)⟩ ?_
 rintro m s ⟨i,t,U,l,rfl,rfl,f8,hi,g0,B,K,L,E,v,d,g,b_⟩ ih;have A:=g.len;apply ak;apply ai;simp [E,K];by_cases b9:i<e
 case neg=>
  refine aD (by simp [b9]) ?_;refine bR (k':=[]) rfl ?_;exact cL (hQ _ _ _ rfl rfl ⟨rfl,v,l,d,g,b_.mono (aft _) (by omega)⟩)
 refine aq (by simp [b9]) (aO ?_);apply ak;refine aG ?_;apply ai;simp [E];refine aG ?_;refine cP (fun m s=>∃(j:Nat) (t:T) (O:aj) (q:List (List FC)),s=⟨t,[],O⟩∧j=m∧a≤j∧j≤i∧t.g 0=.c (.sl b 0 n 0 ep sz)∧t.g 1=vi a∧t.g 2=vi e∧t.g 3=cv∧t.g 8=vi i∧t.g 9=vi j ∧
  Fm b H O∧RB O b sz ep q∧iH a e rows q∧ZG c a i j q) i
  ⟨i,_,U,l,rfl,rfl,by omega,by omega,by simp [g0],by simp [B],by simp [K],by simp [L],by simp [E],by simp,v,d,g,ZG.start b_⟩ ?_
 rintro m s ⟨j,t,O,q,rfl,rfl,f_,a_,g0,B,K,L,E,X,v,d,g,z⟩ d_;have A:=g.len;have x:=g.wK hg;have I:∀ r ∈ q,W r:=fun r hr=>hW r (g.1.mem_iff.1 hr);have stop:Up c a (i+1) q→∀ t:T,t.g 0=.c (.sl b 0 n 0 ep sz)→t.g 1=vi a→t.g 2=vi e→t.g 3=cv→t.g 8=vi i→∀ S,Fm b H S→RB S b sz ep q →
   WP tab σ.ins ab [.inBlock 1,.code (zp),.inLoop (Fj sz),.inBlock 0] ⟨t,[],S⟩ Q:=by
  intro hp t g0 B K L E S v d;refine aw (al (.inl rfl) ?_);simp [E,aU (n:=(i:Int)+1)];exact ih (n+1-(i+1)) _ (by omega) ⟨i+1,_,S,q,rfl,rfl,by omega,.inl (by omega),by simp [g0],by simp [B],by simp [K],by simp [L],by simp,v,d,g,hp⟩
 apply ak;apply ai;by_cases hj:j=a
 ·subst hj;simp [X,B];refine aD (by simp) ?_;refine bR (k':=[.inBlock 1,.code (zp),.inLoop (Fj sz),.inBlock 0]) rfl ?_;exact stop z.front _ (by simp [g0]) (by simp [B]) (by simp [K]) (by simp [L]) (by simp [E]) _ v d
 obtain⟨k,rfl⟩:∃ k,j=k+1:=⟨j-1,by omega⟩
 have N:k+1<q.length:=by omega
 have c1:((k+1:Nat):Int)=(k:Int)+1:=by omega
 have M:=d.at N;have i0:=d.at (show k<q.length by omega);have l1:=d.ldi x N;have l0:=d.ldi x (show k<q.length by omega);rw [A,hn]at M i0;rw [c1]at M X;obtain⟨F,ar,J,Z,d9⟩:=c_ q[k+1] q[k] (I _ (anc _)) (I _ (anc _)) O;have he:=d9.eq;have gt:(a:Int)<(k:Int)+1:=by omega
 simp [X,g0,B,L,gt,M,i0,l1,l0,Z,he,-av,aU (n:=(k:Int))];by_cases y:c q[k+1] q[k]<0
 case neg=>
  refine aD (by simp [y]) ?_;refine bR (k':=[.inBlock 1,.code (zp),.inLoop (Fj sz),.inBlock 0]) rfl ?_;exact stop (z.stop hc I (by omega) a_ (by omega) (jS.of_le (By (by omega)) (By N) y)) _ (by simp [g0]) (by simp [B]) (by simp [K]) (by simp [L]) (by simp [E]) _ (v.trans (Fm.push _ _)) (d.push _)
 refine aq (by simp [y]) (aO ?_);have w1:q[k+1].length=sz:=x _ (anc _);have w0:q[k].length=sz:=x _ (anc _);have u:=d.push J;obtain⟨HJ,Y⟩:=aI (O++J);rw [←Y]at u ⊢;have a8:Fm b H HJ:=by rw [Y];exact v.trans (Fm.push _ _)
 have M:=u.at N;have i0:=u.at (show k<q.length by omega);have l1:=u.ldi x N;have l0:=u.ldi x (show k<q.length by omega);obtain⟨S,H4,s1,r1,s2,r2,f2⟩:=u.swap x N (show k<q.length by omega);have i2:=r1.at (show k<(q.set (k+1) q[k]).length by simp;omega);rw [ass]at i2;rw [A,hn]at M i0 i2;rw [c1]at M;apply ak;refine aG ?_;refine al (.inl rfl) ?_;simp [X,g0,M,i0,i2,l1,l0,s1,s2,w1,w0,-av,-bf,aU (n:=(k:Int))];refine aw ?_;refine al (.inl rfl) ?_;simp [X,aU (n:=(k:Int))];exact d_ k _ (by omega) ⟨k,_,H4,zZ q (k+1) k,rfl,rfl,by omega,by omega,by simp [g0],by simp [B],by simp [K],by simp [L],by simp [E],by simp,a8.trans f2,r2,
  g.trans (tF (by omega) (by omega) (by omega) (by omega) (by omega)),z.step hc I (by omega) a_ (by omega) (By N) (By (by omega)) y⟩
end
end
section
open Go
section
variable{tab:TB}{σ:CA}{sz:Nat}{H:aj}{b ep:Nat}{rows:List (List FC)}{cv:V}{W:List FC→Prop}{c:List FC→List FC→Int}
theorem RB.zZ(h:RB H b sz ep rows)(hg:cC sz rows){n i j:Nat}(s:rows.length=n)(hi:i<n)(l:j<n):∃(x y:List FC) (d g:aj),rows[i]?=aa x∧rows[j]?=aa y ∧
  bA H sz ab (.c (.sl b 0 n 0 ep sz)) (vi i)=aa (.c (.ptr b (i*sz) ep))∧bA H sz ab (.c (.sl b 0 n 0 ep sz)) (vi j)=aa (.c (.ptr b (j*sz) ep)) ∧
  aS H (aa sz) (.c (.ptr b (i*sz) ep))=aa (.a (x.map .f))∧aS H (aa sz) (.c (.ptr b (j*sz) ep))=aa (.a (y.map .f))∧x.length=sz∧y.length=sz ∧
  de H (.ptr b (i*sz) ep) (y.map .f)=aa d∧bA d sz ab (.c (.sl b 0 n 0 ep sz)) (vi j)=aa (.c (.ptr b (j*sz) ep))∧de d (.ptr b (j*sz) ep) (x.map .f)=aa g∧RB g b sz ep (zZ rows i j)∧Fm b H g:=by
 subst s;obtain⟨d,g,v,r1,z,u,q⟩:=h.swap hg hi l;have m:=r1.at (show j<(rows.set i rows[j]).length by simpa using l);rw [ass]at m;exact⟨rows[i],rows[j],d,g,By hi,By l,h.at hi,h.at l,h.ldi hg hi,h.ldi hg l,hg _ (anc _),hg _ (anc _),v,m,z,u,q⟩
theorem RB.ask(h:RB H b sz ep rows)(hg:cC sz rows)(l:Cv tab cv W c)(g:∀ r ∈ rows,W r){n i j:Nat}(q:rows.length=n)(hi:i<n)(m:j<n):∃(x y:List FC) (F:Nat) (d:List V) (J:aj),rows[i]?=aa x∧rows[j]?=aa y ∧
  bA H sz ab (.c (.sl b 0 n 0 ep sz)) (vi i)=aa (.c (.ptr b (i*sz) ep))∧bA H sz ab (.c (.sl b 0 n 0 ep sz)) (vi j)=aa (.c (.ptr b (j*sz) ep)) ∧
  aS H (aa sz) (.c (.ptr b (i*sz) ep))=aa (.a (x.map .f))∧aS H (aa sz) (.c (.ptr b (j*sz) ep))=aa (.a (y.map .f)) ∧
  b5 cv [.a (x.map .f),.a (y.map .f)]=aa (.fn F,d)∧Ev tab (.fn F) d H=E2 (vi (c x y)) (H++J)∧W x∧W y:=by
 subst q;obtain⟨F,d,J,h1,h2⟩:=l rows[i] rows[j] (g _ (anc _)) (g _ (anc _)) H;exact⟨rows[i],rows[j],F,d,J,By hi,By m,h.at hi,h.at m,h.ldi hg hi,h.ldi hg m,h1,h2.eq,g _ (anc _),g _ (anc _)⟩
def Kp(H H':aj):Prop:=H.length≤H'.length∧∀ b:Nat,b<H.length→H'[b]?=H[b]?
theorem Kp.refl(H:aj):Kp H H:=⟨aft _,fun _ _=>rfl⟩
theorem Kp.push(H J:aj):Kp H (H++J):=⟨by simp,fun b l=>AT l⟩
theorem Kp.next{H H' b:aj}{p:Nat}(h:Kp H H')(j:H.length≤p)(g:Fm p H' b):Kp H b:=⟨asz h.1 g.1,fun d l=>(g.2 d (by omega) (asJ l h.1)).trans (h.2 d l)⟩
end
end
section
set_option linter.unusedVariables false
open Go
section
variable(σ:CA)(sz:Nat)
def aiL:aF:=.region [⟨D 20,.a7 (R 8),ab⟩,⟨D 21,.a7 (R 6),ab⟩,⟨D 22,.bin .add (R 20) (R 21),ab⟩,⟨D 8,.a7 (R 22),ab⟩] []
def aiK:aF:=.seq (.region [⟨D 19,.a7 (R 8),ab⟩,⟨D 7,.a7 (R 19),ab⟩] []) (aiL)
def aiJ:aF:=.seq (.region [⟨D 14,.a7 (R 0),ab⟩,⟨D 15,.a7 (R 7),ab⟩,⟨D 16,.a7 (R 8),ab⟩,⟨D 17,.a7 (R 2),ab⟩,⟨D 18,.call σ.ins [(R 14),(R 15),(R 16),(R 17)] ae,ab⟩] []) (aiK)
def amP:aF:=.seq (.seq (.region [⟨D 11,.a7 (R 8),ab⟩,⟨D 12,.a7 (R 1),ab⟩,⟨D 13,.bin .leq (R 11) (R 12),ab⟩] []) (.cond (R 13) .skip (.exit 0))) (.block 1 (aiJ σ))
def aiR:aF:=.region [⟨D 45,.a7 (R 8),ab⟩,⟨D 46,.a7 (R 6),ab⟩,⟨D 47,.bin .mul (.k (.c (.f (.int .i64 2)))) (R 46),ab⟩,⟨D 48,.bin .add (R 45) (R 47),ab⟩,⟨D 8,.a7 (R 48),ab⟩] []
def aiQ:aF:=.seq (.region [⟨D 44,.a7 (R 8),ab⟩,⟨D 7,.a7 (R 44),ab⟩] []) (aiR)
def aiP:aF:=.seq (.region [⟨D 36,.a7 (R 0),ab⟩,⟨D 37,.a7 (R 7),ab⟩,⟨D 38,.a7 (R 7),ab⟩,⟨D 39,.a7 (R 6),ab⟩,⟨D 40,.bin .add (R 38) (R 39),ab⟩,⟨D 41,.a7 (R 8),ab⟩,⟨D 42,.a7 (R 2),ab⟩,⟨D 43,.call σ.pU [(R 36),(R 37),(R 40),(R 41),(R 42)] ae,ab⟩] []) (aiQ)
def aiO:aF:=.seq (.seq (.region [⟨D 33,.a7 (R 8),ab⟩,⟨D 34,.a7 (R 1),ab⟩,⟨D 35,.bin .leq (R 33) (R 34),ab⟩] []) (.cond (R 35) .skip (.exit 4))) (.block 5 (aiP σ))
def aiT:aF:=.region [⟨D 55,.a7 (R 0),ab⟩,⟨D 56,.a7 (R 7),ab⟩,⟨D 57,.a7 (R 9),ab⟩,⟨D 58,.a7 (R 1),ab⟩,⟨D 59,.a7 (R 2),ab⟩,⟨D 60,.call σ.pU [(R 55),(R 56),(R 57),(R 58),(R 59)] ae,ab⟩] []
def aiS:aF:=.seq (.region [⟨D 52,.a7 (R 9),ab⟩,⟨D 53,.a7 (R 1),ab⟩,⟨D 54,.bin .lss (R 52) (R 53),ab⟩] []) (.cond (R 54) (aiT σ) .skip)
def aiU:aF:=.region [⟨D 61,.a7 (R 6),ab⟩,⟨D 62,.bin .mul (R 61) (.k (.c (.f (.int .i64 2)))),ab⟩,⟨D 6,.a7 (R 62),ab⟩] []
def F1:aF:=.seq (.seq (.region [⟨D 49,.a7 (R 7),ab⟩,⟨D 50,.a7 (R 6),ab⟩,⟨D 51,.bin .add (R 49) (R 50),ab⟩,⟨D 9,.a7 (R 51),ab⟩] []) (aiS σ)) (aiU)
def aiN:aF:=.seq (.block 4 (.loop (aiO σ))) (F1 σ)
def aiM:aF:=.seq (.region [⟨D 31,.a7 (R 6),ab⟩,⟨D 32,.bin .mul (.k (.c (.f (.int .i64 2)))) (R 31),ab⟩,⟨D 7,.a7 (.k (.c (.f (.int .i64 0)))),ab⟩,⟨D 8,.a7 (R 32),ab⟩] []) (aiN σ)
def F0:aF:=.seq (.seq (.region [⟨D 28,.a7 (R 6),ab⟩,⟨D 29,.a7 (R 1),ab⟩,⟨D 30,.bin .lss (R 28) (R 29),ab⟩] []) (.cond (R 30) .skip (.exit 2))) (.block 3 (aiM σ))
def zM:aF:=.seq (.region [⟨D 23,.a7 (R 0),ab⟩,⟨D 24,.a7 (R 7),ab⟩,⟨D 25,.a7 (R 1),ab⟩,⟨D 26,.a7 (R 2),ab⟩,⟨D 27,.call σ.ins [(R 23),(R 24),(R 25),(R 26)] ae,ab⟩] []) (.block 2 (.loop (F0 σ)))
def amO:aF:=.seq (.block 0 (.loop (amP σ))) (zM σ)
def amN:aF:=.seq (.region [⟨D 10,.a7 (R 6),ab⟩,⟨D 7,.a7 (.k (.c (.f (.int .i64 0)))),ab⟩,⟨D 8,.a7 (R 10),ab⟩] []) (amO σ)
def amM:aF:=.seq (.region [⟨D 6,.a7 (.k (.c (.f (.int .i64 20)))),ab⟩] []) (amN σ)
def amQ(σ:CA)(sz:Nat):aK:=⟨[P.nat 0,P.nat 1,P.nat 2],[],(amM σ)⟩
end
section
variable(σ:CA)(sz:Nat)
def aic:aF:=.region [⟨D 51,.a7 (R 12),ab⟩,⟨D 52,.bin .add (R 51) (.k (.c (.f (.int .i64 1)))),ab⟩,⟨D 10,.a7 (R 52),ab⟩] []
def aid:aF:=.region [⟨D 53,.a7 (R 12),ab⟩,⟨D 11,.a7 (R 53),ab⟩] []
def aib:aF:=.seq (.region [⟨D 40,.a7 (R 4),ab⟩,⟨D 41,.a7 (R 0),ab⟩,⟨D 42,.a7 (R 12),ab⟩,⟨D 43,.bM sz ab (R 41) (R 42),ab⟩,⟨D 44,.load (aa sz) (R 43),ab⟩,⟨D 45,.a7 (R 0),ab⟩,⟨D 46,.a7 (R 1),ab⟩,⟨D 47,.bM sz ab (R 45) (R 46),ab⟩,⟨D 48,.load (aa sz) (R 47),ab⟩,⟨D 49,.cr (R 40) [(R 44),(R 48)] ae,ab⟩,⟨D 50,.bin .lss (R 49) (.k (.c (.f (.int .i64 0)))),ab⟩] []) (.cond (R 50) aic aid)
def aia:aF:=.seq (.region [⟨D 34,.a7 (R 10),ab⟩,⟨D 35,.a7 (R 11),ab⟩,⟨D 36,.bin .add (R 34) (R 35),ab⟩,⟨D 37,.fP .u64 (R 36),ab⟩,⟨D 38,.bin .shr (R 37) (.k (.c (.f (.int .u64 1)))),ab⟩,⟨D 39,.fP .i64 (R 38),ab⟩,⟨D 12,.a7 (R 39),ab⟩] []) (aib sz)
def ah_:aF:=.seq (.seq (.region [⟨D 31,.a7 (R 10),ab⟩,⟨D 32,.a7 (R 11),ab⟩,⟨D 33,.bin .lss (R 31) (R 32),ab⟩] []) (.cond (R 33) .skip (.exit 0))) (.block 1 (aia sz))
def aih:aF:=.region [⟨D 61,.a7 (R 0),ab⟩,⟨D 62,.a7 (R 13),ab⟩,⟨D 63,.a7 (R 0),ab⟩,⟨D 64,.a7 (R 13),ab⟩,⟨D 65,.bin .add (R 64) (.k (.c (.f (.int .i64 1)))),ab⟩,⟨D 66,.a7 (R 0),ab⟩,⟨D 67,.a7 (R 13),ab⟩,⟨D 68,.bin .add (R 67) (.k (.c (.f (.int .i64 1)))),ab⟩,⟨D 69,.bM sz ab (R 66) (R 68),ab⟩,⟨D 70,.load (aa sz) (R 69),ab⟩,⟨D 71,.a7 (R 0),ab⟩,⟨D 72,.a7 (R 13),ab⟩,⟨D 73,.bM sz ab (R 71) (R 72),ab⟩,⟨D 74,.load (aa sz) (R 73),ab⟩,⟨D 75,.bM sz ab (R 61) (R 62),ab⟩,⟨ab,.store sz (R 75) (R 70),ab⟩,⟨D 76,.bM sz ab (R 63) (R 65),ab⟩,⟨ab,.store sz (R 76) (R 74),ab⟩] []
def aii:aF:=.region [⟨D 59,.a7 (R 13),ab⟩,⟨D 60,.bin .add (R 59) (.k (.c (.f (.int .i64 1)))),ab⟩,⟨D 13,.a7 (R 60),ab⟩] []
def aif:aF:=.seq (.block 3 (aih sz)) (aii)
def aie:aF:=.seq (.seq (.region [⟨D 55,.a7 (R 13),ab⟩,⟨D 56,.a7 (R 10),ab⟩,⟨D 57,.bin .sub (R 56) (.k (.c (.f (.int .i64 1)))),ab⟩,⟨D 58,.bin .lss (R 55) (R 57),ab⟩] []) (.cond (R 58) .skip (.exit 2))) (aif sz)
def FU:aF:=.seq (.seq (.region [⟨D 54,.a7 (R 1),ab⟩,⟨D 13,.a7 (R 54),ab⟩] []) (.block 2 (.loop (aie sz)))) .ret
def amJ:aF:=.seq (.block 0 (.loop (ah_ sz))) (FU sz)
def amI:aF:=.seq (.region [⟨D 30,.a7 (R 3),ab⟩,⟨D 11,.a7 (R 30),ab⟩] []) (amJ sz)
def ab5:aF:=.seq (.region [⟨D 29,.a7 (R 2),ab⟩,⟨D 10,.a7 (R 29),ab⟩] []) (amI sz)
def aip:aF:=.region [⟨D 104,.a7 (R 16),ab⟩,⟨D 105,.bin .add (R 104) (.k (.c (.f (.int .i64 1)))),ab⟩,⟨D 14,.a7 (R 105),ab⟩] []
def aiq:aF:=.region [⟨D 106,.a7 (R 16),ab⟩,⟨D 15,.a7 (R 106),ab⟩] []
def aio:aF:=.seq (.region [⟨D 92,.a7 (R 4),ab⟩,⟨D 93,.a7 (R 0),ab⟩,⟨D 94,.a7 (R 2),ab⟩,⟨D 95,.bM sz ab (R 93) (R 94),ab⟩,⟨D 96,.load (aa sz) (R 95),ab⟩,⟨D 97,.a7 (R 0),ab⟩,⟨D 98,.a7 (R 16),ab⟩,⟨D 99,.bM sz ab (R 97) (R 98),ab⟩,⟨D 100,.load (aa sz) (R 99),ab⟩,⟨D 101,.cr (R 92) [(R 96),(R 100)] ae,ab⟩,⟨D 102,.bin .lss (R 101) (.k (.c (.f (.int .i64 0)))),ab⟩,⟨D 103,.un .not (R 102),ab⟩] []) (.cond (R 103) aip aiq)
def ain:aF:=.seq (.region [⟨D 86,.a7 (R 14),ab⟩,⟨D 87,.a7 (R 15),ab⟩,⟨D 88,.bin .add (R 86) (R 87),ab⟩,⟨D 89,.fP .u64 (R 88),ab⟩,⟨D 90,.bin .shr (R 89) (.k (.c (.f (.int .u64 1)))),ab⟩,⟨D 91,.fP .i64 (R 90),ab⟩,⟨D 16,.a7 (R 91),ab⟩] []) (aio sz)
def aim:aF:=.seq (.seq (.region [⟨D 83,.a7 (R 14),ab⟩,⟨D 84,.a7 (R 15),ab⟩,⟨D 85,.bin .lss (R 83) (R 84),ab⟩] []) (.cond (R 85) .skip (.exit 4))) (.block 5 (ain sz))
def ait:aF:=.region [⟨D 113,.a7 (R 0),ab⟩,⟨D 114,.a7 (R 17),ab⟩,⟨D 115,.a7 (R 0),ab⟩,⟨D 116,.a7 (R 17),ab⟩,⟨D 117,.bin .sub (R 116) (.k (.c (.f (.int .i64 1)))),ab⟩,⟨D 118,.a7 (R 0),ab⟩,⟨D 119,.a7 (R 17),ab⟩,⟨D 120,.bin .sub (R 119) (.k (.c (.f (.int .i64 1)))),ab⟩,⟨D 121,.bM sz ab (R 118) (R 120),ab⟩,⟨D 122,.load (aa sz) (R 121),ab⟩,⟨D 123,.a7 (R 0),ab⟩,⟨D 124,.a7 (R 17),ab⟩,⟨D 125,.bM sz ab (R 123) (R 124),ab⟩,⟨D 126,.load (aa sz) (R 125),ab⟩,⟨D 127,.bM sz ab (R 113) (R 114),ab⟩,⟨ab,.store sz (R 127) (R 122),ab⟩,⟨D 128,.bM sz ab (R 115) (R 117),ab⟩,⟨ab,.store sz (R 128) (R 126),ab⟩] []
def aiu:aF:=.region [⟨D 111,.a7 (R 17),ab⟩,⟨D 112,.bin .sub (R 111) (.k (.c (.f (.int .i64 1)))),ab⟩,⟨D 17,.a7 (R 112),ab⟩] []
def ais:aF:=.seq (.block 7 (ait sz)) (aiu)
def air:aF:=.seq (.seq (.region [⟨D 108,.a7 (R 17),ab⟩,⟨D 109,.a7 (R 14),ab⟩,⟨D 110,.bin .gtr (R 108) (R 109),ab⟩] []) (.cond (R 110) .skip (.exit 6))) (ais sz)
def FY:aF:=.seq (.seq (.region [⟨D 107,.a7 (R 2),ab⟩,⟨D 17,.a7 (R 107),ab⟩] []) (.block 6 (.loop (air sz)))) .ret
def ail:aF:=.seq (.block 4 (.loop (aim sz))) (FY sz)
def aik:aF:=.seq (.region [⟨D 82,.a7 (R 2),ab⟩,⟨D 15,.a7 (R 82),ab⟩] []) (ail sz)
def FX:aF:=.seq (.region [⟨D 81,.a7 (R 1),ab⟩,⟨D 14,.a7 (R 81),ab⟩] []) (aik sz)
def aiA:aF:=.region [⟨D 144,.a7 (R 18),ab⟩,⟨D 21,.a7 (R 144),ab⟩] []
def aiz:aF:=.seq (.region [⟨D 141,.a7 (R 19),ab⟩,⟨D 142,.a7 (R 3),ab⟩,⟨D 143,.bin .sub (R 141) (R 142),ab⟩,⟨D 20,.a7 (R 143),ab⟩] []) (aiA)
def aiC:aF:=.region [⟨D 146,.a7 (R 2),ab⟩,⟨D 21,.a7 (R 146),ab⟩] []
def aiB:aF:=.seq (.region [⟨D 145,.a7 (R 1),ab⟩,⟨D 20,.a7 (R 145),ab⟩] []) (aiC)
def abZ:aF:=.region [⟨D 172,.a7 (R 23),ab⟩,⟨D 173,.bin .add (R 172) (.k (.c (.f (.int .i64 1)))),ab⟩,⟨D 20,.a7 (R 173),ab⟩] []
def ab0:aF:=.region [⟨D 174,.a7 (R 23),ab⟩,⟨D 21,.a7 (R 174),ab⟩] []
def abY:aF:=.seq (.region [⟨D 158,.a7 (R 4),ab⟩,⟨D 159,.a7 (R 0),ab⟩,⟨D 160,.a7 (R 22),ab⟩,⟨D 161,.a7 (R 23),ab⟩,⟨D 162,.bin .sub (R 160) (R 161),ab⟩,⟨D 163,.bM sz ab (R 159) (R 162),ab⟩,⟨D 164,.load (aa sz) (R 163),ab⟩,⟨D 165,.a7 (R 0),ab⟩,⟨D 166,.a7 (R 23),ab⟩,⟨D 167,.bM sz ab (R 165) (R 166),ab⟩,⟨D 168,.load (aa sz) (R 167),ab⟩,⟨D 169,.cr (R 158) [(R 164),(R 168)] ae,ab⟩,⟨D 170,.bin .lss (R 169) (.k (.c (.f (.int .i64 0)))),ab⟩,⟨D 171,.un .not (R 170),ab⟩] []) (.cond (R 171) abZ ab0)
def aiF:aF:=.seq (.region [⟨D 152,.a7 (R 20),ab⟩,⟨D 153,.a7 (R 21),ab⟩,⟨D 154,.bin .add (R 152) (R 153),ab⟩,⟨D 155,.fP .u64 (R 154),ab⟩,⟨D 156,.bin .shr (R 155) (.k (.c (.f (.int .u64 1)))),ab⟩,⟨D 157,.fP .i64 (R 156),ab⟩,⟨D 23,.a7 (R 157),ab⟩] []) (abY sz)
def aiE:aF:=.seq (.seq (.region [⟨D 149,.a7 (R 20),ab⟩,⟨D 150,.a7 (R 21),ab⟩,⟨D 151,.bin .lss (R 149) (R 150),ab⟩] []) (.cond (R 151) .skip (.exit 8))) (.block 9 (aiF sz))
def ab2:aF:=.region [⟨D 186,.a7 (R 0),ab⟩,⟨D 187,.a7 (R 20),ab⟩,⟨D 188,.a7 (R 2),ab⟩,⟨D 189,.a7 (R 24),ab⟩,⟨D 190,.a7 (R 4),ab⟩,⟨D 191,.call σ.rot [(R 186),(R 187),(R 188),(R 189),(R 190)] ae,ab⟩] []
def ab3:aF:=.region [⟨D 200,.a7 (R 0),ab⟩,⟨D 201,.a7 (R 1),ab⟩,⟨D 202,.a7 (R 20),ab⟩,⟨D 203,.a7 (R 18),ab⟩,⟨D 204,.a7 (R 4),ab⟩,⟨D 205,.call σ.pU [(R 200),(R 201),(R 202),(R 203),(R 204)] ae,ab⟩] []
def ab4:aF:=.region [⟨D 214,.a7 (R 0),ab⟩,⟨D 215,.a7 (R 18),ab⟩,⟨D 216,.a7 (R 24),ab⟩,⟨D 217,.a7 (R 3),ab⟩,⟨D 218,.a7 (R 4),ab⟩,⟨D 219,.call σ.pU [(R 214),(R 215),(R 216),(R 217),(R 218)] ae,ab⟩] []
def Ch:aF:=.seq (.region [⟨D 206,.a7 (R 18),ab⟩,⟨D 207,.a7 (R 24),ab⟩,⟨D 208,.bin .lss (R 206) (R 207),ab⟩,⟨D 209,.a7 (R 208),ab⟩,ygm 210 24 209,ygm 211 3 209,⟨D 212,.bin .lss (R 210) (R 211),G 209 ae⟩,⟨D 213,.pick (R 209) (R 212) (.k (.c (.f (.bool ag)))),ab⟩] []) (.cond (R 213) (ab4 σ) .skip)
def Cg:aF:=.seq (.seq (.region [⟨D 192,.a7 (R 1),ab⟩,⟨D 193,.a7 (R 20),ab⟩,⟨D 194,.bin .lss (R 192) (R 193),ab⟩,⟨D 195,.a7 (R 194),ab⟩,ygm 196 20 195,ygm 197 18 195,⟨D 198,.bin .lss (R 196) (R 197),G 195 ae⟩,⟨D 199,.pick (R 195) (R 198) (.k (.c (.f (.bool ag)))),ab⟩] []) (.cond (R 199) (ab3 σ) .skip)) (Ch σ)
def ab1:aF:=.seq (.seq (.region [⟨D 178,.a7 (R 20),ab⟩,⟨D 179,.a7 (R 2),ab⟩,⟨D 180,.bin .lss (R 178) (R 179),ab⟩,⟨D 181,.a7 (R 180),ab⟩,ygm 182 2 181,ygm 183 24 181,⟨D 184,.bin .lss (R 182) (R 183),G 181 ae⟩,⟨D 185,.pick (R 181) (R 184) (.k (.c (.f (.bool ag)))),ab⟩] []) (.cond (R 185) (ab2 σ) .skip)) (Cg σ)
def vZ:aF:=.seq (.region [⟨D 175,.a7 (R 19),ab⟩,⟨D 176,.a7 (R 20),ab⟩,⟨D 177,.bin .sub (R 175) (R 176),ab⟩,⟨D 24,.a7 (R 177),ab⟩] []) (ab1 σ)
def aiD:aF:=.seq (.block 8 (.loop (aiE sz))) (vZ σ)
def FZ:aF:=.seq (.region [⟨D 147,.a7 (R 19),ab⟩,⟨D 148,.bin .sub (R 147) (.k (.c (.f (.int .i64 1)))),ab⟩,⟨D 22,.a7 (R 148),ab⟩] []) (aiD σ sz)
def aiy:aF:=.seq (.seq (.region [⟨D 138,.a7 (R 2),ab⟩,⟨D 139,.a7 (R 18),ab⟩,⟨D 140,.bin .gtr (R 138) (R 139),ab⟩] []) (.cond (R 140) aiz aiB)) (FZ σ sz)
def aix:aF:=.seq (.region [⟨D 20,.a7 (.k (.c (.f (.int .i64 0)))),ab⟩,⟨D 21,.a7 (.k (.c (.f (.int .i64 0)))),ab⟩] []) (aiy σ sz)
def aiw:aF:=.seq (.region [⟨D 135,.a7 (R 18),ab⟩,⟨D 136,.a7 (R 2),ab⟩,⟨D 137,.bin .add (R 135) (R 136),ab⟩,⟨D 19,.a7 (R 137),ab⟩] []) (aix σ sz)
def aiv:aF:=.seq (.region [⟨D 129,.a7 (R 1),ab⟩,⟨D 130,.a7 (R 3),ab⟩,⟨D 131,.bin .add (R 129) (R 130),ab⟩,⟨D 132,.fP .u64 (R 131),ab⟩,⟨D 133,.bin .shr (R 132) (.k (.c (.f (.int .u64 1)))),ab⟩,⟨D 134,.fP .i64 (R 133),ab⟩,⟨D 18,.a7 (R 134),ab⟩] []) (aiw σ sz)
def aij:aF:=.seq (.seq (.region [⟨D 77,.a7 (R 3),ab⟩,⟨D 78,.a7 (R 2),ab⟩,⟨D 79,.bin .sub (R 77) (R 78),ab⟩,⟨D 80,.bin .eql (R 79) (.k (.c (.f (.int .i64 1)))),ab⟩] []) (.cond (R 80) (FX sz) .skip)) (aiv σ sz)
def amH:aF:=.seq (.seq (.region [⟨D 25,.a7 (R 2),ab⟩,⟨D 26,.a7 (R 1),ab⟩,⟨D 27,.bin .sub (R 25) (R 26),ab⟩,⟨D 28,.bin .eql (R 27) (.k (.c (.f (.int .i64 1)))),ab⟩] []) (.cond (R 28) (ab5 sz) .skip)) (aij σ sz)
def ab6(σ:CA)(sz:Nat):aK:=⟨[P.nat 0,P.nat 1,P.nat 2,P.nat 3,P.nat 4],[],(amH σ sz)⟩
end
section
variable(σ:CA)(sz:Nat)
def amC:aF:=.region [⟨D 32,.a7 (R 10),ab⟩,⟨D 33,.a7 (R 11),ab⟩,⟨D 34,.bin .sub (R 32) (R 33),ab⟩,⟨D 10,.a7 (R 34),ab⟩] []
def amB:aF:=.seq (.region [⟨D 24,.a7 (R 0),ab⟩,⟨D 25,.a7 (R 2),ab⟩,⟨D 26,.a7 (R 10),ab⟩,⟨D 27,.bin .sub (R 25) (R 26),ab⟩,⟨D 28,.a7 (R 2),ab⟩,⟨D 29,.a7 (R 11),ab⟩,⟨D 30,.a7 (R 4),ab⟩,⟨D 31,.call σ.swr [(R 24),(R 27),(R 28),(R 29),(R 30)] ae,ab⟩] []) (amC)
def amE:aF:=.region [⟨D 47,.a7 (R 11),ab⟩,⟨D 48,.a7 (R 10),ab⟩,⟨D 49,.bin .sub (R 47) (R 48),ab⟩,⟨D 11,.a7 (R 49),ab⟩] []
def amD:aF:=.seq (.region [⟨D 35,.a7 (R 0),ab⟩,⟨D 36,.a7 (R 2),ab⟩,⟨D 37,.a7 (R 10),ab⟩,⟨D 38,.bin .sub (R 36) (R 37),ab⟩,⟨D 39,.a7 (R 2),ab⟩,⟨D 40,.a7 (R 11),ab⟩,⟨D 41,.bin .add (R 39) (R 40),ab⟩,⟨D 42,.a7 (R 10),ab⟩,⟨D 43,.bin .sub (R 41) (R 42),ab⟩,⟨D 44,.a7 (R 10),ab⟩,⟨D 45,.a7 (R 4),ab⟩,⟨D 46,.call σ.swr [(R 35),(R 38),(R 43),(R 44),(R 45)] ae,ab⟩] []) (amE)
def amA:aF:=.seq (.region [⟨D 21,.a7 (R 10),ab⟩,⟨D 22,.a7 (R 11),ab⟩,⟨D 23,.bin .gtr (R 21) (R 22),ab⟩] []) (.cond (R 23) (amB σ) (amD σ))
def apv:aF:=.seq (.seq (.region [⟨D 18,.a7 (R 10),ab⟩,⟨D 19,.a7 (R 11),ab⟩,⟨D 20,.bin .neq (R 18) (R 19),ab⟩] []) (.cond (R 20) .skip (.exit 0))) (.block 1 (amA σ))
def abF:aF:=.region [⟨D 50,.a7 (R 0),ab⟩,⟨D 51,.a7 (R 2),ab⟩,⟨D 52,.a7 (R 10),ab⟩,⟨D 53,.bin .sub (R 51) (R 52),ab⟩,⟨D 54,.a7 (R 2),ab⟩,⟨D 55,.a7 (R 10),ab⟩,⟨D 56,.a7 (R 4),ab⟩,⟨D 57,.call σ.swr [(R 50),(R 53),(R 54),(R 55),(R 56)] ae,ab⟩] []
def apu:aF:=.seq (.block 0 (.loop (apv σ))) (abF σ)
def apt:aF:=.seq (.region [⟨D 15,.a7 (R 3),ab⟩,⟨D 16,.a7 (R 2),ab⟩,⟨D 17,.bin .sub (R 15) (R 16),ab⟩,⟨D 11,.a7 (R 17),ab⟩] []) (apu σ)
def aps:aF:=.seq (.region [⟨D 12,.a7 (R 2),ab⟩,⟨D 13,.a7 (R 1),ab⟩,⟨D 14,.bin .sub (R 12) (R 13),ab⟩,⟨D 10,.a7 (R 14),ab⟩] []) (apt σ)
def abG(σ:CA)(sz:Nat):aK:=⟨[P.nat 0,P.nat 1,P.nat 2,P.nat 3,P.nat 4],[],(aps σ)⟩
end
section
variable(σ:CA)(sz:Nat)
def amR:aF:=.region [⟨D 16,.a7 (R 0),ab⟩,⟨D 17,.a7 (R 1),ab⟩,⟨D 18,.a7 (R 10),ab⟩,⟨D 19,.bin .add (R 17) (R 18),ab⟩,⟨D 20,.a7 (R 0),ab⟩,⟨D 21,.a7 (R 2),ab⟩,⟨D 22,.a7 (R 10),ab⟩,⟨D 23,.bin .add (R 21) (R 22),ab⟩,⟨D 24,.a7 (R 0),ab⟩,⟨D 25,.a7 (R 2),ab⟩,⟨D 26,.a7 (R 10),ab⟩,⟨D 27,.bin .add (R 25) (R 26),ab⟩,⟨D 28,.bM sz ab (R 24) (R 27),ab⟩,⟨D 29,.load (aa sz) (R 28),ab⟩,⟨D 30,.a7 (R 0),ab⟩,⟨D 31,.a7 (R 1),ab⟩,⟨D 32,.a7 (R 10),ab⟩,⟨D 33,.bin .add (R 31) (R 32),ab⟩,⟨D 34,.bM sz ab (R 30) (R 33),ab⟩,⟨D 35,.load (aa sz) (R 34),ab⟩,⟨D 36,.bM sz ab (R 16) (R 19),ab⟩,⟨ab,.store sz (R 36) (R 29),ab⟩,⟨D 37,.bM sz ab (R 20) (R 23),ab⟩,⟨ab,.store sz (R 37) (R 35),ab⟩] []
def amS:aF:=.region [⟨D 14,.a7 (R 10),ab⟩,⟨D 15,.bin .add (R 14) (.k (.c (.f (.int .i64 1)))),ab⟩,⟨D 10,.a7 (R 15),ab⟩] []
def apD:aF:=.seq (.block 1 (amR sz)) (amS)
def apC:aF:=.seq (.seq (.region [⟨D 11,.a7 (R 10),ab⟩,⟨D 12,.a7 (R 3),ab⟩,⟨D 13,.bin .lss (R 11) (R 12),ab⟩] []) (.cond (R 13) .skip (.exit 0))) (apD sz)
def apB:aF:=.seq (.region [⟨D 10,.a7 (.k (.c (.f (.int .i64 0)))),ab⟩] []) (.block 0 (.loop (apC sz)))
def F2(σ:CA)(sz:Nat):aK:=⟨[P.nat 0,P.nat 1,P.nat 2,P.nat 3,P.nat 4],[],(apB sz)⟩
end
end
section
set_option linter.unusedVariables false
open Go
theorem iB{tab:TB}{fn:Nat}{ro:Option Nat}{k:List dg}{s:St}{Q:Option aF→St→Prop}{a:aF}(h:WP tab fn ro (.code a::.inLoop a::k) s Q):WP tab fn ro (.code (.loop a)::k) s Q:=jK h fun _ _ _=>rfl
theorem ko{lo hi:Nat}(h:lo+hi≤2000000000):IntKind.u64.wrap ((lo:Int)+hi)=(lo:Int)+hi:=by
 show((lo:Int)+hi) % 18446744073709551616=_;omega
theorem mh{lo hi q:Nat}(h:lo+hi≤2000000000)(d:q=(lo+hi) / 2):dq BinOp.shr (V.c (C.f (FC.int IntKind.u64 ((lo:Int)+hi)))) (V.c (C.f (FC.int IntKind.u64 1)))=aa (.c (.f (.int .u64 (q:Int)))):=by
 show aa (V.c (C.f (FC.int IntKind.u64 (Int.fdiv ((lo:Int)+hi) (2 ^ (min (1:Int).toNat IntKind.u64.bits))))))=_;have b:Int.fdiv ((lo:Int)+hi) (2 ^ (min (1:Int).toNat IntKind.u64.bits))=q:=by
  show Int.fdiv ((lo:Int)+hi) 2=q;rw [Int.fdiv_eq_ediv_of_nonneg _ (by omega)];omega
 rw [b]
section
variable{tab:TB}{σ:CA}{sz:Nat}{b ep:Nat}{cv:V}{W:List FC→Prop}{c:List FC→List FC→Int}
theorem Eh{H:aj}{rows:List (List FC)}(U:tab σ.swr=aa (F2 σ sz)){n x y m lo hi:Nat}(Y:rows.length=n)(hl:n≤1000000000)(g:RB H b sz ep rows)(W:cC sz rows)(h1:lo≤x)(h2:x+m≤y)(h3:y+m≤hi)(h4:hi≤n) :
  ∃ r H',Ev tab (.fn σ.swr) [.c (.sl b 0 n 0 ep sz),vi x,vi y,vi m,cv] H r H'∧(r=.t []∧Fm b H H'∧∃ l',RB H' b sz ep l'∧iH lo hi rows l'∧NP rows l' x y m):=by
 refine cJ U rfl fun Q S=>?_;apply ai;simp;refine aG ?_;refine cP (fun w s=>∃(i:Nat) (t:T) (A:aj) (l:List (List FC)),s=⟨t,[],A⟩∧i+w=m∧t.g 0=.c (.sl b 0 n 0 ep sz)∧t.g 1=vi x∧t.g 2=vi y∧t.g 3=vi m∧t.g 10=vi i ∧
  Fm b H A∧RB A b sz ep l∧iH lo hi rows l∧NP rows l x y i) m
  ⟨0,_,H,rows,rfl,by omega,by simp,by simp,by simp,by simp,by simp,Fm.refl H,g,iH.refl _ _ _,NP.zero _ _ _⟩ ?_
 rintro w s ⟨i,t,A,l,rfl,X,g0,E,F,I,v,z,g,d,J⟩ Z;have u:=d.len;apply ak;apply ai;simp [v,I];by_cases B:i<m
 case neg=>
  obtain rfl:i=m:=by omega
  refine aD (by simp) ?_;refine bR (k':=[]) rfl ?_;exact cL (S _ _ _ rfl rfl ⟨rfl,z,l,g,d,J⟩)
 refine aq (by simp [B]) (aO ?_);obtain⟨p,q,H2,N,-,-,K,L,l1,l2,w1,w2,s1,M,s2,r2,O⟩:=g.zZ (d.wK W) (u.trans Y) (i:=x+i) (j:=y+i) (by omega) (by omega);simp only [Int.natCast_add]at K L M;apply ak;refine aG ?_;refine al (.inl rfl) ?_;simp [g0,E,F,v,aU (n:=(x:Int)+i),aU (n:=(y:Int)+i),K,L,l1,l2,w1,w2,s1,M,s2,-av,-bf];refine aw ?_;refine al (.inl rfl) ?_;simp [v,aU (n:=(i:Int)+1)];exact Z (w-1) _ (by omega) ⟨i+1,_,N,_,rfl,by omega,by simp [g0],by simp [E],by simp [F],by simp [I],by simp,z.trans O,r2,d.trans (tF (by omega) (by omega) (by omega) (by omega) (by omega)),J.step u (by omega) (by omega)⟩
theorem amF{H:aj}{rows:List (List FC)}(hT:tab σ.rot=aa (abG σ sz))(hS:tab σ.swr=aa (F2 σ sz)){n a m e:Nat}(hn:rows.length=n)(hl:n≤1000000000)(z:RB H b sz ep rows)(hg:cC sz rows)(h1:a<m)(h2:m<e)(h4:e≤n) :
  ∃ r H',Ev tab (.fn σ.rot) [.c (.sl b 0 n 0 ep sz),vi a,vi m,vi e,cv] H r H'∧(r=.t []∧Fm b H H'∧∃ l',RB H' b sz ep l'∧iH a e rows l'∧wB rows l' a m e):=by
 obtain⟨X0,L,S,f,rfl,lX,lU,lV⟩:=qv (l:=rows) (Nat.le_of_lt h1) (Nat.le_of_lt h2) (by omega);have b_:X0.length+(L.length+(S.length+f.length))=n:=by rw [←hn];simp
 refine cJ hT rfl fun Q hQ=>?_;apply ai;simp [aU (n:=(m:Int)-a)];apply ai;simp [aU (n:=(e:Int)-m)];apply ak;refine aG ?_;refine cP (fun w s=>∃(i j:Nat) (X U V Y:List (List FC)) (t:T) (H1:aj),s=⟨t,[],H1⟩∧w=i+j∧0<i∧0<j∧X.length+i=m∧U.length=i∧V.length=j∧X++(V++(U++Y))=X0++(S++(L++f))∧a≤X.length∧m+j≤e ∧
  t.g 0=.c (.sl b 0 n 0 ep sz)∧t.g 2=vi m∧t.g 4=cv∧t.g 10=vi i∧t.g 11=vi j∧Fm b H H1∧RB H1 b sz ep (X++(U++(V++Y)))∧iH a e (X0++(L++(S++f))) (X++(U++(V++Y)))) (e-a)
  ⟨m-a,e-m,X0,L,S,f,_,H,rfl,by omega,by omega,by omega,by omega,lU,lV,rfl,by omega,by omega,by simp,by simp,by simp,by simp;omega,by simp;omega,Fm.refl H,z,iH.refl _ _ _⟩ ?_
 rintro w s ⟨i,j,X,U,V,Y,t,H1,rfl,rfl,hi,hj,p,hU,hV,E,B,b9,g0,k,o,d,q,F,z,g⟩ ih;have u:=g.len;rw [hn]at u;have gr:=g.wK hg;have e1:((m:Int)-i)=((X.length:Nat):Int):=by omega
 have w0:IntKind.i64.wrap (X.length:Int)=X.length:=aU;apply ak;apply ai;simp [d,q];by_cases a_:i=j
 ·
  subst a_;refine aD (by simp) ?_;refine bR (k':=[.code (abF σ)]) rfl ?_;obtain⟨r,K,v,rfl,h,I,r2,s2,x2⟩:=Eh (cv:=cv) (x:=X.length) (y:=m) (m:=i) (lo:=a) (hi:=e) hS u hl z gr B (by omega) (by omega) h4;have v:=v.eq;have J:=NP.blocks (X:=X) (P:=U) (M:=[]) (Q:=V) (Z:=Y) (l':=I) (n:=i) hU hV (by simpa [p]using x2);simp only [as9]at J;refine al (.inl rfl) ?_;simp [g0,k,o,d,e1,w0,v];refine cL (hQ _ ⟨_,[],K⟩ (.t []) rfl rfl ⟨rfl,F.trans h,I,r2,g.trans s2,?_⟩);rw [J,E];have:=wB.blocks (X:=X0) (U:=L) (V:=S) (Y:=f);rwa [lX,lU,lV,show a+(m-a)=m by omega,show m+(e-m)=e by omega]at this
 refine aq (by simp [a_]) (aO ?_);refine aG ?_;apply ak;refine al (.inl rfl) ?_;simp [d,q];by_cases a8:j<i
 ·refine aq (by simp [a8]) ?_;obtain⟨r,K,v,rfl,h,I,r2,s2,x2⟩:=Eh (cv:=cv) (x:=X.length) (y:=m) (m:=j) (lo:=a) (hi:=e) hS u hl z gr B (by omega) (by omega) h4;have v:=v.eq;obtain⟨N,O,rfl,l1⟩:∃ N O,U=N++O∧N.length=j:=⟨U.take j,U.drop j,(asP j U).symm,by simp;omega⟩
  have A:O.length=i-j:=by simp at hU;omega
  have J:=NP.blocks (X:=X) (P:=N) (M:=O) (Q:=V) (Z:=Y) (l':=I) (n:=j) l1 hV (by rw [A,show X.length+j+(i-j)=m by omega];simpa using x2);subst J;apply ai;simp [g0,k,o,d,q,e1,w0,v];refine al (.inl rfl) ?_;simp [d,q,aU (n:=(i:Int)-j)];exact aw (ih (i-j+j) _ (by omega) ⟨i-j,j,X++V,O,N,Y,_,K,rfl,rfl,by omega,hj,by simp;omega,A,l1,by rw [←E];simp,by simp;omega,b9,by simp [g0],by simp [k],by simp [o],by simp;omega,by simp [q],F.trans h,by simpa using r2,by simpa using g.trans s2⟩)
 ·refine aD (by simp [a8]) ?_;obtain⟨r,K,v,rfl,h,I,r2,s2,x2⟩:=Eh (cv:=cv) (x:=X.length) (y:=m+j-i) (m:=i) (lo:=a) (hi:=e) hS u hl z gr B (by omega) (by omega) h4;have v:=v.eq;obtain⟨W,c,rfl,l1⟩:∃ W c,V=W++c∧W.length=j-i:=⟨V.take (j-i),V.drop (j-i),(asP _ V).symm,by simp;omega⟩
  have A:c.length=i:=by simp at hV;omega
  have J:=NP.blocks (X:=X) (P:=U) (M:=W) (Q:=c) (Z:=Y) (l':=I) (n:=i) hU A (by rw [l1,show X.length+i+(j-i)=m+j-i by omega];simpa using x2);subst J;have e2:((m:Int)+j-i)=((m+j-i:Nat):Int):=by omega
  apply ai;simp [g0,k,o,d,q,aU (n:=(m:Int)+j),aU (n:=((m+j-i:Nat):Int)),e1,e2,w0,v];refine al (.inl rfl) ?_;simp [d,q,aU (n:=(j:Int)-i)];exact aw (ih (i+(j-i)) _ (by omega) ⟨i,j-i,X,c,W,U++Y,_,K,rfl,rfl,hi,by omega,p,A,l1,by rw [←E];simp,B,by omega,by simp [g0],by simp [k],by simp [o],by simp [d],by simp;omega,F.trans h,by simpa using r2,by simpa using g.trans s2⟩)
end
end
section
set_option linter.unusedVariables false
open Go
section
variable{W:List FC→Prop}{c:List FC→List FC→Int}{l l':List (List FC)}
theorem wB.up{a k:Nat}(h:wB l l' a (a+1) (k+1))(m:l'.length=l.length)(g:a≤k)(j:k+1<l.length):wB l (zZ l' k (k+1)) a (a+1) (k+2):=fun q=>by
 rw [nk (by omega) (by omega),h k,h (k+1),h q];by_cases q1:q=k+1
 ·subst q1;rw [ba rfl,aX (by omega),ba (by omega),aX (by omega),ba (by omega)]
  congr 1;omega
 rw [aX q1];by_cases b:q=k
 ·subst b;rw [ba rfl,aX (by omega),aX (by omega),ba (by omega)]
  congr 1;omega
 rw [aX b];by_cases d:a≤q∧q<a+(k+1-(a+1))
 ·rw [ba d,ba (by omega)]
 ·rw [aX d,aX (by omega),aX (by omega),aX (by omega)]
theorem wB.dn{m k:Nat}(h:wB l l' (k+1) m (m+1))(j:l'.length=l.length)(g:k+1≤m)(s:m<l.length):wB l (zZ l' (k+1) k) k m (m+1):=fun q=>by
 rw [nk (by omega) (by omega),h k,h (k+1),h q];have e:m+1-m=1:=by omega
 rw [e];by_cases q1:q=k
 ·subst q1;rw [ba rfl,ba (by omega),ba (by omega)]
  congr 1;omega
 rw [aX q1];by_cases b:q=k+1
 ·subst b;rw [ba rfl,aX (by omega),aX (by omega),aX (by omega),ba (by omega)]
  congr 1
 rw [aX b,aX (by omega),aX (show¬ (k≤q∧q<k+1) by omega)];by_cases d:k+1+1≤q∧q<m+1
 ·rw [ba d,ba (by omega)]
 ·rw [aX d,aX (by omega)]
theorem Up.add{a b d:Nat}(h:Up c (a+d) (b+d) l)(g:∀ k,a≤k→k<b→l'[k]?=l[k+d]?):Up c a b l':=fun i j x y h1 h2 h3 m hy=>
 h (i+d) (j+d) x y (by omega) (by omega) (by omega) (by rw [←g i h1 (by omega)];exact m) (by rw [←g j (by omega) h3];exact hy)
theorem Up.sub{a b d:Nat}(h:Up c (a-d) (b-d) l)(q:d≤a)(g:∀ k,a≤k→k<b→l'[k]?=l[k-d]?):Up c a b l':=fun i j x y h1 h2 h3 m hy=>
 h (i-d) (j-d) x y (by omega) (by omega) (by omega) (by rw [←g i h1 (by omega)];exact m) (by rw [←g j (by omega) h3];exact hy)
theorem jS.strict{i j:Nat}(hc:CS W c)(d:∀ r ∈ l,W r){p x y:List FC}(q:W p)(h:jS c l i j)(g:l[i]?=aa x)(hy:l[j]?=aa y)(b:c y p<0):c x p<0:=by
 apply Classical.not_not.1;intro m;exact hc.trans q (d _ (asp g)) (d _ (asp hy)) m (h x y g hy) b
theorem jS.aiY{i j:Nat}(hc:CS W c)(d:∀ r ∈ l,W r){p x y:List FC}(q:W p)(h:jS c l i j)(g:l[i]?=aa x)(hy:l[j]?=aa y)(b:c p x<0):c p y<0:=by
 apply Classical.not_not.1;intro m;exact hc.trans (d _ (asp g)) (d _ (asp hy)) q (h x y g hy) m b
end
section
variable{tab:TB}{σ:CA}{sz:Nat}{b ep:Nat}{cv:V}{W:List FC→Prop}{c:List FC→List FC→Int}
theorem ab7{H:aj}{rows:List (List FC)}{n a e:Nat}{Q:Option aF→St→Prop}{k:List dg}(a8:Cv tab cv W c)(S:CS W c)(hn:rows.length=n)(hl:n≤1000000000)(d:RB H b sz ep rows)(hg:cC sz rows)(B:∀ r ∈ rows,W r)
  (h2:a+1<e) (h4:e≤n) (u2:Up c (a+1) e rows) {t:T} (g0:t.g 0=.c (.sl b 0 n 0 ep sz)) (O:t.g 1=vi a) (g2:t.g 2=vi ((a+1:Nat):Int)) (g3:t.g 3=vi e) (U:t.g 4=cv)
  (hQ:∀ t H' l',Fm b H H'→RB H' b sz ep l'→iH a e rows l'→Up c a e l'→Q (aa .ret) ⟨t,[],H'⟩):WP tab σ.pU ab (.code (ab5 sz)::k) ⟨t,[],H⟩ Q:=by
 obtain⟨p,f⟩:∃ p,rows[a]?=aa p:=⟨_,By (by omega)⟩
 have wp:W p:=B _ (asp f);apply ai;simp [g2];apply ai;simp [g3];apply ak;refine aG ?_;refine cP (fun w s=>∃(lo hi:Nat) (t:T) (v:aj),s=⟨t,[],v⟩∧lo+w=hi∧a+1≤lo∧hi≤e∧t.g 0=.c (.sl b 0 n 0 ep sz)∧t.g 1=vi a∧t.g 4=cv∧t.g 10=vi lo∧t.g 11=vi hi∧Fm b H v∧RB v b sz ep rows ∧
   (∀(k:Nat) x,a+1≤k→k<lo→rows[k]?=aa x→c x p<0)∧(∀(k:Nat) x,hi≤k→k<e→rows[k]?=aa x→¬ c x p<0)) (e-(a+1))
  ⟨a+1,e,_,H,rfl,by omega,by omega,by omega,by simp [g0],by simp [O],by simp [U],by simp,by simp,Fm.refl H,d,fun k x h1 h2=>by omega,fun k x h1 h2=>by omega⟩ ?_
 rintro w s ⟨lo,hi,t,v,rfl,hw,h5,h6,g0,O,U,g,L,u,d,Z,Y⟩ ih;apply ak;apply ai;simp [g,L];by_cases N:lo<hi
 ·refine aq (by simp [N]) (aO ?_);obtain⟨q,hq⟩:=aI ((lo+hi) / 2);refine aG ?_;apply ai;simp [g,L,aU (n:=(lo:Int)+hi),ko (lo:=lo) (hi:=hi) (by omega),mh (lo:=lo) (hi:=hi) (by omega) hq,aU (n:=(q:Int))];obtain⟨x,y,F,ar,J,K,hy,i1,j1,l1,l2,X,he,wx,-⟩:=d.ask hg a8 B hn (i:=q) (j:=a) (by omega) (by omega);rw [f]at hy;cases hy;apply ai;simp [g0,O,U,i1,j1,l1,l2,X,he,-av];by_cases A:c x p<0
  ·refine aq (by simp [A]) (al (.inl rfl) ?_);simp [aU (n:=(q:Int)+1)];refine aw (ih (hi-(q+1)) _ (by omega) ⟨q+1,hi,_,_,rfl,by omega,by omega,h6,by simp [g0],by simp [O],by simp [U],by simp,by simp [L],u.trans (Fm.push _ _),d.push _,fun k z k1 k2 o=>?_,Y⟩);exact(u2.le S B k1 (by omega) (show q<e by omega)).strict S B wp o K A
  ·refine aD (by simp [A]) (al (.inl rfl) ?_);simp;refine aw (ih (q-lo) _ (by omega) ⟨lo,q,_,_,rfl,by omega,h5,by omega,by simp [g0],by simp [O],by simp [U],by simp [g],by simp,u.trans (Fm.push _ _),d.push _,Z,fun k z k1 k2 o=>?_⟩);exact S.trans wp wx (B _ (asp o)) A ((u2.le S B (i:=q) (j:=k) (by omega) k1 k2) _ _ K o)
 refine aD (by simp [N]) ?_;obtain rfl:lo=hi:=by omega
 refine bR (k':=.code (FU sz)::k) rfl ?_;apply ak;apply ai;simp [O];refine aG ?_;refine cP (fun w s=>∃(i:Nat) (t:T) (v:aj) (l:List (List FC)),s=⟨t,[],v⟩∧i+1+w=lo∧a≤i∧t.g 0=.c (.sl b 0 n 0 ep sz)∧t.g 10=vi lo∧t.g 13=vi i∧Fm b H v∧RB v b sz ep l∧iH a e rows l∧wB rows l a (a+1) (i+1)) (lo-(a+1))
  ⟨a,_,v,rows,rfl,by omega,by omega,by simp [g0],by simp [g],by simp,u,d,iH.refl _ _ _,wB.none _ (by omega) (by omega) (.inr rfl)⟩ ?_
 rintro w s ⟨i,t,v,l,rfl,hw,h7,g0,g,M,u,d,m,I⟩ ih;have E:=m.len;apply ak;apply ai;simp [g,M,aU (n:=(lo:Int)-1)];by_cases N:i+1<lo
 ·refine aq (by simp;omega) (aO ?_);obtain⟨x,y,H2,H3,-,-,i1,j1,l1,l2,w1,w2,s1,j2,s2,r2,f2⟩:=d.zZ (m.wK hg) (E.trans hn) (i:=i) (j:=i+1) (by omega) (by omega);have c1:((i+1:Nat):Int)=(i:Int)+1:=by omega
  rw [c1]at j1 j2;apply ak;refine aG (al (.inl rfl) ?_);simp [g0,M,aU (n:=(i:Int)+1),i1,j1,l1,l2,w1,w2,s1,j2,s2,-av,-bf];refine aw (al (.inl rfl) ?_);simp [M,aU (n:=(i:Int)+1)];exact ih (w-1) _ (by omega) ⟨i+1,_,H3,_,rfl,by omega,by omega,by simp [g0],by simp [g],by simp,u.trans f2,r2,m.trans (tF (by omega) (by omega) (by omega) (by omega) (by omega)),I.up E h7 (by omega)⟩
 obtain rfl:lo=i+1:=by omega
 refine aD (by simp) ?_;refine bR (k':=.code .ret::k) rfl ?_;refine aB (hQ _ _ l u d m ?_);refine abH S B (Up.one (by omega)) u2 (aft _) (by omega) h5 h6 (by omega) (.inl (by omega)) (fun h=>by omega) (fun _ h=>?_) (fun _ h=>?_) I
 ·have K:=By (l:=rows) (i:=i+1-1) (by omega);exact jS.of_lt S B K f (Z _ _ (by omega) (by omega) K)
 ·have K:=By (l:=rows) (i:=i+1) (by omega);exact jS.of_le f K (Y _ _ (by omega) h K)
theorem Px{H:aj}{rows:List (List FC)}{n a m:Nat}{Q:Option aF→St→Prop}{k:List dg}(a8:Cv tab cv W c)(X:CS W c)(hn:rows.length=n)(hl:n≤1000000000)(g:RB H b sz ep rows)(hg:cC sz rows)(K:∀ r ∈ rows,W r)
  (h2:a<m) (h4:m<n) (u1:Up c a m rows) {t:T} (g0:t.g 0=.c (.sl b 0 n 0 ep sz)) (g1:t.g 1=vi a) (S:t.g 2=vi m) (Y:t.g 4=cv)
  (hQ:∀ t H' l',Fm b H H'→RB H' b sz ep l'→iH a (m+1) rows l'→Up c a (m+1) l'→Q (aa .ret) ⟨t,[],H'⟩):WP tab σ.pU ab (.code (FX sz)::k) ⟨t,[],H⟩ Q:=by
 obtain⟨p,o⟩:∃ p,rows[m]?=aa p:=⟨_,By (by omega)⟩
 have wp:W p:=K _ (asp o);apply ai;simp [g1];apply ai;simp [S];apply ak;refine aG ?_;refine cP (fun w s=>∃(lo hi:Nat) (t:T) (B:aj),s=⟨t,[],B⟩∧lo+w=hi∧a≤lo∧hi≤m∧t.g 0=.c (.sl b 0 n 0 ep sz)∧t.g 2=vi m∧t.g 4=cv∧t.g 14=vi lo∧t.g 15=vi hi∧Fm b H B∧RB B b sz ep rows ∧
   (∀(k:Nat) x,a≤k→k<lo→rows[k]?=aa x→¬ c p x<0)∧(∀(k:Nat) x,hi≤k→k<m→rows[k]?=aa x→c p x<0)) (m-a)
  ⟨a,m,_,H,rfl,by omega,by omega,by omega,by simp [g0],by simp [S],by simp [Y],by simp,by simp,Fm.refl H,g,fun k x h1 h2=>by omega,fun k x h1 h2=>by omega⟩ ?_
 rintro w s ⟨lo,hi,t,B,rfl,hw,h5,h6,g0,S,Y,u,O,A,g,f,e⟩ ih;apply ak;apply ai;simp [u,O];by_cases U:lo<hi
 ·refine aq (by simp [U]) (aO ?_);obtain⟨q,hq⟩:=aI ((lo+hi) / 2);refine aG ?_;apply ai;simp [u,O,aU (n:=(lo:Int)+hi),ko (lo:=lo) (hi:=hi) (by omega),mh (lo:=lo) (hi:=hi) (by omega) hq,aU (n:=(q:Int))];obtain⟨x,y,F,ar,J,N,hy,i1,j1,l1,l2,Z,he,-,wy⟩:=g.ask hg a8 K hn (i:=m) (j:=q) (by omega) (by omega);rw [o]at N;cases N;apply ai;simp [g0,S,Y,i1,j1,l1,l2,Z,he,-av];by_cases I:c p y<0
  ·refine aD (by simp [I]) (al (.inl rfl) ?_);simp;refine aw (ih (q-lo) _ (by omega) ⟨lo,q,_,_,rfl,by omega,h5,by omega,by simp [g0],by simp [S],by simp [Y],by simp [u],by simp,A.trans (Fm.push _ _),g.push _,f,fun k z k1 k2 hz=>?_⟩);exact(u1.le X K (i:=q) (j:=k) (by omega) k1 k2).aiY X K wp hy hz I
  ·refine aq (by simp [I]) (al (.inl rfl) ?_);simp [aU (n:=(q:Int)+1)];refine aw (ih (hi-(q+1)) _ (by omega) ⟨q+1,hi,_,_,rfl,by omega,by omega,h6,by simp [g0],by simp [S],by simp [Y],by simp,by simp [O],A.trans (Fm.push _ _),g.push _,fun k z k1 k2 hz=>?_,e⟩);exact X.trans (K _ (asp hz)) wy wp ((u1.le X K (i:=k) (j:=q) k1 (by omega) (by omega)) _ _ hz hy) I
 refine aD (by simp [U]) ?_;obtain rfl:lo=hi:=by omega
 refine bR (k':=.code (FY sz)::k) rfl ?_;apply ak;apply ai;simp [S];refine aG ?_;refine cP (fun w s=>∃(i:Nat) (t:T) (B:aj) (l:List (List FC)),s=⟨t,[],B⟩∧i=lo+w∧i≤m∧t.g 0=.c (.sl b 0 n 0 ep sz)∧t.g 14=vi lo∧t.g 17=vi i∧Fm b H B∧RB B b sz ep l∧iH a (m+1) rows l∧wB rows l i m (m+1)) (m-lo)
  ⟨m,_,B,rows,rfl,by omega,by omega,by simp [g0],by simp [u],by simp,A,g,iH.refl _ _ _,wB.none _ (by omega) (by omega) (.inl rfl)⟩ ?_
 rintro w s ⟨i,t,B,l,rfl,hw,h7,g0,u,E,A,g,v,M⟩ ih;have L:=v.len;apply ak;apply ai;simp [u,E];by_cases U:lo<i
 ·refine aq (by simp;omega) (aO ?_);obtain⟨d,rfl⟩:∃ d,i=d+1:=⟨i-1,by omega⟩
  obtain⟨x,y,H2,H3,-,-,i1,j1,l1,l2,w1,w2,s1,j2,s2,r2,f2⟩:=g.zZ (v.wK hg) (L.trans hn) (i:=d+1) (j:=d) (by omega) (by omega);have c1:((d+1:Nat):Int)=(d:Int)+1:=by omega
  rw [c1]at i1 E;apply ak;refine aG (al (.inl rfl) ?_);simp [g0,E,aU (n:=(d:Int)),i1,j1,l1,l2,w1,w2,s1,j2,s2,-av,-bf];refine aw (al (.inl rfl) ?_);simp [E,aU (n:=(d:Int))];exact ih (w-1) _ (by omega) ⟨d,_,H3,_,rfl,by omega,by omega,by simp [g0],by simp [u],by simp,A.trans f2,r2,v.trans (tF (by omega) (by omega) (by omega) (by omega) (by omega)),M.dn L h7 (by omega)⟩
 obtain rfl:lo=i:=by omega
 refine aD (by simp) ?_;refine bR (k':=.code .ret::k) rfl ?_;refine aB (hQ _ _ l A g v ?_);refine abH X K u1 (Up.one (by omega)) h5 h6 (by omega) (aft _) (by omega) (.inr (by omega)) (fun h _=>?_) (fun h _=>?_) (fun _ h=>by omega) M
 ·have N:=By (l:=rows) (i:=lo-1) (by omega);exact jS.of_le N o (f _ _ (by omega) (by omega) N)
 ·have N:=By (l:=rows) (i:=lo) (by omega);exact jS.of_lt X K o N (e _ _ (by omega) (by omega) N)
end
end
section
set_option linter.unusedVariables false
open Go
section
variable{tab:TB}{σ:CA}{sz:Nat}{b ep:Nat}{cv:V}{W:List FC→Prop}{c:List FC→List FC→Int}
theorem aiG(hT:tab σ.pU=aa (ab6 σ sz))(hR:tab σ.rot=aa (abG σ sz))(hS:tab σ.swr=aa (F2 σ sz))(d9:Cv tab cv W c)(hc:CS W c){n:Nat}(hl:n≤1000000000):∀(d:Nat) {H:aj} {rows:List (List FC)} {a m e:Nat},e-a=d→rows.length=n→RB H b sz ep rows→cC sz rows→(∀ r ∈ rows,W r)→a<m→m<e→e≤n→Up c a m rows→Up c m e rows →
  ∃ r H',Ev tab (.fn σ.pU) [.c (.sl b 0 n 0 ep sz),vi a,vi m,vi e,cv] H r H'∧(r=.t []∧Fm b H H'∧∃ l',RB H' b sz ep l'∧iH a e rows l'∧Up c a e l'):=by
 intro d;induction d using Nat.strongRecOn with
 | _ d IH=>
 intro H rows a m e hd hn A hg Y h1 h2 h4 u1 u2;refine cJ hT rfl fun Q hQ=>?_;apply ak;apply ai;simp [aU (n:=(m:Int)-a)];by_cases i9:m=a+1
 ·subst i9;refine aq (by simp;omega) ?_;exact ab7 d9 hc hn hl A hg Y h2 h4 u2 (by simp) (by simp) (by simp) (by simp) (by simp) fun t H' l' f r s u=>hQ _ _ _ rfl rfl ⟨rfl,f,l',r,s,u⟩
 refine aD (by simp;omega) (aO ?_);apply ak;apply ai;simp [aU (n:=(e:Int)-m)];by_cases i8:e=m+1
 ·subst i8;refine aq (by simp;omega) ?_;exact Px d9 hc hn hl A hg Y h1 h4 u1 (by simp) (by simp) (by simp) (by simp) fun t H' l' f r s u=>hQ _ _ _ rfl rfl ⟨rfl,f,l',r,s,u⟩
 refine aD (by simp;omega) (aO ?_);obtain⟨mid,i4⟩:=aI ((a+e) / 2);apply ai;simp [aU (n:=(a:Int)+e),ko (lo:=a) (hi:=e) (by omega),mh (lo:=a) (hi:=e) (by omega) i4,aU (n:=(mid:Int))];apply ai;simp [aU (n:=(mid:Int)+m)];apply ai;simp;have f7:∀(t:T) (X:aj) (s g:Nat) (M l2:List (List FC)),a≤s→s≤m→s≤mid→m≤g→mid≤g→g≤e→mid+m=s+g→(a<s→g<e→jS c rows (s-1) g)→(s<m→m<g→jS c rows (g-1) s)→wB rows M s m g→iH a e rows M→iH a mid M l2→Up c a mid l2 →
   t.g 0=.c (.sl b 0 n 0 ep sz)→t.g 3=vi e→t.g 4=cv→t.g 18=vi mid→t.g 24=vi g→Fm b H X→RB X b sz ep l2→WP tab σ.pU ab [.code (Ch σ)] ⟨t,[],X⟩ Q:=by
  intro t X s g M l2 q1 q2 q3 q4 q5 q6 q7 x1 x2 E K a8 j4 g0 N O v U B A;have e1:=K.len;have e2:=a8.len;have v1:Up c mid g l2:=by
   refine Up.sub (l:=rows) (d:=g-m) (u1.mono (by omega) (by omega)) (by omega) fun k S k2=>?_;rw [a8.ge S,E k,aX (by omega),ba (by omega)]
  have v2:Up c g e l2:=(u2.mono (show m≤g by omega) (aft _)).of fun k S k2=>by rw [a8.ge (by omega),E k,aX (by omega),aX (by omega)]
  have b_:∀ l3,iH mid e l2 l3→Up c mid e l3→iH a e rows l3∧Up c a e l3:=fun l3 i6 j5=>
   ⟨K.trans ((a8.mono (aft _) (by omega)).trans (i6.mono (by omega) (aft _))),aa8 hc Y u1 u2 q1 q2 q4 q6 q7 (by omega) x1 x2 E e1 a8 j4 i6 j5⟩
  apply ai;by_cases S:mid<g
  ·by_cases k2:g<e
   ·simp [N,v,U,S,k2];obtain⟨r,H4,I,rfl,f4,l3,r3,s3,u3⟩:=IH (e-mid) (by omega) (H:=X) (rows:=l2) rfl (by omega) A (a8.wK (K.wK hg)) (fun r hr=>Y r (K.1.mem_iff.1 (a8.1.mem_iff.1 hr))) S k2 h4 v1 v2;obtain⟨w1,w2⟩:=b_ l3 s3 u3;have I:=I.eq;refine aq (by simp) (al (.inl rfl) ?_);simp [g0,N,O,v,U,I];exact cL (hQ _ _ _ rfl rfl ⟨rfl,B.trans f4,l3,r3,w1,w2⟩)
   ·simp [N,v,U,S,k2];obtain rfl:g=e:=by omega
    obtain⟨w1,w2⟩:=b_ l2 (iH.refl _ _ _) v1;refine bp (by simp) ?_;exact cL (hQ _ _ _ rfl rfl ⟨rfl,B,l2,A,w1,w2⟩)
  ·simp [N,v,U,S];obtain rfl:mid=g:=by omega
   obtain⟨w1,w2⟩:=b_ l2 (iH.refl _ _ _) v2;refine bp (by simp) ?_;exact cL (hQ _ _ _ rfl rfl ⟨rfl,B,l2,A,w1,w2⟩)
 have e_:∀(t:T) (X:aj) (s g:Nat) (M:List (List FC)),a≤s→s≤m→s≤mid→m≤g→mid≤g→g≤e→mid+m=s+g→(a<s→g<e→jS c rows (s-1) g)→(s<m→m<g→jS c rows (g-1) s)→wB rows M s m g→iH a e rows M →
   t.g 0=.c (.sl b 0 n 0 ep sz)→t.g 1=vi a→t.g 3=vi e→t.g 4=cv→t.g 18=vi mid→t.g 20=vi s→t.g 24=vi g→Fm b H X→RB X b sz ep M→WP tab σ.pU ab [.code (Cg σ)] ⟨t,[],X⟩ Q:=by
  intro t X s g M q1 q2 q3 q4 q5 q6 q7 x1 x2 E K g0 g1 N O v z U B A;have e1:=K.len;have v1:Up c a s M:=(u1.mono (aft _) q2).of fun k S k2=>by rw [E k,aX (by omega),aX (by omega)]
  have v2:Up c s mid M:=by
   refine Up.add (l:=rows) (d:=m-s) (u2.mono (by omega) (by omega)) fun k S k2=>?_;rw [E k,ba (by omega)];congr 1;omega
  apply ak;apply ai;by_cases S:a<s
  ·by_cases k2:s<mid
   ·simp [g1,v,z,S,k2];obtain⟨r,H4,I,rfl,f4,l3,r3,s3,u3⟩:=IH (mid-a) (by omega) (H:=X) (rows:=M) rfl (by omega) A (K.wK hg) (fun r hr=>Y r (K.1.mem_iff.1 hr)) S k2 (by omega) v1 v2;have I:=I.eq;refine aq (by simp) (al (.inl rfl) ?_);simp [g0,g1,O,v,z,I];exact f7 _ _ s g M l3 q1 q2 q3 q4 q5 q6 q7 x1 x2 E K s3 u3 (by simp [g0]) (by simp [N]) (by simp [O]) (by simp [v]) (by simp [U]) (B.trans f4) r3
   ·simp [g1,v,z,S,k2];obtain rfl:s=mid:=by omega
    refine bp (by simp) ?_;exact f7 _ _ s g M M q1 q2 q3 q4 q5 q6 q7 x1 x2 E K (iH.refl _ _ _) v1 (by simp [g0]) (by simp [N]) (by simp [O]) (by simp [v]) (by simp [U]) B A
  ·simp [g1,v,z,S];obtain rfl:a=s:=by omega
   refine bp (by simp) ?_;exact f7 _ _ a g M M q1 q2 q3 q4 q5 q6 q7 x1 x2 E K (iH.refl _ _ _) v2 (by simp [g0]) (by simp [N]) (by simp [O]) (by simp [v]) (by simp [U]) B A
 have i_:∀(t:T) (X:aj) (s0 Z s:Nat),(mid<m∧s0+e=mid+m∧Z=mid∨m≤mid∧s0=a∧Z=m)→s0≤s→s≤Z→(∀ k,s0≤k→k<s→jS c rows k (mid+m-1-k))→(∀ k,s≤k→k<Z→jS c rows (mid+m-1-k) k) →
   t.g 0=.c (.sl b 0 n 0 ep sz)→t.g 1=vi a→t.g 2=vi m→t.g 3=vi e→t.g 4=cv→t.g 18=vi mid→t.g 19=vi ((mid+m:Nat):Int)→t.g 20=vi s→Fm b H X→RB X b sz ep rows→WP tab σ.pU ab [.code (vZ σ)] ⟨t,[],X⟩ Q:=by
  intro t X s0 Z s i5 S k2 i1 i2 g0 g1 g2 N O v L z B A;obtain⟨g,j6⟩:=aI (mid+m-s);have c1:((mid+m:Nat):Int)-s=(g:Int):=by omega
  have x1:a<s→g<e→jS c rows (s-1) g:=fun p1 p2=>by
   have:=i1 (s-1) (by omega) (by omega);rwa [show mid+m-1-(s-1)=g by omega]at this
  have x2:s<m→m<g→jS c rows (g-1) s:=fun p1 p2=>by
   have:=i2 s (aft _) (by omega);rwa [show mid+m-1-s=g-1 by omega]at this
  rw [show((mid+m:Nat):Int)=(mid:Int)+m by omega]at L c1;apply ai;simp [L,z,c1,aU (n:=(g:Int))];apply ak;apply ai;by_cases p1:s<m
  ·by_cases p2:m<g
   ·simp [g2,z,p1,p2];obtain⟨r,H4,I,rfl,f4,M,r1,s1,x⟩:=amF (cv:=cv) (a:=s) (m:=m) (e:=g) hR hS hn hl A hg p1 p2 (by omega);have I:=I.eq;refine aq (by simp) (al (.inl rfl) ?_);simp [g0,g2,O,z,I];exact e_ _ _ s g M (by omega) (by omega) (by omega) (by omega) (by omega) (by omega) (by omega) x1 x2 x (s1.mono (by omega) (by omega)) (by simp [g0]) (by simp [g1]) (by simp [N]) (by simp [O]) (by simp [v]) (by simp [z]) (by simp) (B.trans f4) r1
   ·simp [g2,z,p1,p2];refine bp (by simp) ?_;exact e_ _ _ s g rows (by omega) (by omega) (by omega) (by omega) (by omega) (by omega) (by omega) x1 x2 (wB.none _ (by omega) (by omega) (.inr (by omega))) (iH.refl _ _ _) (by simp [g0]) (by simp [g1]) (by simp [N]) (by simp [O]) (by simp [v]) (by simp [z]) (by simp) B A
  ·simp [g2,z,p1];refine bp (by simp) ?_;exact e_ _ _ s g rows (by omega) (by omega) (by omega) (by omega) (by omega) (by omega) (by omega) x1 x2 (wB.none _ (by omega) (by omega) (.inl (by omega))) (iH.refl _ _ _) (by simp [g0]) (by simp [g1]) (by simp [N]) (by simp [O]) (by simp [v]) (by simp [z]) (by simp) B A
 have i7:∀(t:T) (s0 Z:Nat),(mid<m∧s0+e=mid+m∧Z=mid∨m≤mid∧s0=a∧Z=m)→t.g 0=.c (.sl b 0 n 0 ep sz)→t.g 1=vi a→t.g 2=vi m→t.g 3=vi e→t.g 4=cv→t.g 18=vi mid→t.g 19=vi ((mid+m:Nat):Int)→t.g 20=vi s0→t.g 21=vi Z →
   WP tab σ.pU ab [.code (FZ σ sz)] ⟨t,[],H⟩ Q:=by
  intro t s0 Z i5 g0 g1 g2 N O v L z a_;have c0:((mid+m:Nat):Int)=(mid:Int)+m:=by omega
  obtain⟨p,hp⟩:=aI (mid+m-1);have c1:(mid:Int)+m-1=(p:Int):=by omega
  rw [c0]at L;apply ai;simp [L,c1,aU (n:=(p:Int))];apply ak;refine aG ?_;refine cP (fun w s=>∃(lo hi:Nat) (t:T) (H1:aj),s=⟨t,[],H1⟩∧lo+w=hi∧s0≤lo∧hi≤Z∧t.g 0=.c (.sl b 0 n 0 ep sz)∧t.g 1=vi a∧t.g 2=vi m∧t.g 3=vi e∧t.g 4=cv∧t.g 18=vi mid∧t.g 19=vi ((mid:Int)+m)∧t.g 22=vi p∧t.g 20=vi lo∧t.g 21=vi hi∧Fm b H H1∧RB H1 b sz ep rows ∧
    (∀ k,s0≤k→k<lo→jS c rows k (mid+m-1-k))∧(∀ k,hi≤k→k<Z→jS c rows (mid+m-1-k) k)) (Z-s0)
   ⟨s0,Z,_,H,rfl,by omega,by omega,by omega,by simp [g0],by simp [g1],by simp [g2],by simp [N],by simp [O],by simp [v],by simp [L],by simp,by simp [z],by simp [a_],Fm.refl H,A,fun k h1 h2=>by omega,fun k h1 h2=>by omega⟩ ?_
  rintro w s ⟨lo,hi,t,H1,rfl,hw,h5,h6,g0,g1,g2,N,O,v,L,c_,z,a_,B,A,g_,f_⟩ ih;apply ak;apply ai;simp [z,a_];by_cases h_:lo<hi
  ·refine aq (by simp [h_]) (aO ?_);obtain⟨q,hq⟩:=aI ((lo+hi) / 2);refine aG ?_;apply ai;simp [z,a_,aU (n:=(lo:Int)+hi),ko (lo:=lo) (hi:=hi) (by omega),mh (lo:=lo) (hi:=hi) (by omega) hq,aU (n:=(q:Int))];obtain⟨x,y,F,ar,J,hx,hy,i1,j1,M,l2,f8,he,wx,wy⟩:=A.ask hg d9 Y hn (i:=p-q) (j:=q) (by omega) (by omega);rw [show((p-q:Nat):Int)=(p:Int)-q by omega]at i1;apply ai;simp [g0,O,c_,aU (n:=(p:Int)-q),i1,j1,M,l2,f8,he,-av];by_cases b9:c x y<0
   ·refine aD (by simp [b9]) (al (.inl rfl) ?_);simp;refine aw (ih (q-lo) _ (by omega) ⟨lo,q,_,_,rfl,by omega,h5,by omega,by simp [g0],by simp [g1],by simp [g2],by simp [N],by simp [O],by simp [v],by simp [L],by simp [c_],by simp [z],by simp,B.trans (Fm.push _ _),A.push _,g_,fun k S k2=>?_⟩);exact((u2.le hc Y (i:=mid+m-1-k) (j:=p-q) (by omega) (by omega) (by omega)).trans hc Y (jS.of_lt hc Y hx hy b9) (by omega)).trans hc Y (u1.le hc Y (i:=q) (j:=k) (by omega) S (by omega)) (by omega)
   ·refine aq (by simp [b9]) (al (.inl rfl) ?_);simp [aU (n:=(q:Int)+1)];refine aw (ih (hi-(q+1)) _ (by omega) ⟨q+1,hi,_,_,rfl,by omega,by omega,h6,by simp [g0],by simp [g1],by simp [g2],by simp [N],by simp [O],by simp [v],by simp [L],by simp [c_],by simp,by simp [a_],B.trans (Fm.push _ _),A.push _,fun k S k2=>?_,f_⟩);exact((u1.le hc Y (i:=k) (j:=q) (by omega) (by omega) (by omega)).trans hc Y (jS.of_le hy hx b9) (by omega)).trans hc Y (u2.le hc Y (i:=p-q) (j:=mid+m-1-k) (by omega) (by omega) (by omega)) (by omega)
  refine aD (by simp [h_]) ?_;obtain rfl:lo=hi:=by omega
  refine bR (k':=[.code (vZ σ)]) rfl ?_;exact i_ _ _ s0 Z lo i5 h5 h6 g_ f_ (by simp [g0]) (by simp [g1]) (by simp [g2]) (by simp [N]) (by simp [O]) (by simp [v]) (by simp [L]) (by simp [z]) B A
 apply ak;apply ai;simp;by_cases d_:mid<m
 ·refine aq (by simp [d_]) ?_;have c2:(mid:Int)+m-e=((mid+m-e:Nat):Int):=by omega
  apply ai;simp [aU (n:=(mid:Int)+m-e)];refine al (.inl rfl) ?_;simp;exact i7 _ (mid+m-e) mid (.inl ⟨d_,by omega,rfl⟩) (by simp) (by simp) (by simp) (by simp) (by simp) (by simp) (by simp) (by simp [c2]) (by simp)
 ·refine aD (by simp [d_]) ?_;apply ai;simp;refine al (.inl rfl) ?_;simp;exact i7 _ a m (.inr ⟨by omega,rfl,rfl⟩) (by simp) (by simp) (by simp) (by simp) (by simp) (by simp) (by simp) (by simp) (by simp)
theorem aiV(hT:tab σ.amL=aa (amQ σ sz))(J:tab σ.ins=aa (ajr σ sz))(hM:tab σ.pU=aa (ab6 σ sz))(hR:tab σ.rot=aa (abG σ sz))(hS:tab σ.swr=aa (F2 σ sz))(g:Cv tab cv W c)(B:CS W c){H:aj}{rows:List (List FC)}{n:Nat}(F:rows.length=n)(hl:n<40)(y:RB H b sz ep rows)(E:cC sz rows)(L:∀ r ∈ rows,W r) :
  ∃ r H',Ev tab (.fn σ.amL) [.c (.sl b 0 n 0 ep sz),vi n,cv] H r H'∧(r=.t []∧Fm b H H'∧∃ l',RB H' b sz ep l'∧l'.Perm rows∧Up c 0 n l'):=by
 refine cJ hT rfl fun Q K=>?_;apply ai;simp;apply ai;simp;apply ak;refine aG ?_;refine iB ?_;apply ak;apply ai;simp;by_cases v:20≤n
 case neg=>
  refine aD (by simp;omega) ?_;refine bR (k':=[.code (zM σ)]) rfl ?_;obtain⟨r,Z,j,rfl,A,U,N,x,O⟩:=Du (a:=0) (e:=n) J g B F (by omega) y E L (by omega) (aft _);have j:=j.eq;simp at j;apply ai;simp [j];refine aG ?_;refine iB ?_;apply ak;apply ai;simp;refine aD (by simp;omega) ?_;refine bR (k':=[]) rfl ?_;exact cL (K _ _ _ rfl rfl ⟨rfl,A,U,N,x.1,O⟩)
 refine aq (by simp;omega) (aO ?_);obtain⟨r,Z,j,rfl,A,U,N,x,O⟩:=Du (a:=0) (e:=20) J g B F (by omega) y E L (by omega) v;have j:=j.eq;simp at j;have u:∀ {a e l},iH a e rows l→∀ r ∈ l,W r:=fun h r hr=>L r (h.1.mem_iff.1 hr);obtain⟨r,H2,q,rfl,S,M,X,Y,u2⟩:=Du (a:=20) (e:=n) J g B (x.len.trans F) (by omega) N (x.wK E) (u x) v (aft _);have q:=q.eq;simp at q;refine aG ?_;apply ai;simp [j];apply ai;simp;refine al (.inl rfl) ?_;simp [aU (n:=(20:Int)+20)];refine aw (qQ ?_);apply ak;apply ai;simp;refine aD (by simp [IntKind.wrap,IntKind.bits,IntKind.signed];omega) ?_;refine bR (k':=[.code (zM σ)]) rfl ?_;apply ai;simp [q];refine aG ?_;refine iB ?_;apply ak;apply ai;simp;have d:iH 0 n rows M:=(x.mono (aft _) v).trans (Y.mono (by omega) (aft _));have z:Up c 0 20 M:=O.of fun k _ k2=>Y.lt k2;by_cases I:20<n
 case neg=>
  obtain rfl:n=20:=by omega
  refine aD (by simp) ?_;refine bR (k':=[]) rfl ?_;exact cL (K _ _ _ rfl rfl ⟨rfl,A.trans S,M,X,d.1,z⟩)
 refine aq (by simp;omega) (aO ?_);obtain⟨r,H3,s,rfl,f3,l3,r3,s3,u3⟩:=aiG (b:=b) (ep:=ep) (sz:=sz) hM hR hS g B (n:=n) (by omega) n (a:=0) (m:=20) (e:=n) rfl (d.len.trans F) X (d.wK E) (u d) (by omega) I (aft _) z u2;have s:=s.eq;simp at s;refine aG ?_;apply ai;simp [aU (n:=(2:Int)*20)];apply ak;refine aG ?_;refine iB ?_;apply ak;apply ai;simp;refine aD (by simp [IntKind.wrap,IntKind.bits,IntKind.signed];omega) ?_;refine bR (k':=[.code (F1 σ),.inBlock 3,.inLoop (F0 σ),.inBlock 2]) rfl ?_;apply ak;apply ai;simp [aU (n:=(0:Int)+20),aU (n:=(20:Int))];apply ai;simp;refine aq (by simp;omega) ?_;refine al (.inl rfl) ?_;simp [s];refine al (.inl rfl) ?_;simp;refine aw (qQ ?_);apply ak;apply ai;simp;refine aD (by simp [IntKind.wrap,IntKind.bits,IntKind.signed];omega) ?_;refine bR (k':=[]) rfl ?_;exact cL (K _ _ _ rfl rfl ⟨rfl,A.trans (S.trans f3),l3,r3,s3.1.trans d.1,u3⟩)
end
end
section
open Go
def LX(H:aj)(c:C)(sz:Nat)(rows:List (List FC)):Prop:=(rows=[]∧(c=.f .au∨c=.f .es))∨(rows≠[]∧∃ b ep fl,c=.sl b 0 rows.length 0 ep sz∧H[b]?=aa (.cj sz (rows.flatten.map .f) fl ep .loc))
section
variable{H H':aj}{c c':C}{sz sz':Nat}{rows rows':List (List FC)}
theorem LR.x(h:LR H c sz rows):LX H c sz rows:=by
 rcases h with h | ⟨h,b,ep,rfl,h2⟩
 ·exact .inl h
 ·exact .inr ⟨h,b,ep,0,rfl,h2⟩
theorem LX.ot(h:LX H c sz rows){i:Nat}{cs:List C}{fl:Nat}(d:H[i]?=aa (.box cs fl)):bB c≠aa i:=by
 rcases h with⟨_,rfl | rfl⟩ | ⟨h,b,ep,fl,rfl,h2⟩
 ·simp [bB]
 ·simp [bB]
 ·intro e;cases e;rw [h2]at d;cases d
theorem LX.set(h:LX H c sz rows){i:Nat}(hi:bB c≠aa i)(x:bq):LX (H.set i x) c sz rows:=by
 rcases h with h | ⟨h,b,ep,fl,rfl,h2⟩
 ·exact .inl h
 ·have:i≠b:=by rintro rfl;exact hi rfl
  exact .inr ⟨h,b,ep,fl,rfl,by rw [AI this];exact h2⟩
theorem LX.mkH(h:LX H c' sz' rows')(n:Nat):gu (n+1) c' H=H∨∃ b ep fl d,bB c'=aa b∧H[b]?=aa (.cj sz' (rows'.flatten.map .f) fl ep .loc)∧gu (n+1) c' H=H.set b (.cj sz' (rows'.flatten.map .f) d ep .loc):=by
 rcases h with⟨_,rfl | rfl⟩ | ⟨j,b,ep,fl,rfl,h2⟩
 ·exact .inl rfl
 ·exact .inl rfl
 ·refine .inr ⟨b,ep,fl,Nat.max fl (0+rows'.length*sz'),rfl,h2,?_⟩;simp only [pF,h2];rw [tj];intro x g;have g:=List.mem_of_mem_drop (List.mem_of_mem_take g);obtain⟨m,_,rfl⟩:=asH.1 g;exact⟨_,rfl⟩
theorem LX.mk(h:LX H c sz rows)(s:LX H c' sz' rows')(n:Nat):LX (gu (n+1) c' H) c sz rows:=by
 rcases s.mkH n with e | ⟨j,m,q,d,x,g,e⟩
 ·rw [e];exact h
 ·rw [e];rcases h with h | ⟨h,b,ep,fl,rfl,h2⟩
  ·exact .inl h
  ·by_cases l:j=b
   ·subst l;rw [h2]at g;injection g with g;injection g with q1 u y v z;subst q1;rw [←u,←v];exact .inr ⟨h,j,ep,d,rfl,IN (an h2)⟩
   ·exact .inr ⟨h,b,ep,fl,rfl,by rw [AI l];exact h2⟩
theorem LX.aju(h:LX H c sz rows)(n:Nat){i:Nat}{cs:List C}{fl:Nat}(hi:H[i]?=aa (.box cs fl)):(gu (n+1) c H)[i]?=aa (.box cs fl):=by
 rcases h.mkH n with e | ⟨g,j,l,d,m,b,e⟩
 ·rw [e];exact hi
 ·rw [e];have:g≠i:=by rintro rfl;rw [hi]at b;cases b
  rw [AI this];exact hi
theorem LX.ex(h:LX H c sz rows)(hg:cC sz rows):∃ g,∀(H':aj) (n:Nat),LX H' c sz rows→eG (n+1) H' c=aa (sl g rows):=by
 by_cases d:rows=[]
 ·rcases h with⟨rfl,rfl | rfl⟩ | ⟨h,_⟩
  ·exact⟨.nil,fun _ _ _=>rfl⟩
  ·exact⟨.es,fun _ _ _=>rfl⟩
  ·exact absurd d h
 ·refine⟨.fs,fun H' n q=>?_⟩;rcases q with⟨e,_⟩ | ⟨m,b,ep,fl,rfl,h2⟩
  ·exact absurd e d
  ·have j:rows.length*sz=rows.flatten.length:=(ct hg).symm;simp only [lJ,h2];rw [ba ⟨trivial,trivial,by rw [asi,asN,j];exact aft _⟩,atf,arf (by rw [asi];omega),qU];cases rows with
   | nil=>exact absurd rfl d| cons x l=>simp [sl]
end
end
end Km
