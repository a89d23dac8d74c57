/-
  Our own small machine for Go code by value, held ub ta model: part 4. No program in GK.
-/
import Derived.Test.YtnaofdffomdmhaaGreatK3
import Derived.ChangeArms
import Derived.DataReads
import Derived.Deep.Slices
import Derived.ProofKit
import Derived.RowKit3
import Derived.Below
import Derived.Carry
import Derived.Laws.IdiomArrays
open Option renaming some → aa,none → ab
open Bool renaming true → ae,false → ag
open Nat renaming le_refl → at3, add_mul → auF, one_mul → av1, add_zero → avD, mul_le_mul_right → auO, min_eq_left → avm, le_max_left → auG, le_max_right → aut, le_trans → aum, lt_of_lt_of_le → auE, zero_le → avp, zero_add → auH
open Option renaming bind_some → auJ, bind_eq_some_iff → aup, map_eq_some_iff → at0
open List renaming map_cons → aug, foldl_cons → avt, mem_cons_of_mem → at5, flatten_cons → auu, length_append → at6, length_cons → auo, mem_cons_self → at4, take_succ_cons → avV, take_of_length_le → at8, mem_of_mem_take → auW, mem_map → auq, getElem?_eq_some_iff → atu, mem_of_getElem? → aue, drop_drop → ava, drop_eq_getElem_cons → at7, getElem?_eq_getElem → asZ, length_map → at9, length_drop → auf, map_append → au2, take_append_of_le_length → auw, drop_zero → au5, getElem?_map → auM, isEmpty_cons → av0, findIdx?_eq_some_iff_getElem → avk, getElem_mem → at2, getElem?_append_left → anc, getElem?_append_right → atZ, take_append_drop → auA, length_take → aur, flatten_append → avx, take_take → avA, append_nil → auR, getElem?_of_mem → auV, mem_cons → auc, mem_append_left → au7, mem_append_right → avO, getElem?_set_ne → aft, set_cons_succ → awc, append_assoc → auL, map_drop → av2, getElem?_set_self → atY, getElem?_take → auD, getElem?_drop → auj, ext_getElem? → avs, length_eq_zero_iff → auY, nil_append → ave, mem_of_mem_drop → au0, length_set → aul
open Bool renaming false_eq_true → aub, and_eq_true → atI
open Option.some renaming injEq → At
open Int renaming toNat_natCast → aui
set_option linter.unusedVariables false
set_option linter.constructorNameAsVariable false
set_option linter.unusedSimpArgs false
set_option linter.unusedSectionVars false
set_option maxRecDepth 100000
namespace Km
section
open Go
def P.Qk:Nat→Nat→P
 | 0,_=>.h| k+1,n=>if n=0 then .h else if n % 2=1 then .o (Qk k ((n-1) / 2))else .i (Qk k ((n-2) / 2))
def P.nat(n:Nat):P:=P.Qk n n
theorem oT:∀(k n:Nat),n≤k→(P.Qk k n).toNat=n
 | 0,n,b=>by simp [P.Qk,P.toNat];omega
 | k+1,n,b=>by
  unfold P.Qk;split
  ·simp [P.toNat, *]
  ·split
   ·simp [P.toNat];rw [oT k _ (by omega)];omega
   ·simp [P.toNat];rw [oT k _ (by omega)];omega
theorem sw(n:Nat):(P.nat n).toNat=n:=oT n n (at3 n)
theorem nat_ne{a b:Nat}(d:a≠b):P.nat a≠P.nat b:=fun e=>d (by rw [←sw a,←sw b,e])
theorem T.gN(v:V):∀(p:P) (t:T),(t.set p v).get p=v
 | .h,.e=>rfl| .h,.n _ _ _=>rfl| .o p,.e=>T.gN v p .e| .o p,.n l _ _=>T.gN v p l| .i p,.e=>T.gN v p .e| .i p,.n _ _ r=>T.gN v p r
theorem T.jE(v:V):∀(p q:P) (t:T),p≠q→(t.set p v).get q=t.get q
 | .h,.h,_,h=>absurd rfl h| .h,.o q,.e,_=>by cases q<;>rfl
 | .h,.i q,.e,_=>by cases q<;>rfl
 | .h,.o _,.n _ _ _,_=>rfl| .h,.i _,.n _ _ _,_=>rfl| .o _,.h,.e,_=>rfl| .o _,.h,.n _ _ _,_=>rfl| .i _,.h,.e,_=>rfl| .i _,.h,.n _ _ _,_=>rfl
 | .o p,.o q,.e,h=>by
  show(T.set .e p v).get q=_;rw [T.jE v p q .e (fun e=>h (by rw [e]))];cases q<;>rfl
 | .o p,.o q,.n l _ _,h=>T.jE v p q l (fun e=>h (by rw [e]))
 | .o p,.i q,.e,h=>by
  show T.get .e q=_;cases q<;>rfl
 | .o _,.i _,.n _ _ _,_=>rfl
 | .i p,.o q,.e,h=>by
  show T.get .e q=_;cases q<;>rfl
 | .i _,.o _,.n _ _ _,_=>rfl
 | .i p,.i q,.e,h=>by
  show(T.set .e p v).get q=_;rw [T.jE v p q .e (fun e=>h (by rw [e]))];cases q<;>rfl
 | .i p,.i q,.n _ _ r,h=>T.jE v p q r (fun e=>h (by rw [e]))
def T.g(t:T)(n:Nat):V:=t.get (P.nat n)
def T.s(t:T)(n:Nat)(v:V):T:=t.set (P.nat n) v
@[simp] theorem T.g_s (t:T) (n m:Nat) (v:V):(t.s n v).g m=if n=m then v else t.g m:=by
 unfold T.g T.s;split
 ·rename_i h;subst h;exact T.gN v _ t
 ·rename_i h;exact T.jE v _ _ t (nat_ne h)
def R(n:Nat):Arg:=.r (P.nat n)
def D(n:Nat):Option P:=aa (P.nat n)
def G(n:Nat)(w:Bool):Option (P × Bool):=aa (P.nat n,w)
abbrev vi(n:Int):V:=.c (.f (.int .i64 n))
abbrev vb(b:Bool):V:=.c (.f (.bool b))
abbrev fi(n:Int):FC:=.int .i64 n
@[simp] theorem DF (t:T) (n:Nat):(R n).ev t=t.g n:=rfl
@[simp] theorem atQ (t:T) (v:V):(Arg.k v).ev t=v:=rfl
@[simp] theorem as4 (t:T) (n:Nat) (v:V):jJ t (D n) v=t.s n v:=rfl
@[simp] theorem ao9 (t:T) (v:V):jJ t ab v=t:=rfl
@[simp] theorem aiV (t:T) (n:Nat):t.get (P.nat n)=t.g n:=rfl
@[simp] theorem alc (n:Nat) (ps:List P) (v:V) (b:List V) (t:T):cK (P.nat n::ps) (v::b) t=cK ps b (t.s n v):=rfl
@[simp] theorem aor (b:List V) (t:T):cK [] b t=t:=rfl
@[simp] theorem alf (t:T):wanted t ab=aa ae:=rfl
@[simp] theorem arz (t:T) (n:Nat) (w:Bool):wanted t (G n w)=match t.g n with
  | .c (.f (.bool b))=>aa (b == w)| .t []=>aa ag| _=>ab:=rfl
attribute [simp] dy
def KO(o:Option (V × aj))(t:T)(ds:List dK)(K:V→St→Prop):Prop:=∃ p,o=aa p∧K p.1 ⟨t,ds,p.2⟩
@[simp] theorem arK (v:V) (H:aj) (t:T) (ds:List dK) (K:V→St→Prop):KO (aa (v,H)) t ds K↔K v ⟨t,ds,H⟩:=⟨fun⟨_,h,k⟩=>by cases h;exact k,fun k=>⟨_,rfl,k⟩⟩
def KP(P:V→Prop)(t:T)(ds:List dK)(H:aj)(K:V→St→Prop):Prop:=∃ x,P x∧K x ⟨t,ds,H⟩
@[simp] theorem atr (x:V) (t:T) (ds:List dK) (H:aj) (K:V→St→Prop):KP (Eq x) t ds H K↔K x ⟨t,ds,H⟩:=⟨fun⟨_,h,k⟩=>by cases h;exact k,fun k=>⟨x,rfl,k⟩⟩
def E2(x:V)(H:aj)(y:V)(H':aj):Prop:=x=y∧H=H'
def KE(P:V→aj→Prop)(t:T)(ds:List dK)(K:V→St→Prop):Prop:=∃ x H,P x H∧K x ⟨t,ds,H⟩
@[simp] theorem atq (x:V) (H:aj) (t:T) (ds:List dK) (K:V→St→Prop):KE (E2 x H) t ds K↔K x ⟨t,ds,H⟩:=⟨fun⟨_,_,⟨b,d⟩,k⟩=>by cases b;cases d;exact k,fun k=>⟨x,H,⟨rfl,rfl⟩,k⟩⟩
section
variable(tab:TB)
def KC(b:Option (List V))(f:Nat)(t:T)(ds:List dK)(H:aj)(K:V→St→Prop):Prop:=∃ a,b=aa a∧KP (bo tab f a) t ds H K
def KD(c:Option (Callee × List V))(t:T)(ds:List dK)(H:aj)(K:V→St→Prop):Prop:=∃ a,c=aa a∧KE (Ev tab a.1 a.2 H) t ds K
def KS(os:List aP)(L:St→Prop)(s:St):Prop:=xq tab os s L
def FS(s:St)(K:St→Prop):Prop:=K s
def KV(o:Option P)(os:List aP)(L:St→Prop)(v:V)(s:St):Prop:=FS ⟨jJ s.aB o v,s.defs,s.heap⟩ (KS tab os L)
def GRD(w:Option Bool)(op:cX)(o:Option P)(os:List aP)(L:St→Prop)(s:St):Prop:=
 match w with
 | some ae=>jP tab s op (KV tab o os L)| some ag=>FS ⟨jJ s.aB o (.t []),s.defs,s.heap⟩ (KS tab os L)| none=>False
end
section
variable{tab:TB}{t:T}{ds:List dK}{H:aj}{K:V→St→Prop}{L:St→Prop}
@[simp] theorem arI (a:List V) (f:Nat):KC tab (aa a) f t ds H K↔KP (bo tab f a) t ds H K:=⟨fun⟨_,h,k⟩=>by cases h;exact k,fun k=>⟨_,rfl,k⟩⟩
@[simp] theorem arJ (c:Callee) (a:List V):KD tab (aa (c,a)) t ds H K↔KE (Ev tab c a H) t ds K:=⟨fun⟨_,h,k⟩=>by cases h;exact k,fun k=>⟨_,rfl,k⟩⟩
@[simp] theorem atn (s:St) (K:St→Prop):FS s K↔K s:=Iff.rfl
@[simp ↓] theorem ats (os:List aP) (s:St):KS tab os L s↔xq tab os s L:=Iff.rfl
@[simp ↓] theorem att (o:Option P) (os:List aP) (v:V):KV tab o os L v ⟨t,ds,H⟩↔FS ⟨jJ t o v,ds,H⟩ (KS tab os L):=Iff.rfl
@[simp ↓] theorem atp (op:cX) (o:Option P) (os:List aP) (s:St):GRD tab (aa ae) op o os L s↔jP tab s op (KV tab o os L):=Iff.rfl
@[simp ↓] theorem ato (op:cX) (o:Option P) (os:List aP):GRD tab (aa ag) op o os L ⟨t,ds,H⟩↔FS ⟨jJ t o (.t []),ds,H⟩ (KS tab os L):=Iff.rfl
theorem Gb{b:Bool}{op:cX}{o:Option P}{os:List aP}{s:St}(d:b=ag→GRD tab (aa ae) op o os L s)(g:b=ae→GRD tab (aa ag) op o os L s):GRD tab (aa !b) op o os L s:=by
 cases b
 ·exact d rfl
 ·exact g rfl
@[simp ↓] theorem arL (s:St):xq tab [] s L↔L s:=Iff.rfl
@[simp ↓] theorem ap_ (o:Option P) (op:cX) (os:List aP):xq tab (⟨o,op,ab⟩::os) ⟨t,ds,H⟩ L↔jP tab ⟨t,ds,H⟩ op (KV tab o os L):=Iff.rfl
@[simp ↓] theorem aoN (o:Option P) (op:cX) (n:Nat) (w:Bool) (os:List aP) :
  xq tab (⟨o,op,G n w⟩::os) ⟨t,ds,H⟩ L↔GRD tab (wanted t (G n w)) op o os L ⟨t,ds,H⟩:=by
 simp only [xq];rcases b:wanted t (G n w)with _ | _ | _<;>exact Iff.rfl
def cX.plain:cX→Bool
 | .call _ _ _ | .cm _ _ _ | .recover | .defer _ _=>ag| _=>ae
theorem cz{op:cX}(h:op.plain=ae):jP tab ⟨t,ds,H⟩ op K↔KO (bu t H op) t ds K:=by
 have:jP tab ⟨t,ds,H⟩ op K↔∃ v H',bu t H op=aa (v,H')∧K v ⟨t,ds,H'⟩:=by
  cases op<;>first | exact Iff.rfl | simp [cX.plain]at h
 rw [this];exact⟨fun⟨v,H',h,k⟩=>⟨(v,H'),h,k⟩,fun⟨p,h,k⟩=>⟨p.1,p.2,h,k⟩⟩
@[simp ↓] theorem ar_ (x:Arg):jP tab ⟨t,ds,H⟩ (.bc x) K↔KO (bu t H (.bc x)) t ds K:=cz rfl
@[simp ↓] theorem aq9 (c a b:Arg):jP tab ⟨t,ds,H⟩ (.pick c a b) K↔KO (bu t H (.pick c a b)) t ds K:=cz rfl
@[simp ↓] theorem aoY (zs:List FC):jP tab ⟨t,ds,H⟩ (.alloc zs) K↔KO (bu t H (.alloc zs)) t ds K:=cz rfl
@[simp ↓] theorem ar7 (x:Arg):jP tab ⟨t,ds,H⟩ (.box x) K↔KO (bu t H (.box x)) t ds K:=cz rfl
@[simp ↓] theorem aoZ (zs:List FC) (b:List (Nat × Nat × Arg)):jP tab ⟨t,ds,H⟩ (.build zs b) K↔KO (bu t H (.build zs b)) t ds K:=cz rfl
@[simp ↓] theorem an4 (sz:Nat) (zs:List FC) (len:Nat) (b:List (Nat × Arg)):jP tab ⟨t,ds,H⟩ (.bH sz zs len b) K↔KO (bu t H (.bH sz zs len b)) t ds K:=cz rfl
@[simp ↓] theorem aq5 (n:Option Nat) (x:Arg):jP tab ⟨t,ds,H⟩ (.load n x) K↔KO (bu t H (.load n x)) t ds K:=cz rfl
@[simp ↓] theorem ao7 (n:Nat) (x y:Arg):jP tab ⟨t,ds,H⟩ (.store n x y) K↔KO (bu t H (.store n x y)) t ds K:=cz rfl
@[simp ↓] theorem an9 (x:Arg):jP tab ⟨t,ds,H⟩ (.cj x) K↔KO (bu t H (.cj x)) t ds K:=cz rfl
@[simp ↓] theorem ar6 (op:BinOp) (x y:Arg):jP tab ⟨t,ds,H⟩ (.bin op x y) K↔KO (bu t H (.bin op x y)) t ds K:=cz rfl
@[simp ↓] theorem as2 (neg:Bool) (k:FE) (x y:Arg):jP tab ⟨t,ds,H⟩ (.eq neg k x y) K↔KO (bu t H (.eq neg k x y)) t ds K:=cz rfl
@[simp ↓] theorem as3 (op:UnOp) (x:Arg):jP tab ⟨t,ds,H⟩ (.un op x) K↔KO (bu t H (.un op x)) t ds K:=cz rfl
@[simp ↓] theorem ar9 (k:IntKind) (x:Arg):jP tab ⟨t,ds,H⟩ (.fO k x) K↔KO (bu t H (.fO k x)) t ds K:=cz rfl
@[simp ↓] theorem aq8 (f:Nat) (b:List Arg):jP tab ⟨t,ds,H⟩ (.fP f b) K↔KO (bu t H (.fP f b)) t ds K:=cz rfl
@[simp ↓] theorem ao5:jP tab ⟨t,ds,H⟩ .jH K↔KO (bu t H .jH) t ds K:=cz rfl
@[simp ↓] theorem an8 (d:CK) (b:FC) (m k:Arg):jP tab ⟨t,ds,H⟩ (.lookup d b m k) K↔KO (bu t H (.lookup d b m k)) t ds K:=cz rfl
@[simp ↓] theorem ao4 (b:CK) (m k v:Arg):jP tab ⟨t,ds,H⟩ (.ja b m k v) K↔KO (bu t H (.ja b m k v)) t ds K:=cz rfl
@[simp ↓] theorem ak' (sz bytes:Nat) (zs:List FC) (l c:Arg):jP tab ⟨t,ds,H⟩ (.dR sz bytes zs l c) K↔KO (bu t H (.dR sz bytes zs l c)) t ds K:=cz rfl
@[simp ↓] theorem ao6 (sz:Nat) (x:Arg) (lo hi mx:Option Arg):jP tab ⟨t,ds,H⟩ (.slice sz x lo hi mx) K↔KO (bu t H (.slice sz x lo hi mx)) t ds K:=cz rfl
@[simp ↓] theorem an5 (off:Nat) (x:Arg):jP tab ⟨t,ds,H⟩ (.aU off x) K↔KO (bu t H (.aU off x)) t ds K:=cz rfl
@[simp ↓] theorem ao3 (off:Nat) (n:Option Nat) (x:Arg):jP tab ⟨t,ds,H⟩ (.field off n x) K↔KO (bu t H (.field off n x)) t ds K:=cz rfl
@[simp ↓] theorem an7 (sz:Nat) (b:Option Nat) (x i:Arg):jP tab ⟨t,ds,H⟩ (.bI sz b x i) K↔KO (bu t H (.bI sz b x i)) t ds K:=cz rfl
@[simp ↓] theorem ak9 (x:Arg) (i:Nat):jP tab ⟨t,ds,H⟩ (.extract x i) K↔KO (bu t H (.extract x i)) t ds K:=cz rfl
@[simp ↓] theorem ar' (x:Arg):jP tab ⟨t,ds,H⟩ (.len x) K↔KO (bu t H (.len x)) t ds K:=cz rfl
@[simp ↓] theorem ar8 (x:Arg):jP tab ⟨t,ds,H⟩ (.cap x) K↔KO (bu t H (.cap x)) t ds K:=cz rfl
@[simp ↓] theorem an3 (sz bytes:Nat) (x y:Arg):jP tab ⟨t,ds,H⟩ (.append sz bytes x y) K↔KO (bu t H (.append sz bytes x y)) t ds K:=cz rfl
@[simp ↓] theorem aq6 (lo:Bool) (xs:List Arg):jP tab ⟨t,ds,H⟩ (.gR lo xs) K↔KO (bu t H (.gR lo xs)) t ds K:=cz rfl
@[simp ↓] theorem aq3 (sz bytes:Nat) (zs:List FC) (x n:Arg):jP tab ⟨t,ds,H⟩ (.lK sz bytes zs x n) K↔KO (bu t H (.lK sz bytes zs x n)) t ds K:=cz rfl
@[simp ↓] theorem ao2 (sz:Nat) (zs:List FC) (x:Arg):jP tab ⟨t,ds,H⟩ (.clear sz zs x) K↔KO (bu t H (.clear sz zs x)) t ds K:=cz rfl
@[simp ↓] theorem an6 (sz:Nat) (zs:List FC) (len:Nat) (b:List (Nat × Arg)):jP tab ⟨t,ds,H⟩ (.fJ sz zs len b) K↔KO (bu t H (.fJ sz zs len b)) t ds K:=cz rfl
@[simp ↓] theorem aq7 (f:Nat) (xs:List Arg):jP tab ⟨t,ds,H⟩ (.mZ f xs) K↔KO (bu t H (.mZ f xs)) t ds K:=cz rfl
@[simp ↓] theorem aq4 (f:Nat) (args:List Arg):jP tab ⟨t,ds,H⟩ (.call f args ag) K ↔
  KC tab (bj (cD deep H) (dy t args)) f t ds ((dy t args).foldl (mkV deep) H) K:=by
 simp only [jP,KC,KP];constructor
 ·intro h;rw [aY (by simp)]at h;obtain⟨b,r,d,g,j⟩:=h;exact⟨b,d,r,g,j⟩
 ·rintro⟨b,d,r,g,j⟩;rw [aY (by simp)];exact⟨b,r,d,g,j⟩
@[simp ↓] theorem ao1 (f:Nat) (args:List Arg):jP tab ⟨t,ds,H⟩ (.call f args ae) K↔KD tab (aa (.fn f,dy t args)) t ds H K:=by simp [jP,KD,KE]
@[simp ↓] theorem ao0 (x:Arg) (args:List Arg) (h:Bool):jP tab ⟨t,ds,H⟩ (.cm x args h) K↔KD tab (bZ (x.ev t) (dy t args)) t ds H K:=by
 simp only [jP,KD,KE];constructor
 ·rintro⟨c,as,r,H',b,d,g⟩;exact⟨(c,as),b,r,H',d,g⟩
 ·rintro⟨⟨c,as⟩,b,r,H',d,g⟩;exact⟨c,as,r,H',b,d,g⟩
end
def DP:V→Option Bool
 | .c (.f (.bool b))=>aa b| _=>ab
@[simp] theorem aoO (b:Bool):DP (.c (.f (.bool b)))=aa b:=rfl
section
variable{t:T}{H:aj}
@[simp] theorem atG (x:Arg):bu t H (.bc x)=aa (x.ev t,H):=rfl
@[simp] theorem atH (o:Os) (sz:Nat):bu t H (.pre o sz)=if o=.loc∨sz=0 then ab else aa (.c (.sl H.length 0 0 0 0 sz),H++[.b5 sz [] 0 0 o]):=rfl
@[simp] theorem atl (c x y:Arg):bu t H (.pick c x y)=(DP (c.ev t)).map fun b=>(if b then x.ev t else y.ev t,H):=by
 simp only [bu,DP];split
 ·rename_i b h;simp only [h];cases b<;>rfl
 ·rename_i h;split
  ·rename_i b d;exact absurd d (h b)
  ·rfl
@[simp] theorem ash (zs:List FC):bu t H (.alloc zs)=aa (.c (.ptr H.length 0 0),H++[.box (zs.map .f) 0]):=rfl
@[simp] theorem atC (x:Arg):bu t H (.box x)=(x.ev t).cells?.map fun xs=>(.c (.ptr H.length 0 0),H++[.box xs 0]):=by
 simp only [bu];cases (x.ev t).cells?<;>rfl
@[simp] theorem asi (zs:List FC) (ps:List (Nat × Nat × Arg)):bu t H (.build zs ps)=(dE t (zs.map .f) ps).map fun cs=>(.a cs,H):=rfl
@[simp] theorem arD (sz:Nat) (zs:List FC) (n:Nat) (ps:List (Nat × Arg)):bu t H (.bH sz zs n ps) =
  if n=0 then(if ps.isEmpty then aa (.c (.f .es),H)else ab)else
  (dE t ((cE n zs).map .f) (ps.map fun p=>(p.1*sz,sz,p.2))).map fun cs=>(.c (.sl H.length 0 n n 0 sz),H++[.box cs 0]):=rfl
@[simp] theorem ath (n:Option Nat) (x:Arg):bu t H (.load n x)=(aV H n (x.ev t)).map (·,H):=rfl
def AO(H:aj)(n:Nat)(x y:V):Option aj:=
 match x,y.cells? with
 | .c p,aa xs=>if xs.length=n then dh H p xs else ab| _,_=>ab
@[simp] theorem asp (n:Nat) (x y:Arg):bu t H (.store n x y)=(AO H n (x.ev t) (y.ev t)).map (.top,·):=by
 simp only [bu,AO];cases x.ev t with
 | c p=>cases (y.ev t).cells? with
  | none=>rfl| some xs=>by_cases h:xs.length=n<;>simp [h]
 | _=>rfl
@[simp] theorem art (n:Nat) (p:C) (y:V):AO H n (.c p) y=y.cells?.bind fun xs=>if xs.length=n then dh H p xs else ab:=by
 simp only [AO];cases y.cells?<;>rfl
@[simp] theorem atB (op:BinOp) (x y:Arg):bu t H (.bin op x y)=(dp op (x.ev t) (y.ev t)).map (·,H):=rfl
@[simp] theorem atW (neg:Bool) (k:FE) (x y:Arg):bu t H (.eq neg k x y)=(D0 H k (x.ev t) (y.ev t)).map fun b=>(vb (if neg then !b else b),H):=rfl
@[simp] theorem atX (op:UnOp) (x:Arg):bu t H (.un op x)=(unV op (x.ev t)).map (·,H):=rfl
def anl(k:IntKind):V→Option V
 | .c (.f (.int _ n))=>aa (.c (.f (.int k (k.wrap n))))| _=>ab
@[simp] theorem asG (k j:IntKind) (n:Int):anl k (.c (.f (.int j n)))=aa (.c (.f (.int k (k.wrap n)))):=rfl
@[simp] theorem atE (k:IntKind) (x:Arg):bu t H (.fO k x)=(anl k (x.ev t)).map (·,H):=by
 simp only [bu,anl];split
 ·rename_i h;simp only [h];rfl
 ·rename_i h;split
  ·rename_i b;exact absurd b (h _ _)
  ·rfl
@[simp] theorem atk (f:Nat) (b:List Arg):bu t H (.fP f b)=(bj mL (dy t b)).map fun xs=>(.c (.cl f xs),H):=rfl
@[simp] theorem atj (f:Nat) (b:List Arg):bu t H (.mZ f b)=(bj mL (dy t b)).map fun xs=>(.c (.bm f xs),H):=rfl
@[simp] theorem asn (sz:Nat) (x:Arg) (lo hi mx:Option Arg):bu t H (.slice sz x lo hi mx)=(dk H sz (x.ev t) (lo.map (·.ev t)) (hi.map (·.ev t)) (mx.map (·.ev t))).map (·,H):=rfl
@[simp] theorem arF (sz:Nat) (zs:List FC) (n:Nat) (ps:List (Nat × Arg)):bu t H (.fJ sz zs n ps)=((dE t ((cE n zs).map .f) (ps.map fun p=>(p.1*sz,sz,p.2))).bind fun cs=>if n=0 then ab else fcL cs).map fun b=>(.c (.f (.fs b n)),H):=rfl
@[simp] theorem atm (sz:Nat) (x hi mx:Arg):bu t H (.wP sz x hi mx)=CW H sz (x.ev t) (hi.ev t) (mx.ev t):=rfl
@[simp] theorem asm (n sz:Nat) (x:Arg) (lo hi mx:Option Arg):bu t H (.nm n sz x lo hi mx)=(kH H n sz (x.ev t) (lo.map (·.ev t)) (hi.map (·.ev t)) (mx.map (·.ev t))).map (·,H):=rfl
@[simp] theorem aso (x:Arg) (lo hi:Option Arg):bu t H (.oB x lo hi)=(wS (x.ev t) (lo.map (·.ev t)) (hi.map (·.ev t))).map (·,H):=rfl
@[simp] theorem arE (o:Nat) (x:Arg):bu t H (.aU o x)=(jf o (x.ev t)).map (·,H):=rfl
@[simp] theorem asl (o:Nat) (n:Option Nat) (x:Arg):bu t H (.field o n x)=(ku o n (x.ev t)).map (·,H):=rfl
@[simp] theorem arG (sz:Nat) (b:Option Nat) (x i:Arg):bu t H (.bI sz b x i)=(bG H sz b (x.ev t) (i.ev t)).map (·,H):=rfl
@[simp] theorem atf (x i:Arg):bu t H (.idxs x i)=(B6 (x.ev t) (i.ev t)).map (·,H):=rfl
@[simp] theorem ate (len sz:Nat) (n:Option Nat) (x i:Arg):bu t H (.xB len sz n x i)=(B5 len sz n (x.ev t) (i.ev t)).map (·,H):=rfl
def cOf:V→Option C
 | .c x=>aa x| _=>ab
@[simp] theorem atv (x:C):cOf (.c x)=aa x:=rfl
@[simp] theorem atF (x:Arg):bu t H (.len x)=((cOf (x.ev t)).bind (bA H)).map fun n=>(vi (n:Nat),H):=by
 simp only [bu,cOf];cases x.ev t with
 | c y=>simp only [auJ];cases bA H y<;>rfl
 | _=>rfl
@[simp] theorem atD (x:Arg):bu t H (.cap x)=((cOf (x.ev t)).bind (jb H)).map fun n=>(vi (n:Nat),H):=by
 simp only [bu,cOf];cases x.ev t with
 | c y=>simp only [auJ];cases jb H y<;>rfl
 | _=>rfl
def strOf:V→Option ByteArray
 | .c (.f (.str s))=>aa s| _=>ab
@[simp] theorem asc (s:ByteArray):strOf (.c (.f (.str s)))=aa s:=rfl
@[simp] theorem atg (n:Nat):bu t H (.nZ n)=aa (vi (n:Nat),H):=rfl
@[simp] theorem arC (sz bytes:Nat) (x y:Arg):bu t H (.append sz bytes x y)=cG H sz bytes (x.ev t) (y.ev t):=rfl
@[simp] theorem atd (sz:Nat) (x y:Arg):bu t H (.copy sz x y)=copyV H sz (x.ev t) (y.ev t):=rfl
@[simp] theorem ati (lo:Bool) (xs:List Arg):bu t H (.gR lo xs)=(xG lo (dy t xs)).map (·,H):=rfl
def tOf:V→Option (List V)
 | .t b=>aa b| _=>ab
@[simp] theorem atA (b:List V):tOf (.t b)=aa b:=rfl
@[simp] theorem ao_ (x:Arg) (i:Nat):bu t H (.extract x i)=(tOf (x.ev t)).bind fun d=>d[i]?.map (·,H):=by
 simp only [bu,tOf];split
 ·rename_i h;simp only [h];rfl
 ·rename_i h;split
  ·rename_i b;exact absurd b (h _)
  ·rfl
def uC:V→Option V
 | .c (.ptr b o e)=>aa (.c (.ptr b o e))| .c (.f (.fp cs o))=>aa (.c (.f (.fp cs o)))| _=>ab
@[simp] theorem an0 (b o e:Nat):uC (.c (.ptr b o e))=aa (.c (.ptr b o e)):=rfl
@[simp] theorem aoX (cs:List FC) (o:Nat):uC (.c (.f (.fp cs o)))=aa (.c (.f (.fp cs o))):=rfl
@[simp] theorem arH (x:Arg):bu t H (.cj x)=(uC (x.ev t)).map (·,H):=by
 simp only [bu,uC];split
 ·rename_i h;simp only [h];rfl
 ·rename_i h;simp only [h];rfl
 ·rename_i b d;split
  ·rename_i h;exact absurd h (b _ _ _)
  ·rename_i h;exact absurd h (d _ _)
  ·rfl
@[simp] theorem aoR (f:Nat) (b:List FC) (args:List V):bZ (.c (.f (.fn f b))) args=aa (.fn f,args++b.map fun x=>.c (.f x)):=rfl
@[simp] theorem aoQ (f:Nat) (b:List C) (args:List V):bZ (.c (.cl f b)) args=aa (.fn f,args++b.map .c):=rfl
@[simp] theorem aoP (f:Nat) (first:List C) (args:List V):bZ (.c (.bm f first)) args=aa (.fn f,first.map .c++args):=rfl
end
section
variable{k:IntKind}{a b:Int}{H:aj}
@[simp] theorem arM:dp .add (.c (.f (.int k a))) (.c (.f (.int k b)))=aa (.c (.f (.int k (k.wrap (a+b))))):=by simp [dp,nX,V.int]
@[simp] theorem arU:dp .sub (.c (.f (.int k a))) (.c (.f (.int k b)))=aa (.c (.f (.int k (k.wrap (a-b))))):=by simp [dp,nX,V.int]
@[simp] theorem arS:dp .mul (.c (.f (.int k a))) (.c (.f (.int k b)))=aa (.c (.f (.int k (k.wrap (a*b))))):=by simp [dp,nX,V.int]
theorem uc(h:b≠0):dp .quo (.c (.f (.int k a))) (.c (.f (.int k b)))=aa (.c (.f (.int k (k.wrap (a.tdiv b))))):=by simp [dp,nX,V.int,h]
theorem iy(h:b≠0):dp .rem (.c (.f (.int k a))) (.c (.f (.int k b)))=aa (.c (.f (.int k (a.tmod b)))):=by simp [dp,nX,V.int,h]
@[simp] theorem arN:dp .eql (.c (.f (.int k a))) (.c (.f (.int k b)))=aa (vb (decide (a=b))):=by simp [dp,nX,V.bool];rfl
@[simp] theorem arT:dp .neq (.c (.f (.int k a))) (.c (.f (.int k b)))=aa (vb (!decide (a=b))):=by simp [dp,nX,V.bool];rfl
@[simp] theorem arR:dp .lss (.c (.f (.int k a))) (.c (.f (.int k b)))=aa (vb (decide (a<b))):=by simp [dp,nX,V.bool]
@[simp] theorem arQ:dp .leq (.c (.f (.int k a))) (.c (.f (.int k b)))=aa (vb (decide (a≤b))):=by simp [dp,nX,V.bool]
@[simp] theorem arP:dp .gtr (.c (.f (.int k a))) (.c (.f (.int k b)))=aa (vb (decide (b<a))):=by simp [dp,nX,V.bool]
@[simp] theorem arO:dp .geq (.c (.f (.int k a))) (.c (.f (.int k b)))=aa (vb (decide (b≤a))):=by simp [dp,nX,V.bool]
@[simp] theorem aqv {x y:Bool}:PK .bool (.f (.bool x)) (.f (.bool y))=aa (x == y):=rfl
@[simp] theorem arZ:PK .int (.f (.int k a)) (.f (.int k b))=aa (a == b):=by simp [PK]
@[simp] theorem ar0 {x y:ByteArray}:PK .str (.f (.str x)) (.f (.str y))=aa (x == y):=rfl
@[simp] theorem arY:qM [] [] []=aa ae:=rfl
@[simp] theorem aqu {q:CK} {qs:List CK} {x y:C} {xs ys:List C}:qM (q::qs) (x::xs) (y::ys)=(PK q x y).bind fun c=>(qM qs xs ys).map fun d=>c&&d:=by
 simp only [qM];cases PK q x y<;>cases qM qs xs ys<;>rfl
@[simp] theorem aqw {x y:Bool}:D0 H .bool (.c (.f (.bool x))) (.c (.f (.bool y)))=aa (x == y):=rfl
@[simp] theorem asJ {b:List CK} {xs ys:List C}:D0 H (.st b) (.a xs) (.a ys)=qM b xs ys:=rfl
@[simp] theorem atc {x:Bool}:unV .not (.c (.f (.bool x)))=aa (vb (!x)):=rfl
@[simp] theorem ant {o c o' ep:Nat}:jf o (.c (.ptr c o' ep))=aa (.c (.ptr c (o'+o) ep)):=rfl
@[simp] theorem aoT {o o':Nat} {cs:List FC}:jf o (.c (.f (.fp cs o')))=aa (.c (.f (.fp cs (o'+o)))):=rfl
@[simp] theorem arX {x:C}:(V.c x).cells?=aa [x]:=rfl
@[simp] theorem arW {xs:List C}:(V.a xs).cells?=aa xs:=rfl
@[simp] theorem atL {n:Nat} {x:FC}:ek n H (.f x)=aa x:=by cases n<;>rfl
@[simp] theorem atx {n:Nat} {x:C}:cD n H (.c x)=(ek n H x).map fun y=>.c (.f y):=rfl
@[simp] theorem atz {n f:Nat} {b:List C}:ek (n+1) H (.cl f b)=(bj (ek n H) b).map (.fn f):=rfl
@[simp] theorem asK {n b o e:Nat}:ek (n+1) H (.ptr b o e)=match H[b]? with
  | some (.box cs _)=>(bj (ek n H) cs).map (.fp · o)| _=>ab:=rfl
theorem mr{n b o l c ep sz:Nat}:ek (n+1) H (.sl b o l c ep sz)=match H[b]? with
  | some (.box cs _)=>if o+l*sz≤cs.length then(bj (ek n H) ((cs.drop o).take (l*sz))).map (.fs · l)else ab| some (.b5 s cs _ e .loc)=>if ep=e∧sz=s∧o+l*sz≤cs.length then(bj (ek n H) ((cs.drop o).take (l*sz))).map (.fs · l)else ab| some (.b5 s _ _ e .nil)=>if ep=e∧sz=s then aa .aw else ab| some (.b5 s _ _ e .es)=>if ep=e∧sz=s then aa .es else ab| _=>ab:=rfl
theorem Ew{n b o e:Nat}:gD (n+1) (.ptr b o e) H=match H[b]? with
  | some (.box cs fl)=>cs.foldl (fun H x=>gD n x H) (H.set b (.box cs (Nat.max fl cs.length)))
  | _=>H:=rfl
theorem qf{n b o l c e sz:Nat}:gD (n+1) (.sl b o l c e sz) H=match H[b]? with
  | some (.box cs fl)=>((cs.drop o).take (l*sz)).foldl (fun H x=>gD n x H) (H.set b (.box cs (Nat.max fl (o+l*sz))))
  | some (.b5 s cs fl e d)=>((cs.drop o).take (l*sz)).foldl (fun H x=>gD n x H) (H.set b (.b5 s cs (Nat.max fl (o+l*sz)) e d))
  | _=>H:=rfl
theorem acz{n f:Nat}{b:List C}:gD (n+1) (.cl f b) H=b.foldl (fun H x=>gD n x H) H:=rfl
@[simp] theorem atT {n:Nat} {x:C}:mkV n H (.c x)=gD n x H:=rfl
@[simp] theorem aty {n:Nat} {x:C}:iZ n H (.c x)=(ek n H x).map fun y=>.c (.f y):=rfl
theorem sq{n:Nat}:∀(xs:List FC),bj (ek n H) (xs.map .f)=aa xs
 | []=>rfl| x::xs=>by simp [bj,sq xs]
@[simp] theorem atw {n:Nat} {xs:List C}:cD n H (.a xs)=(bj (ek n H) xs).map fun ys=>.a (ys.map .f):=rfl
@[simp] theorem ar3 {n:Nat} (xs:List FC):bj (ek n H) (xs.map .f)=aa xs:=sq xs
@[simp] theorem atS {n:Nat} {xs:List C}:mkV n H (.a xs)=xs.foldl (fun H x=>gD n x H) H:=rfl
@[simp] theorem ak8 {n:Nat} {x:FC}:gD n (.f x) H=H:=by cases n<;>rfl
@[simp] theorem aoV {n:Nat} (xs:List FC):(xs.map C.f).foldl (fun H x=>gD n x H) H=H:=by
 induction xs with
 | nil=>rfl| cons x xs b=>simp only [aug,avt];rw [ak8];exact b
end
theorem wrap64{n:Int}(b:-9223372036854775808≤n)(d:n≤9223372036854775807):IntKind.wrap .i64 n=n:=by
 simp only [IntKind.wrap,IntKind.bits,IntKind.signed];simp;omega
theorem aW{n:Int}(b:-9223372036854775808≤n:=by omega)(d:n≤9223372036854775807:=by omega):IntKind.wrap .i64 n=n:=wrap64 b d
@[simp] theorem cast_eq (a b:Nat):((a:Int)=(b:Int))=(a=b):=propext Int.natCast_inj
@[simp] theorem aqX {b d:Type} (g:b→Option d):bj g []=aa []:=rfl
@[simp] theorem aoW {b d:Type} (g:b→Option d) (x:b) (xs:List b):bj g (x::xs)=(g x).bind fun y=>(bj g xs).map (y::·):=by
 simp only [bj];cases g x<;>cases bj g xs<;>simp
@[simp] theorem asd (x:C) (xs:List C):aT ab (x::xs)=aa (.c x):=rfl
@[simp] theorem ase (n:Nat) (xs:List C):aT (aa n) xs=if n≤xs.length then aa (.a (xs.take n))else ab:=rfl
@[simp] theorem aA (H:aj) (n:Option Nat) (b o ep:Nat):aV H n (.c (.ptr b o ep))=match H[b]? with
  | some (.box cs _)=>aT n (cs.drop o)| some (.b5 _ cs _ e .loc)=>if ep=e then aT n (cs.drop o)else ab| _=>ab:=by
 simp only [aV,aG];split
 ·rename_i h;simp only [h];rfl
 ·rename_i h;simp only [h];split<;>rfl
 ·rename_i d g;split
  ·rename_i h;exact absurd h (d _ _)
  ·rename_i h;exact absurd h (g _ _ _ _)
  ·rfl
theorem ou(H:aj)(n:Option Nat)(cs:List FC)(o:Nat):aV H n (.c (.f (.fp cs o)))=aT n ((cs.drop o).map .f):=rfl
@[simp] theorem bl (H:aj) (b o ep:Nat) (xs:List C):dh H (.ptr b o ep) xs=match H[b]? with
  | some (.box cs fl)=>if fl≤o∧o+xs.length≤cs.length then aa (H.set b (.box (bp cs o xs) fl))else ab| some (.b5 sz cs fl e .loc)=>if ep=e∧fl≤o∧o+xs.length≤cs.length then aa (H.set b (.b5 sz (bp cs o xs) fl e .loc))else ab| _=>ab:=rfl
attribute [simp] bp cE
@[simp] theorem an_ (t:T) (cs:List C):dE t cs []=aa cs:=rfl
@[simp] theorem ak_ (t:T) (cs:List C) (o n:Nat) (x:Arg) (ps:List (Nat × Nat × Arg)):dE t cs ((o,n,x)::ps)=(x.ev t).cells?.bind fun xs=>if xs.length=n∧o+xs.length≤cs.length then dE t (bp cs o xs) ps else ab:=by
 simp only [dE];cases (x.ev t).cells?<;>rfl
@[simp] theorem asE (x:FC):mL (.c (.f x))=aa (.f x):=rfl
@[simp] theorem aqs (b o e:Nat):mL (.c (.ptr b o e))=aa (.ptr b o e):=rfl
@[simp] theorem arV (b o l c e s:Nat):mL (.c (.sl b o l c e s))=aa (.sl b o l c e s):=rfl
def aoH:V→Option V
 | .t _=>ab| v=>aa v
@[simp] theorem atb (x:C):aoH (.c x)=aa (.c x):=rfl
@[simp] theorem ata (x:List C):aoH (.a x)=aa (.a x):=rfl
@[simp] theorem asa (t:T) (H:aj) (n:Nat):cN t H (.tmp (P.nat n))=aoH (t.g n):=by
 simp only [cN,aiV];cases t.g n<;>rfl
@[simp] theorem ard (t:T) (H:aj) (n:Nat) (k:Option Nat):cN t H (.cell (P.nat n) k)=aV H k (t.g n):=rfl
@[simp] theorem ar1 {t:T} {H:aj} {x:gG} {r:V}:tf [x] r ⟨t,[],H⟩↔∃ b,cN t H x=aa b∧iZ deep H b=aa r:=by
 simp only [tf,results,true_and,bj];cases cN t H x<;>simp
@[simp] theorem ar2 {t:T} {H:aj} {x y:gG} {a b:V}:tf [x,y] (.t [a,b]) ⟨t,[],H⟩ ↔
  (∃ d,cN t H x=aa d∧cD deep H d=aa a)∧∃ d,cN t H y=aa d∧cD deep H d=aa b:=by
 simp only [tf,results,true_and,bj];cases cN t H x with
 | none=>simp
 | some u=>cases cN t H y with
  | none=>simp| some w=>cases g:cD deep H u<;>cases j:cD deep H w<;>simp [iZ,g,j]
@[simp] theorem aoU {t:T} {H:aj} {x y z:gG} {a b c:V}:tf [x,y,z] (.t [a,b,c]) ⟨t,[],H⟩ ↔
  (∃ d,cN t H x=aa d∧cD deep H d=aa a)∧(∃ d,cN t H y=aa d∧cD deep H d=aa b)∧∃ d,cN t H z=aa d∧cD deep H d=aa c:=by
 simp only [tf,results,true_and,bj];cases cN t H x with
 | none=>simp
 | some u=>cases cN t H y with
  | none=>simp
  | some w=>cases cN t H z with
   | none=>simp| some q=>cases g:cD deep H u<;>cases j:cD deep H w<;>cases l:cD deep H q<;>simp [iZ,g,j,l]
inductive Tg where | nil | es | fs
 deriving DecidableEq
def Tg.fc:Tg→FC
 | .nil=>.aw| .es=>.es| .fs=>.fs [] 0
def sl(g:Tg)(rows:List (List FC)):FC:=if rows.isEmpty then g.fc else .fs rows.flatten rows.length
def cr(sz:Nat)(rows:List (List FC)):Prop:=∀ r ∈ rows,r.length=sz
theorem bW{sz:Nat}:∀ {rows:List (List FC)},cr sz rows→rows.flatten.length=rows.length*sz
 | [],_=>by simp
 | r::rows,h=>by
  have:=bW (rows:=rows) fun x b=>h x (at5 _ b);simp only [auu,at6,auo,this,h r at4,auF,av1];omega
theorem rq{sz:Nat}:∀ {rows:List (List FC)} (j:Nat),cr sz rows→rows.flatten.drop (j*sz)=(rows.drop j).flatten
 | rows,0,_=>by simp
 | [],j+1,_=>by simp
 | r::rows,j+1,h=>by
  have b:=h r at4;have:=rq (rows:=rows) j fun x d=>h x (at5 _ d);rw [auu,List.drop_succ_cons,←this,auF,av1,List.drop_append,b];simp [b,show j*sz+sz-sz=j*sz by omega]
theorem nU{sz:Nat}:∀ {rows:List (List FC)} (j:Nat),cr sz rows→rows.flatten.take (j*sz)=(rows.take j).flatten
 | rows,0,_=>by simp
 | [],j+1,_=>by simp
 | r::rows,j+1,h=>by
  have b:=h r at4;have:=nU (rows:=rows) j fun x d=>h x (at5 _ d);rw [auu,avV,auu,←this,auF,av1,List.take_append,b];simp [b,show j*sz+sz-sz=j*sz by omega];rw [at8 (by omega)]
theorem cr.take{sz:Nat}{rows:List (List FC)}(h:cr sz rows)(n:Nat):cr sz (rows.take n):=fun r hr=>h r (auW hr)
theorem cr.map{b:Type}{sz:Nat}{l:List b}{g:b→List FC}(h:∀ x,(g x).length=sz):cr sz (l.map g):=fun r hr=>by
 obtain⟨x,_,rfl⟩:=auq.1 hr;exact h x
theorem vq{sz j k:Nat}{rows:List (List FC)}{row:List FC}(d:cr sz rows)(b:rows[j]?=aa row)(l:k≤sz) :
  rows.flatten.drop (j*sz+k)=row.drop k++(rows.drop (j+1)).flatten:=by
 have g:j<rows.length:=(atu.1 b).1;have m:row.length=sz:=d row (aue b);rw [←ava,rq j d,at7 g,auu];have:rows[j]=row:=by simpa [asZ g]using b
 rw [this,List.drop_append,show k-row.length=0 by omega];simp
variable{H:aj}
theorem il{sz j k:Nat}{rows:List (List FC)}{row:List FC}{x:FC}(b:cr sz rows)(d:rows[j]?=aa row)(l:row[k]?=aa x) :
  aV H ab (.c (.f (.fp rows.flatten (j*sz+k))))=aa (.c (.f x)):=by
 have m:row.length=sz:=b row (aue d);have g:k<row.length:=(atu.1 l).1;have e:=vq (k:=k) b d (by omega);simp only [aV,aG,auJ,e];rw [at7 g];have:row[k]=x:=by simpa [asZ g]using l
 simp [aT,this]
theorem ajf{sz j k n:Nat}{rows:List (List FC)}{row:List FC}(b:cr sz rows)(d:rows[j]?=aa row)(g:k+n≤sz) :
  aV H (aa n) (.c (.f (.fp rows.flatten (j*sz+k))))=aa (.a (((row.drop k).take n).map .f)):=by
 have l:row.length=sz:=b row (aue d);have e:=vq (k:=k) b d (by omega);simp only [aV,aG,auJ,e];simp only [aT];rw [bg (by simp only [at9,at6,auf];omega)];rw [au2,auw (by simp only [at9,auf];omega),List.map_take]
theorem bL{sz j:Nat}{rows:List (List FC)}{row:List FC}(b:cr sz rows)(d:rows[j]?=aa row) :
  aV H (aa sz) (.c (.f (.fp rows.flatten (j*sz))))=aa (.a (row.map .f)):=by
 have g:row.length=sz:=b row (aue d);have:=ajf (H:=H) (k:=0) (n:=sz) b d (by omega);simp only [avD,au5]at this;rw [this,at8 (by omega)]
theorem pZ{sz j:Nat}{rows:List (List FC)}{row:List FC}{x:FC}(b:cr sz rows)(d:rows[j]?=aa row)(g:row[0]?=aa x) :
  aV H ab (.c (.f (.fp rows.flatten (j*sz))))=aa (.c (.f x)):=il (k:=0) b d g
theorem aje{j:Nat}{l:List Int}{x:Int}(b:l[j]?=aa x) :
  aV H ab (.c (.f (.fp (l.map fun n=>[fi n]).flatten (j*1))))=aa (vi x):=
 pZ (row:=[fi x]) (cr.map fun _=>rfl) (by rw [auM,b];rfl) rfl
@[simp] theorem Ee (g:Tg) (rows:List (List FC)):bA H (.f (sl g rows))=aa rows.length:=by
 cases rows with
 | nil=>cases g<;>rfl
 | cons r rows=>rfl
theorem bt{g:Tg}{rows:List (List FC)}{sz:Nat}{k:IntKind}{i:Int}(h0:0≤i)(b:i<rows.length) :
  bG H sz ab (.c (.f (sl g rows))) (.c (.f (.int k i)))=aa (.c (.f (.fp rows.flatten (i.toNat*sz)))):=by
 cases rows with
 | nil=>simp at b;omega
 | cons r rows=>
  simp only [auo]at b;simp [bG,ik,sl,h0];omega
theorem BG{g:Tg}{rows:List (List FC)}{sz:Nat}(b:cr sz rows):cO H sz (.f (sl g rows))=aa (rows.flatten.map .f):=by
 cases rows with
 | nil=>cases g<;>simp [sl,Tg.fc,cO]
 | cons r rows=>
  have:=bW b;simp only [sl,av0,aub,if_false,cO,this,if_true]
end
section
open Go
def Kf(tab:TB)(f:Nat)(args:List V)(r:V):Prop:=∀ H,∃ J,Ev tab (.fn f) args H r (H++J)
section
variable{tab:TB}{f:Nat}{args:List V}{r:V}
theorem Kf.pure{x:FC}(h:Kf tab f args (.c (.f x))):bo tab f args (.c (.f x)):=by
 obtain⟨J,h⟩:=h [];exact⟨_,_,h,by simp⟩
theorem Kf.eq{x:FC}(h:Kf tab f args (.c (.f x))):bo tab f args=Eq (.c (.f x)):=
 funext fun r=>propext ⟨fun k=>h.pure.det k,fun e=>e▸h.pure⟩
theorem bo.eq{r:V}(h:bo tab f args r):bo tab f args=Eq r:=funext fun _=>propext ⟨fun k=>h.det k,fun e=>e▸h⟩
noncomputable def ai9 (tab:TB) (f:Nat) (args:List V) (H:aj):aj:=Classical.epsilon fun J=>∃ r,Ev tab (.fn f) args H r (H++J)
theorem Kf.ev(h:Kf tab f args r)(H:aj):Ev tab (.fn f) args H=E2 r (H++ai9 tab f args H):=by
 have j:∃ J,∃ r,Ev tab (.fn f) args H r (H++J):=by obtain⟨J,b⟩:=h H;exact⟨J,r,b⟩
 have l:∃ r,Ev tab (.fn f) args H r (H++ai9 tab f args H):=Classical.epsilon_spec j;obtain⟨J,b⟩:=h H;obtain⟨r',hr⟩:=l;obtain⟨rfl,e⟩:=b.det hr;funext x H';exact propext ⟨fun k=>hr.det k,fun⟨d,g⟩=>d▸g▸hr⟩
theorem Ev.eq{c:Callee}{H H':aj}(h:Ev tab c args H r H'):Ev tab c args H=E2 r H':=funext fun _=>funext fun _=>propext ⟨fun k=>h.det k,fun⟨b,d⟩=>b▸d▸h⟩
theorem Kf.EP{xs:List FC}(h:Kf tab f args (.a (xs.map .f))):bo tab f args (.a (xs.map .f)):=by
 obtain⟨J,h⟩:=h [];exact⟨_,_,h,by simp [iZ]⟩
def aim(b:List gG)(r:V)(H:aj)(s:St):Prop:=s.defs=[]∧results s.aB s.heap b=aa r∧∃ J,s.heap=H++J
theorem cP{ps:List P}{b:List gG}{body:aE}(y:tab f=aa ⟨ps,b,body⟩)(x:args.length=ps.length)
  (h:∀(H:aj) (Q:Option aE→St→Prop),(∀ j s,aim b r H s→Q j s)→WP tab f ab [.code body] ⟨cK ps args .e,[],H⟩ Q):Kf tab f args r:=by
 intro H;have g:=h H (fun _ s=>aim b r H s) fun _ _ h=>h;obtain⟨n,m,d,j,s,l,v,q,J,u⟩:=g;exact⟨J,sM y x ⟨n,m,d,j,s,l,0,0,s.heap,by rw [v];rfl,by rw [q],u⟩⟩
@[simp] theorem aqA {t:T} {H H':aj} {x:gG}:aim [x] r H ⟨t,[],H'⟩↔cN t H' x=aa r∧∃ J,H'=H++J:=by
 simp only [aim,results,true_and,bj];cases cN t H' x<;>simp
theorem qp{m d:Nat}{x:V}(h:((CF tab m d (.fn f) args []).bind fun p=>iZ deep p.2 p.1)=aa x):bo tab f args x:=by
 rw [aup]at h;obtain⟨⟨r,H'⟩,b,g⟩:=h;exact⟨r,H',⟨m,d,b⟩,g⟩
theorem atU{tab:TB}{f:Nat}{args:List V}{x:V}(h:((CF tab 60 10 (.fn f) args []).bind fun p=>iZ deep p.2 p.1)=aa x):bo tab f args=Eq x:=bo.eq (qp h)
theorem dG{S:V→Prop}{ps:List P}{b:List gG}{body:aE}(z:tab f=aa ⟨ps,b,body⟩)(x:args.length=ps.length)
  (h:∀ Q:Option aE→St→Prop,(∀ j s r,S r→tf b r s→Q j s)→WP tab f ab [.code body] ⟨cK ps args .e,[],[]⟩ Q):∃ r,S r∧bo tab f args r:=by
 have q:=h (fun _ s=>∃ r,S r∧tf b r s) fun _ _ r g l=>⟨r,g,l⟩
 obtain⟨n,m,d,j,s,g,r,y,v,A,l,u⟩:=q;exact⟨r,y,A,s.heap,sM z x ⟨n,m,d,j,s,g,0,0,s.heap,by rw [v];rfl,l,rfl⟩,u⟩
variable{fn i:Nat}{ro:Option Nat}{k:List cZ}{ds:List dK}{Q:Option aE→St→Prop}
def rZ(a x:Nat):aE:=.region [⟨D x,.bin .add (R a) (.k (.c (.f (.int .i64 1)))),ab⟩,⟨D a,.bc (R x),ab⟩] []
def iu(i a b c x:Nat)(body:aE):aE:=.seq (.region [⟨D c,.bin .lss (R a) (R b),ab⟩] []) (.seq (.cond (R c) .skip (.exit i)) (.seq body (rZ a x)))
def Ae(i a b c x:Nat)(body:aE):aE:=.block i (.loop (iu i a b c x body))
theorem bR{a b c x:Nat}{body:aE}{t:T}{H:aj}(N:Nat)(I:Nat→T→aj→Prop)(F:N≤9223372036854775807)(y:a≠b)(A:x≠b)
  (g:t.g a=vi 0) (l:t.g b=vi N) (h0:I 0 t H)
  (step:∀ j t H,j<N→I j t H→t.g a=vi j→t.g b=vi N →
   (∀ q H',I (j+1) ((q.s x (vi (j+1:Nat))).s a (vi (j+1:Nat))) H'→q.g a=vi j→q.g b=vi N →
    WP tab fn ro (.code (rZ a x)::.inLoop (iu i a b c x body)::.inBlock i::k) ⟨q,ds,H'⟩ Q) →
   WP tab fn ro (.code body::.code (rZ a x)::.inLoop (iu i a b c x body)::.inBlock i::k) ⟨t.s c (vb ae),ds,H⟩ Q)
  (done:∀ t H,I N t H→t.g a=vi N→t.g b=vi N→WP tab fn ro k ⟨t.s c (vb ag),ds,H⟩ Q) :
  WP tab fn ro (.code (Ae i a b c x body)::k) ⟨t,ds,H⟩ Q:=by
 have m:∀ ops:List aP,ops.all (·.op.dS)=ae→ro=ab∨ops.all (·.op.dS)=ae:=fun _ h=>.inr h;refine aF ?_;refine cH (fun n s=>∃ j t H,s=⟨t,ds,H⟩∧j≤N∧n=N-j∧I j t H∧t.g a=vi j∧t.g b=vi N) N ⟨0,t,H,rfl,by omega,by omega,h0,g,l⟩ ?_;rintro n s ⟨j,t,H,rfl,J,rfl,B,g,l⟩ E;apply al;refine an (m _ rfl) ?_;simp [g,l];by_cases d:j<N
 ·rw [decide_eq_true d];apply al;refine aq (by simp) ?_;refine aO ?_;apply al;refine step j t H d B g l fun q H' u v z=>?_;refine an (m _ rfl) ?_;simp [v];rw [aW];refine E (N-(j+1)) _ (by omega) ⟨j+1,_,H',rfl,by omega,rfl,by simpa using u,by simp,?_⟩;simp [y,A,z]
 ·have:j=N:=by omega
  subst this;rw [decide_eq_false d];apply al;refine aD (by simp) ?_;refine bJ (k':=k) (by simp [exitTo]) ?_;exact done t H B g l
def ab6(a x y:Nat):aE:=.region [⟨D x,.bc (R a),ab⟩,⟨D y,.bin .add (R x) (.k (.c (.f (.int .i64 1)))),ab⟩,⟨D a,.bc (R y),ab⟩] []
def AF(i a c x y:Nat)(b:List aP)(body:aE):aE:=.seq (.seq (.region b []) (.cond (R c) .skip (.exit i))) (.seq body (ab6 a x y))
def abu(i a c x y:Nat)(b:List aP)(body:aE):aE:=.block i (.loop (AF i a c x y b body))
theorem ji{a c x y:Nat}{g:List aP}{body:aE}{t:T}{H:aj}(N:Nat)(I:Nat→T→aj→Prop)(J:N≤9223372036854775807)(B:g.all (·.op.dS)=ae)
  (d:t.g a=vi 0) (h0:I 0 t H)
  (l:∀ j t H (L:St→Prop),j≤N→I j t H→t.g a=vi j→(∀ b,I j b H→b.g a=vi j→b.g c=vb (decide ((j:Int)<(N:Int)))→L ⟨b,ds,H⟩)→xq tab g ⟨t,ds,H⟩ L)
  (step:∀ j t H,j<N→I j t H→t.g a=vi j →
   (∀ b H',I (j+1) (((b.s x (vi j)).s y (vi (j+1:Nat))).s a (vi (j+1:Nat))) H'→b.g a=vi j →
    WP tab fn ro (.code (ab6 a x y)::.inLoop (AF i a c x y g body)::.inBlock i::k) ⟨b,ds,H'⟩ Q) →
   WP tab fn ro (.code body::.code (ab6 a x y)::.inLoop (AF i a c x y g body)::.inBlock i::k) ⟨t,ds,H⟩ Q)
  (done:∀ t H,I N t H→t.g a=vi N→WP tab fn ro k ⟨t,ds,H⟩ Q) :
  WP tab fn ro (.code (abu i a c x y g body)::k) ⟨t,ds,H⟩ Q:=by
 have m:∀ ops:List aP,ops.all (·.op.dS)=ae→ro=ab∨ops.all (·.op.dS)=ae:=fun _ h=>.inr h;refine aF ?_;refine cH (fun n s=>∃ j t H,s=⟨t,ds,H⟩∧j≤N∧n=N-j∧I j t H∧t.g a=vi j) N ⟨0,t,H,rfl,by omega,by omega,h0,d⟩ ?_;rintro n s ⟨j,t,H,rfl,E,rfl,q,d⟩ F;apply al;apply al;refine an (m _ B) ?_;refine l j t H _ E q d fun b q d u=>?_;by_cases A:j<N
 ·rw [decide_eq_true (by omega)]at u;refine aq u ?_;refine aO ?_;apply al;refine step j b H A q d fun b H' v z=>?_;refine an (m _ rfl) ?_;simp [z];rw [aW];exact F (N-(j+1)) _ (by omega) ⟨j+1,_,H',rfl,by omega,rfl,by simpa using v,by simp⟩
 ·have:j=N:=by omega
  subst this;rw [decide_eq_false (by omega)]at u;refine aD u ?_;refine bJ (k':=k) (by simp [exitTo]) ?_;exact done b H q d
end
end
section
open Go
def kv{b:Type}(l:List b)(p:b→Bool):Int:=match l.findIdx? p with | some j=>j | none=>-1
theorem PQ{b:Type}(l:List b)(p:b→Bool):decide (0≤kv l p)=l.any p:=by
 unfold kv;cases h:l.findIdx? p with
 | none=>
  rw [List.findIdx?_eq_none_iff]at h;have:l.any p=ag:=by rw [List.any_eq_false];intro x m;simp [h x m]
  simp [this]
 | some j=>
  rw [avk]at h;obtain⟨d,g,_⟩:=h;have:l.any p=ae:=by rw [List.any_eq_true];exact⟨l[j],at2 d,g⟩
  simp [this]
theorem PO{b:Type}{l:List b}{p:b→Bool}{j:Nat}(d:j<l.length)(m:p l[j]=ae)(g:∀(i:Nat) (hi:i<j),p (l[i]'(by omega))=ag):kv l p=j:=by
 have:l.findIdx? p=aa j:=by
  rw [avk];exact⟨d,m,fun i hi=>by simp [g i hi]⟩
 simp [kv,this]
theorem PR{b:Type}{l:List b}{p:b→Bool}(d:∀(i:Nat) (hi:i<l.length),p l[i]=ag):kv l p = -1:=by
 have:l.findIdx? p=ab:=by
  rw [List.findIdx?_eq_none_iff];intro x g;obtain⟨i,hi,rfl⟩:=List.getElem_of_mem g;exact d i hi
 simp [kv,this]
def ints(l:List Int):List (List FC):=l.map fun n=>[fi n]
@[simp] theorem aqM (l:List Int):(ints l).length=l.length:=by simp [ints]
theorem jG{j:Nat}{l:List Int}(b:j<l.length){H:aj}:aV H ab (.c (.f (.fp (ints l).flatten j)))=aa (vi l[j]):=by
 have:=aje (H:=H) (asZ b);simpa [ints]using this
variable{tab:TB}
def ai3(t:List aP):aE:=.block 1 (.seq (.region [⟨D 10,.bc (R 8),ab⟩,⟨D 5,.bc (R 10),ab⟩] []) (.seq
 (.region t []) (.cond (R 16) (.seq (.region [⟨D 17,.bc (R 5),ab⟩,⟨D 4,.bc (R 17),ab⟩] []) .ret) .skip)))
def anE(t:List aP):aL:=⟨[P.nat 0,P.nat 1],[.tmp (P.nat 4)],.seq (.region [⟨D 4,.bc (.k (.c (.f (.int .i64 0)))),ab⟩] [])
 (.seq (.seq (.region [⟨D 6,.bc (R 0),ab⟩,⟨D 7,.len (R 6),ab⟩,⟨D 8,.bc (.k (.c (.f (.int .i64 0)))),ab⟩] []) (Ae 0 8 7 9 18 (ai3 t)))
 (.seq (.region [⟨D 4,.bc (.k (.c (.f (.int .i64 (-1))))),ab⟩] []) .ret))⟩
def akW:List aP:=[⟨D 11,.bc (R 1),ab⟩,⟨D 12,.bc (R 0),ab⟩,⟨D 13,.bc (R 5),ab⟩,⟨D 14,.bI 1 ab (R 12) (R 13),ab⟩,⟨D 15,.load ab (R 14),ab⟩,⟨D 16,.bin .eql (R 11) (R 15),ab⟩]
def akU(sz:Nat)(b:Option Nat):List aP:=[⟨D 11,.bc (R 1),ab⟩,⟨D 12,.bc (R 0),ab⟩,⟨D 13,.bc (R 5),ab⟩,⟨D 14,.bI sz ab (R 12) (R 13),ab⟩,⟨D 15,.load b (R 14),ab⟩,⟨D 16,.cm (R 11) [(R 15)] ae,ab⟩]
theorem ab3{f:Nat}{d:List aP}(U:tab f=aa (anE d)){x y:V}{E:Type}{l:List E}{p:E→Bool}(S:l.length≤9223372036854775807)
  (W:∃ c,x=.c c∧∀ H,bA H c=aa l.length)
  (g:∀(j:Nat) (v:j<l.length) (t:T) (H:aj) (L:St→Prop),t.g 0=x→t.g 1=y→t.g 5=vi j →
   (∀ b J,b.g 0=x→b.g 1=y→b.g 5=vi j→b.g 7=t.g 7→b.g 8=t.g 8→b.g 16=vb (p l[j])→L ⟨b,[],H++J⟩)→xq tab d ⟨t,[],H⟩ L) :
  Kf tab f [x,y] (vi (kv l p)):=by
 obtain⟨c,rfl,N⟩:=W;refine cP U rfl fun H Q A=>?_;apply al;refine an (.inl rfl) ?_;simp;apply al;apply al;refine an (.inl rfl) ?_;simp [N];refine bR l.length (fun j t H'=>t.g 0=.c c∧t.g 1=y∧(∃ J,H'=H++J)∧∀(i:Nat) (hi:i<l.length),i<j→p l[i]=ag) S (by decide) (by decide) (by simp) (by simp) (by simp) ?_ ?_
 ·rintro j t _ v ⟨h0,z,⟨J,rfl⟩,q⟩ u B next
  refine aF ?_;apply al;refine an (.inl rfl) ?_;simp [u];apply al;refine an (.inl rfl) ?_;refine g j v _ _ _ (by simp [h0]) (by simp [z]) (by simp) fun b J' g0 F I K M m=>?_;cases s:p l[j]with
  | true=>
   refine aq (by simp [m,s]) ?_;apply al;refine an (.inl rfl) ?_;simp [I];refine aC (A _ _ ?_);have:=PO v s (fun i hi=>q i (by omega) hi);simp [this]
  | false=>
   refine aD (by simp [m,s]) ?_;refine aO (az (next _ _ ?_ (by simp [M,u]) (by simp [K,B])));refine⟨by simp [g0],by simp [F],⟨J++J',by simp⟩,fun i hi O=>?_⟩;by_cases e:i=j
   ·subst e;exact s
   ·exact q i hi (by omega)
 ·rintro t _ ⟨h0,z,⟨J,rfl⟩,q⟩ u B;apply al;refine an (.inl rfl) ?_;simp;refine aC (A _ _ ?_);have:=PR (l:=l) (p:=p) (fun i hi=>q i hi hi);simp [this]
theorem Ai{f:Nat}(x:tab f=aa (anE akW))(g:Tg)(l:List Int)(v:Int)(u:l.length≤9223372036854775807) :
  Kf tab f [.c (.f (sl g (ints l))),vi v] (vi (kv l (· == v))):=by
 refine ab3 x u ⟨_,rfl,fun H=>by simp⟩ ?_;intro j s t H L h0 b d m;simp [akW,h0,b,d,bt,s,jG];have:=m ((((((t.s 11 (vi v)).s 12 (.c (.f (sl g (ints l))))).s 13 (vi j)).s 14 (.c (.f (.fp (ints l).flatten j)))).s 15 (vi l[j])).s 16 (vb (decide (v=l[j])))) [] (by simp [h0]) (by simp [b]) (by simp [d]) (by simp) (by simp) (by
  have q:decide (v=l[j])=(l[j] == v):=by rw [Bool.eq_iff_iff];simp;exact eq_comm
  simp only [T.g_s,if_true,q])
 simpa using this
theorem kY{f sz:Nat}{v:Option Nat}(E:tab f=aa (anE (akU sz v))){q:Type}(l:List q)(enc:q→List FC)(val:q→V)(p:q→Bool)(g:Tg)(k:Nat)(b:List FC)
  (A:l.length≤9223372036854775807) (d:∀(j:Nat) (m:j<l.length) (H:aj),aV H v (.c (.f (.fp (l.map enc).flatten (j*sz))))=aa (val l[j]))
  (B:∀ x ∈ l,Kf tab k (val x::b.map fun c=>.c (.f c)) (vb (p x))) :
  Kf tab f [.c (.f (sl g (l.map enc))),.c (.f (.fn k b))] (vi (kv l p)):=by
 refine ab3 E A ⟨_,rfl,fun H=>by simp⟩ ?_;intro j m t H L h0 s u y;have z:=(B l[j] (at2 m)).ev H;have hi:=bt (H:=H) (g:=g) (rows:=l.map enc) (sz:=sz) (k:=.i64) (i:=(j:Int)) (by omega) (by simpa using m);simp [akU,h0,s,u,hi,d j m,z];exact y _ _ (by simp [h0]) (by simp [s]) (by simp [u]) (by simp) (by simp) (by simp)
def PD(f:Nat):aL:=⟨[P.nat 0,P.nat 1],[.tmp (P.nat 4)],.seq (.region [⟨D 4,.bc (.k (.c (.f (.bool ag)))),ab⟩] []) (.seq
 (.region [⟨D 5,.bc (R 0),ab⟩,⟨D 6,.bc (R 1),ab⟩,⟨D 7,.call f [(R 5),(R 6)] ag,ab⟩,⟨D 8,.bin .geq (R 7) (.k (.c (.f (.int .i64 0)))),ab⟩,⟨D 4,.bc (R 8),ab⟩] []) .ret)⟩
theorem gq{f k:Nat}(m:tab f=aa (PD k)){a b:FC}{d:Type}{l:List d}{p:d→Bool}(h:Kf tab k [.c (.f a),.c (.f b)] (vi (kv l p))) :
  Kf tab f [.c (.f a),.c (.f b)] (vb (l.any p)):=by
 refine cP m rfl fun H Q g=>?_;apply al;refine an (.inl rfl) ?_;simp;apply al;refine an (.inl rfl) ?_;have j:=h.eq;simp [j];refine aC (g _ _ ?_);simp [PQ]
end
section
open Go
theorem au{H:aj}{b:Nat}{x:bz}(h:H[b]?=aa x):b<H.length:=(atu.1 h).1
variable{z:Bool}{H H':aj}{sz bytes:Nat}{v y:V}{g:Tg}{rows:List (List FC)}{row:List FC}{cs:List C}
theorem ri{b fl c:Nat}(h:H[b]?=aa (.box cs fl))(d:cs.length=sz):cV H sz (.c (.sl b 0 1 c 0 sz))=aa (1,cs):=by
 simp [cV,bA,cO,h,d];rw [←d,List.take_length]
end
section
open Go
def Db(P:Program):List Field→Nat→Nat→Bool
 | [],o,n=>o == n| f::b,o,n=>f.offset == o&&Db P b (o+P.cellsOf f.type) n
def gb(P:Program):Nat→TypeId→Bool
 | 0,_=>ag
 | n+1,t=>match P.underlying t with
  | some .bool=>P.cellsOf t == 1| some (.int _)=>P.cellsOf t == 1| some .string=>P.cellsOf t == 1| some (.slice e)=>P.cellsOf t == 1&&P.cellsOf e != 0&&gb P n e| some (.struct b)=>Db P b.toList 0 (P.cellsOf t)&&b.toList.all fun f=>gb P n f.type
  | some (.array k e)=>P.cellsOf t == k*P.cellsOf e&&gb P n e| _=>ag
def yp(S:TypeId→List FC→Prop):List TypeId→List FC→Prop
 | [],xs=>xs=[]| t::ts,xs=>∃ p q,xs=p++q∧S t p∧yp S ts q
def qK(P:Program):Nat→TypeId→List FC→Prop
 | 0,_,_=>False
 | n+1,t,xs=>match P.underlying t with
  | some .bool=>∃ b,xs=[.bool b]| some (.int k)=>∃ m,xs=[.int k m]∧(Lit.int k m).wf=ae| some .string=>∃ s,xs=[.str s]∧s.size≤maxLen| some (.slice e)=>∃ g rows,xs=[sl g rows]∧cr (P.cellsOf e) rows∧rows.length≤maxLen∧∀ r ∈ rows,qK P n e r| some (.struct d)=>yp (qK P n) (d.toList.map (·.type)) xs| some (.array k e)=>∃ rows,xs=rows.flatten∧rows.length=k∧cr (P.cellsOf e) rows∧∀ r ∈ rows,qK P n e r| _=>False
theorem vw{m:Type}{sz:Nat}:∀ {rows:List (List m)} {j k:Nat} {row:List m},(∀ r ∈ rows,r.length=sz)→rows[j]?=aa row→k<sz→rows.flatten[j*sz+k]?=row[k]?
 | [],j,k,row,_,b,_=>by simp at b
 | r::rows,0,k,row,d,b,g=>by
  simp at b;subst b;have:=d r at4;rw [auu,anc (by omega)];simp
 | r::rows,j+1,k,row,d,b,g=>by
  have l:=d r at4;rw [auu,atZ (by rw [l,auF];omega)];have e:(j+1)*sz+k-r.length=j*sz+k:=by rw [l,auF];omega
  rw [e];exact vw (rows:=rows) (fun x q=>d x (at5 _ q)) (by simpa using b) g
theorem vz{d:Type}{sz:Nat}:∀ {rows:List (List d)},(∀ r ∈ rows,r.length=sz)→rows.flatten.length=rows.length*sz
 | [],_=>by simp
 | r::rows,h=>by
  have:=vz (rows:=rows) fun x b=>h x (at5 _ b);simp only [auu,at6,auo,this,h r at4,auF,av1];omega
def EE(w:World):Nat→Nat→Prop:=fun c _=>c<w.heap.size
theorem FR{w:World}{a:Addr}{v:Value}(h:w.cell? a=aa v):a.block<w.heap.size∧a.spot=ab:=by
 unfold World.cell? at h;split at h
 ·rename_i b;split at h
  ·simp at h
  ·rename_i d;refine⟨?_,by simpa using d⟩;exact(Array.getElem?_eq_some_iff.1 b).1
 ·simp at h
theorem A2.flatten{l m:Type}{R:l→m→Prop}{g:List (List l)}{d:List (List m)}(j:g.length=d.length)
  (h:∀(i:Nat) xs ys,g[i]?=aa xs→d[i]?=aa ys→A2 R xs ys):A2 R g.flatten d.flatten:=by
 induction g generalizing d with
 | nil=>cases d with
  | nil=>exact A2.nil| cons y ys=>simp at j
 | cons x xs u=>cases d with
  | nil=>simp at j
  | cons y ys=>
   rw [auu,auu];exact(h 0 x y rfl rfl).append (u (by simpa using j) fun i a b q s=>h (i+1) a b (by simpa using q) (by simpa using s))
section
variable{H:Type}{enc:TypeId × Value→H}{P:Program}{w:World}{base:Nat}{spare:Nat→Bool}{held:Bool}{σ:Nat→FuncId}
def ap'(σ:Nat→FuncId)(P:Program)(w:World)(n:Nat)(t:TypeId)(cs:List Value):Prop:=∃ xs,A2 (cT σ (EE w) w) xs cs∧qK P n t xs
theorem sO{n:Nat}(v:∀ {t:TypeId} {fuel:Nat} {cs:List Value} {x:DataW H × List MemPlace},gb P n t=ae→DataW.trod enc P w base spare held fuel t cs=aa x→ap' σ P w n t cs∧cs.length=P.cellsOf t)
  {fuel:Nat}:∀(b:List Field) (o N:Nat) (cs:List Value),Db P b o N=ae→(b.all fun f=>gb P n f.type)=ae→cs.length=N →
   (∀ f ∈ b,∃ x,DataW.trod enc P w base spare held fuel f.type ((cs.drop f.offset).take (P.cellsOf f.type))=aa x) →
   ∃ xs,A2 (cT σ (EE w) w) xs (cs.drop o)∧yp (qK P n) (b.map (·.type)) xs
 | [],o,N,cs,d,_,m,_=>by
  simp [Db]at d;exact⟨[],by rw [List.drop_of_length_le (by omega)];exact A2.nil,rfl⟩
 | f::b,o,N,cs,d,l,m,u=>by
  simp only [Db,atI,beq_iff_eq]at d;simp only [List.all_cons,atI]at l;obtain⟨x,j⟩:=u f at4;rw [d.1]at j;obtain⟨⟨p,z,B⟩,s⟩:=v l.1 j;obtain⟨q,A,E⟩:=sO v b (o+P.cellsOf f.type) N cs d.2 l.2 m fun g y=>u g (at5 _ y);refine⟨p++q,?_,p,q,rfl,B,E⟩;have:cs.drop o=(cs.drop o).take (P.cellsOf f.type)++cs.drop (o+P.cellsOf f.type):=by
   rw [←ava,auA]
  rw [this];exact z.append A
theorem aa_(c o n k:Nat):((⟨c,o,ab⟩:Addr).add n).add k=⟨c,o+(n+k),ab⟩:=by
 unfold Addr.add;by_cases b:n=0<;>by_cases d:k=0<;>simp [b,d];omega
theorem adP{t e:TypeId}{k n:Nat}{cs:List Value}{x:DataW H × List MemPlace}(j:P.underlying t=aa (.array k e))(h:DataW.trod enc P w base spare held (n+1) t cs=aa x) :
  cs.length=P.cellsOf t∧∀ i,i<k→∃ y,DataW.trod enc P w base spare held n e ((cs.drop (i*P.cellsOf e)).take (P.cellsOf e))=aa y:=by
 unfold DataW.trod at h;rw [j]at h;simp only [Option.ite_none_right_eq_some,at0]at h;obtain⟨g,xs,d,l⟩:=h;refine⟨g,fun i hi=>?_⟩;have:=mapM_some_get d i i (by simp [hi]);have b:xs.length=k:=by simpa using mapM_some_length d
 rw [asZ (by omega)]at this;exact⟨_,this⟩
theorem yA{j:Type}{sz:Nat}:∀ {k:Nat} {cs:List j},cs.length=k*sz→cs=((List.range k).map fun i=>(cs.drop (i*sz)).take sz).flatten
 | 0,cs,h=>by simp at h;simp [h]
 | k+1,cs,h=>by
  have d:(cs.take (k*sz)).length=k*sz:=by rw [aur,h,auF];omega
  have g:=yA d;rw [List.range_succ,au2,avx];have e:((List.range k).map fun i=>(cs.drop (i*sz)).take sz)=(List.range k).map fun i=>((cs.take (k*sz)).drop (i*sz)).take sz:=by
   refine List.map_congr_left fun i hi=>?_;have b:i<k:=by simpa using hi
   have:(i+1)*sz≤k*sz:=auO _ b;rw [auF]at this;rw [List.drop_take,avA,avm (by omega)]
  rw [e,←g];simp only [aug,List.map_nil,auu,List.flatten_nil,auR];have:(cs.drop (k*sz)).take sz=cs.drop (k*sz):=at8 (by rw [auf,h,auF];omega);rw [this,auA]
theorem asL{n:Nat}:∀ {t:TypeId} {fuel:Nat} {cs:List Value} {x:DataW H × List MemPlace},gb P n t=ae→DataW.trod enc P w base spare held fuel t cs=aa x →
  ap' σ P w n t cs∧cs.length=P.cellsOf t:=by
 induction n with
 | zero=>intro t fuel cs x g;simp [gb]at g
 | succ n ih=>
  intro t fuel cs x g h;simp only [gb]at g;split at g
  ·rename_i j;obtain⟨b,rfl,_⟩:=DataW.trod_bool j h;exact⟨⟨[.bool b],.cons (.bool b) .nil,by simp only [qK,j];exact⟨b,rfl⟩⟩,by simp at g;simp [g]⟩
  ·rename_i k j;obtain⟨m,rfl,_,hw⟩:=DataW.trod_int j h;exact⟨⟨[.int k m],.cons (.int k m) .nil,by simp only [qK,j];exact⟨m,rfl,hw⟩⟩,by simp at g;simp [g]⟩
  ·rename_i j;obtain⟨s,rfl,_,hw⟩:=DataW.trod_string j h;exact⟨⟨[.str s],.cons (.str s) .nil,by simp only [qK,j];exact⟨s,rfl,hw⟩⟩,by simp at g;simp [g]⟩
  ·rename_i e j;simp only [atI,beq_iff_eq,bne_iff_ne]at g;obtain⟨⟨I,e_⟩,he⟩:=g;rcases DataW.trod_slice j h with⟨rfl,_⟩ | ⟨a,len,cap,Z,rest,m,_,rfl,_,hb,J,hm,c_,a_,_,_⟩
   ·exact⟨⟨[sl .nil []],.cons .aw .nil,by simp only [qK,j];exact⟨.nil,[],rfl,fun r l=>by simp at l,by simp,fun r l=>by simp at l⟩⟩,by simpa using I.symm⟩
   ·refine⟨?_,by simpa using I.symm⟩;have A:∀ i,i<len→∃ p:List Value × List FC,w.cells? base (a.add (i*P.cellsOf e)) (P.cellsOf e)=aa p.1∧A2 (cT σ (EE w) w) p.2 p.1∧qK P n e p.2:=by
     intro i hi;have:=a_ i hi;rw [asZ (by omega)]at this;obtain⟨cs',I,Q⟩:=aup.1 this;obtain⟨⟨xs,ha,g⟩,_⟩:=ih he Q;exact⟨(cs',xs),I,ha,g⟩
    obtain⟨p,L⟩:=Go.Deep.choose_lt A;by_cases h0:len=0
    ·subst h0;refine⟨[sl .fs []],.cons (.fs0 a cap) .nil,?_⟩;simp only [qK,j];exact⟨.fs,[],rfl,fun r l=>by simp at l,by simp,fun r l=>by simp at l⟩
    have E:a.spot=ab:=by
     have:=L 0 (by omega);obtain⟨_,d9,a7⟩:=World.cells?_some this.1;have:=a7 0 (by omega);rw [asZ (by omega)]at this;have:=(FR this).2;simpa [Addr.add]using this
    obtain⟨c,o,sp⟩:=a;simp only at E;subst E
    let d:=(List.range len).map fun i=>(p i).1
    let rows:=(List.range len).map fun i=>(p i).2
    have Y:∀ v ∈ d,v.length=P.cellsOf e:=by
     intro v Y;obtain⟨i,hi,rfl⟩:=auq.1 Y;exact(World.cells?_some (L i (by simpa using hi)).1).2.1
    have hg:cr (P.cellsOf e) rows:=by
     intro r l;obtain⟨i,hi,rfl⟩:=auq.1 l;obtain⟨I,Q,_⟩:=L i (by simpa using hi);rw [Q.len,(World.cells?_some I).2.1]
    have hA:A2 (cT σ (EE w) w) rows.flatten d.flatten:=by
     refine A2.flatten (by simp [rows,d]) fun i xs ys F K=>?_;simp only [rows,d,auM,at0]at F K;obtain⟨i1,N,rfl⟩:=F;obtain⟨i2,O,rfl⟩:=K;rw [N]at O;cases O;have:=aue N;exact(L i1 (by simpa using this)).2.1
    have B:∀ i u,d.flatten[i]?=aa u→w.cell? ⟨c,o+i,ab⟩=aa u:=by
     intro i u X;have hi:i<d.flatten.length:=(atu.1 X).1;rw [vz Y]at hi;have b_:d.length=len:=by simp [d]
     rw [b_]at hi;have M:i / P.cellsOf e<len:=Nat.div_lt_of_lt_mul (by rw [Nat.mul_comm];exact hi);have hk:i % P.cellsOf e<P.cellsOf e:=Nat.mod_lt _ (by omega);have z:i=i / P.cellsOf e*P.cellsOf e+i % P.cellsOf e:=by rw [Nat.mul_comm];exact(Nat.div_add_mod _ _).symm
     have W:d[i / P.cellsOf e]?=aa (p (i / P.cellsOf e)).1:=by simp [d,M]
     rw [z,vw Y W hk]at X;obtain⟨_,_,hc⟩:=World.cells?_some (L _ M).1;have:=hc _ hk;rw [X]at this;rw [←this,aa_,←z]
    refine⟨[sl .fs rows],.cons ?_ .nil,?_⟩
    ·have b9:rows≠[]:=by simp [rows];omega
     have U:rows.length=len:=by simp [rows]
     have:sl Tg.fs rows=.fs rows.flatten len:=by
      cases l:rows with
      | nil=>exact absurd l b9| cons r rs=>simp only [sl,av0,aub,if_false];rw [←l,U]
     rw [this];refine .fs rows.flatten len c o cap d.flatten J hA.len.symm (fun i hi=>?_) B fun i x u F X=>hA.2 i x u F X;have z:i<d.flatten.length:=by rw [←hA.len];exact hi
     exact(FR (B i _ (asZ z))).1
    ·simp only [qK,j];have U:rows.length=len:=by simp [rows]
     refine⟨.fs,rows,rfl,hg,by omega,fun r l=>?_⟩;obtain⟨i,hi,rfl⟩:=auq.1 l;exact(L i (by simpa using hi)).2.2
  ·rename_i fs j;simp only [atI]at g;obtain⟨xs,m,_,_,J,_,F⟩:=DataW.trod_struct j h;refine⟨?_,J⟩;obtain⟨ys,I,Q⟩:=sO (n:=n) (fuel:=m) ih fs.toList 0 _ cs g.1 g.2 J fun f hf=>by
    obtain⟨i,hi⟩:=auV hf;rw [Array.getElem?_toList]at hi;have:=F i f hi;rw [this];have d_:i<fs.size:=(Array.getElem?_eq_some_iff.1 hi).1;exact⟨_,asZ (by omega)⟩
   exact⟨ys,by simpa using I,by simp only [qK,j];exact Q⟩
  ·rename_i k e j;simp only [atI,beq_iff_eq]at g;obtain⟨S,he⟩:=g;cases fuel with
   | zero=>simp [DataW.trod]at h
   | succ m=>
   obtain⟨J,F⟩:=adP j h;refine⟨?_,J⟩;have A:∀ i,i<k→∃ q:List FC,A2 (cT σ (EE w) w) q ((cs.drop (i*P.cellsOf e)).take (P.cellsOf e))∧qK P n e q:=by
    intro i hi;obtain⟨y,K⟩:=F i hi;obtain⟨⟨q,a,b⟩,_⟩:=ih he K;exact⟨q,a,b⟩
   obtain⟨q,M⟩:=Go.Deep.choose_lt A
   let rows:=(List.range k).map q
   have a8:cs=((List.range k).map fun i=>(cs.drop (i*P.cellsOf e)).take (P.cellsOf e)).flatten:=yA (by rw [J,S]);refine⟨rows.flatten,?_,?_⟩
   ·rw [a8];refine A2.flatten (by simp [rows]) fun i xs ys F K=>?_;simp only [rows,auM,at0]at F K;obtain⟨i1,N,rfl⟩:=F;obtain⟨i2,O,rfl⟩:=K;rw [N]at O;cases O;have:=aue N;exact(M i1 (by simpa using this)).1
   ·simp only [qK,j];refine⟨rows,rfl,by simp [rows],fun r l=>?_,fun r l=>?_⟩
    ·obtain⟨i,hi,rfl⟩:=auq.1 l;have z:i<k:=by simpa using hi
     rw [(M i z).1.len,aur,auf,J,S];have:(i+1)*P.cellsOf e≤k*P.cellsOf e:=auO _ z;rw [auF]at this;omega
    ·obtain⟨i,hi,rfl⟩:=auq.1 l;exact(M i (by simpa using hi)).2
  ·simp at g
end
section
variable{P:Program}{n:Nat}{t e:TypeId}{xs:List FC}
theorem fv{k:IntKind}(b:P.underlying t=aa (.int k))(h:qK P (n+1) t xs):∃ m,xs=[.int k m]∧(Lit.int k m).wf=ae:=by simpa only [qK,b]using h
theorem zr(b:P.underlying t=aa (.slice e))(h:qK P (n+1) t xs):∃ g rows,xs=[sl g rows]∧cr (P.cellsOf e) rows∧rows.length≤maxLen∧∀ r ∈ rows,qK P n e r:=by simpa only [qK,b]using h
theorem pb{d:Array Field}{ts:List TypeId}(g:P.underlying t=aa (.struct d))(b:d.toList.map (·.type)=ts)(h:qK P (n+1) t xs):yp (qK P n) ts xs:=by
 subst b;simpa only [qK,g]using h
theorem dC{S:TypeId→List FC→Prop}{ts:List TypeId}(h:yp S (t::ts) xs):∃ p q,xs=p++q∧S t p∧yp S ts q:=h
theorem AG{d:Type}{enc:d→List FC}{p:d→Prop}:∀ {rows:List (List FC)},(∀ r ∈ rows,∃ x,r=enc x∧p x)→∃ l:List d,rows=l.map enc∧∀ x ∈ l,p x
 | [],_=>⟨[],rfl,by simp⟩
 | r::rows,h=>by
  obtain⟨x,rfl,m⟩:=h r at4;obtain⟨l,rfl,g⟩:=AG fun r j=>h r (at5 _ j);exact⟨x::l,rfl,fun y b=>by
   rcases auc.1 b with rfl | b
   ·exact m
   ·exact g y b⟩
end
end
section
open Go Go.ChangeShapes Go.WideShapes Go.ChangeAt Go.RowKit
def zE(P:Program)(t:TypeId)(a:V):Prop:=(∃ xs,a=.a (xs.map .f)∧qK P 40 t xs∧(∃ d,P.underlying t=aa d∧((∃ b,d=.struct b)∨∃ n e,d=.array n e))) ∨
 (∃ x,a=.c (.f x)∧qK P 40 t [x])
def pk(P:Program):List TypeId→List V→Prop
 | [],as=>as=[]| t::ts,as=>∃ a b,as=a::b∧zE P t a∧pk P ts b
section
variable{H:Type}{enc:TypeId × Value→H}{P:Program}{W W':World}
theorem xJ{f:Func}{s:ChangeSpec}{g B l A:Bool}{args:Array Value}{v:Value}{ds F:List (DataW H)}{d pa pv:List MemPlace}
  (K:DataW.Whole enc P f.params.toList s.vars g W args.toList ds F d)
  (z:∀(b:Nat) (E:Nat→Bool) (O:Bool),DataW.TrodAll enc P W' b E O f.resultTypes.toList (v.resultList f.resultTypes.size) (s.fn H (ds++F)).results [])
  (m:∀ E:Nat→Bool,(∀ p ∈ d,E p.block=ae)→DataW.TrodAll enc P W' 0 E ae f.params.toList args.toList (s.fn H (ds++F)).args pa)
  (u:∀ E:Nat→Bool,(∀ p ∈ d,E p.block=ae)→DataW.TrodVars enc P W' E s.vars (s.fn H (ds++F)).vars pv)
  (x:d=pa++pv) (M:Below W.heap.size W W')
  (L:∀(j:Nat) (t:TypeId) (r:Value),f.resultTypes[j]?=aa t→(v.resultList f.resultTypes.size)[j]?=aa r→Value.okWide P W' .any 0 t r) :
  s.post enc P f g B l A W args v W':=by
 have I:∀ p ∈ d,p.block<W.heap.size:=fun p q=>K.lt p q;have y:∀ p ∈ d,(fun b=>decide (b<W.heap.size)) p.block=ae:=fun p q=>by simpa using I p q
 refine⟨ds,F,d,[],pa,pv,K,z _ _ _,m _ y,u _ y,World.keptBut_mono (fun p q=>⟨q,?_⟩) (M.frame (· ∈ d)),fun _=>?_⟩
 ·rw [x,List.mem_append]at q;exact Or.inr q
 ·obtain⟨_,_,_,_,_,S,Q⟩:=K;refine⟨L,_,_,([]++pa)++pv,⟨[]++pa,pv,trodAll_append (m _ (fun _ _=>rfl)) (z _ _ _),u _ (fun _ _=>rfl),rfl,?_,?_⟩,?_⟩
  ·intro b off q;have J:MemPlace.cell b off ∈ d:=by rw [x];simpa using q
   rw [M.frozen (p:=⟨b,off,ab⟩) (I _ J)];exact S b off J
  ·intro N;have:=Q N;rw [x]at this;simpa using this
  ·intro p q _;rw [x];simpa using q
theorem oC(s:laidOutB P=ae){y:Nat→Bool}(m:Below W.heap.size W W'):∀ {ts:List TypeId} {l:List Value} {ds:List (DataW H)} {ps:List MemPlace},
  (ts.all fun t=>P.readableRec t&&decide (t<P.types.size))=ae→DataW.TrodAll enc P W 0 (fun _=>ae) ae ts l ds ps→(∀ p ∈ ps,p.block<W.heap.size)→(∀ p ∈ ps,y p.block=ae) →
  DataW.TrodAll enc P W' 0 y ae ts l ds ps
 | [],[],[],ps,_,h,_,_=>h
 | t::ts,v::l,d::ds,ps,j,⟨p,q,z,A,e⟩,g,u=>by
  subst e;simp only [List.all_cons,atI,decide_eq_true_eq]at j;exact⟨p,q,WideElems.Trod_stays s j.1.1 j.1.2 z (fun x b=>m.same (g x (au7 _ b))) (fun x b=>u x (au7 _ b)),
   oC s m j.2 A (fun x b=>g x (avO _ b)) (fun x b=>u x (avO _ b)),rfl⟩
 | [],_::_,_,_,_,h,_,_=>by cases h
 | [],[],_::_,_,_,h,_,_=>by cases h
 | _::_,[],_,_,_,h,_,_=>by cases h
 | _::_,_::_,[],_,_,h,_,_=>by cases h
variable{σ:Nat→FuncId}
def X0(W:World):Wd:=⟨fun _=>ab,EE W,[],W,W.heap.size⟩
theorem adY{xs:List FC}{cs:Array Value}(h:A2 (cT σ (EE W) W) xs cs.toList):VR σ (X0 W) (.a (xs.map .f)) (.agg cs):=
 ⟨cs.toList,by simp,A2.map (g:=C.f) (h.kI fun _ _ h=>h)⟩
theorem abl{t:TypeId}{v:Value}{d:DataW H}{ps:List MemPlace}{base:Nat}{spare:Nat→Bool}{held:Bool}{b0:Nat}(s:gb P 40 t=ae)(g:Value.okWide P W .any b0 t v)
  (E:DataW.Trod enc P W base spare held t v d ps):∃ a,VR σ (X0 W) a v∧zE P t a:=by
 obtain⟨fuel,q⟩:=E;obtain⟨⟨xs,m,u⟩,I⟩:=asL (σ:=σ) s q;have l:v.cells.toList=[v]→∃ a,VR σ (X0 W) a v∧zE P t a:=by
  intro F;rw [F]at m
  match xs,m.len with
  | [x],_=>exact⟨.c (.f x),m.of_cons.1,.inr ⟨x,rfl,u⟩⟩
 unfold gb at s;unfold Value.okWide at g;split at g
 ·rename_i y j;obtain⟨cs,rfl,_,_⟩:=g;exact⟨_,adY m,.inl ⟨xs,rfl,u,_,j,.inl ⟨_,rfl⟩⟩⟩
 ·rename_i n e j;obtain⟨cs,rfl,_,_⟩:=g;exact⟨_,adY m,.inl ⟨xs,rfl,u,_,j,.inr ⟨_,_,rfl⟩⟩⟩
 ·rename_i A B;refine l ?_;split at s
  ·rename_i j;obtain⟨b,z,_⟩:=DataW.trod_bool j q;simp only [Cell.okWide,j,Cell.ok]at g;cases v<;>simp_all [Value.cells]
  ·rename_i j;obtain⟨b,z,_⟩:=DataW.trod_int j q;simp only [Cell.okWide,j,Cell.ok]at g;cases v<;>simp_all [Value.cells]
  ·rename_i j;obtain⟨b,z,_⟩:=DataW.trod_string j q;simp only [Cell.okWide,j,Cell.ok]at g;cases v<;>simp_all [Value.cells]
  ·rename_i j;simp only [Cell.okWide,j,Cell.ok]at g;cases v<;>simp_all [Value.cells]
  ·rename_i y j;exact absurd j (A y)
  ·rename_i n e j;exact absurd j (B n e)
  ·simp at s
theorem yw{base:Nat}{spare:Nat→Bool}{held:Bool}{b0:Nat}:∀ {ts:List TypeId} {g:List Value} {ds:List (DataW H)} {ps:List MemPlace},(ts.all fun t=>gb P 40 t)=ae →
  (∀(j:Nat) t v,ts[j]?=aa t→g[j]?=aa v→Value.okWide P W .any b0 t v)→DataW.TrodAll enc P W base spare held ts g ds ps →
  ∃ as,A2 (VR σ (X0 W)) as g∧pk P ts as
 | [],[],[],_,_,_,_=>⟨[],A2.nil,rfl⟩
 | t::ts,v::g,d::ds,ps,l,b,⟨p,q,u,x,_⟩=>by
  simp only [List.all_cons,atI]at l;obtain⟨a,y,A⟩:=abl (σ:=σ) l.1 (b 0 t v rfl rfl) u;obtain⟨m,z,B⟩:=yw l.2 (fun j t v h s=>b (j+1) t v (by simpa using h) (by simpa using s)) x;exact⟨a::m,.cons y z,a,m,rfl,A,B⟩
 | [],_::_,_,_,_,_,h=>by cases h
 | [],[],_::_,_,_,_,h=>by cases h
 | _::_,[],_,_,_,_,h=>by cases h
 | _::_,_::_,[],_,_,_,h=>by cases h
theorem aiQ{n:Nat}{H:aj}{v:V}{b:Bool}(h:iZ (n+1) H v=aa (.c (.f (.bool b)))):v=.c (.f (.bool b)):=by
 cases v with
 | top=>simp [iZ,cD]at h| a xs=>simp [iZ,cD]at h| t xs=>simp [iZ]at h
 | c x=>
  simp only [iZ,cD,at0]at h;obtain⟨y,d,h⟩:=h;cases h;cases x with
  | f x=>simpa [ek]using d| ptr b o e=>simp only [ek]at d;split at d<;>simp at d
  | sl b o l c e s=>
   simp only [ek]at d;split at d
   ·split at d<;>simp at d
   ·split at d<;>simp at d
   ·split at d<;>simp at d
   ·split at d<;>simp at d
   ·simp at d
  | cl f g=>simp [ek]at d| _=>simp [ek]at d
variable{tab:TB}
theorem ER(x:Env P σ tab.get tab.sX){f:Nat}{args:List V}{us:List Value}(h:bo tab f args (vb ae))(W:World)(z:A2 (VR σ (X0 W)) args us) :
  Calls P (σ f) us.toArray W fun e w'=>e=.returned (.bool ae)∧Below W.heap.size W w':=by
 obtain⟨r,H',⟨m,d,h⟩,j⟩:=h;have j:=aiQ (n:=63) j;subst j;intro cs
 let X:=X0 W
 have y:SR P σ X:=⟨fun b L h=>by simp [X,X0]at h,fun b M L K h=>by simp [X,X0]at h,fun c i h=>h⟩
 obtain⟨q,X',u,s,⟨E,F,H,l,fn,I,J⟩,N,O,v,g,Q⟩:=(abq x m d).fn f args [] _ H' h X us .normal cs rfl y (at3 _) z (.inl rfl) (.inl rfl);have B:=VR.bool v;subst B;exact⟨.returned (.bool ae),X'.w,q,⟨rfl,⟨g.os,g.tape,g.output,g.size,fun k A=>g.frame k A (fun b L h=>by simp [X,X0]at h)⟩⟩,s,l,E,F,H,fn,by rw [l];exact I,J⟩
theorem Ca(hE:Env P σ tab.get tab.sX){s:ChangeSpec}{f:Func}{fi:Nat}{tb:TypeId}(x:s.vars=[])(B:laidOutB P=ae){ts:List TypeId}(F:f.params.toList=ts)
  (O:∀ ds:List (DataW H),ds.length=ts.length→s.fn H ds=⟨[.lit (.bool ae)],ds,[]⟩)
  (y:f.resultTypes=#[tb]) (K:P.underlying tb=aa .bool) (E:(ts.all fun t=>P.readableRec t&&decide (t<P.types.size))=ae) (u:(ts.all fun t=>gb P 40 t)=ae)
  (Q:∀ as,pk P ts as→bo tab fi as (vb ae)) {g A l z:Bool} {base:Nat} {args:Array Value} {ds gs:List (DataW H)} {d:List MemPlace}
  (L:∀(j:Nat) t v,f.params[j]?=aa t→args[j]?=aa v→Value.okWide P W .any base t v) (X:DataW.Whole enc P f.params.toList s.vars g W args.toList ds gs d) :
  Calls P (σ fi) args W fun e W'=>∃ v,e=.returned v∧s.post enc P f g A l z W args v W':=by
 have I:=X;obtain⟨p,q,N,U,Y,a7,a8⟩:=X;rw [F]at N;rw [x]at U;obtain⟨rfl,rfl⟩:=trodVars_none U;simp only [auR]at Y;subst Y;obtain⟨as,h1,h2⟩:=yw (σ:=σ) (b0:=base) u (fun j t v h h'=>L j t v (by rw [←Array.getElem?_toList,F];exact h) (by rw [←Array.getElem?_toList];exact h')) N;have J:ds.length=ts.length:=by
  have:∀ {ts:List TypeId} {M:List Value} {ds:List (DataW H)} {ps:List MemPlace},DataW.TrodAll enc P W 0 (fun _=>ae) ae ts M ds ps→ds.length=ts.length:=by
   intro ts;induction ts with
   | nil=>intro M ds ps h;cases M<;>cases ds<;>first | rfl | cases h
   | cons t ts ih=>intro M ds ps h;cases M<;>cases ds<;>first | (obtain⟨_,_,_,h,_⟩:=h;simp [ih h]) | cases h
  exact this N
 have m:=O ds J;have Z:=ER hE (Q as h2) W h1;rw [Array.toArray_toList]at Z;refine Z.mono fun e W' h=>?_;obtain⟨he,hg⟩:=h;subst he;refine⟨_,rfl,xJ (pa:=d) (pv:=[]) I (fun b sp hd=>?_) (fun sp S=>?_) (fun sp _=>?_) (by simp) hg ?_⟩
 ·rw [auR,m,y];exact trodAll_mk1 (shut_bool K _)
 ·rw [auR,m,F];exact oC B hg E N (fun p hp=>I.lt p hp) S
 ·rw [auR,m,x];exact rfl
 ·exact ok_one y rfl (okWide_bool_mk K _)
end
end
section
open Go
section
variable{tab:TB}{f:Nat}{args:List V}{r:V}{fn:Nat}{k:List cZ}{t:T}{ds:List dK}{H H':aj}{Q:Option aE→St→Prop}
theorem ju{x:Arg}{ps:List P}{as bd:aE}{g:Nat}{s:List V}(A:bZ (x.ev t) [.c (.yl (H.length+1))]=aa (.fn g,s))
  (l:Ev tab (.fn g) s (H++[.eZ ae,.lp fn t ps as bd .ready ab H.length]) r H')
  (h:WP tab fn ab (.iY (H.length+1)::k) ⟨t,.gX H.length::ds,H'⟩ Q):WP tab fn ab (.code (.fL x ps as bd)::k) ⟨t,ds,H⟩ Q:=by
 obtain⟨m,d,l⟩:=l;obtain⟨n,q,b,j,s',y,z⟩:=h;refine⟨n+1,max m q,max d b,j,s',?_,z⟩;have u:=jY (tab:=tab) (auG m q) (auG d b) _ _ _ _ l;have v:=wM (aut m q) (aut d b) (at3 n) y;simp only [run,A,u,v];simp
theorem lk{ro:Option Nat}{b j d:Nat}{q:T}{ps:List P}{as bd:aE}{l:ez}(s:H[b]?=aa (.lp j q ps as bd l ab d))(g:l≠.busy)
  (h:WP tab fn ro k ⟨t,ds,H.set b (.lp j q ps as bd .exhausted ab d)⟩ Q):WP tab fn ro (.iY b::k) ⟨t,ds,H⟩ Q:=by
 refine j3 h fun m d n=>?_;simp only [run,s,aY g]
theorem pY{ro:Option Nat}{b j d:Nat}{q:T}{ps:List P}{as bd:aE}{l:ez}(s:H[b]?=aa (.lp j q ps as bd l (aa .ret) d))(g:l≠.busy)
  (h:WP tab fn ro (.code .ret::k) ⟨t,ds,H.set b (.lp j q ps as bd .exhausted (aa .ret) d)⟩ Q):WP tab fn ro (.iY b::k) ⟨t,ds,H⟩ Q:=by
 refine j3 h fun m d n=>?_;simp only [run,s,aY g]
theorem nJ{b g d:Nat}{j:T}{ps:List P}{as bd:aE}{pd:Option aE}(l:H[b]?=aa (.lp g j ps as bd .ready pd d))
  (h:WP tab fn (aa b) k ⟨t,ds,H.set b (.lp g j ps as bd .busy pd d)⟩ Q):WP tab fn (aa b) (.mJ::k) ⟨t,ds,H⟩ Q:=by
 refine j3 h fun m d n=>?_;simp only [run,l]
@[simp] theorem aoS {b:Nat} {as:List V}:bZ (.c (.yl b)) as=aa (.yield b,as):=rfl
def ap9(b:Nat)(r:V)(H':aj)(j:Option aE)(s:St):Prop:=s.defs=[]∧∃ g l ps as bd m pd d,s.heap[b]?=aa (.lp g l ps as bd m pd d)∧r=.c (.f (.bool j.isNone)) ∧
 H'=s.heap.set b (.lp g l ps as bd (if j.isNone then .ready else .done) j d)
theorem abP{b l d:Nat}{q:T}{ps:List P}{as bd:aE}{J:ez}{pd:Option aE}(A:H[b]?=aa (.lp l q ps as bd J pd d))(E:args.length=ps.length)
  (h:WP tab l (aa b) [.code as,.mJ,.code bd] ⟨cK ps args q,[],H⟩ (ap9 b r H')):Ev tab (.yield b) args H r H':=by
 obtain⟨n,m,g,j,s,y,B,N,L,I,v,x,K,F,M,z,rfl,rfl⟩:=h;refine⟨max m n,g+1,?_⟩;have u:run (CF tab (max m n) g) l (max m n) (aa b) [.code as,.mJ,.code bd] ⟨cK ps args q,[],H⟩=aa (j,s):=wM (auG m n) (at3 g) (aut m n) y;simp only [CF]at u ⊢;simp only [ey,A,E,if_true,u,B,List.isEmpty_nil,z];rfl
theorem gu{C:V→aj→Prop}{b F d:Nat}{I:T}{ps:List P}{as bd:aE}{N:ez}{pd:Option aE}(L:H[b]?=aa (.lp F I ps as bd N pd d))(M:args.length=ps.length)
  (h:∀ Q:Option aE→St→Prop,(∀ j s z u q g l x v y,s.defs=[]→s.heap[b]?=aa (.lp z u q g l x v y) →
   C (.c (.f (.bool j.isNone))) (s.heap.set b (.lp z u q g l (if j.isNone then .ready else .done) j y))→Q j s)→WP tab F (aa b) [.code as,.mJ,.code bd] ⟨cK ps args I,[],H⟩ Q):∃ r H',Ev tab (.yield b) args H r H'∧C r H':=by
 have K:=h (fun j s=>∃ r H',C r H'∧ap9 b r H' j s) fun j s z u q g l x v y A B E=>⟨_,_,E,A,z,u,q,g,l,x,v,y,B,rfl,rfl⟩
 obtain⟨n,m,J,j,s,A,r,H',B,E⟩:=K;exact⟨r,H',abP L M ⟨n,m,J,j,s,A,E⟩,B⟩
def ap8(d:List gG)(r:V)(s:St):Prop:=∃ b,s.defs=[.gX b]∧s.heap[b]?=aa (.eZ ae)∧∃ g,results s.aB (s.heap.set b (.eZ ag)) d=aa g∧iZ deep (s.heap.set b (.eZ ag)) g=aa r
theorem CE{S:V→Prop}{ps:List P}{g:List gG}{body:aE}(A:tab f=aa ⟨ps,g,body⟩)(y:args.length=ps.length)
  (h:∀ Q:Option aE→St→Prop,(∀ j s r,S r→tf g r s∨ap8 g r s→Q j s)→WP tab f ab [.code body] ⟨cK ps args .e,[],[]⟩ Q):∃ r,S r∧bo tab f args r:=by
 have B:=h (fun _ s=>∃ r,S r∧(tf g r s∨ap8 g r s)) fun _ _ r q l=>⟨r,q,l⟩
 obtain⟨n,m,d,j,s,q,r,z,⟨v,x,l,u⟩ | ⟨b,v,E,x,l,u⟩⟩:=B
 ·exact⟨r,z,x,s.heap,sM A y ⟨n,m,d,j,s,q,0,0,s.heap,by rw [v];rfl,l,rfl⟩,u⟩
 ·exact⟨r,z,x,s.heap.set b (.eZ ag),sM A y ⟨n,m,d,j,s,q,0,0,_,by rw [v];simp only [dH,E],l,rfl⟩,u⟩
theorem cI{C:V→aj→Prop}{ps:List P}{b:List gG}{body:aE}(y:tab f=aa ⟨ps,b,body⟩)(x:args.length=ps.length)
  (h:∀ Q:Option aE→St→Prop,(∀ j s r,s.defs=[]→results s.aB s.heap b=aa r→C r s.heap→Q j s)→WP tab f ab [.code body] ⟨cK ps args .e,[],H⟩ Q):∃ r H',Ev tab (.fn f) args H r H'∧C r H':=by
 have u:=h (fun _ s=>s.defs=[]∧∃ r,results s.aB s.heap b=aa r∧C r s.heap) fun _ _ r g l q=>⟨g,r,l,q⟩
 obtain⟨n,m,d,j,s,g,v,r,l,q⟩:=u;exact⟨r,s.heap,sM y x ⟨n,m,d,j,s,g,0,0,s.heap,by rw [v];rfl,l,rfl⟩,q⟩
end
end
section
open Go
theorem te{c:cR}:∀(a b:List aP) (s:St),fB c (a++b) s=(fB c a s).bind (fB c b)
 | [],b,s=>rfl
 | o::a,b,s=>by
  simp only [List.cons_append,fB];cases fG c s o with
  | none=>rfl| some s'=>exact te a b s'
theorem xi{c:cR}:∀(os:List aP) (s:St) {s':St},fB c os s=aa s'→∃ ss,dV c os s=aa ss∧ss.getLast?=aa s'∧∀ i,i≤os.length→fB c (os.take i) s=ss[i]?
 | [],s,s',h=>by
  simp only [fB,At]at h;subst h;refine⟨[s],rfl,rfl,fun i hi=>?_⟩;have:i=0:=by simpa using hi
  subst this;rfl
 | o::os,s,s',h=>by
  simp only [fB]at h;cases b:fG c s o with
  | none=>simp [b]at h
  | some l=>
   simp only [b]at h;obtain⟨ss,d,g,j⟩:=xi os l h;refine⟨s::ss,by simp only [dV,b,d],by rw [List.getLast?_cons,g];rfl,fun i hi=>?_⟩;cases i with
   | zero=>rfl
   | succ i=>
    simp only [avV,fB,b,List.getElem?_cons_succ];exact j i (by simpa using hi)
def gl(o:aP)(b l:St):Prop:=wanted b.aB o.g=aa ag∨∃ v g d j,bu b.aB b.heap o.op=aa (v,g)∧bu b.aB l.heap o.op=aa (d,j)∧v.beq d=ae
section
variable{tab:TB}{fn:Nat}{ro:Option Nat}{k:List cZ}{s:St}{Q:Option aE→St→Prop}
def akR(tab:TB)(ops:List aP)(s:St)(c:Nat × Nat):Prop:=c.2≤ops.length∧∃ o,ops[c.1]?=aa o ∧
 ((c.1≤c.2∧xq tab (ops.take c.1) s fun b=>xq tab ((ops.drop c.1).take (c.2-c.1)) b fun d=>gl o b d) ∨
 (c.2≤c.1∧xq tab (ops.take c.2) s fun d=>xq tab ((ops.drop c.2).take (c.1-c.2)) d fun b=>gl o b d))
theorem ada{ops:List aP}{c:Nat × Nat}(h:akR tab ops s c):∃ m d o g j,c.2≤ops.length∧ops[c.1]?=aa o∧fB (CF tab m d) (ops.take c.1) s=aa g∧fB (CF tab m d) (ops.take c.2) s=aa j∧gl o g j:=by
 have y:∀(a b:Nat) (K:St→St→Prop),a≤b→xq tab (ops.take a) s (fun l=>xq tab ((ops.drop a).take (b-a)) l fun q=>K l q) →
   ∃ m d l q,fB (CF tab m d) (ops.take a) s=aa l∧fB (CF tab m d) (ops.take b) s=aa q∧K l q:=by
  intro a b K M h;obtain⟨m,d,l,u,v⟩:=jq _ _ h;obtain⟨E,z,q,x,L⟩:=jq _ _ v;have F:=dJ (jY (tab:=tab) (auG m E) (auG d z)) _ _ u;have J:=dJ (jY (tab:=tab) (aut m E) (aut d z)) _ _ x;refine⟨max m E,max d z,l,q,F,?_,L⟩;have:ops.take b=ops.take a++(ops.drop a).take (b-a):=by
   have N:b=a+(b-a):=by omega
   conv=>lhs;rw [N,List.take_add]
  rw [this,te,F];exact J
 obtain⟨H,o,I,⟨A,h⟩ | ⟨B,h⟩⟩:=h
 ·obtain⟨m,d,g,j,u,v,x⟩:=y _ _ (fun g j=>gl o g j) A h;exact⟨m,d,o,g,j,H,I,u,v,x⟩
 ·obtain⟨m,d,j,g,u,v,x⟩:=y _ _ (fun j g=>gl o g j) B h;exact⟨m,d,o,g,j,H,I,v,u,x⟩
theorem fe{ops:List aP}{b:List (Nat × Nat)}(S:ro=ab∨ops.all (·.op.dS)=ae)(h:xq tab ops s fun s'=>WP tab fn ro k s' Q)(hk:∀ c ∈ b,akR tab ops s c) :
  WP tab fn ro (.code (.region ops b)::k) s Q:=by
 obtain⟨m,d,s',h1,n,m',d',j,s2,h2,h3⟩:=jq ops s h;have g:∃ M D,∀ c ∈ b,∃ o u y,c.2≤ops.length∧ops[c.1]?=aa o∧fB (CF tab M D) (ops.take c.1) s=aa u∧fB (CF tab M D) (ops.take c.2) s=aa y∧gl o u y:=by
  clear h1 h2 h;induction b with
  | nil=>exact⟨0,0,fun c F=>by cases F⟩
  | cons c cs W=>
   obtain⟨M,D,W⟩:=W fun c F=>hk c (at5 _ F);obtain⟨X,H,o,u,y,a1,z,A,B,E⟩:=ada (hk c at4);refine⟨max M X,max D H,fun c' q=>?_⟩;rcases auc.1 q with rfl | q
   ·have l:=jY (tab:=tab) (aut M X) (aut D H);exact⟨o,u,y,a1,z,dJ l _ _ A,dJ l _ _ B,E⟩
   ·obtain⟨o,u,y,a1,z,A,B,E⟩:=W c' q;have l:=jY (tab:=tab) (auG M X) (auG D H);exact⟨o,u,y,a1,z,dJ l _ _ A,dJ l _ _ B,E⟩
 obtain⟨M,D,g⟩:=g;obtain⟨Z,L,N,O⟩:∃ x,m≤x∧m'≤x∧M≤x:=⟨max (max m m') M,by omega,by omega,by omega⟩
 obtain⟨Y,I,J,K⟩:∃ x,d≤x∧d'≤x∧D≤x:=⟨max (max d d') D,by omega,by omega,by omega⟩
 refine⟨n+1,Z,Y,j,s2,?_,h3⟩;have e1:=dJ (jY (tab:=tab) L I) ops _ h1;have e2:=wM N J (at3 n) h2;have U:(ro.isSome&&!ops.all (·.op.dS))=ag:=by
  rcases S with rfl | S
  ·rfl
  ·rw [S];simp
 obtain⟨ss,f1,f2,f3⟩:=xi ops s e1;have hx:gd (CF tab Z Y) ops b s=aa s':=by
  cases b with
  | nil=>simpa only [gd]using e1
  | cons x xs=>
   simp only [gd,f1];rw [bg,f2];rw [List.all_eq_true];intro c F;obtain⟨o,u,y,a1,z,A,B,E⟩:=g c F;have l:=jY (tab:=tab) O K;have hi:c.1≤ops.length:=by
    have:=(atu.1 z).1;omega
   have b3:=dJ l _ _ A;have b4:=dJ l _ _ B;rw [f3 _ hi]at b3;rw [f3 _ a1]at b4;simp only [sameAt,z,b3,b4];rcases E with hw | ⟨v,H1,v',H2,g1,g2,g3⟩
   ·rw [hw]
   ·split
    ·rfl
    ·simp only [g1,g2,g3]
 simp only [run,U,hx,e2];simp
end
end
section
open Go
theorem uo{n:Nat}:∀(l:List C) (H:aj),(∀ x ∈ l,∃ y,x=.f y)→l.foldl (fun H x=>gD n x H) H=H
 | [],_,_=>rfl
 | x::l,H,h=>by
  obtain⟨y,rfl⟩:=h x at4;simp only [avt,ak8];exact uo l H fun x b=>h x (at5 _ b)
end
section
open Go
def RB(H:aj)(b sz ep:Nat)(rows:List (List FC)):Prop:=H[b]?=aa (.b5 sz (rows.flatten.map .f) 0 ep .loc)
def Fm(b:Nat)(H H':aj):Prop:=H.length≤H'.length∧∀ d:Nat,d≠b→d<H.length→H'[d]?=H[d]?
theorem Fm.refl{b:Nat}(H:aj):Fm b H H:=⟨at3 _,fun _ _ _=>rfl⟩
theorem Fm.trans{b:Nat}{H H' d:aj}(h:Fm b H H')(j:Fm b H' d):Fm b H d:=
 ⟨aum h.1 j.1,fun g e l=>(j.2 g e (auE l h.1)).trans (h.2 g e l)⟩
theorem Fm.push{b:Nat}(H J:aj):Fm b H (H++J):=⟨by simp,fun d _ l=>anc l⟩
theorem Fm.set{b:Nat}(H:aj)(x:bz):Fm b H (H.set b x):=⟨by simp,fun d e _=>aft (Ne.symm e)⟩
theorem Fm.get{b:Nat}{H H':aj}(h:Fm b H H'){d:Nat}{x:bz}(g:H[d]?=aa x)(e:d≠b):H'[d]?=aa x:=by rw [h.2 d e (au g)];exact g
theorem CS{sz:Nat}{row:List FC}(q:row.length=sz):∀ {rows:List (List FC)} {j:Nat},cr sz rows→j<rows.length →
  rows.flatten.take (j*sz)++row++rows.flatten.drop (j*sz+sz)=(rows.set j row).flatten
 | [],_,_,d=>by simp at d
 | r::rows,0,b,_=>by
  have:=b r at4;subst this;simp
 | r::rows,j+1,b,d=>by
  have g:=b r at4;have u:=CS q (rows:=rows) (j:=j) (fun x s=>b x (at5 _ s)) (by simpa using d);simp only [auu,awc];rw [←u];have l:(j+1)*sz=r.length+j*sz:=by rw [g,auF];omega
  have m:(j+1)*sz+sz=r.length+(j*sz+sz):=by omega
  rw [m,l,List.take_append,List.drop_append];simp [at8,auL]
section
variable{H:aj}{b sz ep j:Nat}{rows:List (List FC)}{row:List FC}
theorem RB.lt(h:RB H b sz ep rows):b<H.length:=au h
theorem RB.push(h:RB H b sz ep rows)(J:aj):RB (H++J) b sz ep rows:=by
 unfold RB at *;rw [anc (au h)];exact h
theorem RB.len(h:RB H b sz ep rows){o l c:Nat}:bA H (.sl b o l c ep sz)=aa l:=by
 unfold RB at h;simp [bA,h]
theorem RB.idx(h:RB H b sz ep rows){n c:Nat}{k:IntKind}{i:Int}(h0:0≤i)(hi:i<n){o:Nat}:bG H sz ab (.c (.sl b o n c ep sz)) (.c (.f (.int k i)))=aa (.c (.ptr b (o+i.toNat*sz) ep)):=by
 unfold RB at h;simp only [bG,ik,h0,hi,if_true,h,and_self]
theorem RB.ldr(h:RB H b sz ep rows)(hg:cr sz rows)(g:rows[j]?=aa row):aV H (aa sz) (.c (.ptr b (j*sz) ep))=aa (.a (row.map .f)):=by
 unfold RB at h;have d:row.length=sz:=hg row (aue g);have:=vq (k:=0) hg g (by omega);simp only [aA,h,if_true];rw [←av2];rw [avD]at this;rw [this];have h1:(row.map C.f++((rows.drop (j+1)).flatten.map C.f)).take sz=row.map C.f:=by
  rw [auw (by simp [d]),at8 (by simp [d])]
 simp [d]
theorem RB.str(h:RB H b sz ep rows)(hg:cr sz rows)(l:j<rows.length)(hr:row.length=sz) :
  ∃ H',dh H (.ptr b (j*sz) ep) (row.map .f)=aa H'∧RB H' b sz ep (rows.set j row)∧Fm b H H'∧H'.length=H.length:=by
 have m:=bW hg;have g:(j+1)*sz≤rows.length*sz:=auO _ l;have d:j*sz+sz≤rows.flatten.length:=by rw [m];rw [auF]at g;omega
 unfold RB at h ⊢;refine⟨H.set b (.b5 sz ((rows.set j row).flatten.map .f) 0 ep .loc),?_,?_,Fm.set _ _,by simp⟩
 ·simp only [bl,h,avp,true_and,at9,hr,d,if_true];rw [←CS hr hg l];simp [bp,hr]
 ·exact atY (au h)
end
theorem zP{k n:Nat}(h:k≤n):AU (vi k) n=aa k:=by
 have:(0:Int)≤k∧(k:Int)≤n:=by omega
 simp [AU,ik,this]
theorem RB.wR{H:aj}{b sz ep n k:Nat}{rows:List (List FC)}(h:RB H b sz ep rows)(g:k<n) :
  dk H sz (.c (.sl b 0 n 0 ep sz)) (aa (vi k)) ab ab=aa (.c (.sl b (k*sz) (n-k) 0 ep sz)):=by
 unfold RB at h;have d:bO n n (aa (vi k)) ab ab=aa (k,n,n):=by simp [bO,zP (Nat.le_of_lt g)]
 simp [dk,h,d];omega
theorem RB.adn{H:aj}{b sz ep n k:Nat}{rows:List (List FC)}(h:RB H b sz ep rows)(g:k≤n)(h0:0<k) :
  dk H sz (.c (.sl b 0 n 0 ep sz)) ab (aa (vi k)) ab=aa (.c (.sl b 0 k 0 ep sz)):=by
 unfold RB at h;have d:bO n n ab (aa (vi k)) ab=aa (0,k,n):=by simp [bO,zP g]
 simp [dk,h,d]
 try omega
theorem RB.clr{H:aj}{b sz ep n k:Nat}{rows:List (List FC)}{zs:List FC}(h:RB H b sz ep rows)(hg:cr sz rows)(x:rows.length=n)(z:k<n)(s:zs.length=sz) :
  ∃ H',oL H sz zs (.c (.sl b (k*sz) (n-k) 0 ep sz))=aa H'∧RB H' b sz ep (rows.take k++List.replicate (n-k) zs)∧Fm b H H':=by
 have v:=bW hg;have d:=h.len (o:=k*sz) (l:=n-k) (c:=0);have g:(cE (n-k) zs).length=(n-k)*sz:=by
  have:cr sz (List.replicate (n-k) zs):=fun r hr=>by rw [List.eq_of_mem_replicate hr,s]
  simpa [cE]using bW this
 have m:k*sz+(n-k)*sz=rows.flatten.length:=by rw [v,x,←auF];congr 1;omega
 unfold RB at h ⊢;refine⟨H.set b (.b5 sz ((rows.take k++List.replicate (n-k) zs).flatten.map .f) 0 ep .loc),?_,atY (au h),Fm.set _ _⟩;have y:n-k≠0:=by omega
 have u:(rows.take k++List.replicate (n-k) zs).flatten.map C.f=bp (rows.flatten.map .f) (k*sz) ((cE (n-k) zs).map .f):=by
  rw [avx,←nU k hg];simp only [bp,at9,g,au2,List.map_take];rw [List.drop_eq_nil_of_le (by simp only [at9];omega)];simp [cE]
 simp only [oL,d];rw [u];obtain⟨q,j⟩:∃ q,n-k=q+1:=⟨n-k-1,by omega⟩
 rw [j];simp only [s,if_true,h,and_self,bl,avp,true_and,at9];rw [←j,g,bg (by omega)]
theorem kd{t:T}{H:aj}{x:gG}{r:V}(h:cN t H x=aa r):Km.results t H [x]=aa r:=by
 simp [Km.results,bj,h]
@[simp] theorem asj {t:T} {H:aj} (sz:Nat) (zs:List FC) (x:Arg):bu t H (.clear sz zs x)=(oL H sz zs (x.ev t)).map (.t [],·):=rfl
@[simp] theorem ar4 {a b:Int}:xG ag [vi a,vi b]=aa (vi (max a b)):=by
 have:(if a<b then b else a)=max a b:=by split<;>omega
 simp only [xG,sS,y0];simp [this,V.int]
@[simp] theorem ar5 {a b:Int}:xG ae [vi a,vi b]=aa (vi (min a b)):=by
 have:(if b<a then b else a)=min a b:=by split<;>omega
 simp only [xG,sS,y0];simp [this,V.int]
end
section
open Go
def AW(l:List (List FC))(i j:Nat):List (List FC):=(l.set i (l.getD j [])).set j (l.getD i [])
def iT(a b:Nat)(l l':List (List FC)):Prop:=l'.Perm l∧l'.take a=l.take a∧l'.drop b=l.drop b
theorem iT.refl(a b:Nat)(l:List (List FC)):iT a b l l:=⟨.refl _,rfl,rfl⟩
theorem iT.trans{a b:Nat}{l l' d:List (List FC)}(h:iT a b l l')(g:iT a b l' d):iT a b l d:=⟨g.1.trans h.1,g.2.1.trans h.2.1,g.2.2.trans h.2.2⟩
theorem iT.len{a b:Nat}{l l':List (List FC)}(h:iT a b l l'):l'.length=l.length:=h.1.length_eq
theorem iT.lt{a b:Nat}{l l':List (List FC)}(h:iT a b l l'){i:Nat}(hi:i<a):l'[i]?=l[i]?:=by
 have:=congrArg (·[i]?) h.2.1;simpa [auD,hi]using this
theorem iT.ge{a b:Nat}{l l':List (List FC)}(h:iT a b l l'){i:Nat}(hi:b≤i):l'[i]?=l[i]?:=by
 have:=congrArg (·[i-b]?) h.2.2;simpa [auj,show b+(i-b)=i by omega]using this
theorem iT.mono{a b a' d:Nat}{l l':List (List FC)}(h:iT a b l l')(g:a'≤a)(j:b≤d):iT a' d l l':=by
 refine⟨h.1,?_,?_⟩
 ·have:=congrArg (·.take a') h.2.1;simpa [avA,avm g]using this
 ·have:=congrArg (·.drop (d-b)) h.2.2;simpa [ava,show b+(d-b)=d by omega]using this
theorem nT{l:List (List FC)}{i j:Nat}(hi:i<l.length)(g:j<l.length)(k:Nat):(AW l i j)[k]?=if k=j then l[i]? else if k=i then l[j]? else l[k]?:=by
 have m:l.getD i []=l[i]:=by simp [List.getD,asZ hi]
 have q:l.getD j []=l[j]:=by simp [List.getD,asZ g]
 simp only [AW,m,q,List.getElem?_set];by_cases b:j=k
 ·subst b;simp [asZ hi,g]
 ·by_cases d:i=k
  ·subst d;simp [b,Ne.symm b,asZ g,hi]
  ·simp [b,d,Ne.symm b,Ne.symm d]
theorem uI{a b:Nat}{l:List (List FC)}{i j:Nat}(hi:a≤i)(s:i<b)(x:a≤j)(u:j<b)(v:b≤l.length):iT a b l (AW l i j):=by
 have d:i<l.length:=by omega
 have g:j<l.length:=by omega
 refine⟨?_,?_,?_⟩
 ·have m:l.getD i []=l[i]:=by simp [List.getD,asZ d]
  have q:l.getD j []=l[j]:=by simp [List.getD,asZ g]
  simp only [AW,m,q];exact List.set_set_perm d g
 ·apply avs;intro k;simp only [auD];split
  ·rw [nT d g,aY (by omega),aY (by omega)]
  ·rfl
 ·apply avs;intro k;simp only [auj];rw [nT d g,aY (by omega),aY (by omega)]
section
variable{H:aj}{b sz ep:Nat}{rows:List (List FC)}
theorem RB.swap(h:RB H b sz ep rows)(hg:cr sz rows){i j:Nat}(hi:i<rows.length)(m:j<rows.length) :
  ∃ d g,dh H (.ptr b (i*sz) ep) (rows[j].map .f)=aa d∧RB d b sz ep (rows.set i rows[j])∧dh d (.ptr b (j*sz) ep) (rows[i].map .f)=aa g∧RB g b sz ep (AW rows i j)∧Fm b H g:=by
 have y:rows[i].length=sz:=hg _ (at2 hi);have q:rows[j].length=sz:=hg _ (at2 m);obtain⟨d,A,r1,v,-⟩:=h.str hg hi q;have l:cr sz (rows.set i rows[j]):=fun r hr=>by
  rcases List.mem_or_eq_of_mem_set hr with h | rfl
  ·exact hg r h
  ·exact q
 obtain⟨g,B,z,x,-⟩:=r1.str l (j:=j) (by simpa using m) y;refine⟨d,g,A,r1,B,?_,v.trans x⟩;have s:rows.getD i []=rows[i]:=by simp [List.getD,asZ hi]
 have u:rows.getD j []=rows[j]:=by simp [List.getD,asZ m]
 simp only [AW,s,u];exact z
theorem iT.xA{a b:Nat}{l l':List (List FC)}(h:iT a b l l')(hg:cr sz l):cr sz l':=fun r hr=>hg r (h.1.mem_iff.1 hr)
end
structure DB(W:List FC→Prop)(c:List FC→List FC→Int):Prop where
 aqn:∀ {x y},W x→W y→c x y<0→¬ c y x<0
 trans:∀ {x y z},W x→W y→W z→¬ c y x<0→¬ c z y<0→¬ c z x<0
def Up(c:List FC→List FC→Int)(a b:Nat)(l:List (List FC)):Prop:=∀ i j x y,a≤i→i<j→j<b→l[i]?=aa x→l[j]?=aa y→¬ c y x<0
end
section
open Go
def O5(l l':List (List FC))(a b n:Nat):Prop:=∀ k:Nat,l'[k]?=if a≤k∧k<a+n then l[k-a+b]? else if b≤k∧k<b+n then l[k-b+a]? else l[k]?
theorem O5.zero(l:List (List FC))(a b:Nat):O5 l l a b 0:=fun k=>by
 rw [aY (by omega),aY (by omega)]
theorem O5.step{l l':List (List FC)}{a b i:Nat}(h:O5 l l' a b i)(j:l'.length=l.length)(d:a+i<b)(g:b+i<l.length):O5 l (AW l' (a+i) (b+i)) a b (i+1):=fun k=>by
 rw [nT (by omega) (by omega)];by_cases h1:k=b+i
 ·subst h1;rw [bg rfl,h,aY (by omega),aY (by omega),aY (by omega),bg (by omega)]
  congr 1;omega
 rw [aY h1];by_cases h2:k=a+i
 ·subst h2;rw [bg rfl,h,aY (by omega),aY (by omega),bg (by omega)]
  congr 1;omega
 rw [aY h2,h k];by_cases h3:a≤k∧k<a+i
 ·rw [bg h3,bg (by omega)]
 rw [aY h3,aY (show¬ (a≤k∧k<a+(i+1)) by omega)];by_cases h4:b≤k∧k<b+i
 ·rw [bg h4,bg (by omega)]
 rw [aY h4,aY (by omega)]
theorem O5.blocks{X P M Q Z l':List (List FC)}{n:Nat}(d:P.length=n)(g:Q.length=n)(h:O5 (X++(P++(M++(Q++Z)))) l' X.length (X.length+n+M.length) n):l'=X++(Q++(M++(P++Z))):=by
 apply avs;intro k;rw [h k];by_cases b:k<X.length
 ·rw [aY (by omega),aY (by omega),anc b,anc b]
 rw [atZ (l₁:=X) (l₂:=Q++(M++(P++Z))) (by omega)];by_cases j:k<X.length+n
 ·rw [bg (by omega),atZ (by omega),atZ (by omega),atZ (by omega),anc (by omega),anc (by omega)]
  congr 1;omega
 rw [aY (by omega),atZ (l₁:=Q) (by omega)];by_cases l:k<X.length+n+M.length
 ·rw [aY (by omega),atZ (by omega),atZ (by omega),anc (by omega),anc (by omega)]
  congr 1;omega
 rw [atZ (l₁:=M) (l₂:=P++Z) (by omega)];by_cases m:k<X.length+n+M.length+n
 ·rw [bg (by omega),atZ (by omega),anc (by omega),anc (by omega)]
  congr 1;omega
 rw [aY (by omega),atZ (by omega),atZ (by omega),atZ (by omega),atZ (by omega),atZ (by omega)]
 congr 1;omega
def xl(l l':List (List FC))(a m b:Nat):Prop:=∀ k:Nat,l'[k]?=if a≤k∧k<a+(b-m)then l[k-a+m]? else if a+(b-m)≤k∧k<b then l[k-(b-m)]? else l[k]?
theorem xl.none(l:List (List FC)){a m b:Nat}(d:a≤m)(g:m≤b)(h:a=m∨m=b):xl l l a m b:=fun k=>by
 rcases h with rfl | rfl
 ·by_cases h1:a≤k∧k<a+(b-a)
  ·rw [bg h1];congr 1;omega
  ·rw [aY h1,aY (by omega)]
 ·rw [aY (by omega)];by_cases h1:a+(m-m)≤k∧k<m
  ·rw [bg h1];congr 1;omega
  ·rw [aY h1]
theorem xl.blocks{X U V Y:List (List FC)}:xl (X++(U++(V++Y))) (X++(V++(U++Y))) X.length (X.length+U.length) (X.length+U.length+V.length):=fun k=>by
 have e:X.length+U.length+V.length-(X.length+U.length)=V.length:=by omega
 rw [e];by_cases b:k<X.length
 ·rw [aY (by omega),aY (by omega),anc b,anc b]
 rw [atZ (l₁:=X) (l₂:=V++(U++Y)) (by omega)];by_cases d:k<X.length+V.length
 ·rw [bg (by omega),atZ (l₁:=X) (by omega),atZ (l₁:=U) (by omega),anc (l₁:=V) (l₂:=Y) (by omega),anc (l₁:=V) (l₂:=U++Y) (by omega)]
  congr 1;omega
 rw [aY (by omega),atZ (l₁:=V) (l₂:=U++Y) (by omega)];by_cases g:k<X.length+U.length+V.length
 ·rw [bg (by omega),atZ (l₁:=X) (by omega),anc (l₁:=U) (l₂:=V++Y) (by omega),anc (l₁:=U) (l₂:=Y) (by omega)]
  congr 1;omega
 rw [aY (by omega),atZ (l₁:=U) (l₂:=Y) (by omega),atZ (l₁:=X) (by omega),atZ (l₁:=U) (l₂:=V++Y) (by omega),atZ (l₁:=V) (l₂:=Y) (by omega)]
 congr 1;omega
theorem rj{l:List (List FC)}{a m b:Nat}(j:a≤m)(q:m≤b)(s:b≤l.length):∃ X U V Y,l=X++(U++(V++Y))∧X.length=a∧U.length=m-a∧V.length=b-m:=by
 refine⟨l.take a,(l.drop a).take (m-a),(l.drop m).take (b-m),l.drop b,?_,by simp;omega,by simp;omega,by simp;omega⟩;have g:(l.drop m).take (b-m)++l.drop b=l.drop m:=by
  have:=auA (b-m) (l.drop m);rwa [ava,show m+(b-m)=b by omega]at this
 have d:(l.drop a).take (m-a)++l.drop m=l.drop a:=by
  have:=auA (m-a) (l.drop a);rwa [ava,show a+(m-a)=m by omega]at this
 rw [g,d,auA]
theorem iT.mem{a b:Nat}{l l':List (List FC)}(h:iT a b l l')(d:a≤b)(J:b≤l.length){i:Nat}{x:List FC}(h1:a≤i)(h2:i<b)(y:l'[i]?=aa x):∃ j,a≤j∧j<b∧l[j]?=aa x:=by
 obtain⟨X,U,V,Y,e,Q,lU,O⟩:=rj (at3 a) d J;have Z:=h.len;obtain⟨X',z,E,u,F,s,N,m⟩:=rj (l:=l') (at3 a) d (by omega);obtain rfl:U=[]:=auY.1 (by omega);obtain rfl:z=[]:=auY.1 (by omega);obtain⟨g,M,K⟩:=h;subst e;subst F;have H:X'=X:=by
  simpa [auw (show a≤X.length by omega),auw (show a≤X'.length by omega),at8 (show X.length≤a by omega),at8 (show X'.length≤a by omega)]using M
 have I:u=Y:=by
  have q:∀ {A B C:List (List FC)},A.length=a→B.length=b-a→(A++([]++(B++C))).drop b=C:=by
   intro A B C S W;rw [ave,←auL,List.drop_append_of_le_length (by simp;omega),List.drop_of_length_le (by simp;omega),ave]
  rwa [q s m,q Q O]at K
 subst H;subst I;have g:E.Perm V:=by
  have:=(List.perm_append_left_iff X').1 g;simp only [ave]at this;exact(List.perm_append_right_iff u).1 this
 rw [ave,atZ (by omega),anc (by omega)]at y;obtain⟨j,v⟩:=auV (g.mem_iff.1 (aue y));have L:=(atu.1 v).1;refine⟨a+j,by omega,by omega,?_⟩;rw [ave,atZ (by omega),anc (by omega)];rw [←v];congr 1;omega
section
variable{W:List FC→Prop}{c:List FC→List FC→Int}
theorem Up.mono{a b a' d:Nat}{l:List (List FC)}(h:Up c a b l)(m:a≤a')(q:d≤b):Up c a' d l:=
 fun i j x y h1 h2 h3 g hy=>h i j x y (by omega) h2 (by omega) g hy
theorem Up.one{a b:Nat}{l:List (List FC)}(h:b≤a+1):Up c a b l:=fun i j x y h1 h2 h3=>by omega
theorem Up.of{a b:Nat}{l l':List (List FC)}(h:Up c a b l)(d:∀ k,a≤k→k<b→l'[k]?=l[k]?):Up c a b l':=fun i j x y h1 h2 h3 g hy=>
 h i j x y h1 h2 h3 (by rw [←d i h1 (by omega)];exact g) (by rw [←d j (by omega) h3];exact hy)
def ko(c:List FC→List FC→Int)(l:List (List FC))(i j:Nat):Prop:=∀ x y,l[i]?=aa x→l[j]?=aa y→¬ c y x<0
theorem Up.le{a b i j:Nat}{l:List (List FC)}(hc:DB W c)(g:∀ r ∈ l,W r)(h:Up c a b l)(h1:a≤i)(h2:i≤j)(h3:j<b):ko c l i j:=fun x y d hy=>by
 by_cases e:i=j
 ·subst e;rw [d]at hy;cases hy;have:=aue d;intro q;exact hc.aqn (g _ this) (g _ this) q q
 ·exact h i j x y h1 (by omega) h3 d hy
theorem ko.trans{l:List (List FC)}{i j k:Nat}(hc:DB W c)(b:∀ r ∈ l,W r)(h:ko c l i j)(q:ko c l j k)(d:j<l.length):ko c l i k:=fun x y g hy=>by
 have m:=asZ d;exact hc.trans (b _ (aue g)) (b _ (at2 d)) (b _ (aue hy)) (h _ _ g m) (q _ _ m hy)
theorem acv{l H I J:List (List FC)}{a s m e b mid:Nat}(v:DB W c)(u:∀ r ∈ l,W r)(L:Up c a m l)(M:Up c m b l)(h1:a≤s)(h2:s≤m)(h3:m≤e)(h4:e≤b)(O:mid+m=s+e)(hb:b≤l.length)
  (t:a<s→e<b→ko c l (s-1) e) (w:s<m→m<e→ko c l (e-1) s) (Q:xl l H s m e) (X:H.length=l.length) (K:iT a mid H I) (S:Up c a mid I) (F:iT mid b I J) (U:Up c mid b J):Up c a b J:=by
 intro i j x y hi A N g d;by_cases f:j<mid
 ·rw [F.lt (by omega)]at g;rw [F.lt (by omega)]at d;exact S i j x y hi A f g d
 by_cases k:mid≤i
 ·exact U i j x y k A N g d
 have o:=K.len;rw [F.lt (by omega)]at g;obtain⟨B,j1,j2,d⟩:=F.mem (by omega) (by omega) (by omega) N d;rw [K.ge (by omega)]at d;obtain⟨E,i1,i2,g⟩:=K.mem (by omega) (by omega) hi (by omega) g;rw [Q E]at g;rw [Q B]at d;have z:∀ p q:Nat,ko c l p q→l[p]?=aa x→l[q]?=aa y→¬ c y x<0:=fun p q h Y Z=>h _ _ Y Z;by_cases k3:E<s
 ·rw [aY (by omega),aY (by omega)]at g;by_cases n:B<e
  ·rw [aY (by omega),bg (by omega)]at d;exact z _ _ (L.le v u (by omega) (by omega) (by omega)) g d
  ·rw [aY (by omega),aY (by omega)]at d;exact z _ _ (((L.le v u (i:=E) (j:=s-1) (by omega) (by omega) (by omega)).trans v u (t (by omega) (by omega)) (by omega)).trans v u (M.le v u (i:=e) (j:=B) (by omega) (by omega) (by omega)) (by omega)) g d
 ·rw [bg (by omega)]at g;by_cases n:B<e
  ·rw [aY (by omega),bg (by omega)]at d;exact z _ _ (((M.le v u (i:=E-s+m) (j:=e-1) (by omega) (by omega) (by omega)).trans v u (w (by omega) (by omega)) (by omega)).trans v u (L.le v u (i:=s) (j:=B-(e-m)) (by omega) (by omega) (by omega)) (by omega)) g d
  ·rw [aY (by omega),aY (by omega)]at d;exact z _ _ (M.le v u (by omega) (by omega) (by omega)) g d
theorem ac7{l l':List (List FC)}{a s m e b:Nat}(g:DB W c)(d:∀ r ∈ l,W r)(A:Up c a m l)(B:Up c m b l)(O:a≤s)(Q:s≤m)(S:m≤e)(U:e≤b)(Y:b≤l.length)(X:s<m∨m<e)
  (H:a<s→m<e→ko c l (s-1) m) (N:s<m→m<e→ko c l (e-1) s) (I:s<m→e<b→ko c l (m-1) e) (E:xl l l' s m e):Up c a b l':=by
 intro i j x y hi J Z z u;rw [E i]at z;rw [E j]at u;have v:∀ p q:Nat,ko c l p q→l[p]?=aa x→l[q]?=aa y→¬ c y x<0:=fun p q h K L=>h _ _ K L;by_cases f:i<s
 ·rw [aY (by omega),aY (by omega)]at z;by_cases o:j<s
  ·rw [aY (by omega),aY (by omega)]at u;exact v _ _ (A.le g d (by omega) (by omega) (by omega)) z u
  by_cases M:j<s+(e-m)
  ·rw [bg (by omega)]at u;exact v _ _ (((A.le g d (i:=i) (j:=s-1) (by omega) (by omega) (by omega)).trans g d (H (by omega) (by omega)) (by omega)).trans g d (B.le g d (i:=m) (j:=j-s+m) (by omega) (by omega) (by omega)) (by omega)) z u
  rw [aY (by omega)]at u;by_cases F:j<e
  ·rw [bg (by omega)]at u;exact v _ _ (A.le g d (by omega) (by omega) (by omega)) z u
  rw [aY (by omega)]at u;by_cases q:m<e
  ·exact v _ _ (((A.le g d (i:=i) (j:=s-1) (by omega) (by omega) (by omega)).trans g d (H (by omega) q) (by omega)).trans g d (B.le g d (i:=m) (j:=j) (by omega) (by omega) (by omega)) (by omega)) z u
  ·exact v _ _ (((A.le g d (i:=i) (j:=m-1) (by omega) (by omega) (by omega)).trans g d (I (by omega) (by omega)) (by omega)).trans g d (B.le g d (i:=e) (j:=j) (by omega) (by omega) (by omega)) (by omega)) z u
 by_cases k:i<s+(e-m)
 ·rw [bg (by omega)]at z;by_cases M:j<s+(e-m)
  ·rw [bg (by omega)]at u;exact v _ _ (B.le g d (by omega) (by omega) (by omega)) z u
  rw [aY (by omega)]at u;by_cases F:j<e
  ·rw [bg (by omega)]at u;exact v _ _ (((B.le g d (i:=i-s+m) (j:=e-1) (by omega) (by omega) (by omega)).trans g d (N (by omega) (by omega)) (by omega)).trans g d (A.le g d (i:=s) (j:=j-(e-m)) (by omega) (by omega) (by omega)) (by omega)) z u
  rw [aY (by omega)]at u;exact v _ _ (B.le g d (by omega) (by omega) (by omega)) z u
 rw [aY (by omega)]at z;rw [aY (by omega)]at u;by_cases n:i<e
 ·rw [bg (by omega)]at z;by_cases F:j<e
  ·rw [bg (by omega)]at u;exact v _ _ (A.le g d (by omega) (by omega) (by omega)) z u
  rw [aY (by omega)]at u;exact v _ _ (((A.le g d (i:=i-(e-m)) (j:=m-1) (by omega) (by omega) (by omega)).trans g d (I (by omega) (by omega)) (by omega)).trans g d (B.le g d (i:=e) (j:=j) (by omega) (by omega) (by omega)) (by omega)) z u
 rw [aY (by omega)]at z;rw [aY (by omega)]at u;exact v _ _ (B.le g d (by omega) (by omega) (by omega)) z u
end
end
section
open Go
def bE:C→Option Nat
 | .sl b _ _ _ _ _=>aa b| _=>ab
def LR(H:aj)(c:C)(sz:Nat)(rows:List (List FC)):Prop:=(rows=[]∧(c=.f .aw∨c=.f .es))∨(rows≠[]∧∃ b ep,c=.sl b 0 rows.length 0 ep sz∧RB H b sz ep rows)
def Kb(H H':aj)(c:C):Prop:=H.length≤H'.length∧∀(i:Nat) y,H[i]?=aa y→bE c≠aa i→H'[i]?=aa y
section
variable{H H':aj}{c:C}{sz:Nat}{rows:List (List FC)}
theorem LR.nil(H:aj)(sz:Nat):LR H (.f .aw) sz []:=.inl ⟨rfl,.inl rfl⟩
theorem LR.cM(h:LR H c sz rows)(d:∀ i y,H[i]?=aa y→bE c=aa i→H'[i]?=aa y):LR H' c sz rows:=by
 rcases h with h | ⟨h,b,ep,rfl,h2⟩
 ·exact .inl h
 ·exact .inr ⟨h,b,ep,rfl,d b _ h2 rfl⟩
theorem LR.push(h:LR H c sz rows)(J:aj):LR (H++J) c sz rows:=h.cM fun i y hy _=>by rw [anc (au hy)];exact hy
theorem LR.lt(h:LR H c sz rows){i:Nat}(hi:bE c=aa i):i<H.length:=by
 rcases h with⟨_,rfl | rfl⟩ | ⟨h,b,ep,rfl,h2⟩
 ·cases hi
 ·cases hi
 ·cases hi;exact h2.lt
theorem LR.oU(h:LR H c sz rows){i:Nat}{cs:List C}{fl:Nat}(d:H[i]?=aa (.box cs fl)):bE c≠aa i:=by
 rcases h with⟨_,rfl | rfl⟩ | ⟨h,b,ep,rfl,h2⟩
 ·simp [bE]
 ·simp [bE]
 ·intro e;cases e;unfold RB at h2;rw [h2]at d;cases d
theorem LR.set(h:LR H c sz rows){i:Nat}(hi:bE c≠aa i)(x:bz):LR (H.set i x) c sz rows:=h.cM fun j y hy b=>by
 have:i≠j:=by rintro rfl;exact hi b
 rw [aft this];exact hy
theorem LR.len(h:LR H c sz rows):bA H c=aa rows.length:=by
 rcases h with⟨rfl,rfl | rfl⟩ | ⟨h,b,ep,rfl,h2⟩
 ·rfl
 ·rfl
 ·exact h2.len
theorem LR.at(h:LR H c sz rows)(hg:cr sz rows){j:Nat}(d:j<rows.length):∃ b ep,bG H sz ab (.c c) (vi j)=aa (.c (.ptr b (j*sz) ep))∧aV H (aa sz) (.c (.ptr b (j*sz) ep))=aa (.a (rows[j].map .f)):=by
 rcases h with⟨rfl,_⟩ | ⟨h,b,ep,rfl,h2⟩
 ·simp at d
 ·have:=h2.idx (n:=rows.length) (c:=0) (k:=.i64) (o:=0) (i:=(j:Int)) (by omega) (by omega);rw [aui,auH]at this;exact⟨b,ep,this,h2.ldr hg (asZ d)⟩
theorem LR.ex(h:LR H c sz rows)(hg:cr sz rows)(n:Nat):∃ g,ek (n+1) H c=aa (sl g rows):=by
 rcases h with⟨rfl,rfl | rfl⟩ | ⟨h,b,ep,rfl,h2⟩
 ·exact⟨.nil,rfl⟩
 ·exact⟨.es,rfl⟩
 ·refine⟨.fs,?_⟩;have d:rows.length*sz=rows.flatten.length:=(bW hg).symm;unfold RB at h2;simp only [mr,h2];rw [bg ⟨trivial,trivial,by rw [at9,auH,d];exact at3 _⟩,au5,at8 (by rw [at9];omega),sq];cases rows with
  | nil=>exact absurd rfl h| cons x l=>simp [sl]
theorem adm{g g':Tg}{rows:List (List FC)}(h:rows≠[]):sl g rows=sl g' rows:=by
 cases rows with
 | nil=>exact absurd rfl h| cons x l=>rfl
theorem LR.exU(h:LR H c sz rows)(hg:cr sz rows):∃ g,∀(H':aj) (n:Nat),(∀ i y,H[i]?=aa y→bE c=aa i→H'[i]?=aa y)→ek (n+1) H' c=aa (sl g rows):=by
 by_cases hr:rows=[]
 ·rcases h with⟨rfl,rfl | rfl⟩ | ⟨h,_⟩
  ·exact⟨.nil,fun _ _ _=>rfl⟩
  ·exact⟨.es,fun _ _ _=>rfl⟩
  ·exact absurd hr h
 ·refine⟨.fs,fun H' n b=>?_⟩;obtain⟨g,e⟩:=(h.cM b).ex hg n;rw [e,adm hr]
theorem LR.app(h:LR H c sz rows)(hg:cr sz rows)(nY:sz≠0){row:List FC}(hr:row.length=sz){bytes:Nat}(d:bU (rows.length+1) bytes=ae){b1 fl1:Nat}(l:H[b1]?=aa (.box (row.map .f) fl1)) :
  ∃ c' H',cG H sz bytes (.c c) (.c (.sl b1 0 1 1 0 sz))=aa (.c c',H')∧LR H' c' sz (rows++[row])∧Kb H H' c∧(bE c'=bE c∨bE c'=aa H.length):=by
 have g:cV H sz (.c (.sl b1 0 1 1 0 sz))=aa (1,row.map .f):=ri l (by simp [hr]);rcases h with⟨rfl,m⟩ | ⟨s,b,ep,rfl,h2⟩
 ·have d:bU 1 bytes=ae:=by simpa using d
  refine⟨.sl H.length 0 1 0 0 sz,H++[.b5 sz (row.map .f) 0 0 .loc],?_,.inr ⟨by simp,H.length,0,rfl,?_⟩,⟨by simp,fun i y hy _=>by rw [anc (au hy)];exact hy⟩,.inr rfl⟩
  ·rcases m with rfl | rfl<;>simp [cG,g,d,nY]
  ·simp [RB]
 ·have j:rows.length*sz=rows.flatten.length:=(bW hg).symm;unfold RB at h2;refine⟨.sl b 0 (rows.length+1) 0 (ep+1) sz,H.set b (.b5 sz (rows.flatten.map .f++row.map .f) 0 (ep+1) .loc),?_,.inr ⟨by simp,b,ep+1,by simp,?_⟩,⟨by simp,fun i y hy q=>?_⟩,.inl rfl⟩
  ·simp only [cG,g,nY,if_false,h2,and_self,if_true];simp only [Nat.add_one_ne_zero,if_false];rw [bg ⟨trivial,by rw [at9];exact j,by simp⟩,d];simp
  ·unfold RB;rw [atY (au h2)];simp
  ·have:b≠i:=by rintro rfl;exact q rfl
   rw [aft this];exact hy
theorem Kb.refl(H:aj)(c:C):Kb H H c:=⟨at3 _,fun _ _ h _=>h⟩
theorem Kb.push(H J:aj)(c:C):Kb H (H++J) c:=⟨by simp,fun i y hy _=>by rw [anc (au hy)];exact hy⟩
theorem Kb.aqZ{b o l d ep s:Nat}(h:Fm b H H'):Kb H H' (.sl b o l d ep s):=⟨h.1,fun i y hy g=>by
 have:i≠b:=by rintro rfl;exact g rfl
 exact h.get hy this⟩
end
end
section
open Go
theorem oN{g:Type}{sz:Nat}:∀ {rows:List (List g)} {j:Nat} {row:List g},(∀ r ∈ rows,r.length=sz)→rows[j]?=aa row→(rows.flatten.drop (j*sz)).take sz=row
 | [],j,row,_,b=>by simp at b
 | r::rows,0,row,d,b=>by
  simp at b;subst b;have:=d r at4;subst this;simp
 | r::rows,j+1,row,d,b=>by
  have l:=d r at4;have q:=oN (rows:=rows) (j:=j) (row:=row) (fun x m=>d x (at5 _ m)) (by simpa using b);rw [auu,show(j+1)*sz=r.length+j*sz by rw [l,auF];omega,←ava,List.drop_left];exact q
theorem Cs{b:Type}:∀ {cs:List b} {k:Nat} {x:b},k<cs.length→bp cs k [x]=cs.set k x
 | [],k,x,h=>by simp at h
 | c::cs,0,x,_=>by simp [bp]
 | c::cs,k+1,x,h=>by
  have:=Cs (cs:=cs) (k:=k) (x:=x) (by simpa using h);simp only [bp,auo,List.length_nil]at this ⊢;rw [avV,awc,←this];simp
theorem PS{g:Type}{sz:Nat}:∀ {rows:List (List g)} {j k n:Nat} {row:List g},(∀ r ∈ rows,r.length=sz)→rows[j]?=aa row→k+n≤sz→(rows.flatten.drop (j*sz+k)).take n=(row.drop k).take n:=by
 intro rows j k n row b d m;have q:row.length=sz:=b row (aue d);have l:=oN b d;rw [←ava,←l,List.drop_take,avA,avm (by omega)]
theorem yL{m:Type}{sz:Nat}:∀ {rows:List (List m)} {j k:Nat} {row xs:List m},(∀ r ∈ rows,r.length=sz)→rows[j]?=aa row→k+xs.length≤sz→bp rows.flatten (j*sz+k) xs=(rows.set j (bp row k xs)).flatten
 | [],j,k,row,xs,_,b,_=>by simp at b
 | r::rows,0,k,row,xs,d,b,g=>by
  simp at b;subst b;have:=d r at4;simp only [bp,auu,List.set_cons_zero,Nat.zero_mul,auH];rw [auw (by omega),List.drop_append_of_le_length (by omega)];simp
 | r::rows,j+1,k,row,xs,d,b,g=>by
  have q:=d r at4;have l:=yL (rows:=rows) (j:=j) (k:=k) (row:=row) (xs:=xs) (fun y s=>d y (at5 _ s)) (by simpa using b) g;have e:(j+1)*sz+k=r.length+(j*sz+k):=by rw [q,auF];omega
  simp only [bp,auu,awc]at l ⊢;rw [←l,e,List.take_length_add_append,Nat.add_assoc,List.drop_length_add_append];simp
theorem F_{g:Type}{sz:Nat}{rows:List (List g)}(b:∀ r ∈ rows,r.length=sz){j:Nat}(d:j<rows.length):j*sz+sz≤rows.flatten.length:=by
 rw [vz b];have:(j+1)*sz≤rows.length*sz:=auO _ d;rw [auF]at this;omega
section
variable{H:aj}{b sz ep j k n:Nat}{rows:List (List FC)}{row:List FC}
theorem RB.ldp(h:RB H b sz ep rows)(hg:cr sz rows)(g:rows[j]?=aa row)(l:k+n≤sz):aV H (aa n) (.c (.ptr b (j*sz+k) ep))=aa (.a (((row.drop k).take n).map .f)):=by
 unfold RB at h;have d:row.length=sz:=hg row (aue g);have:=PS (n:=n) hg g l;simp only [aA,h,if_true];have e:((row.drop k).take n).length=n:=by simp [d];omega
 have m:=F_ hg (atu.1 g).1;rw [←av2];simp only [aT,at9];rw [bg (by rw [auf];omega),←List.map_take,this]
theorem RB.ldc{x:FC}(h:RB H b sz ep rows)(hg:cr sz rows)(g:rows[j]?=aa row)(l:row[k]?=aa x):aV H ab (.c (.ptr b (j*sz+k) ep))=aa (.c (.f x)):=by
 unfold RB at h;have m:row.length=sz:=hg row (aue g);have q:=(atu.1 l).1;have:=vw hg g (by omega:k<sz);simp only [aA,h,if_true];rw [av2.symm];have e:(rows.flatten.drop (j*sz+k))[0]?=aa x:=by rw [auj,avD,this,l]
 cases d:rows.flatten.drop (j*sz+k)with
 | nil=>rw [d]at e;simp at e| cons y ys=>rw [d]at e;simp at e;simp [aT,e]
theorem RB.stp{xs:List FC}(h:RB H b sz ep rows)(hg:cr sz rows)(g:rows[j]?=aa row)(m:k+xs.length≤sz):∃ H',dh H (.ptr b (j*sz+k) ep) (xs.map .f)=aa H'∧RB H' b sz ep (rows.set j (bp row k xs))∧Fm b H H'∧H'.length=H.length:=by
 have d:=(atu.1 g).1;have l:=F_ hg d;unfold RB at h ⊢;refine⟨H.set b (.b5 sz ((rows.set j (bp row k xs)).flatten.map .f) 0 ep .loc),?_,atY (au h),Fm.set _ _,by simp⟩;have e:bp (rows.flatten.map C.f) (j*sz+k) (xs.map .f)=((rows.set j (bp row k xs)).flatten).map .f:=by
  rw [←yL hg g m];simp [bp]
 simp only [bl,h,avp,true_and,at9];rw [bg (by omega),e]
end
def ank(sz:Nat)(zs:List FC)(bytes:Nat):aL:=⟨[P.nat 0],[.tmp (P.nat 2)],.seq (.region [⟨D 2,.bc (.k (.c (.f (.aw)))),ab⟩] []) (.seq (.seq (.region [⟨D 3,.bc (R 0),ab⟩,⟨D 4,.eq ag .sl (R 3) (.k (.c (.f (.aw)))),ab⟩] [])
 (.cond (R 4) (.seq (.region [⟨D 2,.bc (.k (.c (.f (.aw)))),ab⟩] []) .ret) .skip)) (.seq (.region [⟨D 5,.bH sz zs 0 [],ab⟩,⟨D 6,.bc (R 0),ab⟩,⟨D 7,.append sz bytes (R 5) (R 6),ab⟩,⟨D 2,.bc (R 7),ab⟩] []) .ret))⟩
section
variable{tab:TB}{F sz bytes:Nat}{zs:List FC}{H:aj}{g:Tg}{rows:List (List FC)}
theorem yH{cs:List FC}{n:Nat}:D0 H .sl (.c (.f (.fs cs n))) (.c (.f .aw))=aa ag:=rfl
theorem aiO:D0 H .sl (.c (.f .aw)) (.c (.f .aw))=aa ae:=rfl
theorem aqx:D0 H .sl (.c (.f .es)) (.c (.f .aw))=aa ag:=rfl
theorem vj(u:tab F=aa (ank sz zs bytes))(l:sz≠0)(v:cr sz rows)(j:bU rows.length bytes=ae) :
  ∃ r H',Ev tab (.fn F) [.c (.f (sl g rows))] H r H'∧∃ c J,r=.c c∧H'=H++J∧LR (H++J) c sz rows∧∀ i,bE c=aa i→H.length≤i:=by
 refine cI (C:=fun r H'=>∃ c J,r=.c c∧H'=H++J∧LR (H++J) c sz rows∧∀ i,bE c=aa i→H.length≤i) u rfl fun Q m=>?_;apply ai;simp;apply al;apply ai;cases rows with
 | nil=>
  cases g with
  | nil=>
   simp [sl,Tg.fc,aiO];refine aq (by simp) ?_;apply ai;simp;exact aC (m _ _ (.c (.f .aw)) rfl (by simp [Km.results,bj]) ⟨_,[],rfl,by simp,.inl ⟨rfl,.inl rfl⟩,by simp [bE]⟩)
  | es=>
   simp [sl,Tg.fc,aqx];refine bw (by simp) ?_;apply ai;simp [cG,cV,bA,cO,l];exact aC (m _ _ (.c (.f .es)) rfl (by simp [Km.results,bj]) ⟨_,[],rfl,by simp,.inl ⟨rfl,.inr rfl⟩,by simp [bE]⟩)
  | fs=>
   simp [sl,Tg.fc,yH];refine bw (by simp) ?_;apply ai;simp [cG,cV,bA,cO,l];exact aC (m _ _ (.c (.f .es)) rfl (by simp [Km.results,bj]) ⟨_,[],rfl,by simp,.inl ⟨rfl,.inr rfl⟩,by simp [bE]⟩)
 | cons x r=>
  have d:cV H sz (.c (.f (.fs (x::r).flatten (x::r).length)))=aa ((x::r).length,(x::r).flatten.map .f):=by
   have q:=BG (H:=H) (g:=.fs) v;have s:=Ee (H:=H) .fs (x::r);simp only [sl,av0,aub,if_false]at q s;simp only [cV,q,s]
  have b:bU (r.length+1) bytes=ae:=by simpa using j
  simp only [sl,av0,aub,if_false];simp [yH];refine bw (by simp) ?_;apply ai;simp only [auu,auo]at d;simp [cG,d,l,b];refine aC (m _ _ (.c (.sl H.length 0 (r.length+1) 0 0 sz)) rfl (by simp [Km.results,bj]) ⟨_,[.b5 sz ((x::r).flatten.map .f) 0 0 .loc],rfl,by simp,.inr ⟨by simp,H.length,0,rfl,by simp [RB]⟩,by simp [bE]⟩)
end
end
section
open Go
theorem mI{H:aj}{sz:Nat}{g:Tg}{rows:List (List FC)}(j:cr sz rows):cV H sz (.c (.f (sl g rows)))=aa (rows.length,rows.flatten.map .f):=by
 have b:=BG (H:=H) (g:=g) j;have d:=Ee (H:=H) g rows;have e:∀ s,sl g rows≠.str s:=fun s=>by cases rows<;>cases g<;>simp [sl,Tg.fc]
 generalize sl g rows=x at *;cases x<;>simp only [cV,b,d];exact absurd rfl (e _)
theorem ajH{H:aj}{sz:Nat}{g:Tg}{rows:List (List FC)}{k:Nat}(l:cr sz rows)(u:k≤rows.length)(z:rows.length≤9223372036854775807) :
  ∃ g',dk H sz (.c (.f (sl g rows))) (aa (vi k)) ab ab=aa (.c (.f (sl g' (rows.drop k)))):=by
 cases rows with
 | nil=>
  have:k=0:=by simpa using u
  subst this;cases g
  ·exact⟨.nil,rfl⟩
  ·exact⟨.es,rfl⟩
  ·exact⟨.fs,by simp [sl,Tg.fc,dk,bO];rfl⟩
 | cons x r=>
  refine⟨.fs,?_⟩;have d:AU (vi k) (x::r).length=aa k:=by
   have:(0:Int)≤(k:Int)∧(k:Int)≤((x::r).length:Int):=⟨by omega,by omega⟩
   show(if(0:Int)≤(k:Int)∧(k:Int)≤((x::r).length:Int)then aa (k:Int).toNat else ab)=aa k;rw [bg this,aui]
  have b:bO (x::r).length (x::r).length (aa (vi k)) ab ab=aa (k,(x::r).length,(x::r).length):=by
   simp [bO];simp only [auo]at d;rw [d];rfl
  show dk H sz (.c (.f (.fs (x::r).flatten (x::r).length))) _ _ _=_;simp only [dk,b];have m:((x::r).flatten.drop (k*sz)).take (((x::r).length-k)*sz)=((x::r).drop k).flatten:=by
   rw [rq k l,at8];rw [bW (fun y v=>l y (au0 v)),auf];exact at3 _
  rw [m];have s:sl .fs ((x::r).drop k)=.fs ((x::r).drop k).flatten ((x::r).length-k):=by
   cases j:(x::r).drop k with
   | nil=>
    have:=congrArg List.length j;simp only [auf,List.length_nil]at this;rw [this];rfl
   | cons y q=>
    have:=congrArg List.length j;simp only [auf]at this;rw [this];rfl
  rw [s];simp
theorem LR.aqm{H:aj}{c:C}{sz:Nat}{rows rows':List (List FC)}(h:LR H c sz rows)(hg:cr sz rows)(nY:sz≠0)(l:cr sz rows'){bytes:Nat}(d:bU (rows.length+rows'.length) bytes=ae)(g:Tg) :
  ∃ c' H',cG H sz bytes (.c c) (.c (.f (sl g rows')))=aa (.c c',H')∧LR H' c' sz (rows++rows')∧Kb H H' c∧(bE c'=bE c∨bE c'=aa H.length):=by
 by_cases h0:rows'=[]
 ·subst h0;refine⟨c,H,?_,by simpa using h,Kb.refl H c,.inl rfl⟩;have s:=mI (H:=H) (g:=g) l;rcases h with⟨rfl,rfl | rfl⟩ | ⟨q,b,ep,rfl,h2⟩
  ·simp only [cG,s,nY,if_false];simp
  ·simp only [cG,s,nY,if_false];simp
  ·unfold RB at h2;simp only [cG,s,nY,if_false,h2,and_self,if_true,List.length_nil]
 have u:rows'.length≠0:=fun e=>h0 (auY.1 e);have j:=mI (H:=H) (g:=g) l;have x:=bW l;rcases h with⟨rfl,v⟩ | ⟨q,b,ep,rfl,h2⟩
 ·have d:bU rows'.length bytes=ae:=by simpa using d
  refine⟨.sl H.length 0 rows'.length 0 0 sz,H++[.b5 sz (rows'.flatten.map .f) 0 0 .loc],?_,.inr ⟨by simpa using h0,H.length,0,by simp,?_⟩,Kb.push H _ c,.inr rfl⟩
  ·rcases v with rfl | rfl<;>simp [cG,j,d,nY,u]
  ·simp [RB]
 ·have m:rows.length*sz=rows.flatten.length:=(bW hg).symm;unfold RB at h2;refine⟨.sl b 0 (rows.length+rows'.length) 0 (ep+1) sz,H.set b (.b5 sz (rows.flatten.map .f++rows'.flatten.map .f) 0 (ep+1) .loc),?_,.inr ⟨by simp [q],b,ep+1,by simp,?_⟩,⟨by simp,fun i y hy z=>?_⟩,.inl rfl⟩
  ·simp only [cG,j,nY,if_false,h2,and_self,if_true,u];rw [bg ⟨trivial,by rw [at9];exact m,by simp⟩,d];simp
  ·unfold RB;rw [atY (au h2)];simp
  ·have:b≠i:=by rintro rfl;exact z rfl
   rw [aft this];exact hy
end
section
set_option linter.unusedVariables false
open Go
abbrev yn(d:Nat)(op:cX):aP:=⟨D d,op,ab⟩
abbrev ygm(d k g:Nat):aP:=⟨D d,.bc (R k),G g ae⟩
abbrev ygl(d z k g:Nat):aP:=⟨D d,.load (aa z) (R k),G g ae⟩
abbrev ym(d k:Nat):aP:=⟨D d,.bc (R k),ab⟩
abbrev yi(n:Int):Arg:=.k (.c (.f (.int .i64 n)))
abbrev yt:Arg:=.k (.c (.f (.bool ae)))
abbrev yf:Arg:=.k (.c (.f (.bool ag)))
abbrev ys(z a b:Nat):aP:=⟨ab,.store z (R a) (R b),ab⟩
abbrev yb(d:Nat)(o:BinOp)(a b:Nat):aP:=⟨D d,.bin o (R a) (R b),ab⟩
abbrev ya(d z a b:Nat):aP:=⟨D d,.bI z ab (R a) (R b),ab⟩
abbrev yl(d z a:Nat):aP:=⟨D d,.load (aa z) (R a),ab⟩
abbrev yr(l:List aP):aE:=.region l []
structure Dm where
 pdq:Nat
 ins:Nat
 heap:Nat
 as8:Nat
 brk:Nat
 piv:Nat
 rev:Nat
 part:Nat
 peq:Nat
 pins:Nat
 as0:Nat
 med:Nat
 ord:Nat
 npt:Nat
 nxt:Nat
 len:Nat
 aox:Nat
 qE:Nat
 rot:Nat
 swr:Nat
section
variable(σ:Dm)(sz:Nat)
def anK:aE:=yr [ym 37 0,ym 38 9,ym 39 0,ym 40 9,yn 41 (.bin .sub (R 40) (yi 1)),ym 42 0,ym 43 9,yn 44 (.bin .sub (R 43) (yi 1)),ya 45 sz 42 44,yl 46 sz 45,ym 47 0,ym 48 9,ya 49 sz 47 48,yl 50 sz 49,ya 51 sz 37 38,ys sz 51 46,ya 52 sz 39 41,ys sz 52 50]
def anL:aE:=yr [ym 35 9,yn 36 (.bin .sub (R 35) (yi 1)),ym 9 36]
def anJ:aE:=.seq (.block 3 (anK sz)) (anL)
def anI:aE:=.seq (.seq (yr [ym 18 9,ym 19 1,yb 20 .gtr 18 19,ym 21 20,ygm 22 3 21,ygm 23 0 21,ygm 24 9 21,⟨D 25,.bI sz ab (R 23) (R 24),G 21 ae⟩,ygl 26 sz 25 21,ygm 27 0 21,ygm 28 9 21,⟨D 29,.bin .sub (R 28) (yi 1),G 21 ae⟩,⟨D 30,.bI sz ab (R 27) (R 29),G 21 ae⟩,ygl 31 sz 30 21,⟨D 32,.cm (R 22) [R 26,R 31] ae,G 21 ae⟩,⟨D 33,.bin .lss (R 32) (yi 0),G 21 ae⟩,yn 34 (.pick (R 21) (R 33) yf)]) (.cond (R 34) .skip (.exit 2))) (anJ sz)
def anH:aE:=.seq (yr [ym 17 8,ym 9 17]) (.block 2 (.loop (anI sz)))
def Aj:aE:=yr [ym 15 8,yn 16 (.bin .add (R 15) (yi 1)),ym 8 16]
def aqL:aE:=.seq (.block 1 (anH sz)) (Aj)
def Gf:aE:=.seq (.seq (yr [ym 12 8,ym 13 2,yb 14 .lss 12 13]) (.cond (R 14) .skip (.exit 0))) (aqL sz)
def aqK:aE:=.seq (yr [ym 10 1,yn 11 (.bin .add (R 10) (yi 1)),ym 8 11]) (.block 0 (.loop (Gf sz)))
def ak4(σ:Dm)(sz:Nat):aL:=⟨[P.nat 0,P.nat 1,P.nat 2,P.nat 3],[],(aqK sz)⟩
end
end
section
open Go
def Cv(tab:TB)(cv:V)(W:List FC→Prop)(c:List FC→List FC→Int):Prop:=
 ∀ x y,W x→W y→∀ H,∃ F b J,bZ cv [.a (x.map .f),.a (y.map .f)]=aa (.fn F,b)∧Ev tab (.fn F) b H (vi (c x y)) (H++J)
section
variable{W:List FC→Prop}{c:List FC→List FC→Int}{l:List (List FC)}
theorem ko.of_lt{i j:Nat}(hc:DB W c)(b:∀ r ∈ l,W r){x y:List FC}(d:l[i]?=aa x)(hy:l[j]?=aa y)(h:c x y<0):ko c l i j:=fun g m h1 h2=>by
 rw [d]at h1;rw [hy]at h2;cases h1;cases h2;exact hc.aqn (b _ (aue d)) (b _ (aue hy)) h
theorem ko.of_le{i j:Nat}{x y:List FC}(b:l[i]?=aa x)(hy:l[j]?=aa y)(h:¬ c y x<0):ko c l i j:=fun d g h1 h2=>by
 rw [b]at h1;rw [hy]at h2;cases h1;cases h2;exact h
theorem ko.get{l':List (List FC)}{i j b d:Nat}(h:ko c l i j)(h1:l'[b]?=l[i]?)(h2:l'[d]?=l[j]?):ko c l' b d:=fun x y g hy=>h x y (by rw [←h1];exact g) (by rw [←h2];exact hy)
def Ins(c:List FC→List FC→Int)(a i j:Nat)(l:List (List FC)):Prop:=∀ p q,a≤p→p<q→q≤i→q≠j→ko c l p q
theorem Ins.start{a i:Nat}(h:Up c a i l):Ins c a i i l:=fun p q h1 h2 h3 h4=>fun x y=>h p q x y h1 h2 (by omega)
theorem Ins.step{a i j:Nat}(hc:DB W c)(s:∀ r ∈ l,W r)(h:Ins c a i (j+1) l)(u:a≤j)(z:j+1≤i)(hi:i<l.length){x y:List FC}(v:l[j+1]?=aa x)(hy:l[j]?=aa y)(d:c x y<0):Ins c a i j (AW l (j+1) j):=by
 intro p q h1 h2 h3 h4;have g:∀ k,(AW l (j+1) j)[k]?=if k=j then l[j+1]? else if k=j+1 then l[j]? else l[k]?:=fun k=>nT (by omega) (by omega) k;by_cases q1:q=j+1
 ·subst q1;by_cases p1:p=j
  ·subst p1;exact(ko.of_lt hc s v hy d).get (by rw [g,bg rfl]) (by rw [g,aY (by omega),bg rfl])
  ·exact(h p j h1 (by omega) (by omega) (by omega)).get (by rw [g,aY (by omega),aY (by omega)]) (by rw [g,aY (by omega),bg rfl])
 ·have b:(AW l (j+1) j)[q]?=l[q]?:=by rw [g,aY h4,aY q1]
  by_cases p1:p=j
  ·subst p1;exact(h (p+1) q (by omega) (by omega) h3 q1).get (by rw [g,bg rfl]) b
  by_cases m:p=j+1
  ·subst m;exact(h j q u (by omega) h3 q1).get (by rw [g,aY (by omega),bg rfl]) b
  ·exact(h p q h1 h2 h3 q1).get (by rw [g,aY p1,aY m]) b
theorem Ins.front{a i:Nat}(h:Ins c a i a l):Up c a (i+1) l:=fun p q x y h1 h2 h3=>h p q h1 h2 (by omega) (by omega) x y
theorem Ins.stop{a i j:Nat}(hc:DB W c)(d:∀ r ∈ l,W r)(h:Ins c a i (j+1) l)(g:a≤j)(m:j+1≤i)(hi:i<l.length)(b:ko c l j (j+1)):Up c a (i+1) l:=by
 intro p q x y h1 h2 h3;by_cases q1:q=j+1
 ·subst q1;by_cases p1:p=j
  ·subst p1;exact b x y
  ·exact((h p j h1 (by omega) (by omega) (by omega)).trans hc d b (by omega)) x y
 ·exact h p q h1 h2 (by omega) q1 x y
end
section
variable{tab:TB}{σ:Dm}{sz:Nat}{H:aj}{b ep:Nat}{rows:List (List FC)}{cv:V}{W:List FC→Prop}{c:List FC→List FC→Int}
theorem RB.at(h:RB H b sz ep rows){i:Nat}(hi:i<rows.length):bG H sz ab (.c (.sl b 0 rows.length 0 ep sz)) (vi i)=aa (.c (.ptr b (i*sz) ep)):=by
 have:=h.idx (n:=rows.length) (c:=0) (k:=.i64) (o:=0) (i:=(i:Int)) (by omega) (by omega);rwa [aui,auH]at this
theorem RB.ldi(h:RB H b sz ep rows)(hg:cr sz rows){i:Nat}(hi:i<rows.length):aV H (aa sz) (.c (.ptr b (i*sz) ep))=aa (.a (rows[i].map .f)):=h.ldr hg (asZ hi)
theorem Ea(hT:tab σ.ins=aa (ak4 σ sz))(b_:Cv tab cv W c)(hc:DB W c){n a e:Nat}(hn:rows.length=n)(hl:n≤1000000000)(d:RB H b sz ep rows)(hg:cr sz rows)(hW:∀ r ∈ rows,W r)(d_:a≤e)(e_:e≤n) :
  ∃ r H',Ev tab (.fn σ.ins) [.c (.sl b 0 n 0 ep sz),vi a,vi e,cv] H r H'∧(r=.t []∧Fm b H H'∧∃ l',RB H' b sz ep l'∧iT a e rows l'∧Up c a e l'):=by
 refine cI hT rfl fun Q hQ=>?_;apply ai;simp [aW (n:=(a:Int)+1)];refine aF ?_;refine cH (fun m s=>∃(i:Nat) (t:T) (U:aj) (l:List (List FC)),s=⟨t,[],U⟩∧m=n+1-i∧a+1≤i∧(i≤e∨i=a+1)∧t.g 0=.c (.sl b 0 n 0 ep sz)∧t.g 1=vi a∧t.g 2=vi e∧t.g 3=cv∧t.g 8=vi i ∧
  Fm b H U∧RB U b sz ep l∧iT a e rows l∧Up c a i l) _
  ⟨a+1,_,H,rows,rfl,rfl,by omega,.inr rfl,by simp,by simp,by simp,by simp,by simp,Fm.refl H,d,iT.refl _ _ _,Up.one (by omega)⟩ ?_
 rintro m s ⟨i,t,U,l,rfl,rfl,f_,hi,g0,B,K,L,E,v,d,g,b9⟩ ih;have A:=g.len;apply al;apply ai;simp [E,K];by_cases a_:i<e
 case neg=>
  refine aD (by simp [a_]) ?_;refine bJ (k':=[]) rfl ?_;exact cJ (hQ _ _ _ rfl rfl ⟨rfl,v,l,d,g,b9.mono (at3 _) (by omega)⟩)
 refine aq (by simp [a_]) (aO ?_);apply al;refine aF ?_;apply ai;simp [E];refine aF ?_;refine cH (fun m s=>∃(j:Nat) (t:T) (O:aj) (q:List (List FC)),s=⟨t,[],O⟩∧j=m∧a≤j∧j≤i∧t.g 0=.c (.sl b 0 n 0 ep sz)∧t.g 1=vi a∧t.g 2=vi e∧t.g 3=cv∧t.g 8=vi i∧t.g 9=vi j ∧
  Fm b H O∧RB O b sz ep q∧iT a e rows q∧Ins c a i j q) i
  ⟨i,_,U,l,rfl,rfl,by omega,by omega,by simp [g0],by simp [B],by simp [K],by simp [L],by simp [E],by simp,v,d,g,Ins.start b9⟩ ?_
 rintro m s ⟨j,t,O,q,rfl,rfl,g_,a8,g0,B,K,L,E,X,v,d,g,z⟩ d9;have A:=g.len;have x:=g.xA hg;have I:∀ r ∈ q,W r:=fun r hr=>hW r (g.1.mem_iff.1 hr);have stop:Up c a (i+1) q→∀ t:T,t.g 0=.c (.sl b 0 n 0 ep sz)→t.g 1=vi a→t.g 2=vi e→t.g 3=cv→t.g 8=vi i→∀ S,Fm b H S→RB S b sz ep q →
   WP tab σ.ins ab [.inBlock 1,.code (Aj),.inLoop (Gf sz),.inBlock 0] ⟨t,[],S⟩ Q:=by
  intro hp t g0 B K L E S v d;refine az (an (.inl rfl) ?_);simp [E,aW (n:=(i:Int)+1)];exact ih (n+1-(i+1)) _ (by omega) ⟨i+1,_,S,q,rfl,rfl,by omega,.inl (by omega),by simp [g0],by simp [B],by simp [K],by simp [L],by simp,v,d,g,hp⟩
 apply al;apply ai;by_cases hj:j=a
 ·subst hj;simp [X,B];refine aD (by simp) ?_;refine bJ (k':=[.inBlock 1,.code (Aj),.inLoop (Gf sz),.inBlock 0]) rfl ?_;exact stop z.front _ (by simp [g0]) (by simp [B]) (by simp [K]) (by simp [L]) (by simp [E]) _ v d
 obtain⟨k,rfl⟩:∃ k,j=k+1:=⟨j-1,by omega⟩
 have N:k+1<q.length:=by omega
 have c1:((k+1:Nat):Int)=(k:Int)+1:=by omega
 have M:=d.at N;have i0:=d.at (show k<q.length by omega);have l1:=d.ldi x N;have l0:=d.ldi x (show k<q.length by omega);rw [A,hn]at M i0;rw [c1]at M X;obtain⟨F,ar,J,Z,c_⟩:=b_ q[k+1] q[k] (I _ (at2 _)) (I _ (at2 _)) O;have he:=c_.eq;have gt:(a:Int)<(k:Int)+1:=by omega
 simp [X,g0,B,L,gt,M,i0,l1,l0,Z,he,-aA,aW (n:=(k:Int))];by_cases y:c q[k+1] q[k]<0
 case neg=>
  refine aD (by simp [y]) ?_;refine bJ (k':=[.inBlock 1,.code (Aj),.inLoop (Gf sz),.inBlock 0]) rfl ?_;exact stop (z.stop hc I (by omega) a8 (by omega) (ko.of_le (asZ (by omega)) (asZ N) y)) _ (by simp [g0]) (by simp [B]) (by simp [K]) (by simp [L]) (by simp [E]) _ (v.trans (Fm.push _ _)) (d.push _)
 refine aq (by simp [y]) (aO ?_);have w1:q[k+1].length=sz:=x _ (at2 _);have w0:q[k].length=sz:=x _ (at2 _);have u:=d.push J;obtain⟨HJ,Y⟩:=aK (O++J);rw [←Y]at u ⊢;have a7:Fm b H HJ:=by rw [Y];exact v.trans (Fm.push _ _)
 have M:=u.at N;have i0:=u.at (show k<q.length by omega);have l1:=u.ldi x N;have l0:=u.ldi x (show k<q.length by omega);obtain⟨S,H4,s1,r1,s2,r2,f2⟩:=u.swap x N (show k<q.length by omega);have i2:=r1.at (show k<(q.set (k+1) q[k]).length by simp;omega);rw [aul]at i2;rw [A,hn]at M i0 i2;rw [c1]at M;apply al;refine aF ?_;refine an (.inl rfl) ?_;simp [X,g0,M,i0,i2,l1,l0,s1,s2,w1,w0,-aA,-bl,aW (n:=(k:Int))];refine az ?_;refine an (.inl rfl) ?_;simp [X,aW (n:=(k:Int))];exact d9 k _ (by omega) ⟨k,_,H4,AW q (k+1) k,rfl,rfl,by omega,by omega,by simp [g0],by simp [B],by simp [K],by simp [L],by simp [E],by simp,a7.trans f2,r2,
  g.trans (uI (by omega) (by omega) (by omega) (by omega) (by omega)),z.step hc I (by omega) a8 (by omega) (asZ N) (asZ (by omega)) y⟩
end
end
section
open Go
section
variable{tab:TB}{σ:Dm}{sz:Nat}{H:aj}{b ep:Nat}{rows:List (List FC)}{cv:V}{W:List FC→Prop}{c:List FC→List FC→Int}
theorem RB.AW(h:RB H b sz ep rows)(hg:cr sz rows){n i j:Nat}(s:rows.length=n)(hi:i<n)(l:j<n):∃(x y:List FC) (d g:aj),rows[i]?=aa x∧rows[j]?=aa y ∧
  bG H sz ab (.c (.sl b 0 n 0 ep sz)) (vi i)=aa (.c (.ptr b (i*sz) ep))∧bG H sz ab (.c (.sl b 0 n 0 ep sz)) (vi j)=aa (.c (.ptr b (j*sz) ep)) ∧
  aV H (aa sz) (.c (.ptr b (i*sz) ep))=aa (.a (x.map .f))∧aV H (aa sz) (.c (.ptr b (j*sz) ep))=aa (.a (y.map .f))∧x.length=sz∧y.length=sz ∧
  dh H (.ptr b (i*sz) ep) (y.map .f)=aa d∧bG d sz ab (.c (.sl b 0 n 0 ep sz)) (vi j)=aa (.c (.ptr b (j*sz) ep))∧dh d (.ptr b (j*sz) ep) (x.map .f)=aa g∧RB g b sz ep (AW rows i j)∧Fm b H g:=by
 subst s;obtain⟨d,g,v,r1,z,u,q⟩:=h.swap hg hi l;have m:=r1.at (show j<(rows.set i rows[j]).length by simpa using l);rw [aul]at m;exact⟨rows[i],rows[j],d,g,asZ hi,asZ l,h.at hi,h.at l,h.ldi hg hi,h.ldi hg l,hg _ (at2 _),hg _ (at2 _),v,m,z,u,q⟩
theorem RB.ask(h:RB H b sz ep rows)(hg:cr sz rows)(l:Cv tab cv W c)(g:∀ r ∈ rows,W r){n i j:Nat}(q:rows.length=n)(hi:i<n)(m:j<n):∃(x y:List FC) (F:Nat) (d:List V) (J:aj),rows[i]?=aa x∧rows[j]?=aa y ∧
  bG H sz ab (.c (.sl b 0 n 0 ep sz)) (vi i)=aa (.c (.ptr b (i*sz) ep))∧bG H sz ab (.c (.sl b 0 n 0 ep sz)) (vi j)=aa (.c (.ptr b (j*sz) ep)) ∧
  aV H (aa sz) (.c (.ptr b (i*sz) ep))=aa (.a (x.map .f))∧aV H (aa sz) (.c (.ptr b (j*sz) ep))=aa (.a (y.map .f)) ∧
  bZ cv [.a (x.map .f),.a (y.map .f)]=aa (.fn F,d)∧Ev tab (.fn F) d H=E2 (vi (c x y)) (H++J)∧W x∧W y:=by
 subst q;obtain⟨F,d,J,h1,h2⟩:=l rows[i] rows[j] (g _ (at2 _)) (g _ (at2 _)) H;exact⟨rows[i],rows[j],F,d,J,asZ hi,asZ m,h.at hi,h.at m,h.ldi hg hi,h.ldi hg m,h1,h2.eq,g _ (at2 _),g _ (at2 _)⟩
def Kp(H H':aj):Prop:=H.length≤H'.length∧∀ b:Nat,b<H.length→H'[b]?=H[b]?
theorem Kp.refl(H:aj):Kp H H:=⟨at3 _,fun _ _=>rfl⟩
theorem Kp.push(H J:aj):Kp H (H++J):=⟨by simp,fun b l=>anc l⟩
theorem Kp.next{H H' b:aj}{p:Nat}(h:Kp H H')(j:H.length≤p)(g:Fm p H' b):Kp H b:=⟨aum h.1 g.1,fun d l=>(g.2 d (by omega) (auE l h.1)).trans (h.2 d l)⟩
end
end
section
set_option linter.unusedVariables false
open Go
section
variable(σ:Dm)(sz:Nat)
def aki:aE:=.region [⟨D 20,.bc (R 8),ab⟩,⟨D 21,.bc (R 6),ab⟩,⟨D 22,.bin .add (R 20) (R 21),ab⟩,⟨D 8,.bc (R 22),ab⟩] []
def akh:aE:=.seq (.region [⟨D 19,.bc (R 8),ab⟩,⟨D 7,.bc (R 19),ab⟩] []) (aki)
def akg:aE:=.seq (.region [⟨D 14,.bc (R 0),ab⟩,⟨D 15,.bc (R 7),ab⟩,⟨D 16,.bc (R 8),ab⟩,⟨D 17,.bc (R 2),ab⟩,⟨D 18,.call σ.ins [(R 14),(R 15),(R 16),(R 17)] ae,ab⟩] []) (akh)
def aoB:aE:=.seq (.seq (.region [⟨D 11,.bc (R 8),ab⟩,⟨D 12,.bc (R 1),ab⟩,⟨D 13,.bin .leq (R 11) (R 12),ab⟩] []) (.cond (R 13) .skip (.exit 0))) (.block 1 (akg σ))
def ako:aE:=.region [⟨D 45,.bc (R 8),ab⟩,⟨D 46,.bc (R 6),ab⟩,⟨D 47,.bin .mul (.k (.c (.f (.int .i64 2)))) (R 46),ab⟩,⟨D 48,.bin .add (R 45) (R 47),ab⟩,⟨D 8,.bc (R 48),ab⟩] []
def akn:aE:=.seq (.region [⟨D 44,.bc (R 8),ab⟩,⟨D 7,.bc (R 44),ab⟩] []) (ako)
def akm:aE:=.seq (.region [⟨D 36,.bc (R 0),ab⟩,⟨D 37,.bc (R 7),ab⟩,⟨D 38,.bc (R 7),ab⟩,⟨D 39,.bc (R 6),ab⟩,⟨D 40,.bin .add (R 38) (R 39),ab⟩,⟨D 41,.bc (R 8),ab⟩,⟨D 42,.bc (R 2),ab⟩,⟨D 43,.call σ.qE [(R 36),(R 37),(R 40),(R 41),(R 42)] ae,ab⟩] []) (akn)
def akl:aE:=.seq (.seq (.region [⟨D 33,.bc (R 8),ab⟩,⟨D 34,.bc (R 1),ab⟩,⟨D 35,.bin .leq (R 33) (R 34),ab⟩] []) (.cond (R 35) .skip (.exit 4))) (.block 5 (akm σ))
def akq:aE:=.region [⟨D 55,.bc (R 0),ab⟩,⟨D 56,.bc (R 7),ab⟩,⟨D 57,.bc (R 9),ab⟩,⟨D 58,.bc (R 1),ab⟩,⟨D 59,.bc (R 2),ab⟩,⟨D 60,.call σ.qE [(R 55),(R 56),(R 57),(R 58),(R 59)] ae,ab⟩] []
def akp:aE:=.seq (.region [⟨D 52,.bc (R 9),ab⟩,⟨D 53,.bc (R 1),ab⟩,⟨D 54,.bin .lss (R 52) (R 53),ab⟩] []) (.cond (R 54) (akq σ) .skip)
def akr:aE:=.region [⟨D 61,.bc (R 6),ab⟩,⟨D 62,.bin .mul (R 61) (.k (.c (.f (.int .i64 2)))),ab⟩,⟨D 6,.bc (R 62),ab⟩] []
def GS:aE:=.seq (.seq (.region [⟨D 49,.bc (R 7),ab⟩,⟨D 50,.bc (R 6),ab⟩,⟨D 51,.bin .add (R 49) (R 50),ab⟩,⟨D 9,.bc (R 51),ab⟩] []) (akp σ)) (akr)
def akk:aE:=.seq (.block 4 (.loop (akl σ))) (GS σ)
def akj:aE:=.seq (.region [⟨D 31,.bc (R 6),ab⟩,⟨D 32,.bin .mul (.k (.c (.f (.int .i64 2)))) (R 31),ab⟩,⟨D 7,.bc (.k (.c (.f (.int .i64 0)))),ab⟩,⟨D 8,.bc (R 32),ab⟩] []) (akk σ)
def GQ:aE:=.seq (.seq (.region [⟨D 28,.bc (R 6),ab⟩,⟨D 29,.bc (R 1),ab⟩,⟨D 30,.bin .lss (R 28) (R 29),ab⟩] []) (.cond (R 30) .skip (.exit 2))) (.block 3 (akj σ))
def AL:aE:=.seq (.region [⟨D 23,.bc (R 0),ab⟩,⟨D 24,.bc (R 7),ab⟩,⟨D 25,.bc (R 1),ab⟩,⟨D 26,.bc (R 2),ab⟩,⟨D 27,.call σ.ins [(R 23),(R 24),(R 25),(R 26)] ae,ab⟩] []) (.block 2 (.loop (GQ σ)))
def aoA:aE:=.seq (.block 0 (.loop (aoB σ))) (AL σ)
def aoz:aE:=.seq (.region [⟨D 10,.bc (R 6),ab⟩,⟨D 7,.bc (.k (.c (.f (.int .i64 0)))),ab⟩,⟨D 8,.bc (R 10),ab⟩] []) (aoA σ)
def aoy:aE:=.seq (.region [⟨D 6,.bc (.k (.c (.f (.int .i64 20)))),ab⟩] []) (aoz σ)
def aoC(σ:Dm)(sz:Nat):aL:=⟨[P.nat 0,P.nat 1,P.nat 2],[],(aoy σ)⟩
end
section
variable(σ:Dm)(sz:Nat)
def ajN:aE:=.region [⟨D 51,.bc (R 12),ab⟩,⟨D 52,.bin .add (R 51) (.k (.c (.f (.int .i64 1)))),ab⟩,⟨D 10,.bc (R 52),ab⟩] []
def ajO:aE:=.region [⟨D 53,.bc (R 12),ab⟩,⟨D 11,.bc (R 53),ab⟩] []
def ajM:aE:=.seq (.region [⟨D 40,.bc (R 4),ab⟩,⟨D 41,.bc (R 0),ab⟩,⟨D 42,.bc (R 12),ab⟩,⟨D 43,.bI sz ab (R 41) (R 42),ab⟩,⟨D 44,.load (aa sz) (R 43),ab⟩,⟨D 45,.bc (R 0),ab⟩,⟨D 46,.bc (R 1),ab⟩,⟨D 47,.bI sz ab (R 45) (R 46),ab⟩,⟨D 48,.load (aa sz) (R 47),ab⟩,⟨D 49,.cm (R 40) [(R 44),(R 48)] ae,ab⟩,⟨D 50,.bin .lss (R 49) (.k (.c (.f (.int .i64 0)))),ab⟩] []) (.cond (R 50) ajN ajO)
def ajL:aE:=.seq (.region [⟨D 34,.bc (R 10),ab⟩,⟨D 35,.bc (R 11),ab⟩,⟨D 36,.bin .add (R 34) (R 35),ab⟩,⟨D 37,.fO .u64 (R 36),ab⟩,⟨D 38,.bin .shr (R 37) (.k (.c (.f (.int .u64 1)))),ab⟩,⟨D 39,.fO .i64 (R 38),ab⟩,⟨D 12,.bc (R 39),ab⟩] []) (ajM sz)
def ajK:aE:=.seq (.seq (.region [⟨D 31,.bc (R 10),ab⟩,⟨D 32,.bc (R 11),ab⟩,⟨D 33,.bin .lss (R 31) (R 32),ab⟩] []) (.cond (R 33) .skip (.exit 0))) (.block 1 (ajL sz))
def ajR:aE:=.region [⟨D 61,.bc (R 0),ab⟩,⟨D 62,.bc (R 13),ab⟩,⟨D 63,.bc (R 0),ab⟩,⟨D 64,.bc (R 13),ab⟩,⟨D 65,.bin .add (R 64) (.k (.c (.f (.int .i64 1)))),ab⟩,⟨D 66,.bc (R 0),ab⟩,⟨D 67,.bc (R 13),ab⟩,⟨D 68,.bin .add (R 67) (.k (.c (.f (.int .i64 1)))),ab⟩,⟨D 69,.bI sz ab (R 66) (R 68),ab⟩,⟨D 70,.load (aa sz) (R 69),ab⟩,⟨D 71,.bc (R 0),ab⟩,⟨D 72,.bc (R 13),ab⟩,⟨D 73,.bI sz ab (R 71) (R 72),ab⟩,⟨D 74,.load (aa sz) (R 73),ab⟩,⟨D 75,.bI sz ab (R 61) (R 62),ab⟩,⟨ab,.store sz (R 75) (R 70),ab⟩,⟨D 76,.bI sz ab (R 63) (R 65),ab⟩,⟨ab,.store sz (R 76) (R 74),ab⟩] []
def ajS:aE:=.region [⟨D 59,.bc (R 13),ab⟩,⟨D 60,.bin .add (R 59) (.k (.c (.f (.int .i64 1)))),ab⟩,⟨D 13,.bc (R 60),ab⟩] []
def ajQ:aE:=.seq (.block 3 (ajR sz)) (ajS)
def ajP:aE:=.seq (.seq (.region [⟨D 55,.bc (R 13),ab⟩,⟨D 56,.bc (R 10),ab⟩,⟨D 57,.bin .sub (R 56) (.k (.c (.f (.int .i64 1)))),ab⟩,⟨D 58,.bin .lss (R 55) (R 57),ab⟩] []) (.cond (R 58) .skip (.exit 2))) (ajQ sz)
def GL:aE:=.seq (.seq (.region [⟨D 54,.bc (R 1),ab⟩,⟨D 13,.bc (R 54),ab⟩] []) (.block 2 (.loop (ajP sz)))) .ret
def aov:aE:=.seq (.block 0 (.loop (ajK sz))) (GL sz)
def aou:aE:=.seq (.region [⟨D 30,.bc (R 3),ab⟩,⟨D 11,.bc (R 30),ab⟩] []) (aov sz)
def adw:aE:=.seq (.region [⟨D 29,.bc (R 2),ab⟩,⟨D 10,.bc (R 29),ab⟩] []) (aou sz)
def ajZ:aE:=.region [⟨D 104,.bc (R 16),ab⟩,⟨D 105,.bin .add (R 104) (.k (.c (.f (.int .i64 1)))),ab⟩,⟨D 14,.bc (R 105),ab⟩] []
def aj0:aE:=.region [⟨D 106,.bc (R 16),ab⟩,⟨D 15,.bc (R 106),ab⟩] []
def ajY:aE:=.seq (.region [⟨D 92,.bc (R 4),ab⟩,⟨D 93,.bc (R 0),ab⟩,⟨D 94,.bc (R 2),ab⟩,⟨D 95,.bI sz ab (R 93) (R 94),ab⟩,⟨D 96,.load (aa sz) (R 95),ab⟩,⟨D 97,.bc (R 0),ab⟩,⟨D 98,.bc (R 16),ab⟩,⟨D 99,.bI sz ab (R 97) (R 98),ab⟩,⟨D 100,.load (aa sz) (R 99),ab⟩,⟨D 101,.cm (R 92) [(R 96),(R 100)] ae,ab⟩,⟨D 102,.bin .lss (R 101) (.k (.c (.f (.int .i64 0)))),ab⟩,⟨D 103,.un .not (R 102),ab⟩] []) (.cond (R 103) ajZ aj0)
def ajX:aE:=.seq (.region [⟨D 86,.bc (R 14),ab⟩,⟨D 87,.bc (R 15),ab⟩,⟨D 88,.bin .add (R 86) (R 87),ab⟩,⟨D 89,.fO .u64 (R 88),ab⟩,⟨D 90,.bin .shr (R 89) (.k (.c (.f (.int .u64 1)))),ab⟩,⟨D 91,.fO .i64 (R 90),ab⟩,⟨D 16,.bc (R 91),ab⟩] []) (ajY sz)
def ajW:aE:=.seq (.seq (.region [⟨D 83,.bc (R 14),ab⟩,⟨D 84,.bc (R 15),ab⟩,⟨D 85,.bin .lss (R 83) (R 84),ab⟩] []) (.cond (R 85) .skip (.exit 4))) (.block 5 (ajX sz))
def aj3:aE:=.region [⟨D 113,.bc (R 0),ab⟩,⟨D 114,.bc (R 17),ab⟩,⟨D 115,.bc (R 0),ab⟩,⟨D 116,.bc (R 17),ab⟩,⟨D 117,.bin .sub (R 116) (.k (.c (.f (.int .i64 1)))),ab⟩,⟨D 118,.bc (R 0),ab⟩,⟨D 119,.bc (R 17),ab⟩,⟨D 120,.bin .sub (R 119) (.k (.c (.f (.int .i64 1)))),ab⟩,⟨D 121,.bI sz ab (R 118) (R 120),ab⟩,⟨D 122,.load (aa sz) (R 121),ab⟩,⟨D 123,.bc (R 0),ab⟩,⟨D 124,.bc (R 17),ab⟩,⟨D 125,.bI sz ab (R 123) (R 124),ab⟩,⟨D 126,.load (aa sz) (R 125),ab⟩,⟨D 127,.bI sz ab (R 113) (R 114),ab⟩,⟨ab,.store sz (R 127) (R 122),ab⟩,⟨D 128,.bI sz ab (R 115) (R 117),ab⟩,⟨ab,.store sz (R 128) (R 126),ab⟩] []
def aj4:aE:=.region [⟨D 111,.bc (R 17),ab⟩,⟨D 112,.bin .sub (R 111) (.k (.c (.f (.int .i64 1)))),ab⟩,⟨D 17,.bc (R 112),ab⟩] []
def aj2:aE:=.seq (.block 7 (aj3 sz)) (aj4)
def aj1:aE:=.seq (.seq (.region [⟨D 108,.bc (R 17),ab⟩,⟨D 109,.bc (R 14),ab⟩,⟨D 110,.bin .gtr (R 108) (R 109),ab⟩] []) (.cond (R 110) .skip (.exit 6))) (aj2 sz)
def GN:aE:=.seq (.seq (.region [⟨D 107,.bc (R 2),ab⟩,⟨D 17,.bc (R 107),ab⟩] []) (.block 6 (.loop (aj1 sz)))) .ret
def ajV:aE:=.seq (.block 4 (.loop (ajW sz))) (GN sz)
def ajU:aE:=.seq (.region [⟨D 82,.bc (R 2),ab⟩,⟨D 15,.bc (R 82),ab⟩] []) (ajV sz)
def GM:aE:=.seq (.region [⟨D 81,.bc (R 1),ab⟩,⟨D 14,.bc (R 81),ab⟩] []) (ajU sz)
def aj':aE:=.region [⟨D 144,.bc (R 18),ab⟩,⟨D 21,.bc (R 144),ab⟩] []
def aj9:aE:=.seq (.region [⟨D 141,.bc (R 19),ab⟩,⟨D 142,.bc (R 3),ab⟩,⟨D 143,.bin .sub (R 141) (R 142),ab⟩,⟨D 20,.bc (R 143),ab⟩] []) (aj')
def aka:aE:=.region [⟨D 146,.bc (R 2),ab⟩,⟨D 21,.bc (R 146),ab⟩] []
def aj_:aE:=.seq (.region [⟨D 145,.bc (R 1),ab⟩,⟨D 20,.bc (R 145),ab⟩] []) (aka)
def adq:aE:=.region [⟨D 172,.bc (R 23),ab⟩,⟨D 173,.bin .add (R 172) (.k (.c (.f (.int .i64 1)))),ab⟩,⟨D 20,.bc (R 173),ab⟩] []
def adr:aE:=.region [⟨D 174,.bc (R 23),ab⟩,⟨D 21,.bc (R 174),ab⟩] []
def adp:aE:=.seq (.region [⟨D 158,.bc (R 4),ab⟩,⟨D 159,.bc (R 0),ab⟩,⟨D 160,.bc (R 22),ab⟩,⟨D 161,.bc (R 23),ab⟩,⟨D 162,.bin .sub (R 160) (R 161),ab⟩,⟨D 163,.bI sz ab (R 159) (R 162),ab⟩,⟨D 164,.load (aa sz) (R 163),ab⟩,⟨D 165,.bc (R 0),ab⟩,⟨D 166,.bc (R 23),ab⟩,⟨D 167,.bI sz ab (R 165) (R 166),ab⟩,⟨D 168,.load (aa sz) (R 167),ab⟩,⟨D 169,.cm (R 158) [(R 164),(R 168)] ae,ab⟩,⟨D 170,.bin .lss (R 169) (.k (.c (.f (.int .i64 0)))),ab⟩,⟨D 171,.un .not (R 170),ab⟩] []) (.cond (R 171) adq adr)
def akd:aE:=.seq (.region [⟨D 152,.bc (R 20),ab⟩,⟨D 153,.bc (R 21),ab⟩,⟨D 154,.bin .add (R 152) (R 153),ab⟩,⟨D 155,.fO .u64 (R 154),ab⟩,⟨D 156,.bin .shr (R 155) (.k (.c (.f (.int .u64 1)))),ab⟩,⟨D 157,.fO .i64 (R 156),ab⟩,⟨D 23,.bc (R 157),ab⟩] []) (adp sz)
def akc:aE:=.seq (.seq (.region [⟨D 149,.bc (R 20),ab⟩,⟨D 150,.bc (R 21),ab⟩,⟨D 151,.bin .lss (R 149) (R 150),ab⟩] []) (.cond (R 151) .skip (.exit 8))) (.block 9 (akd sz))
def adt:aE:=.region [⟨D 186,.bc (R 0),ab⟩,⟨D 187,.bc (R 20),ab⟩,⟨D 188,.bc (R 2),ab⟩,⟨D 189,.bc (R 24),ab⟩,⟨D 190,.bc (R 4),ab⟩,⟨D 191,.call σ.rot [(R 186),(R 187),(R 188),(R 189),(R 190)] ae,ab⟩] []
def adu:aE:=.region [⟨D 200,.bc (R 0),ab⟩,⟨D 201,.bc (R 1),ab⟩,⟨D 202,.bc (R 20),ab⟩,⟨D 203,.bc (R 18),ab⟩,⟨D 204,.bc (R 4),ab⟩,⟨D 205,.call σ.qE [(R 200),(R 201),(R 202),(R 203),(R 204)] ae,ab⟩] []
def adv:aE:=.region [⟨D 214,.bc (R 0),ab⟩,⟨D 215,.bc (R 18),ab⟩,⟨D 216,.bc (R 24),ab⟩,⟨D 217,.bc (R 3),ab⟩,⟨D 218,.bc (R 4),ab⟩,⟨D 219,.call σ.qE [(R 214),(R 215),(R 216),(R 217),(R 218)] ae,ab⟩] []
def CY:aE:=.seq (.region [⟨D 206,.bc (R 18),ab⟩,⟨D 207,.bc (R 24),ab⟩,⟨D 208,.bin .lss (R 206) (R 207),ab⟩,⟨D 209,.bc (R 208),ab⟩,ygm 210 24 209,ygm 211 3 209,⟨D 212,.bin .lss (R 210) (R 211),G 209 ae⟩,⟨D 213,.pick (R 209) (R 212) (.k (.c (.f (.bool ag)))),ab⟩] []) (.cond (R 213) (adv σ) .skip)
def CX:aE:=.seq (.seq (.region [⟨D 192,.bc (R 1),ab⟩,⟨D 193,.bc (R 20),ab⟩,⟨D 194,.bin .lss (R 192) (R 193),ab⟩,⟨D 195,.bc (R 194),ab⟩,ygm 196 20 195,ygm 197 18 195,⟨D 198,.bin .lss (R 196) (R 197),G 195 ae⟩,⟨D 199,.pick (R 195) (R 198) (.k (.c (.f (.bool ag)))),ab⟩] []) (.cond (R 199) (adu σ) .skip)) (CY σ)
def ads:aE:=.seq (.seq (.region [⟨D 178,.bc (R 20),ab⟩,⟨D 179,.bc (R 2),ab⟩,⟨D 180,.bin .lss (R 178) (R 179),ab⟩,⟨D 181,.bc (R 180),ab⟩,ygm 182 2 181,ygm 183 24 181,⟨D 184,.bin .lss (R 182) (R 183),G 181 ae⟩,⟨D 185,.pick (R 181) (R 184) (.k (.c (.f (.bool ag)))),ab⟩] []) (.cond (R 185) (adt σ) .skip)) (CX σ)
def wT:aE:=.seq (.region [⟨D 175,.bc (R 19),ab⟩,⟨D 176,.bc (R 20),ab⟩,⟨D 177,.bin .sub (R 175) (R 176),ab⟩,⟨D 24,.bc (R 177),ab⟩] []) (ads σ)
def akb:aE:=.seq (.block 8 (.loop (akc sz))) (wT σ)
def GO:aE:=.seq (.region [⟨D 147,.bc (R 19),ab⟩,⟨D 148,.bin .sub (R 147) (.k (.c (.f (.int .i64 1)))),ab⟩,⟨D 22,.bc (R 148),ab⟩] []) (akb σ sz)
def aj8:aE:=.seq (.seq (.region [⟨D 138,.bc (R 2),ab⟩,⟨D 139,.bc (R 18),ab⟩,⟨D 140,.bin .gtr (R 138) (R 139),ab⟩] []) (.cond (R 140) aj9 aj_)) (GO σ sz)
def aj7:aE:=.seq (.region [⟨D 20,.bc (.k (.c (.f (.int .i64 0)))),ab⟩,⟨D 21,.bc (.k (.c (.f (.int .i64 0)))),ab⟩] []) (aj8 σ sz)
def aj6:aE:=.seq (.region [⟨D 135,.bc (R 18),ab⟩,⟨D 136,.bc (R 2),ab⟩,⟨D 137,.bin .add (R 135) (R 136),ab⟩,⟨D 19,.bc (R 137),ab⟩] []) (aj7 σ sz)
def aj5:aE:=.seq (.region [⟨D 129,.bc (R 1),ab⟩,⟨D 130,.bc (R 3),ab⟩,⟨D 131,.bin .add (R 129) (R 130),ab⟩,⟨D 132,.fO .u64 (R 131),ab⟩,⟨D 133,.bin .shr (R 132) (.k (.c (.f (.int .u64 1)))),ab⟩,⟨D 134,.fO .i64 (R 133),ab⟩,⟨D 18,.bc (R 134),ab⟩] []) (aj6 σ sz)
def ajT:aE:=.seq (.seq (.region [⟨D 77,.bc (R 3),ab⟩,⟨D 78,.bc (R 2),ab⟩,⟨D 79,.bin .sub (R 77) (R 78),ab⟩,⟨D 80,.bin .eql (R 79) (.k (.c (.f (.int .i64 1)))),ab⟩] []) (.cond (R 80) (GM sz) .skip)) (aj5 σ sz)
def aot:aE:=.seq (.seq (.region [⟨D 25,.bc (R 2),ab⟩,⟨D 26,.bc (R 1),ab⟩,⟨D 27,.bin .sub (R 25) (R 26),ab⟩,⟨D 28,.bin .eql (R 27) (.k (.c (.f (.int .i64 1)))),ab⟩] []) (.cond (R 28) (adw sz) .skip)) (ajT σ sz)
def adx(σ:Dm)(sz:Nat):aL:=⟨[P.nat 0,P.nat 1,P.nat 2,P.nat 3,P.nat 4],[],(aot σ sz)⟩
end
section
variable(σ:Dm)(sz:Nat)
def aom:aE:=.region [⟨D 32,.bc (R 10),ab⟩,⟨D 33,.bc (R 11),ab⟩,⟨D 34,.bin .sub (R 32) (R 33),ab⟩,⟨D 10,.bc (R 34),ab⟩] []
def aol:aE:=.seq (.region [⟨D 24,.bc (R 0),ab⟩,⟨D 25,.bc (R 2),ab⟩,⟨D 26,.bc (R 10),ab⟩,⟨D 27,.bin .sub (R 25) (R 26),ab⟩,⟨D 28,.bc (R 2),ab⟩,⟨D 29,.bc (R 11),ab⟩,⟨D 30,.bc (R 4),ab⟩,⟨D 31,.call σ.swr [(R 24),(R 27),(R 28),(R 29),(R 30)] ae,ab⟩] []) (aom)
def aoo:aE:=.region [⟨D 47,.bc (R 11),ab⟩,⟨D 48,.bc (R 10),ab⟩,⟨D 49,.bin .sub (R 47) (R 48),ab⟩,⟨D 11,.bc (R 49),ab⟩] []
def aon:aE:=.seq (.region [⟨D 35,.bc (R 0),ab⟩,⟨D 36,.bc (R 2),ab⟩,⟨D 37,.bc (R 10),ab⟩,⟨D 38,.bin .sub (R 36) (R 37),ab⟩,⟨D 39,.bc (R 2),ab⟩,⟨D 40,.bc (R 11),ab⟩,⟨D 41,.bin .add (R 39) (R 40),ab⟩,⟨D 42,.bc (R 10),ab⟩,⟨D 43,.bin .sub (R 41) (R 42),ab⟩,⟨D 44,.bc (R 10),ab⟩,⟨D 45,.bc (R 4),ab⟩,⟨D 46,.call σ.swr [(R 35),(R 38),(R 43),(R 44),(R 45)] ae,ab⟩] []) (aoo)
def aok:aE:=.seq (.region [⟨D 21,.bc (R 10),ab⟩,⟨D 22,.bc (R 11),ab⟩,⟨D 23,.bin .gtr (R 21) (R 22),ab⟩] []) (.cond (R 23) (aol σ) (aon σ))
def arl:aE:=.seq (.seq (.region [⟨D 18,.bc (R 10),ab⟩,⟨D 19,.bc (R 11),ab⟩,⟨D 20,.bin .neq (R 18) (R 19),ab⟩] []) (.cond (R 20) .skip (.exit 0))) (.block 1 (aok σ))
def ac5:aE:=.region [⟨D 50,.bc (R 0),ab⟩,⟨D 51,.bc (R 2),ab⟩,⟨D 52,.bc (R 10),ab⟩,⟨D 53,.bin .sub (R 51) (R 52),ab⟩,⟨D 54,.bc (R 2),ab⟩,⟨D 55,.bc (R 10),ab⟩,⟨D 56,.bc (R 4),ab⟩,⟨D 57,.call σ.swr [(R 50),(R 53),(R 54),(R 55),(R 56)] ae,ab⟩] []
def ark:aE:=.seq (.block 0 (.loop (arl σ))) (ac5 σ)
def arj:aE:=.seq (.region [⟨D 15,.bc (R 3),ab⟩,⟨D 16,.bc (R 2),ab⟩,⟨D 17,.bin .sub (R 15) (R 16),ab⟩,⟨D 11,.bc (R 17),ab⟩] []) (ark σ)
def ari:aE:=.seq (.region [⟨D 12,.bc (R 2),ab⟩,⟨D 13,.bc (R 1),ab⟩,⟨D 14,.bin .sub (R 12) (R 13),ab⟩,⟨D 10,.bc (R 14),ab⟩] []) (arj σ)
def ac6(σ:Dm)(sz:Nat):aL:=⟨[P.nat 0,P.nat 1,P.nat 2,P.nat 3,P.nat 4],[],(ari σ)⟩
end
section
variable(σ:Dm)(sz:Nat)
def aoD:aE:=.region [⟨D 16,.bc (R 0),ab⟩,⟨D 17,.bc (R 1),ab⟩,⟨D 18,.bc (R 10),ab⟩,⟨D 19,.bin .add (R 17) (R 18),ab⟩,⟨D 20,.bc (R 0),ab⟩,⟨D 21,.bc (R 2),ab⟩,⟨D 22,.bc (R 10),ab⟩,⟨D 23,.bin .add (R 21) (R 22),ab⟩,⟨D 24,.bc (R 0),ab⟩,⟨D 25,.bc (R 2),ab⟩,⟨D 26,.bc (R 10),ab⟩,⟨D 27,.bin .add (R 25) (R 26),ab⟩,⟨D 28,.bI sz ab (R 24) (R 27),ab⟩,⟨D 29,.load (aa sz) (R 28),ab⟩,⟨D 30,.bc (R 0),ab⟩,⟨D 31,.bc (R 1),ab⟩,⟨D 32,.bc (R 10),ab⟩,⟨D 33,.bin .add (R 31) (R 32),ab⟩,⟨D 34,.bI sz ab (R 30) (R 33),ab⟩,⟨D 35,.load (aa sz) (R 34),ab⟩,⟨D 36,.bI sz ab (R 16) (R 19),ab⟩,⟨ab,.store sz (R 36) (R 29),ab⟩,⟨D 37,.bI sz ab (R 20) (R 23),ab⟩,⟨ab,.store sz (R 37) (R 35),ab⟩] []
def aoE:aE:=.region [⟨D 14,.bc (R 10),ab⟩,⟨D 15,.bin .add (R 14) (.k (.c (.f (.int .i64 1)))),ab⟩,⟨D 10,.bc (R 15),ab⟩] []
def arw:aE:=.seq (.block 1 (aoD sz)) (aoE)
def arv:aE:=.seq (.seq (.region [⟨D 11,.bc (R 10),ab⟩,⟨D 12,.bc (R 3),ab⟩,⟨D 13,.bin .lss (R 11) (R 12),ab⟩] []) (.cond (R 13) .skip (.exit 0))) (arw sz)
def aru:aE:=.seq (.region [⟨D 10,.bc (.k (.c (.f (.int .i64 0)))),ab⟩] []) (.block 0 (.loop (arv sz)))
def GW(σ:Dm)(sz:Nat):aL:=⟨[P.nat 0,P.nat 1,P.nat 2,P.nat 3,P.nat 4],[],(aru sz)⟩
end
end
section
set_option linter.unusedVariables false
open Go
theorem iK{tab:TB}{fn:Nat}{ro:Option Nat}{k:List cZ}{s:St}{Q:Option aE→St→Prop}{a:aE}(h:WP tab fn ro (.code a::.inLoop a::k) s Q):WP tab fn ro (.code (.loop a)::k) s Q:=j3 h fun _ _ _=>rfl
theorem kU{lo hi:Nat}(h:lo+hi≤2000000000):IntKind.u64.wrap ((lo:Int)+hi)=(lo:Int)+hi:=by
 show((lo:Int)+hi) % 18446744073709551616=_;omega
theorem mT{lo hi q:Nat}(h:lo+hi≤2000000000)(d:q=(lo+hi) / 2):dp BinOp.shr (V.c (C.f (FC.int IntKind.u64 ((lo:Int)+hi)))) (V.c (C.f (FC.int IntKind.u64 1)))=aa (.c (.f (.int .u64 (q:Int)))):=by
 show aa (V.c (C.f (FC.int IntKind.u64 (Int.fdiv ((lo:Int)+hi) (2 ^ (min (1:Int).toNat IntKind.u64.bits))))))=_;have b:Int.fdiv ((lo:Int)+hi) (2 ^ (min (1:Int).toNat IntKind.u64.bits))=q:=by
  show Int.fdiv ((lo:Int)+hi) 2=q;rw [Int.fdiv_eq_ediv_of_nonneg _ (by omega)];omega
 rw [b]
section
variable{tab:TB}{σ:Dm}{sz:Nat}{b ep:Nat}{cv:V}{W:List FC→Prop}{c:List FC→List FC→Int}
theorem Fa{H:aj}{rows:List (List FC)}(U:tab σ.swr=aa (GW σ sz)){n x y m lo hi:Nat}(Y:rows.length=n)(hl:n≤1000000000)(g:RB H b sz ep rows)(W:cr sz rows)(h1:lo≤x)(h2:x+m≤y)(h3:y+m≤hi)(h4:hi≤n) :
  ∃ r H',Ev tab (.fn σ.swr) [.c (.sl b 0 n 0 ep sz),vi x,vi y,vi m,cv] H r H'∧(r=.t []∧Fm b H H'∧∃ l',RB H' b sz ep l'∧iT lo hi rows l'∧O5 rows l' x y m):=by
 refine cI U rfl fun Q S=>?_;apply ai;simp;refine aF ?_;refine cH (fun w s=>∃(i:Nat) (t:T) (A:aj) (l:List (List FC)),s=⟨t,[],A⟩∧i+w=m∧t.g 0=.c (.sl b 0 n 0 ep sz)∧t.g 1=vi x∧t.g 2=vi y∧t.g 3=vi m∧t.g 10=vi i ∧
  Fm b H A∧RB A b sz ep l∧iT lo hi rows l∧O5 rows l x y i) m
  ⟨0,_,H,rows,rfl,by omega,by simp,by simp,by simp,by simp,by simp,Fm.refl H,g,iT.refl _ _ _,O5.zero _ _ _⟩ ?_
 rintro w s ⟨i,t,A,l,rfl,X,g0,E,F,I,v,z,g,d,J⟩ Z;have u:=d.len;apply al;apply ai;simp [v,I];by_cases B:i<m
 case neg=>
  obtain rfl:i=m:=by omega
  refine aD (by simp) ?_;refine bJ (k':=[]) rfl ?_;exact cJ (S _ _ _ rfl rfl ⟨rfl,z,l,g,d,J⟩)
 refine aq (by simp [B]) (aO ?_);obtain⟨p,q,H2,N,-,-,K,L,l1,l2,w1,w2,s1,M,s2,r2,O⟩:=g.AW (d.xA W) (u.trans Y) (i:=x+i) (j:=y+i) (by omega) (by omega);simp only [Int.natCast_add]at K L M;apply al;refine aF ?_;refine an (.inl rfl) ?_;simp [g0,E,F,v,aW (n:=(x:Int)+i),aW (n:=(y:Int)+i),K,L,l1,l2,w1,w2,s1,M,s2,-aA,-bl];refine az ?_;refine an (.inl rfl) ?_;simp [v,aW (n:=(i:Int)+1)];exact Z (w-1) _ (by omega) ⟨i+1,_,N,_,rfl,by omega,by simp [g0],by simp [E],by simp [F],by simp [I],by simp,z.trans O,r2,d.trans (uI (by omega) (by omega) (by omega) (by omega) (by omega)),J.step u (by omega) (by omega)⟩
theorem aop{H:aj}{rows:List (List FC)}(hT:tab σ.rot=aa (ac6 σ sz))(hS:tab σ.swr=aa (GW σ sz)){n a m e:Nat}(hn:rows.length=n)(hl:n≤1000000000)(z:RB H b sz ep rows)(hg:cr sz rows)(h1:a<m)(h2:m<e)(h4:e≤n) :
  ∃ r H',Ev tab (.fn σ.rot) [.c (.sl b 0 n 0 ep sz),vi a,vi m,vi e,cv] H r H'∧(r=.t []∧Fm b H H'∧∃ l',RB H' b sz ep l'∧iT a e rows l'∧xl rows l' a m e):=by
 obtain⟨X0,L,S,f,rfl,lX,lU,lV⟩:=rj (l:=rows) (Nat.le_of_lt h1) (Nat.le_of_lt h2) (by omega);have b9:X0.length+(L.length+(S.length+f.length))=n:=by rw [←hn];simp
 refine cI hT rfl fun Q hQ=>?_;apply ai;simp [aW (n:=(m:Int)-a)];apply ai;simp [aW (n:=(e:Int)-m)];apply al;refine aF ?_;refine cH (fun w s=>∃(i j:Nat) (X U V Y:List (List FC)) (t:T) (H1:aj),s=⟨t,[],H1⟩∧w=i+j∧0<i∧0<j∧X.length+i=m∧U.length=i∧V.length=j∧X++(V++(U++Y))=X0++(S++(L++f))∧a≤X.length∧m+j≤e ∧
  t.g 0=.c (.sl b 0 n 0 ep sz)∧t.g 2=vi m∧t.g 4=cv∧t.g 10=vi i∧t.g 11=vi j∧Fm b H H1∧RB H1 b sz ep (X++(U++(V++Y)))∧iT a e (X0++(L++(S++f))) (X++(U++(V++Y)))) (e-a)
  ⟨m-a,e-m,X0,L,S,f,_,H,rfl,by omega,by omega,by omega,by omega,lU,lV,rfl,by omega,by omega,by simp,by simp,by simp,by simp;omega,by simp;omega,Fm.refl H,z,iT.refl _ _ _⟩ ?_
 rintro w s ⟨i,j,X,U,V,Y,t,H1,rfl,rfl,hi,hj,p,hU,hV,E,B,a_,g0,k,o,d,q,F,z,g⟩ ih;have u:=g.len;rw [hn]at u;have gr:=g.xA hg;have e1:((m:Int)-i)=((X.length:Nat):Int):=by omega
 have w0:IntKind.i64.wrap (X.length:Int)=X.length:=aW;apply al;apply ai;simp [d,q];by_cases a8:i=j
 ·
  subst a8;refine aD (by simp) ?_;refine bJ (k':=[.code (ac5 σ)]) rfl ?_;obtain⟨r,K,v,rfl,h,I,r2,s2,x2⟩:=Fa (cv:=cv) (x:=X.length) (y:=m) (m:=i) (lo:=a) (hi:=e) hS u hl z gr B (by omega) (by omega) h4;have v:=v.eq;have J:=O5.blocks (X:=X) (P:=U) (M:=[]) (Q:=V) (Z:=Y) (l':=I) (n:=i) hU hV (by simpa [p]using x2);simp only [ave]at J;refine an (.inl rfl) ?_;simp [g0,k,o,d,e1,w0,v];refine cJ (hQ _ ⟨_,[],K⟩ (.t []) rfl rfl ⟨rfl,F.trans h,I,r2,g.trans s2,?_⟩);rw [J,E];have:=xl.blocks (X:=X0) (U:=L) (V:=S) (Y:=f);rwa [lX,lU,lV,show a+(m-a)=m by omega,show m+(e-m)=e by omega]at this
 refine aq (by simp [a8]) (aO ?_);refine aF ?_;apply al;refine an (.inl rfl) ?_;simp [d,q];by_cases a7:j<i
 ·refine aq (by simp [a7]) ?_;obtain⟨r,K,v,rfl,h,I,r2,s2,x2⟩:=Fa (cv:=cv) (x:=X.length) (y:=m) (m:=j) (lo:=a) (hi:=e) hS u hl z gr B (by omega) (by omega) h4;have v:=v.eq;obtain⟨N,O,rfl,l1⟩:∃ N O,U=N++O∧N.length=j:=⟨U.take j,U.drop j,(auA j U).symm,by simp;omega⟩
  have A:O.length=i-j:=by simp at hU;omega
  have J:=O5.blocks (X:=X) (P:=N) (M:=O) (Q:=V) (Z:=Y) (l':=I) (n:=j) l1 hV (by rw [A,show X.length+j+(i-j)=m by omega];simpa using x2);subst J;apply ai;simp [g0,k,o,d,q,e1,w0,v];refine an (.inl rfl) ?_;simp [d,q,aW (n:=(i:Int)-j)];exact az (ih (i-j+j) _ (by omega) ⟨i-j,j,X++V,O,N,Y,_,K,rfl,rfl,by omega,hj,by simp;omega,A,l1,by rw [←E];simp,by simp;omega,a_,by simp [g0],by simp [k],by simp [o],by simp;omega,by simp [q],F.trans h,by simpa using r2,by simpa using g.trans s2⟩)
 ·refine aD (by simp [a7]) ?_;obtain⟨r,K,v,rfl,h,I,r2,s2,x2⟩:=Fa (cv:=cv) (x:=X.length) (y:=m+j-i) (m:=i) (lo:=a) (hi:=e) hS u hl z gr B (by omega) (by omega) h4;have v:=v.eq;obtain⟨W,c,rfl,l1⟩:∃ W c,V=W++c∧W.length=j-i:=⟨V.take (j-i),V.drop (j-i),(auA _ V).symm,by simp;omega⟩
  have A:c.length=i:=by simp at hV;omega
  have J:=O5.blocks (X:=X) (P:=U) (M:=W) (Q:=c) (Z:=Y) (l':=I) (n:=i) hU A (by rw [l1,show X.length+i+(j-i)=m+j-i by omega];simpa using x2);subst J;have e2:((m:Int)+j-i)=((m+j-i:Nat):Int):=by omega
  apply ai;simp [g0,k,o,d,q,aW (n:=(m:Int)+j),aW (n:=((m+j-i:Nat):Int)),e1,e2,w0,v];refine an (.inl rfl) ?_;simp [d,q,aW (n:=(j:Int)-i)];exact az (ih (i+(j-i)) _ (by omega) ⟨i,j-i,X,c,W,U++Y,_,K,rfl,rfl,hi,by omega,p,A,l1,by rw [←E];simp,B,by omega,by simp [g0],by simp [k],by simp [o],by simp [d],by simp;omega,F.trans h,by simpa using r2,by simpa using g.trans s2⟩)
end
end
section
set_option linter.unusedVariables false
open Go
section
variable{W:List FC→Prop}{c:List FC→List FC→Int}{l l':List (List FC)}
theorem xl.up{a k:Nat}(h:xl l l' a (a+1) (k+1))(m:l'.length=l.length)(g:a≤k)(j:k+1<l.length):xl l (AW l' k (k+1)) a (a+1) (k+2):=fun q=>by
 rw [nT (by omega) (by omega),h k,h (k+1),h q];by_cases q1:q=k+1
 ·subst q1;rw [bg rfl,aY (by omega),bg (by omega),aY (by omega),bg (by omega)]
  congr 1;omega
 rw [aY q1];by_cases b:q=k
 ·subst b;rw [bg rfl,aY (by omega),aY (by omega),bg (by omega)]
  congr 1;omega
 rw [aY b];by_cases d:a≤q∧q<a+(k+1-(a+1))
 ·rw [bg d,bg (by omega)]
 ·rw [aY d,aY (by omega),aY (by omega),aY (by omega)]
theorem xl.dn{m k:Nat}(h:xl l l' (k+1) m (m+1))(j:l'.length=l.length)(g:k+1≤m)(s:m<l.length):xl l (AW l' (k+1) k) k m (m+1):=fun q=>by
 rw [nT (by omega) (by omega),h k,h (k+1),h q];have e:m+1-m=1:=by omega
 rw [e];by_cases q1:q=k
 ·subst q1;rw [bg rfl,bg (by omega),bg (by omega)]
  congr 1;omega
 rw [aY q1];by_cases b:q=k+1
 ·subst b;rw [bg rfl,aY (by omega),aY (by omega),aY (by omega),bg (by omega)]
  congr 1
 rw [aY b,aY (by omega),aY (show¬ (k≤q∧q<k+1) by omega)];by_cases d:k+1+1≤q∧q<m+1
 ·rw [bg d,bg (by omega)]
 ·rw [aY d,aY (by omega)]
theorem Up.add{a b d:Nat}(h:Up c (a+d) (b+d) l)(g:∀ k,a≤k→k<b→l'[k]?=l[k+d]?):Up c a b l':=fun i j x y h1 h2 h3 m hy=>
 h (i+d) (j+d) x y (by omega) (by omega) (by omega) (by rw [←g i h1 (by omega)];exact m) (by rw [←g j (by omega) h3];exact hy)
theorem Up.sub{a b d:Nat}(h:Up c (a-d) (b-d) l)(q:d≤a)(g:∀ k,a≤k→k<b→l'[k]?=l[k-d]?):Up c a b l':=fun i j x y h1 h2 h3 m hy=>
 h (i-d) (j-d) x y (by omega) (by omega) (by omega) (by rw [←g i h1 (by omega)];exact m) (by rw [←g j (by omega) h3];exact hy)
theorem ko.strict{i j:Nat}(hc:DB W c)(d:∀ r ∈ l,W r){p x y:List FC}(q:W p)(h:ko c l i j)(g:l[i]?=aa x)(hy:l[j]?=aa y)(b:c y p<0):c x p<0:=by
 apply Classical.not_not.1;intro m;exact hc.trans q (d _ (aue g)) (d _ (aue hy)) m (h x y g hy) b
theorem ko.akv{i j:Nat}(hc:DB W c)(d:∀ r ∈ l,W r){p x y:List FC}(q:W p)(h:ko c l i j)(g:l[i]?=aa x)(hy:l[j]?=aa y)(b:c p x<0):c p y<0:=by
 apply Classical.not_not.1;intro m;exact hc.trans (d _ (aue g)) (d _ (aue hy)) q (h x y g hy) m b
end
section
variable{tab:TB}{σ:Dm}{sz:Nat}{b ep:Nat}{cv:V}{W:List FC→Prop}{c:List FC→List FC→Int}
theorem ady{H:aj}{rows:List (List FC)}{n a e:Nat}{Q:Option aE→St→Prop}{k:List cZ}(a7:Cv tab cv W c)(S:DB W c)(hn:rows.length=n)(hl:n≤1000000000)(d:RB H b sz ep rows)(hg:cr sz rows)(B:∀ r ∈ rows,W r)
  (h2:a+1<e) (h4:e≤n) (u2:Up c (a+1) e rows) {t:T} (g0:t.g 0=.c (.sl b 0 n 0 ep sz)) (O:t.g 1=vi a) (g2:t.g 2=vi ((a+1:Nat):Int)) (g3:t.g 3=vi e) (U:t.g 4=cv)
  (hQ:∀ t H' l',Fm b H H'→RB H' b sz ep l'→iT a e rows l'→Up c a e l'→Q (aa .ret) ⟨t,[],H'⟩):WP tab σ.qE ab (.code (adw sz)::k) ⟨t,[],H⟩ Q:=by
 obtain⟨p,f⟩:∃ p,rows[a]?=aa p:=⟨_,asZ (by omega)⟩
 have wp:W p:=B _ (aue f);apply ai;simp [g2];apply ai;simp [g3];apply al;refine aF ?_;refine cH (fun w s=>∃(lo hi:Nat) (t:T) (v:aj),s=⟨t,[],v⟩∧lo+w=hi∧a+1≤lo∧hi≤e∧t.g 0=.c (.sl b 0 n 0 ep sz)∧t.g 1=vi a∧t.g 4=cv∧t.g 10=vi lo∧t.g 11=vi hi∧Fm b H v∧RB v b sz ep rows ∧
   (∀(k:Nat) x,a+1≤k→k<lo→rows[k]?=aa x→c x p<0)∧(∀(k:Nat) x,hi≤k→k<e→rows[k]?=aa x→¬ c x p<0)) (e-(a+1))
  ⟨a+1,e,_,H,rfl,by omega,by omega,by omega,by simp [g0],by simp [O],by simp [U],by simp,by simp,Fm.refl H,d,fun k x h1 h2=>by omega,fun k x h1 h2=>by omega⟩ ?_
 rintro w s ⟨lo,hi,t,v,rfl,hw,h5,h6,g0,O,U,g,L,u,d,Z,Y⟩ ih;apply al;apply ai;simp [g,L];by_cases N:lo<hi
 ·refine aq (by simp [N]) (aO ?_);obtain⟨q,hq⟩:=aK ((lo+hi) / 2);refine aF ?_;apply ai;simp [g,L,aW (n:=(lo:Int)+hi),kU (lo:=lo) (hi:=hi) (by omega),mT (lo:=lo) (hi:=hi) (by omega) hq,aW (n:=(q:Int))];obtain⟨x,y,F,ar,J,K,hy,i1,j1,l1,l2,X,he,wx,-⟩:=d.ask hg a7 B hn (i:=q) (j:=a) (by omega) (by omega);rw [f]at hy;cases hy;apply ai;simp [g0,O,U,i1,j1,l1,l2,X,he,-aA];by_cases A:c x p<0
  ·refine aq (by simp [A]) (an (.inl rfl) ?_);simp [aW (n:=(q:Int)+1)];refine az (ih (hi-(q+1)) _ (by omega) ⟨q+1,hi,_,_,rfl,by omega,by omega,h6,by simp [g0],by simp [O],by simp [U],by simp,by simp [L],u.trans (Fm.push _ _),d.push _,fun k z k1 k2 o=>?_,Y⟩);exact(u2.le S B k1 (by omega) (show q<e by omega)).strict S B wp o K A
  ·refine aD (by simp [A]) (an (.inl rfl) ?_);simp;refine az (ih (q-lo) _ (by omega) ⟨lo,q,_,_,rfl,by omega,h5,by omega,by simp [g0],by simp [O],by simp [U],by simp [g],by simp,u.trans (Fm.push _ _),d.push _,Z,fun k z k1 k2 o=>?_⟩);exact S.trans wp wx (B _ (aue o)) A ((u2.le S B (i:=q) (j:=k) (by omega) k1 k2) _ _ K o)
 refine aD (by simp [N]) ?_;obtain rfl:lo=hi:=by omega
 refine bJ (k':=.code (GL sz)::k) rfl ?_;apply al;apply ai;simp [O];refine aF ?_;refine cH (fun w s=>∃(i:Nat) (t:T) (v:aj) (l:List (List FC)),s=⟨t,[],v⟩∧i+1+w=lo∧a≤i∧t.g 0=.c (.sl b 0 n 0 ep sz)∧t.g 10=vi lo∧t.g 13=vi i∧Fm b H v∧RB v b sz ep l∧iT a e rows l∧xl rows l a (a+1) (i+1)) (lo-(a+1))
  ⟨a,_,v,rows,rfl,by omega,by omega,by simp [g0],by simp [g],by simp,u,d,iT.refl _ _ _,xl.none _ (by omega) (by omega) (.inr rfl)⟩ ?_
 rintro w s ⟨i,t,v,l,rfl,hw,h7,g0,g,M,u,d,m,I⟩ ih;have E:=m.len;apply al;apply ai;simp [g,M,aW (n:=(lo:Int)-1)];by_cases N:i+1<lo
 ·refine aq (by simp;omega) (aO ?_);obtain⟨x,y,H2,H3,-,-,i1,j1,l1,l2,w1,w2,s1,j2,s2,r2,f2⟩:=d.AW (m.xA hg) (E.trans hn) (i:=i) (j:=i+1) (by omega) (by omega);have c1:((i+1:Nat):Int)=(i:Int)+1:=by omega
  rw [c1]at j1 j2;apply al;refine aF (an (.inl rfl) ?_);simp [g0,M,aW (n:=(i:Int)+1),i1,j1,l1,l2,w1,w2,s1,j2,s2,-aA,-bl];refine az (an (.inl rfl) ?_);simp [M,aW (n:=(i:Int)+1)];exact ih (w-1) _ (by omega) ⟨i+1,_,H3,_,rfl,by omega,by omega,by simp [g0],by simp [g],by simp,u.trans f2,r2,m.trans (uI (by omega) (by omega) (by omega) (by omega) (by omega)),I.up E h7 (by omega)⟩
 obtain rfl:lo=i+1:=by omega
 refine aD (by simp) ?_;refine bJ (k':=.code .ret::k) rfl ?_;refine aC (hQ _ _ l u d m ?_);refine ac7 S B (Up.one (by omega)) u2 (at3 _) (by omega) h5 h6 (by omega) (.inl (by omega)) (fun h=>by omega) (fun _ h=>?_) (fun _ h=>?_) I
 ·have K:=asZ (l:=rows) (i:=i+1-1) (by omega);exact ko.of_lt S B K f (Z _ _ (by omega) (by omega) K)
 ·have K:=asZ (l:=rows) (i:=i+1) (by omega);exact ko.of_le f K (Y _ _ (by omega) h K)
theorem QO{H:aj}{rows:List (List FC)}{n a m:Nat}{Q:Option aE→St→Prop}{k:List cZ}(a7:Cv tab cv W c)(X:DB W c)(hn:rows.length=n)(hl:n≤1000000000)(g:RB H b sz ep rows)(hg:cr sz rows)(K:∀ r ∈ rows,W r)
  (h2:a<m) (h4:m<n) (u1:Up c a m rows) {t:T} (g0:t.g 0=.c (.sl b 0 n 0 ep sz)) (g1:t.g 1=vi a) (S:t.g 2=vi m) (Y:t.g 4=cv)
  (hQ:∀ t H' l',Fm b H H'→RB H' b sz ep l'→iT a (m+1) rows l'→Up c a (m+1) l'→Q (aa .ret) ⟨t,[],H'⟩):WP tab σ.qE ab (.code (GM sz)::k) ⟨t,[],H⟩ Q:=by
 obtain⟨p,o⟩:∃ p,rows[m]?=aa p:=⟨_,asZ (by omega)⟩
 have wp:W p:=K _ (aue o);apply ai;simp [g1];apply ai;simp [S];apply al;refine aF ?_;refine cH (fun w s=>∃(lo hi:Nat) (t:T) (B:aj),s=⟨t,[],B⟩∧lo+w=hi∧a≤lo∧hi≤m∧t.g 0=.c (.sl b 0 n 0 ep sz)∧t.g 2=vi m∧t.g 4=cv∧t.g 14=vi lo∧t.g 15=vi hi∧Fm b H B∧RB B b sz ep rows ∧
   (∀(k:Nat) x,a≤k→k<lo→rows[k]?=aa x→¬ c p x<0)∧(∀(k:Nat) x,hi≤k→k<m→rows[k]?=aa x→c p x<0)) (m-a)
  ⟨a,m,_,H,rfl,by omega,by omega,by omega,by simp [g0],by simp [S],by simp [Y],by simp,by simp,Fm.refl H,g,fun k x h1 h2=>by omega,fun k x h1 h2=>by omega⟩ ?_
 rintro w s ⟨lo,hi,t,B,rfl,hw,h5,h6,g0,S,Y,u,O,A,g,f,e⟩ ih;apply al;apply ai;simp [u,O];by_cases U:lo<hi
 ·refine aq (by simp [U]) (aO ?_);obtain⟨q,hq⟩:=aK ((lo+hi) / 2);refine aF ?_;apply ai;simp [u,O,aW (n:=(lo:Int)+hi),kU (lo:=lo) (hi:=hi) (by omega),mT (lo:=lo) (hi:=hi) (by omega) hq,aW (n:=(q:Int))];obtain⟨x,y,F,ar,J,N,hy,i1,j1,l1,l2,Z,he,-,wy⟩:=g.ask hg a7 K hn (i:=m) (j:=q) (by omega) (by omega);rw [o]at N;cases N;apply ai;simp [g0,S,Y,i1,j1,l1,l2,Z,he,-aA];by_cases I:c p y<0
  ·refine aD (by simp [I]) (an (.inl rfl) ?_);simp;refine az (ih (q-lo) _ (by omega) ⟨lo,q,_,_,rfl,by omega,h5,by omega,by simp [g0],by simp [S],by simp [Y],by simp [u],by simp,A.trans (Fm.push _ _),g.push _,f,fun k z k1 k2 hz=>?_⟩);exact(u1.le X K (i:=q) (j:=k) (by omega) k1 k2).akv X K wp hy hz I
  ·refine aq (by simp [I]) (an (.inl rfl) ?_);simp [aW (n:=(q:Int)+1)];refine az (ih (hi-(q+1)) _ (by omega) ⟨q+1,hi,_,_,rfl,by omega,by omega,h6,by simp [g0],by simp [S],by simp [Y],by simp,by simp [O],A.trans (Fm.push _ _),g.push _,fun k z k1 k2 hz=>?_,e⟩);exact X.trans (K _ (aue hz)) wy wp ((u1.le X K (i:=k) (j:=q) k1 (by omega) (by omega)) _ _ hz hy) I
 refine aD (by simp [U]) ?_;obtain rfl:lo=hi:=by omega
 refine bJ (k':=.code (GN sz)::k) rfl ?_;apply al;apply ai;simp [S];refine aF ?_;refine cH (fun w s=>∃(i:Nat) (t:T) (B:aj) (l:List (List FC)),s=⟨t,[],B⟩∧i=lo+w∧i≤m∧t.g 0=.c (.sl b 0 n 0 ep sz)∧t.g 14=vi lo∧t.g 17=vi i∧Fm b H B∧RB B b sz ep l∧iT a (m+1) rows l∧xl rows l i m (m+1)) (m-lo)
  ⟨m,_,B,rows,rfl,by omega,by omega,by simp [g0],by simp [u],by simp,A,g,iT.refl _ _ _,xl.none _ (by omega) (by omega) (.inl rfl)⟩ ?_
 rintro w s ⟨i,t,B,l,rfl,hw,h7,g0,u,E,A,g,v,M⟩ ih;have L:=v.len;apply al;apply ai;simp [u,E];by_cases U:lo<i
 ·refine aq (by simp;omega) (aO ?_);obtain⟨d,rfl⟩:∃ d,i=d+1:=⟨i-1,by omega⟩
  obtain⟨x,y,H2,H3,-,-,i1,j1,l1,l2,w1,w2,s1,j2,s2,r2,f2⟩:=g.AW (v.xA hg) (L.trans hn) (i:=d+1) (j:=d) (by omega) (by omega);have c1:((d+1:Nat):Int)=(d:Int)+1:=by omega
  rw [c1]at i1 E;apply al;refine aF (an (.inl rfl) ?_);simp [g0,E,aW (n:=(d:Int)),i1,j1,l1,l2,w1,w2,s1,j2,s2,-aA,-bl];refine az (an (.inl rfl) ?_);simp [E,aW (n:=(d:Int))];exact ih (w-1) _ (by omega) ⟨d,_,H3,_,rfl,by omega,by omega,by simp [g0],by simp [u],by simp,A.trans f2,r2,v.trans (uI (by omega) (by omega) (by omega) (by omega) (by omega)),M.dn L h7 (by omega)⟩
 obtain rfl:lo=i:=by omega
 refine aD (by simp) ?_;refine bJ (k':=.code .ret::k) rfl ?_;refine aC (hQ _ _ l A g v ?_);refine ac7 X K u1 (Up.one (by omega)) h5 h6 (by omega) (at3 _) (by omega) (.inr (by omega)) (fun h _=>?_) (fun h _=>?_) (fun _ h=>by omega) M
 ·have N:=asZ (l:=rows) (i:=lo-1) (by omega);exact ko.of_le N o (f _ _ (by omega) (by omega) N)
 ·have N:=asZ (l:=rows) (i:=lo) (by omega);exact ko.of_lt X K o N (e _ _ (by omega) (by omega) N)
end
end
section
set_option linter.unusedVariables false
open Go
section
variable{tab:TB}{σ:Dm}{sz:Nat}{b ep:Nat}{cv:V}{W:List FC→Prop}{c:List FC→List FC→Int}
theorem ake(hT:tab σ.qE=aa (adx σ sz))(hR:tab σ.rot=aa (ac6 σ sz))(hS:tab σ.swr=aa (GW σ sz))(c_:Cv tab cv W c)(hc:DB W c){n:Nat}(hl:n≤1000000000):∀(d:Nat) {H:aj} {rows:List (List FC)} {a m e:Nat},e-a=d→rows.length=n→RB H b sz ep rows→cr sz rows→(∀ r ∈ rows,W r)→a<m→m<e→e≤n→Up c a m rows→Up c m e rows →
  ∃ r H',Ev tab (.fn σ.qE) [.c (.sl b 0 n 0 ep sz),vi a,vi m,vi e,cv] H r H'∧(r=.t []∧Fm b H H'∧∃ l',RB H' b sz ep l'∧iT a e rows l'∧Up c a e l'):=by
 intro d;induction d using Nat.strongRecOn with
 | _ d IH=>
 intro H rows a m e hd hn A hg Y h1 h2 h4 u1 u2;refine cI hT rfl fun Q hQ=>?_;apply al;apply ai;simp [aW (n:=(m:Int)-a)];by_cases i_:m=a+1
 ·subst i_;refine aq (by simp;omega) ?_;exact ady c_ hc hn hl A hg Y h2 h4 u2 (by simp) (by simp) (by simp) (by simp) (by simp) fun t H' l' f r s u=>hQ _ _ _ rfl rfl ⟨rfl,f,l',r,s,u⟩
 refine aD (by simp;omega) (aO ?_);apply al;apply ai;simp [aW (n:=(e:Int)-m)];by_cases i9:e=m+1
 ·subst i9;refine aq (by simp;omega) ?_;exact QO c_ hc hn hl A hg Y h1 h4 u1 (by simp) (by simp) (by simp) (by simp) fun t H' l' f r s u=>hQ _ _ _ rfl rfl ⟨rfl,f,l',r,s,u⟩
 refine aD (by simp;omega) (aO ?_);obtain⟨mid,i5⟩:=aK ((a+e) / 2);apply ai;simp [aW (n:=(a:Int)+e),kU (lo:=a) (hi:=e) (by omega),mT (lo:=a) (hi:=e) (by omega) i5,aW (n:=(mid:Int))];apply ai;simp [aW (n:=(mid:Int)+m)];apply ai;simp;have e_:∀(t:T) (X:aj) (s g:Nat) (M l2:List (List FC)),a≤s→s≤m→s≤mid→m≤g→mid≤g→g≤e→mid+m=s+g→(a<s→g<e→ko c rows (s-1) g)→(s<m→m<g→ko c rows (g-1) s)→xl rows M s m g→iT a e rows M→iT a mid M l2→Up c a mid l2 →
   t.g 0=.c (.sl b 0 n 0 ep sz)→t.g 3=vi e→t.g 4=cv→t.g 18=vi mid→t.g 24=vi g→Fm b H X→RB X b sz ep l2→WP tab σ.qE ab [.code (CY σ)] ⟨t,[],X⟩ Q:=by
  intro t X s g M l2 q1 q2 q3 q4 q5 q6 q7 x1 x2 E K a7 j5 g0 N O v U B A;have e1:=K.len;have e2:=a7.len;have v1:Up c mid g l2:=by
   refine Up.sub (l:=rows) (d:=g-m) (u1.mono (by omega) (by omega)) (by omega) fun k S k2=>?_;rw [a7.ge S,E k,aY (by omega),bg (by omega)]
  have v2:Up c g e l2:=(u2.mono (show m≤g by omega) (at3 _)).of fun k S k2=>by rw [a7.ge (by omega),E k,aY (by omega),aY (by omega)]
  have b9:∀ l3,iT mid e l2 l3→Up c mid e l3→iT a e rows l3∧Up c a e l3:=fun l3 i7 j6=>
   ⟨K.trans ((a7.mono (at3 _) (by omega)).trans (i7.mono (by omega) (at3 _))),acv hc Y u1 u2 q1 q2 q4 q6 q7 (by omega) x1 x2 E e1 a7 j5 i7 j6⟩
  apply ai;by_cases S:mid<g
  ·by_cases k2:g<e
   ·simp [N,v,U,S,k2];obtain⟨r,H4,I,rfl,f4,l3,r3,s3,u3⟩:=IH (e-mid) (by omega) (H:=X) (rows:=l2) rfl (by omega) A (a7.xA (K.xA hg)) (fun r hr=>Y r (K.1.mem_iff.1 (a7.1.mem_iff.1 hr))) S k2 h4 v1 v2;obtain⟨w1,w2⟩:=b9 l3 s3 u3;have I:=I.eq;refine aq (by simp) (an (.inl rfl) ?_);simp [g0,N,O,v,U,I];exact cJ (hQ _ _ _ rfl rfl ⟨rfl,B.trans f4,l3,r3,w1,w2⟩)
   ·simp [N,v,U,S,k2];obtain rfl:g=e:=by omega
    obtain⟨w1,w2⟩:=b9 l2 (iT.refl _ _ _) v1;refine bw (by simp) ?_;exact cJ (hQ _ _ _ rfl rfl ⟨rfl,B,l2,A,w1,w2⟩)
  ·simp [N,v,U,S];obtain rfl:mid=g:=by omega
   obtain⟨w1,w2⟩:=b9 l2 (iT.refl _ _ _) v2;refine bw (by simp) ?_;exact cJ (hQ _ _ _ rfl rfl ⟨rfl,B,l2,A,w1,w2⟩)
 have d_:∀(t:T) (X:aj) (s g:Nat) (M:List (List FC)),a≤s→s≤m→s≤mid→m≤g→mid≤g→g≤e→mid+m=s+g→(a<s→g<e→ko c rows (s-1) g)→(s<m→m<g→ko c rows (g-1) s)→xl rows M s m g→iT a e rows M →
   t.g 0=.c (.sl b 0 n 0 ep sz)→t.g 1=vi a→t.g 3=vi e→t.g 4=cv→t.g 18=vi mid→t.g 20=vi s→t.g 24=vi g→Fm b H X→RB X b sz ep M→WP tab σ.qE ab [.code (CX σ)] ⟨t,[],X⟩ Q:=by
  intro t X s g M q1 q2 q3 q4 q5 q6 q7 x1 x2 E K g0 g1 N O v z U B A;have e1:=K.len;have v1:Up c a s M:=(u1.mono (at3 _) q2).of fun k S k2=>by rw [E k,aY (by omega),aY (by omega)]
  have v2:Up c s mid M:=by
   refine Up.add (l:=rows) (d:=m-s) (u2.mono (by omega) (by omega)) fun k S k2=>?_;rw [E k,bg (by omega)];congr 1;omega
  apply al;apply ai;by_cases S:a<s
  ·by_cases k2:s<mid
   ·simp [g1,v,z,S,k2];obtain⟨r,H4,I,rfl,f4,l3,r3,s3,u3⟩:=IH (mid-a) (by omega) (H:=X) (rows:=M) rfl (by omega) A (K.xA hg) (fun r hr=>Y r (K.1.mem_iff.1 hr)) S k2 (by omega) v1 v2;have I:=I.eq;refine aq (by simp) (an (.inl rfl) ?_);simp [g0,g1,O,v,z,I];exact e_ _ _ s g M l3 q1 q2 q3 q4 q5 q6 q7 x1 x2 E K s3 u3 (by simp [g0]) (by simp [N]) (by simp [O]) (by simp [v]) (by simp [U]) (B.trans f4) r3
   ·simp [g1,v,z,S,k2];obtain rfl:s=mid:=by omega
    refine bw (by simp) ?_;exact e_ _ _ s g M M q1 q2 q3 q4 q5 q6 q7 x1 x2 E K (iT.refl _ _ _) v1 (by simp [g0]) (by simp [N]) (by simp [O]) (by simp [v]) (by simp [U]) B A
  ·simp [g1,v,z,S];obtain rfl:a=s:=by omega
   refine bw (by simp) ?_;exact e_ _ _ a g M M q1 q2 q3 q4 q5 q6 q7 x1 x2 E K (iT.refl _ _ _) v2 (by simp [g0]) (by simp [N]) (by simp [O]) (by simp [v]) (by simp [U]) B A
 have j4:∀(t:T) (X:aj) (s0 Z s:Nat),(mid<m∧s0+e=mid+m∧Z=mid∨m≤mid∧s0=a∧Z=m)→s0≤s→s≤Z→(∀ k,s0≤k→k<s→ko c rows k (mid+m-1-k))→(∀ k,s≤k→k<Z→ko c rows (mid+m-1-k) k) →
   t.g 0=.c (.sl b 0 n 0 ep sz)→t.g 1=vi a→t.g 2=vi m→t.g 3=vi e→t.g 4=cv→t.g 18=vi mid→t.g 19=vi ((mid+m:Nat):Int)→t.g 20=vi s→Fm b H X→RB X b sz ep rows→WP tab σ.qE ab [.code (wT σ)] ⟨t,[],X⟩ Q:=by
  intro t X s0 Z s i6 S k2 i1 i2 g0 g1 g2 N O v L z B A;obtain⟨g,j7⟩:=aK (mid+m-s);have c1:((mid+m:Nat):Int)-s=(g:Int):=by omega
  have x1:a<s→g<e→ko c rows (s-1) g:=fun p1 p2=>by
   have:=i1 (s-1) (by omega) (by omega);rwa [show mid+m-1-(s-1)=g by omega]at this
  have x2:s<m→m<g→ko c rows (g-1) s:=fun p1 p2=>by
   have:=i2 s (at3 _) (by omega);rwa [show mid+m-1-s=g-1 by omega]at this
  rw [show((mid+m:Nat):Int)=(mid:Int)+m by omega]at L c1;apply ai;simp [L,z,c1,aW (n:=(g:Int))];apply al;apply ai;by_cases p1:s<m
  ·by_cases p2:m<g
   ·simp [g2,z,p1,p2];obtain⟨r,H4,I,rfl,f4,M,r1,s1,x⟩:=aop (cv:=cv) (a:=s) (m:=m) (e:=g) hR hS hn hl A hg p1 p2 (by omega);have I:=I.eq;refine aq (by simp) (an (.inl rfl) ?_);simp [g0,g2,O,z,I];exact d_ _ _ s g M (by omega) (by omega) (by omega) (by omega) (by omega) (by omega) (by omega) x1 x2 x (s1.mono (by omega) (by omega)) (by simp [g0]) (by simp [g1]) (by simp [N]) (by simp [O]) (by simp [v]) (by simp [z]) (by simp) (B.trans f4) r1
   ·simp [g2,z,p1,p2];refine bw (by simp) ?_;exact d_ _ _ s g rows (by omega) (by omega) (by omega) (by omega) (by omega) (by omega) (by omega) x1 x2 (xl.none _ (by omega) (by omega) (.inr (by omega))) (iT.refl _ _ _) (by simp [g0]) (by simp [g1]) (by simp [N]) (by simp [O]) (by simp [v]) (by simp [z]) (by simp) B A
  ·simp [g2,z,p1];refine bw (by simp) ?_;exact d_ _ _ s g rows (by omega) (by omega) (by omega) (by omega) (by omega) (by omega) (by omega) x1 x2 (xl.none _ (by omega) (by omega) (.inl (by omega))) (iT.refl _ _ _) (by simp [g0]) (by simp [g1]) (by simp [N]) (by simp [O]) (by simp [v]) (by simp [z]) (by simp) B A
 have i8:∀(t:T) (s0 Z:Nat),(mid<m∧s0+e=mid+m∧Z=mid∨m≤mid∧s0=a∧Z=m)→t.g 0=.c (.sl b 0 n 0 ep sz)→t.g 1=vi a→t.g 2=vi m→t.g 3=vi e→t.g 4=cv→t.g 18=vi mid→t.g 19=vi ((mid+m:Nat):Int)→t.g 20=vi s0→t.g 21=vi Z →
   WP tab σ.qE ab [.code (GO σ sz)] ⟨t,[],H⟩ Q:=by
  intro t s0 Z i6 g0 g1 g2 N O v L z a8;have c0:((mid+m:Nat):Int)=(mid:Int)+m:=by omega
  obtain⟨p,hp⟩:=aK (mid+m-1);have c1:(mid:Int)+m-1=(p:Int):=by omega
  rw [c0]at L;apply ai;simp [L,c1,aW (n:=(p:Int))];apply al;refine aF ?_;refine cH (fun w s=>∃(lo hi:Nat) (t:T) (H1:aj),s=⟨t,[],H1⟩∧lo+w=hi∧s0≤lo∧hi≤Z∧t.g 0=.c (.sl b 0 n 0 ep sz)∧t.g 1=vi a∧t.g 2=vi m∧t.g 3=vi e∧t.g 4=cv∧t.g 18=vi mid∧t.g 19=vi ((mid:Int)+m)∧t.g 22=vi p∧t.g 20=vi lo∧t.g 21=vi hi∧Fm b H H1∧RB H1 b sz ep rows ∧
    (∀ k,s0≤k→k<lo→ko c rows k (mid+m-1-k))∧(∀ k,hi≤k→k<Z→ko c rows (mid+m-1-k) k)) (Z-s0)
   ⟨s0,Z,_,H,rfl,by omega,by omega,by omega,by simp [g0],by simp [g1],by simp [g2],by simp [N],by simp [O],by simp [v],by simp [L],by simp,by simp [z],by simp [a8],Fm.refl H,A,fun k h1 h2=>by omega,fun k h1 h2=>by omega⟩ ?_
  rintro w s ⟨lo,hi,t,H1,rfl,hw,h5,h6,g0,g1,g2,N,O,v,L,b_,z,a8,B,A,h_,g_⟩ ih;apply al;apply ai;simp [z,a8];by_cases i4:lo<hi
  ·refine aq (by simp [i4]) (aO ?_);obtain⟨q,hq⟩:=aK ((lo+hi) / 2);refine aF ?_;apply ai;simp [z,a8,aW (n:=(lo:Int)+hi),kU (lo:=lo) (hi:=hi) (by omega),mT (lo:=lo) (hi:=hi) (by omega) hq,aW (n:=(q:Int))];obtain⟨x,y,F,ar,J,hx,hy,i1,j1,M,l2,f_,he,wx,wy⟩:=A.ask hg c_ Y hn (i:=p-q) (j:=q) (by omega) (by omega);rw [show((p-q:Nat):Int)=(p:Int)-q by omega]at i1;apply ai;simp [g0,O,b_,aW (n:=(p:Int)-q),i1,j1,M,l2,f_,he,-aA];by_cases a_:c x y<0
   ·refine aD (by simp [a_]) (an (.inl rfl) ?_);simp;refine az (ih (q-lo) _ (by omega) ⟨lo,q,_,_,rfl,by omega,h5,by omega,by simp [g0],by simp [g1],by simp [g2],by simp [N],by simp [O],by simp [v],by simp [L],by simp [b_],by simp [z],by simp,B.trans (Fm.push _ _),A.push _,h_,fun k S k2=>?_⟩);exact((u2.le hc Y (i:=mid+m-1-k) (j:=p-q) (by omega) (by omega) (by omega)).trans hc Y (ko.of_lt hc Y hx hy a_) (by omega)).trans hc Y (u1.le hc Y (i:=q) (j:=k) (by omega) S (by omega)) (by omega)
   ·refine aq (by simp [a_]) (an (.inl rfl) ?_);simp [aW (n:=(q:Int)+1)];refine az (ih (hi-(q+1)) _ (by omega) ⟨q+1,hi,_,_,rfl,by omega,by omega,h6,by simp [g0],by simp [g1],by simp [g2],by simp [N],by simp [O],by simp [v],by simp [L],by simp [b_],by simp,by simp [a8],B.trans (Fm.push _ _),A.push _,fun k S k2=>?_,g_⟩);exact((u1.le hc Y (i:=k) (j:=q) (by omega) (by omega) (by omega)).trans hc Y (ko.of_le hy hx a_) (by omega)).trans hc Y (u2.le hc Y (i:=p-q) (j:=mid+m-1-k) (by omega) (by omega) (by omega)) (by omega)
  refine aD (by simp [i4]) ?_;obtain rfl:lo=hi:=by omega
  refine bJ (k':=[.code (wT σ)]) rfl ?_;exact j4 _ _ s0 Z lo i6 h5 h6 h_ g_ (by simp [g0]) (by simp [g1]) (by simp [g2]) (by simp [N]) (by simp [O]) (by simp [v]) (by simp [L]) (by simp [z]) B A
 apply al;apply ai;simp;by_cases d9:mid<m
 ·refine aq (by simp [d9]) ?_;have c2:(mid:Int)+m-e=((mid+m-e:Nat):Int):=by omega
  apply ai;simp [aW (n:=(mid:Int)+m-e)];refine an (.inl rfl) ?_;simp;exact i8 _ (mid+m-e) mid (.inl ⟨d9,by omega,rfl⟩) (by simp) (by simp) (by simp) (by simp) (by simp) (by simp) (by simp) (by simp [c2]) (by simp)
 ·refine aD (by simp [d9]) ?_;apply ai;simp;refine an (.inl rfl) ?_;simp;exact i8 _ a m (.inr ⟨by omega,rfl,rfl⟩) (by simp) (by simp) (by simp) (by simp) (by simp) (by simp) (by simp) (by simp) (by simp)
theorem aks(hT:tab σ.aox=aa (aoC σ sz))(J:tab σ.ins=aa (ak4 σ sz))(hM:tab σ.qE=aa (adx σ sz))(hR:tab σ.rot=aa (ac6 σ sz))(hS:tab σ.swr=aa (GW σ sz))(g:Cv tab cv W c)(B:DB W c){H:aj}{rows:List (List FC)}{n:Nat}(F:rows.length=n)(hl:n<40)(y:RB H b sz ep rows)(E:cr sz rows)(L:∀ r ∈ rows,W r) :
  ∃ r H',Ev tab (.fn σ.aox) [.c (.sl b 0 n 0 ep sz),vi n,cv] H r H'∧(r=.t []∧Fm b H H'∧∃ l',RB H' b sz ep l'∧l'.Perm rows∧Up c 0 n l'):=by
 refine cI hT rfl fun Q K=>?_;apply ai;simp;apply ai;simp;apply al;refine aF ?_;refine iK ?_;apply al;apply ai;simp;by_cases v:20≤n
 case neg=>
  refine aD (by simp;omega) ?_;refine bJ (k':=[.code (AL σ)]) rfl ?_;obtain⟨r,Z,j,rfl,A,U,N,x,O⟩:=Ea (a:=0) (e:=n) J g B F (by omega) y E L (by omega) (at3 _);have j:=j.eq;simp at j;apply ai;simp [j];refine aF ?_;refine iK ?_;apply al;apply ai;simp;refine aD (by simp;omega) ?_;refine bJ (k':=[]) rfl ?_;exact cJ (K _ _ _ rfl rfl ⟨rfl,A,U,N,x.1,O⟩)
 refine aq (by simp;omega) (aO ?_);obtain⟨r,Z,j,rfl,A,U,N,x,O⟩:=Ea (a:=0) (e:=20) J g B F (by omega) y E L (by omega) v;have j:=j.eq;simp at j;have u:∀ {a e l},iT a e rows l→∀ r ∈ l,W r:=fun h r hr=>L r (h.1.mem_iff.1 hr);obtain⟨r,H2,q,rfl,S,M,X,Y,u2⟩:=Ea (a:=20) (e:=n) J g B (x.len.trans F) (by omega) N (x.xA E) (u x) v (at3 _);have q:=q.eq;simp at q;refine aF ?_;apply ai;simp [j];apply ai;simp;refine an (.inl rfl) ?_;simp [aW (n:=(20:Int)+20)];refine az (si ?_);apply al;apply ai;simp;refine aD (by simp [IntKind.wrap,IntKind.bits,IntKind.signed];omega) ?_;refine bJ (k':=[.code (AL σ)]) rfl ?_;apply ai;simp [q];refine aF ?_;refine iK ?_;apply al;apply ai;simp;have d:iT 0 n rows M:=(x.mono (at3 _) v).trans (Y.mono (by omega) (at3 _));have z:Up c 0 20 M:=O.of fun k _ k2=>Y.lt k2;by_cases I:20<n
 case neg=>
  obtain rfl:n=20:=by omega
  refine aD (by simp) ?_;refine bJ (k':=[]) rfl ?_;exact cJ (K _ _ _ rfl rfl ⟨rfl,A.trans S,M,X,d.1,z⟩)
 refine aq (by simp;omega) (aO ?_);obtain⟨r,H3,s,rfl,f3,l3,r3,s3,u3⟩:=ake (b:=b) (ep:=ep) (sz:=sz) hM hR hS g B (n:=n) (by omega) n (a:=0) (m:=20) (e:=n) rfl (d.len.trans F) X (d.xA E) (u d) (by omega) I (at3 _) z u2;have s:=s.eq;simp at s;refine aF ?_;apply ai;simp [aW (n:=(2:Int)*20)];apply al;refine aF ?_;refine iK ?_;apply al;apply ai;simp;refine aD (by simp [IntKind.wrap,IntKind.bits,IntKind.signed];omega) ?_;refine bJ (k':=[.code (GS σ),.inBlock 3,.inLoop (GQ σ),.inBlock 2]) rfl ?_;apply al;apply ai;simp [aW (n:=(0:Int)+20),aW (n:=(20:Int))];apply ai;simp;refine aq (by simp;omega) ?_;refine an (.inl rfl) ?_;simp [s];refine an (.inl rfl) ?_;simp;refine az (si ?_);apply al;apply ai;simp;refine aD (by simp [IntKind.wrap,IntKind.bits,IntKind.signed];omega) ?_;refine bJ (k':=[]) rfl ?_;exact cJ (K _ _ _ rfl rfl ⟨rfl,A.trans (S.trans f3),l3,r3,s3.1.trans d.1,u3⟩)
end
end
section
open Go
def LX(H:aj)(c:C)(sz:Nat)(rows:List (List FC)):Prop:=(rows=[]∧(c=.f .aw∨c=.f .es))∨(rows≠[]∧∃ b ep fl,c=.sl b 0 rows.length 0 ep sz∧H[b]?=aa (.b5 sz (rows.flatten.map .f) fl ep .loc))
section
variable{H H':aj}{c c':C}{sz sz':Nat}{rows rows':List (List FC)}
theorem LR.x(h:LR H c sz rows):LX H c sz rows:=by
 rcases h with h | ⟨h,b,ep,rfl,h2⟩
 ·exact .inl h
 ·exact .inr ⟨h,b,ep,0,rfl,h2⟩
theorem LX.oU(h:LX H c sz rows){i:Nat}{cs:List C}{fl:Nat}(d:H[i]?=aa (.box cs fl)):bE c≠aa i:=by
 rcases h with⟨_,rfl | rfl⟩ | ⟨h,b,ep,fl,rfl,h2⟩
 ·simp [bE]
 ·simp [bE]
 ·intro e;cases e;rw [h2]at d;cases d
theorem LX.set(h:LX H c sz rows){i:Nat}(hi:bE c≠aa i)(x:bz):LX (H.set i x) c sz rows:=by
 rcases h with h | ⟨h,b,ep,fl,rfl,h2⟩
 ·exact .inl h
 ·have:i≠b:=by rintro rfl;exact hi rfl
  exact .inr ⟨h,b,ep,fl,rfl,by rw [aft this];exact h2⟩
theorem LX.mkH(h:LX H c' sz' rows')(n:Nat):gD (n+1) c' H=H∨∃ b ep fl d,bE c'=aa b∧H[b]?=aa (.b5 sz' (rows'.flatten.map .f) fl ep .loc)∧gD (n+1) c' H=H.set b (.b5 sz' (rows'.flatten.map .f) d ep .loc):=by
 rcases h with⟨_,rfl | rfl⟩ | ⟨j,b,ep,fl,rfl,h2⟩
 ·exact .inl rfl
 ·exact .inl rfl
 ·refine .inr ⟨b,ep,fl,Nat.max fl (0+rows'.length*sz'),rfl,h2,?_⟩;simp only [qf,h2];rw [uo];intro x g;have g:=au0 (auW g);obtain⟨m,_,rfl⟩:=auq.1 g;exact⟨_,rfl⟩
theorem LX.mk(h:LX H c sz rows)(s:LX H c' sz' rows')(n:Nat):LX (gD (n+1) c' H) c sz rows:=by
 rcases s.mkH n with e | ⟨j,m,q,d,x,g,e⟩
 ·rw [e];exact h
 ·rw [e];rcases h with h | ⟨h,b,ep,fl,rfl,h2⟩
  ·exact .inl h
  ·by_cases l:j=b
   ·subst l;rw [h2]at g;injection g with g;injection g with q1 u y v z;subst q1;rw [←u,←v];exact .inr ⟨h,j,ep,d,rfl,atY (au h2)⟩
   ·exact .inr ⟨h,b,ep,fl,rfl,by rw [aft l];exact h2⟩
theorem LX.ak7(h:LX H c sz rows)(n:Nat){i:Nat}{cs:List C}{fl:Nat}(hi:H[i]?=aa (.box cs fl)):(gD (n+1) c H)[i]?=aa (.box cs fl):=by
 rcases h.mkH n with e | ⟨g,j,l,d,m,b,e⟩
 ·rw [e];exact hi
 ·rw [e];have:g≠i:=by rintro rfl;rw [hi]at b;cases b
  rw [aft this];exact hi
theorem LX.ex(h:LX H c sz rows)(hg:cr sz rows):∃ g,∀(H':aj) (n:Nat),LX H' c sz rows→ek (n+1) H' c=aa (sl g rows):=by
 by_cases hr:rows=[]
 ·rcases h with⟨rfl,rfl | rfl⟩ | ⟨h,_⟩
  ·exact⟨.nil,fun _ _ _=>rfl⟩
  ·exact⟨.es,fun _ _ _=>rfl⟩
  ·exact absurd hr h
 ·refine⟨.fs,fun H' n m=>?_⟩;rcases m with⟨e,_⟩ | ⟨j,b,ep,fl,rfl,h2⟩
  ·exact absurd e hr
  ·have d:rows.length*sz=rows.flatten.length:=(bW hg).symm;simp only [mr,h2];rw [bg ⟨trivial,trivial,by rw [at9,auH,d];exact at3 _⟩,au5,at8 (by rw [at9];omega),sq];cases rows with
   | nil=>exact absurd rfl hr| cons x l=>simp [sl]
end
end
end Km
