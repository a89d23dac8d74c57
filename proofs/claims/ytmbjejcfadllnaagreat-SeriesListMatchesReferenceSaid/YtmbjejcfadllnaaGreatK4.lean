/-
  Our own small machine for Go code by value, held s9 the model: part 4. No program in Gx.
-/
import Derived.Test.YtmbjejcfadllnaaGreatK3
import Derived.ChangeArms
import Derived.DataReads
import Derived.Deep.Slices
import Derived.ProofKit
import Derived.RowKit3
import Derived.Below
import Derived.Carry
import Derived.Laws.IdiomArrays
open Option renaming some → ab,none → ae
open Bool renaming true → ag,false → ah
open Nat renaming le_refl → aft, add_mul → auD, mul_le_mul_right → auP, le_max_left → auh, le_max_right → aud, le_trans → aua, lt_of_lt_of_le → auI, zero_add → auJ
open Option renaming bind_some → auf, map_eq_some_iff → IN, bind_eq_some_iff → aue
open List renaming map_cons → anc, foldl_cons → auV, mem_cons_of_mem → aub, flatten_cons → auu, length_append → at7, length_cons → aup, mem_cons_self → at2, drop_append → avC, mem_map → auy, getElem?_eq_some_iff → BY, mem_of_getElem? → atZ, drop_drop → au6, drop_eq_getElem_cons → at5, getElem?_eq_getElem → AT, length_map → aur, length_drop → auK, map_append → auR, take_append_of_le_length → auW, take_of_length_le → at6, getElem?_map → auN, isEmpty_cons → avt, findIdx?_eq_some_iff_getElem → avu, getElem_mem → IS, getElem?_append_left → AI, getElem?_append_right → at1, take_append_drop → auM, append_nil → auQ, getElem?_of_mem → auH, mem_cons → aui, mem_append_left → avd, getElem?_set_ne → By, set_cons_succ → avs, append_assoc → auC, map_drop → avv, getElem?_set_self → OF, getElem?_take → auo, getElem?_drop → at8, length_eq_zero_iff → aun, nil_append → avr
open Bool renaming false_eq_true → atY, and_eq_true → If
open Option.some renaming injEq → sh, inj → au9
set_option linter.unusedVariables false
set_option linter.constructorNameAsVariable false
set_option linter.unusedSimpArgs false
set_option linter.unusedSectionVars false
set_option maxRecDepth 100000
namespace Km
section
open Go
def P.NY:Nat→Nat→P
 | 0,_=>.h| k+1,n=>if n=0 then .h else if n % 2=1 then .o (NY k ((n-1) / 2))else .i (NY k ((n-2) / 2))
def P.nat(n:Nat):P:=P.NY n n
theorem ph:∀(k n:Nat),n≤k→(P.NY k n).toNat=n
 | 0,n,b=>by simp [P.NY,P.toNat];omega
 | k+1,n,b=>by
  unfold P.NY;split
  ·simp [P.toNat, *]
  ·split
   ·simp [P.toNat];rw [ph k _ (by omega)];omega
   ·simp [P.toNat];rw [ph k _ (by omega)];omega
theorem xL(n:Nat):(P.nat n).toNat=n:=ph n n (aft n)
theorem akR{a b:Nat}(d:a≠b):P.nat a≠P.nat b:=fun e=>d (by rw [←xL a,←xL b,e])
theorem T.gr(v:V):∀(p:P) (t:T),(t.set p v).get p=v
 | .h,.e=>rfl| .h,.n _ _ _=>rfl| .o p,.e=>T.gr v p .e| .o p,.n l _ _=>T.gr v p l| .i p,.e=>T.gr v p .e| .i p,.n _ _ r=>T.gr v p r
theorem T.jW(v:V):∀(p q:P) (t:T),p≠q→(t.set p v).get q=t.get q
 | .h,.h,_,h=>absurd rfl h| .h,.o q,.e,_=>by cases q<;>rfl
 | .h,.i q,.e,_=>by cases q<;>rfl
 | .h,.o _,.n _ _ _,_=>rfl| .h,.i _,.n _ _ _,_=>rfl| .o _,.h,.e,_=>rfl| .o _,.h,.n _ _ _,_=>rfl| .i _,.h,.e,_=>rfl| .i _,.h,.n _ _ _,_=>rfl
 | .o p,.o q,.e,h=>by
  show(T.set .e p v).get q=_;rw [T.jW v p q .e (fun e=>h (by rw [e]))];cases q<;>rfl
 | .o p,.o q,.n l _ _,h=>T.jW v p q l (fun e=>h (by rw [e]))
 | .o p,.i q,.e,h=>by
  show T.get .e q=_;cases q<;>rfl
 | .o _,.i _,.n _ _ _,_=>rfl
 | .i p,.o q,.e,h=>by
  show T.get .e q=_;cases q<;>rfl
 | .i _,.o _,.n _ _ _,_=>rfl
 | .i p,.i q,.e,h=>by
  show(T.set .e p v).get q=_;rw [T.jW v p q .e (fun e=>h (by rw [e]))];cases q<;>rfl
 | .i p,.i q,.n _ _ r,h=>T.jW v p q r (fun e=>h (by rw [e]))
def T.g(t:T)(n:Nat):V:=t.get (P.nat n)
def T.s(t:T)(n:Nat)(v:V):T:=t.set (P.nat n) v
@[simp] theorem T.g_s (t:T) (n m:Nat) (v:V):(t.s n v).g m=if n=m then v else t.g m:=by
 unfold T.g T.s;split
 ·rename_i h;subst h;exact T.gr v _ t
 ·rename_i h;exact T.jW v _ _ t (akR h)
def R(n:Nat):Arg:=.r (P.nat n)
def D(n:Nat):Option P:=ab (P.nat n)
def G(n:Nat)(w:Bool):Option (P × Bool):=ab (P.nat n,w)
abbrev vi(n:Int):V:=.c (.f (.int .i64 n))
abbrev vb(b:Bool):V:=.c (.f (.bool b))
abbrev fi(n:Int):FC:=.int .i64 n
@[simp] theorem anb (t:T) (n:Nat):(R n).ev t=t.g n:=rfl
@[simp] theorem atB (t:T) (v:V):(Arg.k v).ev t=v:=rfl
@[simp] theorem ar2 (t:T) (n:Nat) (v:V):ka t (D n) v=t.s n v:=rfl
@[simp] theorem am3 (t:T) (v:V):ka t ae v=t:=rfl
@[simp] theorem afN (t:T) (n:Nat):t.get (P.nat n)=t.g n:=rfl
@[simp] theorem aiZ (n:Nat) (ps:List P) (v:V) (b:List V) (t:T):cM (P.nat n::ps) (v::b) t=cM ps b (t.s n v):=rfl
@[simp] theorem amo (b:List V) (t:T):cM [] b t=t:=rfl
@[simp] theorem ai3 (t:T):wanted t ae=ab ag:=rfl
@[simp] theorem aqE (t:T) (n:Nat) (w:Bool):wanted t (G n w)=match t.g n with
  | .c (.f (.bool b))=>ab (b == w)| .t []=>ab ah| _=>ae:=rfl
attribute [simp] dj
def KO(o:Option (V × an))(t:T)(ds:List dH)(K:V→St→Prop):Prop:=∃ p,o=ab p∧K p.1 ⟨t,ds,p.2⟩
@[simp] theorem aqS (v:V) (H:an) (t:T) (ds:List dH) (K:V→St→Prop):KO (ab (v,H)) t ds K↔K v ⟨t,ds,H⟩:=⟨fun⟨_,h,k⟩=>by cases h;exact k,fun k=>⟨_,rfl,k⟩⟩
def KP(P:V→Prop)(t:T)(ds:List dH)(H:an)(K:V→St→Prop):Prop:=∃ x,P x∧K x ⟨t,ds,H⟩
@[simp] theorem am_ (x:V) (t:T) (ds:List dH) (H:an) (K:V→St→Prop):KP (Eq x) t ds H K↔K x ⟨t,ds,H⟩:=⟨fun⟨_,h,k⟩=>by cases h;exact k,fun k=>⟨x,rfl,k⟩⟩
def E2(x:V)(H:an)(y:V)(H':an):Prop:=x=y∧H=H'
def KE(P:V→an→Prop)(t:T)(ds:List dH)(K:V→St→Prop):Prop:=∃ x H,P x H∧K x ⟨t,ds,H⟩
@[simp] theorem ath (x:V) (H:an) (t:T) (ds:List dH) (K:V→St→Prop):KE (E2 x H) t ds K↔K x ⟨t,ds,H⟩:=⟨fun⟨_,_,⟨b,d⟩,k⟩=>by cases b;cases d;exact k,fun k=>⟨x,H,⟨rfl,rfl⟩,k⟩⟩
section
variable(tab:Nat→Option aB)
def KC(b:Option (List V))(f:Nat)(t:T)(ds:List dH)(H:an)(K:V→St→Prop):Prop:=∃ a,b=ab a∧KP (bB tab f a) t ds H K
def KD(c:Option (Callee × List V))(t:T)(ds:List dH)(H:an)(K:V→St→Prop):Prop:=∃ a,c=ab a∧KE (Ev tab a.1 a.2 H) t ds K
def KS(os:List aO)(L:St→Prop)(s:St):Prop:=vE tab os s L
def FS(s:St)(K:St→Prop):Prop:=K s
def KV(o:Option P)(os:List aO)(L:St→Prop)(v:V)(s:St):Prop:=FS ⟨ka s.aA o v,s.defs,s.heap⟩ (KS tab os L)
def GRD(w:Option Bool)(b:cV)(o:Option P)(os:List aO)(L:St→Prop)(s:St):Prop:=
 match w with
 | some ag=>kI tab s b (KV tab o os L)| some ah=>FS ⟨ka s.aA o (.t []),s.defs,s.heap⟩ (KS tab os L)| none=>False
end
section
variable{tab:Nat→Option aB}{t:T}{ds:List dH}{H:an}{K:V→St→Prop}{L:St→Prop}
@[simp] theorem afe (a:List V) (f:Nat):KC tab (ab a) f t ds H K↔KP (bB tab f a) t ds H K:=⟨fun⟨_,h,k⟩=>by cases h;exact k,fun k=>⟨_,rfl,k⟩⟩
@[simp] theorem aqR (c:Callee) (a:List V):KD tab (ab (c,a)) t ds H K↔KE (Ev tab c a H) t ds K:=⟨fun⟨_,h,k⟩=>by cases h;exact k,fun k=>⟨_,rfl,k⟩⟩
@[simp] theorem ate (s:St) (K:St→Prop):FS s K↔K s:=Iff.rfl
@[simp ↓] theorem ati (os:List aO) (s:St):KS tab os L s↔vE tab os s L:=Iff.rfl
@[simp ↓] theorem atj (o:Option P) (os:List aO) (v:V):KV tab o os L v ⟨t,ds,H⟩↔FS ⟨ka t o v,ds,H⟩ (KS tab os L):=Iff.rfl
@[simp ↓] theorem atg (b:cV) (o:Option P) (os:List aO) (s:St):GRD tab (ab ag) b o os L s↔kI tab s b (KV tab o os L):=Iff.rfl
@[simp ↓] theorem atf (b:cV) (o:Option P) (os:List aO):GRD tab (ab ah) b o os L ⟨t,ds,H⟩↔FS ⟨ka t o (.t []),ds,H⟩ (KS tab os L):=Iff.rfl
@[simp ↓] theorem aqT (s:St):vE tab [] s L↔L s:=Iff.rfl
@[simp ↓] theorem ana (o:Option P) (b:cV) (os:List aO):vE tab (⟨o,b,ae⟩::os) ⟨t,ds,H⟩ L↔kI tab ⟨t,ds,H⟩ b (KV tab o os L):=Iff.rfl
@[simp ↓] theorem amH (o:Option P) (b:cV) (n:Nat) (w:Bool) (os:List aO) :
  vE tab (⟨o,b,G n w⟩::os) ⟨t,ds,H⟩ L↔GRD tab (wanted t (G n w)) b o os L ⟨t,ds,H⟩:=by
 simp only [vE];rcases d:wanted t (G n w)with _ | _ | _<;>exact Iff.rfl
def cV.plain:cV→Bool
 | .call _ _ _ | .cj _ _ _ | .recover | .defer _ _=>ah| _=>ag
theorem cF{b:cV}(h:b.plain=ag):kI tab ⟨t,ds,H⟩ b K↔KO (bu t H b) t ds K:=by
 have:kI tab ⟨t,ds,H⟩ b K↔∃ v H',bu t H b=ab (v,H')∧K v ⟨t,ds,H'⟩:=by
  cases b<;>first | exact Iff.rfl | simp [cV.plain]at h
 rw [this];exact⟨fun⟨v,H',h,k⟩=>⟨(v,H'),h,k⟩,fun⟨p,h,k⟩=>⟨p.1,p.2,h,k⟩⟩
@[simp ↓] theorem arf (x:Arg):kI tab ⟨t,ds,H⟩ (.bN x) K↔KO (bu t H (.bN x)) t ds K:=cF rfl
@[simp ↓] theorem ao6 (c a b:Arg):kI tab ⟨t,ds,H⟩ (.pick c a b) K↔KO (bu t H (.pick c a b)) t ds K:=cF rfl
@[simp ↓] theorem amT (zs:List FC):kI tab ⟨t,ds,H⟩ (.alloc zs) K↔KO (bu t H (.alloc zs)) t ds K:=cF rfl
@[simp ↓] theorem arb (x:Arg):kI tab ⟨t,ds,H⟩ (.box x) K↔KO (bu t H (.box x)) t ds K:=cF rfl
@[simp ↓] theorem amU (zs:List FC) (b:List (Nat × Nat × Arg)):kI tab ⟨t,ds,H⟩ (.build zs b) K↔KO (bu t H (.build zs b)) t ds K:=cF rfl
@[simp ↓] theorem akY (sz:Nat) (zs:List FC) (len:Nat) (b:List (Nat × Arg)):kI tab ⟨t,ds,H⟩ (.aR sz zs len b) K↔KO (bu t H (.aR sz zs len b)) t ds K:=cF rfl
@[simp ↓] theorem ao3 (n:Option Nat) (x:Arg):kI tab ⟨t,ds,H⟩ (.load n x) K↔KO (bu t H (.load n x)) t ds K:=cF rfl
@[simp ↓] theorem am2 (n:Nat) (x y:Arg):kI tab ⟨t,ds,H⟩ (.store n x y) K↔KO (bu t H (.store n x y)) t ds K:=cF rfl
@[simp ↓] theorem ak2 (x:Arg):kI tab ⟨t,ds,H⟩ (.bE x) K↔KO (bu t H (.bE x)) t ds K:=cF rfl
@[simp ↓] theorem ara (b:BinOp) (x y:Arg):kI tab ⟨t,ds,H⟩ (.bin b x y) K↔KO (bu t H (.bin b x y)) t ds K:=cF rfl
@[simp ↓] theorem arL (neg:Bool) (k:MR) (x y:Arg):kI tab ⟨t,ds,H⟩ (.eq neg k x y) K↔KO (bu t H (.eq neg k x y)) t ds K:=cF rfl
@[simp ↓] theorem arM (b:UnOp) (x:Arg):kI tab ⟨t,ds,H⟩ (.un b x) K↔KO (bu t H (.un b x)) t ds K:=cF rfl
@[simp ↓] theorem arc (k:IntKind) (x:Arg):kI tab ⟨t,ds,H⟩ (.eX k x) K↔KO (bu t H (.eX k x)) t ds K:=cF rfl
@[simp ↓] theorem ao5 (f:Nat) (b:List Arg):kI tab ⟨t,ds,H⟩ (.lz f b) K↔KO (bu t H (.lz f b)) t ds K:=cF rfl
@[simp ↓] theorem amZ:kI tab ⟨t,ds,H⟩ .kD K↔KO (bu t H .kD) t ds K:=cF rfl
@[simp ↓] theorem ak1 (d:CK) (b:FC) (m k:Arg):kI tab ⟨t,ds,H⟩ (.lookup d b m k) K↔KO (bu t H (.lookup d b m k)) t ds K:=cF rfl
@[simp ↓] theorem amY (b:CK) (m k v:Arg):kI tab ⟨t,ds,H⟩ (.kB b m k v) K↔KO (bu t H (.kB b m k v)) t ds K:=cF rfl
@[simp ↓] theorem aiR (sz bytes:Nat) (zs:List FC) (l c:Arg):kI tab ⟨t,ds,H⟩ (.c4 sz bytes zs l c) K↔KO (bu t H (.c4 sz bytes zs l c)) t ds K:=cF rfl
@[simp ↓] theorem am1 (sz:Nat) (x:Arg) (lo hi mx:Option Arg):kI tab ⟨t,ds,H⟩ (.slice sz x lo hi mx) K↔KO (bu t H (.slice sz x lo hi mx)) t ds K:=cF rfl
@[simp ↓] theorem am0 (n sz:Nat) (x:Arg) (lo hi mx:Option Arg):kI tab ⟨t,ds,H⟩ (.lK n sz x lo hi mx) K↔KO (bu t H (.lK n sz x lo hi mx)) t ds K:=cF rfl
@[simp ↓] theorem akZ (off:Nat) (x:Arg):kI tab ⟨t,ds,H⟩ (.aC off x) K↔KO (bu t H (.aC off x)) t ds K:=cF rfl
@[simp ↓] theorem amX (off:Nat) (n:Option Nat) (x:Arg):kI tab ⟨t,ds,H⟩ (.field off n x) K↔KO (bu t H (.field off n x)) t ds K:=cF rfl
@[simp ↓] theorem ak0 (sz:Nat) (b:Option Nat) (x i:Arg):kI tab ⟨t,ds,H⟩ (.aS sz b x i) K↔KO (bu t H (.aS sz b x i)) t ds K:=cF rfl
@[simp ↓] theorem ao1 (len sz:Nat) (n:Option Nat) (x i:Arg):kI tab ⟨t,ds,H⟩ (.qk len sz n x i) K↔KO (bu t H (.qk len sz n x i)) t ds K:=cF rfl
@[simp ↓] theorem aiQ (x:Arg) (i:Nat):kI tab ⟨t,ds,H⟩ (.extract x i) K↔KO (bu t H (.extract x i)) t ds K:=cF rfl
@[simp ↓] theorem ard (x:Arg):kI tab ⟨t,ds,H⟩ (.len x) K↔KO (bu t H (.len x)) t ds K:=cF rfl
@[simp ↓] theorem ao2 (x:Arg):kI tab ⟨t,ds,H⟩ (.lens x) K↔KO (bu t H (.lens x)) t ds K:=cF rfl
@[simp ↓] theorem akX (sz bytes:Nat) (x y:Arg):kI tab ⟨t,ds,H⟩ (.append sz bytes x y) K↔KO (bu t H (.append sz bytes x y)) t ds K:=cF rfl
@[simp ↓] theorem ao4 (lo:Bool) (xs:List Arg):kI tab ⟨t,ds,H⟩ (.mX lo xs) K↔KO (bu t H (.mX lo xs)) t ds K:=cF rfl
@[simp ↓] theorem ao0 (f:Nat) (args:List Arg):kI tab ⟨t,ds,H⟩ (.call f args ah) K ↔
  KC tab (aZ (bX deep H) (dj t args)) f t ds ((dj t args).foldl (mkV deep) H) K:=by
 simp only [kI,KC,KP];constructor
 ·intro h;rw [aY (by simp)]at h;obtain⟨b,r,d,g,j⟩:=h;exact⟨b,d,r,g,j⟩
 ·rintro⟨b,d,r,g,j⟩;rw [aY (by simp)];exact⟨b,r,d,g,j⟩
@[simp ↓] theorem amW (f:Nat) (args:List Arg):kI tab ⟨t,ds,H⟩ (.call f args ag) K↔KD tab (ab (.fn f,dj t args)) t ds H K:=by simp [kI,KD,KE]
@[simp ↓] theorem amV (x:Arg) (args:List Arg) (h:Bool):kI tab ⟨t,ds,H⟩ (.cj x args h) K↔KD tab (ca (x.ev t) (dj t args)) t ds H K:=by
 simp only [kI,KD,KE];constructor
 ·rintro⟨c,as,r,H',b,d,g⟩;exact⟨(c,as),b,r,H',d,g⟩
 ·rintro⟨⟨c,as⟩,b,r,H',d,g⟩;exact⟨c,as,r,H',b,d,g⟩
end
def DB:V→Option Bool
 | .c (.f (.bool b))=>ab b| _=>ae
@[simp] theorem amI (b:Bool):DB (.c (.f (.bool b)))=ab b:=rfl
section
variable{t:T}{H:an}
@[simp] theorem atv (x:Arg):bu t H (.bN x)=ab (x.ev t,H):=rfl
@[simp] theorem atw (o:Os) (sz:Nat):bu t H (.pre o sz)=if o=.loc∨sz=0 then ae else ab (.c (.sl H.length 0 0 0 0 sz),H++[.bR sz [] 0 0 o]):=rfl
@[simp] theorem atc (c x y:Arg):bu t H (.pick c x y)=(DB (c.ev t)).map fun b=>(if b then x.ev t else y.ev t,H):=by
 simp only [bu,DB];split
 ·rename_i b h;simp only [h];cases b<;>rfl
 ·rename_i h;split
  ·rename_i b d;exact absurd d (h b)
  ·rfl
@[simp] theorem aro (zs:List FC):bu t H (.alloc zs)=ab (.c (.ptr H.length 0 0),H++[.box (zs.map .f) 0]):=rfl
@[simp] theorem ats (x:Arg):bu t H (.box x)=(x.ev t).cells?.map fun xs=>(.c (.ptr H.length 0 0),H++[.box xs 0]):=by
 simp only [bu];cases (x.ev t).cells?<;>rfl
@[simp] theorem arp (zs:List FC) (ps:List (Nat × Nat × Arg)):bu t H (.build zs ps)=(dw t (zs.map .f) ps).map fun cs=>(.a cs,H):=rfl
@[simp] theorem aqH (sz:Nat) (zs:List FC) (n:Nat) (ps:List (Nat × Arg)):bu t H (.aR sz zs n ps) =
  if n=0 then(if ps.isEmpty then ab (.c (.f .es),H)else ae)else
  (dw t ((cP n zs).map .f) (ps.map fun p=>(p.1*sz,sz,p.2))).map fun cs=>(.c (.sl H.length 0 n n 0 sz),H++[.box cs 0]):=rfl
@[simp] theorem as9 (n:Option Nat) (x:Arg):bu t H (.load n x)=(aV H n (x.ev t)).map (·,H):=rfl
def zP(H:an)(n:Nat)(x y:V):Option an:=
 match x,y.cells? with
 | .c p,ab xs=>if xs.length=n then dn H p xs else ae| _,_=>ae
@[simp] theorem arw (n:Nat) (x y:Arg):bu t H (.store n x y)=(zP H n (x.ev t) (y.ev t)).map (.top,·):=by
 simp only [bu,zP];cases x.ev t with
 | c p=>cases (y.ev t).cells? with
  | none=>rfl| some xs=>by_cases h:xs.length=n<;>simp [h]
 | _=>rfl
@[simp] theorem aqD (n:Nat) (p:C) (y:V):zP H n (.c p) y=y.cells?.bind fun xs=>if xs.length=n then dn H p xs else ae:=by
 simp only [zP];cases y.cells?<;>rfl
@[simp] theorem atr (b:BinOp) (x y:Arg):bu t H (.bin b x y)=(bV b (x.ev t) (y.ev t)).map (·,H):=rfl
@[simp] theorem atW (neg:Bool) (k:MR) (x y:Arg):bu t H (.eq neg k x y)=(z6 H k (x.ev t) (y.ev t)).map fun b=>(vb (if neg then !b else b),H):=rfl
@[simp] theorem atX (b:UnOp) (x:Arg):bu t H (.un b x)=(unV b (x.ev t)).map (·,H):=rfl
def akg(k:IntKind):V→Option V
 | .c (.f (.int _ n))=>ab (.c (.f (.int k (k.wrap n))))| _=>ae
@[simp] theorem arF (k j:IntKind) (n:Int):akg k (.c (.f (.int j n)))=ab (.c (.f (.int k (k.wrap n)))):=rfl
@[simp] theorem att (k:IntKind) (x:Arg):bu t H (.eX k x)=(akg k (x.ev t)).map (·,H):=by
 simp only [bu,akg];split
 ·rename_i h;simp only [h];rfl
 ·rename_i h;split
  ·rename_i b;exact absurd b (h _ _)
  ·rfl
@[simp] theorem atb (f:Nat) (b:List Arg):bu t H (.lz f b)=(aZ sQ (dj t b)).map fun xs=>(.c (.cl f xs),H):=rfl
@[simp] theorem ata (f:Nat) (b:List Arg):bu t H (.vN f b)=(aZ sQ (dj t b)).map fun xs=>(.c (.bm f xs),H):=rfl
@[simp] theorem aru (sz:Nat) (x:Arg) (lo hi mx:Option Arg):bu t H (.slice sz x lo hi mx)=(fH H sz (x.ev t) (lo.map (·.ev t)) (hi.map (·.ev t)) (mx.map (·.ev t))).map (·,H):=rfl
@[simp] theorem aqJ (sz:Nat) (zs:List FC) (n:Nat) (ps:List (Nat × Arg)):bu t H (.iM sz zs n ps)=((dw t ((cP n zs).map .f) (ps.map fun p=>(p.1*sz,sz,p.2))).bind fun cs=>if n=0 then ae else fcL cs).map fun b=>(.c (.f (.fs b n)),H):=rfl
@[simp] theorem atd (sz:Nat) (x hi mx:Arg):bu t H (.vY sz x hi mx)=Cj H sz (x.ev t) (hi.ev t) (mx.ev t):=rfl
@[simp] theorem art (n sz:Nat) (x:Arg) (lo hi mx:Option Arg):bu t H (.lK n sz x lo hi mx)=(jt H n sz (x.ev t) (lo.map (·.ev t)) (hi.map (·.ev t)) (mx.map (·.ev t))).map (·,H):=rfl
@[simp] theorem arv (x:Arg) (lo hi:Option Arg):bu t H (.qM x lo hi)=(vf (x.ev t) (lo.map (·.ev t)) (hi.map (·.ev t))).map (·,H):=rfl
@[simp] theorem aqI (o:Nat) (x:Arg):bu t H (.aC o x)=(jB o (x.ev t)).map (·,H):=rfl
@[simp] theorem ars (o:Nat) (n:Option Nat) (x:Arg):bu t H (.field o n x)=(nB o n (x.ev t)).map (·,H):=rfl
@[simp] theorem aqK (sz:Nat) (b:Option Nat) (x i:Arg):bu t H (.aS sz b x i)=(aL H sz b (x.ev t) (i.ev t)).map (·,H):=rfl
@[simp] theorem as6 (x i:Arg):bu t H (.idxs x i)=(Bv (x.ev t) (i.ev t)).map (·,H):=rfl
@[simp] theorem as5 (len sz:Nat) (n:Option Nat) (x i:Arg):bu t H (.qk len sz n x i)=(mM len sz n (x.ev t) (i.ev t)).map (·,H):=rfl
def cOf:V→Option C
 | .c x=>ab x| _=>ae
@[simp] theorem atk (x:C):cOf (.c x)=ab x:=rfl
@[simp] theorem atu (x:Arg):bu t H (.len x)=((cOf (x.ev t)).bind (bJ H)).map fun n=>(vi (n:Nat),H):=by
 simp only [bu,cOf];cases x.ev t with
 | c y=>simp only [auf];cases bJ H y<;>rfl
 | _=>rfl
def strOf:V→Option ByteArray
 | .c (.f (.str s))=>ab s| _=>ae
@[simp] theorem arj (s:ByteArray):strOf (.c (.f (.str s)))=ab s:=rfl
@[simp] theorem as8 (x:Arg):bu t H (.lens x)=(strOf (x.ev t)).map fun s=>(vi (s.size:Nat),H):=by
 simp only [bu,strOf];split
 ·rename_i h;simp only [h];rfl
 ·rename_i h;split
  ·rename_i b;exact absurd b (h _)
  ·rfl
@[simp] theorem as7 (n:Nat):bu t H (.uD n)=ab (vi (n:Nat),H):=rfl
@[simp] theorem aqG (sz bytes:Nat) (x y:Arg):bu t H (.append sz bytes x y)=bK H sz bytes (x.ev t) (y.ev t):=rfl
@[simp] theorem as4 (sz:Nat) (x y:Arg):bu t H (.copy sz x y)=copyV H sz (x.ev t) (y.ev t):=rfl
@[simp] theorem as_ (lo:Bool) (xs:List Arg):bu t H (.mX lo xs)=(NR lo (dj t xs)).map (·,H):=rfl
def tOf:V→Option (List V)
 | .t b=>ab b| _=>ae
@[simp] theorem atp (b:List V):tOf (.t b)=ab b:=rfl
@[simp] theorem am5 (x:Arg) (i:Nat):bu t H (.extract x i)=(tOf (x.ev t)).bind fun d=>d[i]?.map (·,H):=by
 simp only [bu,tOf];split
 ·rename_i h;simp only [h];rfl
 ·rename_i h;split
  ·rename_i b;exact absurd b (h _)
  ·rfl
def tf:V→Option V
 | .c (.ptr b o e)=>ab (.c (.ptr b o e))| .c (.f (.fp cs o))=>ab (.c (.f (.fp cs o)))| _=>ae
@[simp] theorem akS (b o e:Nat):tf (.c (.ptr b o e))=ab (.c (.ptr b o e)):=rfl
@[simp] theorem amS (cs:List FC) (o:Nat):tf (.c (.f (.fp cs o)))=ab (.c (.f (.fp cs o))):=rfl
@[simp] theorem aqL (x:Arg):bu t H (.bE x)=(tf (x.ev t)).map (·,H):=by
 simp only [bu,tf];split
 ·rename_i h;simp only [h];rfl
 ·rename_i h;simp only [h];rfl
 ·rename_i b d;split
  ·rename_i h;exact absurd h (b _ _ _)
  ·rename_i h;exact absurd h (d _ _)
  ·rfl
@[simp] theorem amM (f:Nat) (b:List FC) (args:List V):ca (.c (.f (.fn f b))) args=ab (.fn f,args++b.map fun x=>.c (.f x)):=rfl
@[simp] theorem amL (f:Nat) (b:List C) (args:List V):ca (.c (.cl f b)) args=ab (.fn f,args++b.map .c):=rfl
@[simp] theorem amK (f:Nat) (first:List C) (args:List V):ca (.c (.bm f first)) args=ab (.fn f,first.map .c++args):=rfl
end
section
variable{k:IntKind}{a b:Int}{H:an}
@[simp] theorem aqU:bV .add (.c (.f (.int k a))) (.c (.f (.int k b)))=ab (.c (.f (.int k (k.wrap (a+b))))):=by simp [bV,kJ,V.int]
@[simp] theorem aq2:bV .sub (.c (.f (.int k a))) (.c (.f (.int k b)))=ab (.c (.f (.int k (k.wrap (a-b))))):=by simp [bV,kJ,V.int]
@[simp] theorem aq0:bV .mul (.c (.f (.int k a))) (.c (.f (.int k b)))=ab (.c (.f (.int k (k.wrap (a*b))))):=by simp [bV,kJ,V.int]
theorem s_(h:b≠0):bV .quo (.c (.f (.int k a))) (.c (.f (.int k b)))=ab (.c (.f (.int k (k.wrap (a.tdiv b))))):=by simp [bV,kJ,V.int,h]
theorem ov(h:b≠0):bV .rem (.c (.f (.int k a))) (.c (.f (.int k b)))=ab (.c (.f (.int k (a.tmod b)))):=by simp [bV,kJ,V.int,h]
@[simp] theorem aqV:bV .eql (.c (.f (.int k a))) (.c (.f (.int k b)))=ab (vb (decide (a=b))):=by simp [bV,kJ,V.bool];rfl
@[simp] theorem aq1:bV .neq (.c (.f (.int k a))) (.c (.f (.int k b)))=ab (vb (!decide (a=b))):=by simp [bV,kJ,V.bool];rfl
@[simp] theorem aqZ:bV .lss (.c (.f (.int k a))) (.c (.f (.int k b)))=ab (vb (decide (a<b))):=by simp [bV,kJ,V.bool]
@[simp] theorem aqY:bV .leq (.c (.f (.int k a))) (.c (.f (.int k b)))=ab (vb (decide (a≤b))):=by simp [bV,kJ,V.bool]
@[simp] theorem aqX:bV .gtr (.c (.f (.int k a))) (.c (.f (.int k b)))=ab (vb (decide (b<a))):=by simp [bV,kJ,V.bool]
@[simp] theorem aqW:bV .geq (.c (.f (.int k a))) (.c (.f (.int k b)))=ab (vb (decide (b≤a))):=by simp [bV,kJ,V.bool]
@[simp] theorem aod {x y:Bool}:OB .bool (.f (.bool x)) (.f (.bool y))=ab (x == y):=rfl
@[simp] theorem aq7:OB .int (.f (.int k a)) (.f (.int k b))=ab (a == b):=by simp [OB]
@[simp] theorem aq8 {x y:ByteArray}:OB .str (.f (.str x)) (.f (.str y))=ab (x == y):=rfl
@[simp] theorem aq6:rC [] [] []=ab ag:=rfl
@[simp] theorem aoc {q:CK} {qs:List CK} {x y:C} {xs ys:List C}:rC (q::qs) (x::xs) (y::ys)=(OB q x y).bind fun c=>(rC qs xs ys).map fun d=>c&&d:=by
 simp only [rC];cases OB q x y<;>cases rC qs xs ys<;>rfl
@[simp] theorem aoe {x y:Bool}:z6 H .bool (.c (.f (.bool x))) (.c (.f (.bool y)))=ab (x == y):=rfl
@[simp] theorem arG {ks:List CK} {xs ys:List C}:z6 H (.st ks) (.a xs) (.a ys)=rC ks xs ys:=rfl
@[simp] theorem as1 {x:Bool}:unV .not (.c (.f (.bool x)))=ab (vb (!x)):=rfl
@[simp] theorem akl {o c o' ep:Nat}:jB o (.c (.ptr c o' ep))=ab (.c (.ptr c (o'+o) ep)):=rfl
@[simp] theorem amO {o o':Nat} {cs:List FC}:jB o (.c (.f (.fp cs o')))=ab (.c (.f (.fp cs (o'+o)))):=rfl
@[simp] theorem aq5 {x:C}:(V.c x).cells?=ab [x]:=rfl
@[simp] theorem aq4 {xs:List C}:(V.a xs).cells?=ab xs:=rfl
@[simp] theorem aty {n:Nat} {x:FC}:db n H (.f x)=ab x:=by cases n<;>rfl
@[simp] theorem atm {n:Nat} {x:C}:bX n H (.c x)=(db n H x).map fun y=>.c (.f y):=rfl
@[simp] theorem ato {n f:Nat} {b:List C}:db (n+1) H (.cl f b)=(aZ (db n H) b).map (.fn f):=rfl
@[simp] theorem arI {n b o e:Nat}:db (n+1) H (.ptr b o e)=match H[b]? with
  | some (.box cs _)=>(aZ (db n H) cs).map (.fp · o)| _=>ae:=rfl
theorem jf{n b o l c ep sz:Nat}:db (n+1) H (.sl b o l c ep sz)=match H[b]? with
  | some (.box cs _)=>if o+l*sz≤cs.length then(aZ (db n H) ((cs.drop o).take (l*sz))).map (.fs · l)else ae| some (.bR s cs _ e .loc)=>if ep=e∧sz=s∧o+l*sz≤cs.length then(aZ (db n H) ((cs.drop o).take (l*sz))).map (.fs · l)else ae| some (.bR s _ _ e .nil)=>if ep=e∧sz=s then ab .aG else ae| some (.bR s _ _ e .es)=>if ep=e∧sz=s then ab .es else ae| _=>ae:=rfl
theorem aaq{n b o e:Nat}:iG (n+1) (.ptr b o e) H=match H[b]? with
  | some (.box cs d)=>cs.foldl (fun H x=>iG n x H) (H.set b (.box cs (Nat.max d cs.length)))
  | _=>H:=rfl
theorem BI{n b o l c e sz:Nat}:iG (n+1) (.sl b o l c e sz) H=match H[b]? with
  | some (.box cs d)=>((cs.drop o).take (l*sz)).foldl (fun H x=>iG n x H) (H.set b (.box cs (Nat.max d (o+l*sz))))
  | some (.bR s cs d e st)=>((cs.drop o).take (l*sz)).foldl (fun H x=>iG n x H) (H.set b (.bR s cs (Nat.max d (o+l*sz)) e st))
  | _=>H:=rfl
theorem aiP{n f:Nat}{b:List C}:iG (n+1) (.cl f b) H=b.foldl (fun H x=>iG n x H) H:=rfl
@[simp] theorem atD {n:Nat} {x:C}:mkV n H (.c x)=iG n x H:=rfl
@[simp] theorem atn {n:Nat} {x:C}:fZ n H (.c x)=(db n H x).map fun y=>.c (.f y):=rfl
theorem rQ{n:Nat}:∀(xs:List FC),aZ (db n H) (xs.map .f)=ab xs
 | []=>rfl| x::xs=>by simp [aZ,rQ xs]
@[simp] theorem atl {n:Nat} {xs:List C}:bX n H (.a xs)=(aZ (db n H) xs).map fun ys=>.a (ys.map .f):=rfl
@[simp] theorem zi {n:Nat} (xs:List FC):aZ (db n H) (xs.map .f)=ab xs:=rQ xs
@[simp] theorem atC {n:Nat} {xs:List C}:mkV n H (.a xs)=xs.foldl (fun H x=>iG n x H) H:=rfl
@[simp] theorem FU {n:Nat} {x:FC}:iG n (.f x) H=H:=by cases n<;>rfl
@[simp] theorem amQ {n:Nat} (xs:List FC):(xs.map C.f).foldl (fun H x=>iG n x H) H=H:=by
 induction xs with
 | nil=>rfl| cons x xs b=>simp only [anc,auV];rw [FU];exact b
end
theorem abJ{n:Int}(b:0≤n)(d:n≤255):IntKind.wrap .u8 n=n:=by
 simp only [IntKind.wrap,IntKind.bits,IntKind.signed];simp;omega
theorem afZ{H:an}{sz n b o ep:Nat}{k:IntKind}{i:Int}(d:0≤i)(g:i<n):aL H sz (ab n) (.c (.ptr b o ep)) (.c (.f (.int k i)))=ab (.c (.ptr b (o+i.toNat*sz) ep)):=by
 simp [aL,dD,d,g]
theorem wrap64{n:Int}(b:-9223372036854775808≤n)(d:n≤9223372036854775807):IntKind.wrap .i64 n=n:=by
 simp only [IntKind.wrap,IntKind.bits,IntKind.signed];simp;omega
theorem aN{n:Int}(b:-9223372036854775808≤n:=by omega)(d:n≤9223372036854775807:=by omega):IntKind.wrap .i64 n=n:=wrap64 b d
@[simp] theorem cast_eq (a b:Nat):((a:Int)=(b:Int))=(a=b):=propext Int.natCast_inj
@[simp] theorem aoH {b d:Type} (g:b→Option d):aZ g []=ab []:=rfl
@[simp] theorem amR {b d:Type} (g:b→Option d) (x:b) (xs:List b):aZ g (x::xs)=(g x).bind fun y=>(aZ g xs).map (y::·):=by
 simp only [aZ];cases g x<;>cases aZ g xs<;>simp
@[simp] theorem ark (x:C) (xs:List C):aK ae (x::xs)=ab (.c x):=rfl
@[simp] theorem arl (n:Nat) (xs:List C):aK (ab n) xs=if n≤xs.length then ab (.a (xs.take n))else ae:=rfl
@[simp] theorem av (H:an) (n:Option Nat) (b o ep:Nat):aV H n (.c (.ptr b o ep))=match H[b]? with
  | some (.box cs _)=>aK n (cs.drop o)| some (.bR _ cs _ e .loc)=>if ep=e then aK n (cs.drop o)else ae| _=>ae:=by
 simp only [aV,aF];split
 ·rename_i h;simp only [h];rfl
 ·rename_i h;simp only [h];split<;>rfl
 ·rename_i d g;split
  ·rename_i h;exact absurd h (d _ _)
  ·rename_i h;exact absurd h (g _ _ _ _)
  ·rfl
@[simp] theorem bs (H:an) (b o ep:Nat) (xs:List C):dn H (.ptr b o ep) xs=match H[b]? with
  | some (.box cs d)=>if d≤o∧o+xs.length≤cs.length then ab (H.set b (.box (over cs o xs) d))else ae| some (.bR sz cs d e .loc)=>if ep=e∧d≤o∧o+xs.length≤cs.length then ab (H.set b (.bR sz (over cs o xs) d e .loc))else ae| _=>ae:=rfl
attribute [simp] over cP
@[simp] theorem alm (t:T) (cs:List C):dw t cs []=ab cs:=rfl
@[simp] theorem aiS (t:T) (cs:List C) (o n:Nat) (x:Arg) (ps:List (Nat × Nat × Arg)):dw t cs ((o,n,x)::ps)=(x.ev t).cells?.bind fun xs=>if xs.length=n∧o+xs.length≤cs.length then dw t (over cs o xs) ps else ae:=by
 simp only [dw];cases (x.ev t).cells?<;>rfl
@[simp] theorem arD (x:FC):sQ (.c (.f x))=ab (.f x):=rfl
@[simp] theorem an' (b o e:Nat):sQ (.c (.ptr b o e))=ab (.ptr b o e):=rfl
@[simp] theorem aq3 (b o l c e s:Nat):sQ (.c (.sl b o l c e s))=ab (.sl b o l c e s):=rfl
def amw:V→Option V
 | .t _=>ae| v=>ab v
@[simp] theorem as0 (x:C):amw (.c x)=ab (.c x):=rfl
@[simp] theorem asZ (x:List C):amw (.a x)=ab (.a x):=rfl
@[simp] theorem ari (t:T) (H:an) (n:Nat):bw t H (.tmp (P.nat n))=amw (t.g n):=by
 simp only [bw,afN];cases t.g n<;>rfl
@[simp] theorem aqr (t:T) (H:an) (n:Nat) (k:Option Nat):bw t H (.cell (P.nat n) k)=aV H k (t.g n):=rfl
@[simp] theorem aq9 {t:T} {H:an} {x:jr} {r:V}:mW [x] r ⟨t,[],H⟩↔∃ r0,bw t H x=ab r0∧fZ deep H r0=ab r:=by
 simp only [mW,results,true_and,aZ];cases bw t H x<;>simp
@[simp] theorem aq' {t:T} {H:an} {x y:jr} {a b:V}:mW [x,y] (.t [a,b]) ⟨t,[],H⟩ ↔
  (∃ r0,bw t H x=ab r0∧bX deep H r0=ab a)∧∃ r0,bw t H y=ab r0∧bX deep H r0=ab b:=by
 simp only [mW,results,true_and,aZ];cases bw t H x with
 | none=>simp
 | some u=>cases bw t H y with
  | none=>simp| some w=>cases d:bX deep H u<;>cases g:bX deep H w<;>simp [fZ,d,g]
@[simp] theorem amP {t:T} {H:an} {x y z:jr} {a b c:V}:mW [x,y,z] (.t [a,b,c]) ⟨t,[],H⟩ ↔
  (∃ r0,bw t H x=ab r0∧bX deep H r0=ab a)∧(∃ r0,bw t H y=ab r0∧bX deep H r0=ab b)∧∃ r0,bw t H z=ab r0∧bX deep H r0=ab c:=by
 simp only [mW,results,true_and,aZ];cases bw t H x with
 | none=>simp
 | some u=>cases bw t H y with
  | none=>simp
  | some w=>cases bw t H z with
   | none=>simp| some q=>cases d:bX deep H u<;>cases g:bX deep H w<;>cases j:bX deep H q<;>simp [fZ,d,g,j]
inductive Tg where | nil | es | fs
 deriving DecidableEq
def Tg.fc:Tg→FC
 | .nil=>.aG| .es=>.es| .fs=>.fs [] 0
def sl(g:Tg)(rows:List (List FC)):FC:=if rows.isEmpty then g.fc else .fs rows.flatten rows.length
def bO(sz:Nat)(rows:List (List FC)):Prop:=∀ r ∈ rows,r.length=sz
theorem eS{sz:Nat}:∀ {rows:List (List FC)},bO sz rows→rows.flatten.length=rows.length*sz
 | [],_=>by simp
 | r::rows,h=>by
  have:=eS (rows:=rows) fun x b=>h x (aub _ b);simp only [auu,at7,aup,this,h r at2,auD,Nat.one_mul];omega
theorem xf{sz:Nat}:∀ {rows:List (List FC)} (j:Nat),bO sz rows→rows.flatten.drop (j*sz)=(rows.drop j).flatten
 | rows,0,_=>by simp
 | [],j+1,_=>by simp
 | r::rows,j+1,h=>by
  have hr:=h r at2;have:=xf (rows:=rows) j fun x b=>h x (aub _ b);rw [auu,List.drop_succ_cons,←this,auD,Nat.one_mul,avC,hr];simp [hr,show j*sz+sz-sz=j*sz by omega]
theorem bO.map{b:Type}{sz:Nat}{l:List b}{g:b→List FC}(h:∀ x,(g x).length=sz):bO sz (l.map g):=fun r hr=>by
 obtain⟨x,_,rfl⟩:=auy.1 hr;exact h x
theorem ug{sz j k:Nat}{rows:List (List FC)}{row:List FC}(d:bO sz rows)(b:rows[j]?=ab row)(l:k≤sz) :
  rows.flatten.drop (j*sz+k)=row.drop k++(rows.drop (j+1)).flatten:=by
 have g:j<rows.length:=(BY.1 b).1;have hr:row.length=sz:=d row (atZ b);rw [←au6,xf j d,at5 g,auu];have:rows[j]=row:=by simpa [AT g]using b
 rw [this,avC,show k-row.length=0 by omega];simp
variable{H:an}
theorem uC{sz j k:Nat}{rows:List (List FC)}{row:List FC}{x:FC}(b:bO sz rows)(d:rows[j]?=ab row)(l:row[k]?=ab x) :
  aV H ae (.c (.f (.fp rows.flatten (j*sz+k))))=ab (.c (.f x)):=by
 have hr:row.length=sz:=b row (atZ d);have g:k<row.length:=(BY.1 l).1;have e:=ug (k:=k) b d (by omega);simp only [aV,aF,auf,e];rw [at5 g];have:row[k]=x:=by simpa [AT g]using l
 simp [aK,this]
theorem agc{sz j k n:Nat}{rows:List (List FC)}{row:List FC}(b:bO sz rows)(d:rows[j]?=ab row)(g:k+n≤sz) :
  aV H (ab n) (.c (.f (.fp rows.flatten (j*sz+k))))=ab (.a (((row.drop k).take n).map .f)):=by
 have hr:row.length=sz:=b row (atZ d);have e:=ug (k:=k) b d (by omega);simp only [aV,aF,auf,e];simp only [aK];rw [bg (by simp only [aur,at7,auK];omega)];rw [auR,auW (by simp only [aur,auK];omega),List.map_take]
theorem ez{sz j:Nat}{rows:List (List FC)}{row:List FC}(b:bO sz rows)(d:rows[j]?=ab row) :
  aV H (ab sz) (.c (.f (.fp rows.flatten (j*sz))))=ab (.a (row.map .f)):=by
 have hr:row.length=sz:=b row (atZ d);have:=agc (H:=H) (k:=0) (n:=sz) b d (by omega);simp only [Nat.add_zero,List.drop_zero]at this;rw [this,at6 (by omega)]
theorem gu{sz j:Nat}{rows:List (List FC)}{row:List FC}{x:FC}(b:bO sz rows)(d:rows[j]?=ab row)(g:row[0]?=ab x) :
  aV H ae (.c (.f (.fp rows.flatten (j*sz))))=ab (.c (.f x)):=uC (k:=0) b d g
theorem agb{j:Nat}{l:List Int}{x:Int}(b:l[j]?=ab x) :
  aV H ae (.c (.f (.fp (l.map fun n=>[fi n]).flatten (j*1))))=ab (vi x):=
 gu (row:=[fi x]) (bO.map fun _=>rfl) (by rw [auN,b];rfl) rfl
@[simp] theorem pg (g:Tg) (rows:List (List FC)):bJ H (.f (sl g rows))=ab rows.length:=by
 cases rows with
 | nil=>cases g<;>rfl
 | cons r rows=>rfl
theorem cE{g:Tg}{rows:List (List FC)}{sz:Nat}{k:IntKind}{i:Int}(d:0≤i)(b:i<rows.length) :
  aL H sz ae (.c (.f (sl g rows))) (.c (.f (.int k i)))=ab (.c (.f (.fp rows.flatten (i.toNat*sz)))):=by
 cases rows with
 | nil=>simp at b;omega
 | cons r rows=>
  simp only [aup]at b;simp [aL,dD,sl,d];omega
theorem Bm{g:Tg}{rows:List (List FC)}{sz:Nat}(b:bO sz rows):cS H sz (.f (sl g rows))=ab (rows.flatten.map .f):=by
 cases rows with
 | nil=>cases g<;>simp [sl,Tg.fc,cS]
 | cons r rows=>
  have:=eS b;simp only [sl,avt,atY,if_false,cS,this,if_true]
end
section
open Go
def Kf(tab:Nat→Option aB)(f:Nat)(args:List V)(r:V):Prop:=∀ H,∃ J,Ev tab (.fn f) args H r (H++J)
section
variable{tab:Nat→Option aB}{f:Nat}{args:List V}{r:V}
theorem Kf.pure{x:FC}(h:Kf tab f args (.c (.f x))):bB tab f args (.c (.f x)):=by
 obtain⟨J,h⟩:=h [];exact⟨_,_,h,by simp⟩
theorem Kf.eq{x:FC}(h:Kf tab f args (.c (.f x))):bB tab f args=Eq (.c (.f x)):=
 funext fun r=>propext ⟨fun k=>h.pure.det k,fun e=>e▸h.pure⟩
theorem bB.eq{r:V}(h:bB tab f args r):bB tab f args=Eq r:=funext fun _=>propext ⟨fun k=>h.det k,fun e=>e▸h⟩
noncomputable def aou (tab:Nat→Option aB) (f:Nat) (args:List V) (H:an):an:=Classical.epsilon fun J=>∃ r,Ev tab (.fn f) args H r (H++J)
theorem Kf.ev(h:Kf tab f args r)(H:an):Ev tab (.fn f) args H=E2 r (H++aou tab f args H):=by
 have j:∃ J,∃ r,Ev tab (.fn f) args H r (H++J):=by obtain⟨J,b⟩:=h H;exact⟨J,r,b⟩
 have l:∃ r,Ev tab (.fn f) args H r (H++aou tab f args H):=Classical.epsilon_spec j;obtain⟨J,b⟩:=h H;obtain⟨r',hr⟩:=l;obtain⟨rfl,e⟩:=b.det hr;funext x H';exact propext ⟨fun k=>hr.det k,fun⟨d,g⟩=>d▸g▸hr⟩
theorem Ev.eq{c:Callee}{H H':an}(h:Ev tab c args H r H'):Ev tab c args H=E2 r H':=funext fun _=>funext fun _=>propext ⟨fun k=>h.det k,fun⟨b,d⟩=>b▸d▸h⟩
def afc(b:List jr)(r:V)(H:an)(s:St):Prop:=s.defs=[]∧results s.aA s.heap b=ab r∧∃ J,s.heap=H++J
theorem fL{ps:List P}{b:List jr}{body:ay}(y:tab f=ab ⟨ps,b,body⟩)(x:args.length=ps.length)
  (h:∀(H:an) (Q:Option ay→St→Prop),(∀ j s,afc b r H s→Q j s)→WP tab f ae [.code body] ⟨cM ps args .e,[],H⟩ Q):Kf tab f args r:=by
 intro H;have g:=h H (fun _ s=>afc b r H s) fun _ _ h=>h;obtain⟨n,m,d,j,s,l,v,q,J,u⟩:=g;exact⟨J,xh y x ⟨n,m,d,j,s,l,0,0,s.heap,by rw [v];rfl,by rw [q],u⟩⟩
@[simp] theorem aoh {t:T} {H H':an} {x:jr}:afc [x] r H ⟨t,[],H'⟩↔bw t H' x=ab r∧∃ J,H'=H++J:=by
 simp only [afc,results,true_and,aZ];cases bw t H' x<;>simp
theorem dU{m d:Nat}{x:FC}(h:(CF tab m d (.fn f) args []).map (·.1)=ab (.c (.f x))):bB tab f args (.c (.f x)):=by
 rw [IN]at h;obtain⟨⟨r,H'⟩,b,g⟩:=h;exact⟨r,H',⟨m,d,b⟩,by rw [show r=.c (.f x) from g];simp⟩
theorem fo{m d:Nat}{x:V}(h:((CF tab m d (.fn f) args []).bind fun p=>fZ deep p.2 p.1)=ab x):bB tab f args x:=by
 rw [aue]at h;obtain⟨⟨r,H'⟩,b,g⟩:=h;exact⟨r,H',⟨m,d,b⟩,g⟩
theorem eA{tab:Nat→Option aB}{f:Nat}{args:List V}{x:V}(h:((CF tab 60 10 (.fn f) args []).bind fun p=>fZ deep p.2 p.1)=ab x):bB tab f args=Eq x:=bB.eq (fo h)
theorem vW{b:Bool}(h:∃ m d H',ef tab jY m d (.fn f) [] []=ab (.c (.f (.bool b)),H')):bB tab f [] (vb b):=by
 obtain⟨m,d,H',h⟩:=h;exact⟨_,H',⟨m,d,h⟩,by simp⟩
theorem bY{S:V→Prop}{ps:List P}{b:List jr}{body:ay}(y:tab f=ab ⟨ps,b,body⟩)(x:args.length=ps.length)
  (h:∀ Q:Option ay→St→Prop,(∀ j s r,S r→mW b r s→Q j s)→WP tab f ae [.code body] ⟨cM ps args .e,[],[]⟩ Q):∃ r,S r∧bB tab f args r:=by
 have q:=h (fun _ s=>∃ r,S r∧mW b r s) fun _ _ r g l=>⟨r,g,l⟩
 obtain⟨n,m,d,j,s,g,r,hr,v,r0,l,u⟩:=q;exact⟨r,hr,r0,s.heap,xh y x ⟨n,m,d,j,s,g,0,0,s.heap,by rw [v];rfl,l,rfl⟩,u⟩
variable{fn i:Nat}{ro:Option Nat}{k:List cG}{ds:List dH}{Q:Option ay→St→Prop}
def Nw(a x:Nat):ay:=.region [⟨D x,.bin .add (R a) (.k (.c (.f (.int .i64 1)))),ae⟩,⟨D a,.bN (R x),ae⟩] []
def rY(i a b c x:Nat)(body:ay):ay:=.seq (.region [⟨D c,.bin .lss (R a) (R b),ae⟩] []) (.seq (.cond (R c) .skip (.exit i)) (.seq body (Nw a x)))
def Fz(i a b c x:Nat)(body:ay):ay:=.block i (.loop (rY i a b c x body))
theorem fE{a b c x:Nat}{body:ay}{t:T}{H:an}(N:Nat)(I:Nat→T→an→Prop)(J:N≤9223372036854775807)(y:a≠b)(A:x≠b)
  (g:t.g a=vi 0) (l:t.g b=vi N) (E:I 0 t H)
  (step:∀ j t H,j<N→I j t H→t.g a=vi j→t.g b=vi N →
   (∀ q H',I (j+1) ((q.s x (vi (j+1:Nat))).s a (vi (j+1:Nat))) H'→q.g a=vi j→q.g b=vi N →
    WP tab fn ro (.code (Nw a x)::.inLoop (rY i a b c x body)::.inBlock i::k) ⟨q,ds,H'⟩ Q) →
   WP tab fn ro (.code body::.code (Nw a x)::.inLoop (rY i a b c x body)::.inBlock i::k) ⟨t.s c (vb ag),ds,H⟩ Q)
  (done:∀ t H,I N t H→t.g a=vi N→t.g b=vi N→WP tab fn ro k ⟨t.s c (vb ah),ds,H⟩ Q) :
  WP tab fn ro (.code (Fz i a b c x body)::k) ⟨t,ds,H⟩ Q:=by
 have m:∀ ops:List aO,ops.all (·.op.ec)=ag→ro=ae∨ops.all (·.op.ec)=ag:=fun _ h=>.inr h;refine az ?_;refine bG (fun n s=>∃ j t H,s=⟨t,ds,H⟩∧j≤N∧n=N-j∧I j t H∧t.g a=vi j∧t.g b=vi N) N ⟨0,t,H,rfl,by omega,by omega,E,g,l⟩ ?_;rintro n s ⟨j,t,H,rfl,K,rfl,B,g,l⟩ F;apply aq;refine au (m _ rfl) ?_;simp [g,l];by_cases d:j<N
 ·rw [decide_eq_true d];apply aq;refine ak (by simp) ?_;refine aH ?_;apply aq;refine step j t H d B g l fun q H' u v z=>?_;refine au (m _ rfl) ?_;simp [v];rw [aN];refine F (N-(j+1)) _ (by omega) ⟨j+1,_,H',rfl,by omega,rfl,by simpa using u,by simp,?_⟩;simp [y,A,z]
 ·have:j=N:=by omega
  subst this;rw [decide_eq_false d];apply aq;refine al (by simp) ?_;refine bf (k':=k) (by simp [exitTo]) ?_;exact done t H B g l
def uv(a x y:Nat):ay:=.region [⟨D x,.bN (R a),ae⟩,⟨D y,.bin .add (R x) (.k (.c (.f (.int .i64 1)))),ae⟩,⟨D a,.bN (R y),ae⟩] []
def tp(i a c x y:Nat)(b:List aO)(body:ay):ay:=.seq (.seq (.region b []) (.cond (R c) .skip (.exit i))) (.seq body (uv a x y))
def ZM(i a c x y:Nat)(b:List aO)(body:ay):ay:=.block i (.loop (tp i a c x y b body))
theorem bQ{a c x y:Nat}{g:List aO}{body:ay}{t:T}{H:an}(N:Nat)(I:Nat→T→an→Prop)(K:N≤9223372036854775807)(B:g.all (·.op.ec)=ag)
  (d:t.g a=vi 0) (E:I 0 t H)
  (l:∀ j t H (L:St→Prop),j≤N→I j t H→t.g a=vi j→(∀ b,I j b H→b.g a=vi j→b.g c=vb (decide ((j:Int)<(N:Int)))→L ⟨b,ds,H⟩)→vE tab g ⟨t,ds,H⟩ L)
  (step:∀ j t H,j<N→I j t H→t.g a=vi j →
   (∀ b H',I (j+1) (((b.s x (vi j)).s y (vi (j+1:Nat))).s a (vi (j+1:Nat))) H'→b.g a=vi j →
    WP tab fn ro (.code (uv a x y)::.inLoop (tp i a c x y g body)::.inBlock i::k) ⟨b,ds,H'⟩ Q) →
   WP tab fn ro (.code body::.code (uv a x y)::.inLoop (tp i a c x y g body)::.inBlock i::k) ⟨t,ds,H⟩ Q)
  (done:∀ t H,I N t H→t.g a=vi N→WP tab fn ro k ⟨t,ds,H⟩ Q) :
  WP tab fn ro (.code (ZM i a c x y g body)::k) ⟨t,ds,H⟩ Q:=by
 have m:∀ ops:List aO,ops.all (·.op.ec)=ag→ro=ae∨ops.all (·.op.ec)=ag:=fun _ h=>.inr h;refine az ?_;refine bG (fun n s=>∃ j t H,s=⟨t,ds,H⟩∧j≤N∧n=N-j∧I j t H∧t.g a=vi j) N ⟨0,t,H,rfl,by omega,by omega,E,d⟩ ?_;rintro n s ⟨j,t,H,rfl,F,rfl,q,d⟩ J;apply aq;apply aq;refine au (m _ B) ?_;refine l j t H _ F q d fun b q d u=>?_;by_cases A:j<N
 ·rw [decide_eq_true (by omega)]at u;refine ak u ?_;refine aH ?_;apply aq;refine step j b H A q d fun b H' v z=>?_;refine au (m _ rfl) ?_;simp [z];rw [aN];exact J (N-(j+1)) _ (by omega) ⟨j+1,_,H',rfl,by omega,rfl,by simpa using v,by simp⟩
 ·have:j=N:=by omega
  subst this;rw [decide_eq_false (by omega)]at u;refine al u ?_;refine bf (k':=k) (by simp [exitTo]) ?_;exact done b H q d
end
end
section
open Go
def lX{b:Type}(l:List b)(p:b→Bool):Int:=match l.findIdx? p with | some j=>j | none=>-1
theorem Nq{b:Type}(l:List b)(p:b→Bool):decide (0≤lX l p)=l.any p:=by
 unfold lX;cases h:l.findIdx? p with
 | none=>
  rw [List.findIdx?_eq_none_iff]at h;have:l.any p=ah:=by rw [List.any_eq_false];intro x m;simp [h x m]
  simp [this]
 | some j=>
  rw [avu]at h;obtain⟨d,g,_⟩:=h;have:l.any p=ag:=by rw [List.any_eq_true];exact⟨l[j],IS d,g⟩
  simp [this]
theorem Np{b:Type}{l:List b}{p:b→Bool}{j:Nat}(d:j<l.length)(m:p l[j]=ag)(g:∀(i:Nat) (hi:i<j),p (l[i]'(by omega))=ah):lX l p=j:=by
 have:l.findIdx? p=ab j:=by
  rw [avu];exact⟨d,m,fun i hi=>by simp [g i hi]⟩
 simp [lX,this]
theorem Nr{b:Type}{l:List b}{p:b→Bool}(d:∀(i:Nat) (hi:i<l.length),p l[i]=ah):lX l p = -1:=by
 have:l.findIdx? p=ae:=by
  rw [List.findIdx?_eq_none_iff];intro x g;obtain⟨i,hi,rfl⟩:=List.getElem_of_mem g;exact d i hi
 simp [lX,this]
def ints(l:List Int):List (List FC):=l.map fun n=>[fi n]
@[simp] theorem BC (l:List Int):(ints l).length=l.length:=by simp [ints]
theorem ei(l:List Int):bO 1 (ints l):=bO.map fun _=>rfl
theorem ej{j:Nat}{l:List Int}(b:j<l.length){H:an}:aV H ae (.c (.f (.fp (ints l).flatten j)))=ab (vi l[j]):=by
 have:=agb (H:=H) (AT b);simpa [ints]using this
variable{tab:Nat→Option aB}
def afY(t:List aO):ay:=.block 1 (.seq (.region [⟨D 10,.bN (R 8),ae⟩,⟨D 5,.bN (R 10),ae⟩] []) (.seq
 (.region t []) (.cond (R 16) (.seq (.region [⟨D 17,.bN (R 5),ae⟩,⟨D 4,.bN (R 17),ae⟩] []) .ret) .skip)))
def aon(t:List aO):aB:=⟨[P.nat 0,P.nat 1],[.tmp (P.nat 4)],.seq (.region [⟨D 4,.bN (.k (.c (.f (.int .i64 0)))),ae⟩] [])
 (.seq (.seq (.region [⟨D 6,.bN (R 0),ae⟩,⟨D 7,.len (R 6),ae⟩,⟨D 8,.bN (.k (.c (.f (.int .i64 0)))),ae⟩] []) (Fz 0 8 7 9 18 (afY t)))
 (.seq (.region [⟨D 4,.bN (.k (.c (.f (.int .i64 (-1))))),ae⟩] []) .ret))⟩
def aiI(sz:Nat)(b:Option Nat):List aO:=[⟨D 11,.bN (R 1),ae⟩,⟨D 12,.bN (R 0),ae⟩,⟨D 13,.bN (R 5),ae⟩,⟨D 14,.aS sz ae (R 12) (R 13),ae⟩,⟨D 15,.load b (R 14),ae⟩,⟨D 16,.cj (R 11) [(R 15)] ag,ae⟩]
theorem aku{f:Nat}{d:List aO}(Y:tab f=ab (aon d)){x y:V}{F:Type}{l:List F}{p:F→Bool}(X:l.length≤9223372036854775807)
  (Z:∃ c,x=.c c∧∀ H,bJ H c=ab l.length)
  (g:∀(j:Nat) (v:j<l.length) (t:T) (H:an) (L:St→Prop),t.g 0=x→t.g 1=y→t.g 5=vi j →
   (∀ b J,b.g 0=x→b.g 1=y→b.g 5=vi j→b.g 7=t.g 7→b.g 8=t.g 8→b.g 16=vb (p l[j])→L ⟨b,[],H++J⟩)→vE tab d ⟨t,[],H⟩ L) :
  Kf tab f [x,y] (vi (lX l p)):=by
 obtain⟨c,rfl,U⟩:=Z;refine fL Y rfl fun H Q B=>?_;apply aq;refine au (.inl rfl) ?_;simp;apply aq;apply aq;refine au (.inl rfl) ?_;simp [U];refine fE l.length (fun j t H'=>t.g 0=.c c∧t.g 1=y∧(∃ J,H'=H++J)∧∀(i:Nat) (hi:i<l.length),i<j→p l[i]=ah) X (by decide) (by decide) (by simp) (by simp) (by simp) ?_ ?_
 ·rintro j t _ v ⟨z,A,⟨J,rfl⟩,q⟩ u E next
  refine az ?_;apply aq;refine au (.inl rfl) ?_;simp [u];apply aq;refine au (.inl rfl) ?_;refine g j v _ _ _ (by simp [z]) (by simp [A]) (by simp) fun b I K M N O S m=>?_;cases s:p l[j]with
  | true=>
   refine ak (by simp [m,s]) ?_;apply aq;refine au (.inl rfl) ?_;simp [N];refine aE (B _ _ ?_);have:=Np v s (fun i hi=>q i (by omega) hi);simp [this]
  | false=>
   refine al (by simp [m,s]) ?_;refine aH (aw (next _ _ ?_ (by simp [S,u]) (by simp [O,E])));refine⟨by simp [K],by simp [M],⟨J++I,by simp⟩,fun i hi W=>?_⟩;by_cases e:i=j
   ·subst e;exact s
   ·exact q i hi (by omega)
 ·rintro t _ ⟨z,A,⟨J,rfl⟩,q⟩ u E;apply aq;refine au (.inl rfl) ?_;simp;refine aE (B _ _ ?_);have:=Nr (l:=l) (p:=p) (fun i hi=>q i hi hi);simp [this]
theorem oB{f sz:Nat}{y:Option Nat}(F:tab f=ab (aon (aiI sz y))){q:Type}(l:List q)(enc:q→List FC)(val:q→V)(p:q→Bool)(g:Tg)(k:Nat)(b:List FC)
  (B:l.length≤9223372036854775807) (d:∀(j:Nat) (m:j<l.length) (H:an),aV H y (.c (.f (.fp (l.map enc).flatten (j*sz))))=ab (val l[j]))
  (E:∀ x ∈ l,Kf tab k (val x::b.map fun c=>.c (.f c)) (vb (p x))) :
  Kf tab f [.c (.f (sl g (l.map enc))),.c (.f (.fn k b))] (vi (lX l p)):=by
 refine aku F B ⟨_,rfl,fun H=>by simp⟩ ?_;intro j m t H L s u v z;have A:=(E l[j] (IS m)).ev H;have hi:=cE (H:=H) (g:=g) (rows:=l.map enc) (sz:=sz) (k:=.i64) (i:=(j:Int)) (by omega) (by simpa using m);simp [aiI,s,u,v,hi,d j m,A];exact z _ _ (by simp [s]) (by simp [u]) (by simp [v]) (by simp) (by simp) (by simp)
def Nb(f:Nat):aB:=⟨[P.nat 0,P.nat 1],[.tmp (P.nat 4)],.seq (.region [⟨D 4,.bN (.k (.c (.f (.bool ah)))),ae⟩] []) (.seq
 (.region [⟨D 5,.bN (R 0),ae⟩,⟨D 6,.bN (R 1),ae⟩,⟨D 7,.call f [(R 5),(R 6)] ah,ae⟩,⟨D 8,.bin .geq (R 7) (.k (.c (.f (.int .i64 0)))),ae⟩,⟨D 4,.bN (R 8),ae⟩] []) .ret)⟩
theorem ky{f k:Nat}(m:tab f=ab (Nb k)){a b:FC}{d:Type}{l:List d}{p:d→Bool}(h:Kf tab k [.c (.f a),.c (.f b)] (vi (lX l p))) :
  Kf tab f [.c (.f a),.c (.f b)] (vb (l.any p)):=by
 refine fL m rfl fun H Q g=>?_;apply aq;refine au (.inl rfl) ?_;simp;apply aq;refine au (.inl rfl) ?_;have j:=h.eq;simp [j];refine aE (g _ _ ?_);simp [Nq]
end
section
open Go
theorem ax{H:an}{b:Nat}{x:c6}(h:H[b]?=ab x):b<H.length:=(BY.1 h).1
theorem jh{q s:Type}{g:q→Option s}:∀ {xs b:List q} {ys d:List s},aZ g xs=ab ys→aZ g b=ab d→aZ g (xs++b)=ab (ys++d)
 | [],b,ys,d,h,l=>by simp [aZ]at h;subst h;simpa using l
 | x::xs,b,ys,d,h,l=>by
  simp only [aZ,List.cons_append]at h ⊢;cases m:g x with
  | none=>simp [m]at h
  | some y=>
   cases j:aZ g xs with
   | none=>simp [m,j]at h| some zs=>simp [m,j]at h;subst h;simp [jh j l]
variable{z:Bool}{H H':an}{sz bytes:Nat}{v y:V}{g:Tg}{rows:List (List FC)}{row:List FC}{cs:List C}
theorem kY{b g c:Nat}(h:H[b]?=ab (.box cs g))(d:cs.length=sz):cX H sz (.c (.sl b 0 1 c 0 sz))=ab (1,cs):=by
 simp [cX,bJ,cS,h,d];rw [←d,List.take_length]
end
section
open Go
def Cq(P:Program):List Field→Nat→Nat→Bool
 | [],o,n=>o == n| f::b,o,n=>f.offset == o&&Cq P b (o+P.cellsOf f.type) n
def fP(P:Program):Nat→TypeId→Bool
 | 0,_=>ah
 | n+1,t=>match P.underlying t with
  | some .bool=>P.cellsOf t == 1| some (.int _)=>P.cellsOf t == 1| some .string=>P.cellsOf t == 1| some (.slice e)=>P.cellsOf t == 1&&P.cellsOf e != 0&&fP P n e| some (.struct b)=>Cq P b.toList 0 (P.cellsOf t)&&b.toList.all fun f=>fP P n f.type
  | some (.array k e)=>P.cellsOf t == k*P.cellsOf e&&fP P n e| _=>ah
def w_(S:TypeId→List FC→Prop):List TypeId→List FC→Prop
 | [],xs=>xs=[]| t::ts,xs=>∃ p q,xs=p++q∧S t p∧w_ S ts q
def mH(P:Program):Nat→TypeId→List FC→Prop
 | 0,_,_=>False
 | n+1,t,xs=>match P.underlying t with
  | some .bool=>∃ b,xs=[.bool b]| some (.int k)=>∃ m,xs=[.int k m]∧(Lit.int k m).wf=ag| some .string=>∃ s,xs=[.str s]∧s.size≤maxLen| some (.slice e)=>∃ g rows,xs=[sl g rows]∧bO (P.cellsOf e) rows∧rows.length≤maxLen∧∀ r ∈ rows,mH P n e r| some (.struct d)=>w_ (mH P n) (d.toList.map (·.type)) xs| some (.array k e)=>∃ rows,xs=rows.flatten∧rows.length=k∧bO (P.cellsOf e) rows∧∀ r ∈ rows,mH P n e r| _=>False
theorem uo{l:Type}{sz:Nat}:∀ {rows:List (List l)} {j k:Nat} {row:List l},(∀ r ∈ rows,r.length=sz)→rows[j]?=ab row→k<sz→rows.flatten[j*sz+k]?=row[k]?
 | [],j,k,row,_,b,_=>by simp at b
 | r::rows,0,k,row,d,b,g=>by
  simp at b;subst b;have:=d r at2;rw [auu,AI (by omega)];simp
 | r::rows,j+1,k,row,d,b,g=>by
  have hr:=d r at2;rw [auu,at1 (by rw [hr,auD];omega)];have e:(j+1)*sz+k-r.length=j*sz+k:=by rw [hr,auD];omega
  rw [e];exact uo (rows:=rows) (fun x m=>d x (aub _ m)) (by simpa using b) g
theorem Bs{d:Type}{sz:Nat}:∀ {rows:List (List d)},(∀ r ∈ rows,r.length=sz)→rows.flatten.length=rows.length*sz
 | [],_=>by simp
 | r::rows,h=>by
  have:=Bs (rows:=rows) fun x b=>h x (aub _ b);simp only [auu,at7,aup,this,h r at2,auD,Nat.one_mul];omega
def Ek(w:World):Nat→Nat→Prop:=fun c _=>c<w.heap.size
theorem Fs{w:World}{a:Addr}{v:Value}(h:w.cell? a=ab v):a.block<w.heap.size∧a.spot=ae:=by
 unfold World.cell? at h;split at h
 ·rename_i b;split at h
  ·simp at h
  ·rename_i d;refine⟨?_,by simpa using d⟩;exact(Array.getElem?_eq_some_iff.1 b).1
 ·simp at h
theorem A2.flatten{l m:Type}{R:l→m→Prop}{g:List (List l)}{d:List (List m)}(j:g.length=d.length)
  (h:∀(i:Nat) xs ys,g[i]?=ab xs→d[i]?=ab ys→A2 R xs ys):A2 R g.flatten d.flatten:=by
 induction g generalizing d with
 | nil=>cases d with
  | nil=>exact A2.nil| cons y ys=>simp at j
 | cons x xs u=>cases d with
  | nil=>simp at j
  | cons y ys=>
   rw [auu,auu];exact(h 0 x y rfl rfl).append (u (by simpa using j) fun i a b q s=>h (i+1) a b (by simpa using q) (by simpa using s))
section
variable{H:Type}{enc:TypeId × Value→H}{P:Program}{w:World}{base:Nat}{spare:Nat→Bool}{held:Bool}{σ:Nat→FuncId}
def am9(σ:Nat→FuncId)(P:Program)(w:World)(n:Nat)(t:TypeId)(cs:List Value):Prop:=∃ xs,A2 (cN σ (Ek w) w) xs cs∧mH P n t xs
theorem sv{n:Nat}(v:∀ {t:TypeId} {fuel:Nat} {cs:List Value} {x:DataW H × List MemPlace},fP P n t=ag→DataW.trod enc P w base spare held fuel t cs=ab x→am9 σ P w n t cs∧cs.length=P.cellsOf t)
  {fuel:Nat}:∀(b:List Field) (o N:Nat) (cs:List Value),Cq P b o N=ag→(b.all fun f=>fP P n f.type)=ag→cs.length=N →
   (∀ f ∈ b,∃ x,DataW.trod enc P w base spare held fuel f.type ((cs.drop f.offset).take (P.cellsOf f.type))=ab x) →
   ∃ xs,A2 (cN σ (Ek w) w) xs (cs.drop o)∧w_ (mH P n) (b.map (·.type)) xs
 | [],o,N,cs,d,_,m,_=>by
  simp [Cq]at d;exact⟨[],by rw [List.drop_of_length_le (by omega)];exact A2.nil,rfl⟩
 | f::b,o,N,cs,d,l,m,u=>by
  simp only [Cq,If,beq_iff_eq]at d;simp only [List.all_cons,If]at l;obtain⟨x,j⟩:=u f at2;rw [d.1]at j;obtain⟨⟨p,z,B⟩,s⟩:=v l.1 j;obtain⟨q,A,sq⟩:=sv v b (o+P.cellsOf f.type) N cs d.2 l.2 m fun g y=>u g (aub _ y);refine⟨p++q,?_,p,q,rfl,B,sq⟩;have:cs.drop o=(cs.drop o).take (P.cellsOf f.type)++cs.drop (o+P.cellsOf f.type):=by
   rw [←au6,auM]
  rw [this];exact z.append A
theorem Zk(c o n k:Nat):((⟨c,o,ae⟩:Addr).add n).add k=⟨c,o+(n+k),ae⟩:=by
 unfold Addr.add;by_cases b:n=0<;>by_cases d:k=0<;>simp [b,d];omega
theorem abD{t e:TypeId}{k n:Nat}{cs:List Value}{x:DataW H × List MemPlace}(j:P.underlying t=ab (.array k e))(h:DataW.trod enc P w base spare held (n+1) t cs=ab x) :
  cs.length=P.cellsOf t∧∀ i,i<k→∃ y,DataW.trod enc P w base spare held n e ((cs.drop (i*P.cellsOf e)).take (P.cellsOf e))=ab y:=by
 unfold DataW.trod at h;rw [j]at h;simp only [Option.ite_none_right_eq_some,IN]at h;obtain⟨g,xs,d,l⟩:=h;refine⟨g,fun i hi=>?_⟩;have:=mapM_some_get d i i (by simp [hi]);have b:xs.length=k:=by simpa using mapM_some_length d
 rw [AT (by omega)]at this;exact⟨_,this⟩
theorem xe{j:Type}{sz:Nat}:∀ {k:Nat} {cs:List j},cs.length=k*sz→cs=((List.range k).map fun i=>(cs.drop (i*sz)).take sz).flatten
 | 0,cs,h=>by simp at h;simp [h]
 | k+1,cs,h=>by
  have d:(cs.take (k*sz)).length=k*sz:=by rw [List.length_take,h,auD];omega
  have g:=xe d;rw [List.range_succ,auR,List.flatten_append];have e:((List.range k).map fun i=>(cs.drop (i*sz)).take sz)=(List.range k).map fun i=>((cs.take (k*sz)).drop (i*sz)).take sz:=by
   refine List.map_congr_left fun i hi=>?_;have b:i<k:=by simpa using hi
   have:(i+1)*sz≤k*sz:=auP _ b;rw [auD]at this;rw [List.drop_take,List.take_take,Nat.min_eq_left (by omega)]
  rw [e,←g];simp only [anc,List.map_nil,auu,List.flatten_nil,auQ];have:(cs.drop (k*sz)).take sz=cs.drop (k*sz):=at6 (by rw [auK,h,auD];omega);rw [this,auM]
theorem arJ{n:Nat}:∀ {t:TypeId} {fuel:Nat} {cs:List Value} {x:DataW H × List MemPlace},fP P n t=ag→DataW.trod enc P w base spare held fuel t cs=ab x →
  am9 σ P w n t cs∧cs.length=P.cellsOf t:=by
 induction n with
 | zero=>intro t fuel cs x g;simp [fP]at g
 | succ n ih=>
  intro t fuel cs x g h;simp only [fP]at g;split at g
  ·rename_i j;obtain⟨b,rfl,_⟩:=DataW.trod_bool j h;exact⟨⟨[.bool b],.cons (.bool b) .nil,by simp only [mH,j];exact⟨b,rfl⟩⟩,by simp at g;simp [g]⟩
  ·rename_i k j;obtain⟨m,rfl,_,hw⟩:=DataW.trod_int j h;exact⟨⟨[.int k m],.cons (.int k m) .nil,by simp only [mH,j];exact⟨m,rfl,hw⟩⟩,by simp at g;simp [g]⟩
  ·rename_i j;obtain⟨s,rfl,_,hw⟩:=DataW.trod_string j h;exact⟨⟨[.str s],.cons (.str s) .nil,by simp only [mH,j];exact⟨s,rfl,hw⟩⟩,by simp at g;simp [g]⟩
  ·rename_i e j;simp only [If,beq_iff_eq,bne_iff_ne]at g;obtain⟨⟨F,d5⟩,he⟩:=g;rcases DataW.trod_slice j h with⟨rfl,_⟩ | ⟨a,len,cap,Y,rest,m,_,rfl,_,hb,I,hm,b_,a_,_,_⟩
   ·exact⟨⟨[sl .nil []],.cons .aG .nil,by simp only [mH,j];exact⟨.nil,[],rfl,fun r hr=>by simp at hr,by simp,fun r hr=>by simp at hr⟩⟩,by simpa using F.symm⟩
   ·refine⟨?_,by simpa using F.symm⟩;have z:∀ i,i<len→∃ p:List Value × List FC,w.cells? base (a.add (i*P.cellsOf e)) (P.cellsOf e)=ab p.1∧A2 (cN σ (Ek w) w) p.2 p.1∧mH P n e p.2:=by
     intro i hi;have:=a_ i hi;rw [AT (by omega)]at this;obtain⟨cs',F,O⟩:=aue.1 this;obtain⟨⟨xs,ha,g⟩,_⟩:=ih he O;exact⟨(cs',xs),F,ha,g⟩
    obtain⟨p,K⟩:=Go.Deep.choose_lt z;by_cases h0:len=0
    ·subst h0;refine⟨[sl .fs []],.cons (.fs0 a cap) .nil,?_⟩;simp only [mH,j];exact⟨.fs,[],rfl,fun r hr=>by simp at hr,by simp,fun r hr=>by simp at hr⟩
    have B:a.spot=ae:=by
     have:=K 0 (by omega);obtain⟨_,c9,a7⟩:=World.cells?_some this.1;have:=a7 0 (by omega);rw [AT (by omega)]at this;have:=(Fs this).2;simpa [Addr.add]using this
    obtain⟨c,o,sp⟩:=a;simp only at B;subst B
    let d:=(List.range len).map fun i=>(p i).1
    let rows:=(List.range len).map fun i=>(p i).2
    have X:∀ v ∈ d,v.length=P.cellsOf e:=by
     intro v X;obtain⟨i,hi,rfl⟩:=auy.1 X;exact(World.cells?_some (K i (by simpa using hi)).1).2.1
    have hg:bO (P.cellsOf e) rows:=by
     intro r hr;obtain⟨i,hi,rfl⟩:=auy.1 hr;obtain⟨F,O,_⟩:=K i (by simpa using hi);rw [O.len,(World.cells?_some F).2.1]
    have Z:A2 (cN σ (Ek w) w) rows.flatten d.flatten:=by
     refine A2.flatten (by simp [rows,d]) fun i xs ys E J=>?_;simp only [rows,d,auN,IN]at E J;obtain⟨i1,M,rfl⟩:=E;obtain⟨i2,N,rfl⟩:=J;rw [M]at N;cases N;have:=atZ M;exact(K i1 (by simpa using this)).2.1
    have A:∀ i u,d.flatten[i]?=ab u→w.cell? ⟨c,o+i,ae⟩=ab u:=by
     intro i u W;have hi:i<d.flatten.length:=(BY.1 W).1;rw [Bs X]at hi;have b9:d.length=len:=by simp [d]
     rw [b9]at hi;have L:i / P.cellsOf e<len:=Nat.div_lt_of_lt_mul (by rw [Nat.mul_comm];exact hi);have hk:i % P.cellsOf e<P.cellsOf e:=Nat.mod_lt _ (by omega);have l:i=i / P.cellsOf e*P.cellsOf e+i % P.cellsOf e:=by rw [Nat.mul_comm];exact(Nat.div_add_mod _ _).symm
     have U:d[i / P.cellsOf e]?=ab (p (i / P.cellsOf e)).1:=by simp [d,L]
     rw [l,uo X U hk]at W;obtain⟨_,_,hc⟩:=World.cells?_some (K _ L).1;have:=hc _ hk;rw [W]at this;rw [←this,Zk,←l]
    refine⟨[sl .fs rows],.cons ?_ .nil,?_⟩
    ·have b7:rows≠[]:=by simp [rows];omega
     have S:rows.length=len:=by simp [rows]
     have:sl Tg.fs rows=.fs rows.flatten len:=by
      cases hr:rows with
      | nil=>exact absurd hr b7| cons r rs=>simp only [sl,avt,atY,if_false];rw [←hr,S]
     rw [this];refine .fs rows.flatten len c o cap d.flatten I Z.len.symm (fun i hi=>?_) A fun i x u E W=>Z.2 i x u E W;have l:i<d.flatten.length:=by rw [←Z.len];exact hi
     exact(Fs (A i _ (AT l))).1
    ·simp only [mH,j];have S:rows.length=len:=by simp [rows]
     refine⟨.fs,rows,rfl,hg,by omega,fun r hr=>?_⟩;obtain⟨i,hi,rfl⟩:=auy.1 hr;exact(K i (by simpa using hi)).2.2
  ·rename_i fs j;simp only [If]at g;obtain⟨xs,m,_,_,I,_,E⟩:=DataW.trod_struct j h;refine⟨?_,I⟩;obtain⟨ys,F,O⟩:=sv (n:=n) (fuel:=m) ih fs.toList 0 _ cs g.1 g.2 I fun f hf=>by
    obtain⟨i,hi⟩:=auH hf;rw [Array.getElem?_toList]at hi;have:=E i f hi;rw [this];have c_:i<fs.size:=(Array.getElem?_eq_some_iff.1 hi).1;exact⟨_,AT (by omega)⟩
   exact⟨ys,by simpa using F,by simp only [mH,j];exact O⟩
  ·rename_i k e j;simp only [If,beq_iff_eq]at g;obtain⟨Q,he⟩:=g;cases fuel with
   | zero=>simp [DataW.trod]at h
   | succ m=>
   obtain⟨I,E⟩:=abD j h;refine⟨?_,I⟩;have z:∀ i,i<k→∃ q:List FC,A2 (cN σ (Ek w) w) q ((cs.drop (i*P.cellsOf e)).take (P.cellsOf e))∧mH P n e q:=by
    intro i hi;obtain⟨y,J⟩:=E i hi;obtain⟨⟨q,a,b⟩,_⟩:=ih he J;exact⟨q,a,b⟩
   obtain⟨q,L⟩:=Go.Deep.choose_lt z
   let rows:=(List.range k).map q
   have a9:cs=((List.range k).map fun i=>(cs.drop (i*P.cellsOf e)).take (P.cellsOf e)).flatten:=xe (by rw [I,Q]);refine⟨rows.flatten,?_,?_⟩
   ·rw [a9];refine A2.flatten (by simp [rows]) fun i xs ys E J=>?_;simp only [rows,auN,IN]at E J;obtain⟨i1,M,rfl⟩:=E;obtain⟨i2,N,rfl⟩:=J;rw [M]at N;cases N;have:=atZ M;exact(L i1 (by simpa using this)).1
   ·simp only [mH,j];refine⟨rows,rfl,by simp [rows],fun r hr=>?_,fun r hr=>?_⟩
    ·obtain⟨i,hi,rfl⟩:=auy.1 hr;have l:i<k:=by simpa using hi
     rw [(L i l).1.len,List.length_take,auK,I,Q];have:(i+1)*P.cellsOf e≤k*P.cellsOf e:=auP _ l;rw [auD]at this;omega
    ·obtain⟨i,hi,rfl⟩:=auy.1 hr;exact(L i (by simpa using hi)).2
  ·simp at g
end
section
variable{P:Program}{n:Nat}{t e:TypeId}{xs:List FC}
theorem abm(d:P.underlying t=ab .bool)(h:mH P (n+1) t xs):∃ b,xs=[.bool b]:=by simpa only [mH,d]using h
theorem fq{k:IntKind}(b:P.underlying t=ab (.int k))(h:mH P (n+1) t xs):∃ m,xs=[.int k m]∧(Lit.int k m).wf=ag:=by simpa only [mH,b]using h
theorem r_(b:P.underlying t=ab (.slice e))(h:mH P (n+1) t xs):∃ g rows,xs=[sl g rows]∧bO (P.cellsOf e) rows∧rows.length≤maxLen∧∀ r ∈ rows,mH P n e r:=by simpa only [mH,b]using h
theorem pC{d:Array Field}{ts:List TypeId}(g:P.underlying t=ab (.struct d))(b:d.toList.map (·.type)=ts)(h:mH P (n+1) t xs):w_ (mH P n) ts xs:=by
 subst b;simpa only [mH,g]using h
theorem tu{k:Nat}(b:P.underlying t=ab (.array k e))(h:mH P (n+1) t xs):∃ rows,xs=rows.flatten∧rows.length=k∧bO (P.cellsOf e) rows∧∀ r ∈ rows,mH P n e r:=by simpa only [mH,b]using h
theorem di{S:TypeId→List FC→Prop}{ts:List TypeId}(h:w_ S (t::ts) xs):∃ p q,xs=p++q∧S t p∧w_ S ts q:=h
theorem mB{d:Type}{enc:d→List FC}{p:d→Prop}:∀ {rows:List (List FC)},(∀ r ∈ rows,∃ x,r=enc x∧p x)→∃ l:List d,rows=l.map enc∧∀ x ∈ l,p x
 | [],_=>⟨[],rfl,by simp⟩
 | r::rows,h=>by
  obtain⟨x,rfl,j⟩:=h r at2;obtain⟨l,rfl,g⟩:=mB fun r hr=>h r (aub _ hr);exact⟨x::l,rfl,fun y b=>by
   rcases aui.1 b with rfl | b
   ·exact j
   ·exact g y b⟩
end
end
section
open Go Go.ChangeShapes Go.WideShapes Go.ChangeAt Go.RowKit
def qV(P:Program)(t:TypeId)(a:V):Prop:=(∃ xs,a=.a (xs.map .f)∧mH P 40 t xs∧(∃ d,P.underlying t=ab d∧((∃ b,d=.struct b)∨∃ n e,d=.array n e))) ∨
 (∃ x,a=.c (.f x)∧mH P 40 t [x])
def sZ(P:Program):List TypeId→List V→Prop
 | [],as=>as=[]| t::ts,as=>∃ a b,as=a::b∧qV P t a∧sZ P ts b
section
variable{H:Type}{enc:TypeId × Value→H}{P:Program}{W W':World}
theorem vU{f:Func}{s:ChangeSpec}{g B l A:Bool}{args:Array Value}{v:Value}{ds F:List (DataW H)}{d pa pv:List MemPlace}
  (K:DataW.Whole enc P f.params.toList s.vars g W args.toList ds F d)
  (z:∀(b:Nat) (E:Nat→Bool) (O:Bool),DataW.TrodAll enc P W' b E O f.resultTypes.toList (v.resultList f.resultTypes.size) (s.fn H (ds++F)).results [])
  (m:∀ E:Nat→Bool,(∀ p ∈ d,E p.block=ag)→DataW.TrodAll enc P W' 0 E ag f.params.toList args.toList (s.fn H (ds++F)).args pa)
  (u:∀ E:Nat→Bool,(∀ p ∈ d,E p.block=ag)→DataW.TrodVars enc P W' E s.vars (s.fn H (ds++F)).vars pv)
  (x:d=pa++pv) (M:Below W.heap.size W W')
  (L:∀(j:Nat) (t:TypeId) (r:Value),f.resultTypes[j]?=ab t→(v.resultList f.resultTypes.size)[j]?=ab r→Value.okWide P W' .any 0 t r) :
  s.post enc P f g B l A W args v W':=by
 have I:∀ p ∈ d,p.block<W.heap.size:=fun p q=>K.lt p q;have y:∀ p ∈ d,(fun b=>decide (b<W.heap.size)) p.block=ag:=fun p q=>by simpa using I p q
 refine⟨ds,F,d,[],pa,pv,K,z _ _ _,m _ y,u _ y,World.keptBut_mono (fun p q=>⟨q,?_⟩) (M.frame (· ∈ d)),fun _=>?_⟩
 ·rw [x,List.mem_append]at q;exact Or.inr q
 ·obtain⟨_,_,_,_,_,S,Q⟩:=K;refine⟨L,_,_,([]++pa)++pv,⟨[]++pa,pv,trodAll_append (m _ (fun _ _=>rfl)) (z _ _ _),u _ (fun _ _=>rfl),rfl,?_,?_⟩,?_⟩
  ·intro b off q;have J:MemPlace.cell b off ∈ d:=by rw [x];simpa using q
   rw [M.frozen (p:=⟨b,off,ae⟩) (I _ J)];exact S b off J
  ·intro N;have:=Q N;rw [x]at this;simpa using this
  ·intro p q _;rw [x];simpa using q
theorem o6(m:laidOutB P=ag){u:Nat→Bool}(l:Below W.heap.size W W'):∀ {ts:List TypeId} {j:List Value} {ds:List (DataW H)} {ps:List MemPlace},
  (ts.all fun t=>P.readableRec t&&decide (t<P.types.size))=ag→DataW.TrodAll enc P W 0 (fun _=>ag) ag ts j ds ps→(∀ p ∈ ps,p.block<W.heap.size)→(∀ p ∈ ps,u p.block=ag) →
  DataW.TrodAll enc P W' 0 u ag ts j ds ps
 | [],[],[],ps,_,h,_,_=>h
 | t::ts,v::j,d::ds,ps,hr,⟨p,q,y,z,e⟩,g,s=>by
  subst e;simp only [List.all_cons,If,decide_eq_true_eq]at hr;exact⟨p,q,WideElems.Trod_stays m hr.1.1 hr.1.2 y (fun x b=>l.same (g x (avd _ b))) (fun x b=>s x (avd _ b)),
   o6 m l hr.2 z (fun x b=>g x (List.mem_append_right _ b)) (fun x b=>s x (List.mem_append_right _ b)),rfl⟩
 | [],_::_,_,_,_,h,_,_=>by cases h
 | [],[],_::_,_,_,h,_,_=>by cases h
 | _::_,[],_,_,_,h,_,_=>by cases h
 | _::_,_::_,[],_,_,h,_,_=>by cases h
variable{σ:Nat→FuncId}
def X0(W:World):Wd:=⟨fun _=>ae,Ek W,[],W,W.heap.size⟩
theorem abF{xs:List FC}{cs:Array Value}(h:A2 (cN σ (Ek W) W) xs cs.toList):VR σ (X0 W) (.a (xs.map .f)) (.agg cs):=
 ⟨cs.toList,by simp,A2.map (g:=C.f) (h.lR fun _ _ h=>h)⟩
theorem Zr{t:TypeId}{v:Value}{d:DataW H}{ps:List MemPlace}{base:Nat}{spare:Nat→Bool}{held:Bool}{b0:Nat}(s:fP P 40 t=ag)(g:Value.okWide P W .any b0 t v)
  (E:DataW.Trod enc P W base spare held t v d ps):∃ a,VR σ (X0 W) a v∧qV P t a:=by
 obtain⟨fuel,q⟩:=E;obtain⟨⟨xs,m,u⟩,I⟩:=arJ (σ:=σ) s q;have l:v.cells.toList=[v]→∃ a,VR σ (X0 W) a v∧qV P t a:=by
  intro F;rw [F]at m
  match xs,m.len with
  | [x],_=>exact⟨.c (.f x),m.of_cons.1,.inr ⟨x,rfl,u⟩⟩
 unfold fP at s;unfold Value.okWide at g;split at g
 ·rename_i y j;obtain⟨cs,rfl,_,_⟩:=g;exact⟨_,abF m,.inl ⟨xs,rfl,u,_,j,.inl ⟨_,rfl⟩⟩⟩
 ·rename_i n e j;obtain⟨cs,rfl,_,_⟩:=g;exact⟨_,abF m,.inl ⟨xs,rfl,u,_,j,.inr ⟨_,_,rfl⟩⟩⟩
 ·rename_i A B;refine l ?_;split at s
  ·rename_i j;obtain⟨b,z,_⟩:=DataW.trod_bool j q;simp only [Cell.okWide,j,Cell.ok]at g;cases v<;>simp_all [Value.cells]
  ·rename_i j;obtain⟨b,z,_⟩:=DataW.trod_int j q;simp only [Cell.okWide,j,Cell.ok]at g;cases v<;>simp_all [Value.cells]
  ·rename_i j;obtain⟨b,z,_⟩:=DataW.trod_string j q;simp only [Cell.okWide,j,Cell.ok]at g;cases v<;>simp_all [Value.cells]
  ·rename_i j;simp only [Cell.okWide,j,Cell.ok]at g;cases v<;>simp_all [Value.cells]
  ·rename_i y j;exact absurd j (A y)
  ·rename_i n e j;exact absurd j (B n e)
  ·simp at s
theorem xa{base:Nat}{spare:Nat→Bool}{held:Bool}{b0:Nat}:∀ {ts:List TypeId} {g:List Value} {ds:List (DataW H)} {ps:List MemPlace},(ts.all fun t=>fP P 40 t)=ag →
  (∀(j:Nat) t v,ts[j]?=ab t→g[j]?=ab v→Value.okWide P W .any b0 t v)→DataW.TrodAll enc P W base spare held ts g ds ps →
  ∃ as,A2 (VR σ (X0 W)) as g∧sZ P ts as
 | [],[],[],_,_,_,_=>⟨[],A2.nil,rfl⟩
 | t::ts,v::g,d::ds,ps,l,b,⟨p,q,u,x,_⟩=>by
  simp only [List.all_cons,If]at l;obtain⟨a,y,A⟩:=Zr (σ:=σ) l.1 (b 0 t v rfl rfl) u;obtain⟨m,z,B⟩:=xa l.2 (fun j t v h s=>b (j+1) t v (by simpa using h) (by simpa using s)) x;exact⟨a::m,.cons y z,a,m,rfl,A,B⟩
 | [],_::_,_,_,_,_,h=>by cases h
 | [],[],_::_,_,_,_,h=>by cases h
 | _::_,[],_,_,_,_,h=>by cases h
 | _::_,_::_,[],_,_,_,h=>by cases h
theorem afJ{n:Nat}{H:an}{v:V}{b:Bool}(h:fZ (n+1) H v=ab (.c (.f (.bool b)))):v=.c (.f (.bool b)):=by
 cases v with
 | top=>simp [fZ,bX]at h| a xs=>simp [fZ,bX]at h| t xs=>simp [fZ]at h
 | c x=>
  simp only [fZ,bX,IN]at h;obtain⟨y,d,h⟩:=h;cases h;cases x with
  | f x=>simpa [db]using d| ptr b o e=>simp only [db]at d;split at d<;>simp at d
  | sl b o l c e s=>
   simp only [db]at d;split at d
   ·split at d<;>simp at d
   ·split at d<;>simp at d
   ·split at d<;>simp at d
   ·split at d<;>simp at d
   ·simp at d
  | cl f g=>simp [db]at d| _=>simp [db]at d
variable{tab:Nat→Option aB}
theorem Ez(s:Env P σ tab jY){f:Nat}{args:List V}{us:List Value}(h:bB tab f args (vb ag))(W:World)(x:A2 (VR σ (X0 W)) args us) :
  Calls P (σ f) us.toArray W fun e w'=>e=.returned (.bool ag)∧Below W.heap.size W w':=by
 obtain⟨r,H',⟨m,d,h⟩,hr⟩:=h;have hr:=afJ (n:=63) hr;subst hr;intro cs
 let X:=X0 W
 have v:SR P σ X:=⟨fun b L h=>by simp [X,X0]at h,fun b J L I h=>by simp [X,X0]at h,fun c i h=>h⟩
 obtain⟨fr,X',u,l,⟨A,B,E,j,fn,F,H⟩,K,M,q,g,N⟩:=(ZJ s m d).fn f args [] _ H' h X us .normal cs rfl v (aft _) x (.inl rfl);have z:=VR.bool q;subst z;exact⟨.returned (.bool ag),X'.w,fr,⟨rfl,⟨g.os,g.tape,g.output,g.size,fun k y=>g.frame k y (fun b L h=>by simp [X,X0]at h)⟩⟩,l,j,A,B,E,fn,by rw [j];exact F,H⟩
theorem aaa(hE:Env P σ tab jY){s:ChangeSpec}{f:Func}{fi:Nat}{tb:TypeId}(x:s.vars=[])(B:laidOutB P=ag){ts:List TypeId}(F:f.params.toList=ts)
  (O:∀ ds:List (DataW H),ds.length=ts.length→s.fn H ds=⟨[.lit (.bool ag)],ds,[]⟩)
  (y:f.resultTypes=#[tb]) (K:P.underlying tb=ab .bool) (E:(ts.all fun t=>P.readableRec t&&decide (t<P.types.size))=ag) (u:(ts.all fun t=>fP P 40 t)=ag)
  (Q:∀ as,sZ P ts as→bB tab fi as (vb ag)) {g A l z:Bool} {base:Nat} {args:Array Value} {ds gs:List (DataW H)} {d:List MemPlace}
  (L:∀(j:Nat) t v,f.params[j]?=ab t→args[j]?=ab v→Value.okWide P W .any base t v) (X:DataW.Whole enc P f.params.toList s.vars g W args.toList ds gs d) :
  Calls P (σ fi) args W fun e W'=>∃ v,e=.returned v∧s.post enc P f g A l z W args v W':=by
 have I:=X;obtain⟨p,q,N,U,Y,a7,a9⟩:=X;rw [F]at N;rw [x]at U;obtain⟨rfl,rfl⟩:=trodVars_none U;simp only [auQ]at Y;subst Y;obtain⟨as,h1,h2⟩:=xa (σ:=σ) (b0:=base) u (fun j t v h h'=>L j t v (by rw [←Array.getElem?_toList,F];exact h) (by rw [←Array.getElem?_toList];exact h')) N;have J:ds.length=ts.length:=by
  have:∀ {ts:List TypeId} {M:List Value} {ds:List (DataW H)} {ps:List MemPlace},DataW.TrodAll enc P W 0 (fun _=>ag) ag ts M ds ps→ds.length=ts.length:=by
   intro ts;induction ts with
   | nil=>intro M ds ps h;cases M<;>cases ds<;>first | rfl | cases h
   | cons t ts ih=>intro M ds ps h;cases M<;>cases ds<;>first | (obtain⟨_,_,_,h,_⟩:=h;simp [ih h]) | cases h
  exact this N
 have m:=O ds J;have Z:=Ez hE (Q as h2) W h1;rw [Array.toArray_toList]at Z;refine Z.mono fun e W' h=>?_;obtain⟨he,hg⟩:=h;subst he;refine⟨_,rfl,vU (pa:=d) (pv:=[]) I (fun b sp hd=>?_) (fun sp S=>?_) (fun sp _=>?_) (by simp) hg ?_⟩
 ·rw [auQ,m,y];exact trodAll_mk1 (shut_bool K _)
 ·rw [auQ,m,F];exact o6 B hg E N (fun p hp=>I.lt p hp) S
 ·rw [auQ,m,x];exact rfl
 ·exact ok_one y rfl (okWide_bool_mk K _)
end
end
section
open Go
section
variable{tab:Nat→Option aB}{f:Nat}{args:List V}{r:V}{fn:Nat}{k:List cG}{t:T}{ds:List dH}{H H':an}{Q:Option ay→St→Prop}
theorem xy{x:Arg}{ps:List P}{as bd:ay}{g:Nat}{s:List V}(A:ca (x.ev t) [.c (.yl (H.length+1))]=ab (.fn g,s))
  (l:Ev tab (.fn g) s (H++[.kM ag,.lp fn t ps as bd .ready ae H.length]) r H')
  (h:WP tab fn ae (.jv (H.length+1)::k) ⟨t,.qb H.length::ds,H'⟩ Q):WP tab fn ae (.code (.kR x ps as bd)::k) ⟨t,ds,H⟩ Q:=by
 obtain⟨m,d,l⟩:=l;obtain⟨n,q,b,j,s',y,z⟩:=h;refine⟨n+1,max m q,max d b,j,s',?_,z⟩;have u:=kv (tab:=tab) (auh m q) (auh d b) _ _ _ _ l;have v:=u9 (aud m q) (aud d b) (aft n) y;simp only [run,A,u,v];simp
theorem Z_{ro:Option Nat}{b j d:Nat}{l:T}{ps:List P}{as bd:ay}{st:gm}(q:H[b]?=ab (.lp j l ps as bd st ae d))(g:st≠.busy)
  (h:WP tab fn ro k ⟨t,ds,H.set b (.lp j l ps as bd .exhausted ae d)⟩ Q):WP tab fn ro (.jv b::k) ⟨t,ds,H⟩ Q:=by
 refine mN h fun m d n=>?_;simp only [run,q,aY g]
theorem y9{ro:Option Nat}{b j d:Nat}{l:T}{ps:List P}{as bd:ay}{st:gm}(q:H[b]?=ab (.lp j l ps as bd st (ab .ret) d))(g:st≠.busy)
  (h:WP tab fn ro (.code .ret::k) ⟨t,ds,H.set b (.lp j l ps as bd .exhausted (ab .ret) d)⟩ Q):WP tab fn ro (.jv b::k) ⟨t,ds,H⟩ Q:=by
 refine mN h fun m d n=>?_;simp only [run,q,aY g]
theorem af8{b g d:Nat}{l:T}{ps:List P}{as bd:ay}{j:Option ay}(q:H[b]?=ab (.lp g l ps as bd .ready j d))
  (h:WP tab fn (ab b) k ⟨t,ds,H.set b (.lp g l ps as bd .busy j d)⟩ Q):WP tab fn (ab b) (.ns::k) ⟨t,ds,H⟩ Q:=by
 refine mN h fun m d n=>?_;simp only [run,q]
@[simp] theorem amN {b:Nat} {as:List V}:ca (.c (.yl b)) as=ab (.yield b,as):=rfl
def am8(b:Nat)(r:V)(H':an)(j:Option ay)(s:St):Prop:=s.defs=[]∧∃ g l ps as bd st m d,s.heap[b]?=ab (.lp g l ps as bd st m d)∧r=.c (.f (.bool j.isNone)) ∧
 H'=s.heap.set b (.lp g l ps as bd (if j.isNone then .ready else .done) j d)
theorem ZX{b l d:Nat}{q:T}{ps:List P}{as bd:ay}{st:gm}{F:Option ay}(A:H[b]?=ab (.lp l q ps as bd st F d))(E:args.length=ps.length)
  (h:WP tab l (ab b) [.code as,.ns,.code bd] ⟨cM ps args q,[],H⟩ (am8 b r H')):Ev tab (.yield b) args H r H':=by
 obtain⟨n,m,g,j,s,y,B,N,L,J,v,x,K,I,M,z,rfl,rfl⟩:=h;refine⟨max m n,g+1,?_⟩;have u:run (CF tab (max m n) g) l (max m n) (ab b) [.code as,.ns,.code bd] ⟨cM ps args q,[],H⟩=ab (j,s):=u9 (auh m n) (aft g) (aud m n) y;simp only [CF]at u ⊢;simp only [ef,A,E,if_true,u,B,List.isEmpty_nil,z];rfl
theorem Bq{C:V→an→Prop}{b F d:Nat}{I:T}{ps:List P}{as bd:ay}{st:gm}{N:Option ay}(L:H[b]?=ab (.lp F I ps as bd st N d))(M:args.length=ps.length)
  (h:∀ Q:Option ay→St→Prop,(∀ j s z u q g l x v y,s.defs=[]→s.heap[b]?=ab (.lp z u q g l x v y) →
   C (.c (.f (.bool j.isNone))) (s.heap.set b (.lp z u q g l (if j.isNone then .ready else .done) j y))→Q j s)→WP tab F (ab b) [.code as,.ns,.code bd] ⟨cM ps args I,[],H⟩ Q):∃ r H',Ev tab (.yield b) args H r H'∧C r H':=by
 have K:=h (fun j s=>∃ r H',C r H'∧am8 b r H' j s) fun j s z u q g l x v y A B E=>⟨_,_,E,A,z,u,q,g,l,x,v,y,B,rfl,rfl⟩
 obtain⟨n,m,J,j,s,A,r,H',B,E⟩:=K;exact⟨r,H',ZX L M ⟨n,m,J,j,s,A,E⟩,B⟩
def ai8(d:List jr)(r:V)(s:St):Prop:=∃ b,s.defs=[.qb b]∧s.heap[b]?=ab (.kM ag)∧∃ r0,results s.aA (s.heap.set b (.kM ah)) d=ab r0∧fZ deep (s.heap.set b (.kM ah)) r0=ab r
theorem aa3{S:V→Prop}{ps:List P}{g:List jr}{body:ay}(y:tab f=ab ⟨ps,g,body⟩)(x:args.length=ps.length)
  (h:∀ Q:Option ay→St→Prop,(∀ j s r,S r→mW g r s∨ai8 g r s→Q j s)→WP tab f ae [.code body] ⟨cM ps args .e,[],[]⟩ Q):∃ r,S r∧bB tab f args r:=by
 have z:=h (fun _ s=>∃ r,S r∧(mW g r s∨ai8 g r s)) fun _ _ r q l=>⟨r,q,l⟩
 obtain⟨n,m,d,j,s,q,r,hr,⟨v,r0,l,u⟩ | ⟨b,v,A,r0,l,u⟩⟩:=z
 ·exact⟨r,hr,r0,s.heap,xh y x ⟨n,m,d,j,s,q,0,0,s.heap,by rw [v];rfl,l,rfl⟩,u⟩
 ·exact⟨r,hr,r0,s.heap.set b (.kM ah),xh y x ⟨n,m,d,j,s,q,0,0,_,by rw [v];simp only [dV,A],l,rfl⟩,u⟩
theorem dt{C:V→an→Prop}{ps:List P}{b:List jr}{body:ay}(y:tab f=ab ⟨ps,b,body⟩)(x:args.length=ps.length)
  (h:∀ Q:Option ay→St→Prop,(∀ j s r,s.defs=[]→results s.aA s.heap b=ab r→C r s.heap→Q j s)→WP tab f ae [.code body] ⟨cM ps args .e,[],H⟩ Q):∃ r H',Ev tab (.fn f) args H r H'∧C r H':=by
 have u:=h (fun _ s=>s.defs=[]∧∃ r,results s.aA s.heap b=ab r∧C r s.heap) fun _ _ r g l q=>⟨g,r,l,q⟩
 obtain⟨n,m,d,j,s,g,v,r,l,q⟩:=u;exact⟨r,s.heap,xh y x ⟨n,m,d,j,s,g,0,0,s.heap,by rw [v];rfl,l,rfl⟩,q⟩
end
end
section
open Go
theorem sL{c:cO}:∀(a b:List aO) (s:St),fv c (a++b) s=(fv c a s).bind (fv c b)
 | [],b,s=>rfl
 | o::a,b,s=>by
  simp only [List.cons_append,fv];cases fA c s o with
  | none=>rfl| some s'=>exact sL a b s'
theorem vq{c:cO}:∀(os:List aO) (s:St) {s':St},fv c os s=ab s'→∃ b,dG c os s=ab b∧b.getLast?=ab s'∧∀ i,i≤os.length→fv c (os.take i) s=b[i]?
 | [],s,s',h=>by
  simp only [fv,sh]at h;subst h;refine⟨[s],rfl,rfl,fun i hi=>?_⟩;have:i=0:=by simpa using hi
  subst this;rfl
 | o::os,s,s',h=>by
  simp only [fv]at h;cases d:fA c s o with
  | none=>simp [d]at h
  | some m=>
   simp only [d]at h;obtain⟨b,g,j,l⟩:=vq os m h;refine⟨s::b,by simp only [dG,d,g],by rw [List.getLast?_cons,j];rfl,fun i hi=>?_⟩;cases i with
   | zero=>rfl
   | succ i=>
    simp only [List.take_succ_cons,fv,d,List.getElem?_cons_succ];exact l i (by simpa using hi)
def oW(o:aO)(b l:St):Prop:=wanted b.aA o.g=ab ah∨∃ v g d j,bu b.aA b.heap o.op=ab (v,g)∧bu b.aA l.heap o.op=ab (d,j)∧v.beq d=ag
section
variable{tab:Nat→Option aB}{fn:Nat}{ro:Option Nat}{k:List cG}{s:St}{Q:Option ay→St→Prop}
def aiE(tab:Nat→Option aB)(ops:List aO)(s:St)(c:Nat × Nat):Prop:=c.2≤ops.length∧∃ o,ops[c.1]?=ab o ∧
 ((c.1≤c.2∧vE tab (ops.take c.1) s fun b=>vE tab ((ops.drop c.1).take (c.2-c.1)) b fun d=>oW o b d) ∨
 (c.2≤c.1∧vE tab (ops.take c.2) s fun d=>vE tab ((ops.drop c.2).take (c.1-c.2)) d fun b=>oW o b d))
theorem abh{ops:List aO}{c:Nat × Nat}(h:aiE tab ops s c):∃ m d o g j,c.2≤ops.length∧ops[c.1]?=ab o∧fv (CF tab m d) (ops.take c.1) s=ab g∧fv (CF tab m d) (ops.take c.2) s=ab j∧oW o g j:=by
 have y:∀(a b:Nat) (K:St→St→Prop),a≤b→vE tab (ops.take a) s (fun l=>vE tab ((ops.drop a).take (b-a)) l fun q=>K l q) →
   ∃ m d l q,fv (CF tab m d) (ops.take a) s=ab l∧fv (CF tab m d) (ops.take b) s=ab q∧K l q:=by
  intro a b K M h;obtain⟨m,d,l,u,v⟩:=jN _ _ h;obtain⟨E,z,q,x,L⟩:=jN _ _ v;have F:=dz (kv (tab:=tab) (auh m E) (auh d z)) _ _ u;have J:=dz (kv (tab:=tab) (aud m E) (aud d z)) _ _ x;refine⟨max m E,max d z,l,q,F,?_,L⟩;have:ops.take b=ops.take a++(ops.drop a).take (b-a):=by
   have N:b=a+(b-a):=by omega
   conv=>lhs;rw [N,List.take_add]
  rw [this,sL,F];exact J
 obtain⟨H,o,I,⟨A,h⟩ | ⟨B,h⟩⟩:=h
 ·obtain⟨m,d,g,j,u,v,x⟩:=y _ _ (fun g j=>oW o g j) A h;exact⟨m,d,o,g,j,H,I,u,v,x⟩
 ·obtain⟨m,d,j,g,u,v,x⟩:=y _ _ (fun j g=>oW o g j) B h;exact⟨m,d,o,g,j,H,I,v,u,x⟩
theorem md{ops:List aO}{b:List (Nat × Nat)}(hr:ro=ae∨ops.all (·.op.ec)=ag)(h:vE tab ops s fun s'=>WP tab fn ro k s' Q)(hk:∀ c ∈ b,aiE tab ops s c) :
  WP tab fn ro (.code (.region ops b)::k) s Q:=by
 obtain⟨m,d,s',h1,n,m',Z,j,s2,h2,h3⟩:=jN ops s h;have g:∃ M D,∀ c ∈ b,∃ o u y,c.2≤ops.length∧ops[c.1]?=ab o∧fv (CF tab M D) (ops.take c.1) s=ab u∧fv (CF tab M D) (ops.take c.2) s=ab y∧oW o u y:=by
  clear h1 h2 h;induction b with
  | nil=>exact⟨0,0,fun c E=>by cases E⟩
  | cons c cs S=>
   obtain⟨M,D,S⟩:=S fun c E=>hk c (aub _ E);obtain⟨U,F,o,u,y,a1,z,A,a4,B⟩:=abh (hk c at2);refine⟨max M U,max D F,fun c' q=>?_⟩;rcases aui.1 q with rfl | q
   ·have l:=kv (tab:=tab) (aud M U) (aud D F);exact⟨o,u,y,a1,z,dz l _ _ A,dz l _ _ a4,B⟩
   ·obtain⟨o,u,y,a1,z,A,a4,B⟩:=S c' q;have l:=kv (tab:=tab) (auh M U) (auh D F);exact⟨o,u,y,a1,z,dz l _ _ A,dz l _ _ a4,B⟩
 obtain⟨M,D,g⟩:=g;obtain⟨X,K,L,N⟩:∃ x,m≤x∧m'≤x∧M≤x:=⟨max (max m m') M,by omega,by omega,by omega⟩
 obtain⟨W,H,I,J⟩:∃ x,d≤x∧Z≤x∧D≤x:=⟨max (max d Z) D,by omega,by omega,by omega⟩
 refine⟨n+1,X,W,j,s2,?_,h3⟩;have e1:=dz (kv (tab:=tab) K H) ops _ h1;have e2:=u9 L I (aft n) h2;have O:(ro.isSome&&!ops.all (·.op.ec))=ah:=by
  rcases hr with rfl | hr
  ·rfl
  ·rw [hr];simp
 obtain⟨ss,f1,f2,f3⟩:=vq ops s e1;have hx:fQ (CF tab X W) ops b s=ab s':=by
  cases b with
  | nil=>simpa only [fQ]using e1
  | cons x xs=>
   simp only [fQ,f1];rw [bg,f2];rw [List.all_eq_true];intro c E;obtain⟨o,u,y,a1,z,A,a4,B⟩:=g c E;have l:=kv (tab:=tab) N J;have hi:c.1≤ops.length:=by
    have:=(BY.1 z).1;omega
   have Y:=dz l _ _ A;have b4:=dz l _ _ a4;rw [f3 _ hi]at Y;rw [f3 _ a1]at b4;simp only [sameAt,z,Y,b4];rcases B with hw | ⟨v,H1,v',H2,g1,g2,g3⟩
   ·rw [hw]
   ·split
    ·rfl
    ·simp only [g1,g2,g3]
 simp only [run,O,hx,e2];simp
end
end
section
open Go
theorem xv(l:List Int):(ints l).flatten=l.map fi:=by
 induction l with
 | nil=>rfl| cons m l b=>simp only [ints,anc,auu]at b ⊢;rw [b];rfl
theorem oz{n:Nat}:∀(l:List C) (H:an),(∀ x ∈ l,∃ y,x=.f y)→l.foldl (fun H x=>iG n x H) H=H
 | [],_,_=>rfl
 | x::l,H,h=>by
  obtain⟨y,rfl⟩:=h x at2;simp only [auV,FU];exact oz l H fun x b=>h x (aub _ b)
end
section
open Go
def RB(H:an)(b sz ep:Nat)(rows:List (List FC)):Prop:=H[b]?=ab (.bR sz (rows.flatten.map .f) 0 ep .loc)
def Fm(b:Nat)(H H':an):Prop:=H.length≤H'.length∧∀ d:Nat,d≠b→d<H.length→H'[d]?=H[d]?
theorem Fm.refl{b:Nat}(H:an):Fm b H H:=⟨aft _,fun _ _ _=>rfl⟩
theorem Fm.trans{b:Nat}{H H' d:an}(h:Fm b H H')(j:Fm b H' d):Fm b H d:=
 ⟨aua h.1 j.1,fun g e l=>(j.2 g e (auI l h.1)).trans (h.2 g e l)⟩
theorem Fm.push{b:Nat}(H J:an):Fm b H (H++J):=⟨by simp,fun d _ l=>AI l⟩
theorem Fm.set{b:Nat}(H:an)(x:c6):Fm b H (H.set b x):=⟨by simp,fun d e _=>By (Ne.symm e)⟩
theorem Fm.get{b:Nat}{H H':an}(h:Fm b H H'){d:Nat}{x:c6}(g:H[d]?=ab x)(e:d≠b):H'[d]?=ab x:=by rw [h.2 d e (ax g)];exact g
theorem Ce{sz:Nat}{row:List FC}(hr:row.length=sz):∀ {rows:List (List FC)} {j:Nat},bO sz rows→j<rows.length →
  rows.flatten.take (j*sz)++row++rows.flatten.drop (j*sz+sz)=(rows.set j row).flatten
 | [],_,_,d=>by simp at d
 | r::rows,0,b,_=>by
  have:=b r at2;subst this;simp
 | r::rows,j+1,b,d=>by
  have g:=b r at2;have s:=Ce hr (rows:=rows) (j:=j) (fun x q=>b x (aub _ q)) (by simpa using d);simp only [auu,avs];rw [←s];have l:(j+1)*sz=r.length+j*sz:=by rw [g,auD];omega
  have m:(j+1)*sz+sz=r.length+(j*sz+sz):=by omega
  rw [m,l,List.take_append,avC];simp [at6,auC]
section
variable{H:an}{b sz ep j:Nat}{rows:List (List FC)}{row:List FC}
theorem RB.lt(h:RB H b sz ep rows):b<H.length:=ax h
theorem RB.push(h:RB H b sz ep rows)(J:an):RB (H++J) b sz ep rows:=by
 unfold RB at *;rw [AI (ax h)];exact h
theorem RB.len(h:RB H b sz ep rows){o l c:Nat}:bJ H (.sl b o l c ep sz)=ab l:=by
 unfold RB at h;simp [bJ,h]
theorem RB.idx(h:RB H b sz ep rows){n c:Nat}{k:IntKind}{i:Int}(d:0≤i)(hi:i<n){o:Nat}:aL H sz ae (.c (.sl b o n c ep sz)) (.c (.f (.int k i)))=ab (.c (.ptr b (o+i.toNat*sz) ep)):=by
 unfold RB at h;simp only [aL,dD,d,hi,if_true,h,and_self]
theorem RB.ldr(h:RB H b sz ep rows)(hg:bO sz rows)(g:rows[j]?=ab row):aV H (ab sz) (.c (.ptr b (j*sz) ep))=ab (.a (row.map .f)):=by
 unfold RB at h;have d:row.length=sz:=hg row (atZ g);have:=ug (k:=0) hg g (by omega);simp only [av,h,if_true];rw [←avv];rw [Nat.add_zero]at this;rw [this];have l:(row.map C.f++((rows.drop (j+1)).flatten.map C.f)).take sz=row.map C.f:=by
  rw [auW (by simp [d]),at6 (by simp [d])]
 simp [d]
theorem RB.str(h:RB H b sz ep rows)(hg:bO sz rows)(l:j<rows.length)(hr:row.length=sz) :
  ∃ H',dn H (.ptr b (j*sz) ep) (row.map .f)=ab H'∧RB H' b sz ep (rows.set j row)∧Fm b H H'∧H'.length=H.length:=by
 have m:=eS hg;have g:(j+1)*sz≤rows.length*sz:=auP _ l;have d:j*sz+sz≤rows.flatten.length:=by rw [m];rw [auD]at g;omega
 unfold RB at h ⊢;refine⟨H.set b (.bR sz ((rows.set j row).flatten.map .f) 0 ep .loc),?_,?_,Fm.set _ _,by simp⟩
 ·simp only [bs,h,Nat.zero_le,true_and,aur,hr,d,if_true];rw [←Ce hr hg l];simp [over,hr]
 ·exact OF (ax h)
end
theorem afq{k n:Nat}(h:k≤n):CD (vi k) n=ab k:=by
 have:(0:Int)≤k∧(k:Int)≤n:=by omega
 simp [CD,dD,this]
theorem jJ{t:T}{H:an}{x:jr}{r:V}(h:bw t H x=ab r):Km.results t H [x]=ab r:=by
 simp [Km.results,aZ,h]
@[simp] theorem arq {t:T} {H:an} (sz:Nat) (zs:List FC) (x:Arg):bu t H (.clear sz zs x)=(t_ H sz zs (x.ev t)).map (.t [],·):=rfl
@[simp] theorem aq_ {a b:Int}:NR ah [vi a,vi b]=ab (vi (max a b)):=by
 have:(if a<b then b else a)=max a b:=by split<;>omega
 simp only [NR,xF,FR];simp [this,V.int]
end
section
open Go
def jn(l:List (List FC))(i j:Nat):List (List FC):=(l.set i (l.getD j [])).set j (l.getD i [])
def eu(a b:Nat)(l d:List (List FC)):Prop:=d.Perm l∧d.take a=l.take a∧d.drop b=l.drop b
theorem eu.refl(a b:Nat)(l:List (List FC)):eu a b l l:=⟨.refl _,rfl,rfl⟩
theorem eu.trans{a b:Nat}{l j d:List (List FC)}(h:eu a b l j)(g:eu a b j d):eu a b l d:=⟨g.1.trans h.1,g.2.1.trans h.2.1,g.2.2.trans h.2.2⟩
theorem eu.len{a b:Nat}{l d:List (List FC)}(h:eu a b l d):d.length=l.length:=h.1.length_eq
theorem eu.lt{a b:Nat}{l d:List (List FC)}(h:eu a b l d){i:Nat}(hi:i<a):d[i]?=l[i]?:=by
 have:=congrArg (·[i]?) h.2.1;simpa [auo,hi]using this
theorem eu.ge{a b:Nat}{l d:List (List FC)}(h:eu a b l d){i:Nat}(hi:b≤i):d[i]?=l[i]?:=by
 have:=congrArg (·[i-b]?) h.2.2;simpa [at8,show b+(i-b)=i by omega]using this
theorem eu.mono{a b a' d:Nat}{l g:List (List FC)}(h:eu a b l g)(j:a'≤a)(m:b≤d):eu a' d l g:=by
 refine⟨h.1,?_,?_⟩
 ·have:=congrArg (·.take a') h.2.1;simpa [List.take_take,Nat.min_eq_left j]using this
 ·have:=congrArg (·.drop (d-b)) h.2.2;simpa [au6,show b+(d-b)=d by omega]using this
theorem zR(l:List (List FC))(i j:Nat):(jn l i j).length=l.length:=by simp [jn]
theorem hY{l:List (List FC)}{i j:Nat}(hi:i<l.length)(g:j<l.length)(k:Nat):(jn l i j)[k]?=if k=j then l[i]? else if k=i then l[j]? else l[k]?:=by
 have m:l.getD i []=l[i]:=by simp [List.getD,AT hi]
 have q:l.getD j []=l[j]:=by simp [List.getD,AT g]
 simp only [jn,m,q,List.getElem?_set];by_cases b:j=k
 ·subst b;simp [AT hi,g]
 ·by_cases d:i=k
  ·subst d;simp [b,Ne.symm b,AT g,hi]
  ·simp [b,d,Ne.symm b,Ne.symm d]
theorem eP{a b:Nat}{l:List (List FC)}{i j:Nat}(hi:a≤i)(s:i<b)(x:a≤j)(u:j<b)(v:b≤l.length):eu a b l (jn l i j):=by
 have d:i<l.length:=by omega
 have g:j<l.length:=by omega
 refine⟨?_,?_,?_⟩
 ·have m:l.getD i []=l[i]:=by simp [List.getD,AT d]
  have q:l.getD j []=l[j]:=by simp [List.getD,AT g]
  simp only [jn,m,q];exact List.set_set_perm d g
 ·apply List.ext_getElem?;intro k;simp only [auo];split
  ·rw [hY d g,aY (by omega),aY (by omega)]
  ·rfl
 ·apply List.ext_getElem?;intro k;simp only [at8];rw [hY d g,aY (by omega),aY (by omega)]
section
variable{H:an}{b sz ep:Nat}{rows:List (List FC)}
theorem RB.swap(h:RB H b sz ep rows)(hg:bO sz rows){i j:Nat}(hi:i<rows.length)(m:j<rows.length) :
  ∃ d g,dn H (.ptr b (i*sz) ep) (rows[j].map .f)=ab d∧RB d b sz ep (rows.set i rows[j])∧dn d (.ptr b (j*sz) ep) (rows[i].map .f)=ab g∧RB g b sz ep (jn rows i j)∧Fm b H g:=by
 have y:rows[i].length=sz:=hg _ (IS hi);have q:rows[j].length=sz:=hg _ (IS m);obtain⟨d,z,r1,v,-⟩:=h.str hg hi q;have l:bO sz (rows.set i rows[j]):=fun r hr=>by
  rcases List.mem_or_eq_of_mem_set hr with h | rfl
  ·exact hg r h
  ·exact q
 obtain⟨g,A,r2,x,-⟩:=r1.str l (j:=j) (by simpa using m) y;refine⟨d,g,z,r1,A,?_,v.trans x⟩;have s:rows.getD i []=rows[i]:=by simp [List.getD,AT hi]
 have u:rows.getD j []=rows[j]:=by simp [List.getD,AT m]
 simp only [jn,s,u];exact r2
theorem eu.sU{a b:Nat}{l d:List (List FC)}(h:eu a b l d)(hg:bO sz l):bO sz d:=fun r hr=>hg r (h.1.mem_iff.1 hr)
end
structure tJ(W:List FC→Prop)(c:List FC→List FC→Int):Prop where
 Be:∀ {x y},W x→W y→c x y<0→¬ c y x<0
 trans:∀ {x y z},W x→W y→W z→¬ c y x<0→¬ c z y<0→¬ c z x<0
def Up(c:List FC→List FC→Int)(a b:Nat)(l:List (List FC)):Prop:=∀ i j x y,a≤i→i<j→j<b→l[i]?=ab x→l[j]?=ab y→¬ c y x<0
end
section
open Go
theorem xd{l:List (List FC)}{a m b:Nat}(j:a≤m)(q:m≤b)(s:b≤l.length):∃ X U V Y,l=X++(U++(V++Y))∧X.length=a∧U.length=m-a∧V.length=b-m:=by
 refine⟨l.take a,(l.drop a).take (m-a),(l.drop m).take (b-m),l.drop b,?_,by simp;omega,by simp;omega,by simp;omega⟩;have g:(l.drop m).take (b-m)++l.drop b=l.drop m:=by
  have:=auM (b-m) (l.drop m);rwa [au6,show m+(b-m)=b by omega]at this
 have d:(l.drop a).take (m-a)++l.drop m=l.drop a:=by
  have:=auM (m-a) (l.drop a);rwa [au6,show a+(m-a)=m by omega]at this
 rw [g,d,auM]
theorem eu.mem{a b:Nat}{l m:List (List FC)}(h:eu a b l m)(d:a≤b)(K:b≤l.length){i:Nat}{x:List FC}(W:a≤i)(Z:i<b)(z:m[i]?=ab x):∃ j,a≤j∧j<b∧l[j]?=ab x:=by
 obtain⟨X,U,V,Y,e,S,lU,Q⟩:=xd (aft a) d K;have hl:=h.len;obtain⟨X',E,F,v,H,u,O,s⟩:=xd (l:=m) (aft a) d (by omega);obtain rfl:U=[]:=aun.1 (by omega);obtain rfl:E=[]:=aun.1 (by omega);obtain⟨g,N,L⟩:=h;subst e;subst H;have I:X'=X:=by
  simpa [auW (show a≤X.length by omega),auW (show a≤X'.length by omega),at6 (show X.length≤a by omega),at6 (show X'.length≤a by omega)]using N
 have J:v=Y:=by
  have q:∀ {A B C:List (List FC)},A.length=a→B.length=b-a→(A++([]++(B++C))).drop b=C:=by
   intro A B C hA hB;rw [avr,←auC,List.drop_append_of_le_length (by simp;omega),List.drop_of_length_le (by simp;omega),avr]
  rwa [q u s,q S Q]at L
 subst I;subst J;have g:F.Perm V:=by
  have:=(List.perm_append_left_iff X').1 g;simp only [avr]at this;exact(List.perm_append_right_iff v).1 this
 rw [avr,at1 (by omega),AI (by omega)]at z;obtain⟨j,y⟩:=auH (g.mem_iff.1 (atZ z));have M:=(BY.1 y).1;refine⟨a+j,by omega,by omega,?_⟩;rw [avr,at1 (by omega),AI (by omega)];rw [←y];congr 1;omega
section
variable{W:List FC→Prop}{c:List FC→List FC→Int}
theorem Up.mono{a b a' d:Nat}{l:List (List FC)}(h:Up c a b l)(u:a≤a')(v:d≤b):Up c a' d l:=
 fun i j x y q g s m hy=>h i j x y (by omega) g (by omega) m hy
theorem Up.one{a b:Nat}{l:List (List FC)}(h:b≤a+1):Up c a b l:=fun i j x y d g m=>by omega
theorem Up.of{a b:Nat}{l q:List (List FC)}(h:Up c a b l)(m:∀ k,a≤k→k<b→q[k]?=l[k]?):Up c a b q:=fun i j x y d s g u hy=>
 h i j x y d s g (by rw [←m i d (by omega)];exact u) (by rw [←m j (by omega) g];exact hy)
def kH(c:List FC→List FC→Int)(l:List (List FC))(i j:Nat):Prop:=∀ x y,l[i]?=ab x→l[j]?=ab y→¬ c y x<0
theorem kH.trans{l:List (List FC)}{i j k:Nat}(hc:tJ W c)(b:∀ r ∈ l,W r)(h:kH c l i j)(q:kH c l j k)(d:j<l.length):kH c l i k:=fun x y g hy=>by
 have m:=AT d;exact hc.trans (b _ (atZ g)) (b _ (IS d)) (b _ (atZ hy)) (h _ _ g m) (q _ _ m hy)
end
end
section
open Go
def aX:C→Option Nat
 | .sl b _ _ _ _ _=>ab b| _=>ae
def LR(H:an)(c:C)(sz:Nat)(rows:List (List FC)):Prop:=(rows=[]∧(c=.f .aG∨c=.f .es))∨(rows≠[]∧∃ b ep,c=.sl b 0 rows.length 0 ep sz∧RB H b sz ep rows)
def Kb(H H':an)(c:C):Prop:=H.length≤H'.length∧∀(i:Nat) y,H[i]?=ab y→aX c≠ab i→H'[i]?=ab y
section
variable{H H':an}{c:C}{sz:Nat}{rows:List (List FC)}
theorem LR.nil(H:an)(sz:Nat):LR H (.f .aG) sz []:=.inl ⟨rfl,.inl rfl⟩
theorem LR.cu(h:LR H c sz rows)(g:∀ i y,H[i]?=ab y→aX c=ab i→H'[i]?=ab y):LR H' c sz rows:=by
 rcases h with h | ⟨h,b,ep,rfl,d⟩
 ·exact .inl h
 ·exact .inr ⟨h,b,ep,rfl,g b _ d rfl⟩
theorem LR.push(h:LR H c sz rows)(J:an):LR (H++J) c sz rows:=h.cu fun i y hy _=>by rw [AI (ax hy)];exact hy
theorem LR.lt(h:LR H c sz rows){i:Nat}(hi:aX c=ab i):i<H.length:=by
 rcases h with⟨_,rfl | rfl⟩ | ⟨h,b,ep,rfl,d⟩
 ·cases hi
 ·cases hi
 ·cases hi;exact d.lt
theorem LR.cw(h:LR H c sz rows){i:Nat}{cs:List C}{j:Nat}(g:H[i]?=ab (.box cs j)):aX c≠ab i:=by
 rcases h with⟨_,rfl | rfl⟩ | ⟨h,b,ep,rfl,d⟩
 ·simp [aX]
 ·simp [aX]
 ·intro e;cases e;unfold RB at d;rw [d]at g;cases g
theorem LR.set(h:LR H c sz rows){i:Nat}(hi:aX c≠ab i)(x:c6):LR (H.set i x) c sz rows:=h.cu fun j y hy b=>by
 have:i≠j:=by rintro rfl;exact hi b
 rw [By this];exact hy
theorem LR.len(h:LR H c sz rows):bJ H c=ab rows.length:=by
 rcases h with⟨rfl,rfl | rfl⟩ | ⟨h,b,ep,rfl,d⟩
 ·rfl
 ·rfl
 ·exact d.len
theorem LR.ex(h:LR H c sz rows)(hg:bO sz rows)(n:Nat):∃ g,db (n+1) H c=ab (sl g rows):=by
 rcases h with⟨rfl,rfl | rfl⟩ | ⟨h,b,ep,rfl,d⟩
 ·exact⟨.nil,rfl⟩
 ·exact⟨.es,rfl⟩
 ·refine⟨.fs,?_⟩;have j:rows.length*sz=rows.flatten.length:=(eS hg).symm;unfold RB at d;simp only [jf,d];rw [bg ⟨trivial,trivial,by rw [aur,auJ,j];exact aft _⟩,List.drop_zero,at6 (by rw [aur];omega),rQ];cases rows with
  | nil=>exact absurd rfl h| cons x l=>simp [sl]
theorem abq{g g':Tg}{rows:List (List FC)}(h:rows≠[]):sl g rows=sl g' rows:=by
 cases rows with
 | nil=>exact absurd rfl h| cons x l=>rfl
theorem LR.exU(h:LR H c sz rows)(hg:bO sz rows):∃ g,∀(H':an) (n:Nat),(∀ i y,H[i]?=ab y→aX c=ab i→H'[i]?=ab y)→db (n+1) H' c=ab (sl g rows):=by
 by_cases hr:rows=[]
 ·rcases h with⟨rfl,rfl | rfl⟩ | ⟨h,_⟩
  ·exact⟨.nil,fun _ _ _=>rfl⟩
  ·exact⟨.es,fun _ _ _=>rfl⟩
  ·exact absurd hr h
 ·refine⟨.fs,fun H' n b=>?_⟩;obtain⟨g,e⟩:=(h.cu b).ex hg n;rw [e,abq hr]
theorem LR.app(h:LR H c sz rows)(hg:bO sz rows)(OC:sz≠0){row:List FC}(hr:row.length=sz){bytes:Nat}(d:bU (rows.length+1) bytes=ag){b1 fl1:Nat}(q:H[b1]?=ab (.box (row.map .f) fl1)) :
  ∃ l H',bK H sz bytes (.c c) (.c (.sl b1 0 1 1 0 sz))=ab (.c l,H')∧LR H' l sz (rows++[row])∧Kb H H' c∧(aX l=aX c∨aX l=ab H.length):=by
 have g:cX H sz (.c (.sl b1 0 1 1 0 sz))=ab (1,row.map .f):=kY q (by simp [hr]);rcases h with⟨rfl,s⟩ | ⟨v,b,ep,rfl,m⟩
 ·have d:bU 1 bytes=ag:=by simpa using d
  refine⟨.sl H.length 0 1 0 0 sz,H++[.bR sz (row.map .f) 0 0 .loc],?_,.inr ⟨by simp,H.length,0,rfl,?_⟩,⟨by simp,fun i y hy _=>by rw [AI (ax hy)];exact hy⟩,.inr rfl⟩
  ·rcases s with rfl | rfl<;>simp [bK,g,d,OC]
  ·simp [RB]
 ·have j:rows.length*sz=rows.flatten.length:=(eS hg).symm;unfold RB at m;refine⟨.sl b 0 (rows.length+1) 0 (ep+1) sz,H.set b (.bR sz (rows.flatten.map .f++row.map .f) 0 (ep+1) .loc),?_,.inr ⟨by simp,b,ep+1,by simp,?_⟩,⟨by simp,fun i y hy u=>?_⟩,.inl rfl⟩
  ·simp only [bK,g,OC,if_false,m,and_self,if_true];simp only [Nat.add_one_ne_zero,if_false];rw [bg ⟨trivial,by rw [aur];exact j,by simp⟩,d];simp
  ·unfold RB;rw [OF (ax m)];simp
  ·have:b≠i:=by rintro rfl;exact u rfl
   rw [By this];exact hy
theorem Kb.refl(H:an)(c:C):Kb H H c:=⟨aft _,fun _ _ h _=>h⟩
theorem Kb.push(H J:an)(c:C):Kb H (H++J) c:=⟨by simp,fun i y hy _=>by rw [AI (ax hy)];exact hy⟩
theorem Kb.aoV{b o l cp ep s:Nat}(h:Fm b H H'):Kb H H' (.sl b o l cp ep s):=⟨h.1,fun i y hy d=>by
 have:i≠b:=by rintro rfl;exact d rfl
 exact h.get hy this⟩
end
end
section
open Go
theorem uj{g:Type}{sz:Nat}:∀ {rows:List (List g)} {j:Nat} {row:List g},(∀ r ∈ rows,r.length=sz)→rows[j]?=ab row→(rows.flatten.drop (j*sz)).take sz=row
 | [],j,row,_,b=>by simp at b
 | r::rows,0,row,d,b=>by
  simp at b;subst b;have:=d r at2;subst this;simp
 | r::rows,j+1,row,d,b=>by
  have hr:=d r at2;have m:=uj (rows:=rows) (j:=j) (row:=row) (fun x l=>d x (aub _ l)) (by simpa using b);rw [auu,show(j+1)*sz=r.length+j*sz by rw [hr,auD];omega,←au6,List.drop_left];exact m
theorem uU{b:Type}:∀ {cs:List b} {k:Nat} {x:b},k<cs.length→over cs k [x]=cs.set k x
 | [],k,x,h=>by simp at h
 | c::cs,0,x,_=>by simp [over]
 | c::cs,k+1,x,h=>by
  have:=uU (cs:=cs) (k:=k) (x:=x) (by simpa using h);simp only [over,aup,List.length_nil]at this ⊢;rw [List.take_succ_cons,avs,←this];simp
section
variable{H:an}{b sz ep j k n:Nat}{rows:List (List FC)}{row:List FC}
theorem RB.ldc{x:FC}(h:RB H b sz ep rows)(hg:bO sz rows)(g:rows[j]?=ab row)(l:row[k]?=ab x):aV H ae (.c (.ptr b (j*sz+k) ep))=ab (.c (.f x)):=by
 unfold RB at h;have m:row.length=sz:=hg row (atZ g);have q:=(BY.1 l).1;have:=uo hg g (by omega:k<sz);simp only [av,h,if_true];rw [avv.symm];have e:(rows.flatten.drop (j*sz+k))[0]?=ab x:=by rw [at8,Nat.add_zero,this,l]
 cases d:rows.flatten.drop (j*sz+k)with
 | nil=>rw [d]at e;simp at e| cons y ys=>rw [d]at e;simp at e;simp [aK,e]
end
def akd(sz:Nat)(zs:List FC)(bytes:Nat):aB:=⟨[P.nat 0],[.tmp (P.nat 2)],.seq (.region [⟨D 2,.bN (.k (.c (.f (.aG)))),ae⟩] []) (.seq (.seq (.region [⟨D 3,.bN (R 0),ae⟩,⟨D 4,.eq ah .sl (R 3) (.k (.c (.f (.aG)))),ae⟩] [])
 (.cond (R 4) (.seq (.region [⟨D 2,.bN (.k (.c (.f (.aG)))),ae⟩] []) .ret) .skip)) (.seq (.region [⟨D 5,.aR sz zs 0 [],ae⟩,⟨D 6,.bN (R 0),ae⟩,⟨D 7,.append sz bytes (R 5) (R 6),ae⟩,⟨D 2,.bN (R 7),ae⟩] []) .ret))⟩
section
variable{tab:Nat→Option aB}{F sz bytes:Nat}{zs:List FC}{H:an}{g:Tg}{rows:List (List FC)}
theorem xg{cs:List FC}{n:Nat}:z6 H .sl (.c (.f (.fs cs n))) (.c (.f .aG))=ab ah:=rfl
theorem afG:z6 H .sl (.c (.f .aG)) (.c (.f .aG))=ab ag:=rfl
theorem aof:z6 H .sl (.c (.f .es)) (.c (.f .aG))=ab ah:=rfl
theorem ZO(u:tab F=ab (akd sz zs bytes))(l:sz≠0)(v:bO sz rows)(j:bU rows.length bytes=ag) :
  ∃ r H',Ev tab (.fn F) [.c (.f (sl g rows))] H r H'∧∃ c J,r=.c c∧H'=H++J∧LR (H++J) c sz rows∧∀ i,aX c=ab i→H.length≤i:=by
 refine dt (C:=fun r H'=>∃ c J,r=.c c∧H'=H++J∧LR (H++J) c sz rows∧∀ i,aX c=ab i→H.length≤i) u rfl fun Q m=>?_;apply aj;simp;apply aq;apply aj;cases rows with
 | nil=>
  cases g with
  | nil=>
   simp [sl,Tg.fc,afG];refine ak (by simp) ?_;apply aj;simp;exact aE (m _ _ (.c (.f .aG)) rfl (by simp [Km.results,aZ]) ⟨_,[],rfl,by simp,.inl ⟨rfl,.inl rfl⟩,by simp [aX]⟩)
  | es=>
   simp [sl,Tg.fc,aof];refine aW (by simp) ?_;apply aj;simp [bK,cX,bJ,cS,l];exact aE (m _ _ (.c (.f .es)) rfl (by simp [Km.results,aZ]) ⟨_,[],rfl,by simp,.inl ⟨rfl,.inr rfl⟩,by simp [aX]⟩)
  | fs=>
   simp [sl,Tg.fc,xg];refine aW (by simp) ?_;apply aj;simp [bK,cX,bJ,cS,l];exact aE (m _ _ (.c (.f .es)) rfl (by simp [Km.results,aZ]) ⟨_,[],rfl,by simp,.inl ⟨rfl,.inr rfl⟩,by simp [aX]⟩)
 | cons x r=>
  have d:cX H sz (.c (.f (.fs (x::r).flatten (x::r).length)))=ab ((x::r).length,(x::r).flatten.map .f):=by
   have q:=Bm (H:=H) (g:=.fs) v;have s:=pg (H:=H) .fs (x::r);simp only [sl,avt,atY,if_false]at q s;simp only [cX,q,s]
  have b:bU (r.length+1) bytes=ag:=by simpa using j
  simp only [sl,avt,atY,if_false];simp [xg];refine aW (by simp) ?_;apply aj;simp only [auu,aup]at d;simp [bK,d,l,b];refine aE (m _ _ (.c (.sl H.length 0 (r.length+1) 0 0 sz)) rfl (by simp [Km.results,aZ]) ⟨_,[.bR sz ((x::r).flatten.map .f) 0 0 .loc],rfl,by simp,.inr ⟨by simp,H.length,0,rfl,by simp [RB]⟩,by simp [aX]⟩)
end
end
section
open Go
theorem Zl{H:an}{sz:Nat}{g:Tg}{rows:List (List FC)}(j:bO sz rows):cX H sz (.c (.f (sl g rows)))=ab (rows.length,rows.flatten.map .f):=by
 have b:=Bm (H:=H) (g:=g) j;have d:=pg (H:=H) g rows;have e:∀ s,sl g rows≠.str s:=fun s=>by cases rows<;>cases g<;>simp [sl,Tg.fc]
 generalize sl g rows=x at *;cases x<;>simp only [cX,b,d];exact absurd rfl (e _)
end
section
set_option linter.unusedVariables false
open Go
abbrev yn(d:Nat)(op:cV):aO:=⟨D d,op,ae⟩
abbrev iY(d k g:Nat):aO:=⟨D d,.bN (R k),G g ag⟩
abbrev yu(d z k g:Nat):aO:=⟨D d,.load (ab z) (R k),G g ag⟩
abbrev ym(d k:Nat):aO:=⟨D d,.bN (R k),ae⟩
abbrev yi(n:Int):Arg:=.k (.c (.f (.int .i64 n)))
abbrev yt:Arg:=.k (.c (.f (.bool ag)))
abbrev yf:Arg:=.k (.c (.f (.bool ah)))
abbrev ys(z a b:Nat):aO:=⟨ae,.store z (R a) (R b),ae⟩
abbrev yb(d:Nat)(o:BinOp)(a b:Nat):aO:=⟨D d,.bin o (R a) (R b),ae⟩
abbrev ya(d z a b:Nat):aO:=⟨D d,.aS z ae (R a) (R b),ae⟩
abbrev yl(d z a:Nat):aO:=⟨D d,.load (ab z) (R a),ae⟩
abbrev yr(l:List aO):ay:=.region l []
structure jS where
 z9:Nat
 ins:Nat
 heap:Nat
 vc:Nat
 brk:Nat
 piv:Nat
 rev:Nat
 part:Nat
 OH:Nat
 pins:Nat
 uI:Nat
 med:Nat
 ord:Nat
 npt:Nat
 OD:Nat
 len:Nat
 aqB:Nat
 aqA:Nat
 rot:Nat
 swr:Nat
section
variable(σ:jS)(sz:Nat)
def aln:ay:=.seq (yr [ym 26 0,ym 27 1,ym 28 2,ym 29 4,yn 30 (.call σ.ins [R 26,R 27,R 28,R 29] ag)]) .ret
def alp:ay:=.seq (yr [ym 33 0,ym 34 1,ym 35 2,ym 36 4,yn 37 (.call σ.heap [R 33,R 34,R 35,R 36] ag)]) .ret
def als:ay:=yr [ym 45 3,yn 46 (.bin .sub (R 45) (yi 1)),ym 3 46]
def alr:ay:=.seq (yr [ym 40 0,ym 41 1,ym 42 2,ym 43 4,yn 44 (.call σ.brk [R 40,R 41,R 42,R 43] ag)]) (als)
def alx:ay:=yr [yn 14 (.bN (yi 1))]
def alw:ay:=.seq (yr [ym 62 2,yn 63 (.bin .sub (R 62) (yi 1)),ym 64 13,ym 65 1,yb 66 .sub 64 65,yb 67 .sub 63 66,ym 13 67]) (alx)
def alv:ay:=.seq (yr [ym 57 0,ym 58 1,ym 59 2,ym 60 4,yn 61 (.call σ.rev [R 57,R 58,R 59,R 60] ag)]) (alw)
def aly:ay:=.seq (yr [ym 76 0,ym 77 1,ym 78 2,ym 79 4,yn 80 (.call σ.pins [R 76,R 77,R 78,R 79] ag)]) (.cond (R 80) .ret .skip)
def alA:ay:=.seq (yr [ym 104 15,ym 1 104]) (.exit 1)
def alz:ay:=.seq (yr [ym 98 0,ym 99 1,ym 100 2,ym 101 13,ym 102 4,yn 103 (.call σ.OH [R 98,R 99,R 100,R 101,R 102] ag),ym 15 103]) (alA)
def alH:ay:=yr [ym 135 16,yn 136 (.bin .add (R 135) (yi 1)),ym 1 136]
def alG:ay:=.seq (yr [ym 129 0,ym 130 1,ym 131 16,ym 132 3,ym 133 4,yn 134 (.call σ.z9 [R 129,R 130,R 131,R 132,R 133] ag)]) (alH)
def alF:ay:=.seq (yr [ym 126 18,ym 127 20,yb 128 .geq 126 127,ym 10 128]) (alG σ)
def alK:ay:=yr [ym 147 16,ym 2 147]
def alJ:ay:=.seq (yr [ym 140 0,ym 141 16,yn 142 (.bin .add (R 141) (yi 1)),ym 143 2,ym 144 3,ym 145 4,yn 146 (.call σ.z9 [R 140,R 142,R 143,R 144,R 145] ag)]) (alK)
def alI:ay:=.seq (yr [ym 137 19,ym 138 20,yb 139 .geq 137 138,ym 10 139]) (alJ σ)
def alE:ay:=.seq (yr [ym 123 18,ym 124 19,yb 125 .lss 123 124]) (.cond (R 125) (alF σ) (alI σ))
def alD:ay:=.seq (yr [ym 121 12,yn 122 (.bin .quo (R 121) (yi 8)),ym 20 122]) (alE σ)
def alC:ay:=.seq (yr [ym 115 16,ym 116 1,yb 117 .sub 115 116,ym 118 2,ym 119 16,yb 120 .sub 118 119,ym 18 117,ym 19 120]) (alD σ)
def alB:ay:=.seq (yr [ym 114 17,ym 11 114]) (alC σ)
def aaP:ay:=.seq (yr [ym 106 0,ym 107 1,ym 108 2,ym 109 13,ym 110 4,yn 111 (.call σ.part [R 106,R 107,R 108,R 109,R 110] ag),ym 105 111,yn 112 (.extract (R 105) 0),yn 113 (.extract (R 105) 1),ym 16 112,ym 17 113]) (alB σ)
def aaO:ay:=.seq (.seq (yr [ym 81 1,yn 82 (.bin .gtr (R 81) (yi 0)),ym 83 82,iY 84 4 83,iY 85 0 83,iY 86 1 83,⟨D 87,.bin .sub (R 86) (yi 1),G 83 ag⟩,⟨D 88,.aS sz ae (R 85) (R 87),G 83 ag⟩,yu 89 sz 88 83,iY 90 0 83,iY 91 13 83,⟨D 92,.aS sz ae (R 90) (R 91),G 83 ag⟩,yu 93 sz 92 83,⟨D 94,.cj (R 84) [R 89,R 93] ag,G 83 ag⟩,⟨D 95,.bin .lss (R 94) (yi 0),G 83 ag⟩,⟨D 96,.un .not (R 95),G 83 ag⟩,yn 97 (.pick (R 83) (R 96) yf)]) (.cond (R 97) (alz σ) .skip)) (aaP σ)
def aaN:ay:=.seq (.seq (yr [ym 68 10,ym 69 68,iY 70 11 69,yn 71 (.pick (R 69) (R 70) yf),ym 72 71,iY 73 14 72,⟨D 74,.bin .eql (R 73) (yi 1),G 72 ag⟩,yn 75 (.pick (R 72) (R 74) yf)]) (.cond (R 75) (aly σ) .skip)) (aaO σ sz)
def alu:ay:=.seq (.seq (yr [ym 55 14,yn 56 (.bin .eql (R 55) (yi 2))]) (.cond (R 56) (alv σ) .skip)) (aaN σ sz)
def aaM:ay:=.seq (yr [ym 48 0,ym 49 1,ym 50 2,ym 51 4,yn 52 (.call σ.piv [R 48,R 49,R 50,R 51] ag),ym 47 52,yn 53 (.extract (R 47) 0),yn 54 (.extract (R 47) 1),ym 13 53,ym 14 54]) (alu σ sz)
def alq:ay:=.seq (.seq (yr [ym 38 10,yn 39 (.un .not (R 38))]) (.cond (R 39) (alr σ) .skip)) (aaM σ sz)
def alo:ay:=.seq (.seq (yr [ym 31 3,yn 32 (.bin .eql (R 31) (yi 0))]) (.cond (R 32) (alp σ) .skip)) (alq σ sz)
def ap1:ay:=.seq (.seq (yr [ym 24 12,yn 25 (.bin .leq (R 24) (yi 12))]) (.cond (R 25) (aln σ) .skip)) (alo σ sz)
def ap0:ay:=.seq (yr [ym 21 2,ym 22 1,yb 23 .sub 21 22,ym 12 23]) (ap1 σ sz)
def xX:ay:=.block 1 (ap0 σ sz)
def apZ:ay:=.seq (yr [yn 11 (.bN yt)]) (.block 0 (.loop (xX σ sz)))
def apY:ay:=.seq (yr [yn 10 (.bN yt)]) (apZ σ sz)
def F'(σ:jS)(sz:Nat):aB:=⟨[P.nat 0,P.nat 1,P.nat 2,P.nat 3,P.nat 4],[],(apY σ sz)⟩
end
section
variable(σ:jS)(sz:Nat)
def akA:ay:=yr [ym 37 0,ym 38 9,ym 39 0,ym 40 9,yn 41 (.bin .sub (R 40) (yi 1)),ym 42 0,ym 43 9,yn 44 (.bin .sub (R 43) (yi 1)),ya 45 sz 42 44,yl 46 sz 45,ym 47 0,ym 48 9,ya 49 sz 47 48,yl 50 sz 49,ya 51 sz 37 38,ys sz 51 46,ya 52 sz 39 41,ys sz 52 50]
def akB:ay:=yr [ym 35 9,yn 36 (.bin .sub (R 35) (yi 1)),ym 9 36]
def akz:ay:=.seq (.block 3 (akA sz)) (akB)
def aky:ay:=.seq (.seq (yr [ym 18 9,ym 19 1,yb 20 .gtr 18 19,ym 21 20,iY 22 3 21,iY 23 0 21,iY 24 9 21,⟨D 25,.aS sz ae (R 23) (R 24),G 21 ag⟩,yu 26 sz 25 21,iY 27 0 21,iY 28 9 21,⟨D 29,.bin .sub (R 28) (yi 1),G 21 ag⟩,⟨D 30,.aS sz ae (R 27) (R 29),G 21 ag⟩,yu 31 sz 30 21,⟨D 32,.cj (R 22) [R 26,R 31] ag,G 21 ag⟩,⟨D 33,.bin .lss (R 32) (yi 0),G 21 ag⟩,yn 34 (.pick (R 21) (R 33) yf)]) (.cond (R 34) .skip (.exit 2))) (akz sz)
def akx:ay:=.seq (yr [ym 17 8,ym 9 17]) (.block 2 (.loop (aky sz)))
def y7:ay:=yr [ym 15 8,yn 16 (.bin .add (R 15) (yi 1)),ym 8 16]
def aor:ay:=.seq (.block 1 (akx sz)) (y7)
def FH:ay:=.seq (.seq (yr [ym 12 8,ym 13 2,yb 14 .lss 12 13]) (.cond (R 14) .skip (.exit 0))) (aor sz)
def aoq:ay:=.seq (yr [ym 10 1,yn 11 (.bin .add (R 10) (yi 1)),ym 8 11]) (.block 0 (.loop (FH sz)))
def xu(σ:jS)(sz:Nat):aB:=⟨[P.nat 0,P.nat 1,P.nat 2,P.nat 3],[],(aoq sz)⟩
end
section
variable(σ:jS)(sz:Nat)
def afQ:ay:=yr [ym 24 0,ym 25 11,ym 26 10,ym 27 8,ym 28 3,yn 29 (.call σ.vc [R 24,R 25,R 26,R 27,R 28] ag)]
def afR:ay:=yr [ym 22 11,yn 23 (.bin .sub (R 22) (yi 1)),ym 11 23]
def afP:ay:=.seq (.block 1 (afQ σ)) (afR)
def afO:ay:=.seq (.seq (yr [ym 20 11,yn 21 (.bin .geq (R 20) (yi 0))]) (.cond (R 21) .skip (.exit 0))) (afP σ)
def afV:ay:=yr [ym 54 0,ym 55 9,ym 56 12,ym 57 8,ym 58 3,yn 59 (.call σ.vc [R 54,R 55,R 56,R 57,R 58] ag)]
def afU:ay:=.seq (yr [ym 36 0,ym 37 8,ym 38 0,ym 39 8,ym 40 12,yb 41 .add 39 40,ym 42 0,ym 43 8,ym 44 12,yb 45 .add 43 44,ya 46 sz 42 45,yl 47 sz 46,ym 48 0,ym 49 8,ya 50 sz 48 49,yl 51 sz 50,ya 52 sz 36 37,ys sz 52 47,ya 53 sz 38 41,ys sz 53 51]) (afV σ)
def afW:ay:=yr [ym 34 12,yn 35 (.bin .sub (R 34) (yi 1)),ym 12 35]
def afT:ay:=.seq (.block 3 (afU σ sz)) (afW)
def afS:ay:=.seq (.seq (yr [ym 32 12,yn 33 (.bin .geq (R 32) (yi 0))]) (.cond (R 33) .skip (.exit 2))) (afT σ sz)
def FE:ay:=.seq (yr [ym 30 10,yn 31 (.bin .sub (R 30) (yi 1)),ym 12 31]) (.block 2 (.loop (afS σ sz)))
def akq:ay:=.seq (.seq (yr [ym 17 10,yn 18 (.bin .sub (R 17) (yi 1)),yn 19 (.bin .quo (R 18) (yi 2)),ym 11 19]) (.block 0 (.loop (afO σ)))) (FE σ sz)
def akp:ay:=.seq (yr [ym 14 2,ym 15 1,yb 16 .sub 14 15,ym 10 16]) (akq σ sz)
def ako:ay:=.seq (yr [yn 9 (.bN (yi 0))]) (akp σ sz)
def akn:ay:=.seq (yr [ym 13 1,ym 8 13]) (ako σ sz)
def y4(σ:jS)(sz:Nat):aB:=⟨[P.nat 0,P.nat 1,P.nat 2,P.nat 3],[],(akn σ sz)⟩
end
section
variable(σ:jS)(sz:Nat)
def ahu:ay:=yr [ym 41 11,yn 42 (.bin .add (R 41) (yi 1)),ym 11 42]
def ahw:ay:=yr [ym 81 11,ym 10 81]
def ahv:ay:=.seq (yr [ym 59 0,ym 60 3,ym 61 10,yb 62 .add 60 61,ym 63 0,ym 64 3,ym 65 11,yb 66 .add 64 65,ym 67 0,ym 68 3,ym 69 11,yb 70 .add 68 69,ya 71 sz 67 70,yl 72 sz 71,ym 73 0,ym 74 3,ym 75 10,yb 76 .add 74 75,ya 77 sz 73 76,yl 78 sz 77,ya 79 sz 59 62,ys sz 79 72,ya 80 sz 63 66,ys sz 80 78]) (ahw)
def Gv:ay:=.seq (.seq (yr [ym 43 4,ym 44 0,ym 45 3,ym 46 10,yb 47 .add 45 46,ya 48 sz 44 47,yl 49 sz 48,ym 50 0,ym 51 3,ym 52 11,yb 53 .add 51 52,ya 54 sz 50 53,yl 55 sz 54,yn 56 (.cj (R 43) [R 49,R 55] ag),yn 57 (.bin .lss (R 56) (yi 0)),yn 58 (.un .not (R 57))]) (.cond (R 58) .ret .skip)) (ahv sz)
def aht:ay:=.seq (.seq (yr [ym 19 11,yn 20 (.bin .add (R 19) (yi 1)),ym 21 2,yb 22 .lss 20 21,ym 23 22,iY 24 4 23,iY 25 0 23,iY 26 3 23,iY 27 11 23,⟨D 28,.bin .add (R 26) (R 27),G 23 ag⟩,⟨D 29,.aS sz ae (R 25) (R 28),G 23 ag⟩,yu 30 sz 29 23,iY 31 0 23,iY 32 3 23,iY 33 11 23,⟨D 34,.bin .add (R 32) (R 33),G 23 ag⟩,⟨D 35,.bin .add (R 34) (yi 1),G 23 ag⟩,⟨D 36,.aS sz ae (R 31) (R 35),G 23 ag⟩,yu 37 sz 36 23,⟨D 38,.cj (R 24) [R 30,R 37] ag,G 23 ag⟩,⟨D 39,.bin .lss (R 38) (yi 0),G 23 ag⟩,yn 40 (.pick (R 23) (R 39) yf)]) (.cond (R 40) ahu .skip)) (Gv sz)
def amr:ay:=.seq (.seq (yr [ym 16 11,ym 17 2,yb 18 .geq 16 17]) (.cond (R 18) (.exit 0) .skip)) (aht sz)
def amq:ay:=.seq (yr [ym 13 10,yn 14 (.bin .mul (yi 2) (R 13)),yn 15 (.bin .add (R 14) (yi 1)),ym 11 15]) (amr sz)
def abo:ay:=.block 1 (amq sz)
def amp:ay:=.seq (yr [ym 12 1,ym 10 12]) (.block 0 (.loop (abo sz)))
def vd(σ:jS)(sz:Nat):aB:=⟨[P.nat 0,P.nat 1,P.nat 2,P.nat 3,P.nat 4],[],(amp sz)⟩
end
section
variable(σ:jS)(sz:Nat)
def aj2:ay:=yr [ym 46 12,ym 47 8,yb 48 .sub 46 47,ym 12 48]
def Zy:ay:=yr [ym 49 0,ym 50 11,ym 51 0,ym 52 1,ym 53 12,yb 54 .add 52 53,ym 55 0,ym 56 1,ym 57 12,yb 58 .add 56 57,ya 59 sz 55 58,yl 60 sz 59,ym 61 0,ym 62 11,ya 63 sz 61 62,yl 64 sz 63,ya 65 sz 49 50,ys sz 65 60,ya 66 sz 51 54,ys sz 66 64]
def aj1:ay:=.seq (.seq (yr [ym 43 12,ym 44 8,yb 45 .geq 43 44]) (.cond (R 45) aj2 .skip)) (Zy sz)
def aj0:ay:=.seq (yr [yn 38 (.call σ.OD [R 9] ag),ym 39 10,yn 40 (.bin .sub (R 39) (.k (.c (.f (.int .u64 1))))),yb 41 .and 38 40,yn 42 (.eX .i64 (R 41)),ym 12 42]) (aj1 sz)
def Zz:ay:=yr [ym 36 11,yn 37 (.bin .add (R 36) (yi 1)),ym 11 37]
def ajZ:ay:=.seq (.block 1 (aj0 σ sz)) (Zz)
def Zx:ay:=.seq (.seq (yr [ym 28 11,ym 29 1,ym 30 8,yn 31 (.bin .quo (R 30) (yi 4)),yn 32 (.bin .mul (R 31) (yi 2)),yb 33 .add 29 32,yn 34 (.bin .add (R 33) (yi 1)),yb 35 .leq 28 34]) (.cond (R 35) .skip (.exit 0))) (ajZ σ sz)
def an1:ay:=.seq (yr [ym 22 1,ym 23 8,yn 24 (.bin .quo (R 23) (yi 4)),yn 25 (.bin .mul (R 24) (yi 2)),yb 26 .add 22 25,yn 27 (.bin .sub (R 26) (yi 1)),ym 11 27]) (.block 0 (.loop (Zx σ sz)))
def an0:ay:=.seq (yr [ym 20 8,yn 21 (.call σ.npt [R 20] ah),ym 10 21]) (an1 σ sz)
def anZ:ay:=.seq (yr [ym 18 8,yn 19 (.eX .u64 (R 18)),yn 9 (.alloc [(.int .u64 0)]),ys 1 9 19]) (an0 σ sz)
def anY:ay:=.seq (yr [ym 16 8,yn 17 (.bin .geq (R 16) (yi 8))]) (.cond (R 17) (anZ σ sz) .skip)
def anX:ay:=.seq (yr [ym 13 2,ym 14 1,yb 15 .sub 13 14,ym 8 15]) (anY σ sz)
def Fo(σ:jS)(sz:Nat):aB:=⟨[P.nat 0,P.nat 1,P.nat 2,P.nat 3],[],(anX σ sz)⟩
end
section
variable(σ:jS)(sz:Nat)
def al8:ay:=yr [ym 45 0,ym 46 14,ym 47 3,yn 48 (.call σ.uI [R 45,R 46,R 11,R 47] ag),ym 14 48]
def al7:ay:=.seq (yr [ym 41 0,ym 42 13,ym 43 3,yn 44 (.call σ.uI [R 41,R 42,R 11,R 43] ag),ym 13 44]) (al8 σ)
def al6:ay:=.seq (yr [ym 37 0,ym 38 12,ym 39 3,yn 40 (.call σ.uI [R 37,R 38,R 11,R 39] ag),ym 12 40]) (al7 σ)
def aaW:ay:=yr [ym 49 0,ym 50 12,ym 51 13,ym 52 14,ym 53 3,yn 54 (.call σ.med [R 49,R 50,R 51,R 52,R 11,R 53] ag),ym 13 54]
def al5:ay:=.seq (.seq (yr [ym 35 10,yn 36 (.bin .geq (R 35) (yi 50))]) (.cond (R 36) (al6 σ) .skip)) (aaW σ)
def al':ay:=.seq (yr [ym 59 13,ym 8 59,yn 9 (.bN (yi 1))]) .ret
def ama:ay:=.seq (yr [ym 62 13,ym 8 62,yn 9 (.bN (yi 2))]) .ret
def amb:ay:=.seq (yr [ym 56 13,ym 8 56,yn 9 (.bN (yi 0))]) .ret
def al_:ay:=.seq (yr [yn 61 (.bin .eql (R 55) (yi 12)),ym 60 61]) (.cond (R 60) ama amb)
def al9:ay:=.seq (yr [yn 58 (.bin .eql (R 55) (yi 0)),ym 57 58]) (.cond (R 57) al' al_)
def Ey:ay:=.seq (yr [yn 55 (.load ae (R 11))]) (.block 0 al9)
def al4:ay:=.seq (.seq (yr [ym 33 10,yn 34 (.bin .geq (R 33) (yi 8))]) (.cond (R 34) (al5 σ) .skip)) (Ey)
def al3:ay:=.seq (yr [ym 28 1,ym 29 10,yn 30 (.bin .quo (R 29) (yi 4)),yn 31 (.bin .mul (R 30) (yi 3)),yb 32 .add 28 31,ym 14 32]) (al4 σ)
def ap':ay:=.seq (yr [ym 23 1,ym 24 10,yn 25 (.bin .quo (R 24) (yi 4)),yn 26 (.bin .mul (R 25) (yi 2)),yb 27 .add 23 26,ym 13 27]) (al3 σ)
def ap9:ay:=.seq (yr [ym 18 1,ym 19 10,yn 20 (.bin .quo (R 19) (yi 4)),yn 21 (.bin .mul (R 20) (yi 1)),yb 22 .add 18 21,ym 12 22]) (ap' σ)
def ap8:ay:=.seq (yr [yn 11 (.alloc [(.int .i64 0)])]) (ap9 σ)
def ap7:ay:=.seq (yr [ym 15 2,ym 16 1,yb 17 .sub 15 16,ym 10 17]) (ap8 σ)
def ap6:ay:=.seq (yr [yn 8 (.bN (yi 0)),yn 9 (.bN (yi 0))]) (ap7 σ)
def Gf(σ:jS)(sz:Nat):aB:=⟨[P.nat 0,P.nat 1,P.nat 2,P.nat 3],[.tmp (P.nat 8),.tmp (P.nat 9)],(ap6 σ)⟩
end
section
variable(σ:jS)(sz:Nat)
def amk:ay:=yr [ym 32 9,yn 33 (.bin .sub (R 32) (yi 1)),ym 9 33]
def amj:ay:=.seq (yr [ym 30 8,yn 31 (.bin .add (R 30) (yi 1)),ym 8 31]) (amk)
def ami:ay:=.seq (yr [ym 16 0,ym 17 8,ym 18 0,ym 19 9,ym 20 0,ym 21 9,ya 22 sz 20 21,yl 23 sz 22,ym 24 0,ym 25 8,ya 26 sz 24 25,yl 27 sz 26,ya 28 sz 16 17,ys sz 28 23,ya 29 sz 18 19,ys sz 29 27]) (amj)
def aqv:ay:=.seq (.seq (yr [ym 13 8,ym 14 9,yb 15 .lss 13 14]) (.cond (R 15) .skip (.exit 0))) (.block 1 (ami sz))
def aqu:ay:=.seq (yr [ym 11 2,yn 12 (.bin .sub (R 11) (yi 1)),ym 9 12]) (.block 0 (.loop (aqv sz)))
def aqt:ay:=.seq (yr [ym 10 1,ym 8 10]) (aqu sz)
def Gm(σ:jS)(sz:Nat):aB:=⟨[P.nat 0,P.nat 1,P.nat 2,P.nat 3],[],(aqt sz)⟩
end
section
variable(σ:jS)(sz:Nat)
def agy:ay:=yr [ym 48 12,yn 49 (.bin .add (R 48) (yi 1)),ym 12 49]
def alk:ay:=.seq (.seq (yr [ym 32 12,ym 33 13,yb 34 .leq 32 33,ym 35 34,iY 36 4 35,iY 37 0 35,iY 38 12 35,⟨D 39,.aS sz ae (R 37) (R 38),G 35 ag⟩,yu 40 sz 39 35,iY 41 0 35,iY 42 1 35,⟨D 43,.aS sz ae (R 41) (R 42),G 35 ag⟩,yu 44 sz 43 35,⟨D 45,.cj (R 36) [R 40,R 44] ag,G 35 ag⟩,⟨D 46,.bin .lss (R 45) (yi 0),G 35 ag⟩,yn 47 (.pick (R 35) (R 46) yf)]) (.cond (R 47) .skip (.exit 0))) (.block 1 agy)
def aaH:ay:=.block 0 (.loop (alk sz))
def agB:ay:=yr [ym 67 13,yn 68 (.bin .sub (R 67) (yi 1)),ym 13 68]
def agA:ay:=.seq (.seq (yr [ym 50 12,ym 51 13,yb 52 .leq 50 51,ym 53 52,iY 54 4 53,iY 55 0 53,iY 56 13 53,⟨D 57,.aS sz ae (R 55) (R 56),G 53 ag⟩,yu 58 sz 57 53,iY 59 0 53,iY 60 1 53,⟨D 61,.aS sz ae (R 59) (R 60),G 53 ag⟩,yu 62 sz 61 53,⟨D 63,.cj (R 54) [R 58,R 62] ag,G 53 ag⟩,⟨D 64,.bin .lss (R 63) (yi 0),G 53 ag⟩,⟨D 65,.un .not (R 64),G 53 ag⟩,yn 66 (.pick (R 53) (R 65) yf)]) (.cond (R 66) .skip (.exit 2))) (.block 3 agB)
def F6:ay:=.block 2 (.loop (agA sz))
def agE:ay:=.seq (yr [ym 86 13,ym 10 86,yn 11 (.bN yt)]) .ret
def agD:ay:=.seq (yr [ym 72 0,ym 73 13,ym 74 0,ym 75 1,ym 76 0,ym 77 1,ya 78 sz 76 77,yl 79 sz 78,ym 80 0,ym 81 13,ya 82 sz 80 81,yl 83 sz 82,ya 84 sz 72 73,ys sz 84 79,ya 85 sz 74 75,ys sz 85 83]) (agE)
def agL:ay:=yr [ym 121 12,yn 122 (.bin .add (R 121) (yi 1)),ym 12 122]
def agK:ay:=.seq (.seq (yr [ym 105 12,ym 106 13,yb 107 .leq 105 106,ym 108 107,iY 109 4 108,iY 110 0 108,iY 111 12 108,⟨D 112,.aS sz ae (R 110) (R 111),G 108 ag⟩,yu 113 sz 112 108,iY 114 0 108,iY 115 1 108,⟨D 116,.aS sz ae (R 114) (R 115),G 108 ag⟩,yu 117 sz 116 108,⟨D 118,.cj (R 109) [R 113,R 117] ag,G 108 ag⟩,⟨D 119,.bin .lss (R 118) (yi 0),G 108 ag⟩,yn 120 (.pick (R 108) (R 119) yf)]) (.cond (R 120) .skip (.exit 6))) (.block 7 agL)
def F7:ay:=.block 6 (.loop (agK sz))
def agO:ay:=yr [ym 140 13,yn 141 (.bin .sub (R 140) (yi 1)),ym 13 141]
def agN:ay:=.seq (.seq (yr [ym 123 12,ym 124 13,yb 125 .leq 123 124,ym 126 125,iY 127 4 126,iY 128 0 126,iY 129 13 126,⟨D 130,.aS sz ae (R 128) (R 129),G 126 ag⟩,yu 131 sz 130 126,iY 132 0 126,iY 133 1 126,⟨D 134,.aS sz ae (R 132) (R 133),G 126 ag⟩,yu 135 sz 134 126,⟨D 136,.cj (R 127) [R 131,R 135] ag,G 126 ag⟩,⟨D 137,.bin .lss (R 136) (yi 0),G 126 ag⟩,⟨D 138,.un .not (R 137),G 126 ag⟩,yn 139 (.pick (R 126) (R 138) yf)]) (.cond (R 139) .skip (.exit 8))) (.block 9 agO)
def F8:ay:=.block 8 (.loop (agN sz))
def agS:ay:=yr [ym 161 13,yn 162 (.bin .sub (R 161) (yi 1)),ym 13 162]
def agR:ay:=.seq (yr [ym 159 12,yn 160 (.bin .add (R 159) (yi 1)),ym 12 160]) (agS)
def agQ:ay:=.seq (yr [ym 145 0,ym 146 12,ym 147 0,ym 148 13,ym 149 0,ym 150 13,ya 151 sz 149 150,yl 152 sz 151,ym 153 0,ym 154 12,ya 155 sz 153 154,yl 156 sz 155,ya 157 sz 145 146,ys sz 157 152,ya 158 sz 147 148,ys sz 158 156]) (agR)
def agP:ay:=.seq (.seq (yr [ym 142 12,ym 143 13,yb 144 .gtr 142 143]) (.cond (R 144) (.exit 4) .skip)) (agQ sz)
def agM:ay:=.seq (F8 sz) (agP sz)
def agJ:ay:=.seq (F7 sz) (agM sz)
def agT:ay:=.seq (yr [ym 177 13,ym 10 177,yn 11 (.bN yf)]) .ret
def F9:ay:=.seq (yr [ym 163 0,ym 164 13,ym 165 0,ym 166 1,ym 167 0,ym 168 1,ya 169 sz 167 168,yl 170 sz 169,ym 171 0,ym 172 13,ya 173 sz 171 172,yl 174 sz 173,ya 175 sz 163 164,ys sz 175 170,ya 176 sz 165 166,ys sz 176 174]) (agT)
def agI:ay:=.seq (.block 4 (.loop (.block 5 (agJ sz)))) (F9 sz)
def agH:ay:=.seq (yr [ym 103 13,yn 104 (.bin .sub (R 103) (yi 1)),ym 13 104]) (agI sz)
def agG:ay:=.seq (yr [ym 101 12,yn 102 (.bin .add (R 101) (yi 1)),ym 12 102]) (agH sz)
def agF:ay:=.seq (yr [ym 87 0,ym 88 12,ym 89 0,ym 90 13,ym 91 0,ym 92 13,ya 93 sz 91 92,yl 94 sz 93,ym 95 0,ym 96 12,ya 97 sz 95 96,yl 98 sz 97,ya 99 sz 87 88,ys sz 99 94,ya 100 sz 89 90,ys sz 100 98]) (agG sz)
def agC:ay:=.seq (.seq (yr [ym 69 12,ym 70 13,yb 71 .gtr 69 70]) (.cond (R 71) (agD sz) .skip)) (agF sz)
def agz:ay:=.seq (F6 sz) (agC sz)
def alj:ay:=.seq (aaH sz) (agz sz)
def ali:ay:=.seq (yr [ym 28 1,yn 29 (.bin .add (R 28) (yi 1)),ym 30 2,yn 31 (.bin .sub (R 30) (yi 1)),ym 12 29,ym 13 31]) (alj sz)
def alh:ay:=.seq (yr [ym 14 0,ym 15 1,ym 16 0,ym 17 3,ym 18 0,ym 19 3,ya 20 sz 18 19,yl 21 sz 20,ym 22 0,ym 23 1,ya 24 sz 22 23,yl 25 sz 24,ya 26 sz 14 15,ys sz 26 21,ya 27 sz 16 17,ys sz 27 25]) (ali sz)
def alg:ay:=.seq (yr [yn 10 (.bN (yi 0)),yn 11 (.bN yf)]) (alh sz)
def zx(σ:jS)(sz:Nat):aB:=⟨[P.nat 0,P.nat 1,P.nat 2,P.nat 3,P.nat 4],[.tmp (P.nat 10),.tmp (P.nat 11)],(alg sz)⟩
end
section
variable(σ:jS)(sz:Nat)
def alO:ay:=yr [ym 48 11,yn 49 (.bin .add (R 48) (yi 1)),ym 11 49]
def alN:ay:=.seq (.seq (yr [ym 31 11,ym 32 12,yb 33 .leq 31 32,ym 34 33,iY 35 4 34,iY 36 0 34,iY 37 1 34,⟨D 38,.aS sz ae (R 36) (R 37),G 34 ag⟩,yu 39 sz 38 34,iY 40 0 34,iY 41 11 34,⟨D 42,.aS sz ae (R 40) (R 41),G 34 ag⟩,yu 43 sz 42 34,⟨D 44,.cj (R 35) [R 39,R 43] ag,G 34 ag⟩,⟨D 45,.bin .lss (R 44) (yi 0),G 34 ag⟩,⟨D 46,.un .not (R 45),G 34 ag⟩,yn 47 (.pick (R 34) (R 46) yf)]) (.cond (R 47) .skip (.exit 2))) (.block 3 alO)
def aaR:ay:=.block 2 (.loop (alN sz))
def alR:ay:=yr [ym 66 12,yn 67 (.bin .sub (R 66) (yi 1)),ym 12 67]
def alQ:ay:=.seq (.seq (yr [ym 50 11,ym 51 12,yb 52 .leq 50 51,ym 53 52,iY 54 4 53,iY 55 0 53,iY 56 1 53,⟨D 57,.aS sz ae (R 55) (R 56),G 53 ag⟩,yu 58 sz 57 53,iY 59 0 53,iY 60 12 53,⟨D 61,.aS sz ae (R 59) (R 60),G 53 ag⟩,yu 62 sz 61 53,⟨D 63,.cj (R 54) [R 58,R 62] ag,G 53 ag⟩,⟨D 64,.bin .lss (R 63) (yi 0),G 53 ag⟩,yn 65 (.pick (R 53) (R 64) yf)]) (.cond (R 65) .skip (.exit 4))) (.block 5 alR)
def aaS:ay:=.block 4 (.loop (alQ sz))
def alV:ay:=yr [ym 87 12,yn 88 (.bin .sub (R 87) (yi 1)),ym 12 88]
def alU:ay:=.seq (yr [ym 85 11,yn 86 (.bin .add (R 85) (yi 1)),ym 11 86]) (alV)
def alT:ay:=.seq (yr [ym 71 0,ym 72 11,ym 73 0,ym 74 12,ym 75 0,ym 76 12,ya 77 sz 75 76,yl 78 sz 77,ym 79 0,ym 80 11,ya 81 sz 79 80,yl 82 sz 81,ya 83 sz 71 72,ys sz 83 78,ya 84 sz 73 74,ys sz 84 82]) (alU)
def alS:ay:=.seq (.seq (yr [ym 68 11,ym 69 12,yb 70 .gtr 68 69]) (.cond (R 70) (.exit 0) .skip)) (alT sz)
def alP:ay:=.seq (aaS sz) (alS sz)
def alM:ay:=.seq (aaR sz) (alP sz)
def aaT:ay:=.seq (yr [ym 89 11,ym 10 89]) .ret
def ap5:ay:=.seq (.block 0 (.loop (.block 1 (alM sz)))) (aaT)
def ap4:ay:=.seq (yr [ym 27 1,yn 28 (.bin .add (R 27) (yi 1)),ym 29 2,yn 30 (.bin .sub (R 29) (yi 1)),ym 11 28,ym 12 30]) (ap5 sz)
def ap3:ay:=.seq (yr [ym 13 0,ym 14 1,ym 15 0,ym 16 3,ym 17 0,ym 18 3,ya 19 sz 17 18,yl 20 sz 19,ym 21 0,ym 22 1,ya 23 sz 21 22,yl 24 sz 23,ya 25 sz 13 14,ys sz 25 20,ya 26 sz 15 16,ys sz 26 24]) (ap4 sz)
def ap2:ay:=.seq (yr [yn 10 (.bN (yi 0))]) (ap3 sz)
def F_(σ:jS)(sz:Nat):aB:=⟨[P.nat 0,P.nat 1,P.nat 2,P.nat 3,P.nat 4],[.tmp (P.nat 10)],(ap2 sz)⟩
end
section
variable(σ:jS)(sz:Nat)
def ag1:ay:=yr [ym 37 9,yn 38 (.bin .add (R 37) (yi 1)),ym 9 38]
def ag0:ay:=.seq (.seq (yr [ym 19 9,ym 20 2,yb 21 .lss 19 20,ym 22 21,iY 23 3 22,iY 24 0 22,iY 25 9 22,⟨D 26,.aS sz ae (R 24) (R 25),G 22 ag⟩,yu 27 sz 26 22,iY 28 0 22,iY 29 9 22,⟨D 30,.bin .sub (R 29) (yi 1),G 22 ag⟩,⟨D 31,.aS sz ae (R 28) (R 30),G 22 ag⟩,yu 32 sz 31 22,⟨D 33,.cj (R 23) [R 27,R 32] ag,G 22 ag⟩,⟨D 34,.bin .lss (R 33) (yi 0),G 22 ag⟩,⟨D 35,.un .not (R 34),G 22 ag⟩,yn 36 (.pick (R 22) (R 35) yf)]) (.cond (R 36) .skip (.exit 2))) (.block 3 ag1)
def Gb:ay:=.block 2 (.loop (ag0 sz))
def ag3:ay:=.seq (yr [yn 8 (.bN yt)]) .ret
def ag5:ay:=.seq (yr [yn 8 (.bN yf)]) .ret
def aha:ay:=yr [ym 85 0,ym 86 11,ym 87 0,ym 88 11,yn 89 (.bin .sub (R 88) (yi 1)),ym 90 0,ym 91 11,yn 92 (.bin .sub (R 91) (yi 1)),ya 93 sz 90 92,yl 94 sz 93,ym 95 0,ym 96 11,ya 97 sz 95 96,yl 98 sz 97,ya 99 sz 85 86,ys sz 99 94,ya 100 sz 87 89,ys sz 100 98]
def ag_:ay:=.seq (.seq (yr [ym 72 3,ym 73 0,ym 74 11,ya 75 sz 73 74,yl 76 sz 75,ym 77 0,ym 78 11,yn 79 (.bin .sub (R 78) (yi 1)),ya 80 sz 77 79,yl 81 sz 80,yn 82 (.cj (R 72) [R 76,R 81] ag),yn 83 (.bin .lss (R 82) (yi 0)),yn 84 (.un .not (R 83))]) (.cond (R 84) (.exit 4) .skip)) (aha sz)
def ahb:ay:=yr [ym 70 11,yn 71 (.bin .sub (R 70) (yi 1)),ym 11 71]
def ag':ay:=.seq (.block 5 (ag_ sz)) (ahb)
def ag9:ay:=.seq (.seq (yr [ym 68 11,yn 69 (.bin .geq (R 68) (yi 1))]) (.cond (R 69) .skip (.exit 4))) (ag' sz)
def Gc:ay:=.block 4 (.loop (ag9 sz))
def ag8:ay:=.seq (yr [ym 66 9,yn 67 (.bin .sub (R 66) (yi 1)),ym 11 67]) (Gc sz)
def ahg:ay:=yr [ym 125 0,ym 126 12,ym 127 0,ym 128 12,yn 129 (.bin .sub (R 128) (yi 1)),ym 130 0,ym 131 12,yn 132 (.bin .sub (R 131) (yi 1)),ya 133 sz 130 132,yl 134 sz 133,ym 135 0,ym 136 12,ya 137 sz 135 136,yl 138 sz 137,ya 139 sz 125 126,ys sz 139 134,ya 140 sz 127 129,ys sz 140 138]
def ahf:ay:=.seq (.seq (yr [ym 112 3,ym 113 0,ym 114 12,ya 115 sz 113 114,yl 116 sz 115,ym 117 0,ym 118 12,yn 119 (.bin .sub (R 118) (yi 1)),ya 120 sz 117 119,yl 121 sz 120,yn 122 (.cj (R 112) [R 116,R 121] ag),yn 123 (.bin .lss (R 122) (yi 0)),yn 124 (.un .not (R 123))]) (.cond (R 124) (.exit 6) .skip)) (ahg sz)
def ahh:ay:=yr [ym 110 12,yn 111 (.bin .add (R 110) (yi 1)),ym 12 111]
def ahe:ay:=.seq (.block 7 (ahf sz)) (ahh)
def ahd:ay:=.seq (.seq (yr [ym 107 12,ym 108 2,yb 109 .lss 107 108]) (.cond (R 109) .skip (.exit 6))) (ahe sz)
def Ge:ay:=.block 6 (.loop (ahd sz))
def ahc:ay:=.seq (yr [ym 105 9,yn 106 (.bin .add (R 105) (yi 1)),ym 12 106]) (Ge sz)
def Gd:ay:=.seq (yr [ym 101 2,ym 102 9,yb 103 .sub 101 102,yn 104 (.bin .geq (R 103) (yi 2))]) (.cond (R 104) (ahc sz) .skip)
def ag7:ay:=.seq (.seq (yr [ym 62 9,ym 63 1,yb 64 .sub 62 63,yn 65 (.bin .geq (R 64) (yi 2))]) (.cond (R 65) (ag8 sz) .skip)) (Gd sz)
def ag6:ay:=.seq (yr [ym 46 0,ym 47 9,ym 48 0,ym 49 9,yn 50 (.bin .sub (R 49) (yi 1)),ym 51 0,ym 52 9,yn 53 (.bin .sub (R 52) (yi 1)),ya 54 sz 51 53,yl 55 sz 54,ym 56 0,ym 57 9,ya 58 sz 56 57,yl 59 sz 58,ya 60 sz 46 47,ys sz 60 55,ya 61 sz 48 50,ys sz 61 59]) (ag7 sz)
def ag4:ay:=.seq (.seq (yr [ym 42 2,ym 43 1,yb 44 .sub 42 43,yn 45 (.bin .lss (R 44) (yi 50))]) (.cond (R 45) ag5 .skip)) (ag6 sz)
def ag2:ay:=.seq (.seq (yr [ym 39 9,ym 40 2,yb 41 .eql 39 40]) (.cond (R 41) ag3 .skip)) (ag4 sz)
def agZ:ay:=.seq (Gb sz) (ag2 sz)
def zA:ay:=yr [ym 17 10,yn 18 (.bin .add (R 17) (yi 1)),ym 10 18]
def agY:ay:=.seq (.block 1 (agZ sz)) (zA)
def Ew:ay:=.seq (.seq (yr [ym 15 10,yn 16 (.bin .lss (R 15) (yi 5))]) (.cond (R 16) .skip (.exit 0))) (agY sz)
def tk:ay:=.seq (yr [yn 8 (.bN yf)]) .ret
def al2:ay:=.seq (.seq (yr [yn 10 (.bN (yi 0))]) (.block 0 (.loop (Ew sz)))) (tk)
def al1:ay:=.seq (yr [ym 13 1,yn 14 (.bin .add (R 13) (yi 1)),ym 9 14]) (al2 sz)
def al0:ay:=.seq (yr [yn 8 (.bN yf)]) (al1 sz)
def zB(σ:jS)(sz:Nat):aB:=⟨[P.nat 0,P.nat 1,P.nat 2,P.nat 3],[.tmp (P.nat 8)],(al0 sz)⟩
end
def akM(σ:jS):ay:=.seq (yr [ym 9 0,ym 10 1,yn 11 (.bin .sub (R 10) (yi 1)),ym 12 1,ym 13 1,yn 14 (.bin .add (R 13) (yi 1)),ym 15 2,ym 16 3,yn 17 (.call σ.med [R 9,R 11,R 12,R 14,R 15,R 16] ag),ym 8 17]) .ret
def akL(σ:jS):ay:=.seq (yr [yn 8 (.bN (yi 0))]) (akM σ)
def uJ(σ:jS)(sz:Nat):aB:=⟨[P.nat 0,P.nat 1,P.nat 2,P.nat 3],[.tmp (P.nat 8)],(akL σ)⟩
section
variable(σ:jS)(sz:Nat)
def aoM:ay:=.seq (yr [ym 40 2,ym 12 40]) .ret
def aoL:ay:=.seq (yr [ym 32 0,ym 33 1,ym 34 2,ym 35 4,ym 36 5,yn 37 (.call σ.ord [R 32,R 33,R 34,R 35,R 36] ag),ym 31 37,yn 38 (.extract (R 31) 0),yn 39 (.extract (R 31) 1),ym 1 38,ym 2 39]) (aoM)
def aoK:ay:=.seq (yr [ym 23 0,ym 24 2,ym 25 3,ym 26 4,ym 27 5,yn 28 (.call σ.ord [R 23,R 24,R 25,R 26,R 27] ag),ym 22 28,yn 29 (.extract (R 22) 0),yn 30 (.extract (R 22) 1),ym 2 29,ym 3 30]) (aoL σ)
def aoJ:ay:=.seq (yr [ym 14 0,ym 15 1,ym 16 2,ym 17 4,ym 18 5,yn 19 (.call σ.ord [R 14,R 15,R 16,R 17,R 18] ag),ym 13 19,yn 20 (.extract (R 13) 0),yn 21 (.extract (R 13) 1),ym 1 20,ym 2 21]) (aoK σ)
def aoI:ay:=.seq (yr [yn 12 (.bN (yi 0))]) (aoJ σ)
def xG(σ:jS)(sz:Nat):aB:=⟨[P.nat 0,P.nat 1,P.nat 2,P.nat 3,P.nat 4,P.nat 5],[.tmp (P.nat 12)],(aoI σ)⟩
end
section
variable(σ:jS)(sz:Nat)
def apa:ay:=.seq (yr [ym 28 2,ym 29 1,ym 10 28,ym 11 29]) .ret
def ao_:ay:=.seq (yr [ym 23 3,yn 24 (.bE (R 23)),yn 25 (.load ae (R 24)),yn 26 (.bin .add (R 25) (yi 1)),yn 27 (.bE (R 23)),ys 1 27 26]) (apa)
def ak3:ay:=.seq (yr [ym 30 1,ym 31 2,ym 10 30,ym 11 31]) .ret
def ao':ay:=.seq (.seq (yr [ym 12 4,ym 13 0,ym 14 2,ya 15 sz 13 14,yl 16 sz 15,ym 17 0,ym 18 1,ya 19 sz 17 18,yl 20 sz 19,yn 21 (.cj (R 12) [R 16,R 20] ag),yn 22 (.bin .lss (R 21) (yi 0))]) (.cond (R 22) ao_ .skip)) (ak3)
def ao9:ay:=.seq (yr [yn 10 (.bN (yi 0)),yn 11 (.bN (yi 0))]) (ao' sz)
def uS(σ:jS)(sz:Nat):aB:=⟨[P.nat 0,P.nat 1,P.nat 2,P.nat 3,P.nat 4],[.tmp (P.nat 10),.tmp (P.nat 11)],(ao9 sz)⟩
end
def aoP(σ:jS):ay:=.seq (yr [ym 3 0,yn 4 (.eX .u64 (R 3)),yn 5 (.call σ.len [R 4] ah),yn 6 (.bin .shl (.k (.c (.f (.int .u64 1)))) (R 5)),ym 2 6]) .ret
def aoO(σ:jS):ay:=.seq (yr [yn 2 (.bN (.k (.c (.f (.int .u64 0)))))]) (aoP σ)
def FX(σ:jS)(sz:Nat):aB:=⟨[P.nat 0],[.tmp (P.nat 2)],(aoO σ)⟩
section
variable(σ:jS)(sz:Nat)
def aoU:ay:=.seq (yr [ym 30 0,yn 31 (.bE (R 30)),yn 32 (.load ae (R 31)),ym 2 32]) .ret
def aoT:ay:=.seq (yr [ym 21 0,yn 22 (.bE (R 21)),yn 23 (.load ae (R 22)),ym 24 0,yn 25 (.bE (R 24)),yn 26 (.load ae (R 25)),yn 27 (.bin .shl (R 26) (.k (.c (.f (.int .u64 17))))),yb 28 .xor 23 27,yn 29 (.bE (R 21)),ys 1 29 28]) (aoU)
def aoS:ay:=.seq (yr [ym 12 0,yn 13 (.bE (R 12)),yn 14 (.load ae (R 13)),ym 15 0,yn 16 (.bE (R 15)),yn 17 (.load ae (R 16)),yn 18 (.bin .shr (R 17) (.k (.c (.f (.int .u64 7))))),yb 19 .xor 14 18,yn 20 (.bE (R 12)),ys 1 20 19]) (aoT)
def aoR:ay:=.seq (yr [ym 3 0,yn 4 (.bE (R 3)),yn 5 (.load ae (R 4)),ym 6 0,yn 7 (.bE (R 6)),yn 8 (.load ae (R 7)),yn 9 (.bin .shl (R 8) (.k (.c (.f (.int .u64 13))))),yb 10 .xor 5 9,yn 11 (.bE (R 3)),ys 1 11 10]) (aoS)
def aoQ:ay:=.seq (yr [yn 2 (.bN (.k (.c (.f (.int .u64 0)))))]) (aoR)
def FY(σ:jS)(sz:Nat):aB:=⟨[P.nat 0],[.tmp (P.nat 2)],(aoQ)⟩
end
end
section
open Go
def Cv(tab:Nat→Option aB)(cv:V)(W:List FC→Prop)(c:List FC→List FC→Int):Prop:=
 ∀ x y,W x→W y→∀ H,∃ F b J,ca cv [.a (x.map .f),.a (y.map .f)]=ab (.fn F,b)∧Ev tab (.fn F) b H (vi (c x y)) (H++J)
section
variable{W:List FC→Prop}{c:List FC→List FC→Int}{l:List (List FC)}
theorem kH.of_lt{i j:Nat}(hc:tJ W c)(g:∀ r ∈ l,W r){x y:List FC}(m:l[i]?=ab x)(hy:l[j]?=ab y)(h:c x y<0):kH c l i j:=fun q s b d=>by
 rw [m]at b;rw [hy]at d;cases b;cases d;exact hc.Be (g _ (atZ m)) (g _ (atZ hy)) h
theorem kH.of_le{i j:Nat}{x y:List FC}(g:l[i]?=ab x)(hy:l[j]?=ab y)(h:¬ c y x<0):kH c l i j:=fun m q b d=>by
 rw [g]at b;rw [hy]at d;cases b;cases d;exact h
theorem kH.get{b:List (List FC)}{i j i' d:Nat}(h:kH c l i j)(g:b[i']?=l[i]?)(m:b[d]?=l[j]?):kH c b i' d:=fun x y q hy=>h x y (by rw [←g];exact q) (by rw [←m];exact hy)
def Fe(c:List FC→List FC→Int)(a i j:Nat)(l:List (List FC)):Prop:=∀ p q,a≤p→p<q→q≤i→q≠j→kH c l p q
theorem Fe.start{a i:Nat}(h:Up c a i l):Fe c a i i l:=fun p q b d g j=>fun x y=>h p q x y b d (by omega)
theorem Fe.step{a i j:Nat}(hc:tJ W c)(A:∀ r ∈ l,W r)(h:Fe c a i (j+1) l)(B:a≤j)(F:j+1≤i)(hi:i<l.length){x y:List FC}(E:l[j+1]?=ab x)(hy:l[j]?=ab y)(s:c x y<0):Fe c a i j (jn l (j+1) j):=by
 intro p q u v m z;have g:∀ k,(jn l (j+1) j)[k]?=if k=j then l[j+1]? else if k=j+1 then l[j]? else l[k]?:=fun k=>hY (by omega) (by omega) k;by_cases b:q=j+1
 ·subst b;by_cases p1:p=j
  ·subst p1;exact(kH.of_lt hc A E hy s).get (by rw [g,bg rfl]) (by rw [g,aY (by omega),bg rfl])
  ·exact(h p j u (by omega) (by omega) (by omega)).get (by rw [g,aY (by omega),aY (by omega)]) (by rw [g,aY (by omega),bg rfl])
 ·have d:(jn l (j+1) j)[q]?=l[q]?:=by rw [g,aY z,aY b]
  by_cases p1:p=j
  ·subst p1;exact(h (p+1) q (by omega) (by omega) m b).get (by rw [g,bg rfl]) d
  by_cases p2:p=j+1
  ·subst p2;exact(h j q B (by omega) m b).get (by rw [g,aY (by omega),bg rfl]) d
  ·exact(h p q u v m b).get (by rw [g,aY p1,aY p2]) d
theorem Fe.front{a i:Nat}(h:Fe c a i a l):Up c a (i+1) l:=fun p q x y b d g=>h p q b d (by omega) (by omega) x y
theorem Fe.stop{a i j:Nat}(hc:tJ W c)(s:∀ r ∈ l,W r)(h:Fe c a i (j+1) l)(v:a≤j)(z:j+1≤i)(hi:i<l.length)(b:kH c l j (j+1)):Up c a (i+1) l:=by
 intro p q x y d m u;by_cases g:q=j+1
 ·subst g;by_cases p1:p=j
  ·subst p1;exact b x y
  ·exact((h p j d (by omega) (by omega) (by omega)).trans hc s b (by omega)) x y
 ·exact h p q d m (by omega) g x y
end
section
variable{tab:Nat→Option aB}{σ:jS}{sz:Nat}{H:an}{b ep:Nat}{rows:List (List FC)}{cv:V}{W:List FC→Prop}{c:List FC→List FC→Int}
theorem RB.at(h:RB H b sz ep rows){i:Nat}(hi:i<rows.length):aL H sz ae (.c (.sl b 0 rows.length 0 ep sz)) (vi i)=ab (.c (.ptr b (i*sz) ep)):=by
 have:=h.idx (n:=rows.length) (c:=0) (k:=.i64) (o:=0) (i:=(i:Int)) (by omega) (by omega);rwa [Int.toNat_natCast,auJ]at this
theorem RB.ldi(h:RB H b sz ep rows)(hg:bO sz rows){i:Nat}(hi:i<rows.length):aV H (ab sz) (.c (.ptr b (i*sz) ep))=ab (.a (rows[i].map .f)):=h.ldr hg (AT hi)
theorem akC(hT:tab σ.ins=ab (xu σ sz))(b9:Cv tab cv W c)(hc:tJ W c){n a e:Nat}(hn:rows.length=n)(hl:n≤1000000000)(d:RB H b sz ep rows)(hg:bO sz rows)(hW:∀ r ∈ rows,W r)(c_:a≤e)(d5:e≤n) :
  ∃ r H',Ev tab (.fn σ.ins) [.c (.sl b 0 n 0 ep sz),vi a,vi e,cv] H r H'∧(r=.t []∧Fm b H H'∧∃ l',RB H' b sz ep l'∧eu a e rows l'∧Up c a e l'):=by
 refine dt hT rfl fun Q hQ=>?_;apply aj;simp [aN (n:=(a:Int)+1)];refine az ?_;refine bG (fun m s=>∃(i:Nat) (t:T) (U:an) (l:List (List FC)),s=⟨t,[],U⟩∧m=n+1-i∧a+1≤i∧(i≤e∨i=a+1)∧t.g 0=.c (.sl b 0 n 0 ep sz)∧t.g 1=vi a∧t.g 2=vi e∧t.g 3=cv∧t.g 8=vi i ∧
  Fm b H U∧RB U b sz ep l∧eu a e rows l∧Up c a i l) _
  ⟨a+1,_,H,rows,rfl,rfl,by omega,.inr rfl,by simp,by simp,by simp,by simp,by simp,Fm.refl H,d,eu.refl _ _ _,Up.one (by omega)⟩ ?_
 rintro m s ⟨i,t,U,l,rfl,rfl,d6,hi,B,E,L,M,I,v,d,g,b7⟩ ih;have A:=g.len;apply aq;apply aj;simp [I,L];by_cases a_:i<e
 case neg=>
  refine al (by simp [a_]) ?_;refine bf (k':=[]) rfl ?_;exact jX (hQ _ _ _ rfl rfl ⟨rfl,v,l,d,g,b7.mono (aft _) (by omega)⟩)
 refine ak (by simp [a_]) (aH ?_);apply aq;refine az ?_;apply aj;simp [I];refine az ?_;refine bG (fun m s=>∃(j:Nat) (t:T) (O:an) (q:List (List FC)),s=⟨t,[],O⟩∧j=m∧a≤j∧j≤i∧t.g 0=.c (.sl b 0 n 0 ep sz)∧t.g 1=vi a∧t.g 2=vi e∧t.g 3=cv∧t.g 8=vi i∧t.g 9=vi j ∧
  Fm b H O∧RB O b sz ep q∧eu a e rows q∧Fe c a i j q) i
  ⟨i,_,U,l,rfl,rfl,by omega,by omega,by simp [B],by simp [E],by simp [L],by simp [M],by simp [I],by simp,v,d,g,Fe.start b7⟩ ?_
 rintro m s ⟨j,t,O,q,rfl,rfl,d7,a9,B,E,L,M,I,X,v,d,g,z⟩ c9;have A:=g.len;have x:=g.sU hg;have K:∀ r ∈ q,W r:=fun r hr=>hW r (g.1.mem_iff.1 hr);have stop:Up c a (i+1) q→∀ t:T,t.g 0=.c (.sl b 0 n 0 ep sz)→t.g 1=vi a→t.g 2=vi e→t.g 3=cv→t.g 8=vi i→∀ S,Fm b H S→RB S b sz ep q →
   WP tab σ.ins ae [.inBlock 1,.code (y7),.inLoop (FH sz),.inBlock 0] ⟨t,[],S⟩ Q:=by
  intro hp t B E L M I S v d;refine aw (au (.inl rfl) ?_);simp [I,aN (n:=(i:Int)+1)];exact ih (n+1-(i+1)) _ (by omega) ⟨i+1,_,S,q,rfl,rfl,by omega,.inl (by omega),by simp [B],by simp [E],by simp [L],by simp [M],by simp,v,d,g,hp⟩
 apply aq;apply aj;by_cases hj:j=a
 ·subst hj;simp [X,E];refine al (by simp) ?_;refine bf (k':=[.inBlock 1,.code (y7),.inLoop (FH sz),.inBlock 0]) rfl ?_;exact stop z.front _ (by simp [B]) (by simp [E]) (by simp [L]) (by simp [M]) (by simp [I]) _ v d
 obtain⟨k,rfl⟩:∃ k,j=k+1:=⟨j-1,by omega⟩
 have N:k+1<q.length:=by omega
 have c1:((k+1:Nat):Int)=(k:Int)+1:=by omega
 have i1:=d.at N;have i0:=d.at (show k<q.length by omega);have l1:=d.ldi x N;have l0:=d.ldi x (show k<q.length by omega);rw [A,hn]at i1 i0;rw [c1]at i1 X;obtain⟨F,ar,J,Z,b_⟩:=b9 q[k+1] q[k] (K _ (IS _)) (K _ (IS _)) O;have he:=b_.eq;have gt:(a:Int)<(k:Int)+1:=by omega
 simp [X,B,E,M,gt,i1,i0,l1,l0,Z,he,-av,aN (n:=(k:Int))];by_cases y:c q[k+1] q[k]<0
 case neg=>
  refine al (by simp [y]) ?_;refine bf (k':=[.inBlock 1,.code (y7),.inLoop (FH sz),.inBlock 0]) rfl ?_;exact stop (z.stop hc K (by omega) a9 (by omega) (kH.of_le (AT (by omega)) (AT N) y)) _ (by simp [B]) (by simp [E]) (by simp [L]) (by simp [M]) (by simp [I]) _ (v.trans (Fm.push _ _)) (d.push _)
 refine ak (by simp [y]) (aH ?_);have w1:q[k+1].length=sz:=x _ (IS _);have w0:q[k].length=sz:=x _ (IS _);have u:=d.push J;obtain⟨HJ,Y⟩:=aP (O++J);rw [←Y]at u ⊢;have a7:Fm b H HJ:=by rw [Y];exact v.trans (Fm.push _ _)
 have i1:=u.at N;have i0:=u.at (show k<q.length by omega);have l1:=u.ldi x N;have l0:=u.ldi x (show k<q.length by omega);obtain⟨S,H4,s1,r1,s2,r2,f2⟩:=u.swap x N (show k<q.length by omega);have i2:=r1.at (show k<(q.set (k+1) q[k]).length by simp;omega);rw [List.length_set]at i2;rw [A,hn]at i1 i0 i2;rw [c1]at i1;apply aq;refine az ?_;refine au (.inl rfl) ?_;simp [X,B,i1,i0,i2,l1,l0,s1,s2,w1,w0,-av,-bs,aN (n:=(k:Int))];refine aw ?_;refine au (.inl rfl) ?_;simp [X,aN (n:=(k:Int))];exact c9 k _ (by omega) ⟨k,_,H4,jn q (k+1) k,rfl,rfl,by omega,by omega,by simp [B],by simp [E],by simp [L],by simp [M],by simp [I],by simp,a7.trans f2,r2,
  g.trans (eP (by omega) (by omega) (by omega) (by omega) (by omega)),z.step hc K (by omega) a9 (by omega) (AT N) (AT (by omega)) y⟩
end
end
section
open Go
section
variable{tab:Nat→Option aB}{σ:jS}{sz:Nat}{H:an}{b ep:Nat}{rows:List (List FC)}{cv:V}{W:List FC→Prop}{c:List FC→List FC→Int}
theorem RB.jn(h:RB H b sz ep rows)(hg:bO sz rows){n i j:Nat}(q:rows.length=n)(hi:i<n)(l:j<n):∃(x y:List FC) (d g:an),rows[i]?=ab x∧rows[j]?=ab y ∧
  aL H sz ae (.c (.sl b 0 n 0 ep sz)) (vi i)=ab (.c (.ptr b (i*sz) ep))∧aL H sz ae (.c (.sl b 0 n 0 ep sz)) (vi j)=ab (.c (.ptr b (j*sz) ep)) ∧
  aV H (ab sz) (.c (.ptr b (i*sz) ep))=ab (.a (x.map .f))∧aV H (ab sz) (.c (.ptr b (j*sz) ep))=ab (.a (y.map .f))∧x.length=sz∧y.length=sz ∧
  dn H (.ptr b (i*sz) ep) (y.map .f)=ab d∧aL d sz ae (.c (.sl b 0 n 0 ep sz)) (vi j)=ab (.c (.ptr b (j*sz) ep))∧dn d (.ptr b (j*sz) ep) (x.map .f)=ab g∧RB g b sz ep (jn rows i j)∧Fm b H g:=by
 subst q;obtain⟨d,g,s,r1,u,r2,m⟩:=h.swap hg hi l;have i2:=r1.at (show j<(rows.set i rows[j]).length by simpa using l);rw [List.length_set]at i2;exact⟨rows[i],rows[j],d,g,AT hi,AT l,h.at hi,h.at l,h.ldi hg hi,h.ldi hg l,hg _ (IS _),hg _ (IS _),s,i2,u,r2,m⟩
theorem RB.ask(h:RB H b sz ep rows)(hg:bO sz rows)(l:Cv tab cv W c)(g:∀ r ∈ rows,W r){n i j:Nat}(u:rows.length=n)(hi:i<n)(m:j<n):∃(x y:List FC) (F:Nat) (d:List V) (J:an),rows[i]?=ab x∧rows[j]?=ab y ∧
  aL H sz ae (.c (.sl b 0 n 0 ep sz)) (vi i)=ab (.c (.ptr b (i*sz) ep))∧aL H sz ae (.c (.sl b 0 n 0 ep sz)) (vi j)=ab (.c (.ptr b (j*sz) ep)) ∧
  aV H (ab sz) (.c (.ptr b (i*sz) ep))=ab (.a (x.map .f))∧aV H (ab sz) (.c (.ptr b (j*sz) ep))=ab (.a (y.map .f)) ∧
  ca cv [.a (x.map .f),.a (y.map .f)]=ab (.fn F,d)∧Ev tab (.fn F) d H=E2 (vi (c x y)) (H++J)∧W x∧W y:=by
 subst u;obtain⟨F,d,J,q,s⟩:=l rows[i] rows[j] (g _ (IS _)) (g _ (IS _)) H;exact⟨rows[i],rows[j],F,d,J,AT hi,AT m,h.at hi,h.at m,h.ldi hg hi,h.ldi hg m,q,s.eq,g _ (IS _),g _ (IS _)⟩
theorem aml(M:tab σ.rev=ab (Gm σ sz)){n a e:Nat}(Y:rows.length=n)(hl:n≤1000000000)(q:RB H b sz ep rows)(S:bO sz rows)(N:a<e)(O:e≤n) :
  ∃ r H',Ev tab (.fn σ.rev) [.c (.sl b 0 n 0 ep sz),vi a,vi e,cv] H r H'∧(r=.t []∧Fm b H H'∧∃ I,RB H' b sz ep I∧eu a e rows I):=by
 refine dt M rfl fun Q L=>?_;obtain⟨d,rfl⟩:∃ d,e=d+1:=⟨e-1,by omega⟩
 apply aj;simp;apply aj;simp [aN (n:=(d:Int))];refine az ?_;refine bG (fun m s=>∃(i j:Nat) (t:T) (A:an) (l:List (List FC)),s=⟨t,[],A⟩∧m=n+1-i∧a≤i∧j≤d∧i≤j+1∧t.g 0=.c (.sl b 0 n 0 ep sz)∧t.g 8=vi i∧t.g 9=vi j ∧
  Fm b H A∧RB A b sz ep l∧eu a (d+1) rows l) _
  ⟨a,d,_,H,rows,rfl,rfl,by omega,by omega,by omega,by simp,by simp,by simp,Fm.refl H,q,eu.refl _ _ _⟩ ?_
 rintro m s ⟨i,j,t,A,l,rfl,rfl,U,X,W,F,B,E,u,q,g⟩ Z;have v:=g.len;apply aq;apply aj;simp [B,E];by_cases z:i<j
 case neg=>
  refine al (by simp [z]) ?_;refine bf (k':=[]) rfl ?_;exact jX (L _ _ _ rfl rfl ⟨rfl,u,l,q,g⟩)
 refine ak (by simp [z]) (aH ?_);obtain⟨x,y,H2,J,-,-,i1,j1,l1,l2,w1,w2,s1,j2,s2,r2,K⟩:=q.jn (g.sU S) (v.trans Y) (i:=i) (j:=j) (by omega) (by omega);refine az ?_;apply aj;simp [F,B,E,i1,j1,l1,l2,w1,w2,s1,j2,s2,-av,-bs];apply aj;simp [B,aN (n:=(i:Int)+1)];refine au (.inl rfl) ?_;simp [E,aN (n:=(j:Int)-1)];refine aw ?_;refine Z (n+1-(i+1)) _ (by omega) ⟨i+1,j-1,_,J,jn l i j,rfl,rfl,by omega,by omega,by omega,by simp [F],by simp,by simp;omega,u.trans K,r2,g.trans (eP (by omega) (by omega) (by omega) (by omega) (by omega))⟩
def NB(H:an)(p:Nat):Prop:=∃ k:Int,H[p]?=ab (.box [.f (fi k)] 0)
theorem NB.push{p:Nat}(h:NB H p)(J:an):NB (H++J) p:=by
 obtain⟨k,h⟩:=h;exact⟨k,by rw [AI (ax h)];exact h⟩
theorem ak4(z:tab σ.ord=ab (uS σ sz))(m:Cv tab cv W c){n p i j:Nat}(K:rows.length=n)(s:RB H b sz ep rows)(E:bO sz rows)(A:∀ r ∈ rows,W r)(hi:i<n)(I:j<n)(v:NB H p)(L:p≠b) :
  ∃ r H',Ev tab (.fn σ.ord) [.c (.sl b 0 n 0 ep sz),vi i,vi j,.c (.ptr p 0 0),cv] H r H'∧((r=.t [vi i,vi j]∨r=.t [vi j,vi i])∧Fm p H H'∧NB H' p):=by
 refine dt z rfl fun Q u=>?_;obtain⟨x,y,F,S,J,-,-,i1,M,N,O,d,B,-,-⟩:=s.ask E m A K I hi;obtain⟨k,l⟩:=v.push J;have q:=ax l;apply aj;simp;apply aq;apply aj;simp [i1,M,N,O,d,B,-av];by_cases g:c x y<0
 ·refine ak (by simp [g]) (aj ?_);simp [l];apply aj;simp;refine aE (u _ _ (.t [vi j,vi i]) rfl (by simp [Km.results,aZ]) ⟨.inr rfl,?_,?_⟩)
  ·exact(Fm.push _ _).trans (Fm.set _ _)
  ·exact⟨_,OF q⟩
 ·refine al (by simp [g]) (aH (aj ?_));simp;exact aE (u _ _ (.t [vi i,vi j]) rfl (by simp [Km.results,aZ]) ⟨.inl rfl,Fm.push _ _,v.push J⟩)
theorem aan(X:tab σ.med=ab (xG σ sz))(S:tab σ.ord=ab (uS σ sz))(l:Cv tab cv W c){n p i j k:Nat}(e:rows.length=n)(d:RB H b sz ep rows)(Z:bO sz rows)(Y:∀ r ∈ rows,W r)(hi:i<n)(m:j<n)(a:k<n)(s:NB H p)(g:p≠b) :
  ∃ r H',Ev tab (.fn σ.med) [.c (.sl b 0 n 0 ep sz),vi i,vi j,vi k,.c (.ptr p 0 0),cv] H r H'∧((∃ q:Nat,r=vi q∧(q=i∨q=j∨q=k))∧Fm p H H'∧NB H' p):=by
 have key:∀ {H:an} {i j:Nat},RB H b sz ep rows→NB H p→i<n→j<n→∃(x y:Nat) (H':an),Ev tab (.fn σ.ord) [.c (.sl b 0 n 0 ep sz),vi i,vi j,.c (.ptr p 0 0),cv] H=E2 (.t [vi x,vi y]) H'∧(x=i∧y=j∨x=j∧y=i)∧Fm p H H'∧NB H' p:=by
  intro H i j d s hi m;obtain⟨r,H',A,hr,B,z⟩:=ak4 S l e d Z Y hi m s g;rcases hr with rfl | rfl
  ·exact⟨i,j,H',A.eq,.inl ⟨rfl,rfl⟩,B,z⟩
  ·exact⟨j,i,H',A.eq,.inr ⟨rfl,rfl⟩,B,z⟩
 obtain⟨f,o,F,L,w,u,b1⟩:=key d s hi m;have r1:RB F b sz ep rows:=u.get d (Ne.symm g);obtain⟨h,y2,I,M,o2,v,J⟩:=key r1 b1 (show o<n by omega) a;have r2:RB I b sz ep rows:=v.get r1 (Ne.symm g);obtain⟨x3,E,t,N,o3,O,K⟩:=key r2 J (show f<n by omega) (show h<n by omega);refine dt X rfl fun Q U=>?_;apply aj;simp;apply aj;simp [L];apply aj;simp [M];apply aj;simp [N];apply aj;simp;refine aE (U _ _ (vi E) rfl (by simp [Km.results,aZ]) ⟨⟨E,rfl,by omega⟩,u.trans (v.trans O),K⟩)
theorem zh(y:tab σ.uI=ab (uJ σ sz))(u:tab σ.med=ab (xG σ sz))(v:tab σ.ord=ab (uS σ sz))(l:Cv tab cv W c){n p i:Nat}(F:rows.length=n)(K:n≤1000000000)(s:RB H b sz ep rows)(E:bO sz rows)(z:∀ r ∈ rows,W r)(J:0<i)(hi:i+1<n)(I:NB H p)(m:p≠b) :
  ∃ r H',Ev tab (.fn σ.uI) [.c (.sl b 0 n 0 ep sz),vi i,.c (.ptr p 0 0),cv] H r H'∧((∃ q:Nat,r=vi q∧i≤q+1∧q≤i+1)∧Fm p H H'∧NB H' p):=by
 obtain⟨d,rfl⟩:∃ d,i=d+1:=⟨i-1,by omega⟩
 obtain⟨r,H',g,⟨q,rfl,L⟩,B,A⟩:=aan (i:=d) (j:=d+1) (k:=d+1+1) u v l F s E z (by omega) (by omega) hi I m;refine dt y rfl fun Q x=>?_;have g:=g.eq;simp at g;apply aj;simp;apply aj;simp [aN (n:=(d:Int)),aN (n:=(d:Int)+1+1),g];exact aE (x _ _ (vi q) rfl (by simp [Km.results,aZ]) ⟨⟨q,rfl,by omega,by omega⟩,B,A⟩)
def Kp(H H':an):Prop:=H.length≤H'.length∧∀ b:Nat,b<H.length→H'[b]?=H[b]?
theorem Kp.fm{b:Nat}{H H':an}(h:Kp H H'):Fm b H H':=⟨h.1,fun d _ l=>h.2 d l⟩
theorem Kp.push(H J:an):Kp H (H++J):=⟨by simp,fun b l=>AI l⟩
theorem Kp.next{H H' b:an}{p:Nat}(h:Kp H H')(j:H.length≤p)(g:Fm p H' b):Kp H b:=⟨aua h.1 g.1,fun d l=>(g.2 d (by omega) (auI l h.1)).trans (h.2 d l)⟩
theorem Kp.rb{H H':an}{b sz ep:Nat}{rows:List (List FC)}(h:Kp H H')(d:RB H b sz ep rows):RB H' b sz ep rows:=by
 unfold RB at *;rw [h.2 b (ax d)];exact d
theorem ahn{a b:Nat}(s:0<b)(m:a≤9223372036854775807):bV .quo (vi a) (vi b)=ab (vi ((a / b:Nat):Int)):=by
 have g:(a / b:Nat)≤a:=Nat.div_le_self a b;obtain⟨q,d⟩:=aP (a / b);have j:((a:Int) / b)=(q:Int):=by rw [d];simp
 have l:q≤a:=by rw [d];exact g
 rw [←d,s_ (by omega),Int.tdiv_eq_ediv_of_nonneg (by omega),j,aN]
theorem amc(hT:tab σ.piv=ab (Gf σ sz))(Z:tab σ.uI=ab (uJ σ sz))(F:tab σ.med=ab (xG σ sz))(I:tab σ.ord=ab (uS σ sz))(v:Cv tab cv W c){n a e:Nat}(M:rows.length=n)(hl:n≤1000000000)(m:RB H b sz ep rows)(K:bO sz rows)(J:∀ r ∈ rows,W r)(b7:a+8≤e)(b_:e≤n) :
  ∃ r H',Ev tab (.fn σ.piv) [.c (.sl b 0 n 0 ep sz),vi a,vi e,cv] H r H'∧((∃(q:Nat) (h:Int),r=.t [vi q,vi h]∧a≤q∧q<e)∧Kp H H'):=by
 obtain⟨L,rfl⟩:∃ L,e=a+L:=⟨e-a,by omega⟩
 obtain⟨d,hd⟩:=aP (L / 4);have N:bV .quo (vi (L:Int)) (vi 4)=ab (vi (d:Int)):=by
  have:=ahn (a:=L) (b:=4) (by omega) (by omega);rw [hd];exact this
 have b9:=m.lt;have hw:IntKind.i64.wrap ((a:Int)+L-a)=L:=by rw [aN];omega
 refine dt hT rfl fun Q hQ=>?_;have O:∀(t:T) (s:an) (q:Nat),t.g 11=.c (.ptr H.length 0 0)→t.g 13=vi q→a≤q→q<a+L→NB s H.length→Kp H s→WP tab σ.piv ae [.code (Ey)] ⟨t,[],s⟩ Q:=by
  intro t s q u l X Y ⟨k,hk⟩ g;apply aj;simp [u,hk];refine az ?_;apply aj;simp;by_cases k1:k=0
  ·refine ak (by simp [k1]) (aj ?_);simp [l];exact aE (hQ _ _ (.t [vi q,vi 1]) rfl (by simp [Km.results,aZ]) ⟨⟨q,1,rfl,X,Y⟩,g⟩)
  refine al (by simp [k1]) ?_;apply aj;simp;by_cases k2:k=12
  ·refine ak (by simp [k2]) (aj ?_);simp [l];exact aE (hQ _ _ (.t [vi q,vi 2]) rfl (by simp [Km.results,aZ]) ⟨⟨q,2,rfl,X,Y⟩,g⟩)
  refine al (by simp [k2]) ?_;apply aj;simp [l];exact aE (hQ _ _ (.t [vi q,vi 0]) rfl (by simp [Km.results,aZ]) ⟨⟨q,0,rfl,X,Y⟩,g⟩)
 have mid:∀(t:T) (s:an) (i j k:Nat),t.g 0=.c (.sl b 0 n 0 ep sz)→t.g 3=cv→t.g 11=.c (.ptr H.length 0 0)→t.g 12=vi i→t.g 13=vi j→t.g 14=vi k→a≤i→i<a+L→a≤j→j<a+L→a≤k→k<a+L→NB s H.length→Kp H s →
   WP tab σ.piv ae [.code (aaW σ),.code (Ey)] ⟨t,[],s⟩ Q:=by
  intro t s i j k g0 g3 u S l U i1 i2 j1 j2 k1 k2 x g;obtain⟨r,H3,he,⟨q,rfl,N⟩,hf,a7⟩:=aan (p:=H.length) (i:=i) (j:=j) (k:=k) F I v M (g.rb m) K J (by omega) (by omega) (by omega) x (by omega);have he:=he.eq;refine au (.inl rfl) ?_;simp [g0,g3,u,S,l,U,he];exact O _ H3 q (by simp [u]) (by simp) (by omega) (by omega) a7 (g.next (aft _) hf)
 apply aj;simp;apply aj;simp [hw];apply aj;simp;apply aj;simp [N,aN (n:=(d:Int)),aN (n:=(a:Int)+d)];apply aj;simp [N,aN (n:=(d:Int)*2),aN (n:=(a:Int)+d*2)];apply aj;simp [N,aN (n:=(d:Int)*3),aN (n:=(a:Int)+d*3)];apply aq;apply aj;simp;refine ak (by simp;omega) ?_;apply aq;apply aj;simp;have x:NB (H++[.box [.f (fi 0)] 0]) H.length:=⟨0,by simp⟩
 have g:Kp H (H++[.box [.f (fi 0)] 0]):=Kp.push _ _;by_cases a_:50≤L
 case neg=>
  refine al (by simp;omega) (aH ?_);exact mid _ _ (a+d) (a+d*2) (a+d*3) (by simp) (by simp) (by simp) (by simp) (by simp) (by simp) (by omega) (by omega) (by omega) (by omega) (by omega) (by omega) x g
 refine ak (by simp;omega) ?_;obtain⟨r1,H1,A,⟨q1,rfl,c9⟩,f1,b1⟩:=zh (p:=H.length) (i:=a+d) Z F I v M hl (g.rb m) K J (by omega) (by omega) x (by omega);have y:=g.next (aft _) f1;obtain⟨r2,s,B,⟨q2,rfl,c_⟩,f2,b2⟩:=zh (p:=H.length) (i:=a+d*2) Z F I v M hl (y.rb m) K J (by omega) (by omega) b1 (by omega);have z:=y.next (aft _) f2;obtain⟨r3,H3,E,⟨q3,rfl,d5⟩,f3,b3⟩:=zh (p:=H.length) (i:=a+d*3) Z F I v M hl (z.rb m) K J (by omega) (by omega) b2 (by omega);have a9:=z.next (aft _) f3;have A:=A.eq;have B:=B.eq;have E:=E.eq;simp at A B E;apply aj;simp [A];apply aj;simp [B];refine au (.inl rfl) ?_;simp [E];exact mid _ _ q1 q2 q3 (by simp) (by simp) (by simp) (by simp) (by simp) (by simp) (by omega) (by omega) (by omega) (by omega) (by omega) (by omega) b3 a9
end
end
section
open Go
section
variable{tab:Nat→Option aB}{σ:jS}{sz:Nat}{cv:V}{W:List FC→Prop}{c:List FC→List FC→Int}
theorem aaK{n a e i j ep b:Nat}{rows:List (List FC)}{p:List FC}{H0:an}{k:List cG}{Q:Option ay→St→Prop}(S:Cv tab cv W c)(hn:rows.length=n)(hl:n≤1000000000)(hg:bO sz rows)(hW:∀ r ∈ rows,W r)
  {t:T} {H:an} (a7:a<i) (a_:i≤j+1) (b7:j<e) (a9:e≤n) (hp:rows[a]?=ab p)
  (A:t.g 0=.c (.sl b 0 n 0 ep sz)) (B:t.g 1=vi a) (E:t.g 4=cv) (v:t.g 12=vi i) (u:t.g 13=vi j) (l:Fm b H0 H) (g:RB H b sz ep rows)
  (next:∀(t:T) (H:an) (K:Nat),(i≤K∧K≤j+1)→(∀(q:Nat) x,i≤q→q<K→rows[q]?=ab x→c x p<0)→(j<K∨∀ x,rows[K]?=ab x→¬ c x p<0) →
   t.g 0=.c (.sl b 0 n 0 ep sz)→t.g 1=vi a→t.g 4=cv→t.g 12=vi K→t.g 13=vi j→Fm b H0 H→RB H b sz ep rows→WP tab σ.part ae k ⟨t,[],H⟩ Q) :
  WP tab σ.part ae (.code (aaH sz)::k) ⟨t,[],H⟩ Q:=by
 refine az ?_;refine bG (fun m s=>∃(q:Nat) (t:T) (N:an),s=⟨t,[],N⟩∧(q+m=j+1∧i≤q)∧(∀(r:Nat) x,i≤r→r<q→rows[r]?=ab x→c x p<0) ∧
   t.g 0=.c (.sl b 0 n 0 ep sz)∧t.g 1=vi a∧t.g 4=cv∧t.g 12=vi q∧t.g 13=vi j∧Fm b H0 N∧RB N b sz ep rows) (j+1-i)
  ⟨i,_,H,rfl,by omega,fun r x Y Z=>by omega,A,B,E,v,u,l,g⟩ ?_
 rintro m s ⟨q,t,N,rfl,hm,d,A,B,E,v,u,l,g⟩ ih;apply aq;apply aj;by_cases M:q≤j
 case neg=>
  simp [v,u,M];refine al (by simp) ?_;refine bf (k':=k) rfl ?_;exact next _ _ q (by omega) d (.inl (by omega)) (by simp [A]) (by simp [B]) (by simp [E]) (by simp [v]) (by simp [u]) l g
 obtain⟨x,y,F,ar,J,U,X,i1,j1,l1,l2,L,he,-,-⟩:=g.ask hg S hW hn (i:=q) (j:=a) (by omega) (by omega);simp [v,u,M,A,B,E,i1,j1,l1,l2,L,he,-av];have ep:p=y:=by rw [hp]at X;exact au9 X
 subst ep;by_cases O:c x p<0
 case neg=>
  refine al (by simp [O]) ?_;refine bf (k':=k) rfl ?_;refine next _ _ q (by omega) d (.inr fun z I=>?_) (by simp [A]) (by simp [B]) (by simp [E]) (by simp [v]) (by simp [u]) (l.trans (Fm.push _ _)) (g.push _)
  rw [U]at I;cases I;exact O
 refine ak (by simp [O]) (aH ?_);refine az (au (.inl rfl) ?_);simp [v,u,aN (n:=(q:Int)+1)];refine aw (ih (m-1) _ (by omega) ⟨q+1,_,_,rfl,by omega,fun r z Y Z I=>?_,by simp [A],by simp [B],by simp [E],by simp,by simp [u],l.trans (Fm.push _ _),g.push _⟩);by_cases hr:r=q
 ·subst hr;rw [U]at I;cases I;exact O
 ·exact d r z (by omega) (by omega) I
theorem aaI{n a e i j ep b:Nat}{rows:List (List FC)}{p:List FC}{H0:an}{k:List cG}{Q:Option ay→St→Prop}(S:Cv tab cv W c)(hn:rows.length=n)(hl:n≤1000000000)(hg:bO sz rows)(hW:∀ r ∈ rows,W r)
  {t:T} {H:an} (a7:a<i) (a_:i≤j+1) (b7:j<e) (a9:e≤n) (hp:rows[a]?=ab p)
  (A:t.g 0=.c (.sl b 0 n 0 ep sz)) (B:t.g 1=vi a) (E:t.g 4=cv) (u:t.g 12=vi i) (v:t.g 13=vi j) (l:Fm b H0 H) (g:RB H b sz ep rows)
  (next:∀(t:T) (H:an) (K:Nat),(K≤j∧i≤K+1)→(∀(q:Nat) x,K<q→q≤j→rows[q]?=ab x→¬ c x p<0)→(K<i∨∀ x,rows[K]?=ab x→¬ ¬ c x p<0) →
   t.g 0=.c (.sl b 0 n 0 ep sz)→t.g 1=vi a→t.g 4=cv→t.g 12=vi i→t.g 13=vi K→Fm b H0 H→RB H b sz ep rows→WP tab σ.part ae k ⟨t,[],H⟩ Q) :
  WP tab σ.part ae (.code (F6 sz)::k) ⟨t,[],H⟩ Q:=by
 refine az ?_;refine bG (fun m s=>∃(q:Nat) (t:T) (N:an),s=⟨t,[],N⟩∧(q+1=i+m∧q≤j)∧(∀(r:Nat) x,q<r→r≤j→rows[r]?=ab x→¬ c x p<0) ∧
   t.g 0=.c (.sl b 0 n 0 ep sz)∧t.g 1=vi a∧t.g 4=cv∧t.g 12=vi i∧t.g 13=vi q∧Fm b H0 N∧RB N b sz ep rows) (j+1-i)
  ⟨j,_,H,rfl,by omega,fun r x Y Z=>by omega,A,B,E,u,v,l,g⟩ ?_
 rintro m s ⟨q,t,N,rfl,hm,d,A,B,E,u,v,l,g⟩ ih;apply aq;apply aj;by_cases M:i≤q
 case neg=>
  simp [u,v,M];refine al (by simp) ?_;refine bf (k':=k) rfl ?_;exact next _ _ q (by omega) d (.inl (by omega)) (by simp [A]) (by simp [B]) (by simp [E]) (by simp [u]) (by simp [v]) l g
 obtain⟨x,y,F,ar,J,U,X,i1,j1,l1,l2,L,he,-,-⟩:=g.ask hg S hW hn (i:=q) (j:=a) (by omega) (by omega);simp [u,v,M,A,B,E,i1,j1,l1,l2,L,he,-av];have ep:p=y:=by rw [hp]at X;exact au9 X
 subst ep;by_cases O:c x p<0
 case pos=>
  refine al (by simp [O]) ?_;refine bf (k':=k) rfl ?_;refine next _ _ q (by omega) d (.inr fun z I=>?_) (by simp [A]) (by simp [B]) (by simp [E]) (by simp [u]) (by simp [v]) (l.trans (Fm.push _ _)) (g.push _)
  rw [U]at I;cases I;exact fun h=>h O
 refine ak (by simp [O]) (aH ?_);refine az (au (.inl rfl) ?_);simp [u,v,aN (n:=(q:Int)-1)];refine aw (ih (m-1) _ (by omega) ⟨q-1,_,_,rfl,by omega,fun r z Y Z I=>?_,by simp [A],by simp [B],by simp [E],by simp [u],by simp;omega,l.trans (Fm.push _ _),g.push _⟩);by_cases hr:r=q
 ·subst hr;rw [U]at I;cases I;exact O
 ·exact d r z (by omega) (by omega) I
theorem aaL{n a e i j ep b:Nat}{rows:List (List FC)}{p:List FC}{H0:an}{k:List cG}{Q:Option ay→St→Prop}(S:Cv tab cv W c)(hn:rows.length=n)(hl:n≤1000000000)(hg:bO sz rows)(hW:∀ r ∈ rows,W r)
  {t:T} {H:an} (a7:a<i) (a_:i≤j+1) (b7:j<e) (a9:e≤n) (hp:rows[a]?=ab p)
  (A:t.g 0=.c (.sl b 0 n 0 ep sz)) (B:t.g 1=vi a) (E:t.g 4=cv) (v:t.g 12=vi i) (u:t.g 13=vi j) (l:Fm b H0 H) (g:RB H b sz ep rows)
  (next:∀(t:T) (H:an) (K:Nat),(i≤K∧K≤j+1)→(∀(q:Nat) x,i≤q→q<K→rows[q]?=ab x→c x p<0)→(j<K∨∀ x,rows[K]?=ab x→¬ c x p<0) →
   t.g 0=.c (.sl b 0 n 0 ep sz)→t.g 1=vi a→t.g 4=cv→t.g 12=vi K→t.g 13=vi j→Fm b H0 H→RB H b sz ep rows→WP tab σ.part ae k ⟨t,[],H⟩ Q) :
  WP tab σ.part ae (.code (F7 sz)::k) ⟨t,[],H⟩ Q:=by
 refine az ?_;refine bG (fun m s=>∃(q:Nat) (t:T) (N:an),s=⟨t,[],N⟩∧(q+m=j+1∧i≤q)∧(∀(r:Nat) x,i≤r→r<q→rows[r]?=ab x→c x p<0) ∧
   t.g 0=.c (.sl b 0 n 0 ep sz)∧t.g 1=vi a∧t.g 4=cv∧t.g 12=vi q∧t.g 13=vi j∧Fm b H0 N∧RB N b sz ep rows) (j+1-i)
  ⟨i,_,H,rfl,by omega,fun r x Y Z=>by omega,A,B,E,v,u,l,g⟩ ?_
 rintro m s ⟨q,t,N,rfl,hm,d,A,B,E,v,u,l,g⟩ ih;apply aq;apply aj;by_cases M:q≤j
 case neg=>
  simp [v,u,M];refine al (by simp) ?_;refine bf (k':=k) rfl ?_;exact next _ _ q (by omega) d (.inl (by omega)) (by simp [A]) (by simp [B]) (by simp [E]) (by simp [v]) (by simp [u]) l g
 obtain⟨x,y,F,ar,J,U,X,i1,j1,l1,l2,L,he,-,-⟩:=g.ask hg S hW hn (i:=q) (j:=a) (by omega) (by omega);simp [v,u,M,A,B,E,i1,j1,l1,l2,L,he,-av];have ep:p=y:=by rw [hp]at X;exact au9 X
 subst ep;by_cases O:c x p<0
 case neg=>
  refine al (by simp [O]) ?_;refine bf (k':=k) rfl ?_;refine next _ _ q (by omega) d (.inr fun z I=>?_) (by simp [A]) (by simp [B]) (by simp [E]) (by simp [v]) (by simp [u]) (l.trans (Fm.push _ _)) (g.push _)
  rw [U]at I;cases I;exact O
 refine ak (by simp [O]) (aH ?_);refine az (au (.inl rfl) ?_);simp [v,u,aN (n:=(q:Int)+1)];refine aw (ih (m-1) _ (by omega) ⟨q+1,_,_,rfl,by omega,fun r z Y Z I=>?_,by simp [A],by simp [B],by simp [E],by simp,by simp [u],l.trans (Fm.push _ _),g.push _⟩);by_cases hr:r=q
 ·subst hr;rw [U]at I;cases I;exact O
 ·exact d r z (by omega) (by omega) I
theorem aaJ{n a e i j ep b:Nat}{rows:List (List FC)}{p:List FC}{H0:an}{k:List cG}{Q:Option ay→St→Prop}(S:Cv tab cv W c)(hn:rows.length=n)(hl:n≤1000000000)(hg:bO sz rows)(hW:∀ r ∈ rows,W r)
  {t:T} {H:an} (a7:a<i) (a_:i≤j+1) (b7:j<e) (a9:e≤n) (hp:rows[a]?=ab p)
  (A:t.g 0=.c (.sl b 0 n 0 ep sz)) (B:t.g 1=vi a) (E:t.g 4=cv) (u:t.g 12=vi i) (v:t.g 13=vi j) (l:Fm b H0 H) (g:RB H b sz ep rows)
  (next:∀(t:T) (H:an) (K:Nat),(K≤j∧i≤K+1)→(∀(q:Nat) x,K<q→q≤j→rows[q]?=ab x→¬ c x p<0)→(K<i∨∀ x,rows[K]?=ab x→¬ ¬ c x p<0) →
   t.g 0=.c (.sl b 0 n 0 ep sz)→t.g 1=vi a→t.g 4=cv→t.g 12=vi i→t.g 13=vi K→Fm b H0 H→RB H b sz ep rows→WP tab σ.part ae k ⟨t,[],H⟩ Q) :
  WP tab σ.part ae (.code (F8 sz)::k) ⟨t,[],H⟩ Q:=by
 refine az ?_;refine bG (fun m s=>∃(q:Nat) (t:T) (N:an),s=⟨t,[],N⟩∧(q+1=i+m∧q≤j)∧(∀(r:Nat) x,q<r→r≤j→rows[r]?=ab x→¬ c x p<0) ∧
   t.g 0=.c (.sl b 0 n 0 ep sz)∧t.g 1=vi a∧t.g 4=cv∧t.g 12=vi i∧t.g 13=vi q∧Fm b H0 N∧RB N b sz ep rows) (j+1-i)
  ⟨j,_,H,rfl,by omega,fun r x Y Z=>by omega,A,B,E,u,v,l,g⟩ ?_
 rintro m s ⟨q,t,N,rfl,hm,d,A,B,E,u,v,l,g⟩ ih;apply aq;apply aj;by_cases M:i≤q
 case neg=>
  simp [u,v,M];refine al (by simp) ?_;refine bf (k':=k) rfl ?_;exact next _ _ q (by omega) d (.inl (by omega)) (by simp [A]) (by simp [B]) (by simp [E]) (by simp [u]) (by simp [v]) l g
 obtain⟨x,y,F,ar,J,U,X,i1,j1,l1,l2,L,he,-,-⟩:=g.ask hg S hW hn (i:=q) (j:=a) (by omega) (by omega);simp [u,v,M,A,B,E,i1,j1,l1,l2,L,he,-av];have ep:p=y:=by rw [hp]at X;exact au9 X
 subst ep;by_cases O:c x p<0
 case pos=>
  refine al (by simp [O]) ?_;refine bf (k':=k) rfl ?_;refine next _ _ q (by omega) d (.inr fun z I=>?_) (by simp [A]) (by simp [B]) (by simp [E]) (by simp [u]) (by simp [v]) (l.trans (Fm.push _ _)) (g.push _)
  rw [U]at I;cases I;exact fun h=>h O
 refine ak (by simp [O]) (aH ?_);refine az (au (.inl rfl) ?_);simp [u,v,aN (n:=(q:Int)-1)];refine aw (ih (m-1) _ (by omega) ⟨q-1,_,_,rfl,by omega,fun r z Y Z I=>?_,by simp [A],by simp [B],by simp [E],by simp [u],by simp;omega,l.trans (Fm.push _ _),g.push _⟩);by_cases hr:r=q
 ·subst hr;rw [U]at I;cases I;exact O
 ·exact d r z (by omega) (by omega) I
theorem alY{n a e i j ep b:Nat}{rows:List (List FC)}{p:List FC}{H0:an}{k:List cG}{Q:Option ay→St→Prop}(S:Cv tab cv W c)(hn:rows.length=n)(hl:n≤1000000000)(hg:bO sz rows)(hW:∀ r ∈ rows,W r)
  {t:T} {H:an} (a7:a<i) (a_:i≤j+1) (b7:j<e) (a9:e≤n) (hp:rows[a]?=ab p)
  (A:t.g 0=.c (.sl b 0 n 0 ep sz)) (B:t.g 1=vi a) (E:t.g 4=cv) (v:t.g 11=vi i) (u:t.g 12=vi j) (l:Fm b H0 H) (g:RB H b sz ep rows)
  (next:∀(t:T) (H:an) (K:Nat),(i≤K∧K≤j+1)→(∀(q:Nat) x,i≤q→q<K→rows[q]?=ab x→¬ c p x<0)→(j<K∨∀ x,rows[K]?=ab x→¬ ¬ c p x<0) →
   t.g 0=.c (.sl b 0 n 0 ep sz)→t.g 1=vi a→t.g 4=cv→t.g 11=vi K→t.g 12=vi j→Fm b H0 H→RB H b sz ep rows→WP tab σ.OH ae k ⟨t,[],H⟩ Q) :
  WP tab σ.OH ae (.code (aaR sz)::k) ⟨t,[],H⟩ Q:=by
 refine az ?_;refine bG (fun m s=>∃(q:Nat) (t:T) (N:an),s=⟨t,[],N⟩∧(q+m=j+1∧i≤q)∧(∀(r:Nat) x,i≤r→r<q→rows[r]?=ab x→¬ c p x<0) ∧
   t.g 0=.c (.sl b 0 n 0 ep sz)∧t.g 1=vi a∧t.g 4=cv∧t.g 11=vi q∧t.g 12=vi j∧Fm b H0 N∧RB N b sz ep rows) (j+1-i)
  ⟨i,_,H,rfl,by omega,fun r x Y Z=>by omega,A,B,E,v,u,l,g⟩ ?_
 rintro m s ⟨q,t,N,rfl,hm,d,A,B,E,v,u,l,g⟩ ih;apply aq;apply aj;by_cases M:q≤j
 case neg=>
  simp [v,u,M];refine al (by simp) ?_;refine bf (k':=k) rfl ?_;exact next _ _ q (by omega) d (.inl (by omega)) (by simp [A]) (by simp [B]) (by simp [E]) (by simp [v]) (by simp [u]) l g
 obtain⟨x,y,F,ar,J,U,X,i1,j1,l1,l2,L,he,-,-⟩:=g.ask hg S hW hn (i:=a) (j:=q) (by omega) (by omega);simp [v,u,M,A,B,E,i1,j1,l1,l2,L,he,-av];have ep:p=x:=by rw [hp]at U;exact au9 U
 subst ep;by_cases O:c p y<0
 case pos=>
  refine al (by simp [O]) ?_;refine bf (k':=k) rfl ?_;refine next _ _ q (by omega) d (.inr fun z I=>?_) (by simp [A]) (by simp [B]) (by simp [E]) (by simp [v]) (by simp [u]) (l.trans (Fm.push _ _)) (g.push _)
  rw [X]at I;cases I;exact fun h=>h O
 refine ak (by simp [O]) (aH ?_);refine az (au (.inl rfl) ?_);simp [v,u,aN (n:=(q:Int)+1)];refine aw (ih (m-1) _ (by omega) ⟨q+1,_,_,rfl,by omega,fun r z Y Z I=>?_,by simp [A],by simp [B],by simp [E],by simp,by simp [u],l.trans (Fm.push _ _),g.push _⟩);by_cases hr:r=q
 ·subst hr;rw [X]at I;cases I;exact O
 ·exact d r z (by omega) (by omega) I
theorem alW{n a e i j ep b:Nat}{rows:List (List FC)}{p:List FC}{H0:an}{k:List cG}{Q:Option ay→St→Prop}(S:Cv tab cv W c)(hn:rows.length=n)(hl:n≤1000000000)(hg:bO sz rows)(hW:∀ r ∈ rows,W r)
  {t:T} {H:an} (a7:a<i) (a_:i≤j+1) (b7:j<e) (a9:e≤n) (hp:rows[a]?=ab p)
  (A:t.g 0=.c (.sl b 0 n 0 ep sz)) (B:t.g 1=vi a) (E:t.g 4=cv) (u:t.g 11=vi i) (v:t.g 12=vi j) (l:Fm b H0 H) (g:RB H b sz ep rows)
  (next:∀(t:T) (H:an) (K:Nat),(K≤j∧i≤K+1)→(∀(q:Nat) x,K<q→q≤j→rows[q]?=ab x→c p x<0)→(K<i∨∀ x,rows[K]?=ab x→¬ c p x<0) →
   t.g 0=.c (.sl b 0 n 0 ep sz)→t.g 1=vi a→t.g 4=cv→t.g 11=vi i→t.g 12=vi K→Fm b H0 H→RB H b sz ep rows→WP tab σ.OH ae k ⟨t,[],H⟩ Q) :
  WP tab σ.OH ae (.code (aaS sz)::k) ⟨t,[],H⟩ Q:=by
 refine az ?_;refine bG (fun m s=>∃(q:Nat) (t:T) (N:an),s=⟨t,[],N⟩∧(q+1=i+m∧q≤j)∧(∀(r:Nat) x,q<r→r≤j→rows[r]?=ab x→c p x<0) ∧
   t.g 0=.c (.sl b 0 n 0 ep sz)∧t.g 1=vi a∧t.g 4=cv∧t.g 11=vi i∧t.g 12=vi q∧Fm b H0 N∧RB N b sz ep rows) (j+1-i)
  ⟨j,_,H,rfl,by omega,fun r x Y Z=>by omega,A,B,E,u,v,l,g⟩ ?_
 rintro m s ⟨q,t,N,rfl,hm,d,A,B,E,u,v,l,g⟩ ih;apply aq;apply aj;by_cases M:i≤q
 case neg=>
  simp [u,v,M];refine al (by simp) ?_;refine bf (k':=k) rfl ?_;exact next _ _ q (by omega) d (.inl (by omega)) (by simp [A]) (by simp [B]) (by simp [E]) (by simp [u]) (by simp [v]) l g
 obtain⟨x,y,F,ar,J,U,X,i1,j1,l1,l2,L,he,-,-⟩:=g.ask hg S hW hn (i:=a) (j:=q) (by omega) (by omega);simp [u,v,M,A,B,E,i1,j1,l1,l2,L,he,-av];have ep:p=x:=by rw [hp]at U;exact au9 U
 subst ep;by_cases O:c p y<0
 case neg=>
  refine al (by simp [O]) ?_;refine bf (k':=k) rfl ?_;refine next _ _ q (by omega) d (.inr fun z I=>?_) (by simp [A]) (by simp [B]) (by simp [E]) (by simp [u]) (by simp [v]) (l.trans (Fm.push _ _)) (g.push _)
  rw [X]at I;cases I;exact O
 refine ak (by simp [O]) (aH ?_);refine az (au (.inl rfl) ?_);simp [u,v,aN (n:=(q:Int)-1)];refine aw (ih (m-1) _ (by omega) ⟨q-1,_,_,rfl,by omega,fun r z Y Z I=>?_,by simp [A],by simp [B],by simp [E],by simp [u],by simp;omega,l.trans (Fm.push _ _),g.push _⟩);by_cases hr:r=q
 ·subst hr;rw [X]at I;cases I;exact O
 ·exact d r z (by omega) (by omega) I
def vF(c:List FC→List FC→Int)(a i j e:Nat)(p:List FC)(l:List (List FC)):Prop:=
 l[a]?=ab p∧(∀(k:Nat) x,a<k→k<i→l[k]?=ab x→c x p<0)∧(∀(k:Nat) x,j<k→k<e→l[k]?=ab x→¬ c x p<0)
def nq(c:List FC→List FC→Int)(a e m:Nat)(l:List (List FC)):Prop:=
 ∃ p,l[m]?=ab p∧(∀(k:Nat) x,a≤k→k<m→l[k]?=ab x→c x p<0)∧(∀(k:Nat) x,m<k→k<e→l[k]?=ab x→¬ c x p<0)
theorem vF.swap{a i j e:Nat}{p:List FC}{l:List (List FC)}(h:vF c a i j e p l)(y:a<i)(z:i<j)(d:j<l.length)(hi:∀ x,l[i]?=ab x→¬ c x p<0)(A:∀ x,l[j]?=ab x→c x p<0):vF c a (i+1) (j-1) e p (jn l i j):=by
 obtain⟨s,u,v⟩:=h;have g:∀ k,(jn l i j)[k]?=if k=j then l[i]? else if k=i then l[j]? else l[k]?:=fun k=>hY (by omega) d k;refine⟨?_,fun k x m q b=>?_,fun k x m q b=>?_⟩
 ·rw [g,aY (by omega),aY (by omega)];exact s
 ·rw [g,aY (by omega)]at b;by_cases e:k=i
  ·rw [bg e]at b;exact A x b
  ·rw [aY e]at b;exact u k x m (by omega) b
 ·rw [g]at b;by_cases e:k=j
  ·rw [bg e]at b;exact hi x b
  ·rw [aY e,aY (by omega)]at b;exact v k x (by omega) q b
theorem vF.done{a i j e:Nat}{p:List FC}{l:List (List FC)}(h:vF c a i j e p l)(y:a≤j)(z:i=j+1)(d:j<l.length):nq c a e j (jn l j a):=by
 obtain⟨m,q,v⟩:=h;have g:∀ k,(jn l j a)[k]?=if k=a then l[j]? else if k=j then l[a]? else l[k]?:=fun k=>hY d (by omega) k;refine⟨p,?_,fun k x s u b=>?_,fun k x s u b=>?_⟩
 ·rw [g];by_cases e:j=a
  ·rw [bg e,e];exact m
  ·rw [aY e,bg rfl];exact m
 ·rw [g]at b;by_cases e:k=a
  ·rw [bg e]at b;exact q j x (by omega) (by omega) b
  ·rw [aY e,aY (by omega)]at b;exact q k x (by omega) (by omega) b
 ·rw [g,aY (by omega),aY (by omega)]at b;exact v k x s u b
theorem agU{H:an}{rows:List (List FC)}{n a e v b ep:Nat}(hT:tab σ.part=ab (zx σ sz))(a9:Cv tab cv W c)(hn:rows.length=n)(hl:n≤1000000000)(g:RB H b sz ep rows)(hg:bO sz rows)(hW:∀ r ∈ rows,W r)(d7:a<e)(a_:e≤n)(d8:a≤v)(d9:v<e) :
  ∃ r H',Ev tab (.fn σ.part) [.c (.sl b 0 n 0 ep sz),vi a,vi e,vi v,cv] H r H'∧((∃(m:Nat) (w:Bool),r=.t [vi m,vb w]∧a≤m∧m<e∧Fm b H H'∧∃ l',RB H' b sz ep l'∧eu a e rows l'∧nq c a e m l')):=by
 refine dt hT rfl fun Q hQ=>?_;obtain⟨d,rfl⟩:∃ d,e=d+1:=⟨e-1,by omega⟩
 obtain⟨x,p,H1,H2,F,hp,i1,j1,l1,l2,w1,w2,s1,j2,s2,r2,f2⟩:=g.jn hg hn (i:=a) (j:=v) (by omega) (by omega);have B:eu a (d+1) rows (jn rows a v):=eP (by omega) (by omega) (by omega) (by omega) (by omega);have b7:vF c a (a+1) d (d+1) p (jn rows a v):=by
  refine⟨?_,fun k x k1 k2=>by omega,fun k x k1 k2=>by omega⟩;rw [hY (by omega) (by omega)];by_cases e:a=v
  ·rw [bg e,e];exact hp
  ·rw [aY e,bg rfl];exact hp
 apply aj;simp;apply aj;simp [i1,j1,l1,l2,w1,w2,s1,j2,s2,-av,-bs];apply aj;simp [aN (n:=(a:Int)+1),aN (n:=(d:Int))];apply aq;have I:∀(w:Bool) (t:T) (H3:an) (l:List (List FC)) (i j:Nat),a≤j→j<d+1→i=j+1→vF c a i j (d+1) p l→eu a (d+1) rows l→Fm b H H3→RB H3 b sz ep l →
   ∃(x y:List FC) (H4 H5:an),aL H3 sz ae (.c (.sl b 0 n 0 ep sz)) (vi j)=ab (.c (.ptr b (j*sz) ep))∧aL H3 sz ae (.c (.sl b 0 n 0 ep sz)) (vi a)=ab (.c (.ptr b (a*sz) ep)) ∧
    aV H3 (ab sz) (.c (.ptr b (j*sz) ep))=ab (.a (x.map .f))∧aV H3 (ab sz) (.c (.ptr b (a*sz) ep))=ab (.a (y.map .f))∧x.length=sz∧y.length=sz ∧
    dn H3 (.ptr b (j*sz) ep) (y.map .f)=ab H4∧aL H4 sz ae (.c (.sl b 0 n 0 ep sz)) (vi a)=ab (.c (.ptr b (a*sz) ep))∧dn H4 (.ptr b (a*sz) ep) (x.map .f)=ab H5 ∧
    (a≤j∧j<d+1∧Fm b H H5∧∃ l',RB H5 b sz ep l'∧eu a (d+1) rows l'∧nq c a (d+1) j l'):=by
  intro w t H3 l i j h1 h2 h3 O u q g;have M:=u.len;obtain⟨x,y,H4,H5,-,-,i1,j1,l1,l2,w1,w2,s1,j2,s2,r2,f2⟩:=g.jn (u.sU hg) (M.trans hn) (i:=j) (j:=a) (by omega) (by omega);exact⟨x,y,H4,H5,i1,j1,l1,l2,w1,w2,s1,j2,s2,h1,h2,q.trans f2,_,r2,u.trans (eP (by omega) (by omega) (by omega) (by omega) (by omega)),O.done h1 h3 (by omega)⟩
 have E:∀ {l},eu a (d+1) rows l→bO sz l:=fun h=>h.sU hg;have U:∀ {l},eu a (d+1) rows l→∀ r ∈ l,W r:=fun h r hr=>hW r (h.1.mem_iff.1 hr);refine aaK a9 (B.len.trans hn) hl (E B) (U B) (i:=a+1) (j:=d) (e:=d+1) (H0:=H) (by omega) (by omega) (by omega) a_ b7.1 (by simp) (by simp) (by simp) (by simp) (by simp) f2 r2 ?_;intro t H3 z b_ N S X Z g4 Y L q g;apply aq;refine aaI a9 (B.len.trans hn) hl (E B) (U B) (i:=z) (j:=d) (e:=d+1) (H0:=H) (by omega) (by omega) (by omega) a_ b7.1 X Z g4 Y L q g ?_;intro t H4 A c_ J K X Z g4 Y L q g;have a7:vF c a z A (d+1) p (jn rows a v):=⟨b7.1,fun k x k1 k2 F=>N k x (by omega) k2 F,fun k x k1 k2 F=>J k x k1 (by omega) F⟩
 apply aq;apply aj;simp [Y,L];by_cases o:A<z
 ·obtain⟨x,y,H5,H6,i1,j1,l1,l2,w1,w2,s1,j2,s2,f⟩:=I ag t H4 _ z A (by omega) (by omega) (by omega) a7 B q g;refine ak (by simp [o]) (aj ?_);simp [X,Z,L,i1,j1,l1,l2,w1,w2,s1,j2,s2,-av,-bs];apply aj;simp [L];exact aE (hQ _ _ (.t [vi A,vb ag]) rfl (by simp [Km.results,aZ]) ⟨A,ag,rfl,f⟩)
 refine aW (by simp [o]) ?_;have ni:∀ x,(jn rows a v)[z]?=ab x→¬ c x p<0:=by
  rcases S with h | h
  ·omega
  ·exact h
 have nj:∀ x,(jn rows a v)[A]?=ab x→c x p<0:=by
  rcases K with h | h
  ·omega
  ·exact fun x F=>Classical.not_not.1 (h x F)
 have d6:z≠A:=by
  rintro rfl;have F:=AT (l:=jn rows a v) (i:=z) (by rw [zR];omega);exact ni _ F (nj _ F)
 obtain⟨x5,y5,H5,H6,-,-,i1,j1,l1,l2,w1,w2,s1,j2,s2,r5,f5⟩:=g.jn (E B) (B.len.trans hn) (i:=z) (j:=A) (by omega) (by omega);apply aj;simp [X,Y,L,i1,j1,l1,l2,w1,w2,s1,j2,s2,-av,-bs];apply aj;simp [Y,aN (n:=(z:Int)+1)];apply aj;simp [L,aN (n:=(A:Int)-1)];apply aq;refine az ?_;refine bG (fun m s=>∃(i j:Nat) (t:T) (H1:an) (l:List (List FC)),s=⟨t,[],H1⟩∧m=j+1-i∧a<i∧i≤j+1∧j<d+1∧t.g 0=.c (.sl b 0 n 0 ep sz)∧t.g 1=vi a∧t.g 4=cv∧t.g 12=vi i∧t.g 13=vi j ∧
   Fm b H H1∧RB H1 b sz ep l∧eu a (d+1) rows l∧vF c a i j (d+1) p l) _
  ⟨z+1,A-1,_,H6,_,rfl,rfl,by omega,by omega,by omega,by simp [X],by simp [Z],by simp [g4],by simp,by simp;omega,q.trans f5,r5,
   B.trans (eP (by omega) (by omega) (by omega) (by omega) (by rw [zR];omega)),a7.swap (by omega) (by omega) (by rw [zR];omega) ni nj⟩ ?_
 rintro m s ⟨i,j,t,H1,l,rfl,rfl,b9,c9,d5,X,Z,g4,Y,L,q,g,u,O⟩ ih;have M:=u.len;refine az ?_;apply aq;refine aaL a9 (M.trans hn) hl (E u) (U u) (i:=i) (j:=j) (e:=d+1) (H0:=H) b9 c9 d5 a_ O.1 X Z g4 Y L q g ?_;intro t H3 z b_ N S X Z g4 Y L q g;apply aq;refine aaJ a9 (M.trans hn) hl (E u) (U u) (i:=z) (j:=j) (e:=d+1) (H0:=H) (by omega) (by omega) (by omega) a_ O.1 X Z g4 Y L q g ?_;intro t H4 A c_ J K X Z g4 Y L q g;have a7:vF c a z A (d+1) p l:=⟨O.1,fun k x k1 k2 F=>by
   by_cases hk:k<i
   ·exact O.2.1 k x k1 hk F
   ·exact N k x (by omega) k2 F,fun k x k1 k2 F=>by
   by_cases hk:j<k
   ·exact O.2.2 k x hk k2 F
   ·exact J k x k1 (by omega) F⟩
 apply aq;apply aj;simp [Y,L];by_cases o:A<z
 ·obtain⟨x,y,H5,H6,i1,j1,l1,l2,w1,w2,s1,j2,s2,f⟩:=I ah t H4 _ z A (by omega) (by omega) (by omega) a7 u q g;refine ak (by simp [o]) ?_;refine bf (k':=[.code (F9 sz)]) rfl ?_;apply aj;simp [X,Z,L,i1,j1,l1,l2,w1,w2,s1,j2,s2,-av,-bs];apply aj;simp [L];exact aE (hQ _ _ (.t [vi A,vb ah]) rfl (by simp [Km.results,aZ]) ⟨A,ah,rfl,f⟩)
 refine aW (by simp [o]) ?_;have ni:∀ x,l[z]?=ab x→¬ c x p<0:=by
  rcases S with h | h
  ·omega
  ·exact h
 have nj:∀ x,l[A]?=ab x→c x p<0:=by
  rcases K with h | h
  ·omega
  ·exact fun x F=>Classical.not_not.1 (h x F)
 have d6:z≠A:=by
  rintro rfl;have F:=AT (l:=l) (i:=z) (by omega);exact ni _ F (nj _ F)
 obtain⟨x5,y5,H5,H6,-,-,i1,j1,l1,l2,w1,w2,s1,j2,s2,r5,f5⟩:=g.jn (E u) (M.trans hn) (i:=z) (j:=A) (by omega) (by omega);apply aj;simp [X,Y,L,i1,j1,l1,l2,w1,w2,s1,j2,s2,-av,-bs];apply aj;simp [Y,aN (n:=(z:Int)+1)];refine au (.inl rfl) ?_;simp [L,aN (n:=(A:Int)-1)];exact aw (ih _ _ (by omega) ⟨z+1,A-1,_,H6,_,rfl,rfl,by omega,by omega,by omega,by simp [X],by simp [Z],by simp [g4],by simp,by simp;omega,q.trans f5,r5,
   u.trans (eP (by omega) (by omega) (by omega) (by omega) (by omega)),a7.swap (by omega) (by omega) (by omega) ni nj⟩)
end
end
end Km
