/-
  Our own small machine for Go code by value, held tq the model: part 4. No program in Gl.
-/
import Derived.Test.YtmbjejcfadllnaaGreatK3
import Derived.ChangeArms
import Derived.DataReads
import Derived.Deep.Slices
import Derived.ProofKit
import Derived.RowKit3
import Derived.Below
import Derived.Carry
import Derived.Laws.IdiomArrays
open Option renaming some → aa,none → ab
open Bool renaming true → ae,false → ag
open Nat renaming le_refl → OF, add_mul → asv, mul_le_mul_right → asE, le_max_left → asa, le_max_right → ar2, le_trans → arZ, lt_of_lt_of_le → asA, zero_add → aso
open Option renaming bind_some → ar7, map_eq_some_iff → IN, bind_eq_some_iff → ar6
open List renaming map_cons → aft, foldl_cons → asL, mem_cons_of_mem → ar0, flatten_cons → asg, length_append → api, length_cons → asc, mem_cons_self → arU, mem_map → ase, getElem?_eq_some_iff → By, mem_of_getElem? → arR, drop_drop → asQ, drop_eq_getElem_cons → ar5, getElem?_eq_getElem → AT, length_map → asn, length_drop → arW, map_append → asB, take_append_of_le_length → asy, drop_zero → asV, take_of_length_le → arT, getElem?_map → asD, isEmpty_cons → atm, findIdx?_eq_some_iff_getElem → atn, getElem_mem → IT, getElem?_append_left → At, getElem?_append_right → arY, take_append_drop → asf, length_take → asp, append_nil → ast, getElem?_of_mem → asz, mem_cons → ass, getElem?_set_ne → AI, set_cons_succ → atl, append_assoc → asF, map_drop → ata, getElem?_set_self → If, getElem?_take → asb, getElem?_drop → arV, length_eq_zero_iff → asr, nil_append → atb
open Bool renaming false_eq_true → arQ, and_eq_true → BY
open Option.some renaming injEq → sh, inj → as1
set_option linter.unusedVariables false
set_option linter.constructorNameAsVariable false
set_option linter.unusedSimpArgs false
set_option linter.unusedSectionVars false
set_option maxRecDepth 100000
namespace Km
section
open Go
def P.Me:Nat→Nat→P
 | 0,_=>.h| k+1,n=>if n=0 then .h else if n % 2=1 then .o (Me k ((n-1) / 2))else .i (Me k ((n-2) / 2))
def P.nat(n:Nat):P:=P.Me n n
theorem pe:∀(k n:Nat),n≤k→(P.Me k n).toNat=n
 | 0,n,b=>by simp [P.Me,P.toNat];omega
 | k+1,n,b=>by
  unfold P.Me;split
  ·simp [P.toNat, *]
  ·split
   ·simp [P.toNat];rw [pe k _ (by omega)];omega
   ·simp [P.toNat];rw [pe k _ (by omega)];omega
theorem xW(n:Nat):(P.nat n).toNat=n:=pe n n (OF n)
theorem nat_ne{a b:Nat}(d:a≠b):P.nat a≠P.nat b:=fun e=>d (by rw [←xW a,←xW b,e])
theorem T.gr(v:V):∀(p:P) (t:T),(t.set p v).get p=v
 | .h,.e=>rfl| .h,.n _ _ _=>rfl| .o p,.e=>T.gr v p .e| .o p,.n l _ _=>T.gr v p l| .i p,.e=>T.gr v p .e| .i p,.n _ _ r=>T.gr v p r
theorem T.jY(v:V):∀(p q:P) (t:T),p≠q→(t.set p v).get q=t.get q
 | .h,.h,_,h=>absurd rfl h| .h,.o q,.e,_=>by cases q<;>rfl
 | .h,.i q,.e,_=>by cases q<;>rfl
 | .h,.o _,.n _ _ _,_=>rfl| .h,.i _,.n _ _ _,_=>rfl| .o _,.h,.e,_=>rfl| .o _,.h,.n _ _ _,_=>rfl| .i _,.h,.e,_=>rfl| .i _,.h,.n _ _ _,_=>rfl
 | .o p,.o q,.e,h=>by
  show(T.set .e p v).get q=_;rw [T.jY v p q .e (fun e=>h (by rw [e]))];cases q<;>rfl
 | .o p,.o q,.n l _ _,h=>T.jY v p q l (fun e=>h (by rw [e]))
 | .o p,.i q,.e,h=>by
  show T.get .e q=_;cases q<;>rfl
 | .o _,.i _,.n _ _ _,_=>rfl
 | .i p,.o q,.e,h=>by
  show T.get .e q=_;cases q<;>rfl
 | .i _,.o _,.n _ _ _,_=>rfl
 | .i p,.i q,.e,h=>by
  show(T.set .e p v).get q=_;rw [T.jY v p q .e (fun e=>h (by rw [e]))];cases q<;>rfl
 | .i p,.i q,.n _ _ r,h=>T.jY v p q r (fun e=>h (by rw [e]))
def T.g(t:T)(n:Nat):V:=t.get (P.nat n)
def T.s(t:T)(n:Nat)(v:V):T:=t.set (P.nat n) v
@[simp] theorem T.g_s (t:T) (n m:Nat) (v:V):(t.s n v).g m=if n=m then v else t.g m:=by
 unfold T.g T.s;split
 ·rename_i h;subst h;exact T.gr v _ t
 ·rename_i h;exact T.jY v _ _ t (nat_ne h)
def R(n:Nat):Arg:=.r (P.nat n)
def D(n:Nat):Option P:=aa (P.nat n)
def G(n:Nat)(w:Bool):Option (P × Bool):=aa (P.nat n,w)
abbrev vi(n:Int):V:=.c (.f (.int .i64 n))
abbrev vb(b:Bool):V:=.c (.f (.bool b))
abbrev fi(n:Int):FC:=.int .i64 n
@[simp] theorem akH (t:T) (n:Nat):(R n).ev t=t.g n:=rfl
@[simp] theorem arw (t:T) (v:V):(Arg.k v).ev t=v:=rfl
@[simp] theorem apM (t:T) (n:Nat) (v:V):ke t (D n) v=t.s n v:=rfl
@[simp] theorem akt (t:T) (v:V):ke t ab v=t:=rfl
@[simp] theorem adE (t:T) (n:Nat):t.get (P.nat n)=t.g n:=rfl
@[simp] theorem agE (n:Nat) (ps:List P) (v:V) (b:List V) (t:T):cG (P.nat n::ps) (v::b) t=cG ps b (t.s n v):=rfl
@[simp] theorem ajP (b:List V) (t:T):cG [] b t=t:=rfl
@[simp] theorem agI (t:T):wanted t ab=aa ae:=rfl
@[simp] theorem aoc (t:T) (n:Nat) (w:Bool):wanted t (G n w)=match t.g n with
  | .c (.f (.bool b))=>aa (b == w)| .t []=>aa ag| _=>ab:=rfl
attribute [simp] dh
def KO(o:Option (V × aj))(t:T)(ds:List dH)(K:V→St→Prop):Prop:=∃ p,o=aa p∧K p.1 ⟨t,ds,p.2⟩
@[simp] theorem aor (v:V) (H:aj) (t:T) (ds:List dH) (K:V→St→Prop):KO (aa (v,H)) t ds K↔K v ⟨t,ds,H⟩:=⟨fun⟨_,h,k⟩=>by cases h;exact k,fun k=>⟨_,rfl,k⟩⟩
def KP(P:V→Prop)(t:T)(ds:List dH)(H:aj)(K:V→St→Prop):Prop:=∃ x,P x∧K x ⟨t,ds,H⟩
@[simp] theorem akD (x:V) (t:T) (ds:List dH) (H:aj) (K:V→St→Prop):KP (Eq x) t ds H K↔K x ⟨t,ds,H⟩:=⟨fun⟨_,h,k⟩=>by cases h;exact k,fun k=>⟨x,rfl,k⟩⟩
def E2(x:V)(H:aj)(y:V)(H':aj):Prop:=x=y∧H=H'
def KE(P:V→aj→Prop)(t:T)(ds:List dH)(K:V→St→Prop):Prop:=∃ x H,P x H∧K x ⟨t,ds,H⟩
@[simp] theorem aq5 (x:V) (H:aj) (t:T) (ds:List dH) (K:V→St→Prop):KE (E2 x H) t ds K↔K x ⟨t,ds,H⟩:=⟨fun⟨_,_,⟨b,d⟩,k⟩=>by cases b;cases d;exact k,fun k=>⟨x,H,⟨rfl,rfl⟩,k⟩⟩
section
variable(tab:Nat→Option aE)
def KC(b:Option (List V))(f:Nat)(t:T)(ds:List dH)(H:aj)(K:V→St→Prop):Prop:=∃ a,b=aa a∧KP (bA tab f a) t ds H K
def KD(c:Option (Callee × List V))(t:T)(ds:List dH)(H:aj)(K:V→St→Prop):Prop:=∃ a,c=aa a∧KE (Ev tab a.1 a.2 H) t ds K
def KS(os:List aS)(L:St→Prop)(s:St):Prop:=vS tab os s L
def FS(s:St)(K:St→Prop):Prop:=K s
def KV(o:Option P)(os:List aS)(L:St→Prop)(v:V)(s:St):Prop:=FS ⟨ke s.aA o v,s.defs,s.heap⟩ (KS tab os L)
def GRD(w:Option Bool)(op:cP)(o:Option P)(os:List aS)(L:St→Prop)(s:St):Prop:=
 match w with
 | some ae=>kQ tab s op (KV tab o os L)| some ag=>FS ⟨ke s.aA o (.t []),s.defs,s.heap⟩ (KS tab os L)| none=>False
end
section
variable{tab:Nat→Option aE}{t:T}{ds:List dH}{H:aj}{K:V→St→Prop}{L:St→Prop}
@[simp] theorem ac3 (a:List V) (f:Nat):KC tab (aa a) f t ds H K↔KP (bA tab f a) t ds H K:=⟨fun⟨_,h,k⟩=>by cases h;exact k,fun k=>⟨_,rfl,k⟩⟩
@[simp] theorem aoq (c:Callee) (a:List V):KD tab (aa (c,a)) t ds H K↔KE (Ev tab c a H) t ds K:=⟨fun⟨_,h,k⟩=>by cases h;exact k,fun k=>⟨_,rfl,k⟩⟩
@[simp] theorem aq2 (s:St) (K:St→Prop):FS s K↔K s:=Iff.rfl
@[simp ↓] theorem aq6 (os:List aS) (s:St):KS tab os L s↔vS tab os s L:=Iff.rfl
@[simp ↓] theorem aq7 (o:Option P) (os:List aS) (v:V):KV tab o os L v ⟨t,ds,H⟩↔FS ⟨ke t o v,ds,H⟩ (KS tab os L):=Iff.rfl
@[simp ↓] theorem aq4 (op:cP) (o:Option P) (os:List aS) (s:St):GRD tab (aa ae) op o os L s↔kQ tab s op (KV tab o os L):=Iff.rfl
@[simp ↓] theorem aq3 (op:cP) (o:Option P) (os:List aS):GRD tab (aa ag) op o os L ⟨t,ds,H⟩↔FS ⟨ke t o (.t []),ds,H⟩ (KS tab os L):=Iff.rfl
@[simp ↓] theorem aot (s:St):vS tab [] s L↔L s:=Iff.rfl
@[simp ↓] theorem akF (o:Option P) (op:cP) (os:List aS):vS tab (⟨o,op,ab⟩::os) ⟨t,ds,H⟩ L↔kQ tab ⟨t,ds,H⟩ op (KV tab o os L):=Iff.rfl
@[simp ↓] theorem aj' (o:Option P) (op:cP) (n:Nat) (w:Bool) (os:List aS) :
  vS tab (⟨o,op,G n w⟩::os) ⟨t,ds,H⟩ L↔GRD tab (wanted t (G n w)) op o os L ⟨t,ds,H⟩:=by
 simp only [vS];rcases b:wanted t (G n w)with _ | _ | _<;>exact Iff.rfl
def cP.plain:cP→Bool
 | .call _ _ _ | .bY _ _ _ | .recover | .defer _ _=>ag| _=>ae
theorem cw{op:cP}(h:op.plain=ae):kQ tab ⟨t,ds,H⟩ op K↔KO (bz t H op) t ds K:=by
 have:kQ tab ⟨t,ds,H⟩ op K↔∃ v H',bz t H op=aa (v,H')∧K v ⟨t,ds,H'⟩:=by
  cases op<;>first | exact Iff.rfl | simp [cP.plain]at h
 rw [this];exact⟨fun⟨v,H',h,k⟩=>⟨(v,H'),h,k⟩,fun⟨p,h,k⟩=>⟨p.1,p.2,h,k⟩⟩
@[simp ↓] theorem aoQ (x:Arg):kQ tab ⟨t,ds,H⟩ (.bJ x) K↔KO (bz t H (.bJ x)) t ds K:=cw rfl
@[simp ↓] theorem amE (c a b:Arg):kQ tab ⟨t,ds,H⟩ (.pick c a b) K↔KO (bz t H (.pick c a b)) t ds K:=cw rfl
@[simp ↓] theorem akk (zs:List FC):kQ tab ⟨t,ds,H⟩ (.alloc zs) K↔KO (bz t H (.alloc zs)) t ds K:=cw rfl
@[simp ↓] theorem aoN (x:Arg):kQ tab ⟨t,ds,H⟩ (.box x) K↔KO (bz t H (.box x)) t ds K:=cw rfl
@[simp ↓] theorem akl (zs:List FC) (b:List (Nat × Nat × Arg)):kQ tab ⟨t,ds,H⟩ (.build zs b) K↔KO (bz t H (.build zs b)) t ds K:=cw rfl
@[simp ↓] theorem aio (sz:Nat) (zs:List FC) (len:Nat) (b:List (Nat × Arg)):kQ tab ⟨t,ds,H⟩ (.aV sz zs len b) K↔KO (bz t H (.aV sz zs len b)) t ds K:=cw rfl
@[simp ↓] theorem amB (n:Option Nat) (x:Arg):kQ tab ⟨t,ds,H⟩ (.load n x) K↔KO (bz t H (.load n x)) t ds K:=cw rfl
@[simp ↓] theorem aks (n:Nat) (x y:Arg):kQ tab ⟨t,ds,H⟩ (.store n x y) K↔KO (bz t H (.store n x y)) t ds K:=cw rfl
@[simp ↓] theorem ait (x:Arg):kQ tab ⟨t,ds,H⟩ (.bD x) K↔KO (bz t H (.bD x)) t ds K:=cw rfl
@[simp ↓] theorem aoM (op:BinOp) (x y:Arg):kQ tab ⟨t,ds,H⟩ (.bin op x y) K↔KO (bz t H (.bin op x y)) t ds K:=cw rfl
@[simp ↓] theorem apu (neg:Bool) (k:K8) (x y:Arg):kQ tab ⟨t,ds,H⟩ (.eq neg k x y) K↔KO (bz t H (.eq neg k x y)) t ds K:=cw rfl
@[simp ↓] theorem apv (op:UnOp) (x:Arg):kQ tab ⟨t,ds,H⟩ (.un op x) K↔KO (bz t H (.un op x)) t ds K:=cw rfl
@[simp ↓] theorem aoO (k:IntKind) (x:Arg):kQ tab ⟨t,ds,H⟩ (.fA k x) K↔KO (bz t H (.fA k x)) t ds K:=cw rfl
@[simp ↓] theorem amD (f:Nat) (b:List Arg):kQ tab ⟨t,ds,H⟩ (.lG f b) K↔KO (bz t H (.lG f b)) t ds K:=cw rfl
@[simp ↓] theorem akq:kQ tab ⟨t,ds,H⟩ .kI K↔KO (bz t H .kI) t ds K:=cw rfl
@[simp ↓] theorem ais (d:CK) (b:FC) (m k:Arg):kQ tab ⟨t,ds,H⟩ (.lookup d b m k) K↔KO (bz t H (.lookup d b m k)) t ds K:=cw rfl
@[simp ↓] theorem akp (b:CK) (m k v:Arg):kQ tab ⟨t,ds,H⟩ (.kG b m k v) K↔KO (bz t H (.kG b m k v)) t ds K:=cw rfl
@[simp ↓] theorem agx (sz bytes:Nat) (zs:List FC) (l c:Arg):kQ tab ⟨t,ds,H⟩ (.cM sz bytes zs l c) K↔KO (bz t H (.cM sz bytes zs l c)) t ds K:=cw rfl
@[simp ↓] theorem akr (sz:Nat) (x:Arg) (lo hi mx:Option Arg):kQ tab ⟨t,ds,H⟩ (.slice sz x lo hi mx) K↔KO (bz t H (.slice sz x lo hi mx)) t ds K:=cw rfl
@[simp ↓] theorem aip (off:Nat) (x:Arg):kQ tab ⟨t,ds,H⟩ (.aD off x) K↔KO (bz t H (.aD off x)) t ds K:=cw rfl
@[simp ↓] theorem ako (off:Nat) (n:Option Nat) (x:Arg):kQ tab ⟨t,ds,H⟩ (.field off n x) K↔KO (bz t H (.field off n x)) t ds K:=cw rfl
@[simp ↓] theorem air (sz:Nat) (b:Option Nat) (x i:Arg):kQ tab ⟨t,ds,H⟩ (.aW sz b x i) K↔KO (bz t H (.aW sz b x i)) t ds K:=cw rfl
@[simp ↓] theorem amz (len sz:Nat) (n:Option Nat) (x i:Arg):kQ tab ⟨t,ds,H⟩ (.qd len sz n x i) K↔KO (bz t H (.qd len sz n x i)) t ds K:=cw rfl
@[simp ↓] theorem agw (x:Arg) (i:Nat):kQ tab ⟨t,ds,H⟩ (.extract x i) K↔KO (bz t H (.extract x i)) t ds K:=cw rfl
@[simp ↓] theorem aoP (x:Arg):kQ tab ⟨t,ds,H⟩ (.len x) K↔KO (bz t H (.len x)) t ds K:=cw rfl
@[simp ↓] theorem amA (x:Arg):kQ tab ⟨t,ds,H⟩ (.lens x) K↔KO (bz t H (.lens x)) t ds K:=cw rfl
@[simp ↓] theorem ain (sz bytes:Nat) (x y:Arg):kQ tab ⟨t,ds,H⟩ (.append sz bytes x y) K↔KO (bz t H (.append sz bytes x y)) t ds K:=cw rfl
@[simp ↓] theorem amC (lo:Bool) (xs:List Arg):kQ tab ⟨t,ds,H⟩ (.mP lo xs) K↔KO (bz t H (.mP lo xs)) t ds K:=cw rfl
@[simp ↓] theorem aiq (sz:Nat) (zs:List FC) (len:Nat) (b:List (Nat × Arg)):kQ tab ⟨t,ds,H⟩ (.fU sz zs len b) K↔KO (bz t H (.fU sz zs len b)) t ds K:=cw rfl
@[simp ↓] theorem amy (f:Nat) (args:List Arg):kQ tab ⟨t,ds,H⟩ (.call f args ag) K ↔
  KC tab (ba (bO deep H) (dh t args)) f t ds ((dh t args).foldl (ZR deep) H) K:=by
 simp only [kQ,KC,KP];constructor
 ·intro h;rw [aZ (by simp)]at h;obtain⟨b,r,d,g,j⟩:=h;exact⟨b,d,r,g,j⟩
 ·rintro⟨b,d,r,g,j⟩;rw [aZ (by simp)];exact⟨b,r,d,g,j⟩
@[simp ↓] theorem akn (f:Nat) (args:List Arg):kQ tab ⟨t,ds,H⟩ (.call f args ae) K↔KD tab (aa (.fn f,dh t args)) t ds H K:=by simp [kQ,KD,KE]
@[simp ↓] theorem akm (x:Arg) (args:List Arg) (h:Bool):kQ tab ⟨t,ds,H⟩ (.bY x args h) K↔KD tab (bZ (x.ev t) (dh t args)) t ds H K:=by
 simp only [kQ,KD,KE];constructor
 ·rintro⟨c,as,r,H',b,d,g⟩;exact⟨(c,as),b,r,H',d,g⟩
 ·rintro⟨⟨c,as⟩,b,r,H',d,g⟩;exact⟨c,as,r,H',b,d,g⟩
end
def Dt:V→Option Bool
 | .c (.f (.bool b))=>aa b| _=>ab
@[simp] theorem aj_ (b:Bool):Dt (.c (.f (.bool b)))=aa b:=rfl
section
variable{t:T}{H:aj}
@[simp] theorem ark (x:Arg):bz t H (.bJ x)=aa (x.ev t,H):=rfl
@[simp] theorem arl (o:Os) (sz:Nat):bz t H (.pre o sz)=if o=.loc∨sz=0 then ab else aa (.c (.sl H.length 0 0 0 0 sz),H++[.bM sz [] 0 0 o]):=rfl
@[simp] theorem aq0 (c x y:Arg):bz t H (.pick c x y)=(Dt (c.ev t)).map fun b=>(if b then x.ev t else y.ev t,H):=by
 simp only [bz,Dt];split
 ·rename_i b h;simp only [h];cases b<;>rfl
 ·rename_i h;split
  ·rename_i b d;exact absurd d (h b)
  ·rfl
@[simp] theorem aoX (zs:List FC):bz t H (.alloc zs)=aa (.c (.ptr H.length 0 0),H++[.box (zs.map .f) 0]):=rfl
@[simp] theorem arh (x:Arg):bz t H (.box x)=(x.ev t).cells?.map fun xs=>(.c (.ptr H.length 0 0),H++[.box xs 0]):=by
 simp only [bz];cases (x.ev t).cells?<;>rfl
@[simp] theorem aoY (zs:List FC) (ps:List (Nat × Nat × Arg)):bz t H (.build zs ps)=(dv t (zs.map .f) ps).map fun cs=>(.a cs,H):=rfl
@[simp] theorem aog (sz:Nat) (zs:List FC) (n:Nat) (ps:List (Nat × Arg)):bz t H (.aV sz zs n ps) =
  if n=0 then(if ps.isEmpty then aa (.c (.f .es),H)else ab)else
  (dv t ((cq n zs).map .f) (ps.map fun p=>(p.1*sz,sz,p.2))).map fun cs=>(.c (.sl H.length 0 n n 0 sz),H++[.box cs 0]):=rfl
@[simp] theorem aqW (n:Option Nat) (x:Arg):bz t H (.load n x)=(aU H n (x.ev t)).map (·,H):=rfl
def zY(H:aj)(n:Nat)(x y:V):Option aj:=
 match x,y.cells? with
 | .c p,aa xs=>if xs.length=n then cE H p xs else ab| _,_=>ab
@[simp] theorem ao4 (n:Nat) (x y:Arg):bz t H (.store n x y)=(zY H n (x.ev t) (y.ev t)).map (.top,·):=by
 simp only [bz,zY];cases x.ev t with
 | c p=>cases (y.ev t).cells? with
  | none=>rfl| some xs=>by_cases h:xs.length=n<;>simp [h]
 | _=>rfl
@[simp] theorem aoa (n:Nat) (p:C) (y:V):zY H n (.c p) y=y.cells?.bind fun xs=>if xs.length=n then cE H p xs else ab:=by
 simp only [zY];cases y.cells?<;>rfl
@[simp] theorem arf (op:BinOp) (x y:Arg):bz t H (.bin op x y)=(bS op (x.ev t) (y.ev t)).map (·,H):=rfl
@[simp] theorem arO (neg:Bool) (k:K8) (x y:Arg):bz t H (.eq neg k x y)=(za H k (x.ev t) (y.ev t)).map fun b=>(vb (if neg then !b else b),H):=rfl
@[simp] theorem arP (op:UnOp) (x:Arg):bz t H (.un op x)=(unV op (x.ev t)).map (·,H):=rfl
def ahF(k:IntKind):V→Option V
 | .c (.f (.int _ n))=>aa (.c (.f (.int k (k.wrap n))))| _=>ab
@[simp] theorem apa (k j:IntKind) (n:Int):ahF k (.c (.f (.int j n)))=aa (.c (.f (.int k (k.wrap n)))):=rfl
@[simp] theorem ari (k:IntKind) (x:Arg):bz t H (.fA k x)=(ahF k (x.ev t)).map (·,H):=by
 simp only [bz,ahF];split
 ·rename_i h;simp only [h];rfl
 ·rename_i h;split
  ·rename_i b;exact absurd b (h _ _)
  ·rfl
@[simp] theorem aqZ (f:Nat) (b:List Arg):bz t H (.lG f b)=(ba sX (dh t b)).map fun xs=>(.c (.cl f xs),H):=rfl
@[simp] theorem aqY (f:Nat) (b:List Arg):bz t H (.v7 f b)=(ba sX (dh t b)).map fun xs=>(.c (.bm f xs),H):=rfl
@[simp] theorem ao2 (sz:Nat) (x:Arg) (lo hi mx:Option Arg):bz t H (.slice sz x lo hi mx)=(dw H sz (x.ev t) (lo.map (·.ev t)) (hi.map (·.ev t)) (mx.map (·.ev t))).map (·,H):=rfl
@[simp] theorem aoi (sz:Nat) (zs:List FC) (n:Nat) (ps:List (Nat × Arg)):bz t H (.fU sz zs n ps)=((dv t ((cq n zs).map .f) (ps.map fun p=>(p.1*sz,sz,p.2))).bind fun cs=>if n=0 then ab else ZN cs).map fun b=>(.c (.f (.fs b n)),H):=rfl
@[simp] theorem aq1 (sz:Nat) (x hi mx:Arg):bz t H (.wu sz x hi mx)=Cs H sz (x.ev t) (hi.ev t) (mx.ev t):=rfl
@[simp] theorem ao1 (n sz:Nat) (x:Arg) (lo hi mx:Option Arg):bz t H (.oU n sz x lo hi mx)=(kZ H n sz (x.ev t) (lo.map (·.ev t)) (hi.map (·.ev t)) (mx.map (·.ev t))).map (·,H):=rfl
@[simp] theorem ao3 (x:Arg) (lo hi:Option Arg):bz t H (.qH x lo hi)=(vB (x.ev t) (lo.map (·.ev t)) (hi.map (·.ev t))).map (·,H):=rfl
@[simp] theorem aoh (o:Nat) (x:Arg):bz t H (.aD o x)=(jn o (x.ev t)).map (·,H):=rfl
@[simp] theorem ao0 (o:Nat) (n:Option Nat) (x:Arg):bz t H (.field o n x)=(nv o n (x.ev t)).map (·,H):=rfl
@[simp] theorem aoj (sz:Nat) (b:Option Nat) (x i:Arg):bz t H (.aW sz b x i)=(aP H sz b (x.ev t) (i.ev t)).map (·,H):=rfl
@[simp] theorem aqT (x i:Arg):bz t H (.idxs x i)=(BD (x.ev t) (i.ev t)).map (·,H):=rfl
@[simp] theorem aqS (len sz:Nat) (n:Option Nat) (x i:Arg):bz t H (.qd len sz n x i)=(mC len sz n (x.ev t) (i.ev t)).map (·,H):=rfl
def cOf:V→Option C
 | .c x=>aa x| _=>ab
@[simp] theorem aq9 (x:C):cOf (.c x)=aa x:=rfl
@[simp] theorem arj (x:Arg):bz t H (.len x)=((cOf (x.ev t)).bind (bH H)).map fun n=>(vi (n:Nat),H):=by
 simp only [bz,cOf];cases x.ev t with
 | c y=>simp only [ar7];cases bH H y<;>rfl
 | _=>rfl
def strOf:V→Option ByteArray
 | .c (.f (.str s))=>aa s| _=>ab
@[simp] theorem aoT (s:ByteArray):strOf (.c (.f (.str s)))=aa s:=rfl
@[simp] theorem aqV (x:Arg):bz t H (.lens x)=(strOf (x.ev t)).map fun s=>(vi (s.size:Nat),H):=by
 simp only [bz,strOf];split
 ·rename_i h;simp only [h];rfl
 ·rename_i h;split
  ·rename_i b;exact absurd b (h _)
  ·rfl
@[simp] theorem aqU (n:Nat):bz t H (.uW n)=aa (vi (n:Nat),H):=rfl
@[simp] theorem aof (sz bytes:Nat) (x y:Arg):bz t H (.append sz bytes x y)=bU H sz bytes (x.ev t) (y.ev t):=rfl
@[simp] theorem aqR (sz:Nat) (x y:Arg):bz t H (.copy sz x y)=copyV H sz (x.ev t) (y.ev t):=rfl
@[simp] theorem aqX (lo:Bool) (xs:List Arg):bz t H (.mP lo xs)=(L9 lo (dh t xs)).map (·,H):=rfl
def tOf:V→Option (List V)
 | .t b=>aa b| _=>ab
@[simp] theorem arc (b:List V):tOf (.t b)=aa b:=rfl
@[simp] theorem akv (x:Arg) (i:Nat):bz t H (.extract x i)=(tOf (x.ev t)).bind fun d=>d[i]?.map (·,H):=by
 simp only [bz,tOf];split
 ·rename_i h;simp only [h];rfl
 ·rename_i h;split
  ·rename_i b;exact absurd b (h _)
  ·rfl
def tD:V→Option V
 | .c (.ptr b o e)=>aa (.c (.ptr b o e))| .c (.f (.fp cs o))=>aa (.c (.f (.fp cs o)))| _=>ab
@[simp] theorem aii (b o e:Nat):tD (.c (.ptr b o e))=aa (.c (.ptr b o e)):=rfl
@[simp] theorem akj (cs:List FC) (o:Nat):tD (.c (.f (.fp cs o)))=aa (.c (.f (.fp cs o))):=rfl
@[simp] theorem aok (x:Arg):bz t H (.bD x)=(tD (x.ev t)).map (·,H):=by
 simp only [bz,tD];split
 ·rename_i h;simp only [h];rfl
 ·rename_i h;simp only [h];rfl
 ·rename_i b d;split
  ·rename_i h;exact absurd h (b _ _ _)
  ·rename_i h;exact absurd h (d _ _)
  ·rfl
@[simp] theorem akd (f:Nat) (b:List FC) (args:List V):bZ (.c (.f (.fn f b))) args=aa (.fn f,args++b.map fun x=>.c (.f x)):=rfl
@[simp] theorem akc (f:Nat) (b:List C) (args:List V):bZ (.c (.cl f b)) args=aa (.fn f,args++b.map .c):=rfl
@[simp] theorem akb (f:Nat) (first:List C) (args:List V):bZ (.c (.bm f first)) args=aa (.fn f,first.map .c++args):=rfl
end
section
variable{k:IntKind}{a b:Int}{H:aj}
@[simp] theorem aou:bS .add (.c (.f (.int k a))) (.c (.f (.int k b)))=aa (.c (.f (.int k (k.wrap (a+b))))):=by simp [bS,lu,V.int]
@[simp] theorem aoC:bS .sub (.c (.f (.int k a))) (.c (.f (.int k b)))=aa (.c (.f (.int k (k.wrap (a-b))))):=by simp [bS,lu,V.int]
@[simp] theorem aoA:bS .mul (.c (.f (.int k a))) (.c (.f (.int k b)))=aa (.c (.f (.int k (k.wrap (a*b))))):=by simp [bS,lu,V.int]
theorem tt(h:b≠0):bS .quo (.c (.f (.int k a))) (.c (.f (.int k b)))=aa (.c (.f (.int k (k.wrap (a.tdiv b))))):=by simp [bS,lu,V.int,h]
theorem lV(h:b≠0):bS .rem (.c (.f (.int k a))) (.c (.f (.int k b)))=aa (.c (.f (.int k (a.tmod b)))):=by simp [bS,lu,V.int,h]
@[simp] theorem aov:bS .eql (.c (.f (.int k a))) (.c (.f (.int k b)))=aa (vb (decide (a=b))):=by simp [bS,lu,V.bool];rfl
@[simp] theorem aoB:bS .neq (.c (.f (.int k a))) (.c (.f (.int k b)))=aa (vb (!decide (a=b))):=by simp [bS,lu,V.bool];rfl
@[simp] theorem aoz:bS .lss (.c (.f (.int k a))) (.c (.f (.int k b)))=aa (vb (decide (a<b))):=by simp [bS,lu,V.bool]
@[simp] theorem aoy:bS .leq (.c (.f (.int k a))) (.c (.f (.int k b)))=aa (vb (decide (a≤b))):=by simp [bS,lu,V.bool]
@[simp] theorem aox:bS .gtr (.c (.f (.int k a))) (.c (.f (.int k b)))=aa (vb (decide (b<a))):=by simp [bS,lu,V.bool]
@[simp] theorem aow:bS .geq (.c (.f (.int k a))) (.c (.f (.int k b)))=aa (vb (decide (b≤a))):=by simp [bS,lu,V.bool]
@[simp] theorem alL {x y:Bool}:MM .bool (.f (.bool x)) (.f (.bool y))=aa (x == y):=rfl
@[simp] theorem aoH:MM .int (.f (.int k a)) (.f (.int k b))=aa (a == b):=by simp [MM]
@[simp] theorem aoI {x y:ByteArray}:MM .str (.f (.str x)) (.f (.str y))=aa (x == y):=rfl
@[simp] theorem aoG:rC [] [] []=aa ae:=rfl
@[simp] theorem alK {q:CK} {qs:List CK} {x y:C} {xs ys:List C}:rC (q::qs) (x::xs) (y::ys)=(MM q x y).bind fun c=>(rC qs xs ys).map fun d=>c&&d:=by
 simp only [rC];cases MM q x y<;>cases rC qs xs ys<;>rfl
@[simp] theorem alM {x y:Bool}:za H .bool (.c (.f (.bool x))) (.c (.f (.bool y)))=aa (x == y):=rfl
@[simp] theorem apc {ks:List CK} {xs ys:List C}:za H (.st ks) (.a xs) (.a ys)=rC ks xs ys:=rfl
@[simp] theorem aqO {x:Bool}:unV .not (.c (.f (.bool x)))=aa (vb (!x)):=rfl
@[simp] theorem ahK {o c o' ep:Nat}:jn o (.c (.ptr c o' ep))=aa (.c (.ptr c (o'+o) ep)):=rfl
@[simp] theorem akf {o o':Nat} {cs:List FC}:jn o (.c (.f (.fp cs o')))=aa (.c (.f (.fp cs (o'+o)))):=rfl
@[simp] theorem aoF {x:C}:(V.c x).cells?=aa [x]:=rfl
@[simp] theorem aoE {xs:List C}:(V.a xs).cells?=aa xs:=rfl
@[simp] theorem arp {n:Nat} {x:FC}:c8 n H (.f x)=aa x:=by cases n<;>rfl
@[simp] theorem aq_ {n:Nat} {x:C}:bO n H (.c x)=(c8 n H x).map fun y=>.c (.f y):=rfl
@[simp] theorem arb {n f:Nat} {b:List C}:c8 (n+1) H (.cl f b)=(ba (c8 n H) b).map (.fn f):=rfl
@[simp] theorem ape {n b o e:Nat}:c8 (n+1) H (.ptr b o e)=match H[b]? with
  | some (.box cs _)=>(ba (c8 n H) cs).map (.fp · o)| _=>ab:=rfl
theorem kE{n b o l c ep sz:Nat}:c8 (n+1) H (.sl b o l c ep sz)=match H[b]? with
  | some (.box cs _)=>if o+l*sz≤cs.length then(ba (c8 n H) ((cs.drop o).take (l*sz))).map (.fs · l)else ab| some (.bM s cs _ e .loc)=>if ep=e∧sz=s∧o+l*sz≤cs.length then(ba (c8 n H) ((cs.drop o).take (l*sz))).map (.fs · l)else ab| some (.bM s _ _ e .nil)=>if ep=e∧sz=s then aa .aF else ab| some (.bM s _ _ e .es)=>if ep=e∧sz=s then aa .es else ab| _=>ab:=rfl
theorem Yb{n b o l c e sz:Nat}:jt (n+1) (.sl b o l c e sz) H=match H[b]? with
  | some (.box cs d)=>((cs.drop o).take (l*sz)).foldl (fun H x=>jt n x H) (H.set b (.box cs (Nat.max d (o+l*sz))))
  | some (.bM s cs d e st)=>((cs.drop o).take (l*sz)).foldl (fun H x=>jt n x H) (H.set b (.bM s cs (Nat.max d (o+l*sz)) e st))
  | _=>H:=rfl
@[simp] theorem ary {n:Nat} {x:C}:ZR n H (.c x)=jt n x H:=rfl
@[simp] theorem ara {n:Nat} {x:C}:fJ n H (.c x)=(c8 n H x).map fun y=>.c (.f y):=rfl
theorem rS{n:Nat}:∀(xs:List FC),ba (c8 n H) (xs.map .f)=aa xs
 | []=>rfl| x::xs=>by simp [ba,rS xs]
@[simp] theorem aq' {n:Nat} {xs:List C}:bO n H (.a xs)=(ba (c8 n H) xs).map fun ys=>.a (ys.map .f):=rfl
@[simp] theorem zw {n:Nat} (xs:List FC):ba (c8 n H) (xs.map .f)=aa xs:=rS xs
@[simp] theorem arx {n:Nat} {xs:List C}:ZR n H (.a xs)=xs.foldl (fun H x=>jt n x H) H:=rfl
@[simp] theorem FP {n:Nat} {x:FC}:jt n (.f x) H=H:=by cases n<;>rfl
@[simp] theorem akh {n:Nat} (xs:List FC):(xs.map C.f).foldl (fun H x=>jt n x H) H=H:=by
 induction xs with
 | nil=>rfl| cons x xs b=>simp only [aft,asL];rw [FP];exact b
end
theorem ZA{n:Int}(b:0≤n)(d:n≤255):IntKind.wrap .u8 n=n:=by
 simp only [IntKind.wrap,IntKind.bits,IntKind.signed];simp;omega
theorem adR{H:aj}{sz n b o ep:Nat}{k:IntKind}{i:Int}(d:0≤i)(g:i<n):aP H sz (aa n) (.c (.ptr b o ep)) (.c (.f (.int k i)))=aa (.c (.ptr b (o+i.toNat*sz) ep)):=by
 simp [aP,dy,d,g]
theorem wrap64{n:Int}(b:-9223372036854775808≤n)(d:n≤9223372036854775807):IntKind.wrap .i64 n=n:=by
 simp only [IntKind.wrap,IntKind.bits,IntKind.signed];simp;omega
theorem aQ{n:Int}(b:-9223372036854775808≤n:=by omega)(d:n≤9223372036854775807:=by omega):IntKind.wrap .i64 n=n:=wrap64 b d
@[simp] theorem cast_eq (a b:Nat):((a:Int)=(b:Int))=(a=b):=propext Int.natCast_inj
@[simp] theorem amf {b d:Type} (g:b→Option d):ba g []=aa []:=rfl
@[simp] theorem aki {b d:Type} (g:b→Option d) (x:b) (xs:List b):ba g (x::xs)=(g x).bind fun y=>(ba g xs).map (y::·):=by
 simp only [ba];cases g x<;>cases ba g xs<;>simp
@[simp] theorem aoU (x:C) (xs:List C):aK ab (x::xs)=aa (.c x):=rfl
@[simp] theorem aoV (n:Nat) (xs:List C):aK (aa n) xs=if n≤xs.length then aa (.a (xs.take n))else ab:=rfl
@[simp] theorem an (H:aj) (n:Option Nat) (b o ep:Nat):aU H n (.c (.ptr b o ep))=match H[b]? with
  | some (.box cs _)=>aK n (cs.drop o)| some (.bM _ cs _ e .loc)=>if ep=e then aK n (cs.drop o)else ab| _=>ab:=by
 simp only [aU,aC];split
 ·rename_i h;simp only [h];rfl
 ·rename_i h;simp only [h];split<;>rfl
 ·rename_i d g;split
  ·rename_i h;exact absurd h (d _ _)
  ·rename_i h;exact absurd h (g _ _ _ _)
  ·rfl
@[simp] theorem bh (H:aj) (b o ep:Nat) (xs:List C):cE H (.ptr b o ep) xs=match H[b]? with
  | some (.box cs d)=>if d≤o∧o+xs.length≤cs.length then aa (H.set b (.box (over cs o xs) d))else ab| some (.bM sz cs d e .loc)=>if ep=e∧d≤o∧o+xs.length≤cs.length then aa (H.set b (.bM sz (over cs o xs) d e .loc))else ab| _=>ab:=rfl
attribute [simp] over cq
@[simp] theorem aiP (t:T) (cs:List C):dv t cs []=aa cs:=rfl
@[simp] theorem agy (t:T) (cs:List C) (o n:Nat) (x:Arg) (ps:List (Nat × Nat × Arg)):dv t cs ((o,n,x)::ps)=(x.ev t).cells?.bind fun xs=>if xs.length=n∧o+xs.length≤cs.length then dv t (over cs o xs) ps else ab:=by
 simp only [dv];cases (x.ev t).cells?<;>rfl
@[simp] theorem ao' (x:FC):sX (.c (.f x))=aa (.f x):=rfl
@[simp] theorem alG (b o e:Nat):sX (.c (.ptr b o e))=aa (.ptr b o e):=rfl
@[simp] theorem aoD (b o l c e s:Nat):sX (.c (.sl b o l c e s))=aa (.sl b o l c e s):=rfl
def ajZ:V→Option V
 | .t _=>ab| v=>aa v
@[simp] theorem aqN (x:C):ajZ (.c x)=aa (.c x):=rfl
@[simp] theorem aqM (x:List C):ajZ (.a x)=aa (.a x):=rfl
@[simp] theorem aoS (t:T) (H:aj) (n:Nat):bs t H (.tmp (P.nat n))=ajZ (t.g n):=by
 simp only [bs,adE];cases t.g n<;>rfl
@[simp] theorem an1 (t:T) (H:aj) (n:Nat) (k:Option Nat):bs t H (.cell (P.nat n) k)=aU H k (t.g n):=rfl
@[simp] theorem aoJ {t:T} {H:aj} {x:iK} {r:V}:mX [x] r ⟨t,[],H⟩↔∃ r0,bs t H x=aa r0∧fJ deep H r0=aa r:=by
 simp only [mX,results,true_and,ba];cases bs t H x<;>simp
@[simp] theorem aoK {t:T} {H:aj} {x y:iK} {a b:V}:mX [x,y] (.t [a,b]) ⟨t,[],H⟩ ↔
  (∃ r0,bs t H x=aa r0∧bO deep H r0=aa a)∧∃ r0,bs t H y=aa r0∧bO deep H r0=aa b:=by
 simp only [mX,results,true_and,ba];cases bs t H x with
 | none=>simp
 | some u=>cases bs t H y with
  | none=>simp| some w=>cases d:bO deep H u<;>cases g:bO deep H w<;>simp [fJ,d,g]
@[simp] theorem akg {t:T} {H:aj} {x y z:iK} {a b c:V}:mX [x,y,z] (.t [a,b,c]) ⟨t,[],H⟩ ↔
  (∃ r0,bs t H x=aa r0∧bO deep H r0=aa a)∧(∃ r0,bs t H y=aa r0∧bO deep H r0=aa b)∧∃ r0,bs t H z=aa r0∧bO deep H r0=aa c:=by
 simp only [mX,results,true_and,ba];cases bs t H x with
 | none=>simp
 | some u=>cases bs t H y with
  | none=>simp
  | some w=>cases bs t H z with
   | none=>simp| some q=>cases d:bO deep H u<;>cases g:bO deep H w<;>cases j:bO deep H q<;>simp [fJ,d,g,j]
inductive Tg where | nil | es | fs
 deriving DecidableEq
def Tg.fc:Tg→FC
 | .nil=>.aF| .es=>.es| .fs=>.fs [] 0
def sl(g:Tg)(rows:List (List FC)):FC:=if rows.isEmpty then g.fc else .fs rows.flatten rows.length
def bR(sz:Nat)(rows:List (List FC)):Prop:=∀ r ∈ rows,r.length=sz
theorem et{sz:Nat}:∀ {rows:List (List FC)},bR sz rows→rows.flatten.length=rows.length*sz
 | [],_=>by simp
 | r::rows,h=>by
  have:=et (rows:=rows) fun x b=>h x (ar0 _ b);simp only [asg,api,asc,this,h r arU,asv,Nat.one_mul];omega
theorem xw{sz:Nat}:∀ {rows:List (List FC)} (j:Nat),bR sz rows→rows.flatten.drop (j*sz)=(rows.drop j).flatten
 | rows,0,_=>by simp
 | [],j+1,_=>by simp
 | r::rows,j+1,h=>by
  have hr:=h r arU;have:=xw (rows:=rows) j fun x b=>h x (ar0 _ b);rw [asg,List.drop_succ_cons,←this,asv,Nat.one_mul,List.drop_append,hr];simp [hr,show j*sz+sz-sz=j*sz by omega]
theorem bR.map{b:Type}{sz:Nat}{l:List b}{g:b→List FC}(h:∀ x,(g x).length=sz):bR sz (l.map g):=fun r hr=>by
 obtain⟨x,_,rfl⟩:=ase.1 hr;exact h x
theorem uI{sz j k:Nat}{rows:List (List FC)}{row:List FC}(d:bR sz rows)(b:rows[j]?=aa row)(l:k≤sz) :
  rows.flatten.drop (j*sz+k)=row.drop k++(rows.drop (j+1)).flatten:=by
 have g:j<rows.length:=(By.1 b).1;have hr:row.length=sz:=d row (arR b);rw [←asQ,xw j d,ar5 g,asg];have:rows[j]=row:=by simpa [AT g]using b
 rw [this,List.drop_append,show k-row.length=0 by omega];simp
variable{H:aj}
theorem zl{sz j k:Nat}{rows:List (List FC)}{row:List FC}{x:FC}(b:bR sz rows)(d:rows[j]?=aa row)(l:row[k]?=aa x) :
  aU H ab (.c (.f (.fp rows.flatten (j*sz+k))))=aa (.c (.f x)):=by
 have hr:row.length=sz:=b row (arR d);have g:k<row.length:=(By.1 l).1;have e:=uI (k:=k) b d (by omega);simp only [aU,aC,ar7,e];rw [ar5 g];have:row[k]=x:=by simpa [AT g]using l
 simp [aK,this]
theorem ad8{sz j k n:Nat}{rows:List (List FC)}{row:List FC}(b:bR sz rows)(d:rows[j]?=aa row)(g:k+n≤sz) :
  aU H (aa n) (.c (.f (.fp rows.flatten (j*sz+k))))=aa (.a (((row.drop k).take n).map .f)):=by
 have hr:row.length=sz:=b row (arR d);have e:=uI (k:=k) b d (by omega);simp only [aU,aC,ar7,e];simp only [aK];rw [bp (by simp only [asn,api,arW];omega)];rw [asB,asy (by simp only [asn,arW];omega),List.map_take]
theorem fM{sz j:Nat}{rows:List (List FC)}{row:List FC}(b:bR sz rows)(d:rows[j]?=aa row) :
  aU H (aa sz) (.c (.f (.fp rows.flatten (j*sz))))=aa (.a (row.map .f)):=by
 have hr:row.length=sz:=b row (arR d);have:=ad8 (H:=H) (k:=0) (n:=sz) b d (by omega);simp only [Nat.add_zero,asV]at this;rw [this,arT (by omega)]
theorem kF{sz j:Nat}{rows:List (List FC)}{row:List FC}{x:FC}(b:bR sz rows)(d:rows[j]?=aa row)(g:row[0]?=aa x) :
  aU H ab (.c (.f (.fp rows.flatten (j*sz))))=aa (.c (.f x)):=zl (k:=0) b d g
theorem ad6{j:Nat}{l:List Int}{x:Int}(b:l[j]?=aa x) :
  aU H ab (.c (.f (.fp (l.map fun n=>[fi n]).flatten (j*1))))=aa (vi x):=
 kF (row:=[fi x]) (bR.map fun _=>rfl) (by rw [asD,b];rfl) rfl
@[simp] theorem rR (g:Tg) (rows:List (List FC)):bH H (.f (sl g rows))=aa rows.length:=by
 cases rows with
 | nil=>cases g<;>rfl
 | cons r rows=>rfl
theorem c5{g:Tg}{rows:List (List FC)}{sz:Nat}{k:IntKind}{i:Int}(d:0≤i)(b:i<rows.length) :
  aP H sz ab (.c (.f (sl g rows))) (.c (.f (.int k i)))=aa (.c (.f (.fp rows.flatten (i.toNat*sz)))):=by
 cases rows with
 | nil=>simp at b;omega
 | cons r rows=>
  simp only [asc]at b;simp [aP,dy,sl,d];omega
theorem Xm{g:Tg}{rows:List (List FC)}{sz:Nat}(b:bR sz rows):cO H sz (.f (sl g rows))=aa (rows.flatten.map .f):=by
 cases rows with
 | nil=>cases g<;>simp [sl,Tg.fc,cO]
 | cons r rows=>
  have:=et b;simp only [sl,atm,arQ,if_false,cO,this,if_true]
end
section
open Go
def Kf(tab:Nat→Option aE)(f:Nat)(args:List V)(r:V):Prop:=∀ H,∃ J,Ev tab (.fn f) args H r (H++J)
section
variable{tab:Nat→Option aE}{f:Nat}{args:List V}{r:V}
theorem Kf.pure{x:FC}(h:Kf tab f args (.c (.f x))):bA tab f args (.c (.f x)):=by
 obtain⟨J,h⟩:=h [];exact⟨_,_,h,by simp⟩
theorem Kf.eq{x:FC}(h:Kf tab f args (.c (.f x))):bA tab f args=Eq (.c (.f x)):=
 funext fun r=>propext ⟨fun k=>h.pure.det k,fun e=>e▸h.pure⟩
theorem bA.eq{r:V}(h:bA tab f args r):bA tab f args=Eq r:=funext fun _=>propext ⟨fun k=>h.det k,fun e=>e▸h⟩
noncomputable def al5 (tab:Nat→Option aE) (f:Nat) (args:List V) (H:aj):aj:=Classical.epsilon fun J=>∃ r,Ev tab (.fn f) args H r (H++J)
theorem Kf.ev(h:Kf tab f args r)(H:aj):Ev tab (.fn f) args H=E2 r (H++al5 tab f args H):=by
 have j:∃ J,∃ r,Ev tab (.fn f) args H r (H++J):=by obtain⟨J,b⟩:=h H;exact⟨J,r,b⟩
 have l:∃ r,Ev tab (.fn f) args H r (H++al5 tab f args H):=Classical.epsilon_spec j;obtain⟨J,b⟩:=h H;obtain⟨r',hr⟩:=l;obtain⟨rfl,e⟩:=b.det hr;funext x H';exact propext ⟨fun k=>hr.det k,fun⟨d,g⟩=>d▸g▸hr⟩
theorem Ev.eq{c:Callee}{H H':aj}(h:Ev tab c args H r H'):Ev tab c args H=E2 r H':=funext fun _=>funext fun _=>propext ⟨fun k=>h.det k,fun⟨b,d⟩=>b▸d▸h⟩
def ac1(b:List iK)(r:V)(H:aj)(s:St):Prop:=s.defs=[]∧results s.aA s.heap b=aa r∧∃ J,s.heap=H++J
theorem qh{ps:List P}{b:List iK}{body:az}(y:tab f=aa ⟨ps,b,body⟩)(x:args.length=ps.length)
  (h:∀(H:aj) (Q:Option az→St→Prop),(∀ j s,ac1 b r H s→Q j s)→WP tab f ab [.code body] ⟨cG ps args .e,[],H⟩ Q):Kf tab f args r:=by
 intro H;have g:=h H (fun _ s=>ac1 b r H s) fun _ _ h=>h;obtain⟨n,m,d,j,s,l,v,q,J,u⟩:=g;exact⟨J,xy y x ⟨n,m,d,j,s,l,0,0,s.heap,by rw [v];rfl,by rw [q],u⟩⟩
@[simp] theorem alP {t:T} {H H':aj} {x:iK}:ac1 [x] r H ⟨t,[],H'⟩↔bs t H' x=aa r∧∃ J,H'=H++J:=by
 simp only [ac1,results,true_and,ba];cases bs t H' x<;>simp
theorem eu{m d:Nat}{x:FC}(h:(CF tab m d (.fn f) args []).map (·.1)=aa (.c (.f x))):bA tab f args (.c (.f x)):=by
 rw [IN]at h;obtain⟨⟨r,H'⟩,b,g⟩:=h;exact⟨r,H',⟨m,d,b⟩,by rw [show r=.c (.f x) from g];simp⟩
theorem ft{m d:Nat}{x:V}(h:((CF tab m d (.fn f) args []).bind fun p=>fJ deep p.2 p.1)=aa x):bA tab f args x:=by
 rw [ar6]at h;obtain⟨⟨r,H'⟩,b,g⟩:=h;exact⟨r,H',⟨m,d,b⟩,g⟩
theorem eC{tab:Nat→Option aE}{f:Nat}{args:List V}{x:V}(h:((CF tab 60 10 (.fn f) args []).bind fun p=>fJ deep p.2 p.1)=aa x):bA tab f args=Eq x:=bA.eq (ft h)
theorem wh{b:Bool}(h:∃ m d H',dS tab (pk tab) m d (.fn f) [] []=aa (.c (.f (.bool b)),H')):bA tab f [] (vb b):=by
 obtain⟨m,d,H',h⟩:=h;exact⟨_,H',⟨m,d,h⟩,by simp⟩
theorem bQ{S:V→Prop}{ps:List P}{b:List iK}{body:az}(y:tab f=aa ⟨ps,b,body⟩)(x:args.length=ps.length)
  (h:∀ Q:Option az→St→Prop,(∀ j s r,S r→mX b r s→Q j s)→WP tab f ab [.code body] ⟨cG ps args .e,[],[]⟩ Q):∃ r,S r∧bA tab f args r:=by
 have q:=h (fun _ s=>∃ r,S r∧mX b r s) fun _ _ r g l=>⟨r,g,l⟩
 obtain⟨n,m,d,j,s,g,r,hr,v,r0,l,u⟩:=q;exact⟨r,hr,r0,s.heap,xy y x ⟨n,m,d,j,s,g,0,0,s.heap,by rw [v];rfl,l,rfl⟩,u⟩
variable{fn i:Nat}{ro:Option Nat}{k:List cA}{ds:List dH}{Q:Option az→St→Prop}
def LI(a x:Nat):az:=.region [⟨D x,.bin .add (R a) (.k (.c (.f (.int .i64 1)))),ab⟩,⟨D a,.bJ (R x),ab⟩] []
def rZ(i a b c x:Nat)(body:az):az:=.seq (.region [⟨D c,.bin .lss (R a) (R b),ab⟩] []) (.seq (.cond (R c) .skip (.exit i)) (.seq body (LI a x)))
def Fx(i a b c x:Nat)(body:az):az:=.block i (.loop (rZ i a b c x body))
theorem gu{a b c x:Nat}{body:az}{t:T}{H:aj}(N:Nat)(I:Nat→T→aj→Prop)(J:N≤9223372036854775807)(y:a≠b)(A:x≠b)
  (g:t.g a=vi 0) (l:t.g b=vi N) (E:I 0 t H)
  (step:∀ j t H,j<N→I j t H→t.g a=vi j→t.g b=vi N →
   (∀ q H',I (j+1) ((q.s x (vi (j+1:Nat))).s a (vi (j+1:Nat))) H'→q.g a=vi j→q.g b=vi N →
    WP tab fn ro (.code (LI a x)::.inLoop (rZ i a b c x body)::.inBlock i::k) ⟨q,ds,H'⟩ Q) →
   WP tab fn ro (.code body::.code (LI a x)::.inLoop (rZ i a b c x body)::.inBlock i::k) ⟨t.s c (vb ae),ds,H⟩ Q)
  (done:∀ t H,I N t H→t.g a=vi N→t.g b=vi N→WP tab fn ro k ⟨t.s c (vb ag),ds,H⟩ Q) :
  WP tab fn ro (.code (Fx i a b c x body)::k) ⟨t,ds,H⟩ Q:=by
 have m:∀ ops:List aS,ops.all (·.op.ee)=ae→ro=ab∨ops.all (·.op.ee)=ae:=fun _ h=>.inr h;refine aB ?_;refine bI (fun n s=>∃ j t H,s=⟨t,ds,H⟩∧j≤N∧n=N-j∧I j t H∧t.g a=vi j∧t.g b=vi N) N ⟨0,t,H,rfl,by omega,by omega,E,g,l⟩ ?_;rintro n s ⟨j,t,H,rfl,K,rfl,B,g,l⟩ F;apply aq;refine av (m _ rfl) ?_;simp [g,l];by_cases d:j<N
 ·rw [decide_eq_true d];apply aq;refine ak (by simp) ?_;refine aL ?_;apply aq;refine step j t H d B g l fun q H' u v z=>?_;refine av (m _ rfl) ?_;simp [v];rw [aQ];refine F (N-(j+1)) _ (by omega) ⟨j+1,_,H',rfl,by omega,rfl,by simpa using u,by simp,?_⟩;simp [y,A,z]
 ·have:j=N:=by omega
  subst this;rw [decide_eq_false d];apply aq;refine al (by simp) ?_;refine bq (k':=k) (by simp [exitTo]) ?_;exact done t H B g l
def FE(a x y:Nat):az:=.region [⟨D x,.bJ (R a),ab⟩,⟨D y,.bin .add (R x) (.k (.c (.f (.int .i64 1)))),ab⟩,⟨D a,.bJ (R y),ab⟩] []
def tL(i a c x y:Nat)(b:List aS)(body:az):az:=.seq (.seq (.region b []) (.cond (R c) .skip (.exit i))) (.seq body (FE a x y))
def Xn(i a c x y:Nat)(b:List aS)(body:az):az:=.block i (.loop (tL i a c x y b body))
theorem bV{a c x y:Nat}{g:List aS}{body:az}{t:T}{H:aj}(N:Nat)(I:Nat→T→aj→Prop)(K:N≤9223372036854775807)(B:g.all (·.op.ee)=ae)
  (d:t.g a=vi 0) (E:I 0 t H)
  (l:∀ j t H (L:St→Prop),j≤N→I j t H→t.g a=vi j→(∀ b,I j b H→b.g a=vi j→b.g c=vb (decide ((j:Int)<(N:Int)))→L ⟨b,ds,H⟩)→vS tab g ⟨t,ds,H⟩ L)
  (step:∀ j t H,j<N→I j t H→t.g a=vi j →
   (∀ b H',I (j+1) (((b.s x (vi j)).s y (vi (j+1:Nat))).s a (vi (j+1:Nat))) H'→b.g a=vi j →
    WP tab fn ro (.code (FE a x y)::.inLoop (tL i a c x y g body)::.inBlock i::k) ⟨b,ds,H'⟩ Q) →
   WP tab fn ro (.code body::.code (FE a x y)::.inLoop (tL i a c x y g body)::.inBlock i::k) ⟨t,ds,H⟩ Q)
  (done:∀ t H,I N t H→t.g a=vi N→WP tab fn ro k ⟨t,ds,H⟩ Q) :
  WP tab fn ro (.code (Xn i a c x y g body)::k) ⟨t,ds,H⟩ Q:=by
 have m:∀ ops:List aS,ops.all (·.op.ee)=ae→ro=ab∨ops.all (·.op.ee)=ae:=fun _ h=>.inr h;refine aB ?_;refine bI (fun n s=>∃ j t H,s=⟨t,ds,H⟩∧j≤N∧n=N-j∧I j t H∧t.g a=vi j) N ⟨0,t,H,rfl,by omega,by omega,E,d⟩ ?_;rintro n s ⟨j,t,H,rfl,F,rfl,q,d⟩ J;apply aq;apply aq;refine av (m _ B) ?_;refine l j t H _ F q d fun b q d u=>?_;by_cases A:j<N
 ·rw [decide_eq_true (by omega)]at u;refine ak u ?_;refine aL ?_;apply aq;refine step j b H A q d fun b H' v z=>?_;refine av (m _ rfl) ?_;simp [z];rw [aQ];exact J (N-(j+1)) _ (by omega) ⟨j+1,_,H',rfl,by omega,rfl,by simpa using v,by simp⟩
 ·have:j=N:=by omega
  subst this;rw [decide_eq_false (by omega)]at u;refine al u ?_;refine bq (k':=k) (by simp [exitTo]) ?_;exact done b H q d
end
end
section
open Go
def lX{b:Type}(l:List b)(p:b→Bool):Int:=match l.findIdx? p with | some j=>j | none=>-1
theorem Ly{b:Type}(l:List b)(p:b→Bool):decide (0≤lX l p)=l.any p:=by
 unfold lX;cases h:l.findIdx? p with
 | none=>
  rw [List.findIdx?_eq_none_iff]at h;have:l.any p=ag:=by rw [List.any_eq_false];intro x m;simp [h x m]
  simp [this]
 | some j=>
  rw [atn]at h;obtain⟨d,g,_⟩:=h;have:l.any p=ae:=by rw [List.any_eq_true];exact⟨l[j],IT d,g⟩
  simp [this]
theorem Lx{b:Type}{l:List b}{p:b→Bool}{j:Nat}(d:j<l.length)(m:p l[j]=ae)(g:∀(i:Nat) (hi:i<j),p (l[i]'(by omega))=ag):lX l p=j:=by
 have:l.findIdx? p=aa j:=by
  rw [atn];exact⟨d,m,fun i hi=>by simp [g i hi]⟩
 simp [lX,this]
theorem LA{b:Type}{l:List b}{p:b→Bool}(d:∀(i:Nat) (hi:i<l.length),p l[i]=ag):lX l p = -1:=by
 have:l.findIdx? p=ab:=by
  rw [List.findIdx?_eq_none_iff];intro x g;obtain⟨i,hi,rfl⟩:=List.getElem_of_mem g;exact d i hi
 simp [lX,this]
def ints(l:List Int):List (List FC):=l.map fun n=>[fi n]
@[simp] theorem BJ (l:List Int):(ints l).length=l.length:=by simp [ints]
theorem ek(l:List Int):bR 1 (ints l):=bR.map fun _=>rfl
theorem fW{j:Nat}{l:List Int}(b:j<l.length){H:aj}:aU H ab (.c (.f (.fp (ints l).flatten j)))=aa (vi l[j]):=by
 have:=ad6 (H:=H) (AT b);simpa [ints]using this
variable{tab:Nat→Option aE}
def adQ(t:List aS):az:=.block 1 (.seq (.region [⟨D 10,.bJ (R 8),ab⟩,⟨D 5,.bJ (R 10),ab⟩] []) (.seq
 (.region t []) (.cond (R 16) (.seq (.region [⟨D 17,.bJ (R 5),ab⟩,⟨D 4,.bJ (R 17),ab⟩] []) .ret) .skip)))
def al0(t:List aS):aE:=⟨[P.nat 0,P.nat 1],[.tmp (P.nat 4)],.seq (.region [⟨D 4,.bJ (.k (.c (.f (.int .i64 0)))),ab⟩] [])
 (.seq (.seq (.region [⟨D 6,.bJ (R 0),ab⟩,⟨D 7,.len (R 6),ab⟩,⟨D 8,.bJ (.k (.c (.f (.int .i64 0)))),ab⟩] []) (Fx 0 8 7 9 18 (adQ t)))
 (.seq (.region [⟨D 4,.bJ (.k (.c (.f (.int .i64 (-1))))),ab⟩] []) .ret))⟩
def agn(sz:Nat)(b:Option Nat):List aS:=[⟨D 11,.bJ (R 1),ab⟩,⟨D 12,.bJ (R 0),ab⟩,⟨D 13,.bJ (R 5),ab⟩,⟨D 14,.aW sz ab (R 12) (R 13),ab⟩,⟨D 15,.load b (R 14),ab⟩,⟨D 16,.bY (R 11) [(R 15)] ae,ab⟩]
theorem ahV{f:Nat}{d:List aS}(Y:tab f=aa (al0 d)){x y:V}{F:Type}{l:List F}{p:F→Bool}(X:l.length≤9223372036854775807)
  (Z:∃ c,x=.c c∧∀ H,bH H c=aa l.length)
  (g:∀(j:Nat) (v:j<l.length) (t:T) (H:aj) (L:St→Prop),t.g 0=x→t.g 1=y→t.g 5=vi j →
   (∀ b J,b.g 0=x→b.g 1=y→b.g 5=vi j→b.g 7=t.g 7→b.g 8=t.g 8→b.g 16=vb (p l[j])→L ⟨b,[],H++J⟩)→vS tab d ⟨t,[],H⟩ L) :
  Kf tab f [x,y] (vi (lX l p)):=by
 obtain⟨c,rfl,U⟩:=Z;refine qh Y rfl fun H Q B=>?_;apply aq;refine av (.inl rfl) ?_;simp;apply aq;apply aq;refine av (.inl rfl) ?_;simp [U];refine gu l.length (fun j t H'=>t.g 0=.c c∧t.g 1=y∧(∃ J,H'=H++J)∧∀(i:Nat) (hi:i<l.length),i<j→p l[i]=ag) X (by decide) (by decide) (by simp) (by simp) (by simp) ?_ ?_
 ·rintro j t _ v ⟨z,A,⟨J,rfl⟩,q⟩ u E next
  refine aB ?_;apply aq;refine av (.inl rfl) ?_;simp [u];apply aq;refine av (.inl rfl) ?_;refine g j v _ _ _ (by simp [z]) (by simp [A]) (by simp) fun b I K M N O S m=>?_;cases s:p l[j]with
  | true=>
   refine ak (by simp [m,s]) ?_;apply aq;refine av (.inl rfl) ?_;simp [N];refine aJ (B _ _ ?_);have:=Lx v s (fun i hi=>q i (by omega) hi);simp [this]
  | false=>
   refine al (by simp [m,s]) ?_;refine aL (aw (next _ _ ?_ (by simp [S,u]) (by simp [O,E])));refine⟨by simp [K],by simp [M],⟨J++I,by simp⟩,fun i hi W=>?_⟩;by_cases e:i=j
   ·subst e;exact s
   ·exact q i hi (by omega)
 ·rintro t _ ⟨z,A,⟨J,rfl⟩,q⟩ u E;apply aq;refine av (.inl rfl) ?_;simp;refine aJ (B _ _ ?_);have:=LA (l:=l) (p:=p) (fun i hi=>q i hi hi);simp [this]
theorem LK{f sz:Nat}{y:Option Nat}(F:tab f=aa (al0 (agn sz y))){q:Type}(l:List q)(enc:q→List FC)(val:q→V)(p:q→Bool)(g:Tg)(k:Nat)(b:List FC)
  (B:l.length≤9223372036854775807) (d:∀(j:Nat) (m:j<l.length) (H:aj),aU H y (.c (.f (.fp (l.map enc).flatten (j*sz))))=aa (val l[j]))
  (E:∀ x ∈ l,Kf tab k (val x::b.map fun c=>.c (.f c)) (vb (p x))) :
  Kf tab f [.c (.f (sl g (l.map enc))),.c (.f (.fn k b))] (vi (lX l p)):=by
 refine ahV F B ⟨_,rfl,fun H=>by simp⟩ ?_;intro j m t H L s u v z;have A:=(E l[j] (IT m)).ev H;have hi:=c5 (H:=H) (g:=g) (rows:=l.map enc) (sz:=sz) (k:=.i64) (i:=(j:Int)) (by omega) (by simpa using m);simp [agn,s,u,v,hi,d j m,A];exact z _ _ (by simp [s]) (by simp [u]) (by simp [v]) (by simp) (by simp) (by simp)
def Lk(f:Nat):aE:=⟨[P.nat 0,P.nat 1],[.tmp (P.nat 4)],.seq (.region [⟨D 4,.bJ (.k (.c (.f (.bool ag)))),ab⟩] []) (.seq
 (.region [⟨D 5,.bJ (R 0),ab⟩,⟨D 6,.bJ (R 1),ab⟩,⟨D 7,.call f [(R 5),(R 6)] ag,ab⟩,⟨D 8,.bin .geq (R 7) (.k (.c (.f (.int .i64 0)))),ab⟩,⟨D 4,.bJ (R 8),ab⟩] []) .ret)⟩
theorem Bw{f k:Nat}(m:tab f=aa (Lk k)){a b:FC}{d:Type}{l:List d}{p:d→Bool}(h:Kf tab k [.c (.f a),.c (.f b)] (vi (lX l p))) :
  Kf tab f [.c (.f a),.c (.f b)] (vb (l.any p)):=by
 refine qh m rfl fun H Q g=>?_;apply aq;refine av (.inl rfl) ?_;simp;apply aq;refine av (.inl rfl) ?_;have j:=h.eq;simp [j];refine aJ (g _ _ ?_);simp [Ly]
end
section
open Go
theorem au{H:aj}{b:Nat}{x:cT}(h:H[b]?=aa x):b<H.length:=(By.1 h).1
theorem iu{q s:Type}{g:q→Option s}:∀ {xs b:List q} {ys d:List s},ba g xs=aa ys→ba g b=aa d→ba g (xs++b)=aa (ys++d)
 | [],b,ys,d,h,l=>by simp [ba]at h;subst h;simpa using l
 | x::xs,b,ys,d,h,l=>by
  simp only [ba,List.cons_append]at h ⊢;cases m:g x with
  | none=>simp [m]at h
  | some y=>
   cases j:ba g xs with
   | none=>simp [m,j]at h| some zs=>simp [m,j]at h;subst h;simp [iu j l]
variable{z:Bool}{H H':aj}{sz bytes:Nat}{v y:V}{g:Tg}{rows:List (List FC)}{row:List FC}{cs:List C}
theorem lk{b g c:Nat}(h:H[b]?=aa (.box cs g))(d:cs.length=sz):c4 H sz (.c (.sl b 0 1 c 0 sz))=aa (1,cs):=by
 simp [c4,bH,cO,h,d];rw [←d,List.take_length]
end
section
open Go
def CB(P:Program):List Field→Nat→Nat→Bool
 | [],o,n=>o == n| f::b,o,n=>f.offset == o&&CB P b (o+P.cellsOf f.type) n
def fR(P:Program):Nat→TypeId→Bool
 | 0,_=>ag
 | n+1,t=>match P.underlying t with
  | some .bool=>P.cellsOf t == 1| some (.int _)=>P.cellsOf t == 1| some .string=>P.cellsOf t == 1| some (.slice e)=>P.cellsOf t == 1&&P.cellsOf e != 0&&fR P n e| some (.struct b)=>CB P b.toList 0 (P.cellsOf t)&&b.toList.all fun f=>fR P n f.type
  | some (.array k e)=>P.cellsOf t == k*P.cellsOf e&&fR P n e| _=>ag
def xl(S:TypeId→List FC→Prop):List TypeId→List FC→Prop
 | [],xs=>xs=[]| t::ts,xs=>∃ p q,xs=p++q∧S t p∧xl S ts q
def mU(P:Program):Nat→TypeId→List FC→Prop
 | 0,_,_=>False
 | n+1,t,xs=>match P.underlying t with
  | some .bool=>∃ b,xs=[.bool b]| some (.int k)=>∃ m,xs=[.int k m]∧(Lit.int k m).wf=ae| some .string=>∃ s,xs=[.str s]∧s.size≤maxLen| some (.slice e)=>∃ g rows,xs=[sl g rows]∧bR (P.cellsOf e) rows∧rows.length≤maxLen∧∀ r ∈ rows,mU P n e r| some (.struct d)=>xl (mU P n) (d.toList.map (·.type)) xs| some (.array k e)=>∃ rows,xs=rows.flatten∧rows.length=k∧bR (P.cellsOf e) rows∧∀ r ∈ rows,mU P n e r| _=>False
theorem uM{l:Type}{sz:Nat}:∀ {rows:List (List l)} {j k:Nat} {row:List l},(∀ r ∈ rows,r.length=sz)→rows[j]?=aa row→k<sz→rows.flatten[j*sz+k]?=row[k]?
 | [],j,k,row,_,b,_=>by simp at b
 | r::rows,0,k,row,d,b,g=>by
  simp at b;subst b;have:=d r arU;rw [asg,At (by omega)];simp
 | r::rows,j+1,k,row,d,b,g=>by
  have hr:=d r arU;rw [asg,arY (by rw [hr,asv];omega)];have e:(j+1)*sz+k-r.length=j*sz+k:=by rw [hr,asv];omega
  rw [e];exact uM (rows:=rows) (fun x m=>d x (ar0 _ m)) (by simpa using b) g
theorem BA{d:Type}{sz:Nat}:∀ {rows:List (List d)},(∀ r ∈ rows,r.length=sz)→rows.flatten.length=rows.length*sz
 | [],_=>by simp
 | r::rows,h=>by
  have:=BA (rows:=rows) fun x b=>h x (ar0 _ b);simp only [asg,api,asc,this,h r arU,asv,Nat.one_mul];omega
def Eb(w:World):Nat→Nat→Prop:=fun c _=>c<w.heap.size
theorem Fo{w:World}{a:Addr}{v:Value}(h:w.cell? a=aa v):a.block<w.heap.size∧a.spot=ab:=by
 unfold World.cell? at h;split at h
 ·rename_i b;split at h
  ·simp at h
  ·rename_i d;refine⟨?_,by simpa using d⟩;exact(Array.getElem?_eq_some_iff.1 b).1
 ·simp at h
theorem A2.flatten{l m:Type}{R:l→m→Prop}{g:List (List l)}{d:List (List m)}(j:g.length=d.length)
  (h:∀(i:Nat) xs ys,g[i]?=aa xs→d[i]?=aa ys→A2 R xs ys):A2 R g.flatten d.flatten:=by
 induction g generalizing d with
 | nil=>cases d with
  | nil=>exact A2.nil| cons y ys=>simp at j
 | cons x xs u=>cases d with
  | nil=>simp at j
  | cons y ys=>
   rw [asg,asg];exact(h 0 x y rfl rfl).append (u (by simpa using j) fun i a b q s=>h (i+1) a b (by simpa using q) (by simpa using s))
section
variable{H:Type}{enc:TypeId × Value→H}{P:Program}{w:World}{base:Nat}{spare:Nat→Bool}{held:Bool}{σ:Nat→FuncId}
def akA(σ:Nat→FuncId)(P:Program)(w:World)(n:Nat)(t:TypeId)(cs:List Value):Prop:=∃ xs,A2 (cH σ (Eb w) w) xs cs∧mU P n t xs
theorem sA{n:Nat}(v:∀ {t:TypeId} {fuel:Nat} {cs:List Value} {x:DataW H × List MemPlace},fR P n t=ae→DataW.trod enc P w base spare held fuel t cs=aa x→akA σ P w n t cs∧cs.length=P.cellsOf t)
  {fuel:Nat}:∀(b:List Field) (o N:Nat) (cs:List Value),CB P b o N=ae→(b.all fun f=>fR P n f.type)=ae→cs.length=N →
   (∀ f ∈ b,∃ x,DataW.trod enc P w base spare held fuel f.type ((cs.drop f.offset).take (P.cellsOf f.type))=aa x) →
   ∃ xs,A2 (cH σ (Eb w) w) xs (cs.drop o)∧xl (mU P n) (b.map (·.type)) xs
 | [],o,N,cs,d,_,m,_=>by
  simp [CB]at d;exact⟨[],by rw [List.drop_of_length_le (by omega)];exact A2.nil,rfl⟩
 | f::b,o,N,cs,d,l,m,u=>by
  simp only [CB,BY,beq_iff_eq]at d;simp only [List.all_cons,BY]at l;obtain⟨x,j⟩:=u f arU;rw [d.1]at j;obtain⟨⟨p,z,B⟩,s⟩:=v l.1 j;obtain⟨q,A,sq⟩:=sA v b (o+P.cellsOf f.type) N cs d.2 l.2 m fun g y=>u g (ar0 _ y);refine⟨p++q,?_,p,q,rfl,B,sq⟩;have:cs.drop o=(cs.drop o).take (P.cellsOf f.type)++cs.drop (o+P.cellsOf f.type):=by
   rw [←asQ,asf]
  rw [this];exact z.append A
theorem W0(c o n k:Nat):((⟨c,o,ab⟩:Addr).add n).add k=⟨c,o+(n+k),ab⟩:=by
 unfold Addr.add;by_cases b:n=0<;>by_cases d:k=0<;>simp [b,d];omega
theorem Zv{t e:TypeId}{k n:Nat}{cs:List Value}{x:DataW H × List MemPlace}(j:P.underlying t=aa (.array k e))(h:DataW.trod enc P w base spare held (n+1) t cs=aa x) :
  cs.length=P.cellsOf t∧∀ i,i<k→∃ y,DataW.trod enc P w base spare held n e ((cs.drop (i*P.cellsOf e)).take (P.cellsOf e))=aa y:=by
 unfold DataW.trod at h;rw [j]at h;simp only [Option.ite_none_right_eq_some,IN]at h;obtain⟨g,xs,d,l⟩:=h;refine⟨g,fun i hi=>?_⟩;have:=mapM_some_get d i i (by simp [hi]);have b:xs.length=k:=by simpa using mapM_some_length d
 rw [AT (by omega)]at this;exact⟨_,this⟩
theorem xu{j:Type}{sz:Nat}:∀ {k:Nat} {cs:List j},cs.length=k*sz→cs=((List.range k).map fun i=>(cs.drop (i*sz)).take sz).flatten
 | 0,cs,h=>by simp at h;simp [h]
 | k+1,cs,h=>by
  have d:(cs.take (k*sz)).length=k*sz:=by rw [asp,h,asv];omega
  have g:=xu d;rw [List.range_succ,asB,List.flatten_append];have e:((List.range k).map fun i=>(cs.drop (i*sz)).take sz)=(List.range k).map fun i=>((cs.take (k*sz)).drop (i*sz)).take sz:=by
   refine List.map_congr_left fun i hi=>?_;have b:i<k:=by simpa using hi
   have:(i+1)*sz≤k*sz:=asE _ b;rw [asv]at this;rw [List.drop_take,List.take_take,Nat.min_eq_left (by omega)]
  rw [e,←g];simp only [aft,List.map_nil,asg,List.flatten_nil,ast];have:(cs.drop (k*sz)).take sz=cs.drop (k*sz):=arT (by rw [arW,h,asv];omega);rw [this,asf]
theorem apf{n:Nat}:∀ {t:TypeId} {fuel:Nat} {cs:List Value} {x:DataW H × List MemPlace},fR P n t=ae→DataW.trod enc P w base spare held fuel t cs=aa x →
  akA σ P w n t cs∧cs.length=P.cellsOf t:=by
 induction n with
 | zero=>intro t fuel cs x g;simp [fR]at g
 | succ n ih=>
  intro t fuel cs x g h;simp only [fR]at g;split at g
  ·rename_i j;obtain⟨b,rfl,_⟩:=DataW.trod_bool j h;exact⟨⟨[.bool b],.cons (.bool b) .nil,by simp only [mU,j];exact⟨b,rfl⟩⟩,by simp at g;simp [g]⟩
  ·rename_i k j;obtain⟨m,rfl,_,hw⟩:=DataW.trod_int j h;exact⟨⟨[.int k m],.cons (.int k m) .nil,by simp only [mU,j];exact⟨m,rfl,hw⟩⟩,by simp at g;simp [g]⟩
  ·rename_i j;obtain⟨s,rfl,_,hw⟩:=DataW.trod_string j h;exact⟨⟨[.str s],.cons (.str s) .nil,by simp only [mU,j];exact⟨s,rfl,hw⟩⟩,by simp at g;simp [g]⟩
  ·rename_i e j;simp only [BY,beq_iff_eq,bne_iff_ne]at g;obtain⟨⟨F,d5⟩,he⟩:=g;rcases DataW.trod_slice j h with⟨rfl,_⟩ | ⟨a,len,cap,Y,rest,m,_,rfl,_,hb,I,hm,c9,a_,_,_⟩
   ·exact⟨⟨[sl .nil []],.cons .aF .nil,by simp only [mU,j];exact⟨.nil,[],rfl,fun r hr=>by simp at hr,by simp,fun r hr=>by simp at hr⟩⟩,by simpa using F.symm⟩
   ·refine⟨?_,by simpa using F.symm⟩;have z:∀ i,i<len→∃ p:List Value × List FC,w.cells? base (a.add (i*P.cellsOf e)) (P.cellsOf e)=aa p.1∧A2 (cH σ (Eb w) w) p.2 p.1∧mU P n e p.2:=by
     intro i hi;have:=a_ i hi;rw [AT (by omega)]at this;obtain⟨cs',F,O⟩:=ar6.1 this;obtain⟨⟨xs,ha,g⟩,_⟩:=ih he O;exact⟨(cs',xs),F,ha,g⟩
    obtain⟨p,K⟩:=Go.Deep.choose_lt z;by_cases h0:len=0
    ·subst h0;refine⟨[sl .fs []],.cons (.fs0 a cap) .nil,?_⟩;simp only [mU,j];exact⟨.fs,[],rfl,fun r hr=>by simp at hr,by simp,fun r hr=>by simp at hr⟩
    have B:a.spot=ab:=by
     have:=K 0 (by omega);obtain⟨_,c_,a8⟩:=World.cells?_some this.1;have:=a8 0 (by omega);rw [AT (by omega)]at this;have:=(Fo this).2;simpa [Addr.add]using this
    obtain⟨c,o,sp⟩:=a;simp only at B;subst B
    let d:=(List.range len).map fun i=>(p i).1
    let rows:=(List.range len).map fun i=>(p i).2
    have X:∀ v ∈ d,v.length=P.cellsOf e:=by
     intro v X;obtain⟨i,hi,rfl⟩:=ase.1 X;exact(World.cells?_some (K i (by simpa using hi)).1).2.1
    have hg:bR (P.cellsOf e) rows:=by
     intro r hr;obtain⟨i,hi,rfl⟩:=ase.1 hr;obtain⟨F,O,_⟩:=K i (by simpa using hi);rw [O.len,(World.cells?_some F).2.1]
    have Z:A2 (cH σ (Eb w) w) rows.flatten d.flatten:=by
     refine A2.flatten (by simp [rows,d]) fun i xs ys E J=>?_;simp only [rows,d,asD,IN]at E J;obtain⟨i1,M,rfl⟩:=E;obtain⟨i2,N,rfl⟩:=J;rw [M]at N;cases N;have:=arR M;exact(K i1 (by simpa using this)).2.1
    have A:∀ i u,d.flatten[i]?=aa u→w.cell? ⟨c,o+i,ab⟩=aa u:=by
     intro i u W;have hi:i<d.flatten.length:=(By.1 W).1;rw [BA X]at hi;have b_:d.length=len:=by simp [d]
     rw [b_]at hi;have L:i / P.cellsOf e<len:=Nat.div_lt_of_lt_mul (by rw [Nat.mul_comm];exact hi);have hk:i % P.cellsOf e<P.cellsOf e:=Nat.mod_lt _ (by omega);have l:i=i / P.cellsOf e*P.cellsOf e+i % P.cellsOf e:=by rw [Nat.mul_comm];exact(Nat.div_add_mod _ _).symm
     have U:d[i / P.cellsOf e]?=aa (p (i / P.cellsOf e)).1:=by simp [d,L]
     rw [l,uM X U hk]at W;obtain⟨_,_,hc⟩:=World.cells?_some (K _ L).1;have:=hc _ hk;rw [W]at this;rw [←this,W0,←l]
    refine⟨[sl .fs rows],.cons ?_ .nil,?_⟩
    ·have b9:rows≠[]:=by simp [rows];omega
     have S:rows.length=len:=by simp [rows]
     have:sl Tg.fs rows=.fs rows.flatten len:=by
      cases hr:rows with
      | nil=>exact absurd hr b9| cons r rs=>simp only [sl,atm,arQ,if_false];rw [←hr,S]
     rw [this];refine .fs rows.flatten len c o cap d.flatten I Z.len.symm (fun i hi=>?_) A fun i x u E W=>Z.2 i x u E W;have l:i<d.flatten.length:=by rw [←Z.len];exact hi
     exact(Fo (A i _ (AT l))).1
    ·simp only [mU,j];have S:rows.length=len:=by simp [rows]
     refine⟨.fs,rows,rfl,hg,by omega,fun r hr=>?_⟩;obtain⟨i,hi,rfl⟩:=ase.1 hr;exact(K i (by simpa using hi)).2.2
  ·rename_i fs j;simp only [BY]at g;obtain⟨xs,m,_,_,I,_,E⟩:=DataW.trod_struct j h;refine⟨?_,I⟩;obtain⟨ys,F,O⟩:=sA (n:=n) (fuel:=m) ih fs.toList 0 _ cs g.1 g.2 I fun f hf=>by
    obtain⟨i,hi⟩:=asz hf;rw [Array.getElem?_toList]at hi;have:=E i f hi;rw [this];have d3:i<fs.size:=(Array.getElem?_eq_some_iff.1 hi).1;exact⟨_,AT (by omega)⟩
   exact⟨ys,by simpa using F,by simp only [mU,j];exact O⟩
  ·rename_i k e j;simp only [BY,beq_iff_eq]at g;obtain⟨Q,he⟩:=g;cases fuel with
   | zero=>simp [DataW.trod]at h
   | succ m=>
   obtain⟨I,E⟩:=Zv j h;refine⟨?_,I⟩;have z:∀ i,i<k→∃ q:List FC,A2 (cH σ (Eb w) w) q ((cs.drop (i*P.cellsOf e)).take (P.cellsOf e))∧mU P n e q:=by
    intro i hi;obtain⟨y,J⟩:=E i hi;obtain⟨⟨q,a,b⟩,_⟩:=ih he J;exact⟨q,a,b⟩
   obtain⟨q,L⟩:=Go.Deep.choose_lt z
   let rows:=(List.range k).map q
   have a9:cs=((List.range k).map fun i=>(cs.drop (i*P.cellsOf e)).take (P.cellsOf e)).flatten:=xu (by rw [I,Q]);refine⟨rows.flatten,?_,?_⟩
   ·rw [a9];refine A2.flatten (by simp [rows]) fun i xs ys E J=>?_;simp only [rows,asD,IN]at E J;obtain⟨i1,M,rfl⟩:=E;obtain⟨i2,N,rfl⟩:=J;rw [M]at N;cases N;have:=arR M;exact(L i1 (by simpa using this)).1
   ·simp only [mU,j];refine⟨rows,rfl,by simp [rows],fun r hr=>?_,fun r hr=>?_⟩
    ·obtain⟨i,hi,rfl⟩:=ase.1 hr;have l:i<k:=by simpa using hi
     rw [(L i l).1.len,asp,arW,I,Q];have:(i+1)*P.cellsOf e≤k*P.cellsOf e:=asE _ l;rw [asv]at this;omega
    ·obtain⟨i,hi,rfl⟩:=ase.1 hr;exact(L i (by simpa using hi)).2
  ·simp at g
end
section
variable{P:Program}{n:Nat}{t e:TypeId}{xs:List FC}
theorem Zf(d:P.underlying t=aa .bool)(h:mU P (n+1) t xs):∃ b,xs=[.bool b]:=by simpa only [mU,d]using h
theorem eU{k:IntKind}(b:P.underlying t=aa (.int k))(h:mU P (n+1) t xs):∃ m,xs=[.int k m]∧(Lit.int k m).wf=ae:=by simpa only [mU,b]using h
theorem sd(b:P.underlying t=aa (.slice e))(h:mU P (n+1) t xs):∃ g rows,xs=[sl g rows]∧bR (P.cellsOf e) rows∧rows.length≤maxLen∧∀ r ∈ rows,mU P n e r:=by simpa only [mU,b]using h
theorem py{d:Array Field}{ts:List TypeId}(g:P.underlying t=aa (.struct d))(b:d.toList.map (·.type)=ts)(h:mU P (n+1) t xs):xl (mU P n) ts xs:=by
 subst b;simpa only [mU,g]using h
theorem zP{k:Nat}(b:P.underlying t=aa (.array k e))(h:mU P (n+1) t xs):∃ rows,xs=rows.flatten∧rows.length=k∧bR (P.cellsOf e) rows∧∀ r ∈ rows,mU P n e r:=by simpa only [mU,b]using h
theorem dg{S:TypeId→List FC→Prop}{ts:List TypeId}(h:xl S (t::ts) xs):∃ p q,xs=p++q∧S t p∧xl S ts q:=h
theorem oA{d:Type}{enc:d→List FC}{p:d→Prop}:∀ {rows:List (List FC)},(∀ r ∈ rows,∃ x,r=enc x∧p x)→∃ l:List d,rows=l.map enc∧∀ x ∈ l,p x
 | [],_=>⟨[],rfl,by simp⟩
 | r::rows,h=>by
  obtain⟨x,rfl,j⟩:=h r arU;obtain⟨l,rfl,g⟩:=oA fun r hr=>h r (ar0 _ hr);exact⟨x::l,rfl,fun y b=>by
   rcases ass.1 b with rfl | b
   ·exact j
   ·exact g y b⟩
end
end
section
open Go Go.ChangeShapes Go.WideShapes Go.ChangeAt Go.RowKit
def qT(P:Program)(t:TypeId)(a:V):Prop:=(∃ xs,a=.a (xs.map .f)∧mU P 40 t xs∧(∃ d,P.underlying t=aa d∧((∃ b,d=.struct b)∨∃ n e,d=.array n e))) ∨
 (∃ x,a=.c (.f x)∧mU P 40 t [x])
def tj(P:Program):List TypeId→List V→Prop
 | [],as=>as=[]| t::ts,as=>∃ a b,as=a::b∧qT P t a∧tj P ts b
section
variable{H:Type}{enc:TypeId × Value→H}{P:Program}{W W':World}
theorem we{f:Func}{s:ChangeSpec}{g B l A:Bool}{args:Array Value}{v:Value}{ds F:List (DataW H)}{d pa pv:List MemPlace}
  (K:DataW.Whole enc P f.params.toList s.vars g W args.toList ds F d)
  (z:∀(b:Nat) (E:Nat→Bool) (O:Bool),DataW.TrodAll enc P W' b E O f.resultTypes.toList (v.resultList f.resultTypes.size) (s.fn H (ds++F)).results [])
  (m:∀ E:Nat→Bool,(∀ p ∈ d,E p.block=ae)→DataW.TrodAll enc P W' 0 E ae f.params.toList args.toList (s.fn H (ds++F)).args pa)
  (u:∀ E:Nat→Bool,(∀ p ∈ d,E p.block=ae)→DataW.TrodVars enc P W' E s.vars (s.fn H (ds++F)).vars pv)
  (x:d=pa++pv) (M:Below W.heap.size W W')
  (L:∀(j:Nat) (t:TypeId) (r:Value),f.resultTypes[j]?=aa t→(v.resultList f.resultTypes.size)[j]?=aa r→Value.okWide P W' .any 0 t r) :
  s.post enc P f g B l A W args v W':=by
 have I:∀ p ∈ d,p.block<W.heap.size:=fun p q=>K.lt p q;have y:∀ p ∈ d,(fun b=>decide (b<W.heap.size)) p.block=ae:=fun p q=>by simpa using I p q
 refine⟨ds,F,d,[],pa,pv,K,z _ _ _,m _ y,u _ y,World.keptBut_mono (fun p q=>⟨q,?_⟩) (M.frame (· ∈ d)),fun _=>?_⟩
 ·rw [x,List.mem_append]at q;exact Or.inr q
 ·obtain⟨_,_,_,_,_,S,Q⟩:=K;refine⟨L,_,_,([]++pa)++pv,⟨[]++pa,pv,trodAll_append (m _ (fun _ _=>rfl)) (z _ _ _),u _ (fun _ _=>rfl),rfl,?_,?_⟩,?_⟩
  ·intro b off q;have J:MemPlace.cell b off ∈ d:=by rw [x];simpa using q
   rw [M.frozen (p:=⟨b,off,ab⟩) (I _ J)];exact S b off J
  ·intro N;have:=Q N;rw [x]at this;simpa using this
  ·intro p q _;rw [x];simpa using q
theorem oW(m:laidOutB P=ae){u:Nat→Bool}(l:Below W.heap.size W W'):∀ {ts:List TypeId} {j:List Value} {ds:List (DataW H)} {ps:List MemPlace},
  (ts.all fun t=>P.readableRec t&&decide (t<P.types.size))=ae→DataW.TrodAll enc P W 0 (fun _=>ae) ae ts j ds ps→(∀ p ∈ ps,p.block<W.heap.size)→(∀ p ∈ ps,u p.block=ae) →
  DataW.TrodAll enc P W' 0 u ae ts j ds ps
 | [],[],[],ps,_,h,_,_=>h
 | t::ts,v::j,d::ds,ps,hr,⟨p,q,y,z,e⟩,g,s=>by
  subst e;simp only [List.all_cons,BY,decide_eq_true_eq]at hr;exact⟨p,q,WideElems.Trod_stays m hr.1.1 hr.1.2 y (fun x b=>l.same (g x (List.mem_append_left _ b))) (fun x b=>s x (List.mem_append_left _ b)),
   oW m l hr.2 z (fun x b=>g x (List.mem_append_right _ b)) (fun x b=>s x (List.mem_append_right _ b)),rfl⟩
 | [],_::_,_,_,_,h,_,_=>by cases h
 | [],[],_::_,_,_,h,_,_=>by cases h
 | _::_,[],_,_,_,h,_,_=>by cases h
 | _::_,_::_,[],_,_,h,_,_=>by cases h
variable{σ:Nat→FuncId}
def X0(W:World):Wd:=⟨fun _=>ab,Eb W,[],W,W.heap.size⟩
theorem Zw{xs:List FC}{cs:Array Value}(h:A2 (cH σ (Eb W) W) xs cs.toList):VR σ (X0 W) (.a (xs.map .f)) (.agg cs):=
 ⟨cs.toList,by simp,A2.map (g:=C.f) (h.lP fun _ _ h=>h)⟩
theorem W6{t:TypeId}{v:Value}{d:DataW H}{ps:List MemPlace}{base:Nat}{spare:Nat→Bool}{held:Bool}{b0:Nat}(s:fR P 40 t=ae)(g:Value.okWide P W .any b0 t v)
  (E:DataW.Trod enc P W base spare held t v d ps):∃ a,VR σ (X0 W) a v∧qT P t a:=by
 obtain⟨fuel,q⟩:=E;obtain⟨⟨xs,m,u⟩,I⟩:=apf (σ:=σ) s q;have l:v.cells.toList=[v]→∃ a,VR σ (X0 W) a v∧qT P t a:=by
  intro F;rw [F]at m
  match xs,m.len with
  | [x],_=>exact⟨.c (.f x),m.of_cons.1,.inr ⟨x,rfl,u⟩⟩
 unfold fR at s;unfold Value.okWide at g;split at g
 ·rename_i y j;obtain⟨cs,rfl,_,_⟩:=g;exact⟨_,Zw m,.inl ⟨xs,rfl,u,_,j,.inl ⟨_,rfl⟩⟩⟩
 ·rename_i n e j;obtain⟨cs,rfl,_,_⟩:=g;exact⟨_,Zw m,.inl ⟨xs,rfl,u,_,j,.inr ⟨_,_,rfl⟩⟩⟩
 ·rename_i A B;refine l ?_;split at s
  ·rename_i j;obtain⟨b,z,_⟩:=DataW.trod_bool j q;simp only [Cell.okWide,j,Cell.ok]at g;cases v<;>simp_all [Value.cells]
  ·rename_i j;obtain⟨b,z,_⟩:=DataW.trod_int j q;simp only [Cell.okWide,j,Cell.ok]at g;cases v<;>simp_all [Value.cells]
  ·rename_i j;obtain⟨b,z,_⟩:=DataW.trod_string j q;simp only [Cell.okWide,j,Cell.ok]at g;cases v<;>simp_all [Value.cells]
  ·rename_i j;simp only [Cell.okWide,j,Cell.ok]at g;cases v<;>simp_all [Value.cells]
  ·rename_i y j;exact absurd j (A y)
  ·rename_i n e j;exact absurd j (B n e)
  ·simp at s
theorem xo{base:Nat}{spare:Nat→Bool}{held:Bool}{b0:Nat}:∀ {ts:List TypeId} {g:List Value} {ds:List (DataW H)} {ps:List MemPlace},(ts.all fun t=>fR P 40 t)=ae →
  (∀(j:Nat) t v,ts[j]?=aa t→g[j]?=aa v→Value.okWide P W .any b0 t v)→DataW.TrodAll enc P W base spare held ts g ds ps →
  ∃ as,A2 (VR σ (X0 W)) as g∧tj P ts as
 | [],[],[],_,_,_,_=>⟨[],A2.nil,rfl⟩
 | t::ts,v::g,d::ds,ps,l,b,⟨p,q,u,x,_⟩=>by
  simp only [List.all_cons,BY]at l;obtain⟨a,y,A⟩:=W6 (σ:=σ) l.1 (b 0 t v rfl rfl) u;obtain⟨m,z,B⟩:=xo l.2 (fun j t v h s=>b (j+1) t v (by simpa using h) (by simpa using s)) x;exact⟨a::m,.cons y z,a,m,rfl,A,B⟩
 | [],_::_,_,_,_,_,h=>by cases h
 | [],[],_::_,_,_,_,h=>by cases h
 | _::_,[],_,_,_,_,h=>by cases h
 | _::_,_::_,[],_,_,_,h=>by cases h
theorem adA{n:Nat}{H:aj}{v:V}{b:Bool}(h:fJ (n+1) H v=aa (.c (.f (.bool b)))):v=.c (.f (.bool b)):=by
 cases v with
 | top=>simp [fJ,bO]at h| a xs=>simp [fJ,bO]at h| t xs=>simp [fJ]at h
 | c x=>
  simp only [fJ,bO,IN]at h;obtain⟨y,d,h⟩:=h;cases h;cases x with
  | f x=>simpa [c8]using d| ptr b o e=>simp only [c8]at d;split at d<;>simp at d
  | sl b o l c e s=>
   simp only [c8]at d;split at d
   ·split at d<;>simp at d
   ·split at d<;>simp at d
   ·split at d<;>simp at d
   ·split at d<;>simp at d
   ·simp at d
  | cl f g=>simp [c8]at d| _=>simp [c8]at d
variable{tab:Nat→Option aE}
theorem Eu(v:Env P σ tab (pk tab)){f:Nat}{args:List V}{us:List Value}(h:bA tab f args (vb ae))(W:World)(y:A2 (VR σ (X0 W)) args us) :
  Calls P (σ f) us.toArray W fun e w'=>e=.returned (.bool ae)∧Below W.heap.size W w':=by
 obtain⟨r,H',⟨m,d,h⟩,hr⟩:=h;have hr:=adA (n:=63) hr;subst hr;intro cs
 let X:=X0 W
 have x:SR P σ X:=⟨fun b L h=>by simp [X,X0]at h,fun b K L J h=>by simp [X,X0]at h,fun c i h=>h⟩
 obtain⟨l,X',u,q,⟨B,E,F,j,fn,H,I⟩,M,N,s,g,O⟩:=(Xj v m d).fn f args [] _ H' h X us .normal cs rfl x (OF _) y (.inl rfl) (.inl rfl);have A:=VR.bool s;subst A;exact⟨.returned (.bool ae),X'.w,l,⟨rfl,⟨g.os,g.tape,g.output,g.size,fun k z=>g.frame k z (fun b L h=>by simp [X,X0]at h)⟩⟩,q,j,B,E,F,fn,by rw [j];exact H,I⟩
theorem XU(hE:Env P σ tab (pk tab)){s:ChangeSpec}{f:Func}{fi:Nat}{tb:TypeId}(x:s.vars=[])(B:laidOutB P=ae){ts:List TypeId}(F:f.params.toList=ts)
  (O:∀ ds:List (DataW H),ds.length=ts.length→s.fn H ds=⟨[.lit (.bool ae)],ds,[]⟩)
  (y:f.resultTypes=#[tb]) (K:P.underlying tb=aa .bool) (E:(ts.all fun t=>P.readableRec t&&decide (t<P.types.size))=ae) (u:(ts.all fun t=>fR P 40 t)=ae)
  (Q:∀ as,tj P ts as→bA tab fi as (vb ae)) {g A l z:Bool} {base:Nat} {args:Array Value} {ds gs:List (DataW H)} {d:List MemPlace}
  (L:∀(j:Nat) t v,f.params[j]?=aa t→args[j]?=aa v→Value.okWide P W .any base t v) (X:DataW.Whole enc P f.params.toList s.vars g W args.toList ds gs d) :
  Calls P (σ fi) args W fun e W'=>∃ v,e=.returned v∧s.post enc P f g A l z W args v W':=by
 have I:=X;obtain⟨p,q,N,U,Y,a8,a9⟩:=X;rw [F]at N;rw [x]at U;obtain⟨rfl,rfl⟩:=trodVars_none U;simp only [ast]at Y;subst Y;obtain⟨as,h1,h2⟩:=xo (σ:=σ) (b0:=base) u (fun j t v h h'=>L j t v (by rw [←Array.getElem?_toList,F];exact h) (by rw [←Array.getElem?_toList];exact h')) N;have J:ds.length=ts.length:=by
  have:∀ {ts:List TypeId} {M:List Value} {ds:List (DataW H)} {ps:List MemPlace},DataW.TrodAll enc P W 0 (fun _=>ae) ae ts M ds ps→ds.length=ts.length:=by
   intro ts;induction ts with
   | nil=>intro M ds ps h;cases M<;>cases ds<;>first | rfl | cases h
   | cons t ts ih=>intro M ds ps h;cases M<;>cases ds<;>first | (obtain⟨_,_,_,h,_⟩:=h;simp [ih h]) | cases h
  exact this N
 have m:=O ds J;have Z:=Eu hE (Q as h2) W h1;rw [Array.toArray_toList]at Z;refine Z.mono fun e W' h=>?_;obtain⟨he,hg⟩:=h;subst he;refine⟨_,rfl,we (pa:=d) (pv:=[]) I (fun b sp hd=>?_) (fun sp S=>?_) (fun sp _=>?_) (by simp) hg ?_⟩
 ·rw [ast,m,y];exact trodAll_mk1 (shut_bool K _)
 ·rw [ast,m,F];exact oW B hg E N (fun p hp=>I.lt p hp) S
 ·rw [ast,m,x];exact rfl
 ·exact ok_one y rfl (okWide_bool_mk K _)
end
end
section
open Go
section
variable{tab:Nat→Option aE}{f:Nat}{args:List V}{r:V}{fn:Nat}{k:List cA}{t:T}{ds:List dH}{H H':aj}{Q:Option az→St→Prop}
theorem xM{x:Arg}{ps:List P}{as bd:az}{g:Nat}{s:List V}(A:bZ (x.ev t) [.c (.yl (H.length+1))]=aa (.fn g,s))
  (l:Ev tab (.fn g) s (H++[.kT ae,.lp fn t ps as bd .ready ab H.length]) r H')
  (h:WP tab fn ab (.ji (H.length+1)::k) ⟨t,.pV H.length::ds,H'⟩ Q):WP tab fn ab (.code (.kX x ps as bd)::k) ⟨t,ds,H⟩ Q:=by
 obtain⟨m,d,l⟩:=l;obtain⟨n,q,b,j,s',y,z⟩:=h;refine⟨n+1,max m q,max d b,j,s',?_,z⟩;have u:=kC (tab:=tab) (asa m q) (asa d b) _ _ _ _ l;have v:=vt (ar2 m q) (ar2 d b) (OF n) y;simp only [run,A,u,v];simp
theorem XT{ro:Option Nat}{b j d:Nat}{l:T}{ps:List P}{as bd:az}{st:gk}(q:H[b]?=aa (.lp j l ps as bd st ab d))(g:st≠.busy)
  (h:WP tab fn ro k ⟨t,ds,H.set b (.lp j l ps as bd .exhausted ab d)⟩ Q):WP tab fn ro (.ji b::k) ⟨t,ds,H⟩ Q:=by
 refine mD h fun m d n=>?_;simp only [run,q,aZ g]
theorem zk{ro:Option Nat}{b j d:Nat}{l:T}{ps:List P}{as bd:az}{st:gk}(q:H[b]?=aa (.lp j l ps as bd st (aa .ret) d))(g:st≠.busy)
  (h:WP tab fn ro (.code .ret::k) ⟨t,ds,H.set b (.lp j l ps as bd .exhausted (aa .ret) d)⟩ Q):WP tab fn ro (.ji b::k) ⟨t,ds,H⟩ Q:=by
 refine mD h fun m d n=>?_;simp only [run,q,aZ g]
theorem ad1{b g d:Nat}{l:T}{ps:List P}{as bd:az}{j:Option az}(q:H[b]?=aa (.lp g l ps as bd .ready j d))
  (h:WP tab fn (aa b) k ⟨t,ds,H.set b (.lp g l ps as bd .busy j d)⟩ Q):WP tab fn (aa b) (.nf::k) ⟨t,ds,H⟩ Q:=by
 refine mD h fun m d n=>?_;simp only [run,q]
@[simp] theorem ake {b:Nat} {as:List V}:bZ (.c (.yl b)) as=aa (.yield b,as):=rfl
def akz(b:Nat)(r:V)(H':aj)(j:Option az)(s:St):Prop:=s.defs=[]∧∃ g l ps as bd st m d,s.heap[b]?=aa (.lp g l ps as bd st m d)∧r=.c (.f (.bool j.isNone)) ∧
 H'=s.heap.set b (.lp g l ps as bd (if j.isNone then .ready else .done) j d)
theorem Xz{b l d:Nat}{q:T}{ps:List P}{as bd:az}{st:gk}{F:Option az}(A:H[b]?=aa (.lp l q ps as bd st F d))(E:args.length=ps.length)
  (h:WP tab l (aa b) [.code as,.nf,.code bd] ⟨cG ps args q,[],H⟩ (akz b r H')):Ev tab (.yield b) args H r H':=by
 obtain⟨n,m,g,j,s,y,B,N,L,J,v,x,K,I,M,z,rfl,rfl⟩:=h;refine⟨max m n,g+1,?_⟩;have u:run (CF tab (max m n) g) l (max m n) (aa b) [.code as,.nf,.code bd] ⟨cG ps args q,[],H⟩=aa (j,s):=vt (asa m n) (OF g) (ar2 m n) y;simp only [CF]at u ⊢;simp only [dS,A,E,if_true,u,B,List.isEmpty_nil,z];rfl
theorem Bx{C:V→aj→Prop}{b F d:Nat}{I:T}{ps:List P}{as bd:az}{st:gk}{N:Option az}(L:H[b]?=aa (.lp F I ps as bd st N d))(M:args.length=ps.length)
  (h:∀ Q:Option az→St→Prop,(∀ j s z u q g l x v y,s.defs=[]→s.heap[b]?=aa (.lp z u q g l x v y) →
   C (.c (.f (.bool j.isNone))) (s.heap.set b (.lp z u q g l (if j.isNone then .ready else .done) j y))→Q j s)→WP tab F (aa b) [.code as,.nf,.code bd] ⟨cG ps args I,[],H⟩ Q):∃ r H',Ev tab (.yield b) args H r H'∧C r H':=by
 have K:=h (fun j s=>∃ r H',C r H'∧akz b r H' j s) fun j s z u q g l x v y A B E=>⟨_,_,E,A,z,u,q,g,l,x,v,y,B,rfl,rfl⟩
 obtain⟨n,m,J,j,s,A,r,H',B,E⟩:=K;exact⟨r,H',Xz L M ⟨n,m,J,j,s,A,E⟩,B⟩
def agN(d:List iK)(r:V)(s:St):Prop:=∃ b,s.defs=[.pV b]∧s.heap[b]?=aa (.kT ae)∧∃ r0,results s.aA (s.heap.set b (.kT ag)) d=aa r0∧fJ deep (s.heap.set b (.kT ag)) r0=aa r
theorem YS{S:V→Prop}{ps:List P}{g:List iK}{body:az}(y:tab f=aa ⟨ps,g,body⟩)(x:args.length=ps.length)
  (h:∀ Q:Option az→St→Prop,(∀ j s r,S r→mX g r s∨agN g r s→Q j s)→WP tab f ab [.code body] ⟨cG ps args .e,[],[]⟩ Q):∃ r,S r∧bA tab f args r:=by
 have z:=h (fun _ s=>∃ r,S r∧(mX g r s∨agN g r s)) fun _ _ r q l=>⟨r,q,l⟩
 obtain⟨n,m,d,j,s,q,r,hr,⟨v,r0,l,u⟩ | ⟨b,v,A,r0,l,u⟩⟩:=z
 ·exact⟨r,hr,r0,s.heap,xy y x ⟨n,m,d,j,s,q,0,0,s.heap,by rw [v];rfl,l,rfl⟩,u⟩
 ·exact⟨r,hr,r0,s.heap.set b (.kT ag),xy y x ⟨n,m,d,j,s,q,0,0,_,by rw [v];simp only [dW,A],l,rfl⟩,u⟩
theorem dn{C:V→aj→Prop}{ps:List P}{b:List iK}{body:az}(y:tab f=aa ⟨ps,b,body⟩)(x:args.length=ps.length)
  (h:∀ Q:Option az→St→Prop,(∀ j s r,s.defs=[]→results s.aA s.heap b=aa r→C r s.heap→Q j s)→WP tab f ab [.code body] ⟨cG ps args .e,[],H⟩ Q):∃ r H',Ev tab (.fn f) args H r H'∧C r H':=by
 have u:=h (fun _ s=>s.defs=[]∧∃ r,results s.aA s.heap b=aa r∧C r s.heap) fun _ _ r g l q=>⟨g,r,l,q⟩
 obtain⟨n,m,d,j,s,g,v,r,l,q⟩:=u;exact⟨r,s.heap,xy y x ⟨n,m,d,j,s,g,0,0,s.heap,by rw [v];rfl,l,rfl⟩,q⟩
end
end
section
open Go
theorem sQ{c:cJ}:∀(a b:List aS) (s:St),fx c (a++b) s=(fx c a s).bind (fx c b)
 | [],b,s=>rfl
 | o::a,b,s=>by
  simp only [List.cons_append,fx];cases fC c s o with
  | none=>rfl| some s'=>exact sQ a b s'
theorem vL{c:cJ}:∀(os:List aS) (s:St) {s':St},fx c os s=aa s'→∃ b,dG c os s=aa b∧b.getLast?=aa s'∧∀ i,i≤os.length→fx c (os.take i) s=b[i]?
 | [],s,s',h=>by
  simp only [fx,sh]at h;subst h;refine⟨[s],rfl,rfl,fun i hi=>?_⟩;have:i=0:=by simpa using hi
  subst this;rfl
 | o::os,s,s',h=>by
  simp only [fx]at h;cases d:fC c s o with
  | none=>simp [d]at h
  | some m=>
   simp only [d]at h;obtain⟨b,g,j,l⟩:=vL os m h;refine⟨s::b,by simp only [dG,d,g],by rw [List.getLast?_cons,j];rfl,fun i hi=>?_⟩;cases i with
   | zero=>rfl
   | succ i=>
    simp only [List.take_succ_cons,fx,d,List.getElem?_cons_succ];exact l i (by simpa using hi)
def jh(o:aS)(b l:St):Prop:=wanted b.aA o.g=aa ag∨∃ v g d j,bz b.aA b.heap o.op=aa (v,g)∧bz b.aA l.heap o.op=aa (d,j)∧v.beq d=ae
section
variable{tab:Nat→Option aE}{fn:Nat}{ro:Option Nat}{k:List cA}{s:St}{Q:Option az→St→Prop}
def agk(tab:Nat→Option aE)(ops:List aS)(s:St)(c:Nat × Nat):Prop:=c.2≤ops.length∧∃ o,ops[c.1]?=aa o ∧
 ((c.1≤c.2∧vS tab (ops.take c.1) s fun b=>vS tab ((ops.drop c.1).take (c.2-c.1)) b fun d=>jh o b d) ∨
 (c.2≤c.1∧vS tab (ops.take c.2) s fun d=>vS tab ((ops.drop c.2).take (c.1-c.2)) d fun b=>jh o b d))
theorem Y_{ops:List aS}{c:Nat × Nat}(h:agk tab ops s c):∃ m d o g j,c.2≤ops.length∧ops[c.1]?=aa o∧fx (CF tab m d) (ops.take c.1) s=aa g∧fx (CF tab m d) (ops.take c.2) s=aa j∧jh o g j:=by
 have y:∀(a b:Nat) (K:St→St→Prop),a≤b→vS tab (ops.take a) s (fun l=>vS tab ((ops.drop a).take (b-a)) l fun q=>K l q) →
   ∃ m d l q,fx (CF tab m d) (ops.take a) s=aa l∧fx (CF tab m d) (ops.take b) s=aa q∧K l q:=by
  intro a b K M h;obtain⟨m,d,l,u,v⟩:=jK _ _ h;obtain⟨E,z,q,x,L⟩:=jK _ _ v;have F:=dA (kC (tab:=tab) (asa m E) (asa d z)) _ _ u;have J:=dA (kC (tab:=tab) (ar2 m E) (ar2 d z)) _ _ x;refine⟨max m E,max d z,l,q,F,?_,L⟩;have:ops.take b=ops.take a++(ops.drop a).take (b-a):=by
   have N:b=a+(b-a):=by omega
   conv=>lhs;rw [N,List.take_add]
  rw [this,sQ,F];exact J
 obtain⟨H,o,I,⟨A,h⟩ | ⟨B,h⟩⟩:=h
 ·obtain⟨m,d,g,j,u,v,x⟩:=y _ _ (fun g j=>jh o g j) A h;exact⟨m,d,o,g,j,H,I,u,v,x⟩
 ·obtain⟨m,d,j,g,u,v,x⟩:=y _ _ (fun j g=>jh o g j) B h;exact⟨m,d,o,g,j,H,I,v,u,x⟩
theorem fV{ops:List aS}{b:List (Nat × Nat)}(hr:ro=ab∨ops.all (·.op.ee)=ae)(h:vS tab ops s fun s'=>WP tab fn ro k s' Q)(hk:∀ c ∈ b,agk tab ops s c) :
  WP tab fn ro (.code (.region ops b)::k) s Q:=by
 obtain⟨m,d,s',h1,n,m',d',j,s2,h2,h3⟩:=jK ops s h;have g:∃ M D,∀ c ∈ b,∃ o u y,c.2≤ops.length∧ops[c.1]?=aa o∧fx (CF tab M D) (ops.take c.1) s=aa u∧fx (CF tab M D) (ops.take c.2) s=aa y∧jh o u y:=by
  clear h1 h2 h;induction b with
  | nil=>exact⟨0,0,fun c F=>by cases F⟩
  | cons c cs U=>
   obtain⟨M,D,U⟩:=U fun c F=>hk c (ar0 _ F);obtain⟨W,H,o,u,y,a1,z,A,B,E⟩:=Y_ (hk c arU);refine⟨max M W,max D H,fun c' q=>?_⟩;rcases ass.1 q with rfl | q
   ·have l:=kC (tab:=tab) (ar2 M W) (ar2 D H);exact⟨o,u,y,a1,z,dA l _ _ A,dA l _ _ B,E⟩
   ·obtain⟨o,u,y,a1,z,A,B,E⟩:=U c' q;have l:=kC (tab:=tab) (asa M W) (asa D H);exact⟨o,u,y,a1,z,dA l _ _ A,dA l _ _ B,E⟩
 obtain⟨M,D,g⟩:=g;obtain⟨Y,L,N,O⟩:∃ x,m≤x∧m'≤x∧M≤x:=⟨max (max m m') M,by omega,by omega,by omega⟩
 obtain⟨X,I,J,K⟩:∃ x,d≤x∧d'≤x∧D≤x:=⟨max (max d d') D,by omega,by omega,by omega⟩
 refine⟨n+1,Y,X,j,s2,?_,h3⟩;have e1:=dA (kC (tab:=tab) L I) ops _ h1;have e2:=vt N J (OF n) h2;have S:(ro.isSome&&!ops.all (·.op.ee))=ag:=by
  rcases hr with rfl | hr
  ·rfl
  ·rw [hr];simp
 obtain⟨ss,f1,f2,f3⟩:=vL ops s e1;have hx:fS (CF tab Y X) ops b s=aa s':=by
  cases b with
  | nil=>simpa only [fS]using e1
  | cons x xs=>
   simp only [fS,f1];rw [bp,f2];rw [List.all_eq_true];intro c F;obtain⟨o,u,y,a1,z,A,B,E⟩:=g c F;have l:=kC (tab:=tab) O K;have hi:c.1≤ops.length:=by
    have:=(By.1 z).1;omega
   have Z:=dA l _ _ A;have b4:=dA l _ _ B;rw [f3 _ hi]at Z;rw [f3 _ a1]at b4;simp only [sameAt,z,Z,b4];rcases E with hw | ⟨v,H1,v',H2,g1,g2,g3⟩
   ·rw [hw]
   ·split
    ·rfl
    ·simp only [g1,g2,g3]
 simp only [run,S,hx,e2];simp
end
end
section
open Go
theorem xK(l:List Int):(ints l).flatten=l.map fi:=by
 induction l with
 | nil=>rfl| cons m l b=>simp only [ints,aft,asg]at b ⊢;rw [b];rfl
theorem tx{n:Nat}:∀(l:List C) (H:aj),(∀ x ∈ l,∃ y,x=.f y)→l.foldl (fun H x=>jt n x H) H=H
 | [],_,_=>rfl
 | x::l,H,h=>by
  obtain⟨y,rfl⟩:=h x arU;simp only [asL,FP];exact tx l H fun x b=>h x (ar0 _ b)
end
section
open Go
def RB(H:aj)(b sz ep:Nat)(rows:List (List FC)):Prop:=H[b]?=aa (.bM sz (rows.flatten.map .f) 0 ep .loc)
def Fm(b:Nat)(H H':aj):Prop:=H.length≤H'.length∧∀ d:Nat,d≠b→d<H.length→H'[d]?=H[d]?
theorem Fm.refl{b:Nat}(H:aj):Fm b H H:=⟨OF _,fun _ _ _=>rfl⟩
theorem Fm.trans{b:Nat}{H H' d:aj}(h:Fm b H H')(j:Fm b H' d):Fm b H d:=
 ⟨arZ h.1 j.1,fun g e l=>(j.2 g e (asA l h.1)).trans (h.2 g e l)⟩
theorem Fm.push{b:Nat}(H J:aj):Fm b H (H++J):=⟨by simp,fun d _ l=>At l⟩
theorem Fm.set{b:Nat}(H:aj)(x:cT):Fm b H (H.set b x):=⟨by simp,fun d e _=>AI (Ne.symm e)⟩
theorem Fm.get{b:Nat}{H H':aj}(h:Fm b H H'){d:Nat}{x:cT}(g:H[d]?=aa x)(e:d≠b):H'[d]?=aa x:=by rw [h.2 d e (au g)];exact g
theorem Cn{sz:Nat}{row:List FC}(hr:row.length=sz):∀ {rows:List (List FC)} {j:Nat},bR sz rows→j<rows.length →
  rows.flatten.take (j*sz)++row++rows.flatten.drop (j*sz+sz)=(rows.set j row).flatten
 | [],_,_,d=>by simp at d
 | r::rows,0,b,_=>by
  have:=b r arU;subst this;simp
 | r::rows,j+1,b,d=>by
  have g:=b r arU;have s:=Cn hr (rows:=rows) (j:=j) (fun x q=>b x (ar0 _ q)) (by simpa using d);simp only [asg,atl];rw [←s];have l:(j+1)*sz=r.length+j*sz:=by rw [g,asv];omega
  have m:(j+1)*sz+sz=r.length+(j*sz+sz):=by omega
  rw [m,l,List.take_append,List.drop_append];simp [arT,asF]
section
variable{H:aj}{b sz ep j:Nat}{rows:List (List FC)}{row:List FC}
theorem RB.lt(h:RB H b sz ep rows):b<H.length:=au h
theorem RB.push(h:RB H b sz ep rows)(J:aj):RB (H++J) b sz ep rows:=by
 unfold RB at *;rw [At (au h)];exact h
theorem RB.len(h:RB H b sz ep rows){o l c:Nat}:bH H (.sl b o l c ep sz)=aa l:=by
 unfold RB at h;simp [bH,h]
theorem RB.idx(h:RB H b sz ep rows){n c:Nat}{k:IntKind}{i:Int}(d:0≤i)(hi:i<n){o:Nat}:aP H sz ab (.c (.sl b o n c ep sz)) (.c (.f (.int k i)))=aa (.c (.ptr b (o+i.toNat*sz) ep)):=by
 unfold RB at h;simp only [aP,dy,d,hi,if_true,h,and_self]
theorem RB.ldr(h:RB H b sz ep rows)(g:bR sz rows)(l:rows[j]?=aa row):aU H (aa sz) (.c (.ptr b (j*sz) ep))=aa (.a (row.map .f)):=by
 unfold RB at h;have d:row.length=sz:=g row (arR l);have:=uI (k:=0) g l (by omega);simp only [an,h,if_true];rw [←ata];rw [Nat.add_zero]at this;rw [this];have m:(row.map C.f++((rows.drop (j+1)).flatten.map C.f)).take sz=row.map C.f:=by
  rw [asy (by simp [d]),arT (by simp [d])]
 simp [d]
theorem RB.str(h:RB H b sz ep rows)(l:bR sz rows)(m:j<rows.length)(hr:row.length=sz) :
  ∃ H',cE H (.ptr b (j*sz) ep) (row.map .f)=aa H'∧RB H' b sz ep (rows.set j row)∧Fm b H H'∧H'.length=H.length:=by
 have q:=et l;have g:(j+1)*sz≤rows.length*sz:=asE _ m;have d:j*sz+sz≤rows.flatten.length:=by rw [q];rw [asv]at g;omega
 unfold RB at h ⊢;refine⟨H.set b (.bM sz ((rows.set j row).flatten.map .f) 0 ep .loc),?_,?_,Fm.set _ _,by simp⟩
 ·simp only [bh,h,Nat.zero_le,true_and,asn,hr,d,if_true];rw [←Cn hr l m];simp [over,hr]
 ·exact If (au h)
end
theorem adg{k n:Nat}(h:k≤n):Af (vi k) n=aa k:=by
 have:(0:Int)≤k∧(k:Int)≤n:=by omega
 simp [Af,dy,this]
theorem kM{t:T}{H:aj}{x:iK}{r:V}(h:bs t H x=aa r):Km.results t H [x]=aa r:=by
 simp [Km.results,ba,h]
@[simp] theorem aoZ {t:T} {H:aj} (sz:Nat) (zs:List FC) (x:Arg):bz t H (.clear sz zs x)=(uA H sz zs (x.ev t)).map (.t [],·):=rfl
@[simp] theorem aoL {a b:Int}:L9 ag [vi a,vi b]=aa (vi (max a b)):=by
 have:(if a<b then b else a)=max a b:=by split<;>omega
 simp only [L9,xR,FN];simp [this,V.int]
end
section
open Go
def iG(l:List (List FC))(i j:Nat):List (List FC):=(l.set i (l.getD j [])).set j (l.getD i [])
def ew(a b:Nat)(l d:List (List FC)):Prop:=d.Perm l∧d.take a=l.take a∧d.drop b=l.drop b
theorem ew.refl(a b:Nat)(l:List (List FC)):ew a b l l:=⟨.refl _,rfl,rfl⟩
theorem ew.trans{a b:Nat}{l j d:List (List FC)}(h:ew a b l j)(g:ew a b j d):ew a b l d:=⟨g.1.trans h.1,g.2.1.trans h.2.1,g.2.2.trans h.2.2⟩
theorem ew.len{a b:Nat}{l d:List (List FC)}(h:ew a b l d):d.length=l.length:=h.1.length_eq
theorem ew.lt{a b:Nat}{l d:List (List FC)}(h:ew a b l d){i:Nat}(hi:i<a):d[i]?=l[i]?:=by
 have:=congrArg (·[i]?) h.2.1;simpa [asb,hi]using this
theorem ew.ge{a b:Nat}{l d:List (List FC)}(h:ew a b l d){i:Nat}(hi:b≤i):d[i]?=l[i]?:=by
 have:=congrArg (·[i-b]?) h.2.2;simpa [arV,show b+(i-b)=i by omega]using this
theorem ew.mono{a b a' d:Nat}{l g:List (List FC)}(h:ew a b l g)(j:a'≤a)(m:b≤d):ew a' d l g:=by
 refine⟨h.1,?_,?_⟩
 ·have:=congrArg (·.take a') h.2.1;simpa [List.take_take,Nat.min_eq_left j]using this
 ·have:=congrArg (·.drop (d-b)) h.2.2;simpa [asQ,show b+(d-b)=d by omega]using this
theorem zZ(l:List (List FC))(i j:Nat):(iG l i j).length=l.length:=by simp [iG]
theorem gG{l:List (List FC)}{i j:Nat}(hi:i<l.length)(g:j<l.length)(k:Nat):(iG l i j)[k]?=if k=j then l[i]? else if k=i then l[j]? else l[k]?:=by
 have m:l.getD i []=l[i]:=by simp [List.getD,AT hi]
 have q:l.getD j []=l[j]:=by simp [List.getD,AT g]
 simp only [iG,m,q,List.getElem?_set];by_cases b:j=k
 ·subst b;simp [AT hi,g]
 ·by_cases d:i=k
  ·subst d;simp [b,Ne.symm b,AT g,hi]
  ·simp [b,d,Ne.symm b,Ne.symm d]
theorem eV{a b:Nat}{l:List (List FC)}{i j:Nat}(hi:a≤i)(s:i<b)(x:a≤j)(u:j<b)(v:b≤l.length):ew a b l (iG l i j):=by
 have d:i<l.length:=by omega
 have g:j<l.length:=by omega
 refine⟨?_,?_,?_⟩
 ·have m:l.getD i []=l[i]:=by simp [List.getD,AT d]
  have q:l.getD j []=l[j]:=by simp [List.getD,AT g]
  simp only [iG,m,q];exact List.set_set_perm d g
 ·apply List.ext_getElem?;intro k;simp only [asb];split
  ·rw [gG d g,aZ (by omega),aZ (by omega)]
  ·rfl
 ·apply List.ext_getElem?;intro k;simp only [arV];rw [gG d g,aZ (by omega),aZ (by omega)]
section
variable{H:aj}{b sz ep:Nat}{rows:List (List FC)}
theorem RB.swap(h:RB H b sz ep rows)(l:bR sz rows){i j:Nat}(hi:i<rows.length)(q:j<rows.length) :
  ∃ d g,cE H (.ptr b (i*sz) ep) (rows[j].map .f)=aa d∧RB d b sz ep (rows.set i rows[j])∧cE d (.ptr b (j*sz) ep) (rows[i].map .f)=aa g∧RB g b sz ep (iG rows i j)∧Fm b H g:=by
 have z:rows[i].length=sz:=l _ (IT hi);have s:rows[j].length=sz:=l _ (IT q);obtain⟨d,s1,r1,x,-⟩:=h.str l hi s;have m:bR sz (rows.set i rows[j]):=fun r hr=>by
  rcases List.mem_or_eq_of_mem_set hr with h | rfl
  ·exact l r h
  ·exact s
 obtain⟨g,s2,r2,y,-⟩:=r1.str m (j:=j) (by simpa using q) z;refine⟨d,g,s1,r1,s2,?_,x.trans y⟩;have u:rows.getD i []=rows[i]:=by simp [List.getD,AT hi]
 have v:rows.getD j []=rows[j]:=by simp [List.getD,AT q]
 simp only [iG,u,v];exact r2
theorem ew.s7{a b:Nat}{l d:List (List FC)}(h:ew a b l d)(g:bR sz l):bR sz d:=fun r hr=>g r (h.1.mem_iff.1 hr)
end
structure vO(W:List FC→Prop)(c:List FC→List FC→Int):Prop where
 Ds:∀ {x y},W x→W y→c x y<0→¬ c y x<0
 trans:∀ {x y z},W x→W y→W z→¬ c y x<0→¬ c z y<0→¬ c z x<0
def Up(c:List FC→List FC→Int)(a b:Nat)(l:List (List FC)):Prop:=∀ i j x y,a≤i→i<j→j<b→l[i]?=aa x→l[j]?=aa y→¬ c y x<0
end
section
open Go
theorem xq{l:List (List FC)}{a m b:Nat}(j:a≤m)(q:m≤b)(s:b≤l.length):∃ X U V Y,l=X++(U++(V++Y))∧X.length=a∧U.length=m-a∧V.length=b-m:=by
 refine⟨l.take a,(l.drop a).take (m-a),(l.drop m).take (b-m),l.drop b,?_,by simp;omega,by simp;omega,by simp;omega⟩;have g:(l.drop m).take (b-m)++l.drop b=l.drop m:=by
  have:=asf (b-m) (l.drop m);rwa [asQ,show m+(b-m)=b by omega]at this
 have d:(l.drop a).take (m-a)++l.drop m=l.drop a:=by
  have:=asf (m-a) (l.drop a);rwa [asQ,show a+(m-a)=m by omega]at this
 rw [g,d,asf]
theorem ew.mem{a b:Nat}{l m:List (List FC)}(h:ew a b l m)(d:a≤b)(K:b≤l.length){i:Nat}{x:List FC}(W:a≤i)(Z:i<b)(z:m[i]?=aa x):∃ j,a≤j∧j<b∧l[j]?=aa x:=by
 obtain⟨X,U,V,Y,e,S,lU,Q⟩:=xq (OF a) d K;have hl:=h.len;obtain⟨X',E,F,v,H,u,O,s⟩:=xq (l:=m) (OF a) d (by omega);obtain rfl:U=[]:=asr.1 (by omega);obtain rfl:E=[]:=asr.1 (by omega);obtain⟨g,N,L⟩:=h;subst e;subst H;have I:X'=X:=by
  simpa [asy (show a≤X.length by omega),asy (show a≤X'.length by omega),arT (show X.length≤a by omega),arT (show X'.length≤a by omega)]using N
 have J:v=Y:=by
  have q:∀ {A B C:List (List FC)},A.length=a→B.length=b-a→(A++([]++(B++C))).drop b=C:=by
   intro A B C hA hB;rw [atb,←asF,List.drop_append_of_le_length (by simp;omega),List.drop_of_length_le (by simp;omega),atb]
  rwa [q u s,q S Q]at L
 subst I;subst J;have g:F.Perm V:=by
  have:=(List.perm_append_left_iff X').1 g;simp only [atb]at this;exact(List.perm_append_right_iff v).1 this
 rw [atb,arY (by omega),At (by omega)]at z;obtain⟨j,y⟩:=asz (g.mem_iff.1 (arR z));have M:=(By.1 y).1;refine⟨a+j,by omega,by omega,?_⟩;rw [atb,arY (by omega),At (by omega)];rw [←y];congr 1;omega
section
variable{W:List FC→Prop}{c:List FC→List FC→Int}
theorem Up.mono{a b a' d:Nat}{l:List (List FC)}(h:Up c a b l)(u:a≤a')(v:d≤b):Up c a' d l:=
 fun i j x y q g s m hy=>h i j x y (by omega) g (by omega) m hy
theorem Up.one{a b:Nat}{l:List (List FC)}(h:b≤a+1):Up c a b l:=fun i j x y d g m=>by omega
theorem Up.of{a b:Nat}{l q:List (List FC)}(h:Up c a b l)(m:∀ k,a≤k→k<b→q[k]?=l[k]?):Up c a b q:=fun i j x y d s g u hy=>
 h i j x y d s g (by rw [←m i d (by omega)];exact u) (by rw [←m j (by omega) g];exact hy)
def kP(c:List FC→List FC→Int)(l:List (List FC))(i j:Nat):Prop:=∀ x y,l[i]?=aa x→l[j]?=aa y→¬ c y x<0
theorem kP.trans{l:List (List FC)}{i j k:Nat}(hc:vO W c)(b:∀ r ∈ l,W r)(h:kP c l i j)(q:kP c l j k)(d:j<l.length):kP c l i k:=fun x y g hy=>by
 have m:=AT d;exact hc.trans (b _ (arR g)) (b _ (IT d)) (b _ (arR hy)) (h _ _ g m) (q _ _ m hy)
end
end
section
open Go
def a6:C→Option Nat
 | .sl b _ _ _ _ _=>aa b| _=>ab
def LR(H:aj)(c:C)(sz:Nat)(rows:List (List FC)):Prop:=(rows=[]∧(c=.f .aF∨c=.f .es))∨(rows≠[]∧∃ b ep,c=.sl b 0 rows.length 0 ep sz∧RB H b sz ep rows)
def Kb(H H':aj)(c:C):Prop:=H.length≤H'.length∧∀(i:Nat) y,H[i]?=aa y→a6 c≠aa i→H'[i]?=aa y
section
variable{H H':aj}{c:C}{sz:Nat}{rows:List (List FC)}
theorem LR.nil(H:aj)(sz:Nat):LR H (.f .aF) sz []:=.inl ⟨rfl,.inl rfl⟩
theorem LR.bT(h:LR H c sz rows)(g:∀ i y,H[i]?=aa y→a6 c=aa i→H'[i]?=aa y):LR H' c sz rows:=by
 rcases h with h | ⟨h,b,ep,rfl,d⟩
 ·exact .inl h
 ·exact .inr ⟨h,b,ep,rfl,g b _ d rfl⟩
theorem LR.push(h:LR H c sz rows)(J:aj):LR (H++J) c sz rows:=h.bT fun i y hy _=>by rw [At (au hy)];exact hy
theorem LR.lt(h:LR H c sz rows){i:Nat}(hi:a6 c=aa i):i<H.length:=by
 rcases h with⟨_,rfl | rfl⟩ | ⟨h,b,ep,rfl,d⟩
 ·cases hi
 ·cases hi
 ·cases hi;exact d.lt
theorem LR.cQ(h:LR H c sz rows){i:Nat}{cs:List C}{j:Nat}(g:H[i]?=aa (.box cs j)):a6 c≠aa i:=by
 rcases h with⟨_,rfl | rfl⟩ | ⟨h,b,ep,rfl,d⟩
 ·simp [a6]
 ·simp [a6]
 ·intro e;cases e;unfold RB at d;rw [d]at g;cases g
theorem LR.set(h:LR H c sz rows){i:Nat}(hi:a6 c≠aa i)(x:cT):LR (H.set i x) c sz rows:=h.bT fun j y hy b=>by
 have:i≠j:=by rintro rfl;exact hi b
 rw [AI this];exact hy
theorem LR.len(h:LR H c sz rows):bH H c=aa rows.length:=by
 rcases h with⟨rfl,rfl | rfl⟩ | ⟨h,b,ep,rfl,d⟩
 ·rfl
 ·rfl
 ·exact d.len
theorem LR.ex(h:LR H c sz rows)(j:bR sz rows)(n:Nat):∃ g,c8 (n+1) H c=aa (sl g rows):=by
 rcases h with⟨rfl,rfl | rfl⟩ | ⟨h,b,ep,rfl,d⟩
 ·exact⟨.nil,rfl⟩
 ·exact⟨.es,rfl⟩
 ·refine⟨.fs,?_⟩;have m:rows.length*sz=rows.flatten.length:=(et j).symm;unfold RB at d;simp only [kE,d];rw [bp ⟨trivial,trivial,by rw [asn,aso,m];exact OF _⟩,asV,arT (by rw [asn];omega),rS];cases rows with
  | nil=>exact absurd rfl h| cons x l=>simp [sl]
theorem LR.app(h:LR H c sz rows)(u:bR sz rows)(uO:sz≠0){row:List FC}(hr:row.length=sz){bytes:Nat}(d:bW (rows.length+1) bytes=ae){b1 fl1:Nat}(q:H[b1]?=aa (.box (row.map .f) fl1)) :
  ∃ l H',bU H sz bytes (.c c) (.c (.sl b1 0 1 1 0 sz))=aa (.c l,H')∧LR H' l sz (rows++[row])∧Kb H H' c∧(a6 l=a6 c∨a6 l=aa H.length):=by
 have g:c4 H sz (.c (.sl b1 0 1 1 0 sz))=aa (1,row.map .f):=lk q (by simp [hr]);rcases h with⟨rfl,s⟩ | ⟨x,b,ep,rfl,m⟩
 ·have d:bW 1 bytes=ae:=by simpa using d
  refine⟨.sl H.length 0 1 0 0 sz,H++[.bM sz (row.map .f) 0 0 .loc],?_,.inr ⟨by simp,H.length,0,rfl,?_⟩,⟨by simp,fun i y hy _=>by rw [At (au hy)];exact hy⟩,.inr rfl⟩
  ·rcases s with rfl | rfl<;>simp [bU,g,d,uO]
  ·simp [RB]
 ·have j:rows.length*sz=rows.flatten.length:=(et u).symm;unfold RB at m;refine⟨.sl b 0 (rows.length+1) 0 (ep+1) sz,H.set b (.bM sz (rows.flatten.map .f++row.map .f) 0 (ep+1) .loc),?_,.inr ⟨by simp,b,ep+1,by simp,?_⟩,⟨by simp,fun i y hy v=>?_⟩,.inl rfl⟩
  ·simp only [bU,g,uO,if_false,m,and_self,if_true];simp only [Nat.add_one_ne_zero,if_false];rw [bp ⟨trivial,by rw [asn];exact j,by simp⟩,d];simp
  ·unfold RB;rw [If (au m)];simp
  ·have:b≠i:=by rintro rfl;exact v rfl
   rw [AI this];exact hy
theorem Kb.refl(H:aj)(c:C):Kb H H c:=⟨OF _,fun _ _ h _=>h⟩
theorem Kb.amt{b o l cp ep s:Nat}(h:Fm b H H'):Kb H H' (.sl b o l cp ep s):=⟨h.1,fun i y hy d=>by
 have:i≠b:=by rintro rfl;exact d rfl
 exact h.get hy this⟩
end
end
section
open Go
theorem uL{g:Type}{sz:Nat}:∀ {rows:List (List g)} {j:Nat} {row:List g},(∀ r ∈ rows,r.length=sz)→rows[j]?=aa row→(rows.flatten.drop (j*sz)).take sz=row
 | [],j,row,_,b=>by simp at b
 | r::rows,0,row,d,b=>by
  simp at b;subst b;have:=d r arU;subst this;simp
 | r::rows,j+1,row,d,b=>by
  have hr:=d r arU;have m:=uL (rows:=rows) (j:=j) (row:=row) (fun x l=>d x (ar0 _ l)) (by simpa using b);rw [asg,show(j+1)*sz=r.length+j*sz by rw [hr,asv];omega,←asQ,List.drop_left];exact m
theorem vh{b:Type}:∀ {cs:List b} {k:Nat} {x:b},k<cs.length→over cs k [x]=cs.set k x
 | [],k,x,h=>by simp at h
 | c::cs,0,x,_=>by simp [over]
 | c::cs,k+1,x,h=>by
  have:=vh (cs:=cs) (k:=k) (x:=x) (by simpa using h);simp only [over,asc,List.length_nil]at this ⊢;rw [List.take_succ_cons,atl,←this];simp
section
variable{H:aj}{b sz ep j k n:Nat}{rows:List (List FC)}{row:List FC}
theorem RB.ldc{x:FC}(h:RB H b sz ep rows)(g:bR sz rows)(l:rows[j]?=aa row)(m:row[k]?=aa x):aU H ab (.c (.ptr b (j*sz+k) ep))=aa (.c (.f x)):=by
 unfold RB at h;have q:row.length=sz:=g row (arR l);have s:=(By.1 m).1;have:=uM g l (by omega:k<sz);simp only [an,h,if_true];rw [ata.symm];have e:(rows.flatten.drop (j*sz+k))[0]?=aa x:=by rw [arV,Nat.add_zero,this,m]
 cases d:rows.flatten.drop (j*sz+k)with
 | nil=>rw [d]at e;simp at e| cons y ys=>rw [d]at e;simp at e;simp [aK,e]
end
def ahD(sz:Nat)(zs:List FC)(bytes:Nat):aE:=⟨[P.nat 0],[.tmp (P.nat 2)],.seq (.region [⟨D 2,.bJ (.k (.c (.f (.aF)))),ab⟩] []) (.seq (.seq (.region [⟨D 3,.bJ (R 0),ab⟩,⟨D 4,.eq ag .sl (R 3) (.k (.c (.f (.aF)))),ab⟩] [])
 (.cond (R 4) (.seq (.region [⟨D 2,.bJ (.k (.c (.f (.aF)))),ab⟩] []) .ret) .skip)) (.seq (.region [⟨D 5,.aV sz zs 0 [],ab⟩,⟨D 6,.bJ (R 0),ab⟩,⟨D 7,.append sz bytes (R 5) (R 6),ab⟩,⟨D 2,.bJ (R 7),ab⟩] []) .ret))⟩
section
variable{tab:Nat→Option aE}{F sz bytes:Nat}{zs:List FC}{H:aj}{g:Tg}{rows:List (List FC)}
theorem xx{cs:List FC}{n:Nat}:za H .sl (.c (.f (.fs cs n))) (.c (.f .aF))=aa ag:=rfl
theorem adw:za H .sl (.c (.f .aF)) (.c (.f .aF))=aa ae:=rfl
theorem alN:za H .sl (.c (.f .es)) (.c (.f .aF))=aa ag:=rfl
theorem uB(u:tab F=aa (ahD sz zs bytes))(l:sz≠0)(v:bR sz rows)(j:bW rows.length bytes=ae) :
  ∃ r H',Ev tab (.fn F) [.c (.f (sl g rows))] H r H'∧∃ c J,r=.c c∧H'=H++J∧LR (H++J) c sz rows∧∀ i,a6 c=aa i→H.length≤i:=by
 refine dn (C:=fun r H'=>∃ c J,r=.c c∧H'=H++J∧LR (H++J) c sz rows∧∀ i,a6 c=aa i→H.length≤i) u rfl fun Q m=>?_;apply ai;simp;apply aq;apply ai;cases rows with
 | nil=>
  cases g with
  | nil=>
   simp [sl,Tg.fc,adw];refine ak (by simp) ?_;apply ai;simp;exact aJ (m _ _ (.c (.f .aF)) rfl (by simp [Km.results,ba]) ⟨_,[],rfl,by simp,.inl ⟨rfl,.inl rfl⟩,by simp [a6]⟩)
  | es=>
   simp [sl,Tg.fc,alN];refine a5 (by simp) ?_;apply ai;simp [bU,c4,bH,cO,l];exact aJ (m _ _ (.c (.f .es)) rfl (by simp [Km.results,ba]) ⟨_,[],rfl,by simp,.inl ⟨rfl,.inr rfl⟩,by simp [a6]⟩)
  | fs=>
   simp [sl,Tg.fc,xx];refine a5 (by simp) ?_;apply ai;simp [bU,c4,bH,cO,l];exact aJ (m _ _ (.c (.f .es)) rfl (by simp [Km.results,ba]) ⟨_,[],rfl,by simp,.inl ⟨rfl,.inr rfl⟩,by simp [a6]⟩)
 | cons x r=>
  have d:c4 H sz (.c (.f (.fs (x::r).flatten (x::r).length)))=aa ((x::r).length,(x::r).flatten.map .f):=by
   have q:=Xm (H:=H) (g:=.fs) v;have s:=rR (H:=H) .fs (x::r);simp only [sl,atm,arQ,if_false]at q s;simp only [c4,q,s]
  have b:bW (r.length+1) bytes=ae:=by simpa using j
  simp only [sl,atm,arQ,if_false];simp [xx];refine a5 (by simp) ?_;apply ai;simp only [asg,asc]at d;simp [bU,d,l,b];refine aJ (m _ _ (.c (.sl H.length 0 (r.length+1) 0 0 sz)) rfl (by simp [Km.results,ba]) ⟨_,[.bM sz ((x::r).flatten.map .f) 0 0 .loc],rfl,by simp,.inr ⟨by simp,H.length,0,rfl,by simp [RB]⟩,by simp [a6]⟩)
end
end
section
open Go
abbrev yn(d:Nat)(op:cP):aS:=⟨D d,op,ab⟩
abbrev hY(d k g:Nat):aS:=⟨D d,.bJ (R k),G g ae⟩
abbrev yE(d z k g:Nat):aS:=⟨D d,.load (aa z) (R k),G g ae⟩
abbrev ym(d k:Nat):aS:=⟨D d,.bJ (R k),ab⟩
abbrev yi(n:Int):Arg:=.k (.c (.f (.int .i64 n)))
abbrev yt:Arg:=.k (.c (.f (.bool ae)))
abbrev yf:Arg:=.k (.c (.f (.bool ag)))
abbrev ys(z a b:Nat):aS:=⟨ab,.store z (R a) (R b),ab⟩
abbrev yb(d:Nat)(o:BinOp)(a b:Nat):aS:=⟨D d,.bin o (R a) (R b),ab⟩
abbrev ya(d z a b:Nat):aS:=⟨D d,.aW z ab (R a) (R b),ab⟩
abbrev yl(d z a:Nat):aS:=⟨D d,.load (aa z) (R a),ab⟩
abbrev yr(l:List aS):az:=.region l []
structure km where
 B8:Nat
 ins:Nat
 heap:Nat
 wq:Nat
 brk:Nat
 piv:Nat
 rev:Nat
 part:Nat
 YE:Nat
 pins:Nat
 v5:Nat
 ZQ:Nat
 ord:Nat
 npt:Nat
 Yh:Nat
 len:Nat
 aqK:Nat
 aqI:Nat
 rot:Nat
 swr:Nat
section
variable(σ:km)(sz:Nat)
def aiQ:az:=.seq (yr [ym 26 0,ym 27 1,ym 28 2,ym 29 4,yn 30 (.call σ.ins [R 26,R 27,R 28,R 29] ae)]) .ret
def aiS:az:=.seq (yr [ym 33 0,ym 34 1,ym 35 2,ym 36 4,yn 37 (.call σ.heap [R 33,R 34,R 35,R 36] ae)]) .ret
def aiV:az:=yr [ym 45 3,yn 46 (.bin .sub (R 45) (yi 1)),ym 3 46]
def aiU:az:=.seq (yr [ym 40 0,ym 41 1,ym 42 2,ym 43 4,yn 44 (.call σ.brk [R 40,R 41,R 42,R 43] ae)]) (aiV)
def aiZ:az:=yr [yn 14 (.bJ (yi 1))]
def aiY:az:=.seq (yr [ym 62 2,yn 63 (.bin .sub (R 62) (yi 1)),ym 64 13,ym 65 1,yb 66 .sub 64 65,yb 67 .sub 63 66,ym 13 67]) (aiZ)
def aiX:az:=.seq (yr [ym 57 0,ym 58 1,ym 59 2,ym 60 4,yn 61 (.call σ.rev [R 57,R 58,R 59,R 60] ae)]) (aiY)
def ai0:az:=.seq (yr [ym 76 0,ym 77 1,ym 78 2,ym 79 4,yn 80 (.call σ.pins [R 76,R 77,R 78,R 79] ae)]) (.cond (R 80) .ret .skip)
def ai2:az:=.seq (yr [ym 104 15,ym 1 104]) (.exit 1)
def ai1:az:=.seq (yr [ym 98 0,ym 99 1,ym 100 2,ym 101 13,ym 102 4,yn 103 (.call σ.YE [R 98,R 99,R 100,R 101,R 102] ae),ym 15 103]) (ai2)
def ai9:az:=yr [ym 135 16,yn 136 (.bin .add (R 135) (yi 1)),ym 1 136]
def ai8:az:=.seq (yr [ym 129 0,ym 130 1,ym 131 16,ym 132 3,ym 133 4,yn 134 (.call σ.B8 [R 129,R 130,R 131,R 132,R 133] ae)]) (ai9)
def ai7:az:=.seq (yr [ym 126 18,ym 127 20,yb 128 .geq 126 127,ym 10 128]) (ai8 σ)
def aja:az:=yr [ym 147 16,ym 2 147]
def ai_:az:=.seq (yr [ym 140 0,ym 141 16,yn 142 (.bin .add (R 141) (yi 1)),ym 143 2,ym 144 3,ym 145 4,yn 146 (.call σ.B8 [R 140,R 142,R 143,R 144,R 145] ae)]) (aja)
def ai':az:=.seq (yr [ym 137 19,ym 138 20,yb 139 .geq 137 138,ym 10 139]) (ai_ σ)
def ai6:az:=.seq (yr [ym 123 18,ym 124 19,yb 125 .lss 123 124]) (.cond (R 125) (ai7 σ) (ai' σ))
def ai5:az:=.seq (yr [ym 121 12,yn 122 (.bin .quo (R 121) (yi 8)),ym 20 122]) (ai6 σ)
def ai4:az:=.seq (yr [ym 115 16,ym 116 1,yb 117 .sub 115 116,ym 118 2,ym 119 16,yb 120 .sub 118 119,ym 18 117,ym 19 120]) (ai5 σ)
def ai3:az:=.seq (yr [ym 114 17,ym 11 114]) (ai4 σ)
def YB:az:=.seq (yr [ym 106 0,ym 107 1,ym 108 2,ym 109 13,ym 110 4,yn 111 (.call σ.part [R 106,R 107,R 108,R 109,R 110] ae),ym 105 111,yn 112 (.extract (R 105) 0),yn 113 (.extract (R 105) 1),ym 16 112,ym 17 113]) (ai3 σ)
def YA:az:=.seq (.seq (yr [ym 81 1,yn 82 (.bin .gtr (R 81) (yi 0)),ym 83 82,hY 84 4 83,hY 85 0 83,hY 86 1 83,⟨D 87,.bin .sub (R 86) (yi 1),G 83 ae⟩,⟨D 88,.aW sz ab (R 85) (R 87),G 83 ae⟩,yE 89 sz 88 83,hY 90 0 83,hY 91 13 83,⟨D 92,.aW sz ab (R 90) (R 91),G 83 ae⟩,yE 93 sz 92 83,⟨D 94,.bY (R 84) [R 89,R 93] ae,G 83 ae⟩,⟨D 95,.bin .lss (R 94) (yi 0),G 83 ae⟩,⟨D 96,.un .not (R 95),G 83 ae⟩,yn 97 (.pick (R 83) (R 96) yf)]) (.cond (R 97) (ai1 σ) .skip)) (YB σ)
def Yz:az:=.seq (.seq (yr [ym 68 10,ym 69 68,hY 70 11 69,yn 71 (.pick (R 69) (R 70) yf),ym 72 71,hY 73 14 72,⟨D 74,.bin .eql (R 73) (yi 1),G 72 ae⟩,yn 75 (.pick (R 72) (R 74) yf)]) (.cond (R 75) (ai0 σ) .skip)) (YA σ sz)
def aiW:az:=.seq (.seq (yr [ym 55 14,yn 56 (.bin .eql (R 55) (yi 2))]) (.cond (R 56) (aiX σ) .skip)) (Yz σ sz)
def Yy:az:=.seq (yr [ym 48 0,ym 49 1,ym 50 2,ym 51 4,yn 52 (.call σ.piv [R 48,R 49,R 50,R 51] ae),ym 47 52,yn 53 (.extract (R 47) 0),yn 54 (.extract (R 47) 1),ym 13 53,ym 14 54]) (aiW σ sz)
def aiT:az:=.seq (.seq (yr [ym 38 10,yn 39 (.un .not (R 38))]) (.cond (R 39) (aiU σ) .skip)) (Yy σ sz)
def aiR:az:=.seq (.seq (yr [ym 31 3,yn 32 (.bin .eql (R 31) (yi 0))]) (.cond (R 32) (aiS σ) .skip)) (aiT σ sz)
def anz:az:=.seq (.seq (yr [ym 24 12,yn 25 (.bin .leq (R 24) (yi 12))]) (.cond (R 25) (aiQ σ) .skip)) (aiR σ sz)
def anx:az:=.seq (yr [ym 21 2,ym 22 1,yb 23 .sub 21 22,ym 12 23]) (anz σ sz)
def yj:az:=.block 1 (anx σ sz)
def anw:az:=.seq (yr [yn 11 (.bJ yt)]) (.block 0 (.loop (yj σ sz)))
def anv:az:=.seq (yr [yn 10 (.bJ yt)]) (anw σ sz)
def YC(σ:km)(sz:Nat):aE:=⟨[P.nat 0,P.nat 1,P.nat 2,P.nat 3,P.nat 4],[],(anv σ sz)⟩
end
section
variable(σ:km)(sz:Nat)
def ah2:az:=yr [ym 37 0,ym 38 9,ym 39 0,ym 40 9,yn 41 (.bin .sub (R 40) (yi 1)),ym 42 0,ym 43 9,yn 44 (.bin .sub (R 43) (yi 1)),ya 45 sz 42 44,yl 46 sz 45,ym 47 0,ym 48 9,ya 49 sz 47 48,yl 50 sz 49,ya 51 sz 37 38,ys sz 51 46,ya 52 sz 39 41,ys sz 52 50]
def ah3:az:=yr [ym 35 9,yn 36 (.bin .sub (R 35) (yi 1)),ym 9 36]
def ah1:az:=.seq (.block 3 (ah2 sz)) (ah3)
def ah0:az:=.seq (.seq (yr [ym 18 9,ym 19 1,yb 20 .gtr 18 19,ym 21 20,hY 22 3 21,hY 23 0 21,hY 24 9 21,⟨D 25,.aW sz ab (R 23) (R 24),G 21 ae⟩,yE 26 sz 25 21,hY 27 0 21,hY 28 9 21,⟨D 29,.bin .sub (R 28) (yi 1),G 21 ae⟩,⟨D 30,.aW sz ab (R 27) (R 29),G 21 ae⟩,yE 31 sz 30 21,⟨D 32,.bY (R 22) [R 26,R 31] ae,G 21 ae⟩,⟨D 33,.bin .lss (R 32) (yi 0),G 21 ae⟩,yn 34 (.pick (R 21) (R 33) yf)]) (.cond (R 34) .skip (.exit 2))) (ah1 sz)
def ahZ:az:=.seq (yr [ym 17 8,ym 9 17]) (.block 2 (.loop (ah0 sz)))
def zj:az:=yr [ym 15 8,yn 16 (.bin .add (R 15) (yi 1)),ym 8 16]
def al3:az:=.seq (.block 1 (ahZ sz)) (zj)
def FG:az:=.seq (.seq (yr [ym 12 8,ym 13 2,yb 14 .lss 12 13]) (.cond (R 14) .skip (.exit 0))) (al3 sz)
def al2:az:=.seq (yr [ym 10 1,yn 11 (.bin .add (R 10) (yi 1)),ym 8 11]) (.block 0 (.loop (FG sz)))
def BG(σ:km)(sz:Nat):aE:=⟨[P.nat 0,P.nat 1,P.nat 2,P.nat 3],[],(al2 sz)⟩
end
section
variable(σ:km)(sz:Nat)
def adH:az:=yr [ym 24 0,ym 25 11,ym 26 10,ym 27 8,ym 28 3,yn 29 (.call σ.wq [R 24,R 25,R 26,R 27,R 28] ae)]
def adI:az:=yr [ym 22 11,yn 23 (.bin .sub (R 22) (yi 1)),ym 11 23]
def adG:az:=.seq (.block 1 (adH σ)) (adI)
def adF:az:=.seq (.seq (yr [ym 20 11,yn 21 (.bin .geq (R 20) (yi 0))]) (.cond (R 21) .skip (.exit 0))) (adG σ)
def adM:az:=yr [ym 54 0,ym 55 9,ym 56 12,ym 57 8,ym 58 3,yn 59 (.call σ.wq [R 54,R 55,R 56,R 57,R 58] ae)]
def adL:az:=.seq (yr [ym 36 0,ym 37 8,ym 38 0,ym 39 8,ym 40 12,yb 41 .add 39 40,ym 42 0,ym 43 8,ym 44 12,yb 45 .add 43 44,ya 46 sz 42 45,yl 47 sz 46,ym 48 0,ym 49 8,ya 50 sz 48 49,yl 51 sz 50,ya 52 sz 36 37,ys sz 52 47,ya 53 sz 38 41,ys sz 53 51]) (adM σ)
def adN:az:=yr [ym 34 12,yn 35 (.bin .sub (R 34) (yi 1)),ym 12 35]
def adK:az:=.seq (.block 3 (adL σ sz)) (adN)
def adJ:az:=.seq (.seq (yr [ym 32 12,yn 33 (.bin .geq (R 32) (yi 0))]) (.cond (R 33) .skip (.exit 2))) (adK σ sz)
def FB:az:=.seq (yr [ym 30 10,yn 31 (.bin .sub (R 30) (yi 1)),ym 12 31]) (.block 2 (.loop (adJ σ sz)))
def ahR:az:=.seq (.seq (yr [ym 17 10,yn 18 (.bin .sub (R 17) (yi 1)),yn 19 (.bin .quo (R 18) (yi 2)),ym 11 19]) (.block 0 (.loop (adF σ)))) (FB σ sz)
def ahQ:az:=.seq (yr [ym 14 2,ym 15 1,yb 16 .sub 14 15,ym 10 16]) (ahR σ sz)
def ahP:az:=.seq (yr [yn 9 (.bJ (yi 0))]) (ahQ σ sz)
def ahO:az:=.seq (yr [ym 13 1,ym 8 13]) (ahP σ sz)
def DM(σ:km)(sz:Nat):aE:=⟨[P.nat 0,P.nat 1,P.nat 2,P.nat 3],[],(ahO σ sz)⟩
end
section
variable(σ:km)(sz:Nat)
def afh:az:=yr [ym 41 11,yn 42 (.bin .add (R 41) (yi 1)),ym 11 42]
def afj:az:=yr [ym 81 11,ym 10 81]
def afi:az:=.seq (yr [ym 59 0,ym 60 3,ym 61 10,yb 62 .add 60 61,ym 63 0,ym 64 3,ym 65 11,yb 66 .add 64 65,ym 67 0,ym 68 3,ym 69 11,yb 70 .add 68 69,ya 71 sz 67 70,yl 72 sz 71,ym 73 0,ym 74 3,ym 75 10,yb 76 .add 74 75,ya 77 sz 73 76,yl 78 sz 77,ya 79 sz 59 62,ys sz 79 72,ya 80 sz 63 66,ys sz 80 78]) (afj)
def Gj:az:=.seq (.seq (yr [ym 43 4,ym 44 0,ym 45 3,ym 46 10,yb 47 .add 45 46,ya 48 sz 44 47,yl 49 sz 48,ym 50 0,ym 51 3,ym 52 11,yb 53 .add 51 52,ya 54 sz 50 53,yl 55 sz 54,yn 56 (.bY (R 43) [R 49,R 55] ae),yn 57 (.bin .lss (R 56) (yi 0)),yn 58 (.un .not (R 57))]) (.cond (R 58) .ret .skip)) (afi sz)
def afg:az:=.seq (.seq (yr [ym 19 11,yn 20 (.bin .add (R 19) (yi 1)),ym 21 2,yb 22 .lss 20 21,ym 23 22,hY 24 4 23,hY 25 0 23,hY 26 3 23,hY 27 11 23,⟨D 28,.bin .add (R 26) (R 27),G 23 ae⟩,⟨D 29,.aW sz ab (R 25) (R 28),G 23 ae⟩,yE 30 sz 29 23,hY 31 0 23,hY 32 3 23,hY 33 11 23,⟨D 34,.bin .add (R 32) (R 33),G 23 ae⟩,⟨D 35,.bin .add (R 34) (yi 1),G 23 ae⟩,⟨D 36,.aW sz ab (R 31) (R 35),G 23 ae⟩,yE 37 sz 36 23,⟨D 38,.bY (R 24) [R 30,R 37] ae,G 23 ae⟩,⟨D 39,.bin .lss (R 38) (yi 0),G 23 ae⟩,yn 40 (.pick (R 23) (R 39) yf)]) (.cond (R 40) afh .skip)) (Gj sz)
def ajS:az:=.seq (.seq (yr [ym 16 11,ym 17 2,yb 18 .geq 16 17]) (.cond (R 18) (.exit 0) .skip)) (afg sz)
def ajR:az:=.seq (yr [ym 13 10,yn 14 (.bin .mul (yi 2) (R 13)),yn 15 (.bin .add (R 14) (yi 1)),ym 11 15]) (ajS sz)
def Zg:az:=.block 1 (ajR sz)
def ajQ:az:=.seq (yr [ym 12 1,ym 10 12]) (.block 0 (.loop (Zg sz)))
def zQ(σ:km)(sz:Nat):aE:=⟨[P.nat 0,P.nat 1,P.nat 2,P.nat 3,P.nat 4],[],(ajQ sz)⟩
end
section
variable(σ:km)(sz:Nat)
def ahr:az:=yr [ym 46 12,ym 47 8,yb 48 .sub 46 47,ym 12 48]
def Xd:az:=yr [ym 49 0,ym 50 11,ym 51 0,ym 52 1,ym 53 12,yb 54 .add 52 53,ym 55 0,ym 56 1,ym 57 12,yb 58 .add 56 57,ya 59 sz 55 58,yl 60 sz 59,ym 61 0,ym 62 11,ya 63 sz 61 62,yl 64 sz 63,ya 65 sz 49 50,ys sz 65 60,ya 66 sz 51 54,ys sz 66 64]
def ahq:az:=.seq (.seq (yr [ym 43 12,ym 44 8,yb 45 .geq 43 44]) (.cond (R 45) ahr .skip)) (Xd sz)
def ahp:az:=.seq (yr [yn 38 (.call σ.Yh [R 9] ae),ym 39 10,yn 40 (.bin .sub (R 39) (.k (.c (.f (.int .u64 1))))),yb 41 .and 38 40,yn 42 (.fA .i64 (R 41)),ym 12 42]) (ahq sz)
def Xe:az:=yr [ym 36 11,yn 37 (.bin .add (R 36) (yi 1)),ym 11 37]
def aho:az:=.seq (.block 1 (ahp σ sz)) (Xe)
def Xc:az:=.seq (.seq (yr [ym 28 11,ym 29 1,ym 30 8,yn 31 (.bin .quo (R 30) (yi 4)),yn 32 (.bin .mul (R 31) (yi 2)),yb 33 .add 29 32,yn 34 (.bin .add (R 33) (yi 1)),yb 35 .leq 28 34]) (.cond (R 35) .skip (.exit 0))) (aho σ sz)
def alx:az:=.seq (yr [ym 22 1,ym 23 8,yn 24 (.bin .quo (R 23) (yi 4)),yn 25 (.bin .mul (R 24) (yi 2)),yb 26 .add 22 25,yn 27 (.bin .sub (R 26) (yi 1)),ym 11 27]) (.block 0 (.loop (Xc σ sz)))
def alw:az:=.seq (yr [ym 20 8,yn 21 (.call σ.npt [R 20] ag),ym 10 21]) (alx σ sz)
def alv:az:=.seq (yr [ym 18 8,yn 19 (.fA .u64 (R 18)),yn 9 (.alloc [(.int .u64 0)]),ys 1 9 19]) (alw σ sz)
def alu:az:=.seq (yr [ym 16 8,yn 17 (.bin .geq (R 16) (yi 8))]) (.cond (R 17) (alv σ sz) .skip)
def als:az:=.seq (yr [ym 13 2,ym 14 1,yb 15 .sub 13 14,ym 8 15]) (alu σ sz)
def Xf(σ:km)(sz:Nat):aE:=⟨[P.nat 0,P.nat 1,P.nat 2,P.nat 3],[],(als σ sz)⟩
end
section
variable(σ:km)(sz:Nat)
def ajx:az:=yr [ym 45 0,ym 46 14,ym 47 3,yn 48 (.call σ.v5 [R 45,R 46,R 11,R 47] ae),ym 14 48]
def ajw:az:=.seq (yr [ym 41 0,ym 42 13,ym 43 3,yn 44 (.call σ.v5 [R 41,R 42,R 11,R 43] ae),ym 13 44]) (ajx σ)
def ajv:az:=.seq (yr [ym 37 0,ym 38 12,ym 39 3,yn 40 (.call σ.v5 [R 37,R 38,R 11,R 39] ae),ym 12 40]) (ajw σ)
def YK:az:=yr [ym 49 0,ym 50 12,ym 51 13,ym 52 14,ym 53 3,yn 54 (.call σ.ZQ [R 49,R 50,R 51,R 52,R 11,R 53] ae),ym 13 54]
def aju:az:=.seq (.seq (yr [ym 35 10,yn 36 (.bin .geq (R 35) (yi 50))]) (.cond (R 36) (ajv σ) .skip)) (YK σ)
def ajz:az:=.seq (yr [ym 59 13,ym 8 59,yn 9 (.bJ (yi 1))]) .ret
def ajB:az:=.seq (yr [ym 62 13,ym 8 62,yn 9 (.bJ (yi 2))]) .ret
def ajC:az:=.seq (yr [ym 56 13,ym 8 56,yn 9 (.bJ (yi 0))]) .ret
def ajA:az:=.seq (yr [yn 61 (.bin .eql (R 55) (yi 12)),ym 60 61]) (.cond (R 60) ajB ajC)
def ajy:az:=.seq (yr [yn 58 (.bin .eql (R 55) (yi 0)),ym 57 58]) (.cond (R 57) ajz ajA)
def Et:az:=.seq (yr [yn 55 (.load ab (R 11))]) (.block 0 ajy)
def ajt:az:=.seq (.seq (yr [ym 33 10,yn 34 (.bin .geq (R 33) (yi 8))]) (.cond (R 34) (aju σ) .skip)) (Et)
def ajs:az:=.seq (yr [ym 28 1,ym 29 10,yn 30 (.bin .quo (R 29) (yi 4)),yn 31 (.bin .mul (R 30) (yi 3)),yb 32 .add 28 31,ym 14 32]) (ajt σ)
def anI:az:=.seq (yr [ym 23 1,ym 24 10,yn 25 (.bin .quo (R 24) (yi 4)),yn 26 (.bin .mul (R 25) (yi 2)),yb 27 .add 23 26,ym 13 27]) (ajs σ)
def anH:az:=.seq (yr [ym 18 1,ym 19 10,yn 20 (.bin .quo (R 19) (yi 4)),yn 21 (.bin .mul (R 20) (yi 1)),yb 22 .add 18 21,ym 12 22]) (anI σ)
def anG:az:=.seq (yr [yn 11 (.alloc [(.int .i64 0)])]) (anH σ)
def anF:az:=.seq (yr [ym 15 2,ym 16 1,yb 17 .sub 15 16,ym 10 17]) (anG σ)
def anE:az:=.seq (yr [yn 8 (.bJ (yi 0)),yn 9 (.bJ (yi 0))]) (anF σ)
def YL(σ:km)(sz:Nat):aE:=⟨[P.nat 0,P.nat 1,P.nat 2,P.nat 3],[.tmp (P.nat 8),.tmp (P.nat 9)],(anE σ)⟩
end
section
variable(σ:km)(sz:Nat)
def ajM:az:=yr [ym 32 9,yn 33 (.bin .sub (R 32) (yi 1)),ym 9 33]
def ajL:az:=.seq (yr [ym 30 8,yn 31 (.bin .add (R 30) (yi 1)),ym 8 31]) (ajM)
def ajK:az:=.seq (yr [ym 16 0,ym 17 8,ym 18 0,ym 19 9,ym 20 0,ym 21 9,ya 22 sz 20 21,yl 23 sz 22,ym 24 0,ym 25 8,ya 26 sz 24 25,yl 27 sz 26,ya 28 sz 16 17,ys sz 28 23,ya 29 sz 18 19,ys sz 29 27]) (ajL)
def an5:az:=.seq (.seq (yr [ym 13 8,ym 14 9,yb 15 .lss 13 14]) (.cond (R 15) .skip (.exit 0))) (.block 1 (ajK sz))
def an4:az:=.seq (yr [ym 11 2,yn 12 (.bin .sub (R 11) (yi 1)),ym 9 12]) (.block 0 (.loop (an5 sz)))
def an3:az:=.seq (yr [ym 10 1,ym 8 10]) (an4 sz)
def Y4(σ:km)(sz:Nat):aE:=⟨[P.nat 0,P.nat 1,P.nat 2,P.nat 3],[],(an3 sz)⟩
end
section
variable(σ:km)(sz:Nat)
def aeo:az:=yr [ym 48 12,yn 49 (.bin .add (R 48) (yi 1)),ym 12 49]
def aiO:az:=.seq (.seq (yr [ym 32 12,ym 33 13,yb 34 .leq 32 33,ym 35 34,hY 36 4 35,hY 37 0 35,hY 38 12 35,⟨D 39,.aW sz ab (R 37) (R 38),G 35 ae⟩,yE 40 sz 39 35,hY 41 0 35,hY 42 1 35,⟨D 43,.aW sz ab (R 41) (R 42),G 35 ae⟩,yE 44 sz 43 35,⟨D 45,.bY (R 36) [R 40,R 44] ae,G 35 ae⟩,⟨D 46,.bin .lss (R 45) (yi 0),G 35 ae⟩,yn 47 (.pick (R 35) (R 46) yf)]) (.cond (R 47) .skip (.exit 0))) (.block 1 aeo)
def Yt:az:=.block 0 (.loop (aiO sz))
def aer:az:=yr [ym 67 13,yn 68 (.bin .sub (R 67) (yi 1)),ym 13 68]
def aeq:az:=.seq (.seq (yr [ym 50 12,ym 51 13,yb 52 .leq 50 51,ym 53 52,hY 54 4 53,hY 55 0 53,hY 56 13 53,⟨D 57,.aW sz ab (R 55) (R 56),G 53 ae⟩,yE 58 sz 57 53,hY 59 0 53,hY 60 1 53,⟨D 61,.aW sz ab (R 59) (R 60),G 53 ae⟩,yE 62 sz 61 53,⟨D 63,.bY (R 54) [R 58,R 62] ae,G 53 ae⟩,⟨D 64,.bin .lss (R 63) (yi 0),G 53 ae⟩,⟨D 65,.un .not (R 64),G 53 ae⟩,yn 66 (.pick (R 53) (R 65) yf)]) (.cond (R 66) .skip (.exit 2))) (.block 3 aer)
def F2:az:=.block 2 (.loop (aeq sz))
def aeu:az:=.seq (yr [ym 86 13,ym 10 86,yn 11 (.bJ yt)]) .ret
def aet:az:=.seq (yr [ym 72 0,ym 73 13,ym 74 0,ym 75 1,ym 76 0,ym 77 1,ya 78 sz 76 77,yl 79 sz 78,ym 80 0,ym 81 13,ya 82 sz 80 81,yl 83 sz 82,ya 84 sz 72 73,ys sz 84 79,ya 85 sz 74 75,ys sz 85 83]) (aeu)
def aeB:az:=yr [ym 121 12,yn 122 (.bin .add (R 121) (yi 1)),ym 12 122]
def aeA:az:=.seq (.seq (yr [ym 105 12,ym 106 13,yb 107 .leq 105 106,ym 108 107,hY 109 4 108,hY 110 0 108,hY 111 12 108,⟨D 112,.aW sz ab (R 110) (R 111),G 108 ae⟩,yE 113 sz 112 108,hY 114 0 108,hY 115 1 108,⟨D 116,.aW sz ab (R 114) (R 115),G 108 ae⟩,yE 117 sz 116 108,⟨D 118,.bY (R 109) [R 113,R 117] ae,G 108 ae⟩,⟨D 119,.bin .lss (R 118) (yi 0),G 108 ae⟩,yn 120 (.pick (R 108) (R 119) yf)]) (.cond (R 120) .skip (.exit 6))) (.block 7 aeB)
def F3:az:=.block 6 (.loop (aeA sz))
def aeE:az:=yr [ym 140 13,yn 141 (.bin .sub (R 140) (yi 1)),ym 13 141]
def aeD:az:=.seq (.seq (yr [ym 123 12,ym 124 13,yb 125 .leq 123 124,ym 126 125,hY 127 4 126,hY 128 0 126,hY 129 13 126,⟨D 130,.aW sz ab (R 128) (R 129),G 126 ae⟩,yE 131 sz 130 126,hY 132 0 126,hY 133 1 126,⟨D 134,.aW sz ab (R 132) (R 133),G 126 ae⟩,yE 135 sz 134 126,⟨D 136,.bY (R 127) [R 131,R 135] ae,G 126 ae⟩,⟨D 137,.bin .lss (R 136) (yi 0),G 126 ae⟩,⟨D 138,.un .not (R 137),G 126 ae⟩,yn 139 (.pick (R 126) (R 138) yf)]) (.cond (R 139) .skip (.exit 8))) (.block 9 aeE)
def F4:az:=.block 8 (.loop (aeD sz))
def aeI:az:=yr [ym 161 13,yn 162 (.bin .sub (R 161) (yi 1)),ym 13 162]
def aeH:az:=.seq (yr [ym 159 12,yn 160 (.bin .add (R 159) (yi 1)),ym 12 160]) (aeI)
def aeG:az:=.seq (yr [ym 145 0,ym 146 12,ym 147 0,ym 148 13,ym 149 0,ym 150 13,ya 151 sz 149 150,yl 152 sz 151,ym 153 0,ym 154 12,ya 155 sz 153 154,yl 156 sz 155,ya 157 sz 145 146,ys sz 157 152,ya 158 sz 147 148,ys sz 158 156]) (aeH)
def aeF:az:=.seq (.seq (yr [ym 142 12,ym 143 13,yb 144 .gtr 142 143]) (.cond (R 144) (.exit 4) .skip)) (aeG sz)
def aeC:az:=.seq (F4 sz) (aeF sz)
def aez:az:=.seq (F3 sz) (aeC sz)
def aeJ:az:=.seq (yr [ym 177 13,ym 10 177,yn 11 (.bJ yf)]) .ret
def F5:az:=.seq (yr [ym 163 0,ym 164 13,ym 165 0,ym 166 1,ym 167 0,ym 168 1,ya 169 sz 167 168,yl 170 sz 169,ym 171 0,ym 172 13,ya 173 sz 171 172,yl 174 sz 173,ya 175 sz 163 164,ys sz 175 170,ya 176 sz 165 166,ys sz 176 174]) (aeJ)
def aey:az:=.seq (.block 4 (.loop (.block 5 (aez sz)))) (F5 sz)
def aex:az:=.seq (yr [ym 103 13,yn 104 (.bin .sub (R 103) (yi 1)),ym 13 104]) (aey sz)
def aew:az:=.seq (yr [ym 101 12,yn 102 (.bin .add (R 101) (yi 1)),ym 12 102]) (aex sz)
def aev:az:=.seq (yr [ym 87 0,ym 88 12,ym 89 0,ym 90 13,ym 91 0,ym 92 13,ya 93 sz 91 92,yl 94 sz 93,ym 95 0,ym 96 12,ya 97 sz 95 96,yl 98 sz 97,ya 99 sz 87 88,ys sz 99 94,ya 100 sz 89 90,ys sz 100 98]) (aew sz)
def aes:az:=.seq (.seq (yr [ym 69 12,ym 70 13,yb 71 .gtr 69 70]) (.cond (R 71) (aet sz) .skip)) (aev sz)
def aep:az:=.seq (F2 sz) (aes sz)
def aiN:az:=.seq (Yt sz) (aep sz)
def aiM:az:=.seq (yr [ym 28 1,yn 29 (.bin .add (R 28) (yi 1)),ym 30 2,yn 31 (.bin .sub (R 30) (yi 1)),ym 12 29,ym 13 31]) (aiN sz)
def aiL:az:=.seq (yr [ym 14 0,ym 15 1,ym 16 0,ym 17 3,ym 18 0,ym 19 3,ya 20 sz 18 19,yl 21 sz 20,ym 22 0,ym 23 1,ya 24 sz 22 23,yl 25 sz 24,ya 26 sz 14 15,ys sz 26 21,ya 27 sz 16 17,ys sz 27 25]) (aiM sz)
def aiK:az:=.seq (yr [yn 10 (.bJ (yi 0)),yn 11 (.bJ yf)]) (aiL sz)
def En(σ:km)(sz:Nat):aE:=⟨[P.nat 0,P.nat 1,P.nat 2,P.nat 3,P.nat 4],[.tmp (P.nat 10),.tmp (P.nat 11)],(aiK sz)⟩
end
section
variable(σ:km)(sz:Nat)
def aje:az:=yr [ym 48 11,yn 49 (.bin .add (R 48) (yi 1)),ym 11 49]
def ajd:az:=.seq (.seq (yr [ym 31 11,ym 32 12,yb 33 .leq 31 32,ym 34 33,hY 35 4 34,hY 36 0 34,hY 37 1 34,⟨D 38,.aW sz ab (R 36) (R 37),G 34 ae⟩,yE 39 sz 38 34,hY 40 0 34,hY 41 11 34,⟨D 42,.aW sz ab (R 40) (R 41),G 34 ae⟩,yE 43 sz 42 34,⟨D 44,.bY (R 35) [R 39,R 43] ae,G 34 ae⟩,⟨D 45,.bin .lss (R 44) (yi 0),G 34 ae⟩,⟨D 46,.un .not (R 45),G 34 ae⟩,yn 47 (.pick (R 34) (R 46) yf)]) (.cond (R 47) .skip (.exit 2))) (.block 3 aje)
def YF:az:=.block 2 (.loop (ajd sz))
def ajh:az:=yr [ym 66 12,yn 67 (.bin .sub (R 66) (yi 1)),ym 12 67]
def ajg:az:=.seq (.seq (yr [ym 50 11,ym 51 12,yb 52 .leq 50 51,ym 53 52,hY 54 4 53,hY 55 0 53,hY 56 1 53,⟨D 57,.aW sz ab (R 55) (R 56),G 53 ae⟩,yE 58 sz 57 53,hY 59 0 53,hY 60 12 53,⟨D 61,.aW sz ab (R 59) (R 60),G 53 ae⟩,yE 62 sz 61 53,⟨D 63,.bY (R 54) [R 58,R 62] ae,G 53 ae⟩,⟨D 64,.bin .lss (R 63) (yi 0),G 53 ae⟩,yn 65 (.pick (R 53) (R 64) yf)]) (.cond (R 65) .skip (.exit 4))) (.block 5 ajh)
def YG:az:=.block 4 (.loop (ajg sz))
def ajl:az:=yr [ym 87 12,yn 88 (.bin .sub (R 87) (yi 1)),ym 12 88]
def ajk:az:=.seq (yr [ym 85 11,yn 86 (.bin .add (R 85) (yi 1)),ym 11 86]) (ajl)
def ajj:az:=.seq (yr [ym 71 0,ym 72 11,ym 73 0,ym 74 12,ym 75 0,ym 76 12,ya 77 sz 75 76,yl 78 sz 77,ym 79 0,ym 80 11,ya 81 sz 79 80,yl 82 sz 81,ya 83 sz 71 72,ys sz 83 78,ya 84 sz 73 74,ys sz 84 82]) (ajk)
def aji:az:=.seq (.seq (yr [ym 68 11,ym 69 12,yb 70 .gtr 68 69]) (.cond (R 70) (.exit 0) .skip)) (ajj sz)
def ajf:az:=.seq (YG sz) (aji sz)
def ajc:az:=.seq (YF sz) (ajf sz)
def YH:az:=.seq (yr [ym 89 11,ym 10 89]) .ret
def anD:az:=.seq (.block 0 (.loop (.block 1 (ajc sz)))) (YH)
def anC:az:=.seq (yr [ym 27 1,yn 28 (.bin .add (R 27) (yi 1)),ym 29 2,yn 30 (.bin .sub (R 29) (yi 1)),ym 11 28,ym 12 30]) (anD sz)
def anB:az:=.seq (yr [ym 13 0,ym 14 1,ym 15 0,ym 16 3,ym 17 0,ym 18 3,ya 19 sz 17 18,yl 20 sz 19,ym 21 0,ym 22 1,ya 23 sz 21 22,yl 24 sz 23,ya 25 sz 13 14,ys sz 25 20,ya 26 sz 15 16,ys sz 26 24]) (anC sz)
def anA:az:=.seq (yr [yn 10 (.bJ (yi 0))]) (anB sz)
def YI(σ:km)(sz:Nat):aE:=⟨[P.nat 0,P.nat 1,P.nat 2,P.nat 3,P.nat 4],[.tmp (P.nat 10)],(anA sz)⟩
end
section
variable(σ:km)(sz:Nat)
def aeP:az:=yr [ym 37 9,yn 38 (.bin .add (R 37) (yi 1)),ym 9 38]
def aeO:az:=.seq (.seq (yr [ym 19 9,ym 20 2,yb 21 .lss 19 20,ym 22 21,hY 23 3 22,hY 24 0 22,hY 25 9 22,⟨D 26,.aW sz ab (R 24) (R 25),G 22 ae⟩,yE 27 sz 26 22,hY 28 0 22,hY 29 9 22,⟨D 30,.bin .sub (R 29) (yi 1),G 22 ae⟩,⟨D 31,.aW sz ab (R 28) (R 30),G 22 ae⟩,yE 32 sz 31 22,⟨D 33,.bY (R 23) [R 27,R 32] ae,G 22 ae⟩,⟨D 34,.bin .lss (R 33) (yi 0),G 22 ae⟩,⟨D 35,.un .not (R 34),G 22 ae⟩,yn 36 (.pick (R 22) (R 35) yf)]) (.cond (R 36) .skip (.exit 2))) (.block 3 aeP)
def F7:az:=.block 2 (.loop (aeO sz))
def aeR:az:=.seq (yr [yn 8 (.bJ yt)]) .ret
def aeT:az:=.seq (yr [yn 8 (.bJ yf)]) .ret
def ae0:az:=yr [ym 85 0,ym 86 11,ym 87 0,ym 88 11,yn 89 (.bin .sub (R 88) (yi 1)),ym 90 0,ym 91 11,yn 92 (.bin .sub (R 91) (yi 1)),ya 93 sz 90 92,yl 94 sz 93,ym 95 0,ym 96 11,ya 97 sz 95 96,yl 98 sz 97,ya 99 sz 85 86,ys sz 99 94,ya 100 sz 87 89,ys sz 100 98]
def aeZ:az:=.seq (.seq (yr [ym 72 3,ym 73 0,ym 74 11,ya 75 sz 73 74,yl 76 sz 75,ym 77 0,ym 78 11,yn 79 (.bin .sub (R 78) (yi 1)),ya 80 sz 77 79,yl 81 sz 80,yn 82 (.bY (R 72) [R 76,R 81] ae),yn 83 (.bin .lss (R 82) (yi 0)),yn 84 (.un .not (R 83))]) (.cond (R 84) (.exit 4) .skip)) (ae0 sz)
def ae1:az:=yr [ym 70 11,yn 71 (.bin .sub (R 70) (yi 1)),ym 11 71]
def aeY:az:=.seq (.block 5 (aeZ sz)) (ae1)
def aeX:az:=.seq (.seq (yr [ym 68 11,yn 69 (.bin .geq (R 68) (yi 1))]) (.cond (R 69) .skip (.exit 4))) (aeY sz)
def F8:az:=.block 4 (.loop (aeX sz))
def aeW:az:=.seq (yr [ym 66 9,yn 67 (.bin .sub (R 66) (yi 1)),ym 11 67]) (F8 sz)
def ae6:az:=yr [ym 125 0,ym 126 12,ym 127 0,ym 128 12,yn 129 (.bin .sub (R 128) (yi 1)),ym 130 0,ym 131 12,yn 132 (.bin .sub (R 131) (yi 1)),ya 133 sz 130 132,yl 134 sz 133,ym 135 0,ym 136 12,ya 137 sz 135 136,yl 138 sz 137,ya 139 sz 125 126,ys sz 139 134,ya 140 sz 127 129,ys sz 140 138]
def ae5:az:=.seq (.seq (yr [ym 112 3,ym 113 0,ym 114 12,ya 115 sz 113 114,yl 116 sz 115,ym 117 0,ym 118 12,yn 119 (.bin .sub (R 118) (yi 1)),ya 120 sz 117 119,yl 121 sz 120,yn 122 (.bY (R 112) [R 116,R 121] ae),yn 123 (.bin .lss (R 122) (yi 0)),yn 124 (.un .not (R 123))]) (.cond (R 124) (.exit 6) .skip)) (ae6 sz)
def ae7:az:=yr [ym 110 12,yn 111 (.bin .add (R 110) (yi 1)),ym 12 111]
def ae4:az:=.seq (.block 7 (ae5 sz)) (ae7)
def ae3:az:=.seq (.seq (yr [ym 107 12,ym 108 2,yb 109 .lss 107 108]) (.cond (R 109) .skip (.exit 6))) (ae4 sz)
def F':az:=.block 6 (.loop (ae3 sz))
def ae2:az:=.seq (yr [ym 105 9,yn 106 (.bin .add (R 105) (yi 1)),ym 12 106]) (F' sz)
def F9:az:=.seq (yr [ym 101 2,ym 102 9,yb 103 .sub 101 102,yn 104 (.bin .geq (R 103) (yi 2))]) (.cond (R 104) (ae2 sz) .skip)
def aeV:az:=.seq (.seq (yr [ym 62 9,ym 63 1,yb 64 .sub 62 63,yn 65 (.bin .geq (R 64) (yi 2))]) (.cond (R 65) (aeW sz) .skip)) (F9 sz)
def aeU:az:=.seq (yr [ym 46 0,ym 47 9,ym 48 0,ym 49 9,yn 50 (.bin .sub (R 49) (yi 1)),ym 51 0,ym 52 9,yn 53 (.bin .sub (R 52) (yi 1)),ya 54 sz 51 53,yl 55 sz 54,ym 56 0,ym 57 9,ya 58 sz 56 57,yl 59 sz 58,ya 60 sz 46 47,ys sz 60 55,ya 61 sz 48 50,ys sz 61 59]) (aeV sz)
def aeS:az:=.seq (.seq (yr [ym 42 2,ym 43 1,yb 44 .sub 42 43,yn 45 (.bin .lss (R 44) (yi 50))]) (.cond (R 45) aeT .skip)) (aeU sz)
def aeQ:az:=.seq (.seq (yr [ym 39 9,ym 40 2,yb 41 .eql 39 40]) (.cond (R 41) aeR .skip)) (aeS sz)
def aeN:az:=.seq (F7 sz) (aeQ sz)
def zJ:az:=yr [ym 17 10,yn 18 (.bin .add (R 17) (yi 1)),ym 10 18]
def aeM:az:=.seq (.block 1 (aeN sz)) (zJ)
def Ep:az:=.seq (.seq (yr [ym 15 10,yn 16 (.bin .lss (R 15) (yi 5))]) (.cond (R 16) .skip (.exit 0))) (aeM sz)
def tI:az:=.seq (yr [yn 8 (.bJ yf)]) .ret
def ajr:az:=.seq (.seq (yr [yn 10 (.bJ (yi 0))]) (.block 0 (.loop (Ep sz)))) (tI)
def ajq:az:=.seq (yr [ym 13 1,yn 14 (.bin .add (R 13) (yi 1)),ym 9 14]) (ajr sz)
def ajp:az:=.seq (yr [yn 8 (.bJ yf)]) (ajq sz)
def Er(σ:km)(sz:Nat):aE:=⟨[P.nat 0,P.nat 1,P.nat 2,P.nat 3],[.tmp (P.nat 8)],(ajp sz)⟩
end
def aid(σ:km):az:=.seq (yr [ym 9 0,ym 10 1,yn 11 (.bin .sub (R 10) (yi 1)),ym 12 1,ym 13 1,yn 14 (.bin .add (R 13) (yi 1)),ym 15 2,ym 16 3,yn 17 (.call σ.ZQ [R 9,R 11,R 12,R 14,R 15,R 16] ae),ym 8 17]) .ret
def aic(σ:km):az:=.seq (yr [yn 8 (.bJ (yi 0))]) (aid σ)
def zu(σ:km)(sz:Nat):aE:=⟨[P.nat 0,P.nat 1,P.nat 2,P.nat 3],[.tmp (P.nat 8)],(aic σ)⟩
section
variable(σ:km)(sz:Nat)
def amk:az:=.seq (yr [ym 40 2,ym 12 40]) .ret
def amj:az:=.seq (yr [ym 32 0,ym 33 1,ym 34 2,ym 35 4,ym 36 5,yn 37 (.call σ.ord [R 32,R 33,R 34,R 35,R 36] ae),ym 31 37,yn 38 (.extract (R 31) 0),yn 39 (.extract (R 31) 1),ym 1 38,ym 2 39]) (amk)
def ami:az:=.seq (yr [ym 23 0,ym 24 2,ym 25 3,ym 26 4,ym 27 5,yn 28 (.call σ.ord [R 23,R 24,R 25,R 26,R 27] ae),ym 22 28,yn 29 (.extract (R 22) 0),yn 30 (.extract (R 22) 1),ym 2 29,ym 3 30]) (amj σ)
def amh:az:=.seq (yr [ym 14 0,ym 15 1,ym 16 2,ym 17 4,ym 18 5,yn 19 (.call σ.ord [R 14,R 15,R 16,R 17,R 18] ae),ym 13 19,yn 20 (.extract (R 13) 0),yn 21 (.extract (R 13) 1),ym 1 20,ym 2 21]) (ami σ)
def amg:az:=.seq (yr [yn 12 (.bJ (yi 0))]) (amh σ)
def BQ(σ:km)(sz:Nat):aE:=⟨[P.nat 0,P.nat 1,P.nat 2,P.nat 3,P.nat 4,P.nat 5],[.tmp (P.nat 12)],(amg σ)⟩
end
section
variable(σ:km)(sz:Nat)
def amJ:az:=.seq (yr [ym 28 2,ym 29 1,ym 10 28,ym 11 29]) .ret
def amI:az:=.seq (yr [ym 23 3,yn 24 (.bD (R 23)),yn 25 (.load ab (R 24)),yn 26 (.bin .add (R 25) (yi 1)),yn 27 (.bD (R 23)),ys 1 27 26]) (amJ)
def aiu:az:=.seq (yr [ym 30 1,ym 31 2,ym 10 30,ym 11 31]) .ret
def amH:az:=.seq (.seq (yr [ym 12 4,ym 13 0,ym 14 2,ya 15 sz 13 14,yl 16 sz 15,ym 17 0,ym 18 1,ya 19 sz 17 18,yl 20 sz 19,yn 21 (.bY (R 12) [R 16,R 20] ae),yn 22 (.bin .lss (R 21) (yi 0))]) (.cond (R 22) amI .skip)) (aiu)
def amG:az:=.seq (yr [yn 10 (.bJ (yi 0)),yn 11 (.bJ (yi 0))]) (amH sz)
def xZ(σ:km)(sz:Nat):aE:=⟨[P.nat 0,P.nat 1,P.nat 2,P.nat 3,P.nat 4],[.tmp (P.nat 10),.tmp (P.nat 11)],(amG sz)⟩
end
def amn(σ:km):az:=.seq (yr [ym 3 0,yn 4 (.fA .u64 (R 3)),yn 5 (.call σ.len [R 4] ag),yn 6 (.bin .shl (.k (.c (.f (.int .u64 1)))) (R 5)),ym 2 6]) .ret
def amm(σ:km):az:=.seq (yr [yn 2 (.bJ (.k (.c (.f (.int .u64 0)))))]) (amn σ)
def FR(σ:km)(sz:Nat):aE:=⟨[P.nat 0],[.tmp (P.nat 2)],(amm σ)⟩
section
variable(σ:km)(sz:Nat)
def ams:az:=.seq (yr [ym 30 0,yn 31 (.bD (R 30)),yn 32 (.load ab (R 31)),ym 2 32]) .ret
def amr:az:=.seq (yr [ym 21 0,yn 22 (.bD (R 21)),yn 23 (.load ab (R 22)),ym 24 0,yn 25 (.bD (R 24)),yn 26 (.load ab (R 25)),yn 27 (.bin .shl (R 26) (.k (.c (.f (.int .u64 17))))),yb 28 .xor 23 27,yn 29 (.bD (R 21)),ys 1 29 28]) (ams)
def amq:az:=.seq (yr [ym 12 0,yn 13 (.bD (R 12)),yn 14 (.load ab (R 13)),ym 15 0,yn 16 (.bD (R 15)),yn 17 (.load ab (R 16)),yn 18 (.bin .shr (R 17) (.k (.c (.f (.int .u64 7))))),yb 19 .xor 14 18,yn 20 (.bD (R 12)),ys 1 20 19]) (amr)
def amp:az:=.seq (yr [ym 3 0,yn 4 (.bD (R 3)),yn 5 (.load ab (R 4)),ym 6 0,yn 7 (.bD (R 6)),yn 8 (.load ab (R 7)),yn 9 (.bin .shl (R 8) (.k (.c (.f (.int .u64 13))))),yb 10 .xor 5 9,yn 11 (.bD (R 3)),ys 1 11 10]) (amq)
def amo:az:=.seq (yr [yn 2 (.bJ (.k (.c (.f (.int .u64 0)))))]) (amp)
def FT(σ:km)(sz:Nat):aE:=⟨[P.nat 0],[.tmp (P.nat 2)],(amo)⟩
end
end
section
open Go
def Cv(tab:Nat→Option aE)(cv:V)(W:List FC→Prop)(c:List FC→List FC→Int):Prop:=
 ∀ x y,W x→W y→∀ H,∃ F b J,bZ cv [.a (x.map .f),.a (y.map .f)]=aa (.fn F,b)∧Ev tab (.fn F) b H (vi (c x y)) (H++J)
section
variable{W:List FC→Prop}{c:List FC→List FC→Int}{l:List (List FC)}
theorem kP.of_lt{i j:Nat}(hc:vO W c)(g:∀ r ∈ l,W r){x y:List FC}(m:l[i]?=aa x)(hy:l[j]?=aa y)(h:c x y<0):kP c l i j:=fun q s b d=>by
 rw [m]at b;rw [hy]at d;cases b;cases d;exact hc.Ds (g _ (arR m)) (g _ (arR hy)) h
theorem kP.of_le{i j:Nat}{x y:List FC}(g:l[i]?=aa x)(hy:l[j]?=aa y)(h:¬ c y x<0):kP c l i j:=fun m q b d=>by
 rw [g]at b;rw [hy]at d;cases b;cases d;exact h
theorem kP.get{b:List (List FC)}{i j i' d:Nat}(h:kP c l i j)(g:b[i']?=l[i]?)(m:b[d]?=l[j]?):kP c b i' d:=fun x y q hy=>h x y (by rw [←g];exact q) (by rw [←m];exact hy)
def E9(c:List FC→List FC→Int)(a i j:Nat)(l:List (List FC)):Prop:=∀ p q,a≤p→p<q→q≤i→q≠j→kP c l p q
theorem E9.start{a i:Nat}(h:Up c a i l):E9 c a i i l:=fun p q b d g j=>fun x y=>h p q x y b d (by omega)
theorem E9.step{a i j:Nat}(hc:vO W c)(A:∀ r ∈ l,W r)(h:E9 c a i (j+1) l)(B:a≤j)(F:j+1≤i)(hi:i<l.length){x y:List FC}(E:l[j+1]?=aa x)(hy:l[j]?=aa y)(s:c x y<0):E9 c a i j (iG l (j+1) j):=by
 intro p q u v m z;have g:∀ k,(iG l (j+1) j)[k]?=if k=j then l[j+1]? else if k=j+1 then l[j]? else l[k]?:=fun k=>gG (by omega) (by omega) k;by_cases b:q=j+1
 ·subst b;by_cases p1:p=j
  ·subst p1;exact(kP.of_lt hc A E hy s).get (by rw [g,bp rfl]) (by rw [g,aZ (by omega),bp rfl])
  ·exact(h p j u (by omega) (by omega) (by omega)).get (by rw [g,aZ (by omega),aZ (by omega)]) (by rw [g,aZ (by omega),bp rfl])
 ·have d:(iG l (j+1) j)[q]?=l[q]?:=by rw [g,aZ z,aZ b]
  by_cases p1:p=j
  ·subst p1;exact(h (p+1) q (by omega) (by omega) m b).get (by rw [g,bp rfl]) d
  by_cases p2:p=j+1
  ·subst p2;exact(h j q B (by omega) m b).get (by rw [g,aZ (by omega),bp rfl]) d
  ·exact(h p q u v m b).get (by rw [g,aZ p1,aZ p2]) d
theorem E9.front{a i:Nat}(h:E9 c a i a l):Up c a (i+1) l:=fun p q x y b d g=>h p q b d (by omega) (by omega) x y
theorem E9.stop{a i j:Nat}(hc:vO W c)(s:∀ r ∈ l,W r)(h:E9 c a i (j+1) l)(v:a≤j)(z:j+1≤i)(hi:i<l.length)(b:kP c l j (j+1)):Up c a (i+1) l:=by
 intro p q x y d m u;by_cases g:q=j+1
 ·subst g;by_cases p1:p=j
  ·subst p1;exact b x y
  ·exact((h p j d (by omega) (by omega) (by omega)).trans hc s b (by omega)) x y
 ·exact h p q d m (by omega) g x y
end
section
variable{tab:Nat→Option aE}{σ:km}{sz:Nat}{H:aj}{b ep:Nat}{rows:List (List FC)}{cv:V}{W:List FC→Prop}{c:List FC→List FC→Int}
theorem RB.at(h:RB H b sz ep rows){i:Nat}(hi:i<rows.length):aP H sz ab (.c (.sl b 0 rows.length 0 ep sz)) (vi i)=aa (.c (.ptr b (i*sz) ep)):=by
 have:=h.idx (n:=rows.length) (c:=0) (k:=.i64) (o:=0) (i:=(i:Int)) (by omega) (by omega);rwa [Int.toNat_natCast,aso]at this
theorem RB.ldi(h:RB H b sz ep rows)(d:bR sz rows){i:Nat}(hi:i<rows.length):aU H (aa sz) (.c (.ptr b (i*sz) ep))=aa (.a (rows[i].map .f)):=h.ldr d (AT hi)
theorem ah4(hT:tab σ.ins=aa (BG σ sz))(b_:Cv tab cv W c)(hc:vO W c){n a e:Nat}(hn:rows.length=n)(hl:n≤1000000000)(d:RB H b sz ep rows)(hg:bR sz rows)(hW:∀ r ∈ rows,W r)(d3:a≤e)(d5:e≤n) :
  ∃ r H',Ev tab (.fn σ.ins) [.c (.sl b 0 n 0 ep sz),vi a,vi e,cv] H r H'∧(r=.t []∧Fm b H H'∧∃ l',RB H' b sz ep l'∧ew a e rows l'∧Up c a e l'):=by
 refine dn hT rfl fun Q hQ=>?_;apply ai;simp [aQ (n:=(a:Int)+1)];refine aB ?_;refine bI (fun m s=>∃(i:Nat) (t:T) (U:aj) (l:List (List FC)),s=⟨t,[],U⟩∧m=n+1-i∧a+1≤i∧(i≤e∨i=a+1)∧t.g 0=.c (.sl b 0 n 0 ep sz)∧t.g 1=vi a∧t.g 2=vi e∧t.g 3=cv∧t.g 8=vi i ∧
  Fm b H U∧RB U b sz ep l∧ew a e rows l∧Up c a i l) _
  ⟨a+1,_,H,rows,rfl,rfl,by omega,.inr rfl,by simp,by simp,by simp,by simp,by simp,Fm.refl H,d,ew.refl _ _ _,Up.one (by omega)⟩ ?_
 rintro m s ⟨i,t,U,l,rfl,rfl,d6,hi,B,E,L,M,I,v,d,g,b9⟩ ih;have A:=g.len;apply aq;apply ai;simp [I,L];by_cases a_:i<e
 case neg=>
  refine al (by simp [a_]) ?_;refine bq (k':=[]) rfl ?_;exact jZ (hQ _ _ _ rfl rfl ⟨rfl,v,l,d,g,b9.mono (OF _) (by omega)⟩)
 refine ak (by simp [a_]) (aL ?_);apply aq;refine aB ?_;apply ai;simp [I];refine aB ?_;refine bI (fun m s=>∃(j:Nat) (t:T) (O:aj) (q:List (List FC)),s=⟨t,[],O⟩∧j=m∧a≤j∧j≤i∧t.g 0=.c (.sl b 0 n 0 ep sz)∧t.g 1=vi a∧t.g 2=vi e∧t.g 3=cv∧t.g 8=vi i∧t.g 9=vi j ∧
  Fm b H O∧RB O b sz ep q∧ew a e rows q∧E9 c a i j q) i
  ⟨i,_,U,l,rfl,rfl,by omega,by omega,by simp [B],by simp [E],by simp [L],by simp [M],by simp [I],by simp,v,d,g,E9.start b9⟩ ?_
 rintro m s ⟨j,t,O,q,rfl,rfl,d7,a9,B,E,L,M,I,X,v,d,g,z⟩ c_;have A:=g.len;have x:=g.s7 hg;have K:∀ r ∈ q,W r:=fun r hr=>hW r (g.1.mem_iff.1 hr);have stop:Up c a (i+1) q→∀ t:T,t.g 0=.c (.sl b 0 n 0 ep sz)→t.g 1=vi a→t.g 2=vi e→t.g 3=cv→t.g 8=vi i→∀ S,Fm b H S→RB S b sz ep q →
   WP tab σ.ins ab [.inBlock 1,.code (zj),.inLoop (FG sz),.inBlock 0] ⟨t,[],S⟩ Q:=by
  intro hp t B E L M I S v d;refine aw (av (.inl rfl) ?_);simp [I,aQ (n:=(i:Int)+1)];exact ih (n+1-(i+1)) _ (by omega) ⟨i+1,_,S,q,rfl,rfl,by omega,.inl (by omega),by simp [B],by simp [E],by simp [L],by simp [M],by simp,v,d,g,hp⟩
 apply aq;apply ai;by_cases hj:j=a
 ·subst hj;simp [X,E];refine al (by simp) ?_;refine bq (k':=[.inBlock 1,.code (zj),.inLoop (FG sz),.inBlock 0]) rfl ?_;exact stop z.front _ (by simp [B]) (by simp [E]) (by simp [L]) (by simp [M]) (by simp [I]) _ v d
 obtain⟨k,rfl⟩:∃ k,j=k+1:=⟨j-1,by omega⟩
 have N:k+1<q.length:=by omega
 have c1:((k+1:Nat):Int)=(k:Int)+1:=by omega
 have i1:=d.at N;have i0:=d.at (show k<q.length by omega);have l1:=d.ldi x N;have l0:=d.ldi x (show k<q.length by omega);rw [A,hn]at i1 i0;rw [c1]at i1 X;obtain⟨F,ar,J,Z,c9⟩:=b_ q[k+1] q[k] (K _ (IT _)) (K _ (IT _)) O;have he:=c9.eq;have gt:(a:Int)<(k:Int)+1:=by omega
 simp [X,B,E,M,gt,i1,i0,l1,l0,Z,he,-an,aQ (n:=(k:Int))];by_cases y:c q[k+1] q[k]<0
 case neg=>
  refine al (by simp [y]) ?_;refine bq (k':=[.inBlock 1,.code (zj),.inLoop (FG sz),.inBlock 0]) rfl ?_;exact stop (z.stop hc K (by omega) a9 (by omega) (kP.of_le (AT (by omega)) (AT N) y)) _ (by simp [B]) (by simp [E]) (by simp [L]) (by simp [M]) (by simp [I]) _ (v.trans (Fm.push _ _)) (d.push _)
 refine ak (by simp [y]) (aL ?_);have w1:q[k+1].length=sz:=x _ (IT _);have w0:q[k].length=sz:=x _ (IT _);have u:=d.push J;obtain⟨HJ,Y⟩:=aO (O++J);rw [←Y]at u ⊢;have a8:Fm b H HJ:=by rw [Y];exact v.trans (Fm.push _ _)
 have i1:=u.at N;have i0:=u.at (show k<q.length by omega);have l1:=u.ldi x N;have l0:=u.ldi x (show k<q.length by omega);obtain⟨S,H4,s1,r1,s2,r2,f2⟩:=u.swap x N (show k<q.length by omega);have i2:=r1.at (show k<(q.set (k+1) q[k]).length by simp;omega);rw [List.length_set]at i2;rw [A,hn]at i1 i0 i2;rw [c1]at i1;apply aq;refine aB ?_;refine av (.inl rfl) ?_;simp [X,B,i1,i0,i2,l1,l0,s1,s2,w1,w0,-an,-bh,aQ (n:=(k:Int))];refine aw ?_;refine av (.inl rfl) ?_;simp [X,aQ (n:=(k:Int))];exact c_ k _ (by omega) ⟨k,_,H4,iG q (k+1) k,rfl,rfl,by omega,by omega,by simp [B],by simp [E],by simp [L],by simp [M],by simp [I],by simp,a8.trans f2,r2,
  g.trans (eV (by omega) (by omega) (by omega) (by omega) (by omega)),z.step hc K (by omega) a9 (by omega) (AT N) (AT (by omega)) y⟩
end
end
section
open Go
section
variable{tab:Nat→Option aE}{σ:km}{sz:Nat}{H:aj}{b ep:Nat}{rows:List (List FC)}{cv:V}{W:List FC→Prop}{c:List FC→List FC→Int}
theorem RB.iG(h:RB H b sz ep rows)(l:bR sz rows){n i j:Nat}(s:rows.length=n)(hi:i<n)(m:j<n):∃(x y:List FC) (d g:aj),rows[i]?=aa x∧rows[j]?=aa y ∧
  aP H sz ab (.c (.sl b 0 n 0 ep sz)) (vi i)=aa (.c (.ptr b (i*sz) ep))∧aP H sz ab (.c (.sl b 0 n 0 ep sz)) (vi j)=aa (.c (.ptr b (j*sz) ep)) ∧
  aU H (aa sz) (.c (.ptr b (i*sz) ep))=aa (.a (x.map .f))∧aU H (aa sz) (.c (.ptr b (j*sz) ep))=aa (.a (y.map .f))∧x.length=sz∧y.length=sz ∧
  cE H (.ptr b (i*sz) ep) (y.map .f)=aa d∧aP d sz ab (.c (.sl b 0 n 0 ep sz)) (vi j)=aa (.c (.ptr b (j*sz) ep))∧cE d (.ptr b (j*sz) ep) (x.map .f)=aa g∧RB g b sz ep (iG rows i j)∧Fm b H g:=by
 subst s;obtain⟨d,g,s1,r1,s2,r2,q⟩:=h.swap l hi m;have i2:=r1.at (show j<(rows.set i rows[j]).length by simpa using m);rw [List.length_set]at i2;exact⟨rows[i],rows[j],d,g,AT hi,AT m,h.at hi,h.at m,h.ldi l hi,h.ldi l m,l _ (IT _),l _ (IT _),s1,i2,s2,r2,q⟩
theorem RB.ask(h:RB H b sz ep rows)(q:bR sz rows)(l:Cv tab cv W c)(g:∀ r ∈ rows,W r){n i j:Nat}(v:rows.length=n)(hi:i<n)(m:j<n):∃(x y:List FC) (F:Nat) (d:List V) (J:aj),rows[i]?=aa x∧rows[j]?=aa y ∧
  aP H sz ab (.c (.sl b 0 n 0 ep sz)) (vi i)=aa (.c (.ptr b (i*sz) ep))∧aP H sz ab (.c (.sl b 0 n 0 ep sz)) (vi j)=aa (.c (.ptr b (j*sz) ep)) ∧
  aU H (aa sz) (.c (.ptr b (i*sz) ep))=aa (.a (x.map .f))∧aU H (aa sz) (.c (.ptr b (j*sz) ep))=aa (.a (y.map .f)) ∧
  bZ cv [.a (x.map .f),.a (y.map .f)]=aa (.fn F,d)∧Ev tab (.fn F) d H=E2 (vi (c x y)) (H++J)∧W x∧W y:=by
 subst v;obtain⟨F,d,J,s,u⟩:=l rows[i] rows[j] (g _ (IT _)) (g _ (IT _)) H;exact⟨rows[i],rows[j],F,d,J,AT hi,AT m,h.at hi,h.at m,h.ldi q hi,h.ldi q m,s,u.eq,g _ (IT _),g _ (IT _)⟩
theorem ajN(M:tab σ.rev=aa (Y4 σ sz)){n a e:Nat}(Y:rows.length=n)(hl:n≤1000000000)(q:RB H b sz ep rows)(S:bR sz rows)(N:a<e)(O:e≤n) :
  ∃ r H',Ev tab (.fn σ.rev) [.c (.sl b 0 n 0 ep sz),vi a,vi e,cv] H r H'∧(r=.t []∧Fm b H H'∧∃ I,RB H' b sz ep I∧ew a e rows I):=by
 refine dn M rfl fun Q L=>?_;obtain⟨d,rfl⟩:∃ d,e=d+1:=⟨e-1,by omega⟩
 apply ai;simp;apply ai;simp [aQ (n:=(d:Int))];refine aB ?_;refine bI (fun m s=>∃(i j:Nat) (t:T) (A:aj) (l:List (List FC)),s=⟨t,[],A⟩∧m=n+1-i∧a≤i∧j≤d∧i≤j+1∧t.g 0=.c (.sl b 0 n 0 ep sz)∧t.g 8=vi i∧t.g 9=vi j ∧
  Fm b H A∧RB A b sz ep l∧ew a (d+1) rows l) _
  ⟨a,d,_,H,rows,rfl,rfl,by omega,by omega,by omega,by simp,by simp,by simp,Fm.refl H,q,ew.refl _ _ _⟩ ?_
 rintro m s ⟨i,j,t,A,l,rfl,rfl,U,X,W,F,B,E,u,q,g⟩ Z;have v:=g.len;apply aq;apply ai;simp [B,E];by_cases z:i<j
 case neg=>
  refine al (by simp [z]) ?_;refine bq (k':=[]) rfl ?_;exact jZ (L _ _ _ rfl rfl ⟨rfl,u,l,q,g⟩)
 refine ak (by simp [z]) (aL ?_);obtain⟨x,y,H2,J,-,-,i1,j1,l1,l2,w1,w2,s1,j2,s2,r2,K⟩:=q.iG (g.s7 S) (v.trans Y) (i:=i) (j:=j) (by omega) (by omega);refine aB ?_;apply ai;simp [F,B,E,i1,j1,l1,l2,w1,w2,s1,j2,s2,-an,-bh];apply ai;simp [B,aQ (n:=(i:Int)+1)];refine av (.inl rfl) ?_;simp [E,aQ (n:=(j:Int)-1)];refine aw ?_;refine Z (n+1-(i+1)) _ (by omega) ⟨i+1,j-1,_,J,iG l i j,rfl,rfl,by omega,by omega,by omega,by simp [F],by simp,by simp;omega,u.trans K,r2,g.trans (eV (by omega) (by omega) (by omega) (by omega) (by omega))⟩
def NB(H:aj)(p:Nat):Prop:=∃ k:Int,H[p]?=aa (.box [.f (fi k)] 0)
theorem NB.push{p:Nat}(h:NB H p)(J:aj):NB (H++J) p:=by
 obtain⟨k,h⟩:=h;exact⟨k,by rw [At (au h)];exact h⟩
theorem aiv(z:tab σ.ord=aa (xZ σ sz))(m:Cv tab cv W c){n p i j:Nat}(K:rows.length=n)(s:RB H b sz ep rows)(E:bR sz rows)(A:∀ r ∈ rows,W r)(hi:i<n)(I:j<n)(v:NB H p)(L:p≠b) :
  ∃ r H',Ev tab (.fn σ.ord) [.c (.sl b 0 n 0 ep sz),vi i,vi j,.c (.ptr p 0 0),cv] H r H'∧((r=.t [vi i,vi j]∨r=.t [vi j,vi i])∧Fm p H H'∧NB H' p):=by
 refine dn z rfl fun Q u=>?_;obtain⟨x,y,F,S,J,-,-,i1,M,N,O,d,B,-,-⟩:=s.ask E m A K I hi;obtain⟨k,l⟩:=v.push J;have q:=au l;apply ai;simp;apply aq;apply ai;simp [i1,M,N,O,d,B,-an];by_cases g:c x y<0
 ·refine ak (by simp [g]) (ai ?_);simp [l];apply ai;simp;refine aJ (u _ _ (.t [vi j,vi i]) rfl (by simp [Km.results,ba]) ⟨.inr rfl,?_,?_⟩)
  ·exact(Fm.push _ _).trans (Fm.set _ _)
  ·exact⟨_,If q⟩
 ·refine al (by simp [g]) (aL (ai ?_));simp;exact aJ (u _ _ (.t [vi i,vi j]) rfl (by simp [Km.results,ba]) ⟨.inl rfl,Fm.push _ _,v.push J⟩)
theorem X_(X:tab σ.ZQ=aa (BQ σ sz))(S:tab σ.ord=aa (xZ σ sz))(l:Cv tab cv W c){n p i j k:Nat}(e:rows.length=n)(d:RB H b sz ep rows)(Z:bR sz rows)(Y:∀ r ∈ rows,W r)(hi:i<n)(m:j<n)(a:k<n)(s:NB H p)(g:p≠b) :
  ∃ r H',Ev tab (.fn σ.ZQ) [.c (.sl b 0 n 0 ep sz),vi i,vi j,vi k,.c (.ptr p 0 0),cv] H r H'∧((∃ q:Nat,r=vi q∧(q=i∨q=j∨q=k))∧Fm p H H'∧NB H' p):=by
 have key:∀ {H:aj} {i j:Nat},RB H b sz ep rows→NB H p→i<n→j<n→∃(x y:Nat) (H':aj),Ev tab (.fn σ.ord) [.c (.sl b 0 n 0 ep sz),vi i,vi j,.c (.ptr p 0 0),cv] H=E2 (.t [vi x,vi y]) H'∧(x=i∧y=j∨x=j∧y=i)∧Fm p H H'∧NB H' p:=by
  intro H i j d s hi m;obtain⟨r,H',A,hr,B,z⟩:=aiv S l e d Z Y hi m s g;rcases hr with rfl | rfl
  ·exact⟨i,j,H',A.eq,.inl ⟨rfl,rfl⟩,B,z⟩
  ·exact⟨j,i,H',A.eq,.inr ⟨rfl,rfl⟩,B,z⟩
 obtain⟨f,o,F,L,w,u,b1⟩:=key d s hi m;have r1:RB F b sz ep rows:=u.get d (Ne.symm g);obtain⟨h,y2,I,M,o2,v,J⟩:=key r1 b1 (show o<n by omega) a;have r2:RB I b sz ep rows:=v.get r1 (Ne.symm g);obtain⟨x3,E,t,N,o3,O,K⟩:=key r2 J (show f<n by omega) (show h<n by omega);refine dn X rfl fun Q U=>?_;apply ai;simp;apply ai;simp [L];apply ai;simp [M];apply ai;simp [N];apply ai;simp;refine aJ (U _ _ (vi E) rfl (by simp [Km.results,ba]) ⟨⟨E,rfl,by omega⟩,u.trans (v.trans O),K⟩)
theorem zv(y:tab σ.v5=aa (zu σ sz))(u:tab σ.ZQ=aa (BQ σ sz))(v:tab σ.ord=aa (xZ σ sz))(l:Cv tab cv W c){n p i:Nat}(F:rows.length=n)(K:n≤1000000000)(s:RB H b sz ep rows)(E:bR sz rows)(z:∀ r ∈ rows,W r)(J:0<i)(hi:i+1<n)(I:NB H p)(m:p≠b) :
  ∃ r H',Ev tab (.fn σ.v5) [.c (.sl b 0 n 0 ep sz),vi i,.c (.ptr p 0 0),cv] H r H'∧((∃ q:Nat,r=vi q∧i≤q+1∧q≤i+1)∧Fm p H H'∧NB H' p):=by
 obtain⟨d,rfl⟩:∃ d,i=d+1:=⟨i-1,by omega⟩
 obtain⟨r,H',g,⟨q,rfl,L⟩,B,A⟩:=X_ (i:=d) (j:=d+1) (k:=d+1+1) u v l F s E z (by omega) (by omega) hi I m;refine dn y rfl fun Q x=>?_;have g:=g.eq;simp at g;apply ai;simp;apply ai;simp [aQ (n:=(d:Int)),aQ (n:=(d:Int)+1+1),g];exact aJ (x _ _ (vi q) rfl (by simp [Km.results,ba]) ⟨⟨q,rfl,by omega,by omega⟩,B,A⟩)
def Kp(H H':aj):Prop:=H.length≤H'.length∧∀ b:Nat,b<H.length→H'[b]?=H[b]?
theorem Kp.fm{b:Nat}{H H':aj}(h:Kp H H'):Fm b H H':=⟨h.1,fun d _ l=>h.2 d l⟩
theorem Kp.push(H J:aj):Kp H (H++J):=⟨by simp,fun b l=>At l⟩
theorem Kp.next{H H' b:aj}{p:Nat}(h:Kp H H')(j:H.length≤p)(g:Fm p H' b):Kp H b:=⟨arZ h.1 g.1,fun d l=>(g.2 d (by omega) (asA l h.1)).trans (h.2 d l)⟩
theorem Kp.rb{H H':aj}{b sz ep:Nat}{rows:List (List FC)}(h:Kp H H')(d:RB H b sz ep rows):RB H' b sz ep rows:=by
 unfold RB at *;rw [h.2 b (au d)];exact d
theorem afb{a b:Nat}(s:0<b)(m:a≤9223372036854775807):bS .quo (vi a) (vi b)=aa (vi ((a / b:Nat):Int)):=by
 have g:(a / b:Nat)≤a:=Nat.div_le_self a b;obtain⟨q,d⟩:=aO (a / b);have j:((a:Int) / b)=(q:Int):=by rw [d];simp
 have l:q≤a:=by rw [d];exact g
 rw [←d,tt (by omega),Int.tdiv_eq_ediv_of_nonneg (by omega),j,aQ]
theorem ajD(hT:tab σ.piv=aa (YL σ sz))(Z:tab σ.v5=aa (zu σ sz))(F:tab σ.ZQ=aa (BQ σ sz))(I:tab σ.ord=aa (xZ σ sz))(v:Cv tab cv W c){n a e:Nat}(M:rows.length=n)(hl:n≤1000000000)(m:RB H b sz ep rows)(K:bR sz rows)(J:∀ r ∈ rows,W r)(b9:a+8≤e)(c9:e≤n) :
  ∃ r H',Ev tab (.fn σ.piv) [.c (.sl b 0 n 0 ep sz),vi a,vi e,cv] H r H'∧((∃(q:Nat) (h:Int),r=.t [vi q,vi h]∧a≤q∧q<e)∧Kp H H'):=by
 obtain⟨L,rfl⟩:∃ L,e=a+L:=⟨e-a,by omega⟩
 obtain⟨d,hd⟩:=aO (L / 4);have N:bS .quo (vi (L:Int)) (vi 4)=aa (vi (d:Int)):=by
  have:=afb (a:=L) (b:=4) (by omega) (by omega);rw [hd];exact this
 have b_:=m.lt;have hw:IntKind.i64.wrap ((a:Int)+L-a)=L:=by rw [aQ];omega
 refine dn hT rfl fun Q hQ=>?_;have O:∀(t:T) (s:aj) (q:Nat),t.g 11=.c (.ptr H.length 0 0)→t.g 13=vi q→a≤q→q<a+L→NB s H.length→Kp H s→WP tab σ.piv ab [.code (Et)] ⟨t,[],s⟩ Q:=by
  intro t s q u l X Y ⟨k,hk⟩ g;apply ai;simp [u,hk];refine aB ?_;apply ai;simp;by_cases k1:k=0
  ·refine ak (by simp [k1]) (ai ?_);simp [l];exact aJ (hQ _ _ (.t [vi q,vi 1]) rfl (by simp [Km.results,ba]) ⟨⟨q,1,rfl,X,Y⟩,g⟩)
  refine al (by simp [k1]) ?_;apply ai;simp;by_cases k2:k=12
  ·refine ak (by simp [k2]) (ai ?_);simp [l];exact aJ (hQ _ _ (.t [vi q,vi 2]) rfl (by simp [Km.results,ba]) ⟨⟨q,2,rfl,X,Y⟩,g⟩)
  refine al (by simp [k2]) ?_;apply ai;simp [l];exact aJ (hQ _ _ (.t [vi q,vi 0]) rfl (by simp [Km.results,ba]) ⟨⟨q,0,rfl,X,Y⟩,g⟩)
 have mid:∀(t:T) (s:aj) (i j k:Nat),t.g 0=.c (.sl b 0 n 0 ep sz)→t.g 3=cv→t.g 11=.c (.ptr H.length 0 0)→t.g 12=vi i→t.g 13=vi j→t.g 14=vi k→a≤i→i<a+L→a≤j→j<a+L→a≤k→k<a+L→NB s H.length→Kp H s →
   WP tab σ.piv ab [.code (YK σ),.code (Et)] ⟨t,[],s⟩ Q:=by
  intro t s i j k g0 g3 u S l U i1 i2 j1 j2 k1 k2 x g;obtain⟨r,H3,he,⟨q,rfl,N⟩,hf,a8⟩:=X_ (p:=H.length) (i:=i) (j:=j) (k:=k) F I v M (g.rb m) K J (by omega) (by omega) (by omega) x (by omega);have he:=he.eq;refine av (.inl rfl) ?_;simp [g0,g3,u,S,l,U,he];exact O _ H3 q (by simp [u]) (by simp) (by omega) (by omega) a8 (g.next (OF _) hf)
 apply ai;simp;apply ai;simp [hw];apply ai;simp;apply ai;simp [N,aQ (n:=(d:Int)),aQ (n:=(a:Int)+d)];apply ai;simp [N,aQ (n:=(d:Int)*2),aQ (n:=(a:Int)+d*2)];apply ai;simp [N,aQ (n:=(d:Int)*3),aQ (n:=(a:Int)+d*3)];apply aq;apply ai;simp;refine ak (by simp;omega) ?_;apply aq;apply ai;simp;have x:NB (H++[.box [.f (fi 0)] 0]) H.length:=⟨0,by simp⟩
 have g:Kp H (H++[.box [.f (fi 0)] 0]):=Kp.push _ _;by_cases a_:50≤L
 case neg=>
  refine al (by simp;omega) (aL ?_);exact mid _ _ (a+d) (a+d*2) (a+d*3) (by simp) (by simp) (by simp) (by simp) (by simp) (by simp) (by omega) (by omega) (by omega) (by omega) (by omega) (by omega) x g
 refine ak (by simp;omega) ?_;obtain⟨r1,H1,A,⟨q1,rfl,c_⟩,f1,b1⟩:=zv (p:=H.length) (i:=a+d) Z F I v M hl (g.rb m) K J (by omega) (by omega) x (by omega);have y:=g.next (OF _) f1;obtain⟨r2,s,B,⟨q2,rfl,d3⟩,f2,b2⟩:=zv (p:=H.length) (i:=a+d*2) Z F I v M hl (y.rb m) K J (by omega) (by omega) b1 (by omega);have z:=y.next (OF _) f2;obtain⟨r3,H3,E,⟨q3,rfl,d5⟩,f3,b3⟩:=zv (p:=H.length) (i:=a+d*3) Z F I v M hl (z.rb m) K J (by omega) (by omega) b2 (by omega);have a9:=z.next (OF _) f3;have A:=A.eq;have B:=B.eq;have E:=E.eq;simp at A B E;apply ai;simp [A];apply ai;simp [B];refine av (.inl rfl) ?_;simp [E];exact mid _ _ q1 q2 q3 (by simp) (by simp) (by simp) (by simp) (by simp) (by simp) (by omega) (by omega) (by omega) (by omega) (by omega) (by omega) b3 a9
end
end
section
open Go
section
variable{tab:Nat→Option aE}{σ:km}{sz:Nat}{cv:V}{W:List FC→Prop}{c:List FC→List FC→Int}
theorem Yw{n a e i j ep b:Nat}{rows:List (List FC)}{p:List FC}{H0:aj}{k:List cA}{Q:Option az→St→Prop}(S:Cv tab cv W c)(hn:rows.length=n)(hl:n≤1000000000)(hg:bR sz rows)(hW:∀ r ∈ rows,W r)
  {t:T} {H:aj} (a8:a<i) (a_:i≤j+1) (b9:j<e) (a9:e≤n) (hp:rows[a]?=aa p)
  (A:t.g 0=.c (.sl b 0 n 0 ep sz)) (B:t.g 1=vi a) (E:t.g 4=cv) (v:t.g 12=vi i) (u:t.g 13=vi j) (l:Fm b H0 H) (g:RB H b sz ep rows)
  (next:∀(t:T) (H:aj) (K:Nat),(i≤K∧K≤j+1)→(∀(q:Nat) x,i≤q→q<K→rows[q]?=aa x→c x p<0)→(j<K∨∀ x,rows[K]?=aa x→¬ c x p<0) →
   t.g 0=.c (.sl b 0 n 0 ep sz)→t.g 1=vi a→t.g 4=cv→t.g 12=vi K→t.g 13=vi j→Fm b H0 H→RB H b sz ep rows→WP tab σ.part ab k ⟨t,[],H⟩ Q) :
  WP tab σ.part ab (.code (Yt sz)::k) ⟨t,[],H⟩ Q:=by
 refine aB ?_;refine bI (fun m s=>∃(q:Nat) (t:T) (N:aj),s=⟨t,[],N⟩∧(q+m=j+1∧i≤q)∧(∀(r:Nat) x,i≤r→r<q→rows[r]?=aa x→c x p<0) ∧
   t.g 0=.c (.sl b 0 n 0 ep sz)∧t.g 1=vi a∧t.g 4=cv∧t.g 12=vi q∧t.g 13=vi j∧Fm b H0 N∧RB N b sz ep rows) (j+1-i)
  ⟨i,_,H,rfl,by omega,fun r x Y Z=>by omega,A,B,E,v,u,l,g⟩ ?_
 rintro m s ⟨q,t,N,rfl,hm,d,A,B,E,v,u,l,g⟩ ih;apply aq;apply ai;by_cases M:q≤j
 case neg=>
  simp [v,u,M];refine al (by simp) ?_;refine bq (k':=k) rfl ?_;exact next _ _ q (by omega) d (.inl (by omega)) (by simp [A]) (by simp [B]) (by simp [E]) (by simp [v]) (by simp [u]) l g
 obtain⟨x,y,F,ar,J,U,X,i1,j1,l1,l2,L,he,-,-⟩:=g.ask hg S hW hn (i:=q) (j:=a) (by omega) (by omega);simp [v,u,M,A,B,E,i1,j1,l1,l2,L,he,-an];have ep:p=y:=by rw [hp]at X;exact as1 X
 subst ep;by_cases O:c x p<0
 case neg=>
  refine al (by simp [O]) ?_;refine bq (k':=k) rfl ?_;refine next _ _ q (by omega) d (.inr fun z I=>?_) (by simp [A]) (by simp [B]) (by simp [E]) (by simp [v]) (by simp [u]) (l.trans (Fm.push _ _)) (g.push _)
  rw [U]at I;cases I;exact O
 refine ak (by simp [O]) (aL ?_);refine aB (av (.inl rfl) ?_);simp [v,u,aQ (n:=(q:Int)+1)];refine aw (ih (m-1) _ (by omega) ⟨q+1,_,_,rfl,by omega,fun r z Y Z I=>?_,by simp [A],by simp [B],by simp [E],by simp,by simp [u],l.trans (Fm.push _ _),g.push _⟩);by_cases hr:r=q
 ·subst hr;rw [U]at I;cases I;exact O
 ·exact d r z (by omega) (by omega) I
theorem Yu{n a e i j ep b:Nat}{rows:List (List FC)}{p:List FC}{H0:aj}{k:List cA}{Q:Option az→St→Prop}(S:Cv tab cv W c)(hn:rows.length=n)(hl:n≤1000000000)(hg:bR sz rows)(hW:∀ r ∈ rows,W r)
  {t:T} {H:aj} (a8:a<i) (a_:i≤j+1) (b9:j<e) (a9:e≤n) (hp:rows[a]?=aa p)
  (A:t.g 0=.c (.sl b 0 n 0 ep sz)) (B:t.g 1=vi a) (E:t.g 4=cv) (u:t.g 12=vi i) (v:t.g 13=vi j) (l:Fm b H0 H) (g:RB H b sz ep rows)
  (next:∀(t:T) (H:aj) (K:Nat),(K≤j∧i≤K+1)→(∀(q:Nat) x,K<q→q≤j→rows[q]?=aa x→¬ c x p<0)→(K<i∨∀ x,rows[K]?=aa x→¬ ¬ c x p<0) →
   t.g 0=.c (.sl b 0 n 0 ep sz)→t.g 1=vi a→t.g 4=cv→t.g 12=vi i→t.g 13=vi K→Fm b H0 H→RB H b sz ep rows→WP tab σ.part ab k ⟨t,[],H⟩ Q) :
  WP tab σ.part ab (.code (F2 sz)::k) ⟨t,[],H⟩ Q:=by
 refine aB ?_;refine bI (fun m s=>∃(q:Nat) (t:T) (N:aj),s=⟨t,[],N⟩∧(q+1=i+m∧q≤j)∧(∀(r:Nat) x,q<r→r≤j→rows[r]?=aa x→¬ c x p<0) ∧
   t.g 0=.c (.sl b 0 n 0 ep sz)∧t.g 1=vi a∧t.g 4=cv∧t.g 12=vi i∧t.g 13=vi q∧Fm b H0 N∧RB N b sz ep rows) (j+1-i)
  ⟨j,_,H,rfl,by omega,fun r x Y Z=>by omega,A,B,E,u,v,l,g⟩ ?_
 rintro m s ⟨q,t,N,rfl,hm,d,A,B,E,u,v,l,g⟩ ih;apply aq;apply ai;by_cases M:i≤q
 case neg=>
  simp [u,v,M];refine al (by simp) ?_;refine bq (k':=k) rfl ?_;exact next _ _ q (by omega) d (.inl (by omega)) (by simp [A]) (by simp [B]) (by simp [E]) (by simp [u]) (by simp [v]) l g
 obtain⟨x,y,F,ar,J,U,X,i1,j1,l1,l2,L,he,-,-⟩:=g.ask hg S hW hn (i:=q) (j:=a) (by omega) (by omega);simp [u,v,M,A,B,E,i1,j1,l1,l2,L,he,-an];have ep:p=y:=by rw [hp]at X;exact as1 X
 subst ep;by_cases O:c x p<0
 case pos=>
  refine al (by simp [O]) ?_;refine bq (k':=k) rfl ?_;refine next _ _ q (by omega) d (.inr fun z I=>?_) (by simp [A]) (by simp [B]) (by simp [E]) (by simp [u]) (by simp [v]) (l.trans (Fm.push _ _)) (g.push _)
  rw [U]at I;cases I;exact fun h=>h O
 refine ak (by simp [O]) (aL ?_);refine aB (av (.inl rfl) ?_);simp [u,v,aQ (n:=(q:Int)-1)];refine aw (ih (m-1) _ (by omega) ⟨q-1,_,_,rfl,by omega,fun r z Y Z I=>?_,by simp [A],by simp [B],by simp [E],by simp [u],by simp;omega,l.trans (Fm.push _ _),g.push _⟩);by_cases hr:r=q
 ·subst hr;rw [U]at I;cases I;exact O
 ·exact d r z (by omega) (by omega) I
theorem Yx{n a e i j ep b:Nat}{rows:List (List FC)}{p:List FC}{H0:aj}{k:List cA}{Q:Option az→St→Prop}(S:Cv tab cv W c)(hn:rows.length=n)(hl:n≤1000000000)(hg:bR sz rows)(hW:∀ r ∈ rows,W r)
  {t:T} {H:aj} (a8:a<i) (a_:i≤j+1) (b9:j<e) (a9:e≤n) (hp:rows[a]?=aa p)
  (A:t.g 0=.c (.sl b 0 n 0 ep sz)) (B:t.g 1=vi a) (E:t.g 4=cv) (v:t.g 12=vi i) (u:t.g 13=vi j) (l:Fm b H0 H) (g:RB H b sz ep rows)
  (next:∀(t:T) (H:aj) (K:Nat),(i≤K∧K≤j+1)→(∀(q:Nat) x,i≤q→q<K→rows[q]?=aa x→c x p<0)→(j<K∨∀ x,rows[K]?=aa x→¬ c x p<0) →
   t.g 0=.c (.sl b 0 n 0 ep sz)→t.g 1=vi a→t.g 4=cv→t.g 12=vi K→t.g 13=vi j→Fm b H0 H→RB H b sz ep rows→WP tab σ.part ab k ⟨t,[],H⟩ Q) :
  WP tab σ.part ab (.code (F3 sz)::k) ⟨t,[],H⟩ Q:=by
 refine aB ?_;refine bI (fun m s=>∃(q:Nat) (t:T) (N:aj),s=⟨t,[],N⟩∧(q+m=j+1∧i≤q)∧(∀(r:Nat) x,i≤r→r<q→rows[r]?=aa x→c x p<0) ∧
   t.g 0=.c (.sl b 0 n 0 ep sz)∧t.g 1=vi a∧t.g 4=cv∧t.g 12=vi q∧t.g 13=vi j∧Fm b H0 N∧RB N b sz ep rows) (j+1-i)
  ⟨i,_,H,rfl,by omega,fun r x Y Z=>by omega,A,B,E,v,u,l,g⟩ ?_
 rintro m s ⟨q,t,N,rfl,hm,d,A,B,E,v,u,l,g⟩ ih;apply aq;apply ai;by_cases M:q≤j
 case neg=>
  simp [v,u,M];refine al (by simp) ?_;refine bq (k':=k) rfl ?_;exact next _ _ q (by omega) d (.inl (by omega)) (by simp [A]) (by simp [B]) (by simp [E]) (by simp [v]) (by simp [u]) l g
 obtain⟨x,y,F,ar,J,U,X,i1,j1,l1,l2,L,he,-,-⟩:=g.ask hg S hW hn (i:=q) (j:=a) (by omega) (by omega);simp [v,u,M,A,B,E,i1,j1,l1,l2,L,he,-an];have ep:p=y:=by rw [hp]at X;exact as1 X
 subst ep;by_cases O:c x p<0
 case neg=>
  refine al (by simp [O]) ?_;refine bq (k':=k) rfl ?_;refine next _ _ q (by omega) d (.inr fun z I=>?_) (by simp [A]) (by simp [B]) (by simp [E]) (by simp [v]) (by simp [u]) (l.trans (Fm.push _ _)) (g.push _)
  rw [U]at I;cases I;exact O
 refine ak (by simp [O]) (aL ?_);refine aB (av (.inl rfl) ?_);simp [v,u,aQ (n:=(q:Int)+1)];refine aw (ih (m-1) _ (by omega) ⟨q+1,_,_,rfl,by omega,fun r z Y Z I=>?_,by simp [A],by simp [B],by simp [E],by simp,by simp [u],l.trans (Fm.push _ _),g.push _⟩);by_cases hr:r=q
 ·subst hr;rw [U]at I;cases I;exact O
 ·exact d r z (by omega) (by omega) I
theorem Yv{n a e i j ep b:Nat}{rows:List (List FC)}{p:List FC}{H0:aj}{k:List cA}{Q:Option az→St→Prop}(S:Cv tab cv W c)(hn:rows.length=n)(hl:n≤1000000000)(hg:bR sz rows)(hW:∀ r ∈ rows,W r)
  {t:T} {H:aj} (a8:a<i) (a_:i≤j+1) (b9:j<e) (a9:e≤n) (hp:rows[a]?=aa p)
  (A:t.g 0=.c (.sl b 0 n 0 ep sz)) (B:t.g 1=vi a) (E:t.g 4=cv) (u:t.g 12=vi i) (v:t.g 13=vi j) (l:Fm b H0 H) (g:RB H b sz ep rows)
  (next:∀(t:T) (H:aj) (K:Nat),(K≤j∧i≤K+1)→(∀(q:Nat) x,K<q→q≤j→rows[q]?=aa x→¬ c x p<0)→(K<i∨∀ x,rows[K]?=aa x→¬ ¬ c x p<0) →
   t.g 0=.c (.sl b 0 n 0 ep sz)→t.g 1=vi a→t.g 4=cv→t.g 12=vi i→t.g 13=vi K→Fm b H0 H→RB H b sz ep rows→WP tab σ.part ab k ⟨t,[],H⟩ Q) :
  WP tab σ.part ab (.code (F4 sz)::k) ⟨t,[],H⟩ Q:=by
 refine aB ?_;refine bI (fun m s=>∃(q:Nat) (t:T) (N:aj),s=⟨t,[],N⟩∧(q+1=i+m∧q≤j)∧(∀(r:Nat) x,q<r→r≤j→rows[r]?=aa x→¬ c x p<0) ∧
   t.g 0=.c (.sl b 0 n 0 ep sz)∧t.g 1=vi a∧t.g 4=cv∧t.g 12=vi i∧t.g 13=vi q∧Fm b H0 N∧RB N b sz ep rows) (j+1-i)
  ⟨j,_,H,rfl,by omega,fun r x Y Z=>by omega,A,B,E,u,v,l,g⟩ ?_
 rintro m s ⟨q,t,N,rfl,hm,d,A,B,E,u,v,l,g⟩ ih;apply aq;apply ai;by_cases M:i≤q
 case neg=>
  simp [u,v,M];refine al (by simp) ?_;refine bq (k':=k) rfl ?_;exact next _ _ q (by omega) d (.inl (by omega)) (by simp [A]) (by simp [B]) (by simp [E]) (by simp [u]) (by simp [v]) l g
 obtain⟨x,y,F,ar,J,U,X,i1,j1,l1,l2,L,he,-,-⟩:=g.ask hg S hW hn (i:=q) (j:=a) (by omega) (by omega);simp [u,v,M,A,B,E,i1,j1,l1,l2,L,he,-an];have ep:p=y:=by rw [hp]at X;exact as1 X
 subst ep;by_cases O:c x p<0
 case pos=>
  refine al (by simp [O]) ?_;refine bq (k':=k) rfl ?_;refine next _ _ q (by omega) d (.inr fun z I=>?_) (by simp [A]) (by simp [B]) (by simp [E]) (by simp [u]) (by simp [v]) (l.trans (Fm.push _ _)) (g.push _)
  rw [U]at I;cases I;exact fun h=>h O
 refine ak (by simp [O]) (aL ?_);refine aB (av (.inl rfl) ?_);simp [u,v,aQ (n:=(q:Int)-1)];refine aw (ih (m-1) _ (by omega) ⟨q-1,_,_,rfl,by omega,fun r z Y Z I=>?_,by simp [A],by simp [B],by simp [E],by simp [u],by simp;omega,l.trans (Fm.push _ _),g.push _⟩);by_cases hr:r=q
 ·subst hr;rw [U]at I;cases I;exact O
 ·exact d r z (by omega) (by omega) I
theorem ajo{n a e i j ep b:Nat}{rows:List (List FC)}{p:List FC}{H0:aj}{k:List cA}{Q:Option az→St→Prop}(S:Cv tab cv W c)(hn:rows.length=n)(hl:n≤1000000000)(hg:bR sz rows)(hW:∀ r ∈ rows,W r)
  {t:T} {H:aj} (a8:a<i) (a_:i≤j+1) (b9:j<e) (a9:e≤n) (hp:rows[a]?=aa p)
  (A:t.g 0=.c (.sl b 0 n 0 ep sz)) (B:t.g 1=vi a) (E:t.g 4=cv) (v:t.g 11=vi i) (u:t.g 12=vi j) (l:Fm b H0 H) (g:RB H b sz ep rows)
  (next:∀(t:T) (H:aj) (K:Nat),(i≤K∧K≤j+1)→(∀(q:Nat) x,i≤q→q<K→rows[q]?=aa x→¬ c p x<0)→(j<K∨∀ x,rows[K]?=aa x→¬ ¬ c p x<0) →
   t.g 0=.c (.sl b 0 n 0 ep sz)→t.g 1=vi a→t.g 4=cv→t.g 11=vi K→t.g 12=vi j→Fm b H0 H→RB H b sz ep rows→WP tab σ.YE ab k ⟨t,[],H⟩ Q) :
  WP tab σ.YE ab (.code (YF sz)::k) ⟨t,[],H⟩ Q:=by
 refine aB ?_;refine bI (fun m s=>∃(q:Nat) (t:T) (N:aj),s=⟨t,[],N⟩∧(q+m=j+1∧i≤q)∧(∀(r:Nat) x,i≤r→r<q→rows[r]?=aa x→¬ c p x<0) ∧
   t.g 0=.c (.sl b 0 n 0 ep sz)∧t.g 1=vi a∧t.g 4=cv∧t.g 11=vi q∧t.g 12=vi j∧Fm b H0 N∧RB N b sz ep rows) (j+1-i)
  ⟨i,_,H,rfl,by omega,fun r x Y Z=>by omega,A,B,E,v,u,l,g⟩ ?_
 rintro m s ⟨q,t,N,rfl,hm,d,A,B,E,v,u,l,g⟩ ih;apply aq;apply ai;by_cases M:q≤j
 case neg=>
  simp [v,u,M];refine al (by simp) ?_;refine bq (k':=k) rfl ?_;exact next _ _ q (by omega) d (.inl (by omega)) (by simp [A]) (by simp [B]) (by simp [E]) (by simp [v]) (by simp [u]) l g
 obtain⟨x,y,F,ar,J,U,X,i1,j1,l1,l2,L,he,-,-⟩:=g.ask hg S hW hn (i:=a) (j:=q) (by omega) (by omega);simp [v,u,M,A,B,E,i1,j1,l1,l2,L,he,-an];have ep:p=x:=by rw [hp]at U;exact as1 U
 subst ep;by_cases O:c p y<0
 case pos=>
  refine al (by simp [O]) ?_;refine bq (k':=k) rfl ?_;refine next _ _ q (by omega) d (.inr fun z I=>?_) (by simp [A]) (by simp [B]) (by simp [E]) (by simp [v]) (by simp [u]) (l.trans (Fm.push _ _)) (g.push _)
  rw [X]at I;cases I;exact fun h=>h O
 refine ak (by simp [O]) (aL ?_);refine aB (av (.inl rfl) ?_);simp [v,u,aQ (n:=(q:Int)+1)];refine aw (ih (m-1) _ (by omega) ⟨q+1,_,_,rfl,by omega,fun r z Y Z I=>?_,by simp [A],by simp [B],by simp [E],by simp,by simp [u],l.trans (Fm.push _ _),g.push _⟩);by_cases hr:r=q
 ·subst hr;rw [X]at I;cases I;exact O
 ·exact d r z (by omega) (by omega) I
theorem ajm{n a e i j ep b:Nat}{rows:List (List FC)}{p:List FC}{H0:aj}{k:List cA}{Q:Option az→St→Prop}(S:Cv tab cv W c)(hn:rows.length=n)(hl:n≤1000000000)(hg:bR sz rows)(hW:∀ r ∈ rows,W r)
  {t:T} {H:aj} (a8:a<i) (a_:i≤j+1) (b9:j<e) (a9:e≤n) (hp:rows[a]?=aa p)
  (A:t.g 0=.c (.sl b 0 n 0 ep sz)) (B:t.g 1=vi a) (E:t.g 4=cv) (u:t.g 11=vi i) (v:t.g 12=vi j) (l:Fm b H0 H) (g:RB H b sz ep rows)
  (next:∀(t:T) (H:aj) (K:Nat),(K≤j∧i≤K+1)→(∀(q:Nat) x,K<q→q≤j→rows[q]?=aa x→c p x<0)→(K<i∨∀ x,rows[K]?=aa x→¬ c p x<0) →
   t.g 0=.c (.sl b 0 n 0 ep sz)→t.g 1=vi a→t.g 4=cv→t.g 11=vi i→t.g 12=vi K→Fm b H0 H→RB H b sz ep rows→WP tab σ.YE ab k ⟨t,[],H⟩ Q) :
  WP tab σ.YE ab (.code (YG sz)::k) ⟨t,[],H⟩ Q:=by
 refine aB ?_;refine bI (fun m s=>∃(q:Nat) (t:T) (N:aj),s=⟨t,[],N⟩∧(q+1=i+m∧q≤j)∧(∀(r:Nat) x,q<r→r≤j→rows[r]?=aa x→c p x<0) ∧
   t.g 0=.c (.sl b 0 n 0 ep sz)∧t.g 1=vi a∧t.g 4=cv∧t.g 11=vi i∧t.g 12=vi q∧Fm b H0 N∧RB N b sz ep rows) (j+1-i)
  ⟨j,_,H,rfl,by omega,fun r x Y Z=>by omega,A,B,E,u,v,l,g⟩ ?_
 rintro m s ⟨q,t,N,rfl,hm,d,A,B,E,u,v,l,g⟩ ih;apply aq;apply ai;by_cases M:i≤q
 case neg=>
  simp [u,v,M];refine al (by simp) ?_;refine bq (k':=k) rfl ?_;exact next _ _ q (by omega) d (.inl (by omega)) (by simp [A]) (by simp [B]) (by simp [E]) (by simp [u]) (by simp [v]) l g
 obtain⟨x,y,F,ar,J,U,X,i1,j1,l1,l2,L,he,-,-⟩:=g.ask hg S hW hn (i:=a) (j:=q) (by omega) (by omega);simp [u,v,M,A,B,E,i1,j1,l1,l2,L,he,-an];have ep:p=x:=by rw [hp]at U;exact as1 U
 subst ep;by_cases O:c p y<0
 case neg=>
  refine al (by simp [O]) ?_;refine bq (k':=k) rfl ?_;refine next _ _ q (by omega) d (.inr fun z I=>?_) (by simp [A]) (by simp [B]) (by simp [E]) (by simp [u]) (by simp [v]) (l.trans (Fm.push _ _)) (g.push _)
  rw [X]at I;cases I;exact O
 refine ak (by simp [O]) (aL ?_);refine aB (av (.inl rfl) ?_);simp [u,v,aQ (n:=(q:Int)-1)];refine aw (ih (m-1) _ (by omega) ⟨q-1,_,_,rfl,by omega,fun r z Y Z I=>?_,by simp [A],by simp [B],by simp [E],by simp [u],by simp;omega,l.trans (Fm.push _ _),g.push _⟩);by_cases hr:r=q
 ·subst hr;rw [X]at I;cases I;exact O
 ·exact d r z (by omega) (by omega) I
def vT(c:List FC→List FC→Int)(a i j e:Nat)(p:List FC)(l:List (List FC)):Prop:=
 l[a]?=aa p∧(∀(k:Nat) x,a<k→k<i→l[k]?=aa x→c x p<0)∧(∀(k:Nat) x,j<k→k<e→l[k]?=aa x→¬ c x p<0)
def mZ(c:List FC→List FC→Int)(a e m:Nat)(l:List (List FC)):Prop:=
 ∃ p,l[m]?=aa p∧(∀(k:Nat) x,a≤k→k<m→l[k]?=aa x→c x p<0)∧(∀(k:Nat) x,m<k→k<e→l[k]?=aa x→¬ c x p<0)
theorem vT.swap{a i j e:Nat}{p:List FC}{l:List (List FC)}(h:vT c a i j e p l)(y:a<i)(z:i<j)(d:j<l.length)(hi:∀ x,l[i]?=aa x→¬ c x p<0)(A:∀ x,l[j]?=aa x→c x p<0):vT c a (i+1) (j-1) e p (iG l i j):=by
 obtain⟨s,u,v⟩:=h;have g:∀ k,(iG l i j)[k]?=if k=j then l[i]? else if k=i then l[j]? else l[k]?:=fun k=>gG (by omega) d k;refine⟨?_,fun k x m q b=>?_,fun k x m q b=>?_⟩
 ·rw [g,aZ (by omega),aZ (by omega)];exact s
 ·rw [g,aZ (by omega)]at b;by_cases e:k=i
  ·rw [bp e]at b;exact A x b
  ·rw [aZ e]at b;exact u k x m (by omega) b
 ·rw [g]at b;by_cases e:k=j
  ·rw [bp e]at b;exact hi x b
  ·rw [aZ e,aZ (by omega)]at b;exact v k x (by omega) q b
theorem vT.done{a i j e:Nat}{p:List FC}{l:List (List FC)}(h:vT c a i j e p l)(y:a≤j)(z:i=j+1)(d:j<l.length):mZ c a e j (iG l j a):=by
 obtain⟨m,q,v⟩:=h;have g:∀ k,(iG l j a)[k]?=if k=a then l[j]? else if k=j then l[a]? else l[k]?:=fun k=>gG d (by omega) k;refine⟨p,?_,fun k x s u b=>?_,fun k x s u b=>?_⟩
 ·rw [g];by_cases e:j=a
  ·rw [bp e,e];exact m
  ·rw [aZ e,bp rfl];exact m
 ·rw [g]at b;by_cases e:k=a
  ·rw [bp e]at b;exact q j x (by omega) (by omega) b
  ·rw [aZ e,aZ (by omega)]at b;exact q k x (by omega) (by omega) b
 ·rw [g,aZ (by omega),aZ (by omega)]at b;exact v k x s u b
theorem tH{H:aj}{rows:List (List FC)}{n a e v b ep:Nat}(hT:tab σ.part=aa (En σ sz))(a9:Cv tab cv W c)(hn:rows.length=n)(hl:n≤1000000000)(g:RB H b sz ep rows)(hg:bR sz rows)(hW:∀ r ∈ rows,W r)(d7:a<e)(a_:e≤n)(d8:a≤v)(d9:v<e) :
  ∃ r H',Ev tab (.fn σ.part) [.c (.sl b 0 n 0 ep sz),vi a,vi e,vi v,cv] H r H'∧((∃(m:Nat) (w:Bool),r=.t [vi m,vb w]∧a≤m∧m<e∧Fm b H H'∧∃ l',RB H' b sz ep l'∧ew a e rows l'∧mZ c a e m l')):=by
 refine dn hT rfl fun Q hQ=>?_;obtain⟨d,rfl⟩:∃ d,e=d+1:=⟨e-1,by omega⟩
 obtain⟨x,p,H1,H2,F,hp,i1,j1,l1,l2,w1,w2,s1,j2,s2,r2,f2⟩:=g.iG hg hn (i:=a) (j:=v) (by omega) (by omega);have B:ew a (d+1) rows (iG rows a v):=eV (by omega) (by omega) (by omega) (by omega) (by omega);have b9:vT c a (a+1) d (d+1) p (iG rows a v):=by
  refine⟨?_,fun k x k1 k2=>by omega,fun k x k1 k2=>by omega⟩;rw [gG (by omega) (by omega)];by_cases e:a=v
  ·rw [bp e,e];exact hp
  ·rw [aZ e,bp rfl];exact hp
 apply ai;simp;apply ai;simp [i1,j1,l1,l2,w1,w2,s1,j2,s2,-an,-bh];apply ai;simp [aQ (n:=(a:Int)+1),aQ (n:=(d:Int))];apply aq;have I:∀(w:Bool) (t:T) (H3:aj) (l:List (List FC)) (i j:Nat),a≤j→j<d+1→i=j+1→vT c a i j (d+1) p l→ew a (d+1) rows l→Fm b H H3→RB H3 b sz ep l →
   ∃(x y:List FC) (H4 H5:aj),aP H3 sz ab (.c (.sl b 0 n 0 ep sz)) (vi j)=aa (.c (.ptr b (j*sz) ep))∧aP H3 sz ab (.c (.sl b 0 n 0 ep sz)) (vi a)=aa (.c (.ptr b (a*sz) ep)) ∧
    aU H3 (aa sz) (.c (.ptr b (j*sz) ep))=aa (.a (x.map .f))∧aU H3 (aa sz) (.c (.ptr b (a*sz) ep))=aa (.a (y.map .f))∧x.length=sz∧y.length=sz ∧
    cE H3 (.ptr b (j*sz) ep) (y.map .f)=aa H4∧aP H4 sz ab (.c (.sl b 0 n 0 ep sz)) (vi a)=aa (.c (.ptr b (a*sz) ep))∧cE H4 (.ptr b (a*sz) ep) (x.map .f)=aa H5 ∧
    (a≤j∧j<d+1∧Fm b H H5∧∃ l',RB H5 b sz ep l'∧ew a (d+1) rows l'∧mZ c a (d+1) j l'):=by
  intro w t H3 l i j h1 h2 h3 O u q g;have M:=u.len;obtain⟨x,y,H4,H5,-,-,i1,j1,l1,l2,w1,w2,s1,j2,s2,r2,f2⟩:=g.iG (u.s7 hg) (M.trans hn) (i:=j) (j:=a) (by omega) (by omega);exact⟨x,y,H4,H5,i1,j1,l1,l2,w1,w2,s1,j2,s2,h1,h2,q.trans f2,_,r2,u.trans (eV (by omega) (by omega) (by omega) (by omega) (by omega)),O.done h1 h3 (by omega)⟩
 have E:∀ {l},ew a (d+1) rows l→bR sz l:=fun h=>h.s7 hg;have U:∀ {l},ew a (d+1) rows l→∀ r ∈ l,W r:=fun h r hr=>hW r (h.1.mem_iff.1 hr);refine Yw a9 (B.len.trans hn) hl (E B) (U B) (i:=a+1) (j:=d) (e:=d+1) (H0:=H) (by omega) (by omega) (by omega) a_ b9.1 (by simp) (by simp) (by simp) (by simp) (by simp) f2 r2 ?_;intro t H3 z c9 N S X Z g4 Y L q g;apply aq;refine Yu a9 (B.len.trans hn) hl (E B) (U B) (i:=z) (j:=d) (e:=d+1) (H0:=H) (by omega) (by omega) (by omega) a_ b9.1 X Z g4 Y L q g ?_;intro t H4 A d3 J K X Z g4 Y L q g;have a8:vT c a z A (d+1) p (iG rows a v):=⟨b9.1,fun k x k1 k2 F=>N k x (by omega) k2 F,fun k x k1 k2 F=>J k x k1 (by omega) F⟩
 apply aq;apply ai;simp [Y,L];by_cases o:A<z
 ·obtain⟨x,y,H5,H6,i1,j1,l1,l2,w1,w2,s1,j2,s2,f⟩:=I ae t H4 _ z A (by omega) (by omega) (by omega) a8 B q g;refine ak (by simp [o]) (ai ?_);simp [X,Z,L,i1,j1,l1,l2,w1,w2,s1,j2,s2,-an,-bh];apply ai;simp [L];exact aJ (hQ _ _ (.t [vi A,vb ae]) rfl (by simp [Km.results,ba]) ⟨A,ae,rfl,f⟩)
 refine a5 (by simp [o]) ?_;have ni:∀ x,(iG rows a v)[z]?=aa x→¬ c x p<0:=by
  rcases S with h | h
  ·omega
  ·exact h
 have nj:∀ x,(iG rows a v)[A]?=aa x→c x p<0:=by
  rcases K with h | h
  ·omega
  ·exact fun x F=>Classical.not_not.1 (h x F)
 have d6:z≠A:=by
  rintro rfl;have F:=AT (l:=iG rows a v) (i:=z) (by rw [zZ];omega);exact ni _ F (nj _ F)
 obtain⟨x5,y5,H5,H6,-,-,i1,j1,l1,l2,w1,w2,s1,j2,s2,r5,f5⟩:=g.iG (E B) (B.len.trans hn) (i:=z) (j:=A) (by omega) (by omega);apply ai;simp [X,Y,L,i1,j1,l1,l2,w1,w2,s1,j2,s2,-an,-bh];apply ai;simp [Y,aQ (n:=(z:Int)+1)];apply ai;simp [L,aQ (n:=(A:Int)-1)];apply aq;refine aB ?_;refine bI (fun m s=>∃(i j:Nat) (t:T) (H1:aj) (l:List (List FC)),s=⟨t,[],H1⟩∧m=j+1-i∧a<i∧i≤j+1∧j<d+1∧t.g 0=.c (.sl b 0 n 0 ep sz)∧t.g 1=vi a∧t.g 4=cv∧t.g 12=vi i∧t.g 13=vi j ∧
   Fm b H H1∧RB H1 b sz ep l∧ew a (d+1) rows l∧vT c a i j (d+1) p l) _
  ⟨z+1,A-1,_,H6,_,rfl,rfl,by omega,by omega,by omega,by simp [X],by simp [Z],by simp [g4],by simp,by simp;omega,q.trans f5,r5,
   B.trans (eV (by omega) (by omega) (by omega) (by omega) (by rw [zZ];omega)),a8.swap (by omega) (by omega) (by rw [zZ];omega) ni nj⟩ ?_
 rintro m s ⟨i,j,t,H1,l,rfl,rfl,b_,c_,d5,X,Z,g4,Y,L,q,g,u,O⟩ ih;have M:=u.len;refine aB ?_;apply aq;refine Yx a9 (M.trans hn) hl (E u) (U u) (i:=i) (j:=j) (e:=d+1) (H0:=H) b_ c_ d5 a_ O.1 X Z g4 Y L q g ?_;intro t H3 z c9 N S X Z g4 Y L q g;apply aq;refine Yv a9 (M.trans hn) hl (E u) (U u) (i:=z) (j:=j) (e:=d+1) (H0:=H) (by omega) (by omega) (by omega) a_ O.1 X Z g4 Y L q g ?_;intro t H4 A d3 J K X Z g4 Y L q g;have a8:vT c a z A (d+1) p l:=⟨O.1,fun k x k1 k2 F=>by
   by_cases hk:k<i
   ·exact O.2.1 k x k1 hk F
   ·exact N k x (by omega) k2 F,fun k x k1 k2 F=>by
   by_cases hk:j<k
   ·exact O.2.2 k x hk k2 F
   ·exact J k x k1 (by omega) F⟩
 apply aq;apply ai;simp [Y,L];by_cases o:A<z
 ·obtain⟨x,y,H5,H6,i1,j1,l1,l2,w1,w2,s1,j2,s2,f⟩:=I ag t H4 _ z A (by omega) (by omega) (by omega) a8 u q g;refine ak (by simp [o]) ?_;refine bq (k':=[.code (F5 sz)]) rfl ?_;apply ai;simp [X,Z,L,i1,j1,l1,l2,w1,w2,s1,j2,s2,-an,-bh];apply ai;simp [L];exact aJ (hQ _ _ (.t [vi A,vb ag]) rfl (by simp [Km.results,ba]) ⟨A,ag,rfl,f⟩)
 refine a5 (by simp [o]) ?_;have ni:∀ x,l[z]?=aa x→¬ c x p<0:=by
  rcases S with h | h
  ·omega
  ·exact h
 have nj:∀ x,l[A]?=aa x→c x p<0:=by
  rcases K with h | h
  ·omega
  ·exact fun x F=>Classical.not_not.1 (h x F)
 have d6:z≠A:=by
  rintro rfl;have F:=AT (l:=l) (i:=z) (by omega);exact ni _ F (nj _ F)
 obtain⟨x5,y5,H5,H6,-,-,i1,j1,l1,l2,w1,w2,s1,j2,s2,r5,f5⟩:=g.iG (E u) (M.trans hn) (i:=z) (j:=A) (by omega) (by omega);apply ai;simp [X,Y,L,i1,j1,l1,l2,w1,w2,s1,j2,s2,-an,-bh];apply ai;simp [Y,aQ (n:=(z:Int)+1)];refine av (.inl rfl) ?_;simp [L,aQ (n:=(A:Int)-1)];exact aw (ih _ _ (by omega) ⟨z+1,A-1,_,H6,_,rfl,rfl,by omega,by omega,by omega,by simp [X],by simp [Z],by simp [g4],by simp,by simp;omega,q.trans f5,r5,
   u.trans (eV (by omega) (by omega) (by omega) (by omega) (by omega)),a8.swap (by omega) (by omega) (by omega) ni nj⟩)
end
end
section
open Go
section
variable{tab:Nat→Option aE}{σ:km}{sz:Nat}{cv:V}{W:List FC→Prop}{c:List FC→List FC→Int}
def La(c:List FC→List FC→Int)(a i j e:Nat)(p:List FC)(l:List (List FC)):Prop:=
 l[a]?=aa p∧(∀(k:Nat) x,a<k→k<i→l[k]?=aa x→¬ c p x<0)∧(∀(k:Nat) x,j<k→k<e→l[k]?=aa x→c p x<0)
theorem La.swap{a i j e:Nat}{p:List FC}{l:List (List FC)}(h:La c a i j e p l)(y:a<i)(z:i<j)(d:j<l.length)(hi:∀ x,l[i]?=aa x→c p x<0)(A:∀ x,l[j]?=aa x→¬ c p x<0):La c a (i+1) (j-1) e p (iG l i j):=by
 obtain⟨s,u,v⟩:=h;have g:∀ k,(iG l i j)[k]?=if k=j then l[i]? else if k=i then l[j]? else l[k]?:=fun k=>gG (by omega) d k;refine⟨?_,fun k x m q b=>?_,fun k x m q b=>?_⟩
 ·rw [g,aZ (by omega),aZ (by omega)];exact s
 ·rw [g,aZ (by omega)]at b;by_cases e:k=i
  ·rw [bp e]at b;exact A x b
  ·rw [aZ e]at b;exact u k x m (by omega) b
 ·rw [g]at b;by_cases e:k=j
  ·rw [bp e]at b;exact hi x b
  ·rw [aZ e,aZ (by omega)]at b;exact v k x (by omega) q b
theorem ajn{H:aj}{rows:List (List FC)}{n a e v b ep:Nat}{p:List FC}(hT:tab σ.YE=aa (YI σ sz))(a8:Cv tab cv W c)(c9:vO W c)(hn:rows.length=n)(hl:n≤1000000000)(g:RB H b sz ep rows)(hg:bR sz rows)(hW:∀ r ∈ rows,W r)(d7:a<e)(a9:e≤n)(d8:a≤v)(f9:v<e)(F:rows[v]?=aa p) :
  ∃ r H',Ev tab (.fn σ.YE) [.c (.sl b 0 n 0 ep sz),vi a,vi e,vi v,cv] H r H'∧((∃(m:Nat),r=vi m∧a<m∧m≤e∧Fm b H H'∧∃ l',RB H' b sz ep l'∧ew a e rows l'∧(∀(k:Nat) x,a≤k→k<m→l'[k]?=aa x→¬ c p x<0)∧(∀(k:Nat) x,m≤k→k<e→l'[k]?=aa x→c p x<0))):=by
 refine dn hT rfl fun Q hQ=>?_;obtain⟨d,rfl⟩:∃ d,e=d+1:=⟨e-1,by omega⟩
 obtain⟨x,p',H1,H2,I,b9,i1,j1,l1,l2,w1,w2,s1,j2,s2,r2,f2⟩:=g.iG hg hn (i:=a) (j:=v) (by omega) (by omega);obtain rfl:p=p':=by rw [F]at b9;exact as1 b9
 have Y:¬ c p p<0:=fun h=>c9.Ds (hW _ (arR F)) (hW _ (arR F)) h h;have d6:ew a (d+1) rows (iG rows a v):=eV (by omega) (by omega) (by omega) (by omega) (by omega);have d5:La c a (a+1) d (d+1) p (iG rows a v):=by
  refine⟨?_,fun k x o M=>by omega,fun k x o M=>by omega⟩;rw [gG (by omega) (by omega)];by_cases e:a=v
  ·rw [bp e,e];exact F
  ·rw [aZ e,bp rfl];exact F
 apply ai;simp;apply ai;simp [i1,j1,l1,l2,w1,w2,s1,j2,s2,-an,-bh];apply ai;simp [aQ (n:=(a:Int)+1),aQ (n:=(d:Int))];apply aq;have A:∀ {l},ew a (d+1) rows l→bR sz l:=fun h=>h.s7 hg;have S:∀ {l},ew a (d+1) rows l→∀ r ∈ l,W r:=fun h r hr=>hW r (h.1.mem_iff.1 hr);refine aB ?_;refine bI (fun m s=>∃(i j:Nat) (t:T) (H1:aj) (l:List (List FC)),s=⟨t,[],H1⟩∧m=j+1-i∧a<i∧i≤j+1∧j<d+1∧t.g 0=.c (.sl b 0 n 0 ep sz)∧t.g 1=vi a∧t.g 4=cv∧t.g 11=vi i∧t.g 12=vi j ∧
   Fm b H H1∧RB H1 b sz ep l∧ew a (d+1) rows l∧La c a i j (d+1) p l) _
  ⟨a+1,d,_,H2,_,rfl,rfl,by omega,by omega,by omega,by simp,by simp,by simp,by simp,by simp,f2,r2,d6,d5⟩ ?_
 rintro m s ⟨i,j,t,H1,l,rfl,rfl,b_,c_,d3,w,g1,g4,O,U,y,g,u,E⟩ ih;have B:=u.len;refine aB ?_;apply aq;refine ajo a8 (B.trans hn) hl (A u) (S u) (i:=i) (j:=j) (e:=d+1) (H0:=H) b_ c_ d3 a9 E.1 w g1 g4 O U y g ?_;intro t H3 J d9 X Z w g1 g4 O U y g;apply aq;refine ajm a8 (B.trans hn) hl (A u) (S u) (i:=J) (j:=j) (e:=d+1) (H0:=H) (by omega) (by omega) (by omega) a9 E.1 w g1 g4 O U y g ?_;intro t H4 f d_ K L w g1 g4 O U y g;have N:La c a J f (d+1) p l:=⟨E.1,fun k x o M I=>by
   by_cases hk:k<i
   ·exact E.2.1 k x o hk I
   ·exact X k x (by omega) M I,fun k x o M I=>by
   by_cases hk:j<k
   ·exact E.2.2 k x hk M I
   ·exact K k x o (by omega) I⟩
 apply aq;apply ai;simp [O,U];by_cases a_:f<J
 ·refine ak (by simp [a_]) ?_;refine bq (k':=[.code (YH)]) rfl ?_;apply ai;simp [O];refine aJ (hQ _ _ (vi J) rfl (by simp [Km.results,ba]) ⟨J,rfl,by omega,by omega,y,l,g,u,fun q z o M hz=>?_,fun q z o M hz=>N.2.2 q z (by omega) M hz⟩);by_cases e:q=a
  ·rw [e,N.1]at hz;cases hz;exact Y
  ·exact N.2.1 q z (by omega) M hz
 refine a5 (by simp [a_]) ?_;have ni:∀ x,l[J]?=aa x→c p x<0:=by
  rcases Z with h | h
  ·omega
  ·exact fun x I=>Classical.not_not.1 (h x I)
 have nj:∀ x,l[f]?=aa x→¬ c p x<0:=by
  rcases L with h | h
  ·omega
  ·exact h
 have e_:J≠f:=by
  rintro rfl;have I:=AT (l:=l) (i:=J) (by omega);exact nj _ I (ni _ I)
 obtain⟨x5,y5,H5,H6,-,-,i1,j1,l1,l2,w1,w2,s1,j2,s2,r5,f5⟩:=g.iG (A u) (B.trans hn) (i:=J) (j:=f) (by omega) (by omega);apply ai;simp [w,O,U,i1,j1,l1,l2,w1,w2,s1,j2,s2,-an,-bh];apply ai;simp [O,aQ (n:=(J:Int)+1)];refine av (.inl rfl) ?_;simp [U,aQ (n:=(f:Int)-1)];exact aw (ih _ _ (by omega) ⟨J+1,f-1,_,H6,_,rfl,rfl,by omega,by omega,by omega,by simp [w],by simp [g1],by simp [g4],by simp,by simp;omega,y.trans f5,r5,
   u.trans (eV (by omega) (by omega) (by omega) (by omega) (by omega)),N.swap (by omega) (by omega) (by omega) ni nj⟩)
end
end
end Km
