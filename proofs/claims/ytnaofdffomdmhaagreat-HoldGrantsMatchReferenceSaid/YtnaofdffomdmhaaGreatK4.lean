/-
  Our own small machine for Go code by value, held Al ug model: part 4. No program in Pz.
-/
import Derived.Test.YtnaofdffomdmhaaGreatK3
import Derived.ChangeArms
import Derived.DataReads
import Derived.Deep.Slices
import Derived.ProofKit
import Derived.RowKit3
import Derived.Below
import Derived.Carry
import Derived.Laws.IdiomArrays
import Derived.Test.YtnaofdffomdmhaaGreatK1
open Option renaming some->aa,none->ab
open Bool renaming true->ae,false->ag
open Nat renaming le_refl->afJ, add_mul->agn, add_zero->ahc, mul_le_mul_right->agx, le_max_left->agf, le_max_right->af8, le_trans->af1, lt_of_lt_of_le->af9, zero_le->ag2, zero_add->agj
open Option renaming bind_some->agr, bind_eq_some_iff->af3, map_eq_some_iff->afF
open List renaming map_cons->afS, foldl_cons->ag7, mem_cons_of_mem->afQ, flatten_cons->aga, length_append->afK, length_cons->agm, mem_cons_self->afN, drop_append->ahl, take_of_length_le->afM, mem_map->af6, getElem?_eq_some_iff->afD, mem_of_getElem?->af5, drop_drop->ag9, drop_eq_getElem_cons->afL, getElem?_eq_getElem->afB, length_map->afT, length_drop->afX, map_append->agA, take_append_of_le_length->age, drop_zero->ag5, getElem?_map->agl, isEmpty_cons->ahp, findIdx?_eq_some_iff_getElem->agX, getElem_mem->afH, cons_append->agu, getElem?_append_left->afy, getElem?_set_ne->ae2, getElem?_set_self->afC, flatten_append->agY, take_length->agc, drop_of_length_le->agZ, take_append_drop->agI, length_take->af2, map_nil->afW, append_nil->agp, mem_cons->afZ, mem_append_left->ag6, map_drop->ahq, getElem?_drop->af0, length_nil->agQ, length_eq_zero_iff->agT, mem_of_mem_take->agD
open Bool renaming false_eq_true->afR, and_eq_true->afE
open Option.some renaming injEq->At
open Int renaming toNat_natCast->afU
set_option linter.unusedVariables false
set_option linter.constructorNameAsVariable false
set_option linter.unusedSimpArgs false
set_option linter.unusedSectionVars false
set_option maxRecDepth 100000
namespace Km
section
open Go
def P.ma:Nat->Nat->P
 |0,_=>.h| k+1,n=>if n=0 then .h else if n % 2=1 then .o (ma k ((n-1) / 2))else .i (ma k ((n-2) / 2))
def P.nat(n:Nat):P:=P.ma n n
theorem qM:∀(k n:Nat),n<=k->(P.ma k n).toNat=n
 |0,n,b=>by simp[P.ma,P.toNat];omega
 |k+1,n,b=>by
  unfold P.ma;split
  .simp[P.toNat, *]
  .split
   .simp[P.toNat];rw[qM k _ (by omega)];omega
   .simp[P.toNat];rw[qM k _ (by omega)];omega
theorem tv(n:Nat):(P.nat n).toNat=n:=qM n n (afJ n)
theorem nat_ne{a b:Nat}(d:a≠b):P.nat a≠P.nat b:=λe=>d (by rw[<-tv a,<-tv b,e])
theorem T.iE(v:V):∀(p:P) (t:T),(t.set p v).get p=v
 | .h,.e=>rfl| .h,.n _ _ _=>rfl| .o p,.e=>T.iE v p .e| .o p,.n l _ _=>T.iE v p l| .i p,.e=>T.iE v p .e| .i p,.n _ _ r=>T.iE v p r
theorem T.lP(v:V):∀(p q:P) (t:T),p≠q->(t.set p v).get q=t.get q
 | .h,.h,_,h=>absurd rfl h| .h,.o q,.e,_=>by cases q<;>rfl
 | .h,.i q,.e,_=>by cases q<;>rfl
 | .h,.o _,.n _ _ _,_=>rfl| .h,.i _,.n _ _ _,_=>rfl| .o _,.h,.e,_=>rfl| .o _,.h,.n _ _ _,_=>rfl| .i _,.h,.e,_=>rfl| .i _,.h,.n _ _ _,_=>rfl
 | .o p,.o q,.e,h=>by
  show(T.set .e p v).get q=_;rw[T.lP v p q .e (λe=>h (by rw[e]))];cases q<;>rfl
 | .o p,.o q,.n l _ _,h=>T.lP v p q l (λe=>h (by rw[e]))
 | .o p,.i q,.e,h=>by
  show T.get .e q=_;cases q<;>rfl
 | .o _,.i _,.n _ _ _,_=>rfl
 | .i p,.o q,.e,h=>by
  show T.get .e q=_;cases q<;>rfl
 | .i _,.o _,.n _ _ _,_=>rfl
 | .i p,.i q,.e,h=>by
  show(T.set .e p v).get q=_;rw[T.lP v p q .e (λe=>h (by rw[e]))];cases q<;>rfl
 | .i p,.i q,.n _ _ r,h=>T.lP v p q r (λe=>h (by rw[e]))
def T.g(t:T)(n:Nat):V:=t.get (P.nat n)
def T.s(t:T)(n:Nat)(v:V):T:=t.set (P.nat n) v
@[simp] theorem T.g_s (t:T) (n m:Nat) (v:V):(t.s n v).g m=if n=m then v else t.g m:=by
 unfold T.g T.s;split
 .rename_i h;subst h;exact T.iE v _ t
 .rename_i h;exact T.lP v _ _ t (nat_ne h)
def R(n:Nat):Arg:=.r (P.nat n)
def D(n:Nat):Option P:=aa (P.nat n)
def G(n:Nat)(w:Bool):Option (P × Bool):=aa (P.nat n,w)
abbrev vi(n:Int):V:=.c (.f (.int .i64 n))
abbrev vb(b:Bool):V:=.c (.f (.bool b))
abbrev fi(n:Int):FC:=.int .i64 n
@[simp] theorem Iv (t:T) (n:Nat):(R n).ev t=t.g n:=rfl
@[simp] theorem afq (t:T) (v:V):(Arg.k v).ev t=v:=rfl
@[simp] theorem ad4 (t:T) (n:Nat) (v:V):lS t (D n) v=t.s n v:=rfl
@[simp] theorem Y6 (t:T) (v:V):lS t ab v=t:=rfl
@[simp] theorem Rd (t:T) (n:Nat):t.get (P.nat n)=t.g n:=rfl
@[simp] theorem Ty (n:Nat) (ps:List P) (v:V) (b:List V) (t:T):cO (P.nat n::ps) (v::b) t=cO ps b (t.s n v):=rfl
@[simp] theorem Yi (b:List V) (t:T):cO [] b t=t:=rfl
@[simp] theorem TC (t:T):wanted t ab=aa ae:=rfl
@[simp] theorem abA (t:T) (n:Nat) (w:Bool):wanted t (G n w)=match t.g n with
  | .c (.f (.bool b))=>aa (b == w)| .t []=>aa ag| _=>ab:=rfl
attribute [simp] dH
def KO(o:Option (V × aj))(t:T)(ds:List dS)(K:V->St->Prop):Prop:=∃p,o=aa p/\K p.1 ⟨t,ds,p.2⟩
@[simp] theorem abL (v:V) (H:aj) (t:T) (ds:List dS) (K:V->St->Prop):KO (aa (v,H)) t ds K↔K v ⟨t,ds,H⟩:=⟨λ⟨_,h,k⟩=>by cases h;exact k,λk=>⟨_,rfl,k⟩⟩
def KP(P:V->Prop)(t:T)(ds:List dS)(H:aj)(K:V->St->Prop):Prop:=∃x,P x/\K x ⟨t,ds,H⟩
@[simp] theorem aeZ (x:V) (t:T) (ds:List dS) (H:aj) (K:V->St->Prop):KP (Eq x) t ds H K↔K x ⟨t,ds,H⟩:=⟨λ⟨_,h,k⟩=>by cases h;exact k,λk=>⟨x,rfl,k⟩⟩
def E2(x:V)(H:aj)(y:V)(H':aj):Prop:=x=y/\H=H'
def KE(P:V->aj->Prop)(t:T)(ds:List dS)(K:V->St->Prop):Prop:=∃x H,P x H/\K x ⟨t,ds,H⟩
@[simp] theorem aeY (x:V) (H:aj) (t:T) (ds:List dS) (K:V->St->Prop):KE (E2 x H) t ds K↔K x ⟨t,ds,H⟩:=⟨λ⟨_,_,⟨b,d⟩,k⟩=>by cases b;cases d;exact k,λk=>⟨x,H,⟨rfl,rfl⟩,k⟩⟩
section
variable(tab:TB)
def KC(b:Option (List V))(f:Nat)(t:T)(ds:List dS)(H:aj)(K:V->St->Prop):Prop:=∃a,b=aa a/\KP (aX tab f a) t ds H K
def KD(c:Option (Callee × List V))(t:T)(ds:List dS)(H:aj)(K:V->St->Prop):Prop:=∃a,c=aa a/\KE (Ev tab a.1 a.2 H) t ds K
def KS(os:List aV)(L:St->Prop)(s:St):Prop:=xv tab os s L
def FS(s:St)(K:St->Prop):Prop:=K s
def KV(o:Option P)(os:List aV)(L:St->Prop)(v:V)(s:St):Prop:=FS ⟨lS s.aF o v,s.defs,s.heap⟩ (KS tab os L)
def YA(w:Option Bool)(op:dd)(o:Option P)(os:List aV)(L:St->Prop)(s:St):Prop:=
 match w with
 |some ae=>mc tab s op (KV tab o os L)| some ag=>FS ⟨lS s.aF o (.t []),s.defs,s.heap⟩ (KS tab os L)| none=>False
end
section
variable{tab:TB}{t:T}{ds:List dS}{H:aj}{K:V->St->Prop}{L:St->Prop}
@[simp] theorem abJ (a:List V) (f:Nat):KC tab (aa a) f t ds H K↔KP (aX tab f a) t ds H K:=⟨λ⟨_,h,k⟩=>by cases h;exact k,λk=>⟨_,rfl,k⟩⟩
@[simp] theorem abK (c:Callee) (a:List V):KD tab (aa (c,a)) t ds H K↔KE (Ev tab c a H) t ds K:=⟨λ⟨_,h,k⟩=>by cases h;exact k,λk=>⟨_,rfl,k⟩⟩
@[simp] theorem aem (s:St) (K:St->Prop):FS s K↔K s:=Iff.rfl
@[simp ↓] theorem ae0 (os:List aV) (s:St):KS tab os L s↔xv tab os s L:=Iff.rfl
@[simp ↓] theorem ae1 (o:Option P) (os:List aV) (v:V):KV tab o os L v ⟨t,ds,H⟩↔FS ⟨lS t o v,ds,H⟩ (KS tab os L):=Iff.rfl
@[simp ↓] theorem aeX (op:dd) (o:Option P) (os:List aV) (s:St):YA tab (aa ae) op o os L s↔mc tab s op (KV tab o os L):=Iff.rfl
@[simp ↓] theorem aeW (op:dd) (o:Option P) (os:List aV):YA tab (aa ag) op o os L ⟨t,ds,H⟩↔FS ⟨lS t o (.t []),ds,H⟩ (KS tab os L):=Iff.rfl
theorem Gt{b:Bool}{op:dd}{o:Option P}{os:List aV}{s:St}(d:b=ag->YA tab (aa ae) op o os L s)(g:b=ae->YA tab (aa ag) op o os L s):YA tab (aa !b) op o os L s:=by
 cases b
 .exact d rfl
 .exact g rfl
@[simp ↓] theorem abM (s:St):xv tab [] s L↔L s:=Iff.rfl
@[simp ↓] theorem aaq (o:Option P) (op:dd) (os:List aV):xv tab (⟨o,op,ab⟩::os) ⟨t,ds,H⟩ L↔mc tab ⟨t,ds,H⟩ op (KV tab o os L):=Iff.rfl
@[simp ↓] theorem YB (o:Option P) (op:dd) (n:Nat) (w:Bool) (os:List aV) :
  xv tab (⟨o,op,G n w⟩::os) ⟨t,ds,H⟩ L↔YA tab (wanted t (G n w)) op o os L ⟨t,ds,H⟩:=by
 simp only[xv];rcases b:wanted t (G n w)with _|_|_<;>exact Iff.rfl
def dd.plain:dd->Bool
 | .call _ _ _| .gN _ _ _| .recover| .defer _ _=>ag| _=>ae
theorem cF{op:dd}(h:op.plain=ae):mc tab ⟨t,ds,H⟩ op K↔KO (bF t H op) t ds K:=by
 have:mc tab ⟨t,ds,H⟩ op K↔∃v H',bF t H op=aa (v,H')/\K v ⟨t,ds,H'⟩:=by
  cases op<;>first|exact Iff.rfl|simp[dd.plain]at h
 rw[this];exact⟨λ⟨v,H',h,k⟩=>⟨(v,H'),h,k⟩,λ⟨p,h,k⟩=>⟨p.1,p.2,h,k⟩⟩
@[simp ↓] theorem aca (x:Arg):mc tab ⟨t,ds,H⟩ (.dr x) K↔KO (bF t H (.dr x)) t ds K:=cF rfl
@[simp ↓] theorem abm (c a b:Arg):mc tab ⟨t,ds,H⟩ (.pick c a b) K↔KO (bF t H (.pick c a b)) t ds K:=cF rfl
@[simp ↓] theorem YV (zs:List FC):mc tab ⟨t,ds,H⟩ (.alloc zs) K↔KO (bF t H (.alloc zs)) t ds K:=cF rfl
@[simp ↓] theorem ab8 (x:Arg):mc tab ⟨t,ds,H⟩ (.box x) K↔KO (bF t H (.box x)) t ds K:=cF rfl
@[simp ↓] theorem YW (zs:List FC) (b:List (Nat × Nat × Arg)):mc tab ⟨t,ds,H⟩ (.build zs b) K↔KO (bF t H (.build zs b)) t ds K:=cF rfl
@[simp ↓] theorem XP (sz:Nat) (zs:List FC) (len:Nat) (b:List (Nat × Arg)):mc tab ⟨t,ds,H⟩ (.dX sz zs len b) K↔KO (bF t H (.dX sz zs len b)) t ds K:=cF rfl
@[simp ↓] theorem abi (n:Option Nat) (x:Arg):mc tab ⟨t,ds,H⟩ (.load n x) K↔KO (bF t H (.load n x)) t ds K:=cF rfl
@[simp ↓] theorem Y4 (n:Nat) (x y:Arg):mc tab ⟨t,ds,H⟩ (.store n x y) K↔KO (bF t H (.store n x y)) t ds K:=cF rfl
@[simp ↓] theorem XU (x:Arg):mc tab ⟨t,ds,H⟩ (.jx x) K↔KO (bF t H (.jx x)) t ds K:=cF rfl
@[simp ↓] theorem ab7 (op:BinOp) (x y:Arg):mc tab ⟨t,ds,H⟩ (.bin op x y) K↔KO (bF t H (.bin op x y)) t ds K:=cF rfl
@[simp ↓] theorem ad2 (neg:Bool) (k:FR) (x y:Arg):mc tab ⟨t,ds,H⟩ (.eq neg k x y) K↔KO (bF t H (.eq neg k x y)) t ds K:=cF rfl
@[simp ↓] theorem ad3 (op:UnOp) (x:Arg):mc tab ⟨t,ds,H⟩ (.un op x) K↔KO (bF t H (.un op x)) t ds K:=cF rfl
@[simp ↓] theorem ab' (k:IntKind) (x:Arg):mc tab ⟨t,ds,H⟩ (.I' k x) K↔KO (bF t H (.I' k x)) t ds K:=cF rfl
@[simp ↓] theorem abl (f:Nat) (b:List Arg):mc tab ⟨t,ds,H⟩ (.tt f b) K↔KO (bF t H (.tt f b)) t ds K:=cF rfl
@[simp ↓] theorem Y2:mc tab ⟨t,ds,H⟩ .mr K↔KO (bF t H .mr) t ds K:=cF rfl
@[simp ↓] theorem XT (d:CK) (b:FC) (m k:Arg):mc tab ⟨t,ds,H⟩ (.lookup d b m k) K↔KO (bF t H (.lookup d b m k)) t ds K:=cF rfl
@[simp ↓] theorem Y1 (b:CK) (m k v:Arg):mc tab ⟨t,ds,H⟩ (.mq b m k v) K↔KO (bF t H (.mq b m k v)) t ds K:=cF rfl
@[simp ↓] theorem Y3 (sz:Nat) (x:Arg) (lo hi mx:Option Arg):mc tab ⟨t,ds,H⟩ (.slice sz x lo hi mx) K↔KO (bF t H (.slice sz x lo hi mx)) t ds K:=cF rfl
@[simp ↓] theorem XQ (off:Nat) (x:Arg):mc tab ⟨t,ds,H⟩ (.fL off x) K↔KO (bF t H (.fL off x)) t ds K:=cF rfl
@[simp ↓] theorem Y0 (off:Nat) (n:Option Nat) (x:Arg):mc tab ⟨t,ds,H⟩ (.field off n x) K↔KO (bF t H (.field off n x)) t ds K:=cF rfl
@[simp ↓] theorem XS (sz:Nat) (b:Option Nat) (x i:Arg):mc tab ⟨t,ds,H⟩ (.ez sz b x i) K↔KO (bF t H (.ez sz b x i)) t ds K:=cF rfl
@[simp ↓] theorem Tr (x:Arg) (i:Nat):mc tab ⟨t,ds,H⟩ (.extract x i) K↔KO (bF t H (.extract x i)) t ds K:=cF rfl
@[simp ↓] theorem ab_ (x:Arg):mc tab ⟨t,ds,H⟩ (.len x) K↔KO (bF t H (.len x)) t ds K:=cF rfl
@[simp ↓] theorem ab9 (x:Arg):mc tab ⟨t,ds,H⟩ (.cap x) K↔KO (bF t H (.cap x)) t ds K:=cF rfl
@[simp ↓] theorem XO (sz bytes:Nat) (x y:Arg):mc tab ⟨t,ds,H⟩ (.append sz bytes x y) K↔KO (bF t H (.append sz bytes x y)) t ds K:=cF rfl
@[simp ↓] theorem abj (lo:Bool) (xs:List Arg):mc tab ⟨t,ds,H⟩ (.pW lo xs) K↔KO (bF t H (.pW lo xs)) t ds K:=cF rfl
@[simp ↓] theorem abg (sz bytes:Nat) (zs:List FC) (x n:Arg):mc tab ⟨t,ds,H⟩ (.oC sz bytes zs x n) K↔KO (bF t H (.oC sz bytes zs x n)) t ds K:=cF rfl
@[simp ↓] theorem YZ (sz:Nat) (zs:List FC) (x:Arg):mc tab ⟨t,ds,H⟩ (.clear sz zs x) K↔KO (bF t H (.clear sz zs x)) t ds K:=cF rfl
@[simp ↓] theorem XR (sz:Nat) (zs:List FC) (len:Nat) (b:List (Nat × Arg)):mc tab ⟨t,ds,H⟩ (.ib sz zs len b) K↔KO (bF t H (.ib sz zs len b)) t ds K:=cF rfl
@[simp ↓] theorem abk (f:Nat) (xs:List Arg):mc tab ⟨t,ds,H⟩ (.tq f xs) K↔KO (bF t H (.tq f xs)) t ds K:=cF rfl
@[simp ↓] theorem abh (f:Nat) (args:List Arg):mc tab ⟨t,ds,H⟩ (.call f args ag) K ↔
  KC tab (aZ (bX deep H) (dH t args)) f t ds ((dH t args).foldl (Qf deep) H) K:=by
 simp only[mc,KC,KP];constructor
 .intro h;rw[bG (by simp)]at h;obtain⟨b,r,d,g,j⟩:=h;exact⟨b,d,r,g,j⟩
 .rintro⟨b,d,r,g,j⟩;rw[bG (by simp)];exact⟨b,r,d,g,j⟩
@[simp ↓] theorem YY (f:Nat) (args:List Arg):mc tab ⟨t,ds,H⟩ (.call f args ae) K↔KD tab (aa (.fn f,dH t args)) t ds H K:=by simp[mc,KD,KE]
@[simp ↓] theorem YX (x:Arg) (args:List Arg) (h:Bool):mc tab ⟨t,ds,H⟩ (.gN x args h) K↔KD tab (cL (x.ev t) (dH t args)) t ds H K:=by
 simp only[mc,KD,KE];constructor
 .rintro⟨c,as,r,H',b,d,g⟩;exact⟨(c,as),b,r,H',d,g⟩
 .rintro⟨⟨c,as⟩,b,r,H',d,g⟩;exact⟨c,as,r,H',b,d,g⟩
end
def Ea:V->Option Bool
 | .c (.f (.bool b))=>aa b| _=>ab
@[simp] theorem YC (b:Bool):Ea (.c (.f (.bool b)))=aa b:=rfl
section
variable{t:T}{H:aj}
@[simp] theorem afb (x:Arg):bF t H (.dr x)=aa (x.ev t,H):=rfl
@[simp] theorem afc (o:Os) (sz:Nat):bF t H (.pre o sz)=if o=.loc\/sz=0 then ab else aa (.c (.sl H.length 0 0 0 0 sz),H++[.ct sz [] 0 0 o]):=rfl
@[simp] theorem aek (c x y:Arg):bF t H (.pick c x y)=(Ea (c.ev t)).map λb=>(if b then x.ev t else y.ev t,H):=by
 simp only[bF,Ea];split
 .rename_i b h;simp only[h];cases b<;>rfl
 .rename_i h;split
  .rename_i b d;exact absurd d (h b)
  .rfl
@[simp] theorem acj (zs:List FC):bF t H (.alloc zs)=aa (.c (.ptr H.length 0 0),H++[.box (zs.map .f) 0]):=rfl
@[simp] theorem ae9 (x:Arg):bF t H (.box x)=(x.ev t).cells?.map λxs=>(.c (.ptr H.length 0 0),H++[.box xs 0]):=by
 simp only[bF];cases (x.ev t).cells?<;>rfl
@[simp] theorem ack (zs:List FC) (ps:List (Nat × Nat × Arg)):bF t H (.build zs ps)=(dO t (zs.map .f) ps).map λcs=>(.a cs,H):=rfl
@[simp] theorem abE (sz:Nat) (zs:List FC) (n:Nat) (ps:List (Nat × Arg)):bF t H (.dX sz zs n ps) =
  if n=0 then(if ps.isEmpty then aa (.c (.f .es),H)else ab)else
  (dO t ((cP n zs).map .f) (ps.map λp=>(p.1*sz,sz,p.2))).map λcs=>(.c (.sl H.length 0 n n 0 sz),H++[.box cs 0]):=rfl
@[simp] theorem aeg (n:Option Nat) (x:Arg):bF t H (.load n x)=(aQ H n (x.ev t)).map (·,H):=rfl
def Bf(H:aj)(n:Nat)(x y:V):Option aj:=
 match x,y.cells? with
 | .c p,aa xs=>if xs.length=n then cz H p xs else ab| _,_=>ab
@[simp] theorem acr (n:Nat) (x y:Arg):bF t H (.store n x y)=(Bf H n (x.ev t) (y.ev t)).map (.top,·):=by
 simp only[bF,Bf];cases x.ev t with
 |c p=>cases (y.ev t).cells? with
  |none=>rfl| some xs=>by_cases h:xs.length=n<;>simp[h]
 |_=>rfl
@[simp] theorem abx (n:Nat) (p:C) (y:V):Bf H n (.c p) y=y.cells?.bind λxs=>if xs.length=n then cz H p xs else ab:=by
 simp only[Bf];cases y.cells?<;>rfl
@[simp] theorem ae8 (op:BinOp) (x y:Arg):bF t H (.bin op x y)=(ei op (x.ev t) (y.ev t)).map (·,H):=rfl
@[simp] theorem afw (neg:Bool) (k:FR) (x y:Arg):bF t H (.eq neg k x y)=(Dk H k (x.ev t) (y.ev t)).map λb=>(vb (if neg then !b else b),H):=rfl
@[simp] theorem afx (op:UnOp) (x:Arg):bF t H (.un op x)=(PZ op (x.ev t)).map (·,H):=rfl
def WV(k:IntKind):V->Option V
 | .c (.f (.int _ n))=>aa (.c (.f (.int k (k.wrap n))))| _=>ab
@[simp] theorem adI (k j:IntKind) (n:Int):WV k (.c (.f (.int j n)))=aa (.c (.f (.int k (k.wrap n)))):=rfl
@[simp] theorem ae_ (k:IntKind) (x:Arg):bF t H (.I' k x)=(WV k (x.ev t)).map (·,H):=by
 simp only[bF,WV];split
 .rename_i h;simp only[h];rfl
 .rename_i h;split
  .rename_i b;exact absurd b (h _ _)
  .rfl
@[simp] theorem aej (f:Nat) (b:List Arg):bF t H (.tt f b)=(aZ oE (dH t b)).map λxs=>(.c (.cl f xs),H):=rfl
@[simp] theorem aei (f:Nat) (b:List Arg):bF t H (.tq f b)=(aZ oE (dH t b)).map λxs=>(.c (.bm f xs),H):=rfl
@[simp] theorem acp (sz:Nat) (x:Arg) (lo hi mx:Option Arg):bF t H (.slice sz x lo hi mx)=(ea H sz (x.ev t) (lo.map (·.ev t)) (hi.map (·.ev t)) (mx.map (·.ev t))).map (·,H):=rfl
@[simp] theorem abG (sz:Nat) (zs:List FC) (n:Nat) (ps:List (Nat × Arg)):bF t H (.ib sz zs n ps)=((dO t ((cP n zs).map .f) (ps.map λp=>(p.1*sz,sz,p.2))).bind λcs=>if n=0 then ab else Qc cs).map λb=>(.c (.f (.fs b n)),H):=rfl
@[simp] theorem ael (sz:Nat) (x hi mx:Arg):bF t H (.wW sz x hi mx)=C0 H sz (x.ev t) (hi.ev t) (mx.ev t):=rfl
@[simp] theorem aco (n sz:Nat) (x:Arg) (lo hi mx:Option Arg):bF t H (.pc n sz x lo hi mx)=(mH H n sz (x.ev t) (lo.map (·.ev t)) (hi.map (·.ev t)) (mx.map (·.ev t))).map (·,H):=rfl
@[simp] theorem acq (x:Arg) (lo hi:Option Arg):bF t H (.qo x lo hi)=(wZ (x.ev t) (lo.map (·.ev t)) (hi.map (·.ev t))).map (·,H):=rfl
@[simp] theorem abF (o:Nat) (x:Arg):bF t H (.fL o x)=(kI o (x.ev t)).map (·,H):=rfl
@[simp] theorem acn (o:Nat) (n:Option Nat) (x:Arg):bF t H (.field o n x)=(ko o n (x.ev t)).map (·,H):=rfl
@[simp] theorem abH (sz:Nat) (b:Option Nat) (x i:Arg):bF t H (.ez sz b x i)=(bw H sz b (x.ev t) (i.ev t)).map (·,H):=rfl
@[simp] theorem aee (x i:Arg):bF t H (.idxs x i)=(Cb (x.ev t) (i.ev t)).map (·,H):=rfl
@[simp] theorem aed (len sz:Nat) (n:Option Nat) (x i:Arg):bF t H (.xD len sz n x i)=(Ca len sz n (x.ev t) (i.ev t)).map (·,H):=rfl
def cOf:V->Option C
 | .c x=>aa x| _=>ab
@[simp] theorem ae3 (x:C):cOf (.c x)=aa x:=rfl
@[simp] theorem afa (x:Arg):bF t H (.len x)=((cOf (x.ev t)).bind (bo H)).map λn=>(vi (n:Nat),H):=by
 simp only[bF,cOf];cases x.ev t with
 |c y=>simp only[agr];cases bo H y<;>rfl
 |_=>rfl
@[simp] theorem ae' (x:Arg):bF t H (.cap x)=((cOf (x.ev t)).bind (kE H)).map λn=>(vi (n:Nat),H):=by
 simp only[bF,cOf];cases x.ev t with
 |c y=>simp only[agr];cases kE H y<;>rfl
 |_=>rfl
def strOf:V->Option ByteArray
 | .c (.f (.str s))=>aa s| _=>ab
@[simp] theorem ace (s:ByteArray):strOf (.c (.f (.str s)))=aa s:=rfl
@[simp] theorem aef (n:Nat):bF t H (.iP n)=aa (vi (n:Nat),H):=rfl
@[simp] theorem abD (sz bytes:Nat) (x y:Arg):bF t H (.append sz bytes x y)=cw H sz bytes (x.ev t) (y.ev t):=rfl
@[simp] theorem aec (sz:Nat) (x y:Arg):bF t H (.copy sz x y)=copyV H sz (x.ev t) (y.ev t):=rfl
@[simp] theorem aeh (lo:Bool) (xs:List Arg):bF t H (.pW lo xs)=(xH lo (dH t xs)).map (·,H):=rfl
def tOf:V->Option (List V)
 | .t b=>aa b| _=>ab
@[simp] theorem ae7 (b:List V):tOf (.t b)=aa b:=rfl
@[simp] theorem Y9 (x:Arg) (i:Nat):bF t H (.extract x i)=(tOf (x.ev t)).bind λd=>d[i]?.map (·,H):=by
 simp only[bF,tOf];split
 .rename_i h;simp only[h];rfl
 .rename_i h;split
  .rename_i b;exact absurd b (h _)
  .rfl
def uJ:V->Option V
 | .c (.ptr b o e)=>aa (.c (.ptr b o e))| .c (.f (.fp cs o))=>aa (.c (.f (.fp cs o)))| _=>ab
@[simp] theorem XJ (b o e:Nat):uJ (.c (.ptr b o e))=aa (.c (.ptr b o e)):=rfl
@[simp] theorem YU (cs:List FC) (o:Nat):uJ (.c (.f (.fp cs o)))=aa (.c (.f (.fp cs o))):=rfl
@[simp] theorem abI (x:Arg):bF t H (.jx x)=(uJ (x.ev t)).map (·,H):=by
 simp only[bF,uJ];split
 .rename_i h;simp only[h];rfl
 .rename_i h;simp only[h];rfl
 .rename_i b d;split
  .rename_i h;exact absurd h (b _ _ _)
  .rename_i h;exact absurd h (d _ _)
  .rfl
@[simp] theorem YG (f:Nat) (b:List FC) (args:List V):cL (.c (.f (.fn f b))) args=aa (.fn f,args++b.map λx=>.c (.f x)):=rfl
@[simp] theorem YE (f:Nat) (b:List C) (args:List V):cL (.c (.cl f b)) args=aa (.fn f,args++b.map .c):=rfl
@[simp] theorem YD (f:Nat) (first:List C) (args:List V):cL (.c (.bm f first)) args=aa (.fn f,first.map .c++args):=rfl
end
section
variable{k:IntKind}{a b:Int}{H:aj}
@[simp] theorem abN:ei .add (.c (.f (.int k a))) (.c (.f (.int k b)))=aa (.c (.f (.int k (k.wrap (a+b))))):=by simp[ei,od,V.int]
@[simp] theorem abV:ei .sub (.c (.f (.int k a))) (.c (.f (.int k b)))=aa (.c (.f (.int k (k.wrap (a-b))))):=by simp[ei,od,V.int]
@[simp] theorem abT:ei .mul (.c (.f (.int k a))) (.c (.f (.int k b)))=aa (.c (.f (.int k (k.wrap (a*b))))):=by simp[ei,od,V.int]
theorem F5(h:b≠0):ei .quo (.c (.f (.int k a))) (.c (.f (.int k b)))=aa (.c (.f (.int k (k.wrap (a.tdiv b))))):=by simp[ei,od,V.int,h]
theorem An(h:b≠0):ei .rem (.c (.f (.int k a))) (.c (.f (.int k b)))=aa (.c (.f (.int k (a.tmod b)))):=by simp[ei,od,V.int,h]
@[simp] theorem abO:ei .eql (.c (.f (.int k a))) (.c (.f (.int k b)))=aa (vb (decide (a=b))):=by simp[ei,od,V.bool];rfl
@[simp] theorem abU:ei .neq (.c (.f (.int k a))) (.c (.f (.int k b)))=aa (vb (!decide (a=b))):=by simp[ei,od,V.bool];rfl
@[simp] theorem abS:ei .lss (.c (.f (.int k a))) (.c (.f (.int k b)))=aa (vb (decide (a<b))):=by simp[ei,od,V.bool]
@[simp] theorem abR:ei .leq (.c (.f (.int k a))) (.c (.f (.int k b)))=aa (vb (decide (a<=b))):=by simp[ei,od,V.bool]
@[simp] theorem abQ:ei .gtr (.c (.f (.int k a))) (.c (.f (.int k b)))=aa (vb (decide (b<a))):=by simp[ei,od,V.bool]
@[simp] theorem abP:ei .geq (.c (.f (.int k a))) (.c (.f (.int k b)))=aa (vb (decide (b<=a))):=by simp[ei,od,V.bool]
@[simp] theorem aaI {x y:Bool}:Gh .bool (.f (.bool x)) (.f (.bool y))=aa (x == y):=rfl
@[simp] theorem ab0:Gh .int (.f (.int k a)) (.f (.int k b))=aa (a == b):=by simp[Gh]
@[simp] theorem ab1 {x y:ByteArray}:Gh .str (.f (.str x)) (.f (.str y))=aa (x == y):=rfl
@[simp] theorem abZ:sA [] [] []=aa ae:=rfl
@[simp] theorem aaH {q:CK} {qs:List CK} {x y:C} {xs ys:List C}:sA (q::qs) (x::xs) (y::ys)=(Gh q x y).bind λc=>(sA qs xs ys).map λd=>c&&d:=by
 simp only[sA];cases Gh q x y<;>cases sA qs xs ys<;>rfl
@[simp] theorem aaJ {x y:Bool}:Dk H .bool (.c (.f (.bool x))) (.c (.f (.bool y)))=aa (x == y):=rfl
@[simp] theorem W2 {b:List CK} {xs ys:List C}:Dk H (.st b) (.a xs) (.a ys)=sA b xs ys:=rfl
@[simp] theorem aeb {x:Bool}:PZ .not (.c (.f (.bool x)))=aa (vb (!x)):=rfl
@[simp] theorem W7 {o c o' ep:Nat}:kI o (.c (.ptr c o' ep))=aa (.c (.ptr c (o'+o) ep)):=rfl
@[simp] theorem YJ {o o':Nat} {cs:List FC}:kI o (.c (.f (.fp cs o')))=aa (.c (.f (.fp cs (o'+o)))):=rfl
@[simp] theorem abY {x:C}:(V.c x).cells?=aa [x]:=rfl
@[simp] theorem abX {xs:List C}:(V.a xs).cells?=aa xs:=rfl
@[simp] theorem afh {n:Nat} {x:FC}:eg n H (.f x)=aa x:=by cases n<;>rfl
@[simp] theorem aaL {n:Nat} {x:C}:bX n H (.c x)=(eg n H x).map λy=>.c (.f y):=rfl
@[simp] theorem ae6 {n f:Nat} {b:List C}:eg (n+1) H (.cl f b)=(aZ (eg n H) b).map (.fn f):=rfl
@[simp] theorem adL {n b o e:Nat}:eg (n+1) H (.ptr b o e)=match H[b]? with
  |some (.box cs _)=>(aZ (eg n H) cs).map (.fp · o)| _=>ab:=rfl
theorem ml{n b o l c ep sz:Nat}:eg (n+1) H (.sl b o l c ep sz)=match H[b]? with
  |some (.box cs _)=>if o+l*sz<=cs.length then(aZ (eg n H) ((cs.drop o).take (l*sz))).map (.fs · l)else ab| some (.ct s cs _ e .loc)=>if ep=e/\sz=s/\o+l*sz<=cs.length then(aZ (eg n H) ((cs.drop o).take (l*sz))).map (.fs · l)else ab| some (.ct s _ _ e .nil)=>if ep=e/\sz=s then aa .aK else ab| some (.ct s _ _ e .es)=>if ep=e/\sz=s then aa .es else ab| _=>ab:=rfl
theorem EX{n b o e:Nat}:ic (n+1) (.ptr b o e) H=match H[b]? with
  |some (.box cs fl)=>cs.foldl (λH x=>ic n x H) (H.set b (.box cs (Nat.max fl cs.length)))
  |_=>H:=rfl
theorem tZ{n b o l c e sz:Nat}:ic (n+1) (.sl b o l c e sz) H=match H[b]? with
  |some (.box cs fl)=>((cs.drop o).take (l*sz)).foldl (λH x=>ic n x H) (H.set b (.box cs (Nat.max fl (o+l*sz))))
  |some (.ct s cs fl e d)=>((cs.drop o).take (l*sz)).foldl (λH x=>ic n x H) (H.set b (.ct s cs (Nat.max fl (o+l*sz)) e d))
  |_=>H:=rfl
theorem Oy{n f:Nat}{b:List C}:ic (n+1) (.cl f b) H=b.foldl (λH x=>ic n x H) H:=rfl
@[simp] theorem afs {n:Nat} {x:C}:Qf n H (.c x)=ic n x H:=rfl
@[simp] theorem ae5 {n:Nat} {x:C}:fC n H (.c x)=(eg n H x).map λy=>.c (.f y):=rfl
theorem wb{n:Nat}:∀(xs:List FC),aZ (eg n H) (xs.map .f)=aa xs
 |[]=>rfl| x::xs=>by simp[aZ,wb xs]
@[simp] theorem ae4 {n:Nat} {xs:List C}:bX n H (.a xs)=(aZ (eg n H) xs).map λys=>.a (ys.map .f):=rfl
@[simp] theorem ab4 {n:Nat} (xs:List FC):aZ (eg n H) (xs.map .f)=aa xs:=wb xs
@[simp] theorem afr {n:Nat} {xs:List C}:Qf n H (.a xs)=xs.foldl (λH x=>ic n x H) H:=rfl
@[simp] theorem Tq {n:Nat} {x:FC}:ic n (.f x) H=H:=by cases n<;>rfl
@[simp] theorem YL {n:Nat} (xs:List FC):(xs.map C.f).foldl (λH x=>ic n x H) H=H:=by
 induction xs with
 |nil=>rfl| cons x xs b=>simp only[afS,ag7];rw[Tq];exact b
end
theorem wrap64{n:Int}(b:-9223372036854775808<=n)(d:n<=9223372036854775807):IntKind.wrap .i64 n=n:=by
 simp only[IntKind.wrap,IntKind.bits,IntKind.signed];simp;omega
theorem bg{n:Int}(b:-9223372036854775808<=n:=by omega)(d:n<=9223372036854775807:=by omega):IntKind.wrap .i64 n=n:=wrap64 b d
@[simp] theorem cast_eq (a b:Nat):((a:Int)=(b:Int))=(a=b):=propext Int.natCast_inj
@[simp] theorem aba {b d:Type} (g:b->Option d):aZ g []=aa []:=rfl
@[simp] theorem YT {b d:Type} (g:b->Option d) (x:b) (xs:List b):aZ g (x::xs)=(g x).bind λy=>(aZ g xs).map (y::·):=by
 simp only[aZ];cases g x<;>cases aZ g xs<;>simp
@[simp] theorem acf (x:C) (xs:List C):aO ab (x::xs)=aa (.c x):=rfl
@[simp] theorem acg (n:Nat) (xs:List C):aO (aa n) xs=if n<=xs.length then aa (.a (xs.take n))else ab:=rfl
@[simp] theorem aq (H:aj) (n:Option Nat) (b o ep:Nat):aQ H n (.c (.ptr b o ep))=match H[b]? with
  |some (.box cs _)=>aO n (cs.drop o)| some (.ct _ cs _ e .loc)=>if ep=e then aO n (cs.drop o)else ab| _=>ab:=by
 simp only[aQ,aw];split
 .rename_i h;simp only[h];rfl
 .rename_i h;simp only[h];split<;>rfl
 .rename_i d g;split
  .rename_i h;exact absurd h (d _ _)
  .rename_i h;exact absurd h (g _ _ _ _)
  .rfl
theorem tU(H:aj)(n:Option Nat)(cs:List FC)(o:Nat):aQ H n (.c (.f (.fp cs o)))=aO n ((cs.drop o).map .f):=rfl
@[simp] theorem aU (H:aj) (b o ep:Nat) (xs:List C):cz H (.ptr b o ep) xs=match H[b]? with
  |some (.box cs fl)=>if fl<=o/\o+xs.length<=cs.length then aa (H.set b (.box (bp cs o xs) fl))else ab| some (.ct sz cs fl e .loc)=>if ep=e/\fl<=o/\o+xs.length<=cs.length then aa (H.set b (.ct sz (bp cs o xs) fl e .loc))else ab| _=>ab:=rfl
attribute [simp] bp cP
@[simp] theorem XZ (t:T) (cs:List C):dO t cs []=aa cs:=rfl
@[simp] theorem Ts (t:T) (cs:List C) (o n:Nat) (x:Arg) (ps:List (Nat × Nat × Arg)):dO t cs ((o,n,x)::ps)=(x.ev t).cells?.bind λxs=>if xs.length=n/\o+xs.length<=cs.length then dO t (bp cs o xs) ps else ab:=by
 simp only[dO];cases (x.ev t).cells?<;>rfl
@[simp] theorem adG (x:FC):oE (.c (.f x))=aa (.f x):=rfl
@[simp] theorem aaF (b o e:Nat):oE (.c (.ptr b o e))=aa (.ptr b o e):=rfl
@[simp] theorem abW (b o l c e s:Nat):oE (.c (.sl b o l c e s))=aa (.sl b o l c e s):=rfl
def Yt:V->Option V
 | .t _=>ab| v=>aa v
@[simp] theorem aea (x:C):Yt (.c x)=aa (.c x):=rfl
@[simp] theorem ad_ (x:List C):Yt (.a x)=aa (.a x):=rfl
@[simp] theorem acb (t:T) (H:aj) (n:Nat):cu t H (.tmp (P.nat n))=Yt (t.g n):=by
 simp only[cu,Rd];cases t.g n<;>rfl
@[simp] theorem abq (t:T) (H:aj) (n:Nat) (k:Option Nat):cu t H (.cell (P.nat n) k)=aQ H k (t.g n):=rfl
@[simp] theorem ab2 {t:T} {H:aj} {x:iv} {r:V}:uo [x] r ⟨t,[],H⟩↔∃b,cu t H x=aa b/\fC deep H b=aa r:=by
 simp only[uo,results,true_and,aZ];cases cu t H x<;>simp
@[simp] theorem ab3 {t:T} {H:aj} {x y:iv} {a b:V}:uo [x,y] (.t [a,b]) ⟨t,[],H⟩ ↔
  (∃d,cu t H x=aa d/\bX deep H d=aa a)/\∃d,cu t H y=aa d/\bX deep H d=aa b:=by
 simp only[uo,results,true_and,aZ];cases cu t H x with
 |none=>simp
 |some u=>cases cu t H y with
  |none=>simp| some w=>cases g:bX deep H u<;>cases j:bX deep H w<;>simp[fC,g,j]
@[simp] theorem YK {t:T} {H:aj} {x y z:iv} {a b c:V}:uo [x,y,z] (.t [a,b,c]) ⟨t,[],H⟩ ↔
  (∃d,cu t H x=aa d/\bX deep H d=aa a)/\(∃d,cu t H y=aa d/\bX deep H d=aa b)/\∃d,cu t H z=aa d/\bX deep H d=aa c:=by
 simp only[uo,results,true_and,aZ];cases cu t H x with
 |none=>simp
 |some u=>cases cu t H y with
  |none=>simp
  |some w=>cases cu t H z with
   |none=>simp| some q=>cases g:bX deep H u<;>cases j:bX deep H w<;>cases l:bX deep H q<;>simp[fC,g,j,l]
inductive Tg where|nil|es|fs
 deriving DecidableEq
def Tg.fc:Tg->FC
 | .nil=>.aK| .es=>.es| .fs=>.fs [] 0
def sl(g:Tg)(rows:List (List FC)):FC:=if rows.isEmpty then g.fc else .fs rows.flatten rows.length
def cA(sz:Nat)(rows:List (List FC)):Prop:=∀r∈rows,r.length=sz
theorem bW{sz:Nat}:∀{rows:List (List FC)},cA sz rows->rows.flatten.length=rows.length*sz
 |[],_=>by simp
 |r::rows,h=>by
  have:=bW (rows:=rows) λx b=>h x (afQ _ b);simp only[aga,afK,agm,this,h r afN,agn,Nat.one_mul];omega
theorem sV{sz:Nat}:∀{rows:List (List FC)} (j:Nat),cA sz rows->rows.flatten.drop (j*sz)=(rows.drop j).flatten
 |rows,0,_=>by simp
 |[],j+1,_=>by simp
 |r::rows,j+1,h=>by
  have b:=h r afN;have:=sV (rows:=rows) j λx d=>h x (afQ _ d);rw[aga,List.drop_succ_cons,<-this,agn,Nat.one_mul,ahl,b];simp[b,show j*sz+sz-sz=j*sz by omega]
theorem tI{sz:Nat}:∀{rows:List (List FC)} (j:Nat),cA sz rows->rows.flatten.take (j*sz)=(rows.take j).flatten
 |rows,0,_=>by simp
 |[],j+1,_=>by simp
 |r::rows,j+1,h=>by
  have b:=h r afN;have:=tI (rows:=rows) j λx d=>h x (afQ _ d);rw[aga,List.take_succ_cons,aga,<-this,agn,Nat.one_mul,List.take_append,b];simp[b,show j*sz+sz-sz=j*sz by omega];rw[afM (by omega)]
theorem cA.map{b:Type}{sz:Nat}{l:List b}{g:b->List FC}(h:∀x,(g x).length=sz):cA sz (l.map g):=λr d=>by
 obtain⟨x,_,rfl⟩:=af6.1 d;exact h x
theorem vG{sz j k:Nat}{rows:List (List FC)}{row:List FC}(d:cA sz rows)(b:rows[j]?=aa row)(l:k<=sz) :
  rows.flatten.drop (j*sz+k)=row.drop k++(rows.drop (j+1)).flatten:=by
 have g:j<rows.length:=(afD.1 b).1;have m:row.length=sz:=d row (af5 b);rw[<-ag9,sV j d,afL g,aga];have:rows[j]=row:=by simpa[afB g]using b
 rw[this,ahl,show k-row.length=0 by omega];simp
variable{H:aj}
theorem dw{sz j k:Nat}{rows:List (List FC)}{row:List FC}{x:FC}(b:cA sz rows)(d:rows[j]?=aa row)(l:row[k]?=aa x) :
  aQ H ab (.c (.f (.fp rows.flatten (j*sz+k))))=aa (.c (.f x)):=by
 have m:row.length=sz:=b row (af5 d);have g:k<row.length:=(afD.1 l).1;have e:=vG (k:=k) b d (by omega);simp only[aQ,aw,agr,e];rw[afL g];have:row[k]=x:=by simpa[afB g]using l
 simp[aO,this]
theorem uI{sz j k n:Nat}{rows:List (List FC)}{row:List FC}(b:cA sz rows)(d:rows[j]?=aa row)(g:k+n<=sz) :
  aQ H (aa n) (.c (.f (.fp rows.flatten (j*sz+k))))=aa (.a (((row.drop k).take n).map .f)):=by
 have l:row.length=sz:=b row (af5 d);have e:=vG (k:=k) b d (by omega);simp only[aQ,aw,agr,e];simp only[aO];rw[bu (by simp only[afT,afK,afX];omega)];rw[agA,age (by simp only[afT,afX];omega),List.map_take]
theorem bE{sz j:Nat}{rows:List (List FC)}{row:List FC}(b:cA sz rows)(d:rows[j]?=aa row) :
  aQ H (aa sz) (.c (.f (.fp rows.flatten (j*sz))))=aa (.a (row.map .f)):=by
 have g:row.length=sz:=b row (af5 d);have:=uI (H:=H) (k:=0) (n:=sz) b d (by omega);simp only[ahc,ag5]at this;rw[this,afM (by omega)]
theorem kU{sz j:Nat}{rows:List (List FC)}{row:List FC}{x:FC}(b:cA sz rows)(d:rows[j]?=aa row)(g:row[0]?=aa x) :
  aQ H ab (.c (.f (.fp rows.flatten (j*sz))))=aa (.c (.f x)):=dw (k:=0) b d g
theorem RA{j:Nat}{l:List Int}{x:Int}(b:l[j]?=aa x) :
  aQ H ab (.c (.f (.fp (l.map λn=>[fi n]).flatten (j*1))))=aa (vi x):=
 kU (row:=[fi x]) (cA.map λ_=>rfl) (by rw[agl,b];rfl) rfl
@[simp] theorem EG (g:Tg) (rows:List (List FC)):bo H (.f (sl g rows))=aa rows.length:=by
 cases rows with
 |nil=>cases g<;>rfl
 |cons r rows=>rfl
theorem a7{g:Tg}{rows:List (List FC)}{sz:Nat}{k:IntKind}{i:Int}(h0:0<=i)(b:i<rows.length) :
  bw H sz ab (.c (.f (sl g rows))) (.c (.f (.int k i)))=aa (.c (.f (.fp rows.flatten (i.toNat*sz)))):=by
 cases rows with
 |nil=>simp at b;omega
 |cons r rows=>
  simp only[agm]at b;simp[bw,kQ,sl,h0];omega
theorem BN{g:Tg}{rows:List (List FC)}{sz:Nat}(b:cA sz rows):cR H sz (.f (sl g rows))=aa (rows.flatten.map .f):=by
 cases rows with
 |nil=>cases g<;>simp[sl,Tg.fc,cR]
 |cons r rows=>
  have:=bW b;simp only[sl,ahp,afR,if_false,cR,this,if_true]
end
section
open Go
def Kf(tab:TB)(f:Nat)(args:List V)(r:V):Prop:=∀H,∃J,Ev tab (.fn f) args H r (H++J)
section
variable{tab:TB}{f:Nat}{args:List V}{r:V}
theorem Kf.pure{x:FC}(h:Kf tab f args (.c (.f x))):aX tab f args (.c (.f x)):=by
 obtain⟨J,h⟩:=h [];exact⟨_,_,h,by simp⟩
theorem Kf.eq{x:FC}(h:Kf tab f args (.c (.f x))):aX tab f args=Eq (.c (.f x)):=
 funext λr=>propext ⟨λk=>h.pure.WW k,λe=>e▸h.pure⟩
theorem aX.eq{r:V}(h:aX tab f args r):aX tab f args=Eq r:=funext λ_=>propext ⟨λk=>h.WW k,λe=>e▸h⟩
noncomputable def Ru (tab:TB) (f:Nat) (args:List V) (H:aj):aj:=Classical.epsilon λJ=>∃r,Ev tab (.fn f) args H r (H++J)
theorem Kf.ev(h:Kf tab f args r)(H:aj):Ev tab (.fn f) args H=E2 r (H++Ru tab f args H):=by
 have l:∃J,∃r,Ev tab (.fn f) args H r (H++J):=by obtain⟨J,b⟩:=h H;exact⟨J,r,b⟩
 have hs:∃r,Ev tab (.fn f) args H r (H++Ru tab f args H):=Classical.epsilon_spec l;obtain⟨J,b⟩:=h H;obtain⟨r',d⟩:=hs;obtain⟨rfl,e⟩:=b.WW d;funext x H';exact propext ⟨λk=>d.WW k,λ⟨g,j⟩=>g▸j▸d⟩
theorem Ev.eq{c:Callee}{H H':aj}(h:Ev tab c args H r H'):Ev tab c args H=E2 r H':=funext λ_=>funext λ_=>propext ⟨λk=>h.WW k,λ⟨b,d⟩=>b▸d▸h⟩
theorem Kf.A3{xs:List FC}(h:Kf tab f args (.a (xs.map .f))):aX tab f args (.a (xs.map .f)):=by
 obtain⟨J,h⟩:=h [];exact⟨_,_,h,by simp[fC]⟩
def QG(res:List iv)(r:V)(H:aj)(s:St):Prop:=s.defs=[]/\results s.aF s.heap res=aa r/\∃J,s.heap=H++J
theorem cr{ps:List P}{res:List iv}{body:aH}(x:tab f=aa ⟨ps,res,body⟩)(v:args.length=ps.length)
  (h:∀(H:aj) (Q:Option aH->St->Prop),(∀j s,QG res r H s->Q j s)->WP tab f ab [.code body] ⟨cO ps args .e,[],H⟩ Q):Kf tab f args r:=by
 intro H;have b:=h H (λ_ s=>QG res r H s) λ_ _ h=>h;obtain⟨n,m,d,j,s,g,u,l,J,q⟩:=b;exact⟨J,tN x v ⟨n,m,d,j,s,g,0,0,s.heap,by rw[u];rfl,by rw[l],q⟩⟩
@[simp] theorem aaP {t:T} {H H':aj} {x:iv}:QG [x] r H ⟨t,[],H'⟩↔cu t H' x=aa r/\∃J,H'=H++J:=by
 simp only[QG,results,true_and,aZ];cases cu t H' x<;>simp
theorem rV{m d:Nat}{x:V}(h:((CF tab m d (.fn f) args []).bind λp=>fC deep p.2 p.1)=aa x):aX tab f args x:=by
 rw[af3]at h;obtain⟨⟨r,H'⟩,b,g⟩:=h;exact⟨r,H',⟨m,d,b⟩,g⟩
theorem afu{tab:TB}{f:Nat}{args:List V}{x:V}(h:((CF tab 60 10 (.fn f) args []).bind λp=>fC deep p.2 p.1)=aa x):aX tab f args=Eq x:=aX.eq (rV h)
theorem cN{S:V->Prop}{ps:List P}{res:List iv}{body:aH}(y:tab f=aa ⟨ps,res,body⟩)(v:args.length=ps.length)
  (h:∀Q:Option aH->St->Prop,(∀j s r,S r->uo res r s->Q j s)->WP tab f ab [.code body] ⟨cO ps args .e,[],[]⟩ Q):∃r,S r/\aX tab f args r:=by
 have l:=h (λ_ s=>∃r,S r/\uo res r s) λ_ _ r b g=>⟨r,b,g⟩
 obtain⟨n,m,d,j,s,b,r,x,u,z,g,q⟩:=l;exact⟨r,x,z,s.heap,tN y v ⟨n,m,d,j,s,b,0,0,s.heap,by rw[u];rfl,g,rfl⟩,q⟩
variable{fn i:Nat}{ro:Option Nat}{k:List de}{ds:List dS}{Q:Option aH->St->Prop}
def uu(a x:Nat):aH:=.region [⟨D x,.bin .add (R a) (.k (.c (.f (.int .i64 1)))),ab⟩,⟨D a,.dr (R x),ab⟩] []
def ku(i a b c x:Nat)(body:aH):aH:=.seq (.region [⟨D c,.bin .lss (R a) (R b),ab⟩] []) (.seq (.cond (R c) .skip (.exit i)) (.seq body (uu a x)))
def AE(i a b c x:Nat)(body:aH):aH:=.block i (.loop (ku i a b c x body))
theorem cD{a b c x:Nat}{body:aH}{t:T}{H:aj}(N:Nat)(I:Nat->T->aj->Prop)(F:N<=9223372036854775807)(y:a≠b)(A:x≠b)
  (g:t.g a=vi 0) (l:t.g b=vi N) (h0:I 0 t H)
  (step:∀j t H,j<N->I j t H->t.g a=vi j->t.g b=vi N->
   (∀q H',I (j+1) ((q.s x (vi (j+1:Nat))).s a (vi (j+1:Nat))) H'->q.g a=vi j->q.g b=vi N->
    WP tab fn ro (.code (uu a x)::.inLoop (ku i a b c x body)::.inBlock i::k) ⟨q,ds,H'⟩ Q)->
   WP tab fn ro (.code body::.code (uu a x)::.inLoop (ku i a b c x body)::.inBlock i::k) ⟨t.s c (vb ae),ds,H⟩ Q)
  (done:∀t H,I N t H->t.g a=vi N->t.g b=vi N->WP tab fn ro k ⟨t.s c (vb ag),ds,H⟩ Q) :
  WP tab fn ro (.code (AE i a b c x body)::k) ⟨t,ds,H⟩ Q:=by
 have m:∀ops:List aV,ops.all (·.op.dB)=ae->ro=ab\/ops.all (·.op.dB)=ae:=λ_ h=>.inr h;refine aI ?_;refine dx (λn s=>∃j t H,s=⟨t,ds,H⟩/\j<=N/\n=N-j/\I j t H/\t.g a=vi j/\t.g b=vi N) N ⟨0,t,H,rfl,by omega,by omega,h0,g,l⟩ ?_;rintro n s ⟨j,t,H,rfl,J,rfl,B,g,l⟩ E;apply ak;refine av (m _ rfl) ?_;simp[g,l];by_cases d:j<N
 .rw[decide_eq_true d];apply ak;refine al (by simp) ?_;refine aS ?_;apply ak;refine step j t H d B g l λq H' u v z=>?_;refine av (m _ rfl) ?_;simp[v];rw[bg];refine E (N-(j+1)) _ (by omega) ⟨j+1,_,H',rfl,by omega,rfl,by simpa using u,by simp,?_⟩;simp[y,A,z]
 .have:j=N:=by omega
  subst this;rw[decide_eq_false d];apply ak;refine aG (by simp) ?_;refine bT (k':=k) (by simp[exitTo]) ?_;exact done t H B g l
def mo(a x y:Nat):aH:=.region [⟨D x,.dr (R a),ab⟩,⟨D y,.bin .add (R x) (.k (.c (.f (.int .i64 1)))),ab⟩,⟨D a,.dr (R y),ab⟩] []
def gU(i a c x y:Nat)(b:List aV)(body:aH):aH:=.seq (.seq (.region b []) (.cond (R c) .skip (.exit i))) (.seq body (mo a x y))
def BO(i a c x y:Nat)(b:List aV)(body:aH):aH:=.block i (.loop (gU i a c x y b body))
theorem bA{a c x y:Nat}{g:List aV}{body:aH}{t:T}{H:aj}(N:Nat)(I:Nat->T->aj->Prop)(J:N<=9223372036854775807)(B:g.all (·.op.dB)=ae)
  (d:t.g a=vi 0) (h0:I 0 t H)
  (l:∀j t H (L:St->Prop),j<=N->I j t H->t.g a=vi j->(∀b,I j b H->b.g a=vi j->b.g c=vb (decide ((j:Int)<(N:Int)))->L ⟨b,ds,H⟩)->xv tab g ⟨t,ds,H⟩ L)
  (step:∀j t H,j<N->I j t H->t.g a=vi j->
   (∀b H',I (j+1) (((b.s x (vi j)).s y (vi (j+1:Nat))).s a (vi (j+1:Nat))) H'->b.g a=vi j->
    WP tab fn ro (.code (mo a x y)::.inLoop (gU i a c x y g body)::.inBlock i::k) ⟨b,ds,H'⟩ Q)->
   WP tab fn ro (.code body::.code (mo a x y)::.inLoop (gU i a c x y g body)::.inBlock i::k) ⟨t,ds,H⟩ Q)
  (done:∀t H,I N t H->t.g a=vi N->WP tab fn ro k ⟨t,ds,H⟩ Q) :
  WP tab fn ro (.code (BO i a c x y g body)::k) ⟨t,ds,H⟩ Q:=by
 have m:∀ops:List aV,ops.all (·.op.dB)=ae->ro=ab\/ops.all (·.op.dB)=ae:=λ_ h=>.inr h;refine aI ?_;refine dx (λn s=>∃j t H,s=⟨t,ds,H⟩/\j<=N/\n=N-j/\I j t H/\t.g a=vi j) N ⟨0,t,H,rfl,by omega,by omega,h0,d⟩ ?_;rintro n s ⟨j,t,H,rfl,E,rfl,q,d⟩ F;apply ak;apply ak;refine av (m _ B) ?_;refine l j t H _ E q d λb q d u=>?_;by_cases A:j<N
 .rw[decide_eq_true (by omega)]at u;refine al u ?_;refine aS ?_;apply ak;refine step j b H A q d λb H' v z=>?_;refine av (m _ rfl) ?_;simp[z];rw[bg];exact F (N-(j+1)) _ (by omega) ⟨j+1,_,H',rfl,by omega,rfl,by simpa using v,by simp⟩
 .have:j=N:=by omega
  subst this;rw[decide_eq_false (by omega)]at u;refine aG u ?_;refine bT (k':=k) (by simp[exitTo]) ?_;exact done b H q d
end
end
section
open Go
def mD{b:Type}(l:List b)(p:b->Bool):Int:=match l.findIdx? p with|some j=>j|none=>-1
theorem Jg{b:Type}(l:List b)(p:b->Bool):decide (0<=mD l p)=l.any p:=by
 unfold mD;cases h:l.findIdx? p with
 |none=>
  rw[List.findIdx?_eq_none_iff]at h;have:l.any p=ag:=by rw[List.any_eq_false];intro x m;simp[h x m]
  simp[this]
 |some j=>
  rw[agX]at h;obtain⟨d,g,_⟩:=h;have:l.any p=ae:=by rw[List.any_eq_true];exact⟨l[j],afH d,g⟩
  simp[this]
theorem Jf{b:Type}{l:List b}{p:b->Bool}{j:Nat}(d:j<l.length)(m:p l[j]=ae)(g:∀(i:Nat) (hi:i<j),p (l[i]'(by omega))=ag):mD l p=j:=by
 have:l.findIdx? p=aa j:=by
  rw[agX];exact⟨d,m,λi hi=>by simp[g i hi]⟩
 simp[mD,this]
theorem Jh{b:Type}{l:List b}{p:b->Bool}(d:∀(i:Nat) (hi:i<l.length),p l[i]=ag):mD l p = -1:=by
 have:l.findIdx? p=ab:=by
  rw[List.findIdx?_eq_none_iff];intro x g;obtain⟨i,hi,rfl⟩:=List.getElem_of_mem g;exact d i hi
 simp[mD,this]
def ints(l:List Int):List (List FC):=l.map λn=>[fi n]
@[simp] theorem aa3 (l:List Int):(ints l).length=l.length:=by simp[ints]
theorem kr{j:Nat}{l:List Int}(b:j<l.length){H:aj}:aQ H ab (.c (.f (.fp (ints l).flatten j)))=aa (vi l[j]):=by
 have:=RA (H:=H) (afB b);simpa[ints]using this
variable{tab:TB}
def Rm(t:List aV):aH:=.block 1 (.seq (.region [⟨D 10,.dr (R 8),ab⟩,⟨D 5,.dr (R 10),ab⟩] []) (.seq
 (.region t []) (.cond (R 16) (.seq (.region [⟨D 17,.dr (R 5),ab⟩,⟨D 4,.dr (R 17),ab⟩] []) .ret) .skip)))
def Xj(t:List aV):aM:=⟨[P.nat 0,P.nat 1],[.tmp (P.nat 4)],.seq (.region [⟨D 4,.dr (.k (.c (.f (.int .i64 0)))),ab⟩] [])
 (.seq (.seq (.region [⟨D 6,.dr (R 0),ab⟩,⟨D 7,.len (R 6),ab⟩,⟨D 8,.dr (.k (.c (.f (.int .i64 0)))),ab⟩] []) (AE 0 8 7 9 18 (Rm t)))
 (.seq (.region [⟨D 4,.dr (.k (.c (.f (.int .i64 (-1))))),ab⟩] []) .ret))⟩
def S':List aV:=[⟨D 11,.dr (R 1),ab⟩,⟨D 12,.dr (R 0),ab⟩,⟨D 13,.dr (R 5),ab⟩,⟨D 14,.ez 1 ab (R 12) (R 13),ab⟩,⟨D 15,.load ab (R 14),ab⟩,⟨D 16,.bin .eql (R 11) (R 15),ab⟩]
def S8(sz:Nat)(b:Option Nat):List aV:=[⟨D 11,.dr (R 1),ab⟩,⟨D 12,.dr (R 0),ab⟩,⟨D 13,.dr (R 5),ab⟩,⟨D 14,.ez sz ab (R 12) (R 13),ab⟩,⟨D 15,.load b (R 14),ab⟩,⟨D 16,.gN (R 11) [(R 15)] ae,ab⟩]
theorem N1{f:Nat}{d:List aV}(U:tab f=aa (Xj d)){x y:V}{E:Type}{l:List E}{p:E->Bool}(S:l.length<=9223372036854775807)
  (W:∃c,x=.c c/\∀H,bo H c=aa l.length)
  (g:∀(j:Nat) (v:j<l.length) (t:T) (H:aj) (L:St->Prop),t.g 0=x->t.g 1=y->t.g 5=vi j->
   (∀b J,b.g 0=x->b.g 1=y->b.g 5=vi j->b.g 7=t.g 7->b.g 8=t.g 8->b.g 16=vb (p l[j])->L ⟨b,[],H++J⟩)->xv tab d ⟨t,[],H⟩ L) :
  Kf tab f [x,y] (vi (mD l p)):=by
 obtain⟨c,rfl,N⟩:=W;refine cr U rfl λH Q A=>?_;apply ak;refine av (.inl rfl) ?_;simp;apply ak;apply ak;refine av (.inl rfl) ?_;simp[N];refine cD l.length (λj t H'=>t.g 0=.c c/\t.g 1=y/\(∃J,H'=H++J)/\∀(i:Nat) (hi:i<l.length),i<j->p l[i]=ag) S (by decide) (by decide) (by simp) (by simp) (by simp) ?_ ?_
 .rintro j t _ v ⟨h0,z,⟨J,rfl⟩,q⟩ u B next
  refine aI ?_;apply ak;refine av (.inl rfl) ?_;simp[u];apply ak;refine av (.inl rfl) ?_;refine g j v _ _ _ (by simp[h0]) (by simp[z]) (by simp) λb J' g0 F I K M m=>?_;cases s:p l[j]with
  |true=>
   refine al (by simp[m,s]) ?_;apply ak;refine av (.inl rfl) ?_;simp[I];refine az (A _ _ ?_);have:=Jf v s (λi hi=>q i (by omega) hi);simp[this]
  |false=>
   refine aG (by simp[m,s]) ?_;refine aS (aA (next _ _ ?_ (by simp[M,u]) (by simp[K,B])));refine⟨by simp[g0],by simp[F],⟨J++J',by simp⟩,λi hi O=>?_⟩;by_cases e:i=j
   .subst e;exact s
   .exact q i hi (by omega)
 .rintro t _ ⟨h0,z,⟨J,rfl⟩,q⟩ u B;apply ak;refine av (.inl rfl) ?_;simp;refine az (A _ _ ?_);have:=Jh (l:=l) (p:=p) (λi hi=>q i hi hi);simp[this]
theorem AK{f:Nat}(x:tab f=aa (Xj S'))(g:Tg)(l:List Int)(v:Int)(u:l.length<=9223372036854775807) :
  Kf tab f [.c (.f (sl g (ints l))),vi v] (vi (mD l (· == v))):=by
 refine N1 x u ⟨_,rfl,λH=>by simp⟩ ?_;intro j s t H L h0 b d m;simp[S',h0,b,d,a7,s,kr];have:=m ((((((t.s 11 (vi v)).s 12 (.c (.f (sl g (ints l))))).s 13 (vi j)).s 14 (.c (.f (.fp (ints l).flatten j)))).s 15 (vi l[j])).s 16 (vb (decide (v=l[j])))) [] (by simp[h0]) (by simp[b]) (by simp[d]) (by simp) (by simp) (by
  have q:decide (v=l[j])=(l[j] == v):=by rw[Bool.eq_iff_iff];simp;exact eq_comm
  simp only[T.g_s,if_true,q])
 simpa using this
theorem mW{f sz:Nat}{v:Option Nat}(E:tab f=aa (Xj (S8 sz v))){q:Type}(l:List q)(enc:q->List FC)(val:q->V)(p:q->Bool)(g:Tg)(k:Nat)(b:List FC)
  (A:l.length<=9223372036854775807) (d:∀(j:Nat) (m:j<l.length) (H:aj),aQ H v (.c (.f (.fp (l.map enc).flatten (j*sz))))=aa (val l[j]))
  (B:∀x∈l,Kf tab k (val x::b.map λc=>.c (.f c)) (vb (p x))) :
  Kf tab f [.c (.f (sl g (l.map enc))),.c (.f (.fn k b))] (vi (mD l p)):=by
 refine N1 E A ⟨_,rfl,λH=>by simp⟩ ?_;intro j m t H L h0 s u y;have z:=(B l[j] (afH m)).ev H;have hi:=a7 (H:=H) (g:=g) (rows:=l.map enc) (sz:=sz) (k:=.i64) (i:=(j:Int)) (by omega) (by simpa using m);simp[S8,h0,s,u,hi,d j m,z];exact y _ _ (by simp[h0]) (by simp[s]) (by simp[u]) (by simp) (by simp) (by simp)
def I6(f:Nat):aM:=⟨[P.nat 0,P.nat 1],[.tmp (P.nat 4)],.seq (.region [⟨D 4,.dr (.k (.c (.f (.bool ag)))),ab⟩] []) (.seq
 (.region [⟨D 5,.dr (R 0),ab⟩,⟨D 6,.dr (R 1),ab⟩,⟨D 7,.call f [(R 5),(R 6)] ag,ab⟩,⟨D 8,.bin .geq (R 7) (.k (.c (.f (.int .i64 0)))),ab⟩,⟨D 4,.dr (R 8),ab⟩] []) .ret)⟩
theorem ik{f k:Nat}(m:tab f=aa (I6 k)){a b:FC}{d:Type}{l:List d}{p:d->Bool}(h:Kf tab k [.c (.f a),.c (.f b)] (vi (mD l p))) :
  Kf tab f [.c (.f a),.c (.f b)] (vb (l.any p)):=by
 refine cr m rfl λH Q g=>?_;apply ak;refine av (.inl rfl) ?_;simp;apply ak;refine av (.inl rfl) ?_;have j:=h.eq;simp[j];refine az (g _ _ ?_);simp[Jg]
end
section
open Go
theorem au{H:aj}{b:Nat}{x:bB}(h:H[b]?=aa x):b<H.length:=(afD.1 h).1
theorem fD{j l:Type}{g g':j->Option l}:∀{xs:List j} {ys:List l},(∀x y,x∈xs->g x=aa y->g' x=aa y)->aZ g xs=aa ys->aZ g' xs=aa ys
 |[],ys,_,h=>h
 |x::xs,ys,hi,h=>by
  simp only[aZ]at h ⊢;cases d:g x with
  |none=>simp[d]at h
  |some y=>
   cases b:aZ g xs with
   |none=>simp[d,b]at h
   |some zs=>
    simp only[d,b]at h;rw[hi x y afN d,fD (λx y m=>hi x y (afQ _ m)) b];exact h
theorem wc{j l:Type}{g:j->Option l}:∀{xs:List j} {ys:List l},aZ g xs=aa ys->ys.length=xs.length
 |[],ys,h=>by simp[aZ]at h;subst h;rfl
 |x::xs,ys,h=>by
  simp only[aZ]at h;cases d:g x with
  |none=>simp[d]at h
  |some y=>
   cases b:aZ g xs with
   |none=>simp[d,b]at h| some zs=>simp[d,b]at h;subst h;simp[wc b]
theorem tW{q s:Type}{g:q->Option s}:∀{xs b:List q} {ys d:List s},aZ g xs=aa ys->aZ g b=aa d->aZ g (xs++b)=aa (ys++d)
 |[],b,ys,d,h,l=>by simp[aZ]at h;subst h;simpa using l
 |x::xs,b,ys,d,h,l=>by
  simp only[aZ,agu]at h ⊢;cases m:g x with
  |none=>simp[m]at h
  |some y=>
   cases j:aZ g xs with
   |none=>simp[m,j]at h| some zs=>simp[m,j]at h;subst h;simp[tW j l]
def il:Nat->aj->C->Option FC
 |_,_,.f x=>aa x| 0,_,_=>ab
 |n+1,H,.ptr b off _=>match H[b]? with
  |some (.box cs _)=>(aZ (il n H) cs).map (.fp · off)| _=>ab
 |n+1,H,.sl b o l _ _ sz=>match H[b]? with
  |some (.box cs _)=>if o+l*sz<=cs.length then(aZ (il n H) ((cs.drop o).take (l*sz))).map (.fs · l)else ab| _=>ab
 |_+1,_,_=>ab
@[simp] theorem aaM {n:Nat} {H:aj} {x:FC}:il n H (.f x)=aa x:=by cases n<;>rfl
@[simp] theorem Cl {n:Nat} {H:aj}:∀(xs:List FC),aZ (il n H) (xs.map .f)=aa xs
 |[]=>rfl| x::xs=>by simp only[afS,aZ,aaM,Cl xs]
theorem ry{H H':aj}(j:∀(b:Nat) cs fl,H[b]?=aa (.box cs fl)->∃d,H'[b]?=aa (.box cs d)):∀(n:Nat) (x:C) (y:FC),il n H x=aa y->il n H' x=aa y
 |n,.f x,y,h=>by simpa using h
 |0,.ptr _ _ _,_,h=>by simp[il]at h
 |0,.sl _ _ _ _ _ _,_,h=>by simp[il]at h
 |n+1,.ptr b off e,y,h=>by
  simp only[il]at h ⊢;split at h
  .rename_i cs fl g;obtain⟨d,m⟩:=j b cs fl g;simp only[m];rw[afF]at h ⊢;obtain⟨zs,q,s⟩:=h;exact⟨zs,fD (λx y _=>ry j n x y) q,s⟩
  .simp at h
 |n+1,.sl b o l c e sz,y,h=>by
  simp only[il]at h ⊢;split at h
  .rename_i cs fl g;obtain⟨d,m⟩:=j b cs fl g;simp only[m];split at h
   .rename_i u;rw[bu u];rw[afF]at h ⊢;obtain⟨zs,q,s⟩:=h;exact⟨zs,fD (λx y _=>ry j n x y) q,s⟩
   .simp at h
  .simp at h
 |0,.cl _ _,_,h=>by simp[il]at h
 |0,.yl _,_,h=>by simp[il]at h
 |0,.mp _,_,h=>by simp[il]at h
 |0,.it _,_,h=>by simp[il]at h
 |0,.bm _ _,_,h=>by simp[il]at h
 |0,.mi _,_,h=>by simp[il]at h
 |_+1,.cl _ _,_,h=>by simp[il]at h
 |_+1,.yl _,_,h=>by simp[il]at h
 |_+1,.mp _,_,h=>by simp[il]at h
 |_+1,.it _,_,h=>by simp[il]at h
 |_+1,.bm _ _,_,h=>by simp[il]at h
 |_+1,.mi _,_,h=>by simp[il]at h
theorem Ax{H:aj}:∀(n:Nat) (x:C) (y:FC),il n H x=aa y->eg n H x=aa y
 |n,.f x,y,h=>by simpa using h
 |0,.ptr _ _ _,_,h=>by simp[il]at h
 |0,.sl _ _ _ _ _ _,_,h=>by simp[il]at h
 |n+1,.ptr b off e,y,h=>by
  simp only[il]at h;simp only[eg];split at h
  .rename_i cs fl d
   try simp only[d]
   rw[afF]at h ⊢;obtain⟨zs,g,j⟩:=h;exact⟨zs,fD (λx y _=>Ax n x y) g,j⟩
  .simp at h
 |n+1,.sl b o l c e sz,y,h=>by
  simp only[il]at h;simp only[eg];split at h
  .rename_i cs fl d
   try simp only[d]
   split at h
   .rename_i m;rw[bu m];rw[afF]at h ⊢;obtain⟨zs,g,j⟩:=h;exact⟨zs,fD (λx y _=>Ax n x y) g,j⟩
   .simp at h
  .simp at h
 |0,.cl _ _,_,h=>by simp[il]at h
 |0,.yl _,_,h=>by simp[il]at h
 |0,.mp _,_,h=>by simp[il]at h
 |0,.it _,_,h=>by simp[il]at h
 |0,.bm _ _,_,h=>by simp[il]at h
 |0,.mi _,_,h=>by simp[il]at h
 |_+1,.cl _ _,_,h=>by simp[il]at h
 |_+1,.yl _,_,h=>by simp[il]at h
 |_+1,.mp _,_,h=>by simp[il]at h
 |_+1,.it _,_,h=>by simp[il]at h
 |_+1,.bm _ _,_,h=>by simp[il]at h
 |_+1,.mi _,_,h=>by simp[il]at h
theorem En{H:aj}:∀{n m:Nat} {x:C} {y:FC},il n H x=aa y->n<=m->il m H x=aa y
 |n,m,.f x,y,h,_=>by simpa using h
 |0,_,.ptr _ _ _,_,h,_=>by simp[il]at h
 |0,_,.sl _ _ _ _ _ _,_,h,_=>by simp[il]at h
 |_+1,0,_,_,_,s=>by omega
 |n+1,m+1,.ptr b off e,y,h,s=>by
  simp only[il]at h ⊢;split at h
  .rename_i cs fl d
   try simp only[d]
   rw[afF]at h ⊢;obtain⟨zs,g,j⟩:=h;exact⟨zs,fD (λx y _ q=>En q (by omega)) g,j⟩
  .simp at h
 |n+1,m+1,.sl b o l c e sz,y,h,s=>by
  simp only[il]at h ⊢;split at h
  .rename_i cs fl d
   try simp only[d]
   split at h
   .rename_i u;rw[bu u];rw[afF]at h ⊢;obtain⟨zs,g,j⟩:=h;exact⟨zs,fD (λx y _ q=>En q (by omega)) g,j⟩
   .simp at h
  .simp at h
 |0,_,.cl _ _,_,h,_=>by simp[il]at h
 |0,_,.yl _,_,h,_=>by simp[il]at h
 |0,_,.mp _,_,h,_=>by simp[il]at h
 |0,_,.it _,_,h,_=>by simp[il]at h
 |0,_,.bm _ _,_,h,_=>by simp[il]at h
 |0,_,.mi _,_,h,_=>by simp[il]at h
 |_+1,_+1,.cl _ _,_,h,_=>by simp[il]at h
 |_+1,_+1,.yl _,_,h,_=>by simp[il]at h
 |_+1,_+1,.mp _,_,h,_=>by simp[il]at h
 |_+1,_+1,.it _,_,h,_=>by simp[il]at h
 |_+1,_+1,.bm _ _,_,h,_=>by simp[il]at h
 |_+1,_+1,.mi _,_,h,_=>by simp[il]at h
theorem W4{H:aj}{n m:Nat}{x:C}{y:FC}(h:il n H x=aa y)(b:n<=m):eg m H x=aa y:=Ax m x y (En h b)
theorem B5{H:aj}(L:aj){n:Nat}{x:C}{y:FC}(h:il n H x=aa y):il n (H++L) x=aa y:=
 ry (λb cs fl d=>⟨fl,by rw[afy (au d)];exact d⟩) n x y h
def Tg.os:Tg->Os
 | .nil=>.nil| _=>.es
def LB(z:Bool)(H:aj)(sz:Nat)(v:V)(g:Tg)(rows:List (List FC)):Prop:=
 (rows=[]/\v=.c (.f g.fc)/\g≠.fs)\/
 ∃b ep fl d cs,v=.c (.sl b 0 rows.length 0 ep sz)/\H[b]?=aa (.ct sz cs fl ep d)/\aZ (il 60 H) cs=aa rows.flatten/\fl<=cs.length/\(z=ae->fl=0)/\
  (rows=[]->d=g.os/\g≠.fs)/\(rows≠[]->d=.loc)
variable{z:Bool}{H H':aj}{sz bytes:Nat}{v y:V}{g:Tg}{rows:List (List FC)}{row:List FC}{cs:List C}
theorem LB.push(h:LB z H sz v g rows)(L:aj):LB z (H++L) sz v g rows:=by
 rcases h with h|⟨b,ep,fl,st,cs,h1,h2,h3,h4⟩
 .exact .inl h
 .exact .inr ⟨b,ep,fl,st,cs,h1,by rw[afy (au h2)];exact h2,fD (λx y _=>B5 L) h3,h4⟩
theorem LB.es0:LB z H sz (.c (.f .es)) .es []:=.inl ⟨rfl,rfl,by decide⟩
theorem LB.app(h:LB z H sz v g rows)(hg:cA sz rows)(K:row.length=sz)(oe:sz≠0)(hy:cS H sz y=aa (1,cs))(hc:aZ (il 60 H) cs=aa row)(l:bU (rows.length+1) bytes=ae) :
  ∃E H',cw H sz bytes v y=aa (E,H')/\LB z H' sz E g (rows++[row])/\H.length<=H'.length/\(∀(b:Nat) cs fl,H[b]?=aa (.box cs fl)->H'[b]?=aa (.box cs fl)):=by
 rcases h with⟨rfl,rfl,u⟩|⟨b,ep,fl,st,ds,rfl,h2,h3,F,J,h4,h5⟩
 .have j:bU 1 bytes=ae:=by simpa using l
  refine⟨.c (.sl H.length 0 1 0 0 sz),H++[.ct sz cs 0 0 .loc],?_,?_,by simp,λb cs fl B=>by rw[afy (au B)];exact B⟩
  .cases g with
   |nil=>simp[cw,hy,oe,Tg.fc,j]| es=>simp[cw,hy,oe,Tg.fc,j]| fs=>exact absurd rfl u
  .exact .inr ⟨H.length,0,0,.loc,cs,by simp,by simp,by simpa using fD (λx y _=>B5 _) hc,by simp,λ_=>rfl,λh=>by simp at h,λ_=>rfl⟩
 .have I:rows.length*sz=ds.length:=by rw[<-wc h3,bW hg]
  have A:∀(q:Nat) cs' m,H[q]?=aa (.box cs' m)->∃s,(H.set b (.ct sz (ds++cs) fl (ep+1) .loc))[q]?=aa (.box cs' s):=by
   intro q cs' m d;have:b≠q:=by rintro rfl;rw[h2]at d;cases d
   exact⟨m,by rw[ae2 this];exact d⟩
  refine⟨.c (.sl b 0 (rows.length+1) 0 (ep+1) sz),H.set b (.ct sz (ds++cs) fl (ep+1) .loc),?_,?_,by simp,?_⟩
  .simp only[cw,hy,oe,if_false,h2,and_self,if_true];simp only[Nat.add_one_ne_zero,if_false];rw[bu ⟨trivial,I,by omega⟩,l];simp
  .refine .inr ⟨b,ep+1,fl,.loc,ds++cs,by simp,?_,?_,?_,J,λh=>by simp at h,λ_=>rfl⟩
   .rw[afC (au h2)]
   .rw[agY];simpa using tW (fD (λx y _=>ry A 60 x y) h3) (fD (λx y _=>ry A 60 x y) hc)
   .simp only[afK];omega
  .intro q cs' m d;have:b≠q:=by rintro rfl;rw[h2]at d;cases d
   rw[ae2 this];exact d
theorem LB.len(h:LB z H sz v g rows):∃c,v=.c c/\bo H c=aa rows.length:=by
 rcases h with⟨rfl,rfl,j⟩|⟨b,ep,fl,st,ds,rfl,h2,h3,d,l,h4,h5⟩
 .cases g<;>exact⟨_,rfl,rfl⟩
 .exact⟨_,rfl,by simp[bo,h2]⟩
theorem LB.fz(h:LB z H sz v g rows)(hg:cA sz rows):bX deep H v=aa (.c (.f (sl g rows))):=by
 rcases h with⟨rfl,rfl,d⟩|⟨b,ep,fl,st,ds,rfl,h2,h3,j,s,h4,h5⟩
 .simp[sl]
 .have q:rows.length*sz=ds.length:=by rw[<-wc h3,bW hg]
  cases rows with
  |nil=>
   obtain⟨rfl,d⟩:=h4 rfl;cases g with
   |nil=>simp[deep,ml,h2,Tg.os,sl,Tg.fc]| es=>simp[deep,ml,h2,Tg.os,sl,Tg.fc]| fs=>exact absurd rfl d
  |cons r rs=>
   have:=h5 (by simp);subst this;have m:aZ (eg 63 H) ds=aa (r::rs).flatten:=fD (λx y _ l=>W4 l (by decide)) h3;simp only[aaL,deep,ml,h2];rw[bu ⟨trivial,trivial,by omega⟩,ag5,afM (by omega),m];simp[sl]
theorem LB.fzV(h:LB z H sz v g rows)(hg:cA sz rows):fC deep H v=aa (.c (.f (sl g rows))):=by
 have:=h.fz hg;obtain⟨c,rfl,_⟩:=h.len;exact this
theorem pz{b fl c:Nat}(h:H[b]?=aa (.box cs fl))(d:cs.length=sz):cS H sz (.c (.sl b 0 1 c 0 sz))=aa (1,cs):=by
 simp[cS,bo,cR,h,d];rw[<-d,agc]
end
section
open Go
def Da(P:Program):List Field->Nat->Nat->Bool
 |[],o,n=>o == n| f::b,o,n=>f.offset == o&&Da P b (o+P.cellsOf f.type) n
def gX(P:Program):Nat->TypeId->Bool
 |0,_=>ag
 |n+1,t=>match P.underlying t with
  |some .bool=>P.cellsOf t == 1| some (.int _)=>P.cellsOf t == 1| some .string=>P.cellsOf t == 1| some (.slice e)=>P.cellsOf t == 1&&P.cellsOf e != 0&&gX P n e| some (.struct b)=>Da P b.toList 0 (P.cellsOf t)&&b.toList.all λf=>gX P n f.type
  |some (.array k e)=>P.cellsOf t == k*P.cellsOf e&&gX P n e| _=>ag
def yB(S:TypeId->List FC->Prop):List TypeId->List FC->Prop
 |[],xs=>xs=[]| t::ts,xs=>∃p q,xs=p++q/\S t p/\yB S ts q
def sy(P:Program):Nat->TypeId->List FC->Prop
 |0,_,_=>False
 |n+1,t,xs=>match P.underlying t with
  |some .bool=>∃b,xs=[.bool b]| some (.int k)=>∃m,xs=[.int k m]/\(Lit.int k m).wf=ae| some .string=>∃s,xs=[.str s]/\s.size<=maxLen| some (.slice e)=>∃g rows,xs=[sl g rows]/\cA (P.cellsOf e) rows/\rows.length<=maxLen/\∀r∈rows,sy P n e r| some (.struct d)=>yB (sy P n) (d.toList.map (·.type)) xs| some (.array k e)=>∃rows,xs=rows.flatten/\rows.length=k/\cA (P.cellsOf e) rows/\∀r∈rows,sy P n e r| _=>False
theorem vN{m:Type}{sz:Nat}:∀{rows:List (List m)} {j k:Nat} {row:List m},(∀r∈rows,r.length=sz)->rows[j]?=aa row->k<sz->rows.flatten[j*sz+k]?=row[k]?
 |[],j,k,row,_,b,_=>by simp at b
 |r::rows,0,k,row,d,b,g=>by
  simp at b;subst b;have:=d r afN;rw[aga,afy (by omega)];simp
 |r::rows,j+1,k,row,d,b,g=>by
  have l:=d r afN;rw[aga,List.getElem?_append_right (by rw[l,agn];omega)];have e:(j+1)*sz+k-r.length=j*sz+k:=by rw[l,agn];omega
  rw[e];exact vN (rows:=rows) (λx q=>d x (afQ _ q)) (by simpa using b) g
theorem vO{d:Type}{sz:Nat}:∀{rows:List (List d)},(∀r∈rows,r.length=sz)->rows.flatten.length=rows.length*sz
 |[],_=>by simp
 |r::rows,h=>by
  have:=vO (rows:=rows) λx b=>h x (afQ _ b);simp only[aga,afK,agm,this,h r afN,agn,Nat.one_mul];omega
def E6(w:World):Nat->Nat->Prop:=λc _=>c<w.heap.size
theorem F8{w:World}{a:Addr}{v:Value}(h:w.cell? a=aa v):a.block<w.heap.size/\a.spot=ab:=by
 unfold World.cell? at h;split at h
 .rename_i b;split at h
  .simp at h
  .rename_i hs;refine⟨?_,by simpa using hs⟩;exact(Array.getElem?_eq_some_iff.1 b).1
 .simp at h
theorem A2.flatten{l m:Type}{R:l->m->Prop}{g:List (List l)}{d:List (List m)}(j:g.length=d.length)
  (h:∀(i:Nat) xs ys,g[i]?=aa xs->d[i]?=aa ys->A2 R xs ys):A2 R g.flatten d.flatten:=by
 induction g generalizing d with
 |nil=>cases d with
  |nil=>exact A2.nil| cons y ys=>simp at j
 |cons x xs u=>cases d with
  |nil=>simp at j
  |cons y ys=>
   rw[aga,aga];exact(h 0 x y rfl rfl).append (u (by simpa using j) λi a b q s=>h (i+1) a b (by simpa using q) (by simpa using s))
section
variable{H:Type}{enc:TypeId × Value->H}{P:Program}{w:World}{base:Nat}{spare:Nat->Bool}{held:Bool}{σ:Nat->FuncId}
def aao(σ:Nat->FuncId)(P:Program)(w:World)(n:Nat)(t:TypeId)(cs:List Value):Prop:=∃xs,A2 (cX σ (E6 w) w) xs cs/\sy P n t xs
theorem tQ{n:Nat}(u:∀{t:TypeId} {fuel:Nat} {cs:List Value} {x:DataW H × List MemPlace},gX P n t=ae->DataW.trod enc P w base spare held fuel t cs=aa x->aao σ P w n t cs/\cs.length=P.cellsOf t)
  {fuel:Nat}:∀(b:List Field) (o N:Nat) (cs:List Value),Da P b o N=ae->(b.all λf=>gX P n f.type)=ae->cs.length=N->
   (∀f∈b,∃x,DataW.trod enc P w base spare held fuel f.type ((cs.drop f.offset).take (P.cellsOf f.type))=aa x)->
   ∃xs,A2 (cX σ (E6 w) w) xs (cs.drop o)/\yB (sy P n) (b.map (·.type)) xs
 |[],o,N,cs,d,_,l,_=>by
  simp[Da]at d;exact⟨[],by rw[agZ (by omega)];exact A2.nil,rfl⟩
 |f::b,o,N,cs,d,hs,l,s=>by
  simp only[Da,afE,beq_iff_eq]at d;simp only[List.all_cons,afE]at hs;obtain⟨x,j⟩:=s f afN;rw[d.1]at j;obtain⟨⟨p,y,A⟩,m⟩:=u hs.1 j;obtain⟨q,z,B⟩:=tQ u b (o+P.cellsOf f.type) N cs d.2 hs.2 l λg v=>s g (afQ _ v);refine⟨p++q,?_,p,q,rfl,A,B⟩;have:cs.drop o=(cs.drop o).take (P.cellsOf f.type)++cs.drop (o+P.cellsOf f.type):=by
   rw[<-ag9,agI]
  rw[this];exact y.append z
theorem M8(c o n k:Nat):((⟨c,o,ab⟩:Addr).add n).add k=⟨c,o+(n+k),ab⟩:=by
 unfold Addr.add;by_cases b:n=0<;>by_cases d:k=0<;>simp[b,d];omega
theorem PV{t e:TypeId}{k n:Nat}{cs:List Value}{x:DataW H × List MemPlace}(j:P.underlying t=aa (.array k e))(h:DataW.trod enc P w base spare held (n+1) t cs=aa x) :
  cs.length=P.cellsOf t/\∀i,i<k->∃y,DataW.trod enc P w base spare held n e ((cs.drop (i*P.cellsOf e)).take (P.cellsOf e))=aa y:=by
 unfold DataW.trod at h;rw[j]at h;simp only[Option.ite_none_right_eq_some,afF]at h;obtain⟨g,xs,d,l⟩:=h;refine⟨g,λi hi=>?_⟩;have:=mapM_some_get d i i (by simp[hi]);have b:xs.length=k:=by simpa using mapM_some_length d
 rw[afB (by omega)]at this;exact⟨_,this⟩
theorem yH{j:Type}{sz:Nat}:∀{k:Nat} {cs:List j},cs.length=k*sz->cs=((List.range k).map λi=>(cs.drop (i*sz)).take sz).flatten
 |0,cs,h=>by simp at h;simp[h]
 |k+1,cs,h=>by
  have d:(cs.take (k*sz)).length=k*sz:=by rw[af2,h,agn];omega
  have g:=yH d;rw[List.range_succ,agA,agY];have e:((List.range k).map λi=>(cs.drop (i*sz)).take sz)=(List.range k).map λi=>((cs.take (k*sz)).drop (i*sz)).take sz:=by
   refine List.map_congr_left λi hi=>?_;have b:i<k:=by simpa using hi
   have:(i+1)*sz<=k*sz:=agx _ b;rw[agn]at this;rw[List.drop_take,List.take_take,Nat.min_eq_left (by omega)]
  rw[e,<-g];simp only[afS,afW,aga,List.flatten_nil,agp];have:(cs.drop (k*sz)).take sz=cs.drop (k*sz):=afM (by rw[afX,h,agn];omega);rw[this,agI]
theorem adM{n:Nat}:∀{t:TypeId} {fuel:Nat} {cs:List Value} {x:DataW H × List MemPlace},gX P n t=ae->DataW.trod enc P w base spare held fuel t cs=aa x->
  aao σ P w n t cs/\cs.length=P.cellsOf t:=by
 induction n with
 |zero=>intro t fuel cs x hs;simp[gX]at hs
 |succ n ih=>
  intro t fuel cs x hs h;simp only[gX]at hs;split at hs
  .rename_i g;obtain⟨b,rfl,_⟩:=DataW.trod_bool g h;exact⟨⟨[.bool b],.cons (.bool b) .nil,by simp only[sy,g];exact⟨b,rfl⟩⟩,by simp at hs;simp[hs]⟩
  .rename_i k g;obtain⟨m,rfl,_,hw⟩:=DataW.trod_int g h;exact⟨⟨[.int k m],.cons (.int k m) .nil,by simp only[sy,g];exact⟨m,rfl,hw⟩⟩,by simp at hs;simp[hs]⟩
  .rename_i g;obtain⟨s,rfl,_,hw⟩:=DataW.trod_string g h;exact⟨⟨[.str s],.cons (.str s) .nil,by simp only[sy,g];exact⟨s,rfl,hw⟩⟩,by simp at hs;simp[hs]⟩
  .rename_i e g;simp only[afE,beq_iff_eq,bne_iff_ne]at hs;obtain⟨⟨F,e9⟩,he⟩:=hs;rcases DataW.trod_slice g h with⟨rfl,_⟩|⟨a,len,cap,Y,rest,m,_,rfl,_,hb,I,hm,c_,a_,_,_⟩
   .exact⟨⟨[sl .nil []],.cons .aK .nil,by simp only[sy,g];exact⟨.nil,[],rfl,λr j=>by simp at j,by simp,λr j=>by simp at j⟩⟩,by simpa using F.symm⟩
   .refine⟨?_,by simpa using F.symm⟩;have z:∀i,i<len->∃p:List Value × List FC,w.cells? base (a.add (i*P.cellsOf e)) (P.cellsOf e)=aa p.1/\A2 (cX σ (E6 w) w) p.2 p.1/\sy P n e p.2:=by
     intro i hi;have:=a_ i hi;rw[afB (by omega)]at this;obtain⟨cs',F,O⟩:=af3.1 this;obtain⟨⟨xs,ha,hs⟩,_⟩:=ih he O;exact⟨(cs',xs),F,ha,hs⟩
    obtain⟨p,K⟩:=Go.Deep.choose_lt z;by_cases h0:len=0
    .subst h0;refine⟨[sl .fs []],.cons (.Tb a cap) .nil,?_⟩;simp only[sy,g];exact⟨.fs,[],rfl,λr j=>by simp at j,by simp,λr j=>by simp at j⟩
    have B:a.spot=ab:=by
     have:=K 0 (by omega);obtain⟨_,d9,a8⟩:=World.cells?_some this.1;have:=a8 0 (by omega);rw[afB (by omega)]at this;have:=(F8 this).2;simpa[Addr.add]using this
    obtain⟨c,o,sp⟩:=a;simp only at B;subst B
    let d:=(List.range len).map λi=>(p i).1
    let rows:=(List.range len).map λi=>(p i).2
    have X:∀v∈d,v.length=P.cellsOf e:=by
     intro v X;obtain⟨i,hi,rfl⟩:=af6.1 X;exact(World.cells?_some (K i (by simpa using hi)).1).2.1
    have hg:cA (P.cellsOf e) rows:=by
     intro r j;obtain⟨i,hi,rfl⟩:=af6.1 j;obtain⟨F,O,_⟩:=K i (by simpa using hi);rw[O.len,(World.cells?_some F).2.1]
    have Z:A2 (cX σ (E6 w) w) rows.flatten d.flatten:=by
     refine A2.flatten (by simp[rows,d]) λi xs ys E J=>?_;simp only[rows,d,agl,afF]at E J;obtain⟨i1,M,rfl⟩:=E;obtain⟨i2,N,rfl⟩:=J;rw[M]at N;cases N;have:=af5 M;exact(K i1 (by simpa using this)).2.1
    have A:∀i u,d.flatten[i]?=aa u->w.cell? ⟨c,o+i,ab⟩=aa u:=by
     intro i u W;have hi:i<d.flatten.length:=(afD.1 W).1;rw[vO X]at hi;have b_:d.length=len:=by simp[d]
     rw[b_]at hi;have L:i / P.cellsOf e<len:=Nat.div_lt_of_lt_mul (by rw[Nat.mul_comm];exact hi);have hk:i % P.cellsOf e<P.cellsOf e:=Nat.mod_lt _ (by omega);have l:i=i / P.cellsOf e*P.cellsOf e+i % P.cellsOf e:=by rw[Nat.mul_comm];exact(Nat.div_add_mod _ _).symm
     have U:d[i / P.cellsOf e]?=aa (p (i / P.cellsOf e)).1:=by simp[d,L]
     rw[l,vN X U hk]at W;obtain⟨_,_,hc⟩:=World.cells?_some (K _ L).1;have:=hc _ hk;rw[W]at this;rw[<-this,M8,<-l]
    refine⟨[sl .fs rows],.cons ?_ .nil,?_⟩
    .have b9:rows≠[]:=by simp[rows];omega
     have S:rows.length=len:=by simp[rows]
     have:sl Tg.fs rows=.fs rows.flatten len:=by
      cases j:rows with
      |nil=>exact absurd j b9| cons r rs=>simp only[sl,ahp,afR,if_false];rw[<-j,S]
     rw[this];refine .fs rows.flatten len c o cap d.flatten I Z.len.symm (λi hi=>?_) A λi x u E W=>Z.2 i x u E W;have l:i<d.flatten.length:=by rw[<-Z.len];exact hi
     exact(F8 (A i _ (afB l))).1
    .simp only[sy,g];have S:rows.length=len:=by simp[rows]
     refine⟨.fs,rows,rfl,hg,by omega,λr j=>?_⟩;obtain⟨i,hi,rfl⟩:=af6.1 j;exact(K i (by simpa using hi)).2.2
  .rename_i fs g;simp only[afE]at hs;obtain⟨xs,m,_,_,I,_,E⟩:=DataW.trod_struct g h;refine⟨?_,I⟩;obtain⟨ys,F,O⟩:=tQ (n:=n) (fuel:=m) ih fs.toList 0 _ cs hs.1 hs.2 I λf hf=>by
    obtain⟨i,hi⟩:=List.getElem?_of_mem hf;rw[Array.getElem?_toList]at hi;have:=E i f hi;rw[this];have d_:i<fs.size:=(Array.getElem?_eq_some_iff.1 hi).1;exact⟨_,afB (by omega)⟩
   exact⟨ys,by simpa using F,by simp only[sy,g];exact O⟩
  .rename_i k e g;simp only[afE,beq_iff_eq]at hs;obtain⟨Q,he⟩:=hs;cases fuel with
   |zero=>simp[DataW.trod]at h
   |succ m=>
   obtain⟨I,E⟩:=PV g h;refine⟨?_,I⟩;have z:∀i,i<k->∃q:List FC,A2 (cX σ (E6 w) w) q ((cs.drop (i*P.cellsOf e)).take (P.cellsOf e))/\sy P n e q:=by
    intro i hi;obtain⟨y,J⟩:=E i hi;obtain⟨⟨q,a,b⟩,_⟩:=ih he J;exact⟨q,a,b⟩
   obtain⟨q,L⟩:=Go.Deep.choose_lt z
   let rows:=(List.range k).map q
   have a9:cs=((List.range k).map λi=>(cs.drop (i*P.cellsOf e)).take (P.cellsOf e)).flatten:=yH (by rw[I,Q]);refine⟨rows.flatten,?_,?_⟩
   .rw[a9];refine A2.flatten (by simp[rows]) λi xs ys E J=>?_;simp only[rows,agl,afF]at E J;obtain⟨i1,M,rfl⟩:=E;obtain⟨i2,N,rfl⟩:=J;rw[M]at N;cases N;have:=af5 M;exact(L i1 (by simpa using this)).1
   .simp only[sy,g];refine⟨rows,rfl,by simp[rows],λr j=>?_,λr j=>?_⟩
    .obtain⟨i,hi,rfl⟩:=af6.1 j;have l:i<k:=by simpa using hi
     rw[(L i l).1.len,af2,afX,I,Q];have:(i+1)*P.cellsOf e<=k*P.cellsOf e:=agx _ l;rw[agn]at this;omega
    .obtain⟨i,hi,rfl⟩:=af6.1 j;exact(L i (by simpa using hi)).2
  .simp at hs
end
section
variable{P:Program}{n:Nat}{t e:TypeId}{xs:List FC}
theorem gv{k:IntKind}(b:P.underlying t=aa (.int k))(h:sy P (n+1) t xs):∃m,xs=[.int k m]/\(Lit.int k m).wf=ae:=by simpa only[sy,b]using h
theorem zA(b:P.underlying t=aa (.slice e))(h:sy P (n+1) t xs):∃g rows,xs=[sl g rows]/\cA (P.cellsOf e) rows/\rows.length<=maxLen/\∀r∈rows,sy P n e r:=by simpa only[sy,b]using h
theorem qT{d:Array Field}{ts:List TypeId}(g:P.underlying t=aa (.struct d))(b:d.toList.map (·.type)=ts)(h:sy P (n+1) t xs):yB (sy P n) ts xs:=by
 subst b;simpa only[sy,g]using h
theorem dM{S:TypeId->List FC->Prop}{ts:List TypeId}(h:yB S (t::ts) xs):∃p q,xs=p++q/\S t p/\yB S ts q:=h
theorem A8{d:Type}{enc:d->List FC}{p:d->Prop}:∀{rows:List (List FC)},(∀r∈rows,∃x,r=enc x/\p x)->∃l:List d,rows=l.map enc/\∀x∈l,p x
 |[],_=>⟨[],rfl,by simp⟩
 |r::rows,h=>by
  obtain⟨x,rfl,m⟩:=h r afN;obtain⟨l,rfl,g⟩:=A8 λr j=>h r (afQ _ j);exact⟨x::l,rfl,λy b=>by
   rcases afZ.1 b with rfl|b
   .exact m
   .exact g y b⟩
end
end
section
open Go Go.ChangeShapes Go.WideShapes Go.ChangeAt Go.RowKit
def uT(P:Program)(t:TypeId)(a:V):Prop:=(∃xs,a=.a (xs.map .f)/\sy P 40 t xs/\(∃d,P.underlying t=aa d/\((∃b,d=.struct b)\/∃n e,d=.array n e)))\/
 (∃x,a=.c (.f x)/\sy P 40 t [x])
def uz(P:Program):List TypeId->List V->Prop
 |[],as=>as=[]| t::ts,as=>∃a b,as=a::b/\uT P t a/\uz P ts b
section
variable{H:Type}{enc:TypeId × Value->H}{P:Program}{W W':World}
theorem xK{f:Func}{s:ChangeSpec}{g B l A:Bool}{args:Array Value}{v:Value}{ds F:List (DataW H)}{d pa pv:List MemPlace}
  (K:DataW.Whole enc P f.params.toList s.vars g W args.toList ds F d)
  (z:∀(b:Nat) (E:Nat->Bool) (O:Bool),DataW.TrodAll enc P W' b E O f.resultTypes.toList (v.resultList f.resultTypes.size) (s.fn H (ds++F)).results [])
  (m:∀E:Nat->Bool,(∀p∈d,E p.block=ae)->DataW.TrodAll enc P W' 0 E ae f.params.toList args.toList (s.fn H (ds++F)).args pa)
  (u:∀E:Nat->Bool,(∀p∈d,E p.block=ae)->DataW.TrodVars enc P W' E s.vars (s.fn H (ds++F)).vars pv)
  (x:d=pa++pv) (M:Below W.heap.size W W')
  (L:∀(j:Nat) (t:TypeId) (r:Value),f.resultTypes[j]?=aa t->(v.resultList f.resultTypes.size)[j]?=aa r->Value.okWide P W' .any 0 t r) :
  s.post enc P f g B l A W args v W':=by
 have I:∀p∈d,p.block<W.heap.size:=λp q=>K.lt p q;have y:∀p∈d,(λb=>decide (b<W.heap.size)) p.block=ae:=λp q=>by simpa using I p q
 refine⟨ds,F,d,[],pa,pv,K,z _ _ _,m _ y,u _ y,World.keptBut_mono (λp q=>⟨q,?_⟩) (M.frame (·∈d)),λ_=>?_⟩
 .rw[x,List.mem_append]at q;exact Or.inr q
 .obtain⟨_,_,_,_,_,S,Q⟩:=K;refine⟨L,_,_,([]++pa)++pv,⟨[]++pa,pv,trodAll_append (m _ (λ_ _=>rfl)) (z _ _ _),u _ (λ_ _=>rfl),rfl,?_,?_⟩,?_⟩
  .intro b off q;have J:MemPlace.cell b off∈d:=by rw[x];simpa using q
   rw[M.frozen (p:=⟨b,off,ab⟩) (I _ J)];exact S b off J
  .intro N;have:=Q N;rw[x]at this;simpa using this
  .intro p q _;rw[x];simpa using q
theorem qt(s:laidOutB P=ae){u:Nat->Bool}(m:Below W.heap.size W W'):∀{ts:List TypeId} {l:List Value} {ds:List (DataW H)} {ps:List MemPlace},
  (ts.all λt=>P.readableRec t&&decide (t<P.types.size))=ae->DataW.TrodAll enc P W 0 (λ_=>ae) ae ts l ds ps->(∀p∈ps,p.block<W.heap.size)->(∀p∈ps,u p.block=ae)->
  DataW.TrodAll enc P W' 0 u ae ts l ds ps
 |[],[],[],ps,_,h,_,_=>h
 |t::ts,v::l,d::ds,ps,j,⟨p,q,y,z,e⟩,g,hs=>by
  subst e;simp only[List.all_cons,afE,decide_eq_true_eq]at j;exact⟨p,q,WideElems.Trod_stays s j.1.1 j.1.2 y (λx b=>m.same (g x (ag6 _ b))) (λx b=>hs x (ag6 _ b)),
   qt s m j.2 z (λx b=>g x (List.mem_append_right _ b)) (λx b=>hs x (List.mem_append_right _ b)),rfl⟩
 |[],_::_,_,_,_,h,_,_=>by cases h
 |[],[],_::_,_,_,h,_,_=>by cases h
 |_::_,[],_,_,_,h,_,_=>by cases h
 |_::_,_::_,[],_,_,h,_,_=>by cases h
variable{σ:Nat->FuncId}
def X0(W:World):Wd:=⟨λ_=>ab,E6 W,[],W,W.heap.size⟩
theorem P4{xs:List FC}{cs:Array Value}(h:A2 (cX σ (E6 W) W) xs cs.toList):VR σ (X0 W) (.a (xs.map .f)) (.agg cs):=
 ⟨cs.toList,by simp,A2.map (g:=C.f) (h.nm λ_ _ h=>h)⟩
theorem Ng{t:TypeId}{v:Value}{d:DataW H}{ps:List MemPlace}{base:Nat}{spare:Nat->Bool}{held:Bool}{b0:Nat}(hs:gX P 40 t=ae)(g:Value.okWide P W .any b0 t v)
  (B:DataW.Trod enc P W base spare held t v d ps):∃a,VR σ (X0 W) a v/\uT P t a:=by
 obtain⟨fuel,q⟩:=B;obtain⟨⟨xs,m,s⟩,F⟩:=adM (σ:=σ) hs q;have l:v.cells.toList=[v]->∃a,VR σ (X0 W) a v/\uT P t a:=by
  intro E;rw[E]at m
  match xs,m.len with
  |[x],_=>exact⟨.c (.f x),m.of_cons.1,.inr ⟨x,rfl,s⟩⟩
 unfold gX at hs;unfold Value.okWide at g;split at g
 .rename_i u j;obtain⟨cs,rfl,_,_⟩:=g;exact⟨_,P4 m,.inl ⟨xs,rfl,s,_,j,.inl ⟨_,rfl⟩⟩⟩
 .rename_i n e j;obtain⟨cs,rfl,_,_⟩:=g;exact⟨_,P4 m,.inl ⟨xs,rfl,s,_,j,.inr ⟨_,_,rfl⟩⟩⟩
 .rename_i z A;refine l ?_;split at hs
  .rename_i j;obtain⟨b,y,_⟩:=DataW.trod_bool j q;simp only[Cell.okWide,j,Cell.ok]at g;cases v<;>simp_all [Value.cells]
  .rename_i j;obtain⟨b,y,_⟩:=DataW.trod_int j q;simp only[Cell.okWide,j,Cell.ok]at g;cases v<;>simp_all [Value.cells]
  .rename_i j;obtain⟨b,y,_⟩:=DataW.trod_string j q;simp only[Cell.okWide,j,Cell.ok]at g;cases v<;>simp_all [Value.cells]
  .rename_i j;simp only[Cell.okWide,j,Cell.ok]at g;cases v<;>simp_all [Value.cells]
  .rename_i u j;exact absurd j (z u)
  .rename_i n e j;exact absurd j (A n e)
  .simp at hs
theorem yE{base:Nat}{spare:Nat->Bool}{held:Bool}{b0:Nat}:∀{ts:List TypeId} {g:List Value} {ds:List (DataW H)} {ps:List MemPlace},(ts.all λt=>gX P 40 t)=ae->
  (∀(j:Nat) t v,ts[j]?=aa t->g[j]?=aa v->Value.okWide P W .any b0 t v)->DataW.TrodAll enc P W base spare held ts g ds ps->
  ∃as,A2 (VR σ (X0 W)) as g/\uz P ts as
 |[],[],[],_,_,_,_=>⟨[],A2.nil,rfl⟩
 |t::ts,v::g,d::ds,ps,hs,b,⟨p,q,s,u,_⟩=>by
  simp only[List.all_cons,afE]at hs;obtain⟨a,x,z⟩:=Ng (σ:=σ) hs.1 (b 0 t v rfl rfl) s;obtain⟨l,y,A⟩:=yE hs.2 (λj t v h m=>b (j+1) t v (by simpa using h) (by simpa using m)) u;exact⟨a::l,.cons x y,a,l,rfl,z,A⟩
 |[],_::_,_,_,_,_,h=>by cases h
 |[],[],_::_,_,_,_,h=>by cases h
 |_::_,[],_,_,_,_,h=>by cases h
 |_::_,_::_,[],_,_,_,h=>by cases h
theorem Q_{n:Nat}{H:aj}{v:V}{b:Bool}(h:fC (n+1) H v=aa (.c (.f (.bool b)))):v=.c (.f (.bool b)):=by
 cases v with
 |top=>simp[fC,bX]at h| a xs=>simp[fC,bX]at h| t xs=>simp[fC]at h
 |c x=>
  simp only[fC,bX,afF]at h;obtain⟨y,d,h⟩:=h;cases h;cases x with
  |f x=>simpa[eg]using d| ptr b o e=>simp only[eg]at d;split at d<;>simp at d
  |sl b o l c e s=>
   simp only[eg]at d;split at d
   .split at d<;>simp at d
   .split at d<;>simp at d
   .split at d<;>simp at d
   .split at d<;>simp at d
   .simp at d
  |cl f g=>simp[eg]at d| _=>simp[eg]at d
variable{tab:TB}
theorem Fc(x:Env P σ tab.get tab.ub){f:Nat}{args:List V}{us:List Value}(h:aX tab f args (vb ae))(W:World)(z:A2 (VR σ (X0 W)) args us) :
  Calls P (σ f) us.toArray W λe w'=>e=.returned (.bool ae)/\Below W.heap.size W w':=by
 obtain⟨r,H',⟨m,d,h⟩,j⟩:=h;have j:=Q_ (n:=63) j;subst j;intro cs
 let X:=X0 W
 have y:SR P σ X:=⟨λb L h=>by simp[X,X0]at h,λb M L K h=>by simp[X,X0]at h,λc i h=>h⟩
 obtain⟨q,X',u,s,⟨E,F,H,l,fn,I,J⟩,N,O,v,g,Q⟩:=(Nl x m d).fn f args [] _ H' h X us .normal cs rfl y (afJ _) z (.inl rfl) (.inl rfl);have B:=VR.bool v;subst B;exact⟨.returned (.bool ae),X'.w,q,⟨rfl,⟨g.os,g.tape,g.output,g.size,λk A=>g.frame k A (λb L h=>by simp[X,X0]at h)⟩⟩,s,l,E,F,H,fn,by rw[l];exact I,J⟩
theorem N_(hE:Env P σ tab.get tab.ub){s:ChangeSpec}{f:Func}{fi:Nat}{tb:TypeId}(x:s.vars=[])(B:laidOutB P=ae){ts:List TypeId}(F:f.params.toList=ts)
  (O:∀ds:List (DataW H),ds.length=ts.length->s.fn H ds=⟨[.lit (.bool ae)],ds,[]⟩)
  (y:f.resultTypes=#[tb]) (K:P.underlying tb=aa .bool) (E:(ts.all λt=>P.readableRec t&&decide (t<P.types.size))=ae) (u:(ts.all λt=>gX P 40 t)=ae)
  (Q:∀as,uz P ts as->aX tab fi as (vb ae)) {g A l z:Bool} {base:Nat} {args:Array Value} {ds gs:List (DataW H)} {d:List MemPlace}
  (L:∀(j:Nat) t v,f.params[j]?=aa t->args[j]?=aa v->Value.okWide P W .any base t v) (X:DataW.Whole enc P f.params.toList s.vars g W args.toList ds gs d) :
  Calls P (σ fi) args W λe W'=>∃v,e=.returned v/\s.post enc P f g A l z W args v W':=by
 have I:=X;obtain⟨p,q,N,U,Y,a8,a9⟩:=X;rw[F]at N;rw[x]at U;obtain⟨rfl,rfl⟩:=trodVars_none U;simp only[agp]at Y;subst Y;obtain⟨as,h1,h2⟩:=yE (σ:=σ) (b0:=base) u (λj t v h h'=>L j t v (by rw[<-Array.getElem?_toList,F];exact h) (by rw[<-Array.getElem?_toList];exact h')) N;have J:ds.length=ts.length:=by
  have:∀{ts:List TypeId} {M:List Value} {ds:List (DataW H)} {ps:List MemPlace},DataW.TrodAll enc P W 0 (λ_=>ae) ae ts M ds ps->ds.length=ts.length:=by
   intro ts;induction ts with
   |nil=>intro M ds ps h;cases M<;>cases ds<;>first|rfl|cases h
   |cons t ts ih=>intro M ds ps h;cases M<;>cases ds<;>first|(obtain⟨_,_,_,h,_⟩:=h;simp[ih h])|cases h
  exact this N
 have m:=O ds J;have Z:=Fc hE (Q as h2) W h1;rw[Array.toArray_toList]at Z;refine Z.mono λe W' h=>?_;obtain⟨he,hg⟩:=h;subst he;refine⟨_,rfl,xK (pa:=d) (pv:=[]) I (λb sp hd=>?_) (λsp S=>?_) (λsp _=>?_) (by simp) hg ?_⟩
 .rw[agp,m,y];exact trodAll_mk1 (shut_bool K _)
 .rw[agp,m,F];exact qt B hg E N (λp hp=>I.lt p hp) S
 .rw[agp,m,x];exact rfl
 .exact ok_one y rfl (okWide_bool_mk K _)
end
end
section
open Go
section
variable{tab:TB}{f:Nat}{args:List V}{r:V}{fn:Nat}{k:List de}{t:T}{ds:List dS}{H H':aj}{Q:Option aH->St->Prop}
theorem mZ{x:Arg}{ps:List P}{as bd:aH}{g:Nat}{s:List V}(A:cL (x.ev t) [.c (.yl (H.length+1))]=aa (.fn g,s))
  (l:Ev tab (.fn g) s (H++[.gI ae,.lp fn t ps as bd .ready ab H.length]) r H')
  (h:WP tab fn ab (.kz (H.length+1)::k) ⟨t,.iM H.length::ds,H'⟩ Q):WP tab fn ab (.code (.oW x ps as bd)::k) ⟨t,ds,H⟩ Q:=by
 obtain⟨m,d,l⟩:=l;obtain⟨n,q,b,j,s',y,z⟩:=h;refine⟨n+1,max m q,max d b,j,s',?_,z⟩;have u:=mh (tab:=tab) (agf m q) (agf d b) _ _ _ _ l;have v:=wS (af8 m q) (af8 d b) (afJ n) y;simp only[run,A,u,v];simp
theorem oN{ro:Option Nat}{b j d:Nat}{q:T}{ps:List P}{as bd:aH}{l:fe}(s:H[b]?=aa (.lp j q ps as bd l ab d))(g:l≠.busy)
  (h:WP tab fn ro k ⟨t,ds,H.set b (.lp j q ps as bd .exhausted ab d)⟩ Q):WP tab fn ro (.kz b::k) ⟨t,ds,H⟩ Q:=by
 refine nX h λm d n=>?_;simp only[run,s,bG g]
theorem rL{ro:Option Nat}{b j d:Nat}{q:T}{ps:List P}{as bd:aH}{l:fe}(s:H[b]?=aa (.lp j q ps as bd l (aa .ret) d))(g:l≠.busy)
  (h:WP tab fn ro (.code .ret::k) ⟨t,ds,H.set b (.lp j q ps as bd .exhausted (aa .ret) d)⟩ Q):WP tab fn ro (.kz b::k) ⟨t,ds,H⟩ Q:=by
 refine nX h λm d n=>?_;simp only[run,s,bG g]
theorem rK{b g d:Nat}{j:T}{ps:List P}{as bd:aH}{pd:Option aH}(l:H[b]?=aa (.lp g j ps as bd .ready pd d))
  (h:WP tab fn (aa b) k ⟨t,ds,H.set b (.lp g j ps as bd .busy pd d)⟩ Q):WP tab fn (aa b) (.oD::k) ⟨t,ds,H⟩ Q:=by
 refine nX h λm d n=>?_;simp only[run,l]
@[simp] theorem YH {b:Nat} {as:List V}:cL (.c (.yl b)) as=aa (.yield b,as):=rfl
def aan(b:Nat)(r:V)(H':aj)(j:Option aH)(s:St):Prop:=s.defs=[]/\∃g l ps as bd m pd d,s.heap[b]?=aa (.lp g l ps as bd m pd d)/\r=.c (.f (.bool j.isNone))/\
 H'=s.heap.set b (.lp g l ps as bd (if j.isNone then .ready else .done) j d)
theorem NN{b l d:Nat}{q:T}{ps:List P}{as bd:aH}{J:fe}{pd:Option aH}(A:H[b]?=aa (.lp l q ps as bd J pd d))(E:args.length=ps.length)
  (h:WP tab l (aa b) [.code as,.oD,.code bd] ⟨cO ps args q,[],H⟩ (aan b r H')):Ev tab (.yield b) args H r H':=by
 obtain⟨n,m,g,j,s,y,B,N,L,I,v,x,K,F,M,z,rfl,rfl⟩:=h;refine⟨max m n,g+1,?_⟩;have u:run (CF tab (max m n) g) l (max m n) (aa b) [.code as,.oD,.code bd] ⟨cO ps args q,[],H⟩=aa (j,s):=wS (agf m n) (afJ g) (af8 m n) y;simp only[CF]at u ⊢;simp only[eV,A,E,if_true,u,B,List.isEmpty_nil,z];rfl
theorem jN{C:V->aj->Prop}{b F d:Nat}{I:T}{ps:List P}{as bd:aH}{N:fe}{pd:Option aH}(L:H[b]?=aa (.lp F I ps as bd N pd d))(M:args.length=ps.length)
  (h:∀Q:Option aH->St->Prop,(∀j s z u q g l x v y,s.defs=[]->s.heap[b]?=aa (.lp z u q g l x v y)->
   C (.c (.f (.bool j.isNone))) (s.heap.set b (.lp z u q g l (if j.isNone then .ready else .done) j y))->Q j s)->WP tab F (aa b) [.code as,.oD,.code bd] ⟨cO ps args I,[],H⟩ Q):∃r H',Ev tab (.yield b) args H r H'/\C r H':=by
 have K:=h (λj s=>∃r H',C r H'/\aan b r H' j s) λj s z u q g l x v y A B E=>⟨_,_,E,A,z,u,q,g,l,x,v,y,B,rfl,rfl⟩
 obtain⟨n,m,J,j,s,A,r,H',B,E⟩:=K;exact⟨r,H',NN L M ⟨n,m,J,j,s,A,E⟩,B⟩
def aam(res:List iv)(r:V)(s:St):Prop:=∃b,s.defs=[.iM b]/\s.heap[b]?=aa (.gI ae)/\∃d,results s.aF (s.heap.set b (.gI ag)) res=aa d/\fC deep (s.heap.set b (.gI ag)) d=aa r
theorem OW{S:V->Prop}{ps:List P}{res:List iv}{body:aH}(z:tab f=aa ⟨ps,res,body⟩)(x:args.length=ps.length)
  (h:∀Q:Option aH->St->Prop,(∀j s r,S r->uo res r s\/aam res r s->Q j s)->WP tab f ab [.code body] ⟨cO ps args .e,[],[]⟩ Q):∃r,S r/\aX tab f args r:=by
 have A:=h (λ_ s=>∃r,S r/\(uo res r s\/aam res r s)) λ_ _ r l g=>⟨r,l,g⟩
 obtain⟨n,m,d,j,s,l,r,y,⟨u,v,g,q⟩|⟨b,u,B,v,g,q⟩⟩:=A
 .exact⟨r,y,v,s.heap,tN z x ⟨n,m,d,j,s,l,0,0,s.heap,by rw[u];rfl,g,rfl⟩,q⟩
 .exact⟨r,y,v,s.heap.set b (.gI ag),tN z x ⟨n,m,d,j,s,l,0,0,_,by rw[u];simp only[dP,B],g,rfl⟩,q⟩
theorem dm{C:V->aj->Prop}{ps:List P}{res:List iv}{body:aH}(x:tab f=aa ⟨ps,res,body⟩)(v:args.length=ps.length)
  (h:∀Q:Option aH->St->Prop,(∀j s r,s.defs=[]->results s.aF s.heap res=aa r->C r s.heap->Q j s)->WP tab f ab [.code body] ⟨cO ps args .e,[],H⟩ Q):∃r H',Ev tab (.fn f) args H r H'/\C r H':=by
 have q:=h (λ_ s=>s.defs=[]/\∃r,results s.aF s.heap res=aa r/\C r s.heap) λ_ _ r b g l=>⟨b,r,g,l⟩
 obtain⟨n,m,d,j,s,b,u,r,g,l⟩:=q;exact⟨r,s.heap,tN x v ⟨n,m,d,j,s,b,0,0,s.heap,by rw[u];rfl,g,rfl⟩,l⟩
end
end
section
open Go
theorem uj{c:cU}:∀(a b:List aV) (s:St),gz c (a++b) s=(gz c a s).bind (gz c b)
 |[],b,s=>rfl
 |o::a,b,s=>by
  simp only[agu,gz];cases gE c s o with
  |none=>rfl| some s'=>exact uj a b s'
theorem xq{c:cU}:∀(os:List aV) (s:St) {s':St},gz c os s=aa s'->∃b,ee c os s=aa b/\b.getLast?=aa s'/\∀i,i<=os.length->gz c (os.take i) s=b[i]?
 |[],s,s',h=>by
  simp only[gz,At]at h;subst h;refine⟨[s],rfl,rfl,λi hi=>?_⟩;have:i=0:=by simpa using hi
  subst this;rfl
 |o::os,s,s',h=>by
  simp only[gz]at h;cases hs:gE c s o with
  |none=>simp[hs]at h
  |some l=>
   simp only[hs]at h;obtain⟨b,d,g,j⟩:=xq os l h;refine⟨s::b,by simp only[ee,hs,d],by rw[List.getLast?_cons,g];rfl,λi hi=>?_⟩;cases i with
   |zero=>rfl
   |succ i=>
    simp only[List.take_succ_cons,gz,hs,List.getElem?_cons_succ];exact j i (by simpa using hi)
def fO(o:aV)(b l:St):Prop:=wanted b.aF o.g=aa ag\/∃v g d j,bF b.aF b.heap o.op=aa (v,g)/\bF b.aF l.heap o.op=aa (d,j)/\v.beq d=ae
section
variable{tab:TB}{fn:Nat}{ro:Option Nat}{k:List de}{s:St}{Q:Option aH->St->Prop}
def S4(tab:TB)(ops:List aV)(s:St)(c:Nat × Nat):Prop:=c.2<=ops.length/\∃o,ops[c.1]?=aa o/\
 ((c.1<=c.2/\xv tab (ops.take c.1) s λb=>xv tab ((ops.drop c.1).take (c.2-c.1)) b λd=>fO o b d)\/
 (c.2<=c.1/\xv tab (ops.take c.2) s λd=>xv tab ((ops.drop c.2).take (c.1-c.2)) d λb=>fO o b d))
theorem Pu{ops:List aV}{c:Nat × Nat}(h:S4 tab ops s c):∃m d o g j,c.2<=ops.length/\ops[c.1]?=aa o/\gz (CF tab m d) (ops.take c.1) s=aa g/\gz (CF tab m d) (ops.take c.2) s=aa j/\fO o g j:=by
 have y:∀(a b:Nat) (K:St->St->Prop),a<=b->xv tab (ops.take a) s (λl=>xv tab ((ops.drop a).take (b-a)) l λq=>K l q)->
   ∃m d l q,gz (CF tab m d) (ops.take a) s=aa l/\gz (CF tab m d) (ops.take b) s=aa q/\K l q:=by
  intro a b K M h;obtain⟨m,d,l,u,v⟩:=lB _ _ h;obtain⟨E,z,q,x,L⟩:=lB _ _ v;have F:=dR (mh (tab:=tab) (agf m E) (agf d z)) _ _ u;have J:=dR (mh (tab:=tab) (af8 m E) (af8 d z)) _ _ x;refine⟨max m E,max d z,l,q,F,?_,L⟩;have:ops.take b=ops.take a++(ops.drop a).take (b-a):=by
   have N:b=a+(b-a):=by omega
   conv=>lhs;rw[N,List.take_add]
  rw[this,uj,F];exact J
 obtain⟨H,o,I,⟨A,h⟩|⟨B,h⟩⟩:=h
 .obtain⟨m,d,g,j,u,v,x⟩:=y _ _ (λg j=>fO o g j) A h;exact⟨m,d,o,g,j,H,I,u,v,x⟩
 .obtain⟨m,d,j,g,u,v,x⟩:=y _ _ (λj g=>fO o g j) B h;exact⟨m,d,o,g,j,H,I,v,u,x⟩
theorem dy{ops:List aV}{b:List (Nat × Nat)}(S:ro=ab\/ops.all (·.op.dB)=ae)(h:xv tab ops s λs'=>WP tab fn ro k s' Q)(hk:∀c∈b,S4 tab ops s c) :
  WP tab fn ro (.code (.region ops b)::k) s Q:=by
 obtain⟨m,d,s',h1,n,m',d',j,s2,h2,h3⟩:=lB ops s h;have g:∃M D,∀c∈b,∃o u y,c.2<=ops.length/\ops[c.1]?=aa o/\gz (CF tab M D) (ops.take c.1) s=aa u/\gz (CF tab M D) (ops.take c.2) s=aa y/\fO o u y:=by
  clear h1 h2 h;induction b with
  |nil=>exact⟨0,0,λc F=>by cases F⟩
  |cons c cs W=>
   obtain⟨M,D,W⟩:=W λc F=>hk c (afQ _ F);obtain⟨X,H,o,u,y,a1,z,A,B,E⟩:=Pu (hk c afN);refine⟨max M X,max D H,λc' q=>?_⟩;rcases afZ.1 q with rfl|q
   .have l:=mh (tab:=tab) (af8 M X) (af8 D H);exact⟨o,u,y,a1,z,dR l _ _ A,dR l _ _ B,E⟩
   .obtain⟨o,u,y,a1,z,A,B,E⟩:=W c' q;have l:=mh (tab:=tab) (agf M X) (agf D H);exact⟨o,u,y,a1,z,dR l _ _ A,dR l _ _ B,E⟩
 obtain⟨M,D,g⟩:=g;obtain⟨Z,L,N,O⟩:∃x,m<=x/\m'<=x/\M<=x:=⟨max (max m m') M,by omega,by omega,by omega⟩
 obtain⟨Y,I,J,K⟩:∃x,d<=x/\d'<=x/\D<=x:=⟨max (max d d') D,by omega,by omega,by omega⟩
 refine⟨n+1,Z,Y,j,s2,?_,h3⟩;have e1:=dR (mh (tab:=tab) L I) ops _ h1;have e2:=wS N J (afJ n) h2;have U:(ro.isSome&&!ops.all (·.op.dB))=ag:=by
  rcases S with rfl|S
  .rfl
  .rw[S];simp
 obtain⟨ss,f1,f2,f3⟩:=xq ops s e1;have hx:gY (CF tab Z Y) ops b s=aa s':=by
  cases b with
  |nil=>simpa only[gY]using e1
  |cons x xs=>
   simp only[gY,f1];rw[bu,f2];rw[List.all_eq_true];intro c F;obtain⟨o,u,y,a1,z,A,B,E⟩:=g c F;have l:=mh (tab:=tab) O K;have hi:c.1<=ops.length:=by
    have:=(afD.1 z).1;omega
   have b3:=dR l _ _ A;have b4:=dR l _ _ B;rw[f3 _ hi]at b3;rw[f3 _ a1]at b4;simp only[sameAt,z,b3,b4];rcases E with hw|⟨v,H1,v',H2,g1,g2,g3⟩
   .rw[hw]
   .split
    .rfl
    .simp only[g1,g2,g3]
 simp only[run,U,hx,e2];simp
end
end
section
open Go
theorem AD{n:Nat}:∀(l:List C) (H:aj),(∀x∈l,∃y,x=.f y)->l.foldl (λH x=>ic n x H) H=H
 |[],_,_=>rfl
 |x::l,H,h=>by
  obtain⟨y,rfl⟩:=h x afN;simp only[ag7,Tq];exact AD l H λx b=>h x (afQ _ b)
end
section
open Go
def RB(H:aj)(b sz ep:Nat)(rows:List (List FC)):Prop:=H[b]?=aa (.ct sz (rows.flatten.map .f) 0 ep .loc)
def Fm(b:Nat)(H H':aj):Prop:=H.length<=H'.length/\∀d:Nat,d≠b->d<H.length->H'[d]?=H[d]?
theorem Fm.refl{b:Nat}(H:aj):Fm b H H:=⟨afJ _,λ_ _ _=>rfl⟩
theorem Fm.trans{b:Nat}{H H' d:aj}(h:Fm b H H')(j:Fm b H' d):Fm b H d:=
 ⟨af1 h.1 j.1,λg e l=>(j.2 g e (af9 l h.1)).trans (h.2 g e l)⟩
theorem Fm.push{b:Nat}(H J:aj):Fm b H (H++J):=⟨by simp,λd _ l=>afy l⟩
theorem Fm.set{b:Nat}(H:aj)(x:bB):Fm b H (H.set b x):=⟨by simp,λd e _=>ae2 (Ne.symm e)⟩
theorem Fm.get{b:Nat}{H H':aj}(h:Fm b H H'){d:Nat}{x:bB}(g:H[d]?=aa x)(e:d≠b):H'[d]?=aa x:=by rw[h.2 d e (au g)];exact g
theorem CW{sz:Nat}{row:List FC}(q:row.length=sz):∀{rows:List (List FC)} {j:Nat},cA sz rows->j<rows.length->
  rows.flatten.take (j*sz)++row++rows.flatten.drop (j*sz+sz)=(rows.set j row).flatten
 |[],_,_,d=>by simp at d
 |r::rows,0,b,_=>by
  have:=b r afN;subst this;simp
 |r::rows,j+1,b,d=>by
  have g:=b r afN;have u:=CW q (rows:=rows) (j:=j) (λx s=>b x (afQ _ s)) (by simpa using d);simp only[aga,List.set_cons_succ];rw[<-u];have l:(j+1)*sz=r.length+j*sz:=by rw[g,agn];omega
  have m:(j+1)*sz+sz=r.length+(j*sz+sz):=by omega
  rw[m,l,List.take_append,ahl];simp[afM,List.append_assoc]
section
variable{H:aj}{b sz ep j:Nat}{rows:List (List FC)}{row:List FC}
theorem RB.lt(h:RB H b sz ep rows):b<H.length:=au h
theorem RB.push(h:RB H b sz ep rows)(J:aj):RB (H++J) b sz ep rows:=by
 unfold RB at *;rw[afy (au h)];exact h
theorem RB.len(h:RB H b sz ep rows){o l c:Nat}:bo H (.sl b o l c ep sz)=aa l:=by
 unfold RB at h;simp[bo,h]
theorem RB.idx(h:RB H b sz ep rows){n c:Nat}{k:IntKind}{i:Int}(h0:0<=i)(hi:i<n){o:Nat}:bw H sz ab (.c (.sl b o n c ep sz)) (.c (.f (.int k i)))=aa (.c (.ptr b (o+i.toNat*sz) ep)):=by
 unfold RB at h;simp only[bw,kQ,h0,hi,if_true,h,and_self]
theorem RB.Qd(h:RB H b sz ep rows)(hg:cA sz rows)(g:rows[j]?=aa row):aQ H (aa sz) (.c (.ptr b (j*sz) ep))=aa (.a (row.map .f)):=by
 unfold RB at h;have d:row.length=sz:=hg row (af5 g);have:=vG (k:=0) hg g (by omega);simp only[aq,h,if_true];rw[<-ahq];rw[ahc]at this;rw[this];have h1:(row.map C.f++((rows.drop (j+1)).flatten.map C.f)).take sz=row.map C.f:=by
  rw[age (by simp[d]),afM (by simp[d])]
 simp[d]
theorem RB.str(h:RB H b sz ep rows)(hg:cA sz rows)(m:j<rows.length)(l:row.length=sz) :
  ∃H',cz H (.ptr b (j*sz) ep) (row.map .f)=aa H'/\RB H' b sz ep (rows.set j row)/\Fm b H H'/\H'.length=H.length:=by
 have q:=bW hg;have g:(j+1)*sz<=rows.length*sz:=agx _ m;have d:j*sz+sz<=rows.flatten.length:=by rw[q];rw[agn]at g;omega
 unfold RB at h ⊢;refine⟨H.set b (.ct sz ((rows.set j row).flatten.map .f) 0 ep .loc),?_,?_,Fm.set _ _,by simp⟩
 .simp only[aU,h,ag2,true_and,afT,l,d,if_true];rw[<-CW l hg m];simp[bp,l]
 .exact afC (au h)
end
theorem Ao{k n:Nat}(h:k<=n):BF (vi k) n=aa k:=by
 have:(0:Int)<=k/\(k:Int)<=n:=by omega
 simp[BF,kQ,this]
theorem RB.wY{H:aj}{b sz ep n k:Nat}{rows:List (List FC)}(h:RB H b sz ep rows)(g:k<n) :
  ea H sz (.c (.sl b 0 n 0 ep sz)) (aa (vi k)) ab ab=aa (.c (.sl b (k*sz) (n-k) 0 ep sz)):=by
 unfold RB at h;have d:ch n n (aa (vi k)) ab ab=aa (k,n,n):=by simp[ch,Ao (Nat.le_of_lt g)]
 simp[ea,h,d];omega
theorem RB.PC{H:aj}{b sz ep n k:Nat}{rows:List (List FC)}(h:RB H b sz ep rows)(g:k<=n)(h0:0<k) :
  ea H sz (.c (.sl b 0 n 0 ep sz)) ab (aa (vi k)) ab=aa (.c (.sl b 0 k 0 ep sz)):=by
 unfold RB at h;have d:ch n n ab (aa (vi k)) ab=aa (0,k,n):=by simp[ch,Ao g]
 simp[ea,h,d]
 try omega
theorem RB.clr{H:aj}{b sz ep n k:Nat}{rows:List (List FC)}{zs:List FC}(h:RB H b sz ep rows)(hg:cA sz rows)(x:rows.length=n)(A:k<n)(s:zs.length=sz) :
  ∃H',qH H sz zs (.c (.sl b (k*sz) (n-k) 0 ep sz))=aa H'/\RB H' b sz ep (rows.take k++List.replicate (n-k) zs)/\Fm b H H':=by
 have v:=bW hg;have d:=h.len (o:=k*sz) (l:=n-k) (c:=0);have g:(cP (n-k) zs).length=(n-k)*sz:=by
  have:cA sz (List.replicate (n-k) zs):=λr z=>by rw[List.eq_of_mem_replicate z,s]
  simpa[cP]using bW this
 have m:k*sz+(n-k)*sz=rows.flatten.length:=by rw[v,x,<-agn];congr 1;omega
 unfold RB at h ⊢;refine⟨H.set b (.ct sz ((rows.take k++List.replicate (n-k) zs).flatten.map .f) 0 ep .loc),?_,afC (au h),Fm.set _ _⟩;have y:n-k≠0:=by omega
 have u:(rows.take k++List.replicate (n-k) zs).flatten.map C.f=bp (rows.flatten.map .f) (k*sz) ((cP (n-k) zs).map .f):=by
  rw[agY,<-tI k hg];simp only[bp,afT,g,agA,List.map_take];rw[List.drop_eq_nil_of_le (by simp only[afT];omega)];simp[cP]
 simp only[qH,d];rw[u];obtain⟨q,j⟩:∃q,n-k=q+1:=⟨n-k-1,by omega⟩
 rw[j];simp only[s,if_true,h,and_self,aU,ag2,true_and,afT];rw[<-j,g,bu (by omega)]
theorem rY{t:T}{H:aj}{x:iv}{r:V}(h:cu t H x=aa r):Km.results t H [x]=aa r:=by
 simp[Km.results,aZ,h]
@[simp] theorem acm {t:T} {H:aj} (sz:Nat) (zs:List FC) (x:Arg):bF t H (.clear sz zs x)=(qH H sz zs (x.ev t)).map (.t [],·):=rfl
@[simp] theorem ab5 {a b:Int}:xH ag [vi a,vi b]=aa (vi (max a b)):=by
 have:(if a<b then b else a)=max a b:=by split<;>omega
 simp only[xH,tX,zf];simp[this,V.int]
@[simp] theorem ab6 {a b:Int}:xH ae [vi a,vi b]=aa (vi (min a b)):=by
 have:(if b<a then b else a)=min a b:=by split<;>omega
 simp only[xH,tX,zf];simp[this,V.int]
end
section
open Go
def Qi(l:List (List FC))(i j:Nat):List (List FC):=(l.set i (l.getD j [])).set j (l.getD i [])
def D2(a b:Nat)(l d:List (List FC)):Prop:=d.Perm l/\d.take a=l.take a/\d.drop b=l.drop b
theorem D2.refl(a b:Nat)(l:List (List FC)):D2 a b l l:=⟨.refl _,rfl,rfl⟩
theorem D2.trans{a b:Nat}{l j d:List (List FC)}(h:D2 a b l j)(g:D2 a b j d):D2 a b l d:=⟨g.1.trans h.1,g.2.1.trans h.2.1,g.2.2.trans h.2.2⟩
theorem D2.len{a b:Nat}{l d:List (List FC)}(h:D2 a b l d):d.length=l.length:=h.1.length_eq
theorem Bg{l:List (List FC)}{i j:Nat}(hi:i<l.length)(g:j<l.length)(k:Nat):(Qi l i j)[k]?=if k=j then l[i]? else if k=i then l[j]? else l[k]?:=by
 have m:l.getD i []=l[i]:=by simp[List.getD,afB hi]
 have q:l.getD j []=l[j]:=by simp[List.getD,afB g]
 simp only[Qi,m,q,List.getElem?_set];by_cases b:j=k
 .subst b;simp[afB hi,g]
 .by_cases d:i=k
  .subst d;simp[b,Ne.symm b,afB g,hi]
  .simp[b,d,Ne.symm b,Ne.symm d]
theorem Ss{a b:Nat}{l:List (List FC)}{i j:Nat}(hi:a<=i)(s:i<b)(x:a<=j)(u:j<b)(v:b<=l.length):D2 a b l (Qi l i j):=by
 have d:i<l.length:=by omega
 have g:j<l.length:=by omega
 refine⟨?_,?_,?_⟩
 .have m:l.getD i []=l[i]:=by simp[List.getD,afB d]
  have q:l.getD j []=l[j]:=by simp[List.getD,afB g]
  simp only[Qi,m,q];exact List.set_set_perm d g
 .apply List.ext_getElem?;intro k;simp only[List.getElem?_take];split
  .rw[Bg d g,bG (by omega),bG (by omega)]
  .rfl
 .apply List.ext_getElem?;intro k;simp only[af0];rw[Bg d g,bG (by omega),bG (by omega)]
section
variable{H:aj}{b sz ep:Nat}{rows:List (List FC)}
theorem RB.swap(h:RB H b sz ep rows)(hg:cA sz rows){i j:Nat}(hi:i<rows.length)(m:j<rows.length) :
  ∃d g,cz H (.ptr b (i*sz) ep) (rows[j].map .f)=aa d/\RB d b sz ep (rows.set i rows[j])/\cz d (.ptr b (j*sz) ep) (rows[i].map .f)=aa g/\RB g b sz ep (Qi rows i j)/\Fm b H g:=by
 have y:rows[i].length=sz:=hg _ (afH hi);have q:rows[j].length=sz:=hg _ (afH m);obtain⟨d,B,r1,v,-⟩:=h.str hg hi q;have l:cA sz (rows.set i rows[j]):=λr z=>by
  rcases List.mem_or_eq_of_mem_set z with h|rfl
  .exact hg r h
  .exact q
 obtain⟨g,E,A,x,-⟩:=r1.str l (j:=j) (by simpa using m) y;refine⟨d,g,B,r1,E,?_,v.trans x⟩;have s:rows.getD i []=rows[i]:=by simp[List.getD,afB hi]
 have u:rows.getD j []=rows[j]:=by simp[List.getD,afB m]
 simp only[Qi,s,u];exact A
theorem D2.adN{a b:Nat}{l d:List (List FC)}(h:D2 a b l d)(hg:cA sz l):cA sz d:=λr g=>hg r (h.1.mem_iff.1 g)
end
structure Vo(W:List FC->Prop)(c:List FC->List FC->Int):Prop where
 adC:∀{x y},W x->W y->c x y<0->¬ c y x<0
 trans:∀{x y z},W x->W y->W z->¬ c y x<0->¬ c z y<0->¬ c z x<0
def Up(c:List FC->List FC->Int)(a b:Nat)(l:List (List FC)):Prop:=∀i j x y,a<=i->i<j->j<b->l[i]?=aa x->l[j]?=aa y->¬ c y x<0
end
section
open Go
section
variable{W:List FC->Prop}{c:List FC->List FC->Int}
theorem Up.mono{a b a' d:Nat}{l:List (List FC)}(h:Up c a b l)(m:a<=a')(q:d<=b):Up c a' d l:=
 λi j x y h1 h2 h3 g hy=>h i j x y (by omega) h2 (by omega) g hy
theorem Up.one{a b:Nat}{l:List (List FC)}(h:b<=a+1):Up c a b l:=λi j x y h1 h2 h3=>by omega
def DZ(c:List FC->List FC->Int)(l:List (List FC))(i j:Nat):Prop:=∀x y,l[i]?=aa x->l[j]?=aa y->¬ c y x<0
theorem DZ.trans{l:List (List FC)}{i j k:Nat}(hc:Vo W c)(b:∀r∈l,W r)(h:DZ c l i j)(q:DZ c l j k)(d:j<l.length):DZ c l i k:=λx y g hy=>by
 have m:=afB d;exact hc.trans (b _ (af5 g)) (b _ (afH d)) (b _ (af5 hy)) (h _ _ g m) (q _ _ m hy)
end
end
section
open Go
def bt:C->Option Nat
 | .sl b _ _ _ _ _=>aa b| _=>ab
def LR(H:aj)(c:C)(sz:Nat)(rows:List (List FC)):Prop:=(rows=[]/\(c=.f .aK\/c=.f .es))\/(rows≠[]/\∃b ep,c=.sl b 0 rows.length 0 ep sz/\RB H b sz ep rows)
def Kb(H H':aj)(c:C):Prop:=H.length<=H'.length/\∀(i:Nat) y,H[i]?=aa y->bt c≠aa i->H'[i]?=aa y
section
variable{H H':aj}{c:C}{sz:Nat}{rows:List (List FC)}
theorem LR.nil(H:aj)(sz:Nat):LR H (.f .aK) sz []:=.inl ⟨rfl,.inl rfl⟩
theorem LR.cZ(h:LR H c sz rows)(d:∀i y,H[i]?=aa y->bt c=aa i->H'[i]?=aa y):LR H' c sz rows:=by
 rcases h with h|⟨h,b,ep,rfl,h2⟩
 .exact .inl h
 .exact .inr ⟨h,b,ep,rfl,d b _ h2 rfl⟩
theorem LR.push(h:LR H c sz rows)(J:aj):LR (H++J) c sz rows:=h.cZ λi y hy _=>by rw[afy (au hy)];exact hy
theorem LR.lt(h:LR H c sz rows){i:Nat}(hi:bt c=aa i):i<H.length:=by
 rcases h with⟨_,rfl|rfl⟩|⟨h,b,ep,rfl,h2⟩
 .cases hi
 .cases hi
 .cases hi;exact h2.lt
theorem LR.qN(h:LR H c sz rows){i:Nat}{cs:List C}{fl:Nat}(d:H[i]?=aa (.box cs fl)):bt c≠aa i:=by
 rcases h with⟨_,rfl|rfl⟩|⟨h,b,ep,rfl,h2⟩
 .simp[bt]
 .simp[bt]
 .intro e;cases e;unfold RB at h2;rw[h2]at d;cases d
theorem LR.set(h:LR H c sz rows){i:Nat}(hi:bt c≠aa i)(x:bB):LR (H.set i x) c sz rows:=h.cZ λj y hy b=>by
 have:i≠j:=by rintro rfl;exact hi b
 rw[ae2 this];exact hy
theorem LR.len(h:LR H c sz rows):bo H c=aa rows.length:=by
 rcases h with⟨rfl,rfl|rfl⟩|⟨h,b,ep,rfl,h2⟩
 .rfl
 .rfl
 .exact h2.len
theorem LR.at(h:LR H c sz rows)(hg:cA sz rows){j:Nat}(d:j<rows.length):∃b ep,bw H sz ab (.c c) (vi j)=aa (.c (.ptr b (j*sz) ep))/\aQ H (aa sz) (.c (.ptr b (j*sz) ep))=aa (.a (rows[j].map .f)):=by
 rcases h with⟨rfl,_⟩|⟨h,b,ep,rfl,h2⟩
 .simp at d
 .have:=h2.idx (n:=rows.length) (c:=0) (k:=.i64) (o:=0) (i:=(j:Int)) (by omega) (by omega);rw[afU,agj]at this;exact⟨b,ep,this,h2.Qd hg (afB d)⟩
theorem LR.ex(h:LR H c sz rows)(hg:cA sz rows)(n:Nat):∃g,eg (n+1) H c=aa (sl g rows):=by
 rcases h with⟨rfl,rfl|rfl⟩|⟨h,b,ep,rfl,h2⟩
 .exact⟨.nil,rfl⟩
 .exact⟨.es,rfl⟩
 .refine⟨.fs,?_⟩;have d:rows.length*sz=rows.flatten.length:=(bW hg).symm;unfold RB at h2;simp only[ml,h2];rw[bu ⟨trivial,trivial,by rw[afT,agj,d];exact afJ _⟩,ag5,afM (by rw[afT];omega),wb];cases rows with
  |nil=>exact absurd rfl h| cons x l=>simp[sl]
theorem PB{g g':Tg}{rows:List (List FC)}(h:rows≠[]):sl g rows=sl g' rows:=by
 cases rows with
 |nil=>exact absurd rfl h| cons x l=>rfl
theorem LR.exU(h:LR H c sz rows)(hg:cA sz rows):∃g,∀(H':aj) (n:Nat),(∀i y,H[i]?=aa y->bt c=aa i->H'[i]?=aa y)->eg (n+1) H' c=aa (sl g rows):=by
 by_cases b:rows=[]
 .rcases h with⟨rfl,rfl|rfl⟩|⟨h,_⟩
  .exact⟨.nil,λ_ _ _=>rfl⟩
  .exact⟨.es,λ_ _ _=>rfl⟩
  .exact absurd b h
 .refine⟨.fs,λH' n d=>?_⟩;obtain⟨g,e⟩:=(h.cZ d).ex hg n;rw[e,PB b]
theorem LR.app(h:LR H c sz rows)(hg:cA sz rows)(oe:sz≠0){row:List FC}(u:row.length=sz){bytes:Nat}(d:bU (rows.length+1) bytes=ae){b1 fl1:Nat}(l:H[b1]?=aa (.box (row.map .f) fl1)) :
  ∃c' H',cw H sz bytes (.c c) (.c (.sl b1 0 1 1 0 sz))=aa (.c c',H')/\LR H' c' sz (rows++[row])/\Kb H H' c/\(bt c'=bt c\/bt c'=aa H.length):=by
 have g:cS H sz (.c (.sl b1 0 1 1 0 sz))=aa (1,row.map .f):=pz l (by simp[u]);rcases h with⟨rfl,m⟩|⟨s,b,ep,rfl,h2⟩
 .have d:bU 1 bytes=ae:=by simpa using d
  refine⟨.sl H.length 0 1 0 0 sz,H++[.ct sz (row.map .f) 0 0 .loc],?_,.inr ⟨by simp,H.length,0,rfl,?_⟩,⟨by simp,λi y hy _=>by rw[afy (au hy)];exact hy⟩,.inr rfl⟩
  .rcases m with rfl|rfl<;>simp[cw,g,d,oe]
  .simp[RB]
 .have j:rows.length*sz=rows.flatten.length:=(bW hg).symm;unfold RB at h2;refine⟨.sl b 0 (rows.length+1) 0 (ep+1) sz,H.set b (.ct sz (rows.flatten.map .f++row.map .f) 0 (ep+1) .loc),?_,.inr ⟨by simp,b,ep+1,by simp,?_⟩,⟨by simp,λi y hy q=>?_⟩,.inl rfl⟩
  .simp only[cw,g,oe,if_false,h2,and_self,if_true];simp only[Nat.add_one_ne_zero,if_false];rw[bu ⟨trivial,by rw[afT];exact j,by simp⟩,d];simp
  .unfold RB;rw[afC (au h2)];simp
  .have:b≠i:=by rintro rfl;exact q rfl
   rw[ae2 this];exact hy
theorem Kb.refl(H:aj)(c:C):Kb H H c:=⟨afJ _,λ_ _ h _=>h⟩
theorem Kb.push(H J:aj)(c:C):Kb H (H++J) c:=⟨by simp,λi y hy _=>by rw[afy (au hy)];exact hy⟩
theorem Kb.abc{b o l d ep s:Nat}(h:Fm b H H'):Kb H H' (.sl b o l d ep s):=⟨h.1,λi y hy g=>by
 have:i≠b:=by rintro rfl;exact g rfl
 exact h.get hy this⟩
end
end
section
open Go
theorem vM{g:Type}{sz:Nat}:∀{rows:List (List g)} {j:Nat} {row:List g},(∀r∈rows,r.length=sz)->rows[j]?=aa row->(rows.flatten.drop (j*sz)).take sz=row
 |[],j,row,_,b=>by simp at b
 |r::rows,0,row,d,b=>by
  simp at b;subst b;have:=d r afN;subst this;simp
 |r::rows,j+1,row,d,b=>by
  have l:=d r afN;have q:=vM (rows:=rows) (j:=j) (row:=row) (λx m=>d x (afQ _ m)) (by simpa using b);rw[aga,show(j+1)*sz=r.length+j*sz by rw[l,agn];omega,<-ag9,List.drop_left];exact q
theorem Ji{g:Type}{sz:Nat}:∀{rows:List (List g)} {j k n:Nat} {row:List g},(∀r∈rows,r.length=sz)->rows[j]?=aa row->k+n<=sz->(rows.flatten.drop (j*sz+k)).take n=(row.drop k).take n:=by
 intro rows j k n row b d m;have q:row.length=sz:=b row (af5 d);have l:=vM b d;rw[<-ag9,<-l,List.drop_take,List.take_take,Nat.min_eq_left (by omega)]
theorem yQ{m:Type}{sz:Nat}:∀{rows:List (List m)} {j k:Nat} {row xs:List m},(∀r∈rows,r.length=sz)->rows[j]?=aa row->k+xs.length<=sz->bp rows.flatten (j*sz+k) xs=(rows.set j (bp row k xs)).flatten
 |[],j,k,row,xs,_,b,_=>by simp at b
 |r::rows,0,k,row,xs,d,b,g=>by
  simp at b;subst b;have:=d r afN;simp only[bp,aga,List.set_cons_zero,Nat.zero_mul,agj];rw[age (by omega),List.drop_append_of_le_length (by omega)];simp
 |r::rows,j+1,k,row,xs,d,b,g=>by
  have q:=d r afN;have l:=yQ (rows:=rows) (j:=j) (k:=k) (row:=row) (xs:=xs) (λy s=>d y (afQ _ s)) (by simpa using b) g;have e:(j+1)*sz+k=r.length+(j*sz+k):=by rw[q,agn];omega
  simp only[bp,aga,List.set_cons_succ]at l ⊢;rw[<-l,e,List.take_length_add_append,Nat.add_assoc,List.drop_length_add_append];simp
theorem Gr{g:Type}{sz:Nat}{rows:List (List g)}(b:∀r∈rows,r.length=sz){j:Nat}(d:j<rows.length):j*sz+sz<=rows.flatten.length:=by
 rw[vO b];have:(j+1)*sz<=rows.length*sz:=agx _ d;rw[agn]at this;omega
section
variable{H:aj}{b sz ep j k n:Nat}{rows:List (List FC)}{row:List FC}
theorem RB.ldp(h:RB H b sz ep rows)(hg:cA sz rows)(g:rows[j]?=aa row)(l:k+n<=sz):aQ H (aa n) (.c (.ptr b (j*sz+k) ep))=aa (.a (((row.drop k).take n).map .f)):=by
 unfold RB at h;have d:row.length=sz:=hg row (af5 g);have:=Ji (n:=n) hg g l;simp only[aq,h,if_true];have e:((row.drop k).take n).length=n:=by simp[d];omega
 have m:=Gr hg (afD.1 g).1;rw[<-ahq];simp only[aO,afT];rw[bu (by rw[afX];omega),<-List.map_take,this]
theorem RB.ldc{x:FC}(h:RB H b sz ep rows)(hg:cA sz rows)(g:rows[j]?=aa row)(l:row[k]?=aa x):aQ H ab (.c (.ptr b (j*sz+k) ep))=aa (.c (.f x)):=by
 unfold RB at h;have m:row.length=sz:=hg row (af5 g);have q:=(afD.1 l).1;have:=vN hg g (by omega:k<sz);simp only[aq,h,if_true];rw[ahq.symm];have e:(rows.flatten.drop (j*sz+k))[0]?=aa x:=by rw[af0,ahc,this,l]
 cases d:rows.flatten.drop (j*sz+k)with
 |nil=>rw[d]at e;simp at e| cons y ys=>rw[d]at e;simp at e;simp[aO,e]
theorem RB.stp{xs:List FC}(h:RB H b sz ep rows)(hg:cA sz rows)(g:rows[j]?=aa row)(m:k+xs.length<=sz):∃H',cz H (.ptr b (j*sz+k) ep) (xs.map .f)=aa H'/\RB H' b sz ep (rows.set j (bp row k xs))/\Fm b H H'/\H'.length=H.length:=by
 have d:=(afD.1 g).1;have l:=Gr hg d;unfold RB at h ⊢;refine⟨H.set b (.ct sz ((rows.set j (bp row k xs)).flatten.map .f) 0 ep .loc),?_,afC (au h),Fm.set _ _,by simp⟩;have e:bp (rows.flatten.map C.f) (j*sz+k) (xs.map .f)=((rows.set j (bp row k xs)).flatten).map .f:=by
  rw[<-yQ hg g m];simp[bp]
 simp only[aU,h,ag2,true_and,afT];rw[bu (by omega),e]
end
def WU(sz:Nat)(zs:List FC)(bytes:Nat):aM:=⟨[P.nat 0],[.tmp (P.nat 2)],.seq (.region [⟨D 2,.dr (.k (.c (.f (.aK)))),ab⟩] []) (.seq (.seq (.region [⟨D 3,.dr (R 0),ab⟩,⟨D 4,.eq ag .sl (R 3) (.k (.c (.f (.aK)))),ab⟩] [])
 (.cond (R 4) (.seq (.region [⟨D 2,.dr (.k (.c (.f (.aK)))),ab⟩] []) .ret) .skip)) (.seq (.region [⟨D 5,.dX sz zs 0 [],ab⟩,⟨D 6,.dr (R 0),ab⟩,⟨D 7,.append sz bytes (R 5) (R 6),ab⟩,⟨D 2,.dr (R 7),ab⟩] []) .ret))⟩
section
variable{tab:TB}{F sz bytes:Nat}{zs:List FC}{H:aj}{g:Tg}{rows:List (List FC)}
theorem yN{cs:List FC}{n:Nat}:Dk H .sl (.c (.f (.fs cs n))) (.c (.f .aK))=aa ag:=rfl
theorem Q8:Dk H .sl (.c (.f .aK)) (.c (.f .aK))=aa ae:=rfl
theorem aaK:Dk H .sl (.c (.f .es)) (.c (.f .aK))=aa ag:=rfl
theorem vA(u:tab F=aa (WU sz zs bytes))(l:sz≠0)(v:cA sz rows)(j:bU rows.length bytes=ae) :
  ∃r H',Ev tab (.fn F) [.c (.f (sl g rows))] H r H'/\∃c J,r=.c c/\H'=H++J/\LR (H++J) c sz rows/\∀i,bt c=aa i->H.length<=i:=by
 refine dm (C:=λr H'=>∃c J,r=.c c/\H'=H++J/\LR (H++J) c sz rows/\∀i,bt c=aa i->H.length<=i) u rfl λQ m=>?_;apply ai;simp;apply ak;apply ai;cases rows with
 |nil=>
  cases g with
  |nil=>
   simp[sl,Tg.fc,Q8];refine al (by simp) ?_;apply ai;simp;exact az (m _ _ (.c (.f .aK)) rfl (by simp[Km.results,aZ]) ⟨_,[],rfl,by simp,.inl ⟨rfl,.inl rfl⟩,by simp[bt]⟩)
  |es=>
   simp[sl,Tg.fc,aaK];refine bc (by simp) ?_;apply ai;simp[cw,cS,bo,cR,l];exact az (m _ _ (.c (.f .es)) rfl (by simp[Km.results,aZ]) ⟨_,[],rfl,by simp,.inl ⟨rfl,.inr rfl⟩,by simp[bt]⟩)
  |fs=>
   simp[sl,Tg.fc,yN];refine bc (by simp) ?_;apply ai;simp[cw,cS,bo,cR,l];exact az (m _ _ (.c (.f .es)) rfl (by simp[Km.results,aZ]) ⟨_,[],rfl,by simp,.inl ⟨rfl,.inr rfl⟩,by simp[bt]⟩)
 |cons x r=>
  have d:cS H sz (.c (.f (.fs (x::r).flatten (x::r).length)))=aa ((x::r).length,(x::r).flatten.map .f):=by
   have q:=BN (H:=H) (g:=.fs) v;have s:=EG (H:=H) .fs (x::r);simp only[sl,ahp,afR,if_false]at q s;simp only[cS,q,s]
  have b:bU (r.length+1) bytes=ae:=by simpa using j
  simp only[sl,ahp,afR,if_false];simp[yN];refine bc (by simp) ?_;apply ai;simp only[aga,agm]at d;simp[cw,d,l,b];refine az (m _ _ (.c (.sl H.length 0 (r.length+1) 0 0 sz)) rfl (by simp[Km.results,aZ]) ⟨_,[.ct sz ((x::r).flatten.map .f) 0 0 .loc],rfl,by simp,.inr ⟨by simp,H.length,0,rfl,by simp[RB]⟩,by simp[bt]⟩)
end
end
section
open Go
theorem vp{H:aj}{sz:Nat}{g:Tg}{rows:List (List FC)}(j:cA sz rows):cS H sz (.c (.f (sl g rows)))=aa (rows.length,rows.flatten.map .f):=by
 have b:=BN (H:=H) (g:=g) j;have d:=EG (H:=H) g rows;have e:∀s,sl g rows≠.str s:=λs=>by cases rows<;>cases g<;>simp[sl,Tg.fc]
 generalize sl g rows=x at *;cases x<;>simp only[cS,b,d];exact absurd rfl (e _)
theorem G6{H:aj}{sz:Nat}{g:Tg}{rows:List (List FC)}{k:Nat}(l:cA sz rows)(u:k<=rows.length)(z:rows.length<=9223372036854775807) :
  ∃g',ea H sz (.c (.f (sl g rows))) (aa (vi k)) ab ab=aa (.c (.f (sl g' (rows.drop k)))):=by
 cases rows with
 |nil=>
  have:k=0:=by simpa using u
  subst this;cases g
  .exact⟨.nil,rfl⟩
  .exact⟨.es,rfl⟩
  .exact⟨.fs,by simp[sl,Tg.fc,ea,ch];rfl⟩
 |cons x r=>
  refine⟨.fs,?_⟩;have d:BF (vi k) (x::r).length=aa k:=by
   have:(0:Int)<=(k:Int)/\(k:Int)<=((x::r).length:Int):=⟨by omega,by omega⟩
   show(if(0:Int)<=(k:Int)/\(k:Int)<=((x::r).length:Int)then aa (k:Int).toNat else ab)=aa k;rw[bu this,afU]
  have b:ch (x::r).length (x::r).length (aa (vi k)) ab ab=aa (k,(x::r).length,(x::r).length):=by
   simp[ch];simp only[agm]at d;rw[d];rfl
  show ea H sz (.c (.f (.fs (x::r).flatten (x::r).length))) _ _ _=_;simp only[ea,b];have m:((x::r).flatten.drop (k*sz)).take (((x::r).length-k)*sz)=((x::r).drop k).flatten:=by
   rw[sV k l,afM];rw[bW (λy v=>l y (List.mem_of_mem_drop v)),afX];exact afJ _
  rw[m];have s:sl .fs ((x::r).drop k)=.fs ((x::r).drop k).flatten ((x::r).length-k):=by
   cases j:(x::r).drop k with
   |nil=>
    have:=congrArg List.length j;simp only[afX,agQ]at this;rw[this];rfl
   |cons y q=>
    have:=congrArg List.length j;simp only[afX]at this;rw[this];rfl
  rw[s];simp
theorem LR.Nf{H:aj}{c:C}{sz:Nat}{rows rows':List (List FC)}(h:LR H c sz rows)(hg:cA sz rows)(oe:sz≠0)(l:cA sz rows'){bytes:Nat}(d:bU (rows.length+rows'.length) bytes=ae)(g:Tg) :
  ∃c' H',cw H sz bytes (.c c) (.c (.f (sl g rows')))=aa (.c c',H')/\LR H' c' sz (rows++rows')/\Kb H H' c/\(bt c'=bt c\/bt c'=aa H.length):=by
 by_cases h0:rows'=[]
 .subst h0;refine⟨c,H,?_,by simpa using h,Kb.refl H c,.inl rfl⟩;have s:=vp (H:=H) (g:=g) l;rcases h with⟨rfl,rfl|rfl⟩|⟨q,b,ep,rfl,h2⟩
  .simp only[cw,s,oe,if_false];simp
  .simp only[cw,s,oe,if_false];simp
  .unfold RB at h2;simp only[cw,s,oe,if_false,h2,and_self,if_true,agQ]
 have u:rows'.length≠0:=λe=>h0 (agT.1 e);have j:=vp (H:=H) (g:=g) l;have x:=bW l;rcases h with⟨rfl,v⟩|⟨q,b,ep,rfl,h2⟩
 .have d:bU rows'.length bytes=ae:=by simpa using d
  refine⟨.sl H.length 0 rows'.length 0 0 sz,H++[.ct sz (rows'.flatten.map .f) 0 0 .loc],?_,.inr ⟨by simpa using h0,H.length,0,by simp,?_⟩,Kb.push H _ c,.inr rfl⟩
  .rcases v with rfl|rfl<;>simp[cw,j,d,oe,u]
  .simp[RB]
 .have m:rows.length*sz=rows.flatten.length:=(bW hg).symm;unfold RB at h2;refine⟨.sl b 0 (rows.length+rows'.length) 0 (ep+1) sz,H.set b (.ct sz (rows.flatten.map .f++rows'.flatten.map .f) 0 (ep+1) .loc),?_,.inr ⟨by simp[q],b,ep+1,by simp,?_⟩,⟨by simp,λi y hy z=>?_⟩,.inl rfl⟩
  .simp only[cw,j,oe,if_false,h2,and_self,if_true,u];rw[bu ⟨trivial,by rw[afT];exact m,by simp⟩,d];simp
  .unfold RB;rw[afC (au h2)];simp
  .have:b≠i:=by rintro rfl;exact z rfl
   rw[ae2 this];exact hy
end
section
set_option linter.unusedVariables false
open Go
abbrev yn(d:Nat)(op:dd):aV:=⟨D d,op,ab⟩
abbrev ygm(d k g:Nat):aV:=⟨D d,.dr (R k),G g ae⟩
abbrev ygl(d z k g:Nat):aV:=⟨D d,.load (aa z) (R k),G g ae⟩
abbrev ym(d k:Nat):aV:=⟨D d,.dr (R k),ab⟩
abbrev yi(n:Int):Arg:=.k (.c (.f (.int .i64 n)))
abbrev yt:Arg:=.k (.c (.f (.bool ae)))
abbrev yf:Arg:=.k (.c (.f (.bool ag)))
abbrev ys(z a b:Nat):aV:=⟨ab,.store z (R a) (R b),ab⟩
abbrev yb(d:Nat)(o:BinOp)(a b:Nat):aV:=⟨D d,.bin o (R a) (R b),ab⟩
abbrev ya(d z a b:Nat):aV:=⟨D d,.ez z ab (R a) (R b),ab⟩
abbrev yl(d z a:Nat):aV:=⟨D d,.load (aa z) (R a),ab⟩
abbrev yr(l:List aV):aH:=.region l []
structure S6 where
 pdq:Nat
 ins:Nat
 heap:Nat
 ad8:Nat
 brk:Nat
 piv:Nat
 rev:Nat
 part:Nat
 peq:Nat
 pins:Nat
 ad1:Nat
 med:Nat
 ord:Nat
 npt:Nat
 nxt:Nat
 len:Nat
 Yl:Nat
 Yj:Nat
 rot:Nat
 swr:Nat
section
variable(σ:S6)(sz:Nat)
def Xp:aH:=yr [ym 37 0,ym 38 9,ym 39 0,ym 40 9,yn 41 (.bin .sub (R 40) (yi 1)),ym 42 0,ym 43 9,yn 44 (.bin .sub (R 43) (yi 1)),ya 45 sz 42 44,yl 46 sz 45,ym 47 0,ym 48 9,ya 49 sz 47 48,yl 50 sz 49,ya 51 sz 37 38,ys sz 51 46,ya 52 sz 39 41,ys sz 52 50]
def Xq:aH:=yr [ym 35 9,yn 36 (.bin .sub (R 35) (yi 1)),ym 9 36]
def Xo:aH:=.seq (.block 3 (Xp sz)) (Xq)
def Xn:aH:=.seq (.seq (yr [ym 18 9,ym 19 1,yb 20 .gtr 18 19,ym 21 20,ygm 22 3 21,ygm 23 0 21,ygm 24 9 21,⟨D 25,.ez sz ab (R 23) (R 24),G 21 ae⟩,ygl 26 sz 25 21,ygm 27 0 21,ygm 28 9 21,⟨D 29,.bin .sub (R 28) (yi 1),G 21 ae⟩,⟨D 30,.ez sz ab (R 27) (R 29),G 21 ae⟩,ygl 31 sz 30 21,⟨D 32,.gN (R 22) [R 26,R 31] ae,G 21 ae⟩,⟨D 33,.bin .lss (R 32) (yi 0),G 21 ae⟩,yn 34 (.pick (R 21) (R 33) yf)]) (.cond (R 34) .skip (.exit 2))) (Xo sz)
def Xm:aH:=.seq (yr [ym 17 8,ym 9 17]) (.block 2 (.loop (Xn sz)))
def AL:aH:=yr [ym 15 8,yn 16 (.bin .add (R 15) (yi 1)),ym 8 16]
def aa2:aH:=.seq (.block 1 (Xm sz)) (AL)
def Gx:aH:=.seq (.seq (yr [ym 12 8,ym 13 2,yb 14 .lss 12 13]) (.cond (R 14) .skip (.exit 0))) (aa2 sz)
def aa1:aH:=.seq (yr [ym 10 1,yn 11 (.bin .add (R 10) (yi 1)),ym 8 11]) (.block 0 (.loop (Gx sz)))
def Tl(σ:S6)(sz:Nat):aM:=⟨[P.nat 0,P.nat 1,P.nat 2,P.nat 3],[],(aa1 sz)⟩
end
end
section
open Go
def Cv(tab:TB)(cv:V)(W:List FC->Prop)(c:List FC->List FC->Int):Prop:=
 ∀x y,W x->W y->∀H,∃F b J,cL cv [.a (x.map .f),.a (y.map .f)]=aa (.fn F,b)/\Ev tab (.fn F) b H (vi (c x y)) (H++J)
section
variable{W:List FC->Prop}{c:List FC->List FC->Int}{l:List (List FC)}
theorem DZ.of_lt{i j:Nat}(hc:Vo W c)(b:∀r∈l,W r){x y:List FC}(d:l[i]?=aa x)(hy:l[j]?=aa y)(h:c x y<0):DZ c l i j:=λg m h1 h2=>by
 rw[d]at h1;rw[hy]at h2;cases h1;cases h2;exact hc.adC (b _ (af5 d)) (b _ (af5 hy)) h
theorem DZ.of_le{i j:Nat}{x y:List FC}(b:l[i]?=aa x)(hy:l[j]?=aa y)(h:¬ c y x<0):DZ c l i j:=λd g h1 h2=>by
 rw[b]at h1;rw[hy]at h2;cases h1;cases h2;exact h
theorem DZ.get{b:List (List FC)}{i j d g:Nat}(h:DZ c l i j)(h1:b[d]?=l[i]?)(h2:b[g]?=l[j]?):DZ c b d g:=λx y m hy=>h x y (by rw[<-h1];exact m) (by rw[<-h2];exact hy)
def MY(c:List FC->List FC->Int)(a i j:Nat)(l:List (List FC)):Prop:=∀p q,a<=p->p<q->q<=i->q≠j->DZ c l p q
theorem MY.start{a i:Nat}(h:Up c a i l):MY c a i i l:=λp q h1 h2 h3 h4=>λx y=>h p q x y h1 h2 (by omega)
theorem MY.step{a i j:Nat}(hc:Vo W c)(s:∀r∈l,W r)(h:MY c a i (j+1) l)(u:a<=j)(z:j+1<=i)(hi:i<l.length){x y:List FC}(v:l[j+1]?=aa x)(hy:l[j]?=aa y)(d:c x y<0):MY c a i j (Qi l (j+1) j):=by
 intro p q h1 h2 h3 h4;have g:∀k,(Qi l (j+1) j)[k]?=if k=j then l[j+1]? else if k=j+1 then l[j]? else l[k]?:=λk=>Bg (by omega) (by omega) k;by_cases q1:q=j+1
 .subst q1;by_cases p1:p=j
  .subst p1;exact(DZ.of_lt hc s v hy d).get (by rw[g,bu rfl]) (by rw[g,bG (by omega),bu rfl])
  .exact(h p j h1 (by omega) (by omega) (by omega)).get (by rw[g,bG (by omega),bG (by omega)]) (by rw[g,bG (by omega),bu rfl])
 .have b:(Qi l (j+1) j)[q]?=l[q]?:=by rw[g,bG h4,bG q1]
  by_cases p1:p=j
  .subst p1;exact(h (p+1) q (by omega) (by omega) h3 q1).get (by rw[g,bu rfl]) b
  by_cases m:p=j+1
  .subst m;exact(h j q u (by omega) h3 q1).get (by rw[g,bG (by omega),bu rfl]) b
  .exact(h p q h1 h2 h3 q1).get (by rw[g,bG p1,bG m]) b
theorem MY.front{a i:Nat}(h:MY c a i a l):Up c a (i+1) l:=λp q x y h1 h2 h3=>h p q h1 h2 (by omega) (by omega) x y
theorem MY.stop{a i j:Nat}(hc:Vo W c)(d:∀r∈l,W r)(h:MY c a i (j+1) l)(g:a<=j)(m:j+1<=i)(hi:i<l.length)(b:DZ c l j (j+1)):Up c a (i+1) l:=by
 intro p q x y h1 h2 h3;by_cases q1:q=j+1
 .subst q1;by_cases p1:p=j
  .subst p1;exact b x y
  .exact((h p j h1 (by omega) (by omega) (by omega)).trans hc d b (by omega)) x y
 .exact h p q h1 h2 (by omega) q1 x y
end
section
variable{tab:TB}{σ:S6}{sz:Nat}{H:aj}{b ep:Nat}{rows:List (List FC)}{cv:V}{W:List FC->Prop}{c:List FC->List FC->Int}
theorem RB.at(h:RB H b sz ep rows){i:Nat}(hi:i<rows.length):bw H sz ab (.c (.sl b 0 rows.length 0 ep sz)) (vi i)=aa (.c (.ptr b (i*sz) ep)):=by
 have:=h.idx (n:=rows.length) (c:=0) (k:=.i64) (o:=0) (i:=(i:Int)) (by omega) (by omega);rwa[afU,agj]at this
theorem RB.ldi(h:RB H b sz ep rows)(hg:cA sz rows){i:Nat}(hi:i<rows.length):aQ H (aa sz) (.c (.ptr b (i*sz) ep))=aa (.a (rows[i].map .f)):=h.Qd hg (afB hi)
theorem Xr(hT:tab σ.ins=aa (Tl σ sz))(b_:Cv tab cv W c)(hc:Vo W c){n a e:Nat}(hn:rows.length=n)(hl:n<=1000000000)(d:RB H b sz ep rows)(hg:cA sz rows)(hW:∀r∈rows,W r)(d_:a<=e)(e9:e<=n) :
  ∃r H',Ev tab (.fn σ.ins) [.c (.sl b 0 n 0 ep sz),vi a,vi e,cv] H r H'/\(r=.t []/\Fm b H H'/\∃l',RB H' b sz ep l'/\D2 a e rows l'/\Up c a e l'):=by
 refine dm hT rfl λQ hQ=>?_;apply ai;simp[bg (n:=(a:Int)+1)];refine aI ?_;refine dx (λm s=>∃(i:Nat) (t:T) (U:aj) (l:List (List FC)),s=⟨t,[],U⟩/\m=n+1-i/\a+1<=i/\(i<=e\/i=a+1)/\t.g 0=.c (.sl b 0 n 0 ep sz)/\t.g 1=vi a/\t.g 2=vi e/\t.g 3=cv/\t.g 8=vi i/\
  Fm b H U/\RB U b sz ep l/\D2 a e rows l/\Up c a i l) _
  ⟨a+1,_,H,rows,rfl,rfl,by omega,.inr rfl,by simp,by simp,by simp,by simp,by simp,Fm.refl H,d,D2.refl _ _ _,Up.one (by omega)⟩ ?_
 rintro m s ⟨i,t,U,l,rfl,rfl,e_,hi,g0,B,K,L,E,v,d,g,b9⟩ ih;have A:=g.len;apply ak;apply ai;simp[E,K];by_cases a_:i<e
 case neg=>
  refine aG (by simp[a_]) ?_;refine bT (k':=[]) rfl ?_;exact dY (hQ _ _ _ rfl rfl ⟨rfl,v,l,d,g,b9.mono (afJ _) (by omega)⟩)
 refine al (by simp[a_]) (aS ?_);apply ak;refine aI ?_;apply ai;simp[E];refine aI ?_;refine dx (λm s=>∃(j:Nat) (t:T) (O:aj) (q:List (List FC)),s=⟨t,[],O⟩/\j=m/\a<=j/\j<=i/\t.g 0=.c (.sl b 0 n 0 ep sz)/\t.g 1=vi a/\t.g 2=vi e/\t.g 3=cv/\t.g 8=vi i/\t.g 9=vi j/\
  Fm b H O/\RB O b sz ep q/\D2 a e rows q/\MY c a i j q) i
  ⟨i,_,U,l,rfl,rfl,by omega,by omega,by simp[g0],by simp[B],by simp[K],by simp[L],by simp[E],by simp,v,d,g,MY.start b9⟩ ?_
 rintro m s ⟨j,t,O,q,rfl,rfl,f7,a9,g0,B,K,L,E,X,v,d,g,z⟩ d9;have A:=g.len;have x:=g.adN hg;have I:∀r∈q,W r:=λr hr=>hW r (g.1.mem_iff.1 hr);have stop:Up c a (i+1) q->∀t:T,t.g 0=.c (.sl b 0 n 0 ep sz)->t.g 1=vi a->t.g 2=vi e->t.g 3=cv->t.g 8=vi i->∀S,Fm b H S->RB S b sz ep q->
   WP tab σ.ins ab [.inBlock 1,.code (AL),.inLoop (Gx sz),.inBlock 0] ⟨t,[],S⟩ Q:=by
  intro hp t g0 B K L E S v d;refine aA (av (.inl rfl) ?_);simp[E,bg (n:=(i:Int)+1)];exact ih (n+1-(i+1)) _ (by omega) ⟨i+1,_,S,q,rfl,rfl,by omega,.inl (by omega),by simp[g0],by simp[B],by simp[K],by simp[L],by simp,v,d,g,hp⟩
 apply ak;apply ai;by_cases hj:j=a
 .subst hj;simp[X,B];refine aG (by simp) ?_;refine bT (k':=[.inBlock 1,.code (AL),.inLoop (Gx sz),.inBlock 0]) rfl ?_;exact stop z.front _ (by simp[g0]) (by simp[B]) (by simp[K]) (by simp[L]) (by simp[E]) _ v d
 obtain⟨k,rfl⟩:∃k,j=k+1:=⟨j-1,by omega⟩
 have N:k+1<q.length:=by omega
 have c1:((k+1:Nat):Int)=(k:Int)+1:=by omega
 have M:=d.at N;have i0:=d.at (show k<q.length by omega);have l1:=d.ldi x N;have l0:=d.ldi x (show k<q.length by omega);rw[A,hn]at M i0;rw[c1]at M X;obtain⟨F,ar,J,Z,c_⟩:=b_ q[k+1] q[k] (I _ (afH _)) (I _ (afH _)) O;have he:=c_.eq;have gt:(a:Int)<(k:Int)+1:=by omega
 simp[X,g0,B,L,gt,M,i0,l1,l0,Z,he,-aq,bg (n:=(k:Int))];by_cases y:c q[k+1] q[k]<0
 case neg=>
  refine aG (by simp[y]) ?_;refine bT (k':=[.inBlock 1,.code (AL),.inLoop (Gx sz),.inBlock 0]) rfl ?_;exact stop (z.stop hc I (by omega) a9 (by omega) (DZ.of_le (afB (by omega)) (afB N) y)) _ (by simp[g0]) (by simp[B]) (by simp[K]) (by simp[L]) (by simp[E]) _ (v.trans (Fm.push _ _)) (d.push _)
 refine al (by simp[y]) (aS ?_);have w1:q[k+1].length=sz:=x _ (afH _);have w0:q[k].length=sz:=x _ (afH _);have u:=d.push J;obtain⟨HJ,Y⟩:=aD (O++J);rw[<-Y]at u ⊢;have a8:Fm b H HJ:=by rw[Y];exact v.trans (Fm.push _ _)
 have M:=u.at N;have i0:=u.at (show k<q.length by omega);have l1:=u.ldi x N;have l0:=u.ldi x (show k<q.length by omega);obtain⟨S,H4,s1,r1,s2,r2,f2⟩:=u.swap x N (show k<q.length by omega);have i2:=r1.at (show k<(q.set (k+1) q[k]).length by simp;omega);rw[List.length_set]at i2;rw[A,hn]at M i0 i2;rw[c1]at M;apply ak;refine aI ?_;refine av (.inl rfl) ?_;simp[X,g0,M,i0,i2,l1,l0,s1,s2,w1,w0,-aq,-aU,bg (n:=(k:Int))];refine aA ?_;refine av (.inl rfl) ?_;simp[X,bg (n:=(k:Int))];exact d9 k _ (by omega) ⟨k,_,H4,Qi q (k+1) k,rfl,rfl,by omega,by omega,by simp[g0],by simp[B],by simp[K],by simp[L],by simp[E],by simp,a8.trans f2,r2,
  g.trans (Ss (by omega) (by omega) (by omega) (by omega) (by omega)),z.step hc I (by omega) a9 (by omega) (afB N) (afB (by omega)) y⟩
end
end
section
open Go
section
variable{tab:TB}{σ:S6}{sz:Nat}{H:aj}{b ep:Nat}{rows:List (List FC)}{cv:V}{W:List FC->Prop}{c:List FC->List FC->Int}
def Kp(H H':aj):Prop:=H.length<=H'.length/\∀b:Nat,b<H.length->H'[b]?=H[b]?
theorem Kp.refl(H:aj):Kp H H:=⟨afJ _,λ_ _=>rfl⟩
theorem Kp.push(H J:aj):Kp H (H++J):=⟨by simp,λb l=>afy l⟩
theorem Kp.next{H H' b:aj}{p:Nat}(h:Kp H H')(j:H.length<=p)(g:Fm p H' b):Kp H b:=⟨af1 h.1 g.1,λd l=>(g.2 d (by omega) (af9 l h.1)).trans (h.2 d l)⟩
end
end
section
set_option linter.unusedVariables false
open Go
section
variable(σ:S6)(sz:Nat)
def Se:aH:=.region [⟨D 20,.dr (R 8),ab⟩,⟨D 21,.dr (R 6),ab⟩,⟨D 22,.bin .add (R 20) (R 21),ab⟩,⟨D 8,.dr (R 22),ab⟩] []
def Sd:aH:=.seq (.region [⟨D 19,.dr (R 8),ab⟩,⟨D 7,.dr (R 19),ab⟩] []) (Se)
def Sc:aH:=.seq (.region [⟨D 14,.dr (R 0),ab⟩,⟨D 15,.dr (R 7),ab⟩,⟨D 16,.dr (R 8),ab⟩,⟨D 17,.dr (R 2),ab⟩,⟨D 18,.call σ.ins [(R 14),(R 15),(R 16),(R 17)] ae,ab⟩] []) (Sd)
def Yp:aH:=.seq (.seq (.region [⟨D 11,.dr (R 8),ab⟩,⟨D 12,.dr (R 1),ab⟩,⟨D 13,.bin .leq (R 11) (R 12),ab⟩] []) (.cond (R 13) .skip (.exit 0))) (.block 1 (Sc σ))
def Sl:aH:=.region [⟨D 45,.dr (R 8),ab⟩,⟨D 46,.dr (R 6),ab⟩,⟨D 47,.bin .mul (.k (.c (.f (.int .i64 2)))) (R 46),ab⟩,⟨D 48,.bin .add (R 45) (R 47),ab⟩,⟨D 8,.dr (R 48),ab⟩] []
def Sk:aH:=.seq (.region [⟨D 44,.dr (R 8),ab⟩,⟨D 7,.dr (R 44),ab⟩] []) (Sl)
def Sj:aH:=.seq (.region [⟨D 36,.dr (R 0),ab⟩,⟨D 37,.dr (R 7),ab⟩,⟨D 38,.dr (R 7),ab⟩,⟨D 39,.dr (R 6),ab⟩,⟨D 40,.bin .add (R 38) (R 39),ab⟩,⟨D 41,.dr (R 8),ab⟩,⟨D 42,.dr (R 2),ab⟩,⟨D 43,.call σ.Yj [(R 36),(R 37),(R 40),(R 41),(R 42)] ae,ab⟩] []) (Sk)
def Si:aH:=.seq (.seq (.region [⟨D 33,.dr (R 8),ab⟩,⟨D 34,.dr (R 1),ab⟩,⟨D 35,.bin .leq (R 33) (R 34),ab⟩] []) (.cond (R 35) .skip (.exit 4))) (.block 5 (Sj σ))
def Sp:aH:=.region [⟨D 55,.dr (R 0),ab⟩,⟨D 56,.dr (R 7),ab⟩,⟨D 57,.dr (R 9),ab⟩,⟨D 58,.dr (R 1),ab⟩,⟨D 59,.dr (R 2),ab⟩,⟨D 60,.call σ.Yj [(R 55),(R 56),(R 57),(R 58),(R 59)] ae,ab⟩] []
def So:aH:=.seq (.region [⟨D 52,.dr (R 9),ab⟩,⟨D 53,.dr (R 1),ab⟩,⟨D 54,.bin .lss (R 52) (R 53),ab⟩] []) (.cond (R 54) (Sp σ) .skip)
def Sq:aH:=.region [⟨D 61,.dr (R 6),ab⟩,⟨D 62,.bin .mul (R 61) (.k (.c (.f (.int .i64 2)))),ab⟩,⟨D 6,.dr (R 62),ab⟩] []
def Sn:aH:=.seq (.seq (.region [⟨D 49,.dr (R 7),ab⟩,⟨D 50,.dr (R 6),ab⟩,⟨D 51,.bin .add (R 49) (R 50),ab⟩,⟨D 9,.dr (R 51),ab⟩] []) (So σ)) (Sq)
def Sh:aH:=.seq (.block 4 (.loop (Si σ))) (Sn σ)
def Sg:aH:=.seq (.region [⟨D 31,.dr (R 6),ab⟩,⟨D 32,.bin .mul (.k (.c (.f (.int .i64 2)))) (R 31),ab⟩,⟨D 7,.dr (.k (.c (.f (.int .i64 0)))),ab⟩,⟨D 8,.dr (R 32),ab⟩] []) (Sh σ)
def Sf:aH:=.seq (.seq (.region [⟨D 28,.dr (R 6),ab⟩,⟨D 29,.dr (R 1),ab⟩,⟨D 30,.bin .lss (R 28) (R 29),ab⟩] []) (.cond (R 30) .skip (.exit 2))) (.block 3 (Sg σ))
def G7:aH:=.seq (.region [⟨D 23,.dr (R 0),ab⟩,⟨D 24,.dr (R 7),ab⟩,⟨D 25,.dr (R 1),ab⟩,⟨D 26,.dr (R 2),ab⟩,⟨D 27,.call σ.ins [(R 23),(R 24),(R 25),(R 26)] ae,ab⟩] []) (.block 2 (.loop (Sf σ)))
def Yo:aH:=.seq (.block 0 (.loop (Yp σ))) (G7 σ)
def Yn:aH:=.seq (.region [⟨D 10,.dr (R 6),ab⟩,⟨D 7,.dr (.k (.c (.f (.int .i64 0)))),ab⟩,⟨D 8,.dr (R 10),ab⟩] []) (Yo σ)
def Ym:aH:=.seq (.region [⟨D 6,.dr (.k (.c (.f (.int .i64 20)))),ab⟩] []) (Yn σ)
def Yq(σ:S6)(sz:Nat):aM:=⟨[P.nat 0,P.nat 1,P.nat 2],[],(Ym σ)⟩
end
end
section
set_option linter.unusedVariables false
open Go
theorem mY{tab:TB}{fn:Nat}{ro:Option Nat}{k:List de}{s:St}{Q:Option aH->St->Prop}{a:aH}(h:WP tab fn ro (.code a::.inLoop a::k) s Q):WP tab fn ro (.code (.loop a)::k) s Q:=nX h λ_ _ _=>rfl
theorem Jp{lo hi:Nat}(h:lo+hi<=2000000000):IntKind.u64.wrap ((lo:Int)+hi)=(lo:Int)+hi:=by
 show((lo:Int)+hi) % 18446744073709551616=_;omega
theorem NU{lo hi q:Nat}(h:lo+hi<=2000000000)(d:q=(lo+hi) / 2):ei BinOp.shr (V.c (C.f (FC.int IntKind.u64 ((lo:Int)+hi)))) (V.c (C.f (FC.int IntKind.u64 1)))=aa (.c (.f (.int .u64 (q:Int)))):=by
 show aa (V.c (C.f (FC.int IntKind.u64 (Int.fdiv ((lo:Int)+hi) (2 ^ (min (1:Int).toNat IntKind.u64.bits))))))=_;have b:Int.fdiv ((lo:Int)+hi) (2 ^ (min (1:Int).toNat IntKind.u64.bits))=q:=by
  show Int.fdiv ((lo:Int)+hi) 2=q;rw[Int.fdiv_eq_ediv_of_nonneg _ (by omega)];omega
 rw[b]
end
section
set_option linter.unusedVariables false
open Go
section
variable{tab:TB}{σ:S6}{sz:Nat}{b ep:Nat}{cv:V}{W:List FC->Prop}{c:List FC->List FC->Int}
theorem Kz(u:tab σ.Yl=aa (Yq σ sz))(q:tab σ.ins=aa (Tl σ sz))(g:Cv tab cv W c)(x:Vo W c){H:aj}{rows:List (List FC)}{n:Nat}(z:rows.length=n)(J:n<20)(j:RB H b sz ep rows)(y:cA sz rows)(v:∀r∈rows,W r) :
  ∃r H',Ev tab (.fn σ.Yl) [.c (.sl b 0 n 0 ep sz),vi n,cv] H r H'/\(r=.t []/\Fm b H H'/\∃l,RB H' b sz ep l/\l.Perm rows/\Up c 0 n l):=by
 refine dm u rfl λQ s=>?_;apply ai;simp;apply ai;simp;apply ak;refine aI ?_;refine mY ?_;apply ak;apply ai;simp;refine aG (by simp;omega) ?_;refine bT (k':=[.code (G7 σ)]) rfl ?_;obtain⟨r,I,d,rfl,m,A,B,E,F⟩:=Xr (a:=0) (e:=n) q g x z (by omega) j y v (by omega) (afJ _);have d:=d.eq;simp at d;apply ai;simp[d];refine aI ?_;refine mY ?_;apply ak;apply ai;simp;refine aG (by simp;omega) ?_;refine bT (k':=[]) rfl ?_;exact dY (s _ _ _ rfl rfl ⟨rfl,m,A,B,E.1,F⟩)
end
end
section
open Go
def LX(H:aj)(c:C)(sz:Nat)(rows:List (List FC)):Prop:=(rows=[]/\(c=.f .aK\/c=.f .es))\/(rows≠[]/\∃b ep fl,c=.sl b 0 rows.length 0 ep sz/\H[b]?=aa (.ct sz (rows.flatten.map .f) fl ep .loc))
section
variable{H H':aj}{c c':C}{sz sz':Nat}{rows rows':List (List FC)}
theorem LR.x(h:LR H c sz rows):LX H c sz rows:=by
 rcases h with h|⟨h,b,ep,rfl,h2⟩
 .exact .inl h
 .exact .inr ⟨h,b,ep,0,rfl,h2⟩
theorem LX.qN(h:LX H c sz rows){i:Nat}{cs:List C}{fl:Nat}(d:H[i]?=aa (.box cs fl)):bt c≠aa i:=by
 rcases h with⟨_,rfl|rfl⟩|⟨h,b,ep,fl,rfl,h2⟩
 .simp[bt]
 .simp[bt]
 .intro e;cases e;rw[h2]at d;cases d
theorem LX.set(h:LX H c sz rows){i:Nat}(hi:bt c≠aa i)(x:bB):LX (H.set i x) c sz rows:=by
 rcases h with h|⟨h,b,ep,fl,rfl,h2⟩
 .exact .inl h
 .have:i≠b:=by rintro rfl;exact hi rfl
  exact .inr ⟨h,b,ep,fl,rfl,by rw[ae2 this];exact h2⟩
theorem LX.mkH(h:LX H c' sz' rows')(n:Nat):ic (n+1) c' H=H\/∃b ep fl d,bt c'=aa b/\H[b]?=aa (.ct sz' (rows'.flatten.map .f) fl ep .loc)/\ic (n+1) c' H=H.set b (.ct sz' (rows'.flatten.map .f) d ep .loc):=by
 rcases h with⟨_,rfl|rfl⟩|⟨j,b,ep,fl,rfl,h2⟩
 .exact .inl rfl
 .exact .inl rfl
 .refine .inr ⟨b,ep,fl,Nat.max fl (0+rows'.length*sz'),rfl,h2,?_⟩;simp only[tZ,h2];rw[AD];intro x g;have g:=List.mem_of_mem_drop (agD g);obtain⟨m,_,rfl⟩:=af6.1 g;exact⟨_,rfl⟩
theorem LX.mk(h:LX H c sz rows)(s:LX H c' sz' rows')(n:Nat):LX (ic (n+1) c' H) c sz rows:=by
 rcases s.mkH n with e|⟨j,m,q,d,x,g,e⟩
 .rw[e];exact h
 .rw[e];rcases h with h|⟨h,b,ep,fl,rfl,h2⟩
  .exact .inl h
  .by_cases l:j=b
   .subst l;rw[h2]at g;injection g with g;injection g with q1 u y v z;subst q1;rw[<-u,<-v];exact .inr ⟨h,j,ep,d,rfl,afC (au h2)⟩
   .exact .inr ⟨h,b,ep,fl,rfl,by rw[ae2 l];exact h2⟩
theorem LX.Tp(h:LX H c sz rows)(n:Nat){i:Nat}{cs:List C}{fl:Nat}(hi:H[i]?=aa (.box cs fl)):(ic (n+1) c H)[i]?=aa (.box cs fl):=by
 rcases h.mkH n with e|⟨g,j,l,d,m,b,e⟩
 .rw[e];exact hi
 .rw[e];have:g≠i:=by rintro rfl;rw[hi]at b;cases b
  rw[ae2 this];exact hi
theorem LX.ex(h:LX H c sz rows)(hg:cA sz rows):∃g,∀(H':aj) (n:Nat),LX H' c sz rows->eg (n+1) H' c=aa (sl g rows):=by
 by_cases d:rows=[]
 .rcases h with⟨rfl,rfl|rfl⟩|⟨h,_⟩
  .exact⟨.nil,λ_ _ _=>rfl⟩
  .exact⟨.es,λ_ _ _=>rfl⟩
  .exact absurd d h
 .refine⟨.fs,λH' n q=>?_⟩;rcases q with⟨e,_⟩|⟨m,b,ep,fl,rfl,h2⟩
  .exact absurd e d
  .have j:rows.length*sz=rows.flatten.length:=(bW hg).symm;simp only[ml,h2];rw[bu ⟨trivial,trivial,by rw[afT,agj,j];exact afJ _⟩,ag5,afM (by rw[afT];omega),wb];cases rows with
   |nil=>exact absurd rfl d| cons x l=>simp[sl]
end
end
section
set_option linter.unusedVariables false
open Go
def Xa(sz bytes:Nat)(zs:List FC):aH:=yr [yn 7 (.bad),⟨ab,.bad,ab⟩]
def Rg(sz bytes:Nat)(zs:List FC):aH:=yr [ym 17 0,ym 18 0,yn 19 (.cap (R 18)),yn 20 (.slice sz (R 17) ab (aa (R 19)) ab),ym 21 1,yn 22 (.oC sz bytes zs (R 20) (R 21)),ym 23 0,yn 24 (.len (R 23)),yn 25 (.slice sz (R 22) ab (aa (R 24)) ab),ym 0 25]
def Rf(sz bytes:Nat)(zs:List FC):aH:=.seq (yr [ym 15 1,yn 16 (.bin .gtr (R 15) (yi 0))]) (.cond (R 16) (Rg sz bytes zs) .skip)
def Rh(sz bytes:Nat)(zs:List FC):aH:=.seq (yr [ym 26 0,ym 4 26]) .ret
def Xb(sz bytes:Nat)(zs:List FC):aH:=.seq (.seq (yr [ym 8 1,ym 9 0,yn 10 (.cap (R 9)),ym 11 0,yn 12 (.len (R 11)),yb 13 .sub 10 12,yb 14 .sub 8 13,ym 1 14]) (Rf sz bytes zs)) (Rh sz bytes zs)
def W_(sz bytes:Nat)(zs:List FC):aH:=.seq (.seq (yr [ym 5 1,yn 6 (.bin .lss (R 5) (yi 0))]) (.cond (R 6) (Xa sz bytes zs) .skip)) (Xb sz bytes zs)
def W9(sz bytes:Nat)(zs:List FC):aH:=.seq (yr [yn 4 (.dr (.k (.c (.f .aK))))]) (W_ sz bytes zs)
def Tc(sz bytes:Nat)(zs:List FC):aM:=⟨[P.nat 0,P.nat 1],[.tmp (P.nat 4)],(W9 sz bytes zs)⟩
def IT(G sz bytes:Nat):aH:=yr [yn 21 (.bad),⟨ab,.bad,ab⟩]
def IS(G sz bytes:Nat):aH:=.seq (yr [ym 19 3,yn 20 (.bin .lss (R 19) (yi 0))]) (.cond (R 20) (IT G sz bytes) .skip)
def IQ(G sz bytes:Nat):aH:=.seq (yr [ym 15 3,ym 16 5,yn 17 (.len (R 16)),yb 18 .add 15 17,ym 3 18]) (IS G sz bytes)
def IP(G sz bytes:Nat):aH:=.seq (yr [ya 13 1 9 11,yn 14 (.load ab (R 13)),ym 5 14]) (IQ G sz bytes)
def IU(G sz bytes:Nat):aH:=yr [yn 22 (.bin .add (R 11) (yi 1)),ym 11 22]
def IN(G sz bytes:Nat):aH:=.seq (.block 1 (IP G sz bytes)) (IU G sz bytes)
def IM(G sz bytes:Nat):aH:=.seq (.cond (R 12) .skip (.exit 0)) (IN G sz bytes)
def Nw(G sz bytes:Nat):aH:=.seq (yr [yb 12 .lss 11 10]) (IM G sz bytes)
def I2(G sz bytes:Nat):aH:=yr [ym 31 6,ym 32 8,yn 33 (.append sz bytes (R 31) (R 32)),ym 6 33]
def I1(G sz bytes:Nat):aH:=.seq (yr [ya 29 1 25 27,yn 30 (.load ab (R 29)),ym 8 30]) (I2 G sz bytes)
def I3(G sz bytes:Nat):aH:=yr [yn 34 (.bin .add (R 27) (yi 1)),ym 27 34]
def I0(G sz bytes:Nat):aH:=.seq (.block 3 (I1 G sz bytes)) (I3 G sz bytes)
def IZ(G sz bytes:Nat):aH:=.seq (.cond (R 28) .skip (.exit 2)) (I0 G sz bytes)
def IY(G sz bytes:Nat):aH:=.seq (yr [yb 28 .lss 27 26]) (IZ G sz bytes)
def IX(G sz bytes:Nat):aH:=.block 2 (.loop (IY G sz bytes))
def I4(G sz bytes:Nat):aH:=.seq (yr [ym 35 6,ym 2 35]) .ret
def IW(G sz bytes:Nat):aH:=.seq (.seq (yr [ym 25 0,yn 26 (.len (R 25)),yn 27 (.dr (yi 0))]) (IX G sz bytes)) (I4 G sz bytes)
def IV(G sz bytes:Nat):aH:=.seq (yr [ym 23 3,yn 24 (.call G [(.k (.c (.f .aK))),R 23] ae),ym 6 24]) (IW G sz bytes)
def Nv(G sz bytes:Nat):aH:=.seq (.seq (yr [ym 9 0,yn 10 (.len (R 9)),yn 11 (.dr (yi 0))]) (.block 0 (.loop (Nw G sz bytes)))) (IV G sz bytes)
def Nu(G sz bytes:Nat):aH:=.seq (yr [yn 3 (.dr (yi 0))]) (Nv G sz bytes)
def Nt(G sz bytes:Nat):aH:=.seq (yr [yn 2 (.dr (.k (.c (.f .aK))))]) (Nu G sz bytes)
def QX(G sz bytes:Nat):aM:=⟨[P.nat 0],[.tmp (P.nat 2)],(Nt G sz bytes)⟩
section
variable{tab:TB}{F G sz bytes:Nat}{zs:List FC}{H:aj}
theorem SA(t:T)(H:aj)(sz bytes:Nat)(zs:List FC)(x n:Arg):bF t H (.oC sz bytes zs x n)=vr H sz bytes zs (x.ev t) (n.ev t):=rfl
theorem Kd{d:Type}(n:Nat)(xs:List d):(cP n xs).length=n*xs.length:=by
 induction n with
 |zero=>simp[cP]
 |succ n b=>
  have:cP (n+1) xs=xs++cP n xs:=by simp[cP,List.replicate_succ]
  rw[this,afK,b,Nat.succ_mul,Nat.add_comm]
def GR(H:aj)(c:C)(sz n:Nat)(rows:List (List FC)):Prop:=(n=0/\rows=[]/\c=.f .aK)\/(0<n/\∃b rest,c=.sl b 0 rows.length 0 0 sz/\H[b]?=aa (.ct sz (rows.flatten.map .f++rest) 0 0 .loc)/\(rows.flatten.map C.f++rest).length=n*sz)
theorem Ri(u:tab F=aa (Tc sz bytes zs))(y:sz≠0)(m:zs.length=sz)(n:Nat)(z:n<=1000000)(b:bU n bytes=ae):∃r H',Ev tab (.fn F) [.c (.f .aK),vi n] H r H'/\
  ∃c,r=.c c/\GR H' c sz n []/\(∀i:Nat,i<H.length->H'[i]?=H[i]?)/\H.length<=H'.length/\∀i,bt c=aa i->H.length<=i:=by
 refine dm (C:=λr H'=>∃c,r=.c c/\GR H' c sz n []/\(∀i:Nat,i<H.length->H'[i]?=H[i]?)/\H.length<=H'.length/\∀i,bt c=aa i->H.length<=i) u rfl λQ l=>?_;apply ai;simp;apply ak;apply ai;simp[show¬ (n:Int)<0 by omega];refine bc (by simp) ?_;apply ak;apply ai;simp[bo,kE,wrap64 (n:=(0:Int)) (by decide) (by decide),bg (n:=(n:Int))];apply ai;simp;rcases Nat.eq_zero_or_pos n with rfl|x
 .refine bc (by simp) ?_;apply ai;simp;exact az (l _ _ (.c (.f .aK)) rfl (by simp[Km.results,aZ]) ⟨.f .aK,rfl,.inl ⟨rfl,rfl,rfl⟩,λ_ _=>rfl,afJ _,λ_ h=>by cases h⟩)
 .refine al (by simp;omega) ?_;have q:ea H sz (.c (.f .aK)) ab (aa (vi 0)) ab=aa (.c (.f .aK)):=rfl;have d:∃cs:List C,cs.length=n*sz/\vr H sz bytes zs (.c (.f .aK)) (vi n)=aa (.c (.sl H.length 0 n 0 0 sz),H++[.ct sz cs 0 0 .loc]):=by
   refine⟨(cP n zs).map .f,by rw[afT,Kd,m],?_⟩;have hi:kQ (vi n)=aa (n:Int):=rfl;simp[vr,hi,m,show¬ n=0 by omega,show¬ (n:Int)<=0 by omega,b]
  obtain⟨cs,j,d⟩:=d;have s:ea (H++[.ct sz cs 0 0 .loc]) sz (.c (.sl H.length 0 n 0 0 sz)) ab (aa (vi 0)) ab=aa (.c (.sl H.length 0 0 0 0 sz)):=by
   have v:ch n n ab (aa (vi ((0:Nat):Int))) ab=aa (0,0,n):=by simp only[ch,Ao (ag2 n)];rfl
   have g:(H++[bB.ct sz cs 0 0 .loc])[H.length]?=aa (bB.ct sz cs 0 0 .loc):=by simp
   simp only[ea,g,and_self,if_true];rw[show(vi 0:V)=vi ((0:Nat):Int) from rfl,v];simp
  refine av (.inl rfl) ?_;simp[bo,kE,q,SA,d,s];apply ai;simp;exact az (l _ _ (.c (.sl H.length 0 0 0 0 sz)) rfl (by simp[Km.results,aZ]) ⟨_,rfl,.inr ⟨x,H.length,cs,rfl,by simp,by simpa using j⟩,λi hi=>afy hi,by simp,λi h=>by cases h;exact afJ _⟩)
theorem GR.app{c:C}{n:Nat}{rows ys:List (List FC)}(h:GR H c sz n rows)(hg:cA sz rows)(hy:cA sz ys)(oe:sz≠0)(m:rows.length+ys.length<=n){x:C}(z:cS H sz (.c x)=aa (ys.length,ys.flatten.map .f)) :
  ∃c' H',cw H sz bytes (.c c) (.c x)=aa (.c c',H')/\GR H' c' sz n (rows++ys)/\bt c'=bt c/\H'.length=H.length/\∀(i:Nat) y,H[i]?=aa y->bt c≠aa i->H'[i]?=aa y:=by
 rcases h with⟨rfl,rfl,rfl⟩|⟨E,b,rest,rfl,j,d⟩
 .have:ys=[]:=agT.1 (by omega);subst this;exact⟨.f .aK,H,by simp only[cw,z,oe,if_false];simp,.inl ⟨rfl,rfl,rfl⟩,rfl,rfl,λ_ _ h _=>h⟩
 .by_cases B:ys.length=0
  .have:ys=[]:=agT.1 B;subst this;refine⟨.sl b 0 rows.length 0 0 sz,H,?_,.inr ⟨E,b,rest,by simp,by simpa using j,by simpa using d⟩,rfl,rfl,λ_ _ h _=>h⟩;simp only[cw,z,oe,if_false,j,and_self,if_true,agQ]
  .have u:rows.flatten.length=rows.length*sz:=bW hg;have g:ys.flatten.length=ys.length*sz:=bW hy;have A:rows.length*sz+ys.length*sz<=n*sz:=by rw[<-agn];exact agx sz m
   have F:0<ys.length*sz:=Nat.mul_pos (by omega) (by omega);have s:bp (rows.flatten.map C.f++rest) (rows.length*sz) (ys.flatten.map C.f)=(rows++ys).flatten.map C.f++rest.drop (ys.length*sz):=by
    have e:rows.length*sz=(rows.flatten.map C.f).length:=by rw[afT,u]
    simp only[bp];rw[e,List.take_left,ahl,afT,afT,g];rw[agZ (l:=rows.flatten.map C.f) (by rw[afT];omega)];simp
   have v:rest.length=n*sz-rows.length*sz:=by rw[afK,afT,u]at d;omega
   refine⟨.sl b 0 (rows.length+ys.length) 0 0 sz,H.set b (.ct sz ((rows++ys).flatten.map .f++rest.drop (ys.length*sz)) 0 0 .loc),?_,.inr ⟨E,b,rest.drop (ys.length*sz),by simp,afC (au j),?_⟩,rfl,by simp,λi y hy q=>?_⟩
   .simp only[cw,z,oe,if_false,j,and_self,if_true,B];rw[bG (by rw[d];rintro⟨_,h,_⟩;omega),bu ⟨trivial,ag2 _,by rw[d,afT,g];omega⟩];simp only[agj,s]
   .rw[afK,afT,agY,afK,afX,u,g,v];omega
   .have:b≠i:=by rintro rfl;exact q rfl
    rw[ae2 this];exact hy
theorem GR.lr{c:C}{rows:List (List FC)}(h:GR H c sz rows.length rows)(hg:cA sz rows):LR H c sz rows:=by
 rcases h with⟨_,h1,rfl⟩|⟨g,b,rest,rfl,j,d⟩
 .rw[h1];exact LR.nil _ _
 .have l:rows.flatten.length=rows.length*sz:=bW hg;have:rest=[]:=agT.1 (by rw[afK,afT,l]at d;omega);subst this;exact .inr ⟨λe=>by rw[e]at g;simp at g,b,0,rfl,by simpa[RB]using j⟩
theorem I5(hT:tab F=aa (QX G sz bytes))(hG:tab G=aa (Tc sz bytes zs))(S:sz≠0)(hz:zs.length=sz){b:Nat}(xs:List (C × List (List FC)))(hb:H[b]?=aa (.box (xs.map (·.1)) 0))(e9:xs.length<=1000000)
  (hx:∀x∈xs,cA sz x.2/\∀H':aj,(∀i:Nat,i<H.length->H'[i]?=H[i]?)->bo H' x.1=aa x.2.length/\cS H' sz (.c x.1)=aa (x.2.length,x.2.flatten.map .f))
  (W:((xs.map (·.2)).flatten).length<=1000000) (d:bU ((xs.map (·.2)).flatten).length bytes=ae) :
  ∃r H',Ev tab (.fn F) [.c (.sl b 0 xs.length xs.length 0 1)] H r H'/\∃c,r=.c c/\LR H' c sz (xs.map (·.2)).flatten/\(∀i:Nat,i<H.length->H'[i]?=H[i]?)/\H.length<=H'.length/\∀i,bt c=aa i->H.length<=i:=by
 have M:=au hb;have Y:∀(H':aj),(∀i:Nat,i<H.length->H'[i]?=H[i]?)->∀j:Nat,(h:j<xs.length)->bw H' 1 ab (.c (.sl b 0 xs.length xs.length 0 1)) (vi j)=aa (.c (.ptr b j 0))/\aQ H' ab (.c (.ptr b j 0))=aa (.c xs[j].1):=λH' v j h=>by
  have m:H'[b]?=aa (.box (xs.map (·.1)) 0):=by rw[v b M];exact hb
  refine⟨?_,?_⟩
  .simp[bw,show kQ (vi j)=aa (j:Int) from rfl,m,h]
  .simp[aQ,aw,m,aO,h,afL]
 have Z:∀(H':aj),(∀i:Nat,i<H.length->H'[i]?=H[i]?)->bo H' (.sl b 0 xs.length xs.length 0 1)=aa xs.length:=λH' v=>by
  have m:H'[b]?=aa (.box (xs.map (·.1)) 0):=by rw[v b M];exact hb
  simp[bo,m]
 have tk:∀j (h:j<xs.length),((xs.take (j+1)).map (·.2)).flatten=((xs.take j).map (·.2)).flatten++xs[j].2:=λj h=>by
  rw[List.take_add_one,afB h];simp only[Option.toList_some,agA,afS,afW,agY,aga,List.flatten_nil,agp]
 have d9:∀j,((xs.take j).map (·.2)).flatten.length<=((xs.map (·.2)).flatten).length:=λj=>by
  conv=>rhs;rw[<-agI j xs,agA,agY,afK]
  omega
 have a8:∀j,cA sz ((xs.take j).map (·.2)).flatten:=λj r hr=>by
  obtain⟨l,hl,hr⟩:=List.mem_flatten.1 hr;obtain⟨x,c_,rfl⟩:=af6.1 hl;exact(hx x (agD c_)).1 r hr
 refine dm (H:=H) (args:=[.c (.sl b 0 xs.length xs.length 0 1)]) (C:=λr H'=>∃c,r=.c c/\LR H' c sz (xs.map (·.2)).flatten/\(∀i:Nat,i<H.length->H'[i]?=H[i]?)/\H.length<=H'.length/\∀i,bt c=aa i->H.length<=i) hT rfl λQ hQ=>?_;apply ai;simp;apply ai;simp;apply ak;apply ai;simp[Z H λ_ _=>rfl];obtain⟨L,B⟩:∃L:Nat->Nat,∀j,L j=((xs.take j).map (·.2)).flatten.length:=⟨_,λ_=>rfl⟩
 have L0:L 0=0:=by rw[B];rfl
 have Ls:∀j (h:j<xs.length),L (j+1)=L j+xs[j].2.length:=λj h=>by rw[B,B,tk j h,afK]
 have Ll:∀j,L j<=((xs.map (·.2)).flatten).length:=λj=>by rw[B];exact d9 j
 have Le:L xs.length=((xs.map (·.2)).flatten).length:=by rw[B,agc]
 obtain⟨N,hN⟩:=aD (((xs.map (·.2)).flatten).length);rw[<-hN]at W d Ll Le;refine cD xs.length (λj t J=>J=H/\t.g 0=.c (.sl b 0 xs.length xs.length 0 1)/\t.g 9=.c (.sl b 0 xs.length xs.length 0 1)/\t.g 3=vi (L j)) (by omega) (by decide) (by decide) (by simp) (by simp) ⟨rfl,by simp,by simp,by simp[L0]⟩ ?_ ?_
 .rintro j t J u ⟨rfl,g0,g9,g3⟩ I z next
  obtain⟨i1,X⟩:=Y J (λ_ _=>rfl) j u;obtain⟨h2,h3⟩:=(hx _ (afH u)).2 J λ_ _=>rfl;have h5:=Ls j u;have h6:=Ll (j+1);obtain⟨x,A⟩:=aD (xs[j]);rw[<-A]at X h2 h3 h5;refine aI ?_;apply ai;simp[I,g9,i1,X,-aq];apply ai;simp[g3,h2,bg (n:=(L j:Int)+x.2.length)];apply ai;simp[show¬ (L j:Int)+x.2.length<0 by omega];exact aG (by simp) (aS (aA (next _ _ ⟨rfl,by simp[g0],by simp[g9],by simp[h5]⟩ (by simp[I]) (by simp[z]))))
 .rintro t J ⟨rfl,g0,g9,g3⟩ - -;obtain⟨r,H2,s,c0,rfl,a9,O,b_,a_⟩:=Ri (H:=J) hG S hz N (by omega) d;rw[Le]at g3;apply ai;simp[g3,s.eq];apply ak;apply ai;simp[g0,Z H2 O];refine cD xs.length (λj t J'=>t.g 25=.c (.sl b 0 xs.length xs.length 0 1)/\∃c,t.g 6=.c c/\GR J' c sz N ((xs.take j).map (·.2)).flatten/\(∀i:Nat,i<J.length->J'[i]?=J[i]?)/\J.length<=J'.length/\∀i,bt c=aa i->J.length<=i) (by omega) (by decide) (by decide) (by simp) (by simp) ⟨by simp,c0,by simp,by simpa using a9,O,b_,a_⟩ ?_ ?_
  .rintro j t J' u ⟨y,c,g6,g,v,hl,q⟩ I z next
   obtain⟨i1,X⟩:=Y J' v j u;obtain⟨h2,h3⟩:=(hx _ (afH u)).2 J' v;have s:=(hx _ (afH u)).1;have h5:=Ls j u;have h6:=Ll (j+1);have U:=tk j u;obtain⟨x,A⟩:=aD (xs[j]);rw[<-A]at X h2 h3 h5 U s;obtain⟨c',H',K,E,hs,d_,b9⟩:=g.app (bytes:=bytes) (a8 j) s S (by rw[<-B];omega) h3;rw[<-U]at E;refine aI ?_;apply ai;simp[I,y,i1,X,-aq];refine av (.inl rfl) ?_;simp[g6,K];refine aA (next _ _ ⟨by simp[y],c',by simp,E,λi hi=>?_,by omega,λi hi=>q i (by rw[<-hs];exact hi)⟩ (by simp[I]) (by simp[z]));rw[<-v i hi];have hy:J'[i]?=aa (J'[i]'(by omega)):=afB (by omega);rw[hy];exact b9 i _ hy λe=>by have:=q i e;omega
  .rintro t J' ⟨y,c,g6,g,v,hl,q⟩ - -;rw[agc,hN]at g;have hg:=a8 xs.length;rw[agc]at hg;apply ai;simp[g6];exact az (hQ _ _ (.c c) rfl (by simp[Km.results,aZ]) ⟨c,rfl,g.lr hg,v,hl,q⟩)
end
end
section
open Go
section
variable(Q:Program)(pr:Nat)(hs:List Nat)
def Rv(f:Nat):Nat:=if f=pr then gk else f
def GA(f:Nat):FuncId:=if f=gk then pr else f
def kV1:Value->Option FC
 | .bool b=>aa (.bool b)| .int k n=>aa (.int k n)| .string s=>aa (.str s)| .pointer ab=>aa .rP| .slice ab 0 0=>aa .aK| .map ab=>aa .xI| .nilFunc=>aa .tw| .nilIface=>aa .oi| _=>ab
def kV:Value->Option V
 | .agg cs=>(aZ kV1 cs.toList).map λxs=>.a (xs.map .f)
 | .tuple cs=>if cs.isEmpty then aa .top else ab| v=>(kV1 v).map λx=>.c (.f x)
def kA:Operand->Option Arg
 | .tmp t=>aa (.r (.nat t))| .const v=>(kV v).map .k| .func f=>aa (.k (.c (.f (.fn (Rv pr f) []))))| _=>ab
def kO:Option Operand->Option (Option Arg)
 |none=>aa ab| some x=>(kA pr x).map aa
def EF(t:TypeId):Option Nat:=(Q.info? t).map (·.size)
def kBy(t:TypeId):Option Nat:=(Q.info? t).map (·.bytes)
def kZ(t:TypeId):Option (List FC):=do aZ kV1 (<-(<-Q.info? t).zero).cells.toList
def kAg(t:TypeId):Option (Option Nat):=match Q.underlying t with
 |some (.struct _)|some (.array _ _)=>(EF Q t).map aa| some _=>aa ab| none=>ab
def kCK(t:TypeId):Option CK:=match Q.underlying t with
 |some (.int _)=>aa .int| some .string=>aa .str| some .bool=>aa .bool| _=>ab
def kEq(t:TypeId):Option FR:=match Q.underlying t with
 |some .bool=>aa .bool| some (.pointer _)=>aa .ptr| some (.slice _)=>aa .sl| some (.func _ _ _)=>aa .fn| some (.interface _)=>aa .Rn| some (.struct _)=>(jz Q 20 t).map .st| _=>ab
def aa5(c:Call):Option dd:=
 let A:=kA pr
 let u:=Q.underlying (c.argTypes.getD 0 0)
 let x:=A (c.args.getD 0 default)
 match c.callee with
 | .builtin .len=>match u with
  |some (.slice _)=>do pure (.len (<-x))
  |some .string=>do pure (.lens (<-x))
  |some (.array n _)=>aa (.iP n)| _=>ab
 | .builtin .append=>match u,Q.underlying (c.argTypes.getD 1 0)with
  |some (.slice e),aa (.int _)=>do pure (.oC (<-EF Q e) (<-kBy Q e) (<-kZ Q e) (<-x) (<-A (c.args.getD 1 default)))
  |some (.slice e),_=>do pure (.append (<-EF Q e) (<-kBy Q e) (<-x) (<-A (c.args.getD 1 default)))
  |_,_=>ab
 | .builtin .max=>do pure (.pW ag (<-aZ A c.args.toList))
 | .builtin .min=>do pure (.pW ae (<-aZ A c.args.toList))
 | .builtin .cap=>do pure (.cap (<-x))
 | .builtin .clear=>match u with
  |some (.slice e)=>do pure (.clear (<-EF Q e) (<-kZ Q e) (<-x))
  |_=>ab
 | .builtin .recover=>aa .recover| .value (.func f)=>do pure (.call (Rv pr f) (<-aZ A c.args.toList) (hs.contains f))
 | .value y=>do pure (.gN (<-A y) (<-aZ A c.args.toList) ae)
 |_=>ab
def kOp(o:Op):Option dd:=
 let A:=kA pr
 let U:=Q.underlying
 let ps (l:Array (Nat × Operand)):=aZ (λp:Nat × Operand=>(A p.2).map λx=>(p.1,x)) l.toList
 match o with
 | .move x| .assign x=>do pure (.dr (<-A x))
 | .pick c a b=>do pure (.pick (<-A c) (<-A a) (<-A b))
 | .alloc t=>do pure (.alloc (<-kZ Q t))
 | .box _ x=>do pure (.box (<-A x))
 | .build t l=>match U t with
  |some (.struct j)=>do pure (.build (<-kZ Q t) (<-aZ (λp:Nat × Operand=>do
    let f <-j[p.1]?
    pure (f.offset,<-EF Q f.type,<-A p.2)) l.toList))
  |some (.array _ e)=>do
    let s <-EF Q e
    pure (.build (<-kZ Q t) (<-aZ (λp:Nat × Operand=>do pure (p.1*s,s,<-A p.2)) l.toList))
  |_=>ab
 | .buildSlice t n l=>match U t with
  |some (.slice e)=>do pure (.dX (<-EF Q e) (<-kZ Q e) n (<-ps l))
  |_=>ab
 | .load t x=>do pure (.load (<-kAg Q t) (<-A x))
 | .store t x y=>do pure (.store (<-EF Q t) (<-A x) (<-A y))
 | .nilCheck x=>do pure (.jx (<-A x))
 | .binOp op t x y _=>do
  let a <-A x
  let b <-A y
  pure (match if op=.eql\/op=.neq then kEq Q t else ab with
  |some k=>.eq (op=.neq) k a b
  |none=>.bin op a b)
 | .unOp op _ x=>do pure (.un op (<-A x))
 | .convert s d x=>match U s,U d with
  |some (.int _),aa (.int k)=>do pure (.I' k (<-A x))
  |some .string,aa .string=>do pure (.xC (<-A x))
  |some (.slice _),aa .string=>do pure (.xB (<-A x))
  |_,_=>ab
 | .makeFunc (.func f) fst g=>if fst.isEmpty then do pure (.tt (Rv pr f) (<-aZ A g.toList))else do pure (.tq (Rv pr f) (<-aZ A fst.toList))
 | .makeMap _ ab=>aa .mr
 | .makeSlice t l c=>match U t with
  |some (.slice e)=>do pure (.fQ (<-EF Q e) (<-kBy Q e) (<-kZ Q e) (<-A l) (<-A c))
  |_=>ab
 | .slice t x lo hi mx=>match U t with
  |some (.slice e)=>match lo,hi,mx with
   |none,aa hi,aa mx=>do pure (.wW (<-EF Q e) (<-A x) (<-A hi) (<-A mx))
   |_,_,_=>do pure (.slice (<-EF Q e) (<-A x) (<-kO pr lo) (<-kO pr hi) (<-kO pr mx))
  |some .string=>do pure (.qo (<-A x) (<-kO pr lo) (<-kO pr hi))
  |some (.array n e)=>do pure (.pc n (<-EF Q e) (<-A x) (<-kO pr lo) (<-kO pr hi) (<-kO pr mx))
  |_=>ab
 | .fieldAddr t x i=>match U t with
  |some (.struct j)=>do pure (.fL (<-j[i]?).offset (<-A x))
  |_=>ab
 | .field t x i=>match U t with
  |some (.struct j)=>do
   let f <-j[i]?
   pure (.field f.offset (<-kAg Q f.type) (<-A x))
  |_=>ab
 | .indexAddr t x i=>match U t with
  |some (.slice e)=>do pure (.ez (<-EF Q e) ab (<-A x) (<-A i))
  |some (.array n e)=>do pure (.ez (<-EF Q e) (aa n) (<-A x) (<-A i))
  |_=>ab
 | .index t x i=>match U t with
  |some .string=>do pure (.idxs (<-A x) (<-A i))
  |some (.array n e)=>do pure (.xD n (<-EF Q e) (<-kAg Q e) (<-A x) (<-A i))
  |_=>ab
 | .lookup t m k ok=>match U t with
  |some (.map kt e)=>do
   let zs <-kZ Q e
   let z <-match <-kAg Q e,zs with
    |some _,_=>aa (FC.fn D9 zs)| none,[z]=>aa z| _,_=>ab
   pure (.lookup (<-kCK Q kt) (if ok then .fp [z] 77 else z) (<-A m) (<-A k))
  |_=>ab
 | .mapUpdate t m k v=>match U t with
  |some (.map kt _)=>do pure (.mq (<-kCK Q kt) (<-A m) (<-A k) (<-A v))
  |_=>ab
 | .range t x=>match U t with
  |some .string=>do pure (.range (<-A x))
  |some (.map _ _)=>do pure (.mF (<-A x))
  |_=>ab
 | .next x s=>(A x).map (if s then .next else .qi)| .extract x i=>do pure (.extract (<-A x) i)
 | .entry x=>do pure (.entry (<-A x))
 | .call c=>aa5 Q pr hs c
 | .defer c=>match c.callee with
  | .value x=>do pure (.defer (<-A x) (<-aZ A c.args.toList))
  |_=>ab
 |_=>ab
def adZ(ops:Array Oper):List aV:=ops.toList.map λo=>
 ⟨o.dst.map .nat,(kOp Q pr hs o.op).getD .bad,match o.guard with
  |some (j,w)=>((ops[j]?).bind (·.dst)).map λd=>(.nat d,w)
  |none=>ab⟩
def adY(ops:Array Oper)(aos:List aV)(b:Bool):List (Nat × Nat):=
 if !b then []else
 let d:=dI ops.toList []
 (List.range aos.length).flatMap λi=>match aos[i]? with
  |some x=>if cls x.op=.r then((nQ aos++[aos.length]).filter λe=>!(e == phase aos i||!Cn d aos i e)).map λe=>(i,e)else []
  |none=>[]
def Rw(n i:Nat)(ops:Array Oper)(b:Bool)(aos:List aV)(d:aH):aH:=
 let c:=.region aos (adY ops aos b)
 if bY Q (GA pr) n (.region i ops b) c then c else d
def kC(n:Nat):Code->aH
 | .skip=>.skip
 | .region i ops d=>let aos:=adZ Q pr hs ops
  Rw Q pr n i ops d aos (Rw Q pr n i ops d (aos.map λa=>match a.op with| .dX s z n ps=>{ a with op:=.ib s z n ps } | _=>a) .bad)
 | .seq a b=>.seq (kC n a) (kC n b)
 | .cond c a b=>match kA pr c with
  |some c'=>if mA (GA pr) c' c then .cond c' (kC n a) (kC n b)else .bad| none=>.bad
 | .block i a=>.block i (kC n a)| .loop a=>.loop (kC n a)
 | .rangeFunc f ps a b=>match kA pr f with
  |some j=>let g:=ps.toList.map .nat
   if mA (GA pr) j f&&gd (λp (q:P)=>q.toNat == p&&decide (p<n)) ps.toList g then .oW j g (kC n a) (kC n b)else .bad
  |none=>.bad
 | .exit i=>.exit i| .ret=>.ret
 | .scope a=>let a':=kC n a
  if mv a' then .scope a' else .bad
 | .label l=>.label l| .goto l=>.goto l| .refuse _=>.bad
def kF(f:Func):Option aM:=f.body.bind λb=>
 let rs:=f.results.toList.map fun| .tmp t=>iv.tmp (.nat t)| .cell a t=>.cell (.nat a) ((kAg Q t).getD ab)
 if f.name != "runtime.NumGoroutine"&&gd (xG Q f.ntmps) f.results.toList rs then aa ⟨(List.range (f.params.size+f.nfree)).map .nat,rs,kC Q pr hs f.ntmps b⟩else ab
def kT(f:Nat):Option aM:=if f=gk then ab else(Q.funcs[f]?).bind (kF Q pr hs)
theorem GB{n i:Nat}{ops:Array Oper}{b:Bool}{aos:List aV}{d:aH}(h:bY Q (GA pr) n (.region i ops b) d=ae):bY Q (GA pr) n (.region i ops b) (Rw Q pr n i ops b aos d)=ae:=by
 unfold Rw;dsimp only;split<;>assumption
theorem qE{n:Nat}{c:Code}:bY Q (GA pr) n c .bad=ae:=by cases c<;>rfl
theorem rJ(n:Nat):∀c:Code,bY Q (GA pr) n c (kC Q pr hs n c)=ae
 | .skip| .exit _| .ret| .label _| .goto _=>by simp[kC,bY]
 | .refuse _=>qE Q pr| .region i ops d=>GB Q pr (GB Q pr (qE Q pr))| .seq a b=>by simp[kC,bY,rJ n a,rJ n b]
 | .cond c a b=>by
  unfold kC;split
  .split
   .simp[bY,rJ n a,rJ n b, *]
   .exact qE Q pr
  .exact qE Q pr
 | .block i a| .loop a=>by simp[kC,bY,rJ n a]
 | .rangeFunc f ps a b=>by
  unfold kC;split
  .dsimp only;split
   .rename_i h;simp only[afE]at h;simp only[bY,rJ n a,rJ n b,h.1,h.2,Bool.and_self]
   .exact qE Q pr
  .exact qE Q pr
 | .scope a=>by
  unfold kC;dsimp only;split
  .simp[bY,rJ n a, *]
  .exact qE Q pr
theorem aa6{f:Func}{a:aM}(h:kF Q pr hs f=aa a):zb Q (GA pr) f a=ae:=by
 unfold kF at h;rw[af3]at h;obtain⟨b,g,h⟩:=h;dsimp only at h;split at h
 .rename_i d;cases h;simp only[afE]at d;simp only[zb,g,rJ,d.1,d.2,Bool.and_self,Bool.true_and,decide_eq_true_eq,List.map_map,afT,List.length_range];refine(List.map_congr_left λn _=>tv n).trans (List.map_id _)
 .cases h
theorem Tn{f:Nat}{a:aM}(h:kT Q pr hs f=aa a):∃fn,Q.funcs[GA pr f]?=aa fn/\zb Q (GA pr) fn a=ae:=by
 unfold kT at h;split at h
 .cases h
 .rename_i g;rw[af3]at h;obtain⟨fn,b,d⟩:=h;exact⟨fn,by rw[GA,bG g];exact b,aa6 Q pr hs d⟩
inductive LT where
 |e
 |n (l:LT) (k:Nat) (a:aM) (r:LT)
def LT.get:LT->Nat->Option aM
 | .e,_=>ab| .n l k a r,f=>bif Nat.beq f k then aa a else bif Nat.ble f k then l.get f else r.get f
inductive LT.SG:LT->Prop
 |e:LT.SG .e
 |n {l:LT} {k:Nat} {a:aM} {r:LT} (hl:LT.SG l) (h:kT Q pr hs k=aa a) (hr:LT.SG r):LT.SG (.n l k a r)
theorem LT.SG.get:∀{t:LT} {f:Nat} {a:aM},LT.SG Q pr hs t->t.get f=aa a->kT Q pr hs f=aa a
 | .e,_,_,_,h=>by cases h
 | .n l k b r,f,a,.n m j q,h=>by
  unfold LT.get at h;cases d:Nat.beq f k with
  |true=>
   rw[d]at h;cases h;rw[Nat.eq_of_beq_eq_true d];exact j
  |false=>
   rw[d]at h;cases g:Nat.ble f k with
   |true=>rw[g]at h;exact m.get h| false=>rw[g]at h;exact q.get h
end
def LT.fn(t:LT)(Q:Program)(pr:Nat)(hs:List Nat)(f:Nat):Option aM:=match t.get f with
 |some a=>aa a| none=>kT Q pr hs f
def LT.tb(t:LT)(Q:Program)(pr:Nat)(hs:List Nat):TB where
 get:=t.fn Q pr hs
 ub:=λf args H=>match t.fn Q pr hs f with
  |some _=>ab| none=>Km.ub f args H
 ok:=λf a h args H=>by simp[h]
theorem LT.env{t:LT}{Q:Program}{pr:Nat}{hs:List Nat}(h:LT.SG Q pr hs t)(d:Q.follows .mixedOrders=ae)(g:D1 Q (GA pr) Km.ub):Env Q (GA pr) (t.tb Q pr hs).get (t.tb Q pr hs).ub:=by
 refine⟨d,λf a b=>?_,λf args H r H' b=>?_⟩
 .have b:t.fn Q pr hs f=aa a:=b;unfold LT.fn at b;split at b
  .rename_i e;cases b;exact Tn _ _ _ (h.get _ _ _ e)
  .exact Tn _ _ _ b
 .have b:(match t.fn Q pr hs f with
  |some _=>ab
  |none=>Km.ub f args H)=aa (aa (r,H')):=b
  split at b
  .cases b
  .exact g f args H r H' b
end
end Km
