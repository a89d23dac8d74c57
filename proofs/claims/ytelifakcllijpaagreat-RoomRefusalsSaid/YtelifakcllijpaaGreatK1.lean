/-
  Our own small machine for Go code by value, held TF the model: part 1. No program in adw.
-/
import GoSem.Step
import GoSem.Dispatch
import GoSem.Machine.Exec
import Derived.Calls
import Derived.Laws.World
import Derived.Laws.Cells
import Derived.Laws.IdiomCopy
import Derived.Below
import Derived.Laws.Slices
import Derived.Laws.Strings
import Derived.Laws.StructEq
import Derived.Laws.BytesString
import Derived.Laws.Tables
import Derived.Laws.AppendOwn
import Derived.AtR
import Derived.RangeFuncIn
import Derived.RangeFuncRecord
import Derived.Conc.MuLone
open Option renaming some->aa,none->ab
open Bool renaming true->ae,false->ag
open Option.some renaming injEq->AT
open Bool renaming false_eq_true->ahb, and_eq_true->IS, not_eq_true'->aii
open List renaming mem_of_getElem?->ahg, getElem?_eq_some_iff->aft, getElem?_eq_getElem->BY, getElem?_append_left->AI, getElem?_append_right->agL, getElem?_drop->ahP, getElem?_map->ahF, all_eq_true->ag9, getElem?_of_mem->aia, extract_eq_take_drop->ais, length_nil->ah7, take_of_length_le->agY, length_append->agM, foldl_cons->aiI, length_cons->ahk, take_succ_eq_append_getElem->ajk, eq_nil_of_length_eq_zero->ag3, getElem?_set_ne->sh, replicate_succ->aiO, length_map->agS, getElem?_toArray->aiH, getElem?_cons_zero->aht, getElem?_cons_succ->aho, length_drop->ag5, mem_cons->ag8, getElem_mem->IN, drop_eq_getElem_cons->agT, mem_flatMap->ai2, mem_append->agP, mem_map->agX
open Nat renaming le_refl->agQ, le_trans->ahd, lt_of_lt_of_le->ah2, add_mul->ahi, mul_comm->ai1, mul_eq_zero->ai9, le_max_left->ahD, mul_le_mul_right->ahA, lt_irrefl->ai5, zero_add->ahI, le_max_right->ahv, lt_or_ge->ahS
open Option renaming bind_eq_some_iff->ahh, map_eq_some_iff->OF, bind_eq_bind->ajr, bind_some->ahz, map_some->ahs, any_some->ajy
open Prod.mk renaming injEq->agO
open Int renaming toNat_natCast->ag7
set_option linter.all false
set_option maxRecDepth 100000
namespace Km
open Go
def ii{P:Prop}(h:P:=by omega):P:=h
def lw{P:Prop}(h:P:=by simp):P:=h
def pi{P:Prop}(h:P:=by decide):P:=h
def pp{P:Prop}(h:P:=by simp;omega):P:=h
def ap{P:Prop}(h:P:=by omega):P:=h
def bv{P:Prop}(h:P:=by simp):P:=h
def ce{P:Prop}(h:P:=by decide):P:=h
def ge{P:Prop}(h:P:=by simp;omega):P:=h
variable{b l N:Nat}{u:Value}{c:Oper}{e:Act}{t O:TypeId}{w:World}{B:List Value}{k:Bool}{A:Call}{U:Option Nat}
theorem aH.{u}{α:Sort u}(a:α):∃b,b=a:=⟨a,rfl⟩
theorem cC.{u}{c:Prop}{h:Decidable c}(b:¬c){α:Sort u}{t e:α}:(ite c t e)=e:=if_neg b
theorem ct.{u}{c:Prop}{h:Decidable c}(hc:c){α:Sort u}{t e:α}:(ite c t e)=t:=if_pos hc
inductive FC where
 |bool (b:Bool)
 |int (k:IntKind) (n:Int)
 |str (s:ByteArray)
 |zo|aN|es|xC|sW|Ap
 |fp (cs:List FC) (off:Nat)
 |fs (cs:List FC) (len:Nat)
 |fn (f:Nat) (Me:List FC)
 deriving Inhabited
variable{q:List FC}{K:FC}
inductive C where
 |f (x:FC)
 |ptr (b off ep:Nat)
 |sl (b off len cap ep sz:Nat)
 |cl (f:Nat) (Me:List C)
 |yl (b:Nat)
 |mp (b:Nat)
 |it (b:Nat)
 |bm (f:Nat) (first:List C)
 |mi (b:Nat)
 deriving Inhabited
variable{f:List C}{h:C}
inductive V where
 |top
 |c (x:C)
 |a (xs:List C)
 |t (xs:List V)
 deriving Inhabited
variable{v m:V}
def Ae:Nat:=1000000007
def mV:C->V
 | .cl f cs=>if f=Ae then .a cs else .c (.cl f cs)| x=>.c x
def pJ:V->Option C
 | .c (.cl f cs)=>if f=Ae then ab else aa (.cl f cs)| .c x=>aa x| .a cs=>aa (.cl Ae cs)| _=>ab
def zV:FC->V
 | .fn f zs=>if f=Ae then .a (zs.map .f)else .c (.f (.fn f zs))| z=>.c (.f z)
def wB:FC->List FC
 | .fn f zs=>if f=Ae then zs else [.fn f zs]| z=>[z]
def IV:FC->Bool
 | .fn f _=>decide (f=Ae)| _=>ag
def RG{c:C}(h:pJ v=aa c):mV c=v:=by
 cases v with
 |c x=>
  cases x<;>simp only[pJ,AT]at h
  case cl f cs=>
   split at h
   .cases h
   .rename_i b;simp only[AT]at h;subst h;simp only[mV,cC b]
  all_goals (subst h;rfl)
 |a cs=>simp only[pJ,AT]at h;subst h;simp[mV]| _=>simp[pJ]at h
def aag(h:IV K=ae):zV K=.a ((wB K).map .f):=by
 cases K<;>simp only[IV,decide_eq_true_eq,reduceCtorEq,ahb]at h;simp only[zV,wB,ct h]
def aah(h:IV K=ag):zV K=.c (.f K)/\wB K=[K]:=by
 cases K<;>simp only[IV,decide_eq_false_iff_not]at h
 case fn f zs=>simp only[zV,wB,cC h,and_self]
 all_goals exact⟨rfl,rfl⟩
inductive Os where|loc|nil|es
 deriving DecidableEq,Inhabited
inductive P where
 |h
 |o (p:P)
 |i (p:P)
 deriving DecidableEq,Inhabited
def P.toNat:P->Nat
 | .h=>0| .o p=>2*p.toNat+1| .i p=>2*p.toNat+2
inductive T where
 |e
 |n (l:T) (v:V) (r:T)
 deriving Inhabited
variable{r:T}
def T.get:T->P->V
 | .e,_=>.top| .n _ v _,.h=>v| .n l _ _,.o p=>l.get p| .n _ _ r,.i p=>r.get p
def T.set:T->P->V->T
 | .e,.h,w=>.n .e w .e| .e,.o p,w=>.n (T.set .e p w) .top .e| .e,.i p,w=>.n .e .top (T.set .e p w)| .n l _ r,.h,w=>.n l w r| .n l v r,.o p,w=>.n (l.set p w) v r| .n l v r,.i p,w=>.n l v (r.set p w)
inductive Arg where
 |r (n:P)
 |k (v:V)
 deriving Inhabited
variable{z:Arg}{L:List Arg}
inductive CK where|bool|int|str
 deriving DecidableEq,Inhabited
inductive NU where
 |bool|ptr|sl|fn|ifc
 |st (ks:List CK)
 deriving Inhabited
inductive et where
 |ju (x:Arg)
 |pre (o:Os) (sz:Nat)
 |pick (c a b:Arg)
 |alloc (zs:List FC)
 |box (x:Arg)
 |build (zs:List FC) (parts:List (Nat × Nat × Arg))
 |iR (sz:Nat) (zs:List FC) (len:Nat) (parts:List (Nat × Arg))
 |load (n:Option Nat) (x:Arg)
 |store (n:Nat) (x y:Arg)
 |nI (x:Arg)
 |bin (op:BinOp) (x y:Arg)
 |eq (neg:Bool) (k:NU) (x y:Arg)
 |un (op:UnOp) (x:Arg)
 |QO (k:IntKind) (x:Arg)
 |Hc (x:Arg)
 |Es (x:Arg)
 |T2 (x:Arg)
 |Ao (f:Nat) (Me:List Arg)
 |pK
 |lookup (ck:CK) (zero:FC) (m k:Arg)
 |qD (ck:CK) (m k v:Arg)
 |fu (sz bytes:Nat) (zs:List FC) (l c:Arg)
 |slice (sz:Nat) (x:Arg) (lo hi mx:Option Arg)
 |vj (n sz:Nat) (x:Arg) (lo hi mx:Option Arg)
 |xr (x:Arg) (lo hi:Option Arg)
 |mM (off:Nat) (x:Arg)
 |field (off:Nat) (n:Option Nat) (x:Arg)
 |hZ (sz:Nat) (arr:Option Nat) (x i:Arg)
 |idxs (x i:Arg)
 |EJ (len sz:Nat) (n:Option Nat) (x i:Arg)
 |range (x:Arg)
 |next (x:Arg)
 |extract (x:Arg) (i:Nat)
 |call (f:Nat) (args:List Arg) (h:Bool)
 |jr (x:Arg) (args:List Arg) (h:Bool)
 |len (x:Arg)
 |rR (n:Nat)
 |lens (x:Arg)
 |cap (x:Arg)
 |append (sz bytes:Nat) (x y:Arg)
 |copy (sz:Nat) (x y:Arg)
 |uH (lo:Bool) (xs:List Arg)
 |sJ (sz bytes:Nat) (zs:List FC) (x n:Arg)
 |clear (sz:Nat) (zs:List FC) (x:Arg)
 |mU (x:Arg)
 |qI (x:Arg)
 |entry (x:Arg)
 |An (f:Nat) (xs:List Arg)
 |zL (sz:Nat) (x hi mx:Arg)
 |lS (sz:Nat) (zs:List FC) (len:Nat) (parts:List (Nat × Arg))
 |recover
 |defer (x:Arg) (args:List Arg)
 |bad
 deriving Inhabited
def co{P:Prop}(h:P:=by simp +contextual [et.rd]):P:=h
variable{F:et}
def et.fsl:et->Bool
 | .lS ..=>ae| _=>ag
structure bh where
 dst:Option P
 op:et
 g:Option (P × Bool):=ab
 deriving Inhabited
variable{J:bh}
inductive aD where
 |skip
 |region (ops:List bh) (jU:List (Nat × Nat))
 |seq (a b:aD)
 |cond (c:Arg) (a b:aD)
 |block (id:Nat) (a:aD)
 |loop (a:aD)
 |nL (f:Arg) (ps:List P) (assign body:aD)
 |exit (id:Nat)
 |ret
 |bad
 |scope (a:aD)
 |label (l:Nat)
 |goto (l:Nat)
 deriving Inhabited
inductive dB where|ready|busy|done|exhausted
 deriving DecidableEq,Inhabited
inductive bV where
 |box (cs:List C) (fl:Nat)
 |dz (sz:Nat) (cs:List C) (fl ep:Nat) (st:Os)
 |map (es:List (FC × C))
 |it (s:ByteArray) (pos:Nat)
 |Ge (m since:Nat) (done:Bool)
 |dH (open_:Bool)
 |lp (fn:Nat) (tmps:T) (ps:List P) (assign body:aD) (st:dB) (pending:Option aD) (dH:Nat)
 deriving Inhabited
abbrev an:=List bV
variable{d I:an}
inductive gY where
 |dR (b:Nat)
 |fn (f:Nat) (args:List V)
 deriving Inhabited
inductive jZ where
 |tmp (t:P)
 |cell (t:P) (n:Option Nat)
 deriving Inhabited
structure aS where
 ps:List P
 results:List jZ
 body:aD
 deriving Inhabited
def Arg.ev(aT:T):Arg->V
 | .r n=>aT.get n| .k v=>v
def V.int(k:IntKind)(n:Int):V:=.c (.f (.int k n))
def V.bool(b:Bool):V:=.c (.f (.bool b))
def az(H:an):C->Option (List C)
 | .ptr b d g=>match H[b]? with
  |some (.box cs _)=>aa (cs.drop d)| some (.dz _ cs _ e .loc)=>if g=e then aa (cs.drop d)else ab| _=>ab
 | .f (.fp cs d)=>aa ((cs.drop d).map .f)| _=>ab
def aX:Option Nat->List C->Option V
 |none,c::_=>aa (.c c)| none,[]=>ab| some n,cs=>if n<=cs.length then aa (.a (cs.take n))else ab
def aV(H:an)(n:Option Nat):V->Option V
 | .c x=>(az H x).bind (aX n)| _=>ab
def V.cells? : V->Option (List C)
 | .c x=>aa [x]| .a xs=>aa xs| _=>ab
def over{α:Type}(cs:List α)(b:Nat)(xs:List α):List α:=cs.take b++xs++cs.drop (b+xs.length)
def dj(H:an)(x:C)(xs:List C):Option an:=
 match x with
 | .ptr b d g=>match H[b]? with
  |some (.box cs fl)=>if fl<=d/\d+xs.length<=cs.length then aa (H.set b (.box (over cs d xs) fl))else ab| some (.dz sz cs fl e .loc)=>if g=e/\fl<=d/\d+xs.length<=cs.length then aa (H.set b (.dz sz (over cs d xs) fl e .loc))else ab| _=>ab
 |_=>ab
def bA(H:an):C->Option Nat
 | .sl b _ l _ d sz=>match H[b]? with
  |some (.box _ _)=>aa l| some (.dz s _ _ e _)=>if d=e/\sz=s then aa l else ab| _=>ab
 | .f .aN=>aa 0| .f .es=>aa 0| .f (.fs _ l)=>aa l| _=>ab
def dy(H:an)(sz:Nat):C->Option (List C)
 | .sl b o l _ d s=>match H[b]? with
  |some (.box cs _)=>if o+l*sz<=cs.length then aa ((cs.drop o).take (l*sz))else ab| some (.dz g cs _ e _)=>if d=e/\s=g/\o+l*sz<=cs.length then aa ((cs.drop o).take (l*sz))else ab| _=>ab
 | .f .aN=>aa []| .f .es=>aa []| .f (.fs cs l)=>if cs.length=l*sz then aa (cs.map .f)else ab| _=>ab
def bC{α β:Type}(g:α->Option β):List α->Option (List β)
 |[]=>aa []
 |x::xs=>match g x with
  |none=>ab
  |some y=>match bC g xs with
   |none=>ab| some ys=>aa (y::ys)
def ms{P:Prop}(h:P:=by simp[Km.results,bC]):P:=h
def fv:Nat->an->C->Option FC
 |_,_,.f x=>aa x| 0,_,_=>ab
 |n+1,H,.ptr b j _=>match H[b]? with
  |some (.box cs _)=>(bC (fv n H) cs).map (.fp · j)| _=>ab
 |n+1,H,.sl b o l _ g sz=>match H[b]? with
  |some (.box cs _)=>if o+l*sz<=cs.length then(bC (fv n H) ((cs.drop o).take (l*sz))).map (.fs · l)else ab| some (.dz s cs _ e .loc)=>if g=e/\sz=s/\o+l*sz<=cs.length then(bC (fv n H) ((cs.drop o).take (l*sz))).map (.fs · l)else ab| some (.dz s _ _ e .nil)=>if g=e/\sz=s then aa .aN else ab| some (.dz s _ _ e .es)=>if g=e/\sz=s then aa .es else ab| _=>ab
 |n+1,H,.cl f d=>(bC (fv n H) d).map (.fn f)| _+1,_,_=>ab
def dq(n:Nat)(H:an):V->Option V
 | .c x=>(fv n H x).map λy=>.c (.f y)
 | .a xs=>(bC (fv n H) xs).map λys=>.a (ys.map .f)
 |_=>ab
def jd(n:Nat)(H:an):V->Option V
 | .t b=>(bC (dq n H) b).map .t| v=>dq n H v
def ez:Nat->C->an->an
 |_,.f _,H=>H| 0,_,H=>H
 |n+1,.ptr b _ _,H=>match H[b]? with
  |some (.box cs fl)=>cs.foldl (λH x=>ez n x H) (H.set b (.box cs (Nat.max fl cs.length)))
  |_=>H
 |n+1,.sl b o l _ _ sz,H=>match H[b]? with
  |some (.box cs fl)=>((cs.drop o).take (l*sz)).foldl (λH x=>ez n x H) (H.set b (.box cs (Nat.max fl (o+l*sz))))
  |some (.dz s cs fl e st)=>((cs.drop o).take (l*sz)).foldl (λH x=>ez n x H) (H.set b (.dz s cs (Nat.max fl (o+l*sz)) e st))
  |_=>H
 |n+1,.cl _ d,H=>d.foldl (λH x=>ez n x H) H
 |_+1,_,H=>H
def UO(n:Nat)(H:an):V->an
 | .c x=>ez n x H| .a xs=>xs.foldl (λH x=>ez n x H) H
 |_=>H
def tV(op:BinOp)(k:IntKind)(x y:Int):Option V:=
 match op with
 | .add=>aa (.int k (k.wrap (x+y)))| .sub=>aa (.int k (k.wrap (x-y)))| .mul=>aa (.int k (k.wrap (x*y)))| .quo=>if y=0 then ab else aa (.int k (k.wrap (x.tdiv y)))| .rem=>if y=0 then ab else aa (.int k (x.tmod y))| .and=>aa (.int k (k.wrap (BitVec.ofInt k.bits x &&& BitVec.ofInt k.bits y).toNat))| .or=>aa (.int k (k.wrap (BitVec.ofInt k.bits x ||| BitVec.ofInt k.bits y).toNat))| .xor=>aa (.int k (k.wrap (BitVec.ofInt k.bits x ^^^ BitVec.ofInt k.bits y).toNat))| .andNot=>aa (.int k (k.wrap (BitVec.ofInt k.bits x &&& ~~~ (BitVec.ofInt k.bits y)).toNat))| .eql=>aa (.bool (x == y))| .neq=>aa (.bool (x != y))| .lss=>aa (.bool (decide (x<y)))| .leq=>aa (.bool (decide (x<=y)))| .gtr=>aa (.bool (decide (x>y)))| .geq=>aa (.bool (decide (x≥y)))| _=>ab
def Y3(op:BinOp)(x y:ByteArray):Option V:=
 match op with
 | .add=>if((x.size+y.size:Nat):Int)>IntKind.i64.max then ab else aa (.c (.f (.str (x++y))))| .eql=>aa (.bool (x.toList == y.toList))| .neq=>aa (.bool !(x.toList == y.toList))| .lss=>aa (.bool (Op.bytesLess x.toList y.toList))| .leq=>aa (.bool (Op.bytesLess x.toList y.toList||x.toList == y.toList))| .gtr=>aa (.bool !(Op.bytesLess x.toList y.toList||x.toList == y.toList))| .geq=>aa (.bool !(Op.bytesLess x.toList y.toList))| _=>ab
def Q3:CK->C->C->Option Bool
 | .bool,.f (.bool a),.f (.bool b)=>aa (a == b)| .int,.f (.int k a),.f (.int k' b)=>if k=k' then aa (a == b)else ab| .str,.f (.str a),.f (.str b)=>aa (a == b)| _,_,_=>ab
def wN:List CK->List C->List C->Option Bool
 |[],[],[]=>aa ae
 |k::d,x::xs,y::ys=>match Q3 k x y,wN d xs ys with
  |some a,aa b=>aa (a&&b)| _,_=>ab
 |_,_,_=>ab
def isNil(H:an):NU->C->Option Bool
 | .ptr,.f .zo=>aa ae| .ptr,.f (.fp _ _)=>aa ag| .ptr,.ptr _ _ _=>aa ag| .sl,.f .aN=>aa ae| .sl,.f .es=>aa ag| .sl,.f (.fs _ _)=>aa ag
 | .sl,.sl b _ _ _ d sz=>match H[b]? with
  |some (.box _ _)=>aa ag| some (.dz s _ _ e st)=>if d=e/\sz=s then aa (st == .nil)else ab| _=>ab
 | .fn,.f .xC=>aa ae| .fn,.f (.fn _ _)=>aa ag| .fn,.cl _ _=>aa ag| .fn,.bm _ _=>aa ag| .ifc,.f .sW=>aa ae| _,_=>ab
def NX(H:an):NU->V->V->Option Bool
 | .bool,.c x,.c y=>Q3 .bool x y| .st b,.a xs,.a ys=>wN b xs ys| .ptr,.c x,.c (.f .zo)=>isNil H .ptr x| .sl,.c x,.c (.f .aN)=>isNil H .sl x| .fn,.c x,.c (.f .xC)=>isNil H .fn x| .ifc,.c x,.c (.f .sW)=>isNil H .ifc x| _,_,_=>ab
def de(op:BinOp)(x y:V):Option V:=
 match op,x,y with
 | .shl,.c (.f (.int k a)),.c (.f (.int _ b))=>if b<0 then ab else aa (.int k (k.wrap (a*2 ^ (min b.toNat k.bits))))| .shr,.c (.f (.int k a)),.c (.f (.int _ b))=>if b<0 then ab else aa (.int k (a.fdiv (2 ^ (min b.toNat k.bits))))| op,.c (.f (.int k a)),.c (.f (.int k' b))=>if k=k' then tV op k a b else ab| op,.c (.f (.str a)),.c (.f (.str b))=>Y3 op a b| _,_,_=>ab
def Tc(op:UnOp)(x:V):Option V:=
 match op,x with
 | .neg,.c (.f (.int k n))=>aa (.int k (k.wrap (0-n)))| .not,.c (.f (.bool b))=>aa (.bool !b)| _,_=>ab
def fE:V->Option Int
 | .c (.f (.int _ n))=>aa n| _=>ab
def Gd(x:V)(y:Nat):Option Nat:=
 match fE x with
 |some i=>if 0<=i/\i<=y then aa i.toNat else ab| none=>ab
def cG(len cap:Nat)(lo hi mx:Option V):Option (Nat × Nat × Nat):=do
 let m <-match mx with
  |some v=>Gd v cap| none=>aa cap
 let h <-match hi,mx with
  |some v,_=>Gd v m| none,ab=>aa len| none,aa _=>ab
 let l <-match lo with
  |some v=>Gd v h| none=>aa 0
 pure (l,h,m)
def cJ(H:an)(sz:Nat)(x:V)(lo hi mx:Option V):Option V:=
 match x with
 | .c (.f .aN)=>match cG 0 0 lo hi mx with
  |some _=>aa (.c (.f .aN))| none=>ab
 | .c (.f .es)=>match cG 0 0 lo hi mx with
  |some _=>aa (.c (.f .es))| none=>ab
 | .c (.f (.fs cs n))=>match cG n n lo hi mx with
  |some (l,h,m)=>
   if mx.isSome/\m=l then aa (.c (.f .es))else
   aa (.c (.f (.fs ((cs.drop (l*sz)).take ((h-l)*sz)) (h-l))))
  |none=>ab
 | .c (.sl b o n cap d s)=>match H[b]? with
  |some (.box _ _)=>match cG n cap lo hi mx with
   |some (l,h,m)=>if m=l then aa (.c (.f .es))else aa (.c (.sl b (o+l*sz) (h-l) (m-l) d s))| none=>ab
  |some (.dz g cs _ e st)=>
   if d=e/\s=sz/\g=sz then
    match st with
    | .loc=>match cG n n lo hi mx with
     |some (l,h,m)=>
      if mx.isSome/\m=l then aa (.c (.f .es))
      else if l=h/\0<l then aa (.c (.f (.fs [] 0)))
      else if mx.isSome then(if 0<l then aa (.c (.sl b 0 0 0 d (g+1)))else ab)
      else aa (.c (.sl b (o+l*sz) (h-l) 0 d s))
     |none=>match mx with
      |some _=>ab
      |none=>match cG n ((cs.length-o) / sz) lo hi ab with
       |some (l,h,_)=>if n<=(cs.length-o) / sz/\l<h then aa (.c (.sl b (o+l*sz) (h-l) 0 d s))else ab| none=>ab
    | .nil=>match cG 0 0 lo hi mx with
     |some _=>aa (.c (.f .aN))| none=>ab
    | .es=>match cG 0 0 lo hi mx with
     |some _=>aa (.c (.f .es))| none=>ab
   else ab
  |_=>ab
 |_=>ab
def Dy(x:V)(lo hi:Option V):Option V:=
 match x with
 | .c (.f (.str s))=>match cG s.size s.size lo hi ab with
  |some (l,h,_)=>aa (.c (.f (.str (s.extract l h))))| none=>ab
 |_=>ab
def qO(H:an)(n sz:Nat)(x:V)(lo hi mx:Option V):Option V:=
 match x with
 | .c (.ptr b d _)=>match H[b]? with
  |some (.box cs _)=>match cG n n lo hi mx with
   |some (l,h,m)=>if d+n*sz<=cs.length then(if m=l then aa (.c (.f .es))else aa (.c (.sl b (d+l*sz) (h-l) (m-l) 0 sz)))else ab| none=>ab
  |_=>ab
 | .c (.f (.fp cs d))=>match cG n n lo hi mx with
   |some (l,h,m)=>if d+n*sz<=cs.length then(if m=l then aa (.c (.f .es))else aa (.c (.f (.fs ((cs.drop (d+l*sz)).take ((h-l)*sz)) (h-l)))))else ab| none=>ab
 |_=>ab
def bO(H:an)(sz:Nat)(g:Option Nat)(x i:V):Option V:=
 match fE i with
 |none=>ab
 |some i=>
  if 0<=i then
   match g,x with
   |none,.c (.sl b o l _ d s)=>if i<l then
     (match H[b]? with
      |some (.box _ _)=>aa (.c (.ptr b (o+i.toNat*sz) d))| some (.dz j _ _ e .loc)=>if d=e/\s=j then aa (.c (.ptr b (o+i.toNat*sz) d))else ab
      |_=>ab)else ab
   |none,.c (.f (.fs cs l))=>if i<l then aa (.c (.f (.fp cs (i.toNat*sz))))else ab| some n,.c (.ptr b o d)=>if i<n then aa (.c (.ptr b (o+i.toNat*sz) d))else ab| some n,.c (.f (.fp cs o))=>if i<n then aa (.c (.f (.fp cs (o+i.toNat*sz))))else ab| _,_=>ab
  else ab
def rn(d:Nat):V->Option V
 | .c (.ptr b o g)=>aa (.c (.ptr b (o+d) g))| .c (.f (.fp cs o))=>aa (.c (.f (.fp cs (o+d))))| _=>ab
def mP(b:Nat)(n:Option Nat):V->Option V
 | .a xs=>aX n (xs.drop b)| _=>ab
def JI(x i:V):Option V:=
 match x,fE i with
 | .c (.f (.str s)),aa i=>if 0<=i then(s[i.toNat]?).map λb=>.int .u8 b.toNat else ab
 |_,_=>ab
def JH(len sz:Nat)(n:Option Nat)(x i:V):Option V:=
 match x,fE i with
 | .a xs,aa i=>if 0<=i/\i<len then aX n (xs.drop (i.toNat*sz))else ab| _,_=>ab
def VV(H:an):V->Option (V × an)
 | .c (.it b)=>match H[b]? with
  |some (.it s d)=>
   if d<s.size then
    let r:=Utf8.decode s d
    aa (.t [.bool ae,.int .i64 d,.int .i32 r.1],H.set b (.it s (d+r.2)))
   else aa (.t [.bool ag],H)
  |_=>ab
 |_=>ab
def cF(need bytes:Nat):Bool:=decide ((2*need+768)*bytes<=2 ^ 48)&&decide (need<2 ^ 48)
def md{P:Prop}(h:P:=by simp[cF];omega):P:=h
def dI(H:an)(sz:Nat):V->Option (Nat × List C)
 | .c (.f (.str s))=>if sz=1 then aa (s.size,s.toList.map λb=>.f (.int .u8 b.toNat))else ab
 | .c x=>match bA H x,dy H sz x with
  |some l,aa cs=>aa (l,cs)| _,_=>ab
 |_=>ab
def bZ(H:an)(sz bytes:Nat)(x y:V):Option (V × an):=
 match dI H sz y with
 |none=>ab
 |some (m,ys)=>
  if sz=0 then ab else
  match x with
  | .c (.f .aN)=>if m=0 then aa (.c (.f .aN),H)else
    if cF m bytes then aa (.c (.sl H.length 0 m 0 0 sz),H++[.dz sz ys 0 0 .loc])else ab
  | .c (.f .es)=>if m=0 then aa (.c (.f .es),H)else
    if cF m bytes then aa (.c (.sl H.length 0 m 0 0 sz),H++[.dz sz ys 0 0 .loc])else ab
  | .c (.sl b o l cap d s)=>match H[b]? with
   |some (.box cs fl)=>
    if l+m<=cap then
     if fl<=o+l*sz/\o+l*sz+ys.length<=cs.length then aa (.c (.sl b o (l+m) cap d s),H.set b (.box (over cs (o+l*sz) ys) fl))else ab
    else if cF (l+m) bytes/\o+l*sz<=cs.length then aa (.c (.sl H.length 0 (l+m) 0 0 sz),H++[.dz sz ((cs.drop o).take (l*sz)++ys) 0 0 .loc])else ab
   |some (.dz g cs fl e st)=>
    if d=e/\g=sz/\s=sz then
     if m=0 then aa (x,H)
     else if o=0/\l*sz=cs.length/\fl<=cs.length then
      if cF (l+m) bytes then aa (.c (.sl b 0 (l+m) 0 (d+1) sz),H.set b (.dz sz (cs++ys) fl (e+1) .loc))else ab
     else if st=.loc/\fl<=o+l*sz/\o+l*sz+ys.length<=cs.length then
      aa (.c (.sl b o (l+m) 0 d sz),H.set b (.dz sz (over cs (o+l*sz) ys) fl e .loc))
     else ab
    else ab
   |_=>ab
  |_=>ab
def copyV(H:an)(sz:Nat)(x y:V):Option (V × an):=
 match dI H sz y,x with
 |some _,.c (.f .aN)=>aa (.int .i64 0,H)| some _,.c (.f .es)=>aa (.int .i64 0,H)
 |some (m,ys),.c (.sl b o l _ d g)=>
  let n:=Nat.min m l
  match H[b]? with
  |some (.box cs fl)=>if fl<=o/\o+n*sz<=cs.length then aa (.int .i64 n,H.set b (.box (over cs o (ys.take (n*sz))) fl))else ab| some (.dz s cs fl e .loc)=>if d=e/\g=s/\s=sz/\fl<=o/\o+n*sz<=cs.length then aa (.int .i64 n,H.set b (.dz s (over cs o (ys.take (n*sz))) fl e .loc))else ab| _=>ab
 |_,_=>ab
def wL(H:an):V->Option V
 | .c x=>match bA H x with
  |some _=>match dy H 1 x with
   |some cs=>(bC (λc=>match c with|C.f (.int .u8 n)=>aa (UInt8.ofNat n.toNat)|_=>ab) cs).map λl=>.c (.f (.str ⟨l.toArray⟩))
   |none=>ab
  |none=>ab
 |_=>ab
def iw(aT:T)(cs:List C):List (Nat × Nat × Arg)->Option (List C)
 |[]=>aa cs
 |(b,n,x)::rest=>match (x.ev aT).cells? with
  |some xs=>if xs.length=n/\b+xs.length<=cs.length then iw aT (over cs b xs) rest else ab| none=>ab
def fA(aT:T)(xs:List Arg):List V:=xs.map (·.ev aT)
def tX:V->Option C
 | .c (.cl _ _)=>ab| .c (.bm _ _)=>ab| .c x=>aa x| _=>ab
def dQ{α:Type}(n:Nat)(xs:List α):List α:=(List.replicate n xs).flatten
def eqK:CK->FC->FC->Option Bool
 | .int,.int k a,.int k' b=>if k=k' then aa (a == b)else ab| .str,.str a,.str b=>aa (a == b)| .bool,.bool a,.bool b=>aa (a == b)| _,_,_=>ab
def nH(b:CK)(k:FC):List (FC × C)->Option (Option C)
 |[]=>aa ab
 |e::d=>match eqK b k e.1 with
  |some ae=>aa (aa e.2)| some ag=>nH b k d| none=>ab
def qH(b:CK)(k:FC)(v:C):List (FC × C)->Option (List (FC × C))
 |[]=>aa [(k,v)]
 |e::d=>match eqK b k e.1 with
  |some ae=>aa ((k,v)::d)| some ag=>(qH b k v d).map (e::·)| none=>ab
def isKey:CK->FC->Bool
 | .int,.int _ _=>ae| .str,.str _=>ae| .bool,.bool _=>ae| _,_=>ag
def qB:FC->Option FC
 | .fp [z] 77=>aa z| _=>ab
def S9(z:FC)(r:Option C):V:=match qB z with
 |some z0=>.t [(r.map mV).getD (zV z0),.c (.f (.bool r.isSome))]| none=>(r.map mV).getD (zV z)
def gN(H:an)(d:CK)(z:FC):V->V->Option V
 | .c (.f .Ap),.c (.f k)=>if isKey d k then aa (S9 z ab)else ab
 | .c (.mp b),.c (.f k)=>match H[b]? with
  |some (.map g)=>if isKey d k then(nH d k g).map (S9 z)else ab| _=>ab
 |_,_=>ab
def oC(H:an):C->Option Nat
 | .sl b _ _ c d sz=>match H[b]? with
  |some (.box _ _)=>aa c| some (.dz s _ _ e .nil)=>if d=e/\sz=s then aa 0 else ab| some (.dz s _ _ e .es)=>if d=e/\sz=s then aa 0 else ab| _=>ab
 | .f .aN=>aa 0| .f .es=>aa 0| _=>ab
def BE(lo:Bool)(x y:V):Option V:=
 match x,y with
 | .c (.f (.int k a)),.c (.f (.int _ b))=>aa (.int k (if lo then(if b<a then b else a)else(if b>a then b else a)))| _,_=>ab
def wY(lo:Bool):V->List V->Option V
 |x,[]=>aa x
 |x,y::ys=>match BE lo x y with
  |some z=>wY lo z ys| none=>ab
def C'(lo:Bool):List V->Option V
 |[]=>ab| x::xs=>wY lo x xs
def nE(H:an)(sz:Nat)(zs:List FC)(x:V):Option an:=
 match x with
 | .c y=>match bA H y with
  |some 0=>aa H
  |some l=>
   if zs.length=sz then
    match y with
    | .sl b o _ _ d s=>match H[b]? with
     |some (.box _ _)=>dj H (.ptr b o d) ((dQ l zs).map .f)| some (.dz g _ _ e .loc)=>if d=e/\s=g then dj H (.ptr b o d) ((dQ l zs).map .f)else ab| _=>ab
    |_=>ab
   else ab
  |none=>ab
 |_=>ab
def D9(H:an)(sz bytes:Nat)(zs:List FC)(x n:V):Option (V × an):=
 match fE n with
 |some n=>
  if 0<=n/\zs.length=sz then
   match x with
   | .c (.f .aN)=>if n.toNat=0 then aa (.c (.f .aN),H)else
     if cF n.toNat bytes then aa (.c (.sl H.length 0 n.toNat 0 0 sz),H++[.dz sz ((dQ n.toNat zs).map .f) 0 0 .loc])else ab
   | .c (.f .es)=>if n.toNat=0 then aa (.c (.f .es),H)else
     if cF n.toNat bytes then aa (.c (.sl H.length 0 n.toNat 0 0 sz),H++[.dz sz ((dQ n.toNat zs).map .f) 0 0 .loc])else ab
   |_=>ab
  else ab
 |none=>ab
def fcC:C->Option FC
 | .f x=>aa x| _=>ab
def B9(H:an)(sz:Nat)(x hi mx:V):Option (V × an):=
 match cJ H sz x ab (aa hi) (aa mx)with
 |some v=>aa (v,H)
 |none=>match x with
  | .c (.sl b o n _ g s)=>match H[b]? with
   |some (.dz d cs fl e .loc)=>
    if g=e/\s=sz/\d=sz/\o=0 then
     match Gd hi n,Gd mx n with
     |some i,aa j=>
      if i=j/\0<i/\i*sz<=cs.length then
       match bC fcC (cs.take (i*sz))with
       |some ys=>aa (.c (.f (.fs ys i)),H.set b (.dz d cs (Nat.max fl (i*sz)) e .loc))| none=>ab
      else ab
     |_,_=>ab
    else ab
   |_=>ab
  |_=>ab
def Db(H:an):V->Option (V × an)
 | .c (.mi b)=>match H[b]? with
  |some (.Ge m d done)=>match H[m]? with
   |some (.map [])=>if done then ab else aa (.t [.bool ag],H)| some (.map [e])=>if done then aa (.t [.bool ag],H)else if d=1 then aa (.t [.bool ae,.c (.f e.1),mV e.2],H.set b (.Ge m 1 ae))else ab| _=>ab
  |_=>ab
 |_=>ab
def oS(H:an):V->Option V
 | .c (.mi b)=>match H[b]? with
  |some (.Ge m _ ae)=>match H[m]? with
   |some (.map [e])=>aa (.t [.c (.f e.1),mV e.2])| _=>ab
  |_=>ab
 |_=>ab
def xQ(H:an):V->Option (V × an)
 | .c (.mp b)=>match H[b]? with
  |some (.map d)=>if d.length<=1 then aa (.c (.mi H.length),H++[.Ge b d.length ag])else ab| _=>ab
 |_=>ab
def VH:List C->Option (List FC)
 |[]=>aa []| .f x::xs=>(VH xs).map (x::·)| _::_=>ab
def cA(aT:T)(H:an):et->Option (V × an)
 | .ju x=>aa (x.ev aT,H)| .pre o sz=>if o=.loc\/sz=0 then ab else aa (.c (.sl H.length 0 0 0 0 sz),H++[.dz sz [] 0 0 o])
 | .pick c a b=>match c.ev aT with
  | .c (.f (.bool v))=>aa ((if v then a else b).ev aT,H)| _=>ab
 | .alloc zs=>aa (.c (.ptr H.length 0 0),H++[.box (zs.map .f) 0])
 | .box x=>match (x.ev aT).cells? with
  |some xs=>aa (.c (.ptr H.length 0 0),H++[.box xs 0])| none=>ab
 | .build zs ps=>(iw aT (zs.map .f) ps).map λcs=>(.a cs,H)
 | .iR sz zs n ps=>
  if n=0 then(if ps.isEmpty then aa (.c (.f .es),H)else ab)else
  (iw aT ((dQ n zs).map .f) (ps.map λp=>(p.1*sz,sz,p.2))).map λcs=>(.c (.sl H.length 0 n n 0 sz),H++[.box cs 0])
 | .load n x=>(aV H n (x.ev aT)).map (·,H)
 | .store n x y=>match x.ev aT,(y.ev aT).cells? with
  | .c p,aa xs=>if xs.length=n then(dj H p xs).map (.top,·)else ab| _,_=>ab
 | .nI x=>match x.ev aT with
  | .c (.ptr b o e)=>aa (.c (.ptr b o e),H)| .c (.f (.fp cs o))=>aa (.c (.f (.fp cs o)),H)| _=>ab
 | .bin op x y=>(de op (x.ev aT) (y.ev aT)).map (·,H)| .eq neg k x y=>(NX H k (x.ev aT) (y.ev aT)).map λb=>(.bool (if neg then !b else b),H)
 | .un op x=>(Tc op (x.ev aT)).map (·,H)
 | .QO k x=>match x.ev aT with
  | .c (.f (.int _ n))=>aa (.int k (k.wrap n),H)| _=>ab
 | .Hc x=>match x.ev aT with
  | .c (.f (.str s))=>aa (.c (.f (.str s)),H)| _=>ab
 | .Es x=>(wL H (x.ev aT)).map (·,H)
 | .T2 x=>match x.ev aT with
  | .c (.f (.str s))=>if s.size<2 ^ 48 then aa (.c (.sl H.length 0 s.size 0 0 1),H++[.dz 1 (s.toList.map λb=>.f (.int .u8 b.toNat)) 0 0 .loc])else ab
  |_=>ab
 | .Ao f g=>(bC tX (fA aT g)).map λxs=>(.c (.cl f xs),H)
 | .pK=>aa (.c (.mp H.length),H++[.map []])| .lookup j z m k=>(gN H j z (m.ev aT) (k.ev aT)).map (·,H)
 | .qD j m k v=>match m.ev aT,k.ev aT,pJ (v.ev aT)with
  | .c (.mp b),.c (.f k),aa v=>match H[b]? with
   |some (.map u)=>if isKey j k then(qH j k v u).map λu=>(.top,H.set b (.map u))else ab
   |_=>ab
  |_,_,_=>ab
 | .fu sz bytes zs l c=>match fE (l.ev aT),fE (c.ev aT)with
  |some l,aa c=>
   if 0<=l/\l<=c/\cF c.toNat bytes=ae/\zs.length=sz then
    (if c=0 then aa (.c (.f .es),H)else
    aa (.c (.sl H.length 0 l.toNat c.toNat 0 sz),H++[.box ((dQ c.toNat zs).map .f) 0]))
   else ab
  |_,_=>ab
 | .slice sz x lo hi mx=>(cJ H sz (x.ev aT) (lo.map (·.ev aT)) (hi.map (·.ev aT)) (mx.map (·.ev aT))).map (·,H)| .vj n sz x lo hi mx=>(qO H n sz (x.ev aT) (lo.map (·.ev aT)) (hi.map (·.ev aT)) (mx.map (·.ev aT))).map (·,H)| .xr x lo hi=>(Dy (x.ev aT) (lo.map (·.ev aT)) (hi.map (·.ev aT))).map (·,H)| .mM d x=>(rn d (x.ev aT)).map (·,H)| .field d n x=>(mP d n (x.ev aT)).map (·,H)| .hZ sz q x i=>(bO H sz q (x.ev aT) (i.ev aT)).map (·,H)| .idxs x i=>(JI (x.ev aT) (i.ev aT)).map (·,H)| .EJ len sz n x i=>(JH len sz n (x.ev aT) (i.ev aT)).map (·,H)
 | .range x=>match x.ev aT with
  | .c (.f (.str s))=>aa (.c (.it H.length),H++[.it s 0])| _=>ab
 | .next x=>VV H (x.ev aT)
 | .extract x i=>match x.ev aT with
  | .t B=>(B[i]?).map (·,H)| _=>ab
 | .rR n=>aa (.int .i64 n,H)
 | .lens x=>match x.ev aT with
  | .c (.f (.str s))=>aa (.int .i64 (s.size:Nat),H)| _=>ab
 | .len x=>match x.ev aT with
  | .c y=>match bA H y with
   |some n=>aa (.int .i64 (n:Nat),H)| none=>ab
  |_=>ab
 | .append sz bytes x y=>bZ H sz bytes (x.ev aT) (y.ev aT)| .copy sz x y=>copyV H sz (x.ev aT) (y.ev aT)| .uH lo xs=>(C' lo (fA aT xs)).map (·,H)| .clear sz zs x=>(nE H sz zs (x.ev aT)).map (.t [],·)| .sJ sz bytes zs x n=>D9 H sz bytes zs (x.ev aT) (n.ev aT)| .mU x=>xQ H (x.ev aT)| .qI x=>Db H (x.ev aT)| .entry x=>(oS H (x.ev aT)).map (·,H)| .lS sz zs n ps=>((iw aT ((dQ n zs).map .f) (ps.map λp=>(p.1*sz,sz,p.2))).bind λcs=>if n=0 then ab else VH cs).map λA=>(.c (.f (.fs A n)),H)
 | .zL sz x hi mx=>B9 H sz (x.ev aT) (hi.ev aT) (mx.ev aT)| .An f xs=>(bC tX (fA aT xs)).map λxs=>(.c (.bm f xs),H)
 | .cap x=>match x.ev aT with
  | .c y=>match oC H y with
   |some n=>aa (.int .i64 (n:Nat),H)| none=>ab
  |_=>ab
 |_=>ab
inductive Callee where
 |fn (f:Nat)
 |yield (b:Nat)
abbrev eC:=Callee->List V->an->Option (V × an)
def deep:Nat:=64
def iy(call:eC)(c:Nat)(args:List V)(H:an):Option (V × an):=
 match bC (dq deep H) args with
 |none=>ab
 |some b=>match call (.fn c) b []with
  |none=>ab
  |some (r,H')=>match jd deep H' r with
   |none=>ab| some r'=>aa (r',args.foldl (UO deep) H)
def cr:V->List V->Option (Callee × List V)
 | .c (.f (.fn f d)),args=>aa (.fn f,args++d.map λx=>.c (.f x))
 | .c (.cl f d),args=>aa (.fn f,args++d.map .c)| .c (.yl b),args=>aa (.yield b,args)| .c (.bm f first),args=>aa (.fn f,first.map .c++args)
 |_,_=>ab
def mj(call:eC)(h:Bool)(c:Nat)(args:List V)(H:an):Option (V × an):=
 if h then call (.fn c) args H else iy call c args H
structure St where
 aT:T
 defs:List gY
 heap:an
def oz(aT:T)(d:Option P)(v:V):T:=
 match d with
 |some d=>aT.set d v| none=>aT
def jP(call:eC)(s:St)(op:et):Option (V × St):=
 match op with
 | .call f args h=>(mj call h f (fA s.aT args) s.heap).map λr=>(r.1,{ s with heap:=r.2 })
 | .jr x args _=>match cr (x.ev s.aT) (fA s.aT args)with
  |some (c,args)=>(call c args s.heap).map λr=>(r.1,{ s with heap:=r.2 })
  |none=>ab
 | .recover=>aa (.c (.f .sW),s)
 | .defer x args=>match cr (x.ev s.aT) (fA s.aT args)with
  |some (.fn f,args)=>aa (.top,{ s with defs:=.fn f args::s.defs })
  |_=>ab
 |op=>(cA s.aT s.heap op).map λr=>(r.1,{ s with heap:=r.2 })
def jW{α:Type}(f:α->α->Bool):List α->List α->Bool
 |[],[]=>ae| x::xs,y::ys=>f x y&&jW f xs ys| _,_=>ag
def FC.beq:Nat->FC->FC->Bool
 |_,.bool a,.bool b=>a == b| _,.int j a,.int k b=>decide (j=k)&&a == b| _,.str a,.str b=>decide (a=b)| _,.zo,.zo|_,.aN,.aN|_,.es,.es|_,.xC,.xC|_,.sW,.sW|_,.Ap,.Ap=>ae| n+1,.fp xs o,.fp ys o'=>o == o'&&jW (FC.beq n) xs ys| n+1,.fs xs l,.fs ys d=>l == d&&jW (FC.beq n) xs ys| n+1,.fn f xs,.fn g ys=>f == g&&jW (FC.beq n) xs ys| _,_,_=>ag
def C.beq:C->C->Bool
 | .f a,.f b=>FC.beq 64 a b| .ptr a b c,.ptr a' j l=>a == a'&&b == j&&c == l| .sl a b c d e g,.sl a' j l d' m g'=>a == a'&&b == j&&c == l&&d == d'&&e == m&&g == g'| .mp a,.mp b=>a == b| _,_=>ag
def V.beq:V->V->Bool
 | .c x,.c y=>x.beq y| .a xs,.a ys=>xs.length == ys.length&&(xs.zip ys).all λp=>p.1.beq p.2
 |_,_=>ag
def wanted(aT:T):Option (P × Bool)->Option Bool
 |none=>aa ae
 |some (r,w)=>match aT.get r with
  | .c (.f (.bool b))=>aa (b == w)| .t []=>aa ag| _=>ab
def jQ(call:eC)(s:St)(o:bh):Option St:=
 match wanted s.aT o.g with
 |some ae=>match jP call s o.op with
  |some (v,b)=>aa { b with aT:=oz b.aT o.dst v }
  |none=>ab
 |some ag=>aa { s with aT:=oz s.aT o.dst (.t []) }
 |none=>ab
def ja(call:eC):List bh->St->Option St
 |[],s=>aa s
 |o::os,s=>match jQ call s o with
  |some b=>ja call os b| none=>ab
def gi(call:eC):List bh->St->Option (List St)
 |[],s=>aa [s]
 |o::os,s=>match jQ call s o with
  |some b=>match gi call os b with
   |some ss=>aa (s::ss)| none=>ab
  |none=>ab
def sameAt(ops:List bh)(ss:List St)(c:Nat × Nat):Bool:=
 match ops[c.1]?,ss[c.1]?,ss[c.2]? with
 |some o,aa s,aa b=>match wanted s.aT o.g with
  |some ag=>ae
  |_=>match cA s.aT s.heap o.op,cA s.aT b.heap o.op with
   |some (v,_),aa (d,_)=>v.beq d| _,_=>ag
 |_,_,_=>ag
def lu(call:eC)(ops:List bh)(jU:List (Nat × Nat))(s:St):Option St:=
 match jU with
 |[]=>ja call ops s
 |_=>match gi call ops s with
  |some ss=>if jU.all (sameAt ops ss)then ss.getLast? else ab| none=>ab
def et.fN:et->Bool
 | .defer _ _| .recover=>ag| _=>ae
inductive dS where
 |code (c:aD)
 |inBlock (id:Nat)
 |inLoop (c:aD)
 |mL (b:Nat)
 |rP
 |inScope (a:aD)
def exitTo(id:Nat):List dS->Option (List dS)
 |[]=>ab| .inBlock b::k=>if b == id then aa k else exitTo id k| _::k=>exitTo id k
def findLabel:aD->Nat->Option aD
 | .seq a b,l=>match findLabel a l with
  |some rest=>aa (.seq rest b)| none=>findLabel b l
 | .label d,l=>if d == l then aa .skip else ab| _,_=>ab
def gotoIn(l:Nat):List dS->Option (List dS)
 |[]=>ab
 | .inScope body::k=>match findLabel body l with
  |some rest=>aa (.code rest::.inScope body::k)| none=>gotoIn l k
 |_::k=>gotoIn l k
def C.ic(n:Nat):C->Bool
 | .f _=>ae| .ptr b _ _=>decide (b<n)| .sl b _ _ _ _ _=>decide (b<n)| .cl _ _=>ag| .yl b=>decide (b<n)| .mp b=>decide (b<n)| .it b=>decide (b<n)| .mi b=>decide (b<n)| .bm _ _=>ag
def C.under(n:Nat):C->Bool
 | .cl _ d=>d.all (·.ic n)| .f _=>ae| .ptr b _ _=>decide (b<n)| .sl b _ _ _ _ _=>decide (b<n)| .yl b=>decide (b<n)| .mp b=>decide (b<n)| .it b=>decide (b<n)| .mi b=>decide (b<n)| .bm _ first=>first.all (·.ic n)
def run(call:eC)(fn:Nat):Nat->Option Nat->List dS->St->Option (Option aD × St)
 |0,_,_,_=>ab
 |m+1,j,q,s=>
  match q with
  |[]=>aa (ab,s)| .inBlock _::k=>run call fn m j k s| .inLoop c::k=>run call fn m j (.code c::.inLoop c::k) s
  | .mL b::k=>match s.heap[b]? with
   |some (.lp f tmps ps as bd st pending d)=>
    if st=.busy then ab else
    let s:={ s with heap:=s.heap.set b (.lp f tmps ps as bd .exhausted pending d) }
    match pending with
    |none=>run call fn m j k s| some .ret=>run call fn m j (.code .ret::k) s| some (.exit id)=>run call fn m j (.code (.exit id)::k) s| some _=>ab
   |_=>ab
  | .rP::k=>match j with
   |none=>ab
   |some b=>match s.heap[b]? with
    |some (.lp f tmps ps as bd .ready pending d)=>run call fn m j k { s with heap:=s.heap.set b (.lp f tmps ps as bd .busy pending d) }
    |_=>ab
  | .code .skip::k=>run call fn m j k s| .inScope _::k=>run call fn m j k s| .code (.label _)::k=>run call fn m j k s| .code (.scope a)::k=>run call fn m j (.code a::.inScope a::k) s
  | .code (.goto l)::k=>match gotoIn l k with
   |some k=>run call fn m j k s| none=>ab
  | .code .bad::_=>ab| .code .ret::_=>aa (aa .ret,s)
  | .code (.exit id)::k=>match exitTo id k with
   |some k=>run call fn m j k s| none=>if j.isSome then aa (aa (.exit id),s)else ab
  | .code (.seq a b)::k=>run call fn m j (.code a::.code b::k) s| .code (.block id a)::k=>run call fn m j (.code a::.inBlock id::k) s| .code (.loop a)::k=>run call fn m j (.code a::.inLoop a::k) s
  | .code (.cond c a b)::k=>match c.ev s.aT with
   | .c (.f (.bool v))=>run call fn m j (.code (if v then a else b)::k) s| _=>ab
  | .code (.region ops jU)::k=>
   if j.isSome&&!ops.all (·.op.fN)then ab else
   match lu call ops jU s with
   |some s=>run call fn m j k s| none=>ab
  | .code (.nL f ps as bd)::k=>
   if j.isSome then ab else
   let d:=s.heap.length
   let H:=s.heap++[.dH ae,.lp fn s.aT ps as bd .ready ab d]
   match cr (f.ev s.aT) [.c (.yl (d+1))]with
   |some (.fn g,args)=>match call (.fn g) args H with
    |some (_,H)=>run call fn m j (.mL (d+1)::k) { aT:=s.aT,defs:=.dR d::s.defs,heap:=H }| none=>ab
   |_=>ab
def v8:Nat:=1000000000
def gd(call:eC):List gY->an->Option an
 |[],H=>aa H
 | .dR b::d,H=>match H[b]? with
  |some (.dH ae)=>gd call d (H.set b (.dH ag))| _=>ab
 | .fn f args::d,H=>if f=v8 then ab else match call (.fn f) args H with
  |some (_,H)=>gd call d H| none=>ab
def cB(aT:T)(H:an):jZ->Option V
 | .tmp t=>match aT.get t with
  | .t _=>ab| v=>aa v
 | .cell t n=>aV H n (aT.get t)
def results(aT:T)(H:an)(b:List jZ):Option V:=
 match bC (cB aT H) b with
 |some [v]=>aa v| some d=>aa (.t d)| none=>ab
def dw:List P->List V->T->T
 |p::ps,v::b,aT=>dw ps b (aT.set p v)| _,_,aT=>aT
def iW(tab:Nat->Option aS)(g:Nat->List V->an->Option (Option (V × an)))(m:Nat):Nat->eC
 |0,_,_,_=>ab
 |d+1,.fn f,args,H=>
  match g f args H with
  |some r=>r
  |none=>match tab f with
   |none=>ab
   |some q=>if args.length=q.ps.length then match run (iW tab g m d) f m ab [.code q.body] ⟨dw q.ps args .e,[],H⟩with
    |some (_,s)=>match gd (iW tab g m d) s.defs s.heap with
     |some H=>(results s.aT H q.results).map (·,H)| none=>ab
    |none=>ab
    else ab
 |d+1,.yield b,args,H=>
  match H[b]? with
  |some (.lp f tmps ps as bd _ _ _)=>
   if args.length=ps.length then
    match run (iW tab g m d) f m (aa b) [.code as,.rP,.code bd] ⟨dw ps args tmps,[],H⟩with
    |some (j,s)=>
     if s.defs.isEmpty then
      match s.heap[b]? with
      |some (.lp x l v as' u _ _ d')=>aa (.bool j.isNone,s.heap.set b (.lp x l v as' u (if j.isNone then .ready else .done) j d'))| _=>ab
     else ab
    |none=>ab
   else ab
  |_=>ab
section
variable(Q:Program)(σ:Nat->FuncId)
def ZN:Value->Bool
 | .agg _| .tuple _=>ag| _=>ae
def YX:Value->Bool
 | .agg _=>ae| _=>ag
def mK1:FC->Value->Bool
 | .bool a,.bool b=>a == b| .int j a,.int k b=>decide (j=k)&&decide (a=b)| .str a,.string b=>decide (a=b)| .zo,.pointer ab=>ae| .aN,.slice ab 0 0=>ae| .xC,.nilFunc=>ae| .sW,.nilIface=>ae| .Ap,.map ab=>ae| _,_=>ag
def iD{α β:Type}(f:α->β->Bool):List α->List β->Bool
 |[],[]=>ae| x::xs,y::ys=>f x y&&iD f xs ys| _,_=>ag
def mK:V->Value->Bool
 | .c (.f x),v=>mK1 x v| .a xs,.agg us=>iD (λx u=>match x with|C.f x=>mK1 x u|_=>ag) xs us.toList
 | .top,.tuple us=>us.isEmpty| _,_=>ag
def mA:Arg->Operand->Bool
 | .r p,.tmp t=>p.toNat == t| .k v,.const u=>mK v u| .k (.c (.f (.fn f []))),.func g=>σ f == g| _,_=>ag
def S_(xs:List Arg)(ys:Array Operand):Bool:=iD (mA σ) xs ys.toList
def mO:Option Arg->Option Operand->Bool
 |none,ab=>ae| some x,aa y=>mA σ x y| _,_=>ag
def eF(t:TypeId)(n:Nat):Bool:=(Q.info? t).any λi=>i.size == n
def qR(t:TypeId)(n:Nat):Bool:=(Q.info? t).any λi=>i.bytes == n
def oE(t:TypeId)(zs:List FC):Bool:=(Q.info? t).any λi=>match i.zero with
 |some z=>iD mK1 zs z.cells.toList| none=>ag
def zQ(t:TypeId)(n:Option Nat):Bool:=match Q.underlying t,n with
 |some (.struct _),aa n|some (.array _ _),aa n=>eF Q t n| some (.struct _),ab|some (.array _ _),ab=>ag| some _,ab=>ae| _,_=>ag
def kz:Nat->TypeId->Option (List CK)
 |0,_=>ab
 |d+1,t=>match Q.underlying t with
  |some .bool=>if eF Q t 1 then aa [.bool]else ab| some (.int _)=>if eF Q t 1 then aa [.int]else ab| some .string=>if eF Q t 1 then aa [.str]else ab
  |some (.struct fs)=>if Q.stoodInHeld t then ab else match uh (kz d) 0 fs.toList with
   |some ks=>if eF Q t ks.length then aa ks else ab| none=>ab
  |_=>ab
 where
 uh (rec:TypeId->Option (List CK)) (off:Nat):List Field->Option (List CK)
  |[]=>aa []
  |f::fs=>if f.name≠ "_"/\f.offset=off then match rec f.type with
    |some ks=>match uh rec (off+ks.length) fs with
     |some r=>aa (ks++r)| none=>ab
    |none=>ab
   else ab
def wT:Operand->Bool
 | .const _=>ae| _=>ag
def mEq(k:NU)(t:TypeId)(x y:Operand):Bool:=match Q.underlying t,k with
 |some .bool,.bool|some (.pointer _),.ptr|some (.slice _),.sl|some (.func _ _ _),.fn=>ae| some (.interface _),.ifc=>wT x||wT y| some (.struct _),.st b=>decide (kz Q 20 t=aa b)&&!Q.eqGuardType Q.depth t| _,_=>ag
def qn(t:TypeId):Option TypeId:=match Q.underlying t with
 |some (.slice e)=>aa e| _=>ab
def ac1(t:TypeId):Bool:=match Q.underlying t with
 |some (.int .u8)=>ae| _=>ag
def fC(c:Call):et->Bool
 | .len x=>match c.callee,c.args.toList,c.argTypes.toList with
  | .builtin .len,[y],[t]=>mA σ x y&&(match Q.underlying t with|some (.slice _)=>ae|_=>ag)
  |_,_,_=>ag
 | .lens x=>match c.callee,c.args.toList,c.argTypes.toList with
  | .builtin .len,[y],[t]=>mA σ x y&&(match Q.underlying t with|some .string=>ae|_=>ag)
  |_,_,_=>ag
 | .rR n=>match c.callee,c.args.toList,c.argTypes.toList with
  | .builtin .len,[_],[t]=>(match Q.underlying t with|some (.array m _)=>decide (n=m)|_=>ag)
  |_,_,_=>ag
 | .append sz bytes x y=>match c.callee,c.args.toList,c.argTypes.toList with
  | .builtin .append,[u,v],[t,b]=>mA σ x u&&mA σ y v&&(qn Q t).any (λe=>eF Q e sz&&qR Q e bytes&&decide (0<sz)&&(Q.info? e).any (λi=>i.zero.any λz=>decide (z.cells.size=sz)))
    && (match Q.underlying b with|some .string=>ae|some (.slice _)=>ae|_=>ag)
  |_,_,_=>ag
 | .sJ sz bytes zs x y=>match c.callee,c.args.toList,c.argTypes.toList with
  | .builtin .append,[u,v],[t,b]=>mA σ x u&&mA σ y v&&(qn Q t).any (λe=>eF Q e sz&&qR Q e bytes&&decide (0<sz)&&oE Q e zs)
    && (match Q.underlying b with|some (.int _)=>ae|_=>ag)
  |_,_,_=>ag
 | .copy sz x y=>match c.callee,c.args.toList,c.argTypes.toList with
  | .builtin .copy,[u,v],[t,_]=>mA σ x u&&mA σ y v&&(qn Q t).any (λe=>eF Q e sz)
  |_,_,_=>ag
 | .uH lo xs=>match c.callee,lo with
  | .builtin .max,ag| .builtin .min,ae=>S_ σ xs c.args| _,_=>ag
 | .cap x=>match c.callee,c.args.toList,c.argTypes.toList with
  | .builtin .cap,[y],[t]=>mA σ x y&&(match Q.underlying t with|some (.slice _)=>ae|_=>ag)
  |_,_,_=>ag
 | .clear sz zs x=>match c.callee,c.args.toList,c.argTypes.toList with
  | .builtin .clear,[y],[t]=>mA σ x y&&(qn Q t).any (λe=>eF Q e sz&&oE Q e zs)
  |_,_,_=>ag
 | .recover=>match c.callee with
  | .builtin .recover=>ae| _=>ag
 | .call f xs _=>match c.callee with
  | .value (.func g)=>σ f == g&&S_ σ xs c.args| _=>ag
 | .jr x xs _=>match c.callee with
  | .value y=>mA σ x y&&S_ σ xs c.args| _=>ag
 |_=>ag
def Na(b:CK)(t:TypeId):Bool:=match Q.underlying t,b with
 |some (.int _),.int|some .string,.str|some .bool,.bool=>ae| _,_=>ag
def RF(t:TypeId)(qs:List (Nat × Nat × Arg))(ps:List (Nat × Operand)):Bool:=match Q.underlying t with
 |some (.struct b)=>match b.toList.mapM (λf=>(Q.info? f.type).map λi=>(f.offset,i.size))with
  |some d=>iD (λ(q:Nat × Nat × Arg) (p:Nat × Operand)=>decide (d[p.1]?=aa (q.1,q.2.1))&&mA σ q.2.2 p.2) qs ps
  |none=>ag
 |some (.array _ e)=>match Q.info? e with
  |some i=>iD (λ(q:Nat × Nat × Arg) (p:Nat × Operand)=>i.size == q.2.1&&q.1 == p.1*q.2.1&&mA σ q.2.2 p.2) qs ps
  |none=>ag
 |_=>ag
def ft(o:Oper)(a:et):Bool:=match a with
 | .bad=>ae| .ju y=>(match o.op with| .move x| .assign x=>mA σ y x|_=>ag)
 | .pre .nil sz=>(match o.op with| .move (.const (.slice ab 0 0))| .assign (.const (.slice ab 0 0))=>decide (0<sz)|_=>ag)
 | .pick N A K=>(match o.op with| .pick c x y=>mA σ N c&&mA σ A x&&mA σ K y|_=>ag)
 | .alloc zs=>(match o.op with| .alloc t=>oE Q t zs|_=>ag)
 | .box y=>(match o.op with| .box _ x=>mA σ y x|_=>ag)
 | .build zs qs=>(match o.op with| .build t ps=>oE Q t zs&&RF Q σ t qs ps.toList|_=>ag)
 | .iR sz zs H qs=>(match o.op with| .buildSlice t n ps=>n == H&&decide (n*sz<=2 ^ 24)&&(qn Q t).any (λe=>eF Q e sz&&oE Q e zs&&decide (zs.length=sz))&&decide (0<sz)&&iD (λ(q:Nat × Arg) (p:Nat × Operand)=>q.1 == p.1&&mA σ q.2 p.2) qs ps.toList|_=>ag)
 | .lS sz zs H qs=>(match o.op with| .buildSlice t n ps=>n == H&&decide (n*sz<=2 ^ 24)&&(qn Q t).any (λe=>eF Q e sz&&oE Q e zs&&decide (zs.length=sz))&&decide (0<sz)&&iD (λ(q:Nat × Arg) (p:Nat × Operand)=>q.1 == p.1&&mA σ q.2 p.2) qs ps.toList|_=>ag)
 | .load n y=>(match o.op with| .load t x=>zQ Q t n&&mA σ y x|_=>ag)
 | .store n A K=>(match o.op with| .store t x y=>eF Q t n&&mA σ A x&&mA σ K y|_=>ag)
 | .nI y=>(match o.op with| .nilCheck x=>mA σ y x|_=>ag)
 | .bin J A K=>(match o.op with| .binOp op t x y _=>decide (op=J)&&mA σ A x&&mA σ K y|_=>ag)
 | .eq neg k A K=>(match o.op with| .binOp op t x y _=>decide (op=if neg then .neq else .eql)&&mA σ A x&&mA σ K y&&mEq Q k t x y|_=>ag)
 | .un J y=>(match o.op with| .unOp op _ x=>decide (op=J)&&mA σ y x|_=>ag)
 | .QO k y=>(match o.op with| .convert s d x=>mA σ y x&&(Q.underlying s).isSome&&(match Q.underlying d with|some (.int k')=>decide (k=k')|_=>ag)|_=>ag)
 | .Hc y=>(match o.op with| .convert s d x=>mA σ y x&&(match Q.underlying s,Q.underlying d with|some .string,aa .string=>ae|_,_=>ag)|_=>ag)
 | .Es y=>(match o.op with| .convert s d x=>mA σ y x&&(match Q.underlying s,Q.underlying d with|some (.slice e),aa .string=>ac1 Q e&&eF Q e 1|_,_=>ag)|_=>ag)
 | .Ao g ys=>(match o.op with| .makeFunc (.func f) fst B=>fst.isEmpty&&σ g == f&&S_ σ ys B|_=>ag)
 | .pK=>(match o.op with| .makeMap _ ab=>ae|_=>ag)
 | .fu sz bytes zs W N=>(match o.op with| .makeSlice t l c=>mA σ W l&&mA σ N c&&(qn Q t).any (λe=>eF Q e sz&&qR Q e bytes&&oE Q e zs)&&decide (0<sz)|_=>ag)
 | .slice sz y F b mx'=>(match o.op with| .slice t x lo hi mx=>mA σ y x&&mO σ F lo&&mO σ b hi&&mO σ mx' mx&&(qn Q t).any (λe=>eF Q e sz)&&decide (0<sz)|_=>ag)
 | .zL sz y b mx'=>(match o.op with| .slice t x ab (aa hi) (aa mx)=>mA σ y x&&mA σ b hi&&mA σ mx' mx&&(qn Q t).any (λe=>eF Q e sz)&&decide (0<sz)|_=>ag)
 | .xr y F b=>(match o.op with| .slice t x lo hi ab=>mA σ y x&&mO σ F lo&&mO σ b hi&&(match Q.underlying t with|some .string=>ae|_=>ag)|_=>ag)
 | .vj n sz y F b mx'=>(match o.op with| .slice t x lo hi mx=>mA σ y x&&mO σ F lo&&mO σ b hi&&mO σ mx' mx&&(match Q.underlying t with|some (.array H e)=>n == H&&eF Q e sz|_=>ag)&&decide (0<sz)|_=>ag)
 | .mM I y=>(match o.op with| .fieldAddr t x i=>mA σ y x&&(match Q.underlying t with|some (.struct S)=>(match S[i]? with|some f=>f.offset == I&&(Q.info? f.type).any (λi=>i.size != 0)|none=>ag)|_=>ag)|_=>ag)
 | .field I n y=>(match o.op with| .field t x i=>mA σ y x&&(match Q.underlying t with|some (.struct S)=>(match S[i]? with|some f=>f.offset == I&&zQ Q f.type n|none=>ag)|_=>ag)|_=>ag)
 | .hZ sz M A L=>(match o.op with| .indexAddr t x i=>mA σ A x&&mA σ L i&&(match Q.underlying t,M with|some (.slice e),ab=>eF Q e sz|some (.array n e),aa H=>n == H&&eF Q e sz|_,_=>ag)|_=>ag)
 | .idxs A L=>(match o.op with| .index t x i=>mA σ A x&&mA σ L i&&(match Q.underlying t with|some .string=>ae|_=>ag)|_=>ag)
 | .EJ n sz k A L=>(match o.op with| .index t x i=>mA σ A x&&mA σ L i&&(match Q.underlying t with|some (.array H e)=>n == H&&eF Q e sz&&zQ Q e k|_=>ag)|_=>ag)
 | .lookup O z U k'=>(match o.op with| .lookup t m k ok=>mA σ U m&&mA σ k' k&&(ok ==(qB z).isSome)&&(match Q.underlying t with|some (.map kt e)=>Na Q O kt&&oE Q e (wB ((qB z).getD z))&&(Q.info? e).any (λi=>i.zero.any λu=>if IV ((qB z).getD z)then YX u else ZN u)|_=>ag)|_=>ag)
 | .qD O U k' X=>(match o.op with| .mapUpdate t m k v=>mA σ U m&&mA σ k' k&&mA σ X v&&(match Q.underlying t with|some (.map kt _)=>Na Q O kt|_=>ag)|_=>ag)
 | .range y=>(match o.op with| .range t x=>mA σ y x&&(match Q.underlying t with|some .string=>ae|_=>ag)|_=>ag)
 | .next y=>(match o.op with| .next x ae=>mA σ y x|_=>ag)
 | .extract y j=>(match o.op with| .extract x i=>mA σ y x&&i == j|_=>ag)
 | .defer x xs=>(match o.op with| .defer c=>(match c.callee with| .value y=>mA σ x y&&S_ σ xs c.args|_=>ag)|_=>ag)
 | .len x=>(match o.op with| .call c=>fC Q σ c (.len x)|_=>ag)
 | .lens x=>(match o.op with| .call c=>fC Q σ c (.lens x)|_=>ag)
 | .rR n=>(match o.op with| .call c=>fC Q σ c (.rR n)|_=>ag)
 | .append sz bytes x y=>(match o.op with| .call c=>fC Q σ c (.append sz bytes x y)|_=>ag)
 | .uH lo xs=>(match o.op with| .call c=>fC Q σ c (.uH lo xs)|_=>ag)
 | .sJ sz bytes zs x y=>(match o.op with| .call c=>fC Q σ c (.sJ sz bytes zs x y)|_=>ag)
 | .cap x=>(match o.op with| .call c=>fC Q σ c (.cap x)|_=>ag)
 | .clear sz zs x=>(match o.op with| .call c=>fC Q σ c (.clear sz zs x)|_=>ag)
 | .mU y=>(match o.op with| .range t x=>mA σ y x&&(match Q.underlying t with|some (.map _ _)=>ae|_=>ag)|_=>ag)
 | .qI y=>(match o.op with| .next x ag=>mA σ y x|_=>ag)
 | .entry y=>(match o.op with| .entry x=>mA σ y x|_=>ag)
 | .An g ys=>(match o.op with| .makeFunc (.func f) fst B=>B.isEmpty&&σ g == f&&S_ σ ys fst|_=>ag)
 | .recover=>(match o.op with| .call c=>fC Q σ c (.recover)|_=>ag)
 | .call f xs h=>(match o.op with| .call c=>fC Q σ c (.call f xs h)|_=>ag)
 | .jr x xs h=>(match o.op with| .call c=>fC Q σ c (.jr x xs h)|_=>ag)
 |_=>ag
inductive S8 where|p|r|a|c|w
 deriving DecidableEq
def cls:et->S8
 | .ju _| .pick .. | .build .. | .un .. | .QO .. | .Hc _| .Ao .. | .xr .. | .mM .. | .field .. | .idxs .. | .EJ .. | .extract .. | .uH .. | .An .. | .nI _| .bin .. | .rR _| .lens _| .lS ..=>.p| .load .. | .eq .. | .len _| .slice .. | .vj .. | .hZ .. | .lookup .. | .Es _| .cap _| .entry _=>.r| .alloc _| .box _| .pK=>.a| .iR .. | .fu ..=>.a| .call _ _ ag=>.c| _=>.w
def Arg.rd:Arg->List P
 | .r p=>[p]| .k _=>[]
def ZL:Option Arg->List P
 |some x=>x.rd| none=>[]
def et.rd:et->List P
 | .ju x| .box x| .load _ x| .nI x| .un _ x| .QO _ x| .Hc x| .Es x| .T2 x| .mM _ x| .field _ _ x| .range x| .next x| .extract x _| .len x| .lens x| .cap x| .clear _ _ x| .mU x| .qI x| .entry x=>x.rd| .pre _ _| .alloc _| .pK| .recover| .rR _| .bad=>[]| .pick c a b=>c.rd++a.rd++b.rd| .build _ ps=>ps.flatMap λp=>p.2.2.rd
 | .iR _ _ _ ps| .lS _ _ _ ps=>ps.flatMap λp=>p.2.rd
 | .store _ x y| .bin _ x y| .eq _ _ x y| .hZ _ _ x y| .idxs x y| .EJ _ _ _ x y| .append _ _ x y| .copy _ x y| .sJ _ _ _ x y| .lookup _ _ x y| .fu _ _ _ x y=>x.rd++y.rd| .qD _ x y z| .zL _ x y z=>x.rd++y.rd++z.rd| .Ao _ xs| .call _ xs _| .uH _ xs| .An _ xs=>xs.flatMap Arg.rd| .jr x xs _| .defer x xs=>x.rd++xs.flatMap Arg.rd| .slice _ x a b c| .vj _ _ x a b c=>x.rd++ZL a++ZL b++ZL c| .xr x a b=>x.rd++ZL a++ZL b
def bh.rd(o:bh):List P:=(match o.g with|some (p,_)=>[p]|none=>[])++o.op.rd
def bh.apart(x y:bh):Bool:=
 (match x.dst with|some d=>!y.rd.contains d&&y.dst != aa d|none=>ae)&&(match y.dst with|some d=>!x.rd.contains d|none=>ae)
def yD(x y:bh):Bool:=
 match cls x.op,cls y.op with
 | .p,_|_,.p=>ae| .r,.w| .w,.r=>ae| .w,_|_,.w=>ag| _,_=>ae
def sT(b:List Nat)(o:Oper):Nat:=o.after.toList.foldl (λs e=>if Region.binds .any e then s ||| 2 ^ e.on ||| b.getD e.on 0 else s) 0
def eT:List Oper->List Nat->List Nat
 |[],b=>b| o::os,b=>eT os (b++[sT b o])
def DF(b:List Nat)(i j:Nat):Bool:=(b.getD j 0).testBit i
def pB(aos:List bh):List Nat:=(List.range aos.length).filter λj=>match aos[j]? with
 |some y=>decide (cls y.op=.w)| none=>ag
def phase(aos:List bh)(i:Nat):Nat:=i+((aos.drop i).takeWhile λy=>decide (cls y.op≠.w)).length
def EZ(b:List Nat)(aos:List bh)(i e:Nat):Bool:=
 (pB aos).all λj=>if j<e then !DF b i j else !DF b j i
def T7(b:List Nat)(aos:List bh)(j:Nat):Bool:=match aos[j]? with
 |some y=>(match y.op with| .alloc _=>ae|_=>ag)&&(pB aos).any λe=>decide (e<j)&&!DF b e j
 |none=>ag
def oe(b:List Nat)(aos:List bh):Nat:=((List.range aos.length).find? (T7 b aos)).getD aos.length
def Jt(b:List Nat)(aos:List bh)(j:Nat):Bool:=match aos[j]? with
 |some y=>y.g.isNone&&(match y.op with| .alloc _=>ae|_=>ag)&&(match y.dst with
  |some p=>(List.range aos.length).all λi=>match aos[i]? with
   |some z=>!z.rd.contains p||(pB aos).all λe=>!decide (e<j)||DF b e i
   |none=>ae
  |none=>ag)
 |none=>ae
def R_(ops:List Oper)(aos:List bh)(jU:List (Nat × Nat)):Bool:=
 let b:=eT ops []
 let n:=aos.length
 ((ops.zip (List.range n)).all λo=>o.1.after.toList.all λe=>!Region.binds .any e||decide (e.on<o.2)) &&
 ((List.range n).all λj=>(List.range j).all λi=>DF b i j||(match aos[i]?,aos[j]? with
  |some x,aa y=>x.apart y&&(yD x y||(decide (j=oe b aos)&&decide (cls x.op=.w)))
  |_,_=>ag)) &&
 Jt b aos (oe b aos) &&
 ((List.range n).all λi=>match aos[i]? with
  |some x=>if cls x.op=.r then(pB aos++[n]).all λe=>e == phase aos i||!EZ b aos i e||jU.contains (i,e)else ae
  |none=>ag)
variable(Q:Program)(σ:Nat->FuncId)
def oi(n:Nat)(ops:Array Oper)(o:Oper)(a:bh):Bool:=
 ft Q σ o a.op &&
 (match o.dst,a.dst with|some d,aa p=>p.toNat == d&&decide (d<n)|none,ab=>ae|_,_=>ag) &&
 (match o.guard,a.g with
  |some (j,w),aa (p,w')=>w == w'&&(match (ops[j]?).bind (·.dst)with|some d=>p.toNat == d&&decide (d<n)|none=>ag)
  |none,ab=>ae
  |_,_=>ag)
def nA:aD->Bool
 | .seq a b=>nA a&&nA b| .bad=>ag| _=>ae
def cP(n:Nat):Code->aD->Bool
 |_,.bad=>ae| .skip,.skip=>ae| .region _ ops g,.region aos jU=>iD (oi Q σ n ops) ops.toList aos&&(!g||R_ ops.toList aos jU)| .seq a b,.seq a' d=>cP n a a'&&cP n b d| .cond c a b,.cond u a' d=>mA σ u c&&cP n a a'&&cP n b d| .block i a,.block j a'=>i == j&&cP n a a'| .loop a,.loop a'=>cP n a a'| .rangeFunc f ps a b,.nL v s a' d=>mA σ v f&&iD (λp (q:P)=>q.toNat == p&&decide (p<n)) ps.toList s&&cP n a a'&&cP n b d
 | .exit i,.exit j=>i == j| .scope a,.scope a'=>cP n a a'&&nA a'| .label l,.label m=>l == m| .goto l,.goto m=>l == m| .ret,.ret=>ae| _,_=>ag
def Am(n:Nat):ResultVar->jZ->Bool
 | .tmp t,.tmp p=>p.toNat == t&&decide (t<n)| .cell t b,.cell p k=>p.toNat == t&&decide (t<n)&&zQ Q b k| _,_=>ag
def BA(f:Func)(a:aS):Bool:=
 f.name != "runtime.NumGoroutine" &&
 (match f.body with|some b=>cP Q σ f.ntmps b a.body|none=>ag) &&
 iD (Am Q f.ntmps) f.results.toList a.results &&
 decide (a.ps.map P.toNat=List.range a.ps.length)
end
section
def A2{α β:Type}(R:α->β->Prop)(xs:List α)(ys:List β):Prop:=
 xs.length=ys.length/\∀(i:Nat) x y,xs[i]?=aa x->ys[i]?=aa y->R x y
section A2
variable{α β:Type}{R S:α->β->Prop}{xs xs':List α}{ys ys':List β}
def A2.len(h:A2 R xs ys):xs.length=ys.length:=h.1
def A2.nil:A2 R [] []:=⟨rfl,bv⟩
def A2.mono(h:A2 R xs ys)(d:∀x y,x∈xs->R x y->S x y):A2 S xs ys:=
 ⟨h.1,λi x y b hy=>d x y (ahg b) (h.2 i x y b hy)⟩
def A2.get(h:A2 R xs ys){i:Nat}{x:α}(b:xs[i]?=aa x):∃y,ys[i]?=aa y/\R x y:=by
 have hi:i<xs.length:=(aft.1 b).1;have hy:i<ys.length:=h.1▸hi;exact⟨ys[i],BY hy,h.2 i x _ b (BY hy)⟩
def A2.cons{x:α}{y:β}(g:R x y)(h:A2 R xs ys):A2 R (x::xs) (y::ys):=
 ⟨by simp[h.1],λi a b d hb=>by
  cases i with
  |zero=>simp at d hb;subst d;subst hb;exact g
  |succ i=>simp at d hb;exact h.2 i a b d hb⟩
def A2.of_cons{x:α}{y:β}(h:A2 R (x::xs) (y::ys)):R x y/\A2 R xs ys:=
 ⟨h.2 0 x y rfl rfl,by simpa using h.1,λi a b d hb=>h.2 (i+1) a b (by simpa using d) (by simpa using hb)⟩
def A2.append(h:A2 R xs ys)(g:A2 R xs' ys'):A2 R (xs++xs') (ys++ys'):=
 ⟨by simp[h.1,g.1],λi a b d hb=>by
  by_cases hi:i<xs.length
  .rw[AI hi]at d;rw[AI (h.1▸hi)]at hb;exact h.2 i a b d hb
  .rw[agL ap]at d;rw[agL (by have:=h.1;omega),<-h.1]at hb;exact g.2 _ a b d hb⟩
theorem A2.take(h:A2 R xs ys)(n:Nat):A2 R (xs.take n) (ys.take n):=
 ⟨by simp[h.1],λi a b d hb=>by
  rw[List.getElem?_take]at d hb;split at d
  .rename_i hi;simp only[hi,if_true]at hb;exact h.2 i a b d hb
  .simp at d⟩
theorem A2.drop(h:A2 R xs ys)(n:Nat):A2 R (xs.drop n) (ys.drop n):=
 ⟨by simp[h.1],λi a b d hb=>by
  rw[ahP]at d hb;exact h.2 _ a b d hb⟩
theorem A2.map{l:Type}{g:l->α}{zs:List l}(h:A2 (λz y=>R (g z) y) zs ys):A2 R (zs.map g) ys:=
 ⟨by simpa using h.1,λi a b d hb=>by
  rw[ahF]at d;cases j:zs[i]? with
  |none=>rw[j]at d;simp at d
  |some z=>rw[j]at d;simp at d;subst d;exact h.2 i z b j hb⟩
def A2.oF(h:A2 R xs ys)(b:∀x y,R x y->S x y):A2 S xs ys:=h.mono λx y _=>b x y
end A2
inductive dJ(σ:Nat->FuncId)(F:Nat->Nat->Prop)(w:World):FC->Value->Prop
 |bool (b:Bool):dJ σ F w (.bool b) (.bool b)
 |int (k:IntKind) (n:Int):dJ σ F w (.int k n) (.int k n)
 |str (s:ByteArray):dJ σ F w (.str s) (.string s)
 |zo:dJ σ F w .zo (.pointer ab)
 |aN:dJ σ F w .aN (.slice ab 0 0)
 |es (a:Addr):dJ σ F w .es (.slice (aa a) 0 0)
 |xC:dJ σ F w .xC .nilFunc
 |sW:dJ σ F w .sW .nilIface
 |Ap:dJ σ F w .Ap (.map ab)
 |fp (cs:List FC) (off c o:Nat) (us:List Value) (hl:us.length=cs.length) (hF:∀i,i<cs.length->F c (o+i))
   (hc:∀(i:Nat) u,us[i]?=aa u->w.cell? ⟨c,o+i,ab⟩=aa u) (hr:∀(i:Nat) x u,cs[i]?=aa x->us[i]?=aa u->dJ σ F w x u) :
   dJ σ F w (.fp cs off) (.pointer (aa ⟨c,o+off,ab⟩))
 |fs (cs:List FC) (l c o cap:Nat) (us:List Value) (agv:l<=cap) (hl:us.length=cs.length) (hF:∀i,i<cs.length->F c (o+i))
   (hc:∀(i:Nat) u,us[i]?=aa u->w.cell? ⟨c,o+i,ab⟩=aa u) (hr:∀(i:Nat) x u,cs[i]?=aa x->us[i]?=aa u->dJ σ F w x u) :
   dJ σ F w (.fs cs l) (.slice (aa ⟨c,o,ab⟩) l cap)
 |VK (a:Addr) (cap:Nat):dJ σ F w (.fs [] 0) (.slice (aa a) 0 cap)
 |fn (f:Nat) (Me:List FC) (us:List Value) (hl:us.length=Me.length) (hr:∀(i:Nat) x u,Me[i]?=aa x->us[i]?=aa u->dJ σ F w x u) :
   dJ σ F w (.fn f Me) (.func (.func (σ f)) #[] us.toArray)
def dJ.mono{σ:Nat->FuncId}{F m:Nat->Nat->Prop}{w':World}(q:∀c i,F c i->m c i)
  (y:∀c i,F c i->w'.cell? ⟨c,i,ab⟩=w.cell? ⟨c,i,ab⟩) (h:dJ σ F w K u):dJ σ m w' K u:=by
 induction h with
 |fp cs off c o us hl b hc s j=>
  refine .fp cs off c o us hl (λi hi=>q _ _ (b i hi)) (λi v hu=>?_) j
  grind
 |fs cs l c o cap us g hl b hc s j=>
  refine .fs cs l c o cap us g hl (λi hi=>q _ _ (b i hi)) (λi v hu=>?_) j
  grind
 |fn f d us hl s j=>exact .fn f d us hl j| _=>constructor
def dJ.one{σ:Nat->FuncId}{F:Nat->Nat->Prop}{x:FC}{v:Value}(h:dJ σ F w x v):v.oneCell'=ae:=by
 cases h<;>rfl
structure Loc where
 c:Nat
 cap:Nat
structure Wd where
 dA:Nat->Option Loc
 F:Nat->Nat->Prop
 H:an
 w:World
 B:Nat
variable(σ:Nat->FuncId)
def iS(X:Wd):C->Value->Prop
 | .f x,v=>dJ σ X.F X.w x v
 | .ptr b j g,v=>∃L,X.dA b=aa L/\match X.H[b]? with
  |some (.box _ _)=>v=.pointer (aa ⟨L.c,j,ab⟩)| some (.dz _ _ _ e .loc)=>g<=e/\(g=e->v=.pointer (aa ⟨L.c,j,ab⟩))/\∃a,v=.pointer (aa a)| _=>False
 | .sl b o l cap g sz,v=>match X.H[b]? with
  |some (.box _ _)=>∃L,X.dA b=aa L/\l<=cap/\v=.slice (aa ⟨L.c,o,ab⟩) l cap
  |some (.dz s _ _ e st)=>g<=e/\(g=e->sz=s->match st with
    | .loc=>∃L,X.dA b=aa L/\∃k,o=k*s/\k+l<=L.cap/\v=.slice (aa ⟨L.c,o,ab⟩) l (L.cap-k)| .nil=>o=0/\l=0/\v=.slice ab 0 0
    | .es=>o=0/\l=0/\∃a,v=.slice (aa a) 0 0)/\∃a n c,v=.slice a n c
  |_=>False
 | .cl _ _,_=>False| .yl b,v=>∃L,X.dA b=aa L/\(∃f t p a u s q d,X.H[b]?=aa (.lp f t p a u s q d))/\v=.func (.yield L.c) #[] #[]| .mp b,v=>∃L,X.dA b=aa L/\(∃y,X.H[b]?=aa (.map y))/\v=.map (aa L.c)| .it b,v=>∃L,X.dA b=aa L/\(∃s p,X.H[b]?=aa (.it s p))/\v=.pointer (aa ⟨L.c,0,ab⟩)| .mi b,v=>∃L,X.dA b=aa L/\(∃m s d,X.H[b]?=aa (.Ge m s d))/\v=.pointer (aa ⟨L.c,0,ab⟩)| .bm _ _,_=>False
def CR(X:Wd):C->Value->Prop
 | .cl f b,v=>∃us,v=.func (.func (σ f)) #[] us.toArray/\A2 (iS σ X) b us| .bm f first,v=>∃us,v=.func (.func (σ f)) us.toArray #[]/\A2 (iS σ X) first us
 |x,v=>iS σ X x v
theorem iS.one{X:Wd}{x:C}{v:Value}(h:iS σ X x v):v.oneCell'=ae:=by
 cases x with
 |f x=>exact dJ.one h
 |ptr b off g=>
  obtain⟨L,_,h⟩:=h;split at h
  .subst h;rfl
  .obtain⟨_,_,a,rfl⟩:=h;rfl
  .simp_all
 |sl b o l cap g sz=>
  simp only[iS]at h;split at h
  .obtain⟨L,_,_,rfl⟩:=h;rfl
  .obtain⟨_,_,a,n,c,rfl⟩:=h;rfl
  .simp_all
 |cl f d=>exact h.elim| yl b=>obtain⟨L,_,_,rfl⟩:=h;rfl
 |mp b=>obtain⟨L,_,_,rfl⟩:=h;rfl
 |it b=>obtain⟨L,_,_,rfl⟩:=h;rfl
 |mi b=>obtain⟨L,_,_,rfl⟩:=h;rfl
 |bm f first=>exact h.elim
theorem CR.one{X:Wd}{x:C}{v:Value}(h:CR σ X x v):v.oneCell'=ae:=by
 cases x with
 |cl f j=>obtain⟨us,rfl,_⟩:=h;rfl
 |bm f first=>obtain⟨us,rfl,_⟩:=h;rfl
 |mi b=>exact iS.one σ (x:=.mi b) h| f y=>exact iS.one σ (x:=.f y) h| ptr a b c=>exact iS.one σ (x:=.ptr a b c) h| sl a b c d e g=>exact iS.one σ (x:=.sl a b c d e g) h| yl b=>exact iS.one σ (x:=.yl b) h| mp b=>exact iS.one σ (x:=.mp b) h| it b=>exact iS.one σ (x:=.it b) h
def CR.Ta{X:Wd}(x:iS σ X h u):CR σ X h u:=by
 cases h with
 |cl f b=>exact x.elim| bm f first=>exact x.elim
 |_=>exact x
def kg(X:Wd):V->Value->Prop
 | .top,_=>True| .c x,v=>CR σ X x v| .a xs,v=>∃us,v=.agg us.toArray/\A2 (CR σ X) xs us| .t _,_=>False
def VR(X:Wd):V->Value->Prop
 | .t b,v=>∃us,v=.tuple us.toArray/\A2 (kg σ X) b us| x,v=>kg σ X x v
def VR.Ta{X:Wd}(h:kg σ X m u):VR σ X m u:=by
 cases m with
 |t b=>exact h.elim| _=>exact h
def rowAt(w:World)(c:Nat)(us:List Value):Prop:=
 ∃e b,w.heap[c]?=aa (.cells us.toArray e b)/\∀i,i<=us.length->¬(b.1<=i/\i<b.2)
def pG(X X':Wd)(b:Nat):Prop:=
 ∀cV,X.H[b]?=aa cV->∃blk',X'.H[b]?=aa blk'/\match cV,blk' with
  | .box _ _,.box _ _=>∀L,X.dA b=aa L->X'.dA b=aa L| .dz s _ _ e st,.dz g _ _ j st'=>s=g/\((e=j/\st=st'/\∀L,X.dA b=aa L->X'.dA b=aa L)\/(e<j/\st'=.loc/\∃L,X'.dA b=aa L))| .map _,.map _=>∀L,X.dA b=aa L->X'.dA b=aa L| .it _ _,.it _ _=>∀L,X.dA b=aa L->X'.dA b=aa L| .dH _,.dH _=>∀L,X.dA b=aa L->X'.dA b=aa L| .Ge m s _,.Ge u g _=>(m=u/\s=g)/\∀L,X.dA b=aa L->X'.dA b=aa L| .lp f t p a c _ _ d,.lp q x v a' l _ _ d'=>(f=q/\t=x/\p=v/\a=a'/\c=l/\d=d')/\∀L,X.dA b=aa L->X'.dA b=aa L| _,_=>False
structure Ext(N:Nat)(X X':Wd):Prop where
 B:X'.B=X.B
 F:∀c i,X.F c i->X'.F c i
 tS:∀c i,X'.F c i->X.F c i\/X.w.heap.size<=c\/∃b L,X.dA b=aa L/\L.c=c
 fw:∀c i,X.F c i->X'.w.cell? ⟨c,i,ab⟩=X.w.cell? ⟨c,i,ab⟩
 bS:∀b,b<N->pG X X' b
 Bp:∀b L,X'.dA b=aa L->(∃b0 L0,X.dA b0=aa L0/\L0.c=L.c)\/X.w.heap.size<=L.c
 size:X.w.heap.size<=X'.w.heap.size
 os:X'.w.os=X.w.os
 tape:X'.w.tape=X.w.tape
 output:X'.w.output=X.w.output
 frame:∀k,k<X.w.heap.size->(∀b L,X.dA b=aa L->L.c≠k)->X'.w.heap[k]?=X.w.heap[k]?
structure tQ(N:Nat)(X X':Wd):Prop where
 F:∀c i,X.F c i->X'.F c i
 fw:∀c i,X.F c i->X'.w.cell? ⟨c,i,ab⟩=X.w.cell? ⟨c,i,ab⟩
 bS:∀b,b<N->pG X X' b
def Ext.W{X X':Wd}(h:Ext N X X'):tQ N X X':=⟨h.F,h.fw,h.bS⟩
def pG.refl(X:Wd)(b:Nat):pG X X b:=λcV h=>⟨cV,h,by cases cV<;>simp⟩
def pG.trans{X Y l:Wd}(h:pG X Y b)(k:pG Y l b):pG X l b:=by
 intro cV hb;obtain⟨blk',j,h1⟩:=h cV hb;obtain⟨d,g,h2⟩:=k blk' j;refine⟨d,g,?_⟩
 grind
theorem Ext.refl(N:Nat)(X:Wd):Ext N X X:=
 ⟨rfl,λ_ _ h=>h,λ_ _ h=>.inl h,λ_ _ _=>rfl,λb _=>pG.refl X b,λb L h=>.inl ⟨b,L,h,rfl⟩,agQ _,rfl,rfl,rfl,λ_ _ _=>rfl⟩
theorem Ext.trans{N:Nat}{X Y g:Wd}(h:Ext N X Y)(k:Ext N Y g):Ext N X g where
 B:=k.B.trans h.B
 F:=λc i d=>k.F c i (h.F c i d)
 tS:=λc i d=>by
  rcases k.tS c i d with h1|h1|⟨b,L,hb,rfl⟩
  .exact h.tS c i h1
  .exact .inr (.inl (ahd h.size h1))
  .rcases h.Bp b L hb with⟨b0,L0,h0,h1⟩|h1
   .grind
   .omega
 fw:=λc i d=>(k.fw c i (h.F c i d)).trans (h.fw c i d)
 bS:=λb hb=>(h.bS b hb).trans (k.bS b hb)
 Bp:=λb L hb=>by
  rcases k.Bp b L hb with⟨b0,L0,h0,h1⟩|h1
  .rcases h.Bp b0 L0 h0 with⟨b1,q,h2,h3⟩|h2
   .grind
   .omega
  .exact .inr (ahd h.size h1)
 size:=ahd h.size k.size
 os:=k.os.trans h.os
 tape:=k.tape.trans h.tape
 output:=k.output.trans h.output
 frame:=λj l m=>by
  rw[k.frame j (ah2 l h.size) (λb L hb hc=>?_)]
  .exact h.frame j l m
  .rcases h.Bp b L hb with⟨b0,L0,h0,h1⟩|h1
   .grind
   .omega
def Ext.mono{X Y:Wd}(h:Ext N X Y)(d:l<=N):Ext l X Y:=
 {h with bS:=λb hb=>h.bS b (ah2 hb d) }
def iS.under{X:Wd}{x:C}(h:iS σ X x u):x.ic X.H.length=ae:=by
 have lt:∀(b:Nat) cV,X.H[b]?=aa cV->b<X.H.length:=λb cV hb=>(aft.1 hb).1;cases x with
 |f x=>rfl
 |ptr b off j=>
  obtain⟨L,_,h⟩:=h;split at h
  .rename_i hb;simpa[C.ic]using lt _ _ hb
  .rename_i hb;simpa[C.ic]using lt _ _ hb
  .simp_all
 |sl b o l cap j sz=>
  simp only[iS]at h;split at h
  .rename_i hb;simpa[C.ic]using lt _ _ hb
  .rename_i hb;simpa[C.ic]using lt _ _ hb
  .simp_all
 |cl f g=>exact h.elim| yl b=>obtain⟨L,_,⟨f,t,p,a,v,s,q,d,hb⟩,rfl⟩:=h;simpa[C.ic]using lt _ _ hb
 |mp b=>obtain⟨L,_,⟨es,hb⟩,rfl⟩:=h;simpa[C.ic]using lt _ _ hb
 |it b=>obtain⟨L,_,⟨s,p,hb⟩,rfl⟩:=h;simpa[C.ic]using lt _ _ hb
 |mi b=>obtain⟨L,_,⟨m,s,d,hb⟩,rfl⟩:=h;simpa[C.ic]using lt _ _ hb
 |bm f first=>exact h.elim
def iS.ug{X X':Wd}(v:tQ N X X'){x:C}(hu:x.ic N=ae)(h:iS σ X x u):iS σ X' x u:=by
 cases x with
 |f x=>exact dJ.mono v.F v.fw h
 |ptr b off F=>
  obtain⟨L,j,h⟩:=h;have y:=v.bS b (by simpa[C.ic]using hu);split at h
  .rename_i cs fl hb;obtain⟨blk',g,h1⟩:=y _ hb;cases blk'<;>simp only at h1;exact⟨L,h1 L j,by rw[g];exact h⟩
  .rename_i s cs fl e hb;obtain⟨blk',g,h1⟩:=y _ hb;cases blk'<;>simp only at h1;obtain⟨rfl,⟨rfl,rfl,h2⟩|⟨h2,rfl,B,z⟩⟩:=h1
   .exact⟨L,h2 L j,by rw[g];exact h⟩
   .exact⟨B,z,by rw[g];exact⟨ap,λh3=>by omega,h.2.2⟩⟩
  .simp_all
 |sl b o l cap F sz=>
  simp only[iS]at h ⊢;have y:=v.bS b (by simpa[C.ic]using hu);split at h
  .rename_i cs fl hb;obtain⟨L,j,h⟩:=h;obtain⟨blk',g,h1⟩:=y _ hb
   grind
  .rename_i s cs fl e st hb;obtain⟨blk',g,h1⟩:=y _ hb
   grind
  .simp_all
 |cl f A=>exact h.elim
 |yl b=>
  obtain⟨L,j,⟨f,t,p,a,H,s,q,d,hb⟩,rfl⟩:=h;obtain⟨blk',g,h1⟩:=v.bS b (by simpa[C.ic]using hu) _ hb;cases blk'<;>simp only at h1;exact⟨L,h1.2 L j,⟨_,_,_,_,_,_,_,_,g⟩,rfl⟩
 |mp b=>
  obtain⟨L,j,⟨es,hb⟩,rfl⟩:=h;obtain⟨blk',g,h1⟩:=v.bS b (by simpa[C.ic]using hu) _ hb;cases blk'<;>simp only at h1;exact⟨L,h1 L j,⟨_,g⟩,rfl⟩
 |it b=>
  obtain⟨L,j,⟨s,p,hb⟩,rfl⟩:=h;obtain⟨blk',g,h1⟩:=v.bS b (by simpa[C.ic]using hu) _ hb;cases blk'<;>simp only at h1;exact⟨L,h1 L j,⟨_,_,g⟩,rfl⟩
 |mi b=>
  obtain⟨L,j,⟨m,s,d,hb⟩,rfl⟩:=h;obtain⟨blk',g,h1⟩:=v.bS b (by simpa[C.ic]using hu) _ hb;cases blk'<;>simp only at h1;exact⟨L,h1.2 L j,⟨_,_,_,g⟩,rfl⟩
 |bm f first=>exact h.elim
theorem CR.ug{N:Nat}{X X':Wd}(j:tQ N X X'){x:C}{v:Value}(hu:x.under N=ae)(h:CR σ X x v):CR σ X' x v:=by
 cases x with
 |cl f m=>
  obtain⟨us,rfl,h⟩:=h;refine⟨us,rfl,h.mono λy u hy l=>iS.ug σ j ?_ l⟩;exact ag9.1 hu y hy
 |bm f first=>
  obtain⟨us,rfl,h⟩:=h;refine⟨us,rfl,h.mono λy u hy l=>iS.ug σ j ?_ l⟩;exact ag9.1 hu y hy
 |mi b=>exact iS.ug σ j (x:=.mi b) hu h| f y=>exact iS.ug σ j (x:=.f y) hu h| ptr a b c=>exact iS.ug σ j (x:=.ptr a b c) hu h| sl a b c d e g=>exact iS.ug σ j (x:=.sl a b c d e g) hu h| yl b=>exact iS.ug σ j (x:=.yl b) hu h| mp b=>exact iS.ug σ j (x:=.mp b) hu h| it b=>exact iS.ug σ j (x:=.it b) hu h
end
variable{Y p:Wd}{M:Loc}
section
variable(Q:Program)(σ:Nat->FuncId)
theorem CR.under{X:Wd}{x:C}{v:Value}(h:CR σ X x v):x.under X.H.length=ae:=by
 cases x with
 |cl f j=>
  obtain⟨us,rfl,h⟩:=h;simp only[C.under,ag9];intro y hy;obtain⟨i,hi⟩:=aia hy;obtain⟨u,_,hu⟩:=h.get hi;exact iS.under σ hu
 |bm f j=>
  obtain⟨us,rfl,h⟩:=h;simp only[C.under,ag9];intro y hy;obtain⟨i,hi⟩:=aia hy;obtain⟨u,_,hu⟩:=h.get hi;exact iS.under σ hu
 |mi b=>exact iS.under σ (x:=.mi b) h| f y=>rfl| ptr a b c=>exact iS.under σ (x:=.ptr a b c) h| sl a b c d e g=>exact iS.under σ (x:=.sl a b c d e g) h| yl b=>exact iS.under σ (x:=.yl b) h| mp b=>exact iS.under σ (x:=.mp b) h| it b=>exact iS.under σ (x:=.it b) h
def CR.fK(b:tQ Y.H.length Y p){x:C}(h:CR σ Y x u):CR σ p x u:=CR.ug σ b (CR.under σ h) h
theorem A2.fK{X X':Wd}(b:tQ X.H.length X X'){xs:List C}{us:List Value}(h:A2 (CR σ X) xs us):A2 (CR σ X') xs us:=
 h.oF λ_ _ h=>CR.fK σ b h
theorem kg.fK{X X':Wd}(b:tQ X.H.length X X'){x:V}{v:Value}(h:kg σ X x v):kg σ X' x v:=by
 cases x with
 |top=>trivial| c x=>exact CR.fK σ b h| a xs=>obtain⟨us,rfl,h⟩:=h;exact⟨us,rfl,A2.fK σ b h⟩
 |t d=>exact h.elim
theorem VR.fK{X X':Wd}(b:tQ X.H.length X X'){x:V}{v:Value}(h:VR σ X x v):VR σ X' x v:=by
 cases x with
 |t d=>obtain⟨us,rfl,h⟩:=h;exact⟨us,rfl,h.oF λ_ _ h=>kg.fK σ b h⟩
 |top=>trivial| c x=>exact kg.fK σ (x:=.c x) b h| a xs=>exact kg.fK σ (x:=.a xs) b h
def RR(X:Wd)(aT:T)(tmps:Array Value):Prop:=∀p,VR σ X (aT.get p) (tmps.getD p.toNat undef)
theorem RR.fK{X X':Wd}(b:tQ X.H.length X X'){aT:T}{tmps:Array Value}(h:RR σ X aT tmps):RR σ X' aT tmps:=λp=>VR.fK σ b (h p)
def CR.ext'{X:Wd}(b:Ext X.H.length X Y)(x:CR σ X h u):CR σ Y h u:=CR.fK σ b.W x
def A2.ext'{X:Wd}(b:Ext X.H.length X Y)(h:A2 (CR σ X) f B):A2 (CR σ Y) f B:=A2.fK σ b.W h
def kg.ext'{X:Wd}(b:Ext X.H.length X Y)(h:kg σ X m u):kg σ Y m u:=kg.fK σ b.W h
def VR.ext'{X:Wd}(b:Ext X.H.length X Y)(h:VR σ X m u):VR σ Y m u:=VR.fK σ b.W h
def RR.ext'{X:Wd}(b:Ext X.H.length X Y){tmps:Array Value}(h:RR σ X r tmps):RR σ Y r tmps:=RR.fK σ b.W h
def T.uo(t:T)(p q:P)(v:V):(t.set p v).get q=if p=q then v else t.get q:=by
 induction t generalizing p q with
 |e=>
  induction p generalizing q with
  |h=>cases q<;>simp[T.set,T.get]
  |o p b=>cases q<;>simp[T.set,T.get,b]
  |i p b=>cases q<;>simp[T.set,T.get,b]
 |n l j r d g=>cases p<;>cases q<;>simp[T.set,T.get,d,g]
def P.toNat_inj{p q:P}(h:p.toNat=q.toNat):p=q:=by
 induction p generalizing q with
 |h=>cases q<;>simp[P.toNat]at h ⊢
 |o p b=>
  cases q with
  |h=>simp[P.toNat]at h| o q=>simp only[P.toNat]at h;rw[b (q:=q) ap]
  |i q=>simp[P.toNat]at h;omega
 |i p b=>
  cases q with
  |h=>simp[P.toNat]at h| o q=>simp[P.toNat]at h;omega| i q=>simp only[P.toNat]at h;rw[b (q:=q) ap]
theorem RR.set{X:Wd}{aT:T}{tmps:Array Value}(h:RR σ X aT tmps){p:P}(g:p.toNat<tmps.size){v:V}{u:Value}(j:VR σ X v u) :
  RR σ X (aT.set p v) (tmps.setIfInBounds p.toNat u):=by
 intro q;rw[T.uo];by_cases d:p=q
 .simp_all
 .have b:p.toNat≠q.toNat:=λe=>d (P.toNat_inj e);simpa[d,Array.getD_eq_getD_getElem?,Array.getElem?_setIfInBounds_ne b]using h q
def dB.of:dB->LoopState
 | .ready=>.ready| .busy=>.busy| .done=>.done| .exhausted=>.exhausted
def BB(n:Nat):Option aD->Option Code->Prop
 |none,ab=>True| some a,aa c=>cP Q σ n c a=ae| _,_=>False
def BR(X:Wd):bV->Loc->Prop
 | .box cs fl,L=>∃us,rowAt X.w L.c us/\A2 (CR σ X) cs us/\∀i,fl<=i->¬ X.F L.c i| .dz sz cs fl _ st,L=>st=.loc/\∃us rest,rowAt X.w L.c (us++rest)/\A2 (CR σ X) cs us/\(us++rest).length=L.cap*sz/\0<sz/\(∃n,cs.length=n*sz)/\∀i,fl<=i->¬ X.F L.c i| .map x,L=>∃g:List MapEntry,X.w.heap[L.c]?=aa (.map g.toArray g.length)/\A2 (λe m=>dJ σ X.F X.w e.1 m.key/\kg σ X (mV e.2) m.val) x g/\∀(i:Nat) m,g[i]?=aa m->m.born=i
 | .Ge m j done,L=>∃(B:Loc) (z:Array Nat) (st:Nat),X.dA m=aa B/\(∃x,X.H[m]?=aa (.map x))/\X.w.heap[L.c]?=aa (.mapIter (aa B.c) j z st)/\(if done then z=#[0]/\st=1 else z=#[])| .it s y,L=>X.w.heap[L.c]?=aa (.stringIter s y)| .dH b,L=>X.w.heap[L.c]?=aa (.deferred (if b then aa []else ab))
 | .lp f tmps ps as bd st u d,L=>∃(n:Nat) (us:Array Value) (v:Array Tmp) (as' l:Code) (pend':Option Code) (A:Loc),
   X.w.heap[L.c]?=aa (.loop { state:=st.of,pending:=pend',fn:=σ f,tmps:=us,params:=v,assign:=as',body:=l,defers:=A.c })/\
   n<=us.size/\RR σ X tmps us/\iD (λp (q:P)=>q.toNat == p&&decide (p<n)) v.toList ps=ae/\cP Q σ n as' as=ae/\cP Q σ n l bd=ae/\BB Q σ n u pend'/\X.dA d=aa A/\∃o,X.H[d]?=aa (.dH o)
def BR.ug(g:tQ Y.H.length Y p){cV:bV}(l:p.w.heap[M.c]?=Y.w.heap[M.c]?)(H:∀i,p.F M.c i->Y.F M.c i)(h:BR Q σ Y cV M):BR Q σ p cV M:=by
 cases cV with
 |box cs fl=>
  obtain⟨us,⟨e,fr,h1,h2⟩,h3,h4⟩:=h;exact⟨us,⟨e,fr,l.trans h1,h2⟩,A2.fK σ g h3,λi hi x=>h4 i hi (H i x)⟩
 |dz sz cs fl K st=>
  obtain⟨y,us,rest,⟨e,fr,h1,h2⟩,h3,h4,h5,h6,h7⟩:=h;exact⟨y,us,rest,⟨e,fr,l.trans h1,h2⟩,A2.fK σ g h3,h4,h5,h6,λi hi x=>h7 i hi (H i x)⟩
 |map es=>
  obtain⟨u,h1,h2,h3⟩:=h;exact⟨u,l.trans h1,h2.oF λ_ _ h=>⟨dJ.mono g.F g.fw h.1,kg.fK σ g h.2⟩,h3⟩
 |Ge m A done=>
  obtain⟨F,J,st,h1,⟨es,h2⟩,h3,h4⟩:=h;obtain⟨blk',j,h5⟩:=g.bS m (aft.1 h2).1 _ h2;cases blk'<;>simp only at h5;exact⟨F,J,st,h5 F h1,⟨_,j⟩,l.trans h3,h4⟩
 |it s pos=>exact l.trans h| dH b=>exact l.trans h
 |lp f tmps ps as bd st I d=>
  obtain⟨n,us,z,as',v,pend',B,h1,h2,h3,h4,h5,h6,h7,h8,o,h9⟩:=h;have hd:d<Y.H.length:=(aft.1 h9).1;obtain⟨blk',j,q⟩:=g.bS d hd _ h9;cases blk'<;>simp only at q;exact⟨n,us,z,as',v,pend',B,l.trans h1,h2,RR.fK σ g h3,h4,h5,h6,h7,q B h8,_,j⟩
def BR.ext(g:Ext Y.H.length Y p){cV:bV}(d:p.w.heap[M.c]?=Y.w.heap[M.c]?)(b:∀i,p.F M.c i->Y.F M.c i)(h:BR Q σ Y cV M):BR Q σ p cV M:=BR.ug Q σ g.W d b h
structure SR(X:Wd):Prop where
 br:∀b L,X.dA b=aa L->X.B<=L.c/\L.c<X.w.heap.size/\∃cV,X.H[b]?=aa cV/\BR Q σ X cV L
 inj:∀b b' L L',X.dA b=aa L->X.dA b'=aa L'->L.c=L'.c->b=b'
 fb:∀c i,X.F c i->c<X.w.heap.size
def SR.step(s:SR Q σ Y)(q:Ext Y.H.length Y p)(b0:Nat)(x:∀b,b≠b0->p.H[b]?=Y.H[b]?)(d:∀b,b≠b0->p.dA b=Y.dA b)
  (y:∀b L,b≠b0->Y.dA b=aa L->p.w.heap[L.c]?=Y.w.heap[L.c]?) (v:∀b L,b≠b0->Y.dA b=aa L->∀i,p.F L.c i->Y.F L.c i)
  (h0:∀L,p.dA b0=aa L->Y.B<=L.c/\L.c<p.w.heap.size/\(∃cV,p.H[b0]?=aa cV/\BR Q σ p cV L)/\∀b j,b≠b0->Y.dA b=aa j->j.c≠L.c)
  (m:∀c i,p.F c i->c<p.w.heap.size):SR Q σ p where
 br:=λb L hb=>by
  rw[q.B];by_cases h:b=b0
  .simp_all
  .rw[d b h]at hb;obtain⟨h1,h2,cV,h3,h4⟩:=s.br b L hb;exact⟨h1,ah2 h2 q.size,cV,(x b h).trans h3,BR.ext Q σ q (y b L h hb) (v b L h hb) h4⟩
 fb:=λc i h=>m c i h
 inj:=λb l L j hb g hc=>by
  by_cases h:b=b0<;>by_cases u:l=b0
  .omega
  .grind
  .grind
  .rw[d b h]at hb;rw[d l u]at g;exact s.inj b l L j hb g hc
end
section
variable{Q:Program}{σ:Nat->FuncId}{X:Wd}
def bT{d:TypeDesc}(h:Q.underlying t=aa d)(w:World):(underlying t).run Q w=.ok d w:=by
 simp[underlying,h]
def dZ(h:eF Q t b=ae)(w:World):(Go.sizeOf t).run Q w=.ok b w:=by
 unfold eF at h;cases hi:Q.info? t with
 |none=>simp[hi]at h| some i=>simp[hi]at h;simp[Go.sizeOf,typeInfo,hi,h]
def Du(h:qR Q t b=ae)(w:World):∃i,(typeInfo t).run Q w=.ok i w/\i.bytes=b:=by
 unfold qR at h;cases hi:Q.info? t with
 |none=>simp[hi]at h| some i=>simp[hi]at h;exact⟨i,by simp[typeInfo,hi],h⟩
def J_(h:zQ Q t U=ae)(w:World):(isAgg t).run Q w=.ok U.isSome w/\∀k,U=aa k->eF Q t k=ae:=by
 unfold zQ at h;cases b:Q.underlying t with
 |none=>simp[b]at h
 |some d=>
  cases d<;>cases U<;>simp_all [isAgg,bT b]
def fS(c o k:Nat):(⟨c,o,ab⟩:Addr).add k=⟨c,o+k,ab⟩:=by unfold Addr.add;split<;>simp_all
def fI(h:rowAt w l B)(i:Nat):w.cell? ⟨l,i,ab⟩=B[i]?:=by
 obtain⟨e,b,h,_⟩:=h;simp[World.cell?,h]
def Hm(h:rowAt w l B)(hi:N<B.length):w.frozen? ⟨l,N,ab⟩=ag:=by
 obtain⟨e,d,h,b⟩:=h;have:=b N (Nat.le_of_lt hi);simp only[World.frozen?,h];simp_all
def yC(B:SR Q σ X)(g:CR σ X h u){cs:List C}(x:az X.H h=aa cs) :
  ∃c o us,u=.pointer (aa ⟨c,o,ab⟩)/\(∀(i:Nat) v,us[i]?=aa v->X.w.cell? ⟨c,o+i,ab⟩=aa v)/\A2 (CR σ X) cs us:=by
 cases h with
 |ptr b d I=>
  obtain⟨L,A,g⟩:=g;obtain⟨_,_,cV,y,l⟩:=B.br b L A;simp only[az,y]at x;rw[y]at g;cases cV with
  |box cs' fl=>
   simp only[AT]at x;subst x;subst g;obtain⟨us,m,q,_⟩:=l;exact⟨L.c,d,us.drop d,rfl,λi v j=>by rw[fI m];rw[ahP]at j;exact j,q.drop d⟩
  |dz s cs' fl e st=>
   cases st<;>simp only at x g
   .split at x
    .rename_i F;simp only[AT]at x;subst x;obtain⟨_,g,_⟩:=g;have g:=g F;subst g;obtain⟨_,us,rest,m,q,_⟩:=l;refine⟨L.c,d,us.drop d,rfl,λi v j=>?_,q.drop d⟩;rw[fI m];rw[ahP]at j
     grind
    .simp_all
   all_goals exact g.elim
  |_=>simp at x
 |f h=>
  cases h with
  |fp cs' d=>
   simp only[az,AT]at x;subst x;cases g with
   |fp _ _ c o us H J K m=>
    refine⟨c,o+d,us.drop d,rfl,λi v j=>?_,A2.map ⟨by simp[H],λi h v z j=>?_⟩⟩
    .grind
    .rw[ahP]at z j;exact m _ h v z j
  |_=>simp[az]at x
 |_=>simp[az]at x
def F5(y:zQ Q t U=ae){us:List Value}
  (q:∀(i:Nat) u,us[i]?=aa u->w.cell? ⟨N,b+i,ab⟩=aa u) (d:A2 (CR σ X) f us) (o:aX U f=aa v) :
  ∃u,(loadVar t ⟨N,b,ab⟩).run Q w=.ok u w/\VR σ X v u:=by
 obtain⟨l,m⟩:=J_ y w;cases U with
 |none=>
  cases f with
  |nil=>simp[aX]at o
  |cons x f=>
   simp only[aX,AT]at o;subst o;obtain⟨u,z,g⟩:=d.get (i:=0) (x:=x) rfl;have:=q 0 u z;simp only[Nat.add_zero]at this;exact⟨u,by simp[loadVar,l,this],g⟩
 |some U=>
  simp only[aX]at o;split at o
  .rename_i B;simp only[AT]at o;subst o;have s:(us.take U).length=U:=by have:=d.len;simp;omega
   have:=run_loadCells_list (P:=Q) w ⟨N,b,ab⟩ (us.take U) (λj v A=>by
    rw[fS]
    grind)
   rw[s]at this;refine⟨.agg (us.take U).toArray,?_,⟨us.take U,rfl,d.take U⟩⟩;simp[loadVar,l,dZ (m U rfl),this]
  .simp at o
def ZC(q:SR Q σ X)(s:zQ Q t U=ae)(y:VR σ X m u)(h:aV X.H U m=aa v) :
  ∃p,(Instr.loadAt t u).run Q X.w=.ok p X.w/\VR σ X v p:=by
 cases m with
 |c m=>
  simp only[aV,ahh]at h;obtain⟨cs,b,d⟩:=h;obtain⟨c,o,us,rfl,g,j⟩:=yC q y b;obtain⟨p,l,x⟩:=F5 s g j d;exact⟨p,by simp[Instr.loadAt,Instr.sureAddr,l],x⟩
 |_=>simp[aV]at h
end
section
variable{Q:Program}{σ:Nat->FuncId}{X:Wd}
theorem VR.int{k:IntKind}{n:Int}{u:Value}(h:VR σ X (.c (.f (.int k n))) u):u=.int k n:=by cases (h:dJ σ X.F X.w (.int k n) u);rfl
theorem VR.bool{b:Bool}{u:Value}(h:VR σ X (.c (.f (.bool b))) u):u=.bool b:=by cases (h:dJ σ X.F X.w (.bool b) u);rfl
theorem VR.str{s:ByteArray}{u:Value}(h:VR σ X (.c (.f (.str s))) u):u=.string s:=by cases (h:dJ σ X.F X.w (.str s) u);rfl
def VR.mkInt(k:IntKind)(n:Int):VR σ X (V.int k n) (.int k n):=dJ.int k n
def VR.zh(b:Bool):VR σ X (V.bool b) (.bool b):=dJ.bool b
def VR.mkStr(s:ByteArray):VR σ X (.c (.f (.str s))) (.string s):=dJ.str s
theorem gH{α β:Type}{f:α->β->Bool}:∀{xs:List α} {ys:List β},iD f xs ys=ae->A2 (λx y=>f x y=ae) xs ys
 |[],[],_=>A2.nil
 |x::xs,y::ys,h=>by
  simp only[iD,IS]at h;exact A2.cons h.1 (gH h.2)
 |[],_::_,h=>by simp[iD]at h
 |_::_,[],h=>by simp[iD]at h
def Ia{F:Nat->Nat->Prop}(h:mK1 K u=ae):dJ σ F w K u:=by
 unfold mK1 at h;split at h
 .simp only[beq_iff_eq]at h;subst h;exact .bool _
 .simp only[IS,decide_eq_true_eq]at h;obtain⟨rfl,rfl⟩:=h;exact .int _ _
 .simp only[decide_eq_true_eq]at h;subst h;exact .str _
 .exact .zo
 .exact .aN
 .exact .xC
 .exact .sW
 .exact .Ap
 .simp at h
def ac'(h:mK v u=ae):VR σ X v u:=by
 unfold mK at h;split at h
 .exact Ia h
 .refine⟨_,bv,(gH h).oF λy w b=>?_⟩;split at b
  .exact Ia b
  .simp at b
 .trivial
 .simp at h
def cQ(b:RR σ X r e.tmps){y:Operand}(h:mA σ z y=ae):VR σ X (z.ev r) (e.eval y):=by
 unfold mA at h;split at h
 .rename_i p t;simp only[beq_iff_eq]at h;subst h;exact b p
 .exact ac' h
 .simp only[beq_iff_eq]at h;subst h;exact dJ.fn _ [] [] rfl bv
 .simp at h
def qC(j:RR σ X r e.tmps){ys:Array Operand}(h:S_ σ L ys=ae):A2 (VR σ X) (fA r L) (ys.map e.eval).toList:=by
 have:=(gH h).oF λx y b=>cQ j b;refine⟨by simpa[fA]using this.len,λi v u g d=>?_⟩;simp only[fA,ahF,OF]at g;simp only[Array.toList_map,ahF,OF]at d;obtain⟨x,l,rfl⟩:=g;obtain⟨y,m,rfl⟩:=d;exact this.2 i x y l m
def ac_(g:RR σ X r e.tmps){x:Option Arg}{y:Option Operand}(h:mO σ x y=ae) :
  (x=ab/\y=ab)\/∃b d,x=aa b/\y=aa d/\VR σ X (b.ev r) (e.eval d):=by
 unfold mO at h;split at h
 .simp
 .exact .inr ⟨_,_,rfl,rfl,cQ g h⟩
 .simp at h
def TM{op:BinOp}{k:IntKind}{x y:Int}(h:tV op k x y=aa v)(w:World) :
  ∃u,(binOp op 0 (.int k x) (.int k y)).run Q w=.ok u w/\VR σ X v u/\∀t,binOp op t (.int k x) (.int k y)=binOp op 0 (.int k x) (.int k y):=by
 unfold tV at h;split at h<;>(try split at h)<;>(try simp only[AT,reduceCtorEq]at h)<;>(try subst h)
 all_goals first
  |(refine⟨_,?_,VR.mkInt _ _,λ_=>by simp[binOp]⟩;simp[binOp,Op.intArith,Op.intBits];done)
  |(refine⟨_,?_,VR.zh _,λ_=>by simp[binOp]⟩;simp[binOp,Op.intCmp];done)
  |(rename_i b;refine⟨_,?_,VR.mkInt _ _,λ_=>by simp[binOp]⟩;simp[binOp,Op.intDiv,b];done)
def TN{op:BinOp}{x y:ByteArray}(h:Y3 op x y=aa v)(w:World)(t:TypeId) :
  ∃u,(binOp op t (.string x) (.string y)).run Q w=.ok u w/\VR σ X v u:=by
 unfold Y3 at h;split at h<;>(try split at h)<;>(try simp only[AT,reduceCtorEq]at h)<;>(try subst h)
 all_goals first
  |exact⟨_,by simp[binOp,Op.stringOp],VR.zh _⟩
  |(rename_i b;exact⟨_,by simp only[binOp,Op.stringOp];rw[cC b];rfl,VR.mkStr _⟩)
  |skip
end
section
variable{Q:Program}{σ:Nat->FuncId}{X:Wd}
theorem xG:∀{d:List CK} {xs ys:List C} {b:Bool},wN d xs ys=aa b->xs.length=d.length/\ys.length=d.length
 |[],[],[],_,_=>⟨rfl,rfl⟩
 |k::d,x::xs,y::ys,b,h=>by
  simp only[wN]at h;split at h
  .rename_i g;have:=xG g;simp[this]
  .simp at h
 |[],_::_,_,_,h=>by simp[wN]at h
 |[],[],_::_,_,h=>by simp[wN]at h
 |_::_,[],_,_,h=>by simp[wN]at h
 |_::_,_::_,[],_,h=>by simp[wN]at h
theorem yK:∀{d g:List CK} {xs ys:List C} {b:Bool},wN (d++g) xs ys=aa b->
  ∃b1 j,wN d (xs.take d.length) (ys.take d.length)=aa b1/\wN g (xs.drop d.length) (ys.drop d.length)=aa j/\b=(b1&&j)
 |[],g,xs,ys,b,h=>⟨ae,b,rfl,by simpa using h,bv⟩
 |k::d,g,[],ys,b,h=>by simp[wN]at h
 |k::d,g,x::xs,[],b,h=>by simp[wN]at h
 |k::d,g,x::xs,y::ys,b,h=>by
  simp only[List.cons_append,wN]at h;split at h
  .rename_i a c q s;simp only[AT]at h;obtain⟨b1,j,l,m,rfl⟩:=yK s;refine⟨a&&b1,j,?_,by simpa using m,by rw[<-h,Bool.and_assoc]⟩;simp[wN,q,l]
  .simp at h
def CKv:CK->Value->Value->Bool->Prop
 | .bool,u,v,b=>∃p q,u=.bool p/\v=.bool q/\b=(p == q)| .int,u,v,b=>∃j p q,u=.int j p/\v=.int j q/\b=(p == q)| .str,u,v,b=>∃p q,u=.string p/\v=.string q/\b=(p == q)
def xH{b:CK}{y:C}(x:Q3 b h y=aa k){v:Value}(d:CR σ X h u)(g:CR σ X y v):CKv b u v k:=by
 unfold Q3 at x;split at x
 .simp only[AT]at x;exact⟨_,_,VR.bool (σ:=σ) (X:=X) d,VR.bool (σ:=σ) (X:=X) g,x.symm⟩
 .split at x
  .rename_i j;subst j;simp only[AT]at x;exact⟨_,_,_,VR.int (σ:=σ) (X:=X) d,VR.int (σ:=σ) (X:=X) g,x.symm⟩
  .simp at x
 .simp only[AT]at x;exact⟨_,_,VR.str (σ:=σ) (X:=X) d,VR.str (σ:=σ) (X:=X) g,x.symm⟩
 .simp at x
theorem Fx:∀(d:Nat) (t:TypeId) (Y:List CK),kz Q d t=aa Y->∀(D:Nat),d<=D->∀(us vs:List Value) (g:Nat) (xs ys:List C) (b:Bool) (w:World),
  wN Y xs ys=aa b->A2 (CR σ X) xs ((us.drop g).take Y.length)->A2 (CR σ X) ys ((vs.drop g).take Y.length)->
  ∃a c,(part t us.toArray g).run Q w=.ok a w/\(part t vs.toArray g).run Q w=.ok c w/\(Op.equalIn D t a c).run Q w=.ok b w
 |0,_,_,h,_,_,_,_,_,_,_,_,_,_,_,_=>by simp[kz]at h
 |d+1,t,Y,h,0,hD,_,_,_,_,_,_,_,_,_,_=>by omega
 |d+1,t,Y,h,D+1,hD,us,vs,g,xs,ys,b,w,W,hx,hy=>by
  have hl:=xG W;have s:∀(k:CK),Y=[k]->(∀K,Q.underlying t=aa K->(match K with| .struct _| .array _ _=>False|_=>True))->(∃K,Q.underlying t=aa K)->
    ∃x y u v,xs=[x]/\ys=[y]/\Q3 k x y=aa b/\CR σ X x u/\CR σ X y v/\(part t us.toArray g).run Q w=.ok u w/\(part t vs.toArray g).run Q w=.ok v w:=by
   intro k H c9 m;subst H;obtain⟨K,m⟩:=m;have c9:=c9 K m
   match xs,ys,hl with
   |[x],[y],_=>
    simp only[wN]at W;split at W
    .rename_i a c ha hc;simp only[AT]at hc W;subst hc;simp at W;subst W;obtain⟨u,i6,i7⟩:=hx.get (i:=0) (x:=x) rfl;obtain⟨v,i8,i9⟩:=hy.get (i:=0) (x:=y) rfl;have e1:us[g]?=aa u:=by simpa[List.getElem?_take,ahP]using i6
     have e2:vs[g]?=aa v:=by simpa[List.getElem?_take,ahP]using i8
     have b_:(isAgg t).run Q w=.ok ag w:=by
      cases K<;>simp_all [isAgg,bT m]
     exact⟨x,y,u,v,rfl,rfl,ha,i7,i9,by simp[part,b_,e1],by simp[part,b_,e2]⟩
    .simp_all
  unfold kz at h;split at h
  .rename_i m;split at h
   .simp only[AT]at h;obtain⟨x,y,u,v,rfl,rfl,F,h1,h2,O,h4⟩:=s .bool h.symm (λK z=>by rw[m]at z;cases z;trivial) ⟨_,m⟩;obtain⟨p,q,rfl,rfl,rfl⟩:=xH F h1 h2;exact⟨_,_,O,h4,run_equalIn_bool' w D t _ _ m⟩
   .simp at h
  .rename_i j m;split at h
   .simp only[AT]at h;obtain⟨x,y,u,v,rfl,rfl,F,h1,h2,O,h4⟩:=s .int h.symm (λK z=>by rw[m]at z;cases z;trivial) ⟨_,m⟩;obtain⟨j',p,q,rfl,rfl,rfl⟩:=xH F h1 h2;exact⟨_,_,O,h4,run_equalIn_int w D t _ _ _ _ m⟩
   .simp at h
  .rename_i m;split at h
   .simp only[AT]at h;obtain⟨x,y,u,v,rfl,rfl,F,h1,h2,O,h4⟩:=s .str h.symm (λK z=>by rw[m]at z;cases z;trivial) ⟨_,m⟩;obtain⟨p,q,rfl,rfl,rfl⟩:=xH F h1 h2;exact⟨_,_,O,h4,by rw[run_equalIn_string w D t _ _ m,beq_toListBytes]⟩
   .simp at h
  .rename_i fs m;split at h
   .simp at h
   .rename_i h_;split at h
    .rename_i a_ hf;split at h
     .rename_i c_;simp only[AT]at h;subst h;have N:(isAgg t).run Q w=.ok ae w:=by simp[isAgg,bT m]
      have U:Q.underlying t=aa (.struct (Q.fieldsOf t)):=by simp[Program.fieldsOf,m]
      have g_:Q.fieldsOf t=fs:=by rw[m]at U;simpa using U.symm
      refine⟨.agg ((us.drop g).take a_.length).toArray,.agg ((vs.drop g).take a_.length).toArray,?_,?_,?_⟩
      .simp[part,N,dZ c_,ais]
      .simp[part,N,dZ c_,ais]
      .rw[run_equalIn_struct w D t _ _ U (by simpa using h_),g_];have key:∀(l:List Field) (k:Nat) (L:List CK) (b2:Bool),kz.uh (kz Q d) k l=aa L->∀(A B:List Value) (I J:List C),
         wN L (I.drop k) (J.drop k)=aa b2->A2 (CR σ X) I A->A2 (CR σ X) J B->(Op.eqFields D A.toArray B.toArray l).run Q w=.ok b2 w:=by
        intro l;induction l with
        |nil=>
         intro k L b2 H A B I J F _ _;simp only[kz.uh,AT]at H;subst H;have:=xG F;simp only[ah7,List.length_eq_zero_iff]at this;rw[this.1,this.2]at F;simp only[wN,AT]at F;subst F;rfl
        |cons f l ih=>
         intro k L b2 H A B I J F d9 d_;simp only[kz.uh]at H;split at H
         .rename_i S;obtain⟨hn,ho⟩:=S;subst ho;split at H
          .rename_i M O;split at H
           .rename_i r hr;simp only[AT]at H;subst H;obtain⟨b1,b3,e_,f_,rfl⟩:=yK F;obtain⟨a,c,h5,h6,h7⟩:=Fx d f.type M O D ap A B f.offset _ _ b1 w e_ (by have:=(d9.drop f.offset).take M.length;simpa using this) (by have:=(d_.drop f.offset).take M.length;simpa using this);have i_:=ih (f.offset+M.length) r b3 hr A B I J (by simpa[List.drop_drop]using f_) d9 d_;simp only[Op.eqFields,hn,ne_eq,not_false_eq_true,if_true,Sem.run_bind,h5,h6,h7,Result.andThen_ok];cases b1<;>simp[i_]
           .simp_all
          .simp_all
         .simp_all
       exact key fs.toList 0 a_ b hf _ _ xs ys (by simpa using W) hx hy
     .simp_all
    .simp_all
  .simp at h
def aeU:NU->Value->Bool->Prop
 | .ptr,u,b=>∃a,u=.pointer a/\b=a.isNone| .sl,u,b=>∃a n c,u=.slice a n c/\b=a.isNone| .fn,u,b=>(u=.nilFunc/\b=ae)\/∃f p q,u=.func f p q/\b=ag| .ifc,u,b=>u=.nilIface/\b=ae| _,_,_=>False
def uz{b:NU}(d:CR σ X h u)(x:isNil X.H b h=aa k):aeU b u k:=by
 unfold isNil at x;split at x<;>try simp only[AT,reduceCtorEq]at x
 .cases (d:dJ σ X.F X.w .zo u);subst x;exact⟨_,rfl,rfl⟩
 .cases (d:dJ σ X.F X.w (.fp _ _) u);subst x;exact⟨_,rfl,rfl⟩
 .obtain⟨L,_,d⟩:=d;subst x;split at d
  .subst d;exact⟨_,rfl,rfl⟩
  .obtain⟨_,_,a,rfl⟩:=d;exact⟨_,rfl,rfl⟩
  .simp_all
 .cases (d:dJ σ X.F X.w .aN u);subst x;exact⟨_,_,_,rfl,rfl⟩
 .cases (d:dJ σ X.F X.w .es u);subst x;exact⟨_,_,_,rfl,rfl⟩
 .cases (d:dJ σ X.F X.w (.fs _ _) u)<;>(subst x;exact⟨_,_,_,rfl,rfl⟩)
 .rename_i m o l c q sz;simp only[CR,iS]at d;split at x
  .rename_i g;rw[g]at d;obtain⟨L,_,_,rfl⟩:=d;simp only[AT]at x;subst x;exact⟨_,_,_,rfl,rfl⟩
  .rename_i s cs fl e st g;rw[g]at d;split at x
   .rename_i j;have:=d.2.1 j.1 j.2;simp only[AT]at x;subst x;cases st with
    |loc=>obtain⟨L,_,b,_,_,rfl⟩:=this;exact⟨_,_,_,rfl,rfl⟩
    |nil=>obtain⟨_,_,rfl⟩:=this;exact⟨_,_,_,rfl,rfl⟩
    |es=>obtain⟨_,_,a,rfl⟩:=this;exact⟨_,_,_,rfl,rfl⟩
   .simp at x
  .simp at x
 .cases (d:dJ σ X.F X.w .xC u);subst x;exact .inl ⟨rfl,rfl⟩
 .cases (d:dJ σ X.F X.w (.fn _ _) u);subst x;exact .inr ⟨_,_,_,rfl,rfl⟩
 .obtain⟨us,rfl,_⟩:=d;subst x;exact .inr ⟨_,_,_,rfl,rfl⟩
 .obtain⟨us,rfl,_⟩:=d;subst x;exact .inr ⟨_,_,_,rfl,rfl⟩
 .cases (d:dJ σ X.F X.w .sW u);subst x;exact⟨rfl,rfl⟩
def Fw{b:List CK}(h:kz Q l t=aa b):eF Q t b.length=ae:=by
 cases l with
 |zero=>simp[kz]at h
 |succ l=>
  unfold kz at h
  grind
def Q2(b:Q.underlying t=aa (.pointer O))(D:Nat)(a:Option Addr)(w:World):(Op.equalIn (D+1) t (.pointer a) (.pointer ab)).run Q w=.ok a.isNone w:=by
 cases a<;>simp[Op.equalIn,bT b]
def T_(b:Q.underlying t=aa (.slice O))(D:Nat)(a:Option Addr)(n c:Nat)(w:World):(Op.equalIn (D+1) t (.slice a n c) (.slice ab 0 0)).run Q w=.ok a.isNone w:=by
 cases a<;>simp[Op.equalIn,bT b]
def T9{p r:Array TypeId}(b:Q.underlying t=aa (.func p r k))(D:Nat)(w:World):(Op.equalIn (D+1) t .nilFunc .nilFunc).run Q w=.ok ae w:=by
 simp[Op.equalIn,bT b]
def T8{p r:Array TypeId}(b:Q.underlying t=aa (.func p r k))(D:Nat)(f:Fn)(x y:Array Value)(w:World):(Op.equalIn (D+1) t (.func f x y) .nilFunc).run Q w=.ok ag w:=by
 simp[Op.equalIn,bT b]
def T'{d:Array (String × TypeId)}(b:Q.underlying t=aa (.interface d))(D:Nat)(w:World):(Op.equalIn (D+1) t .nilIface .nilIface).run Q w=.ok ae w:=by
 simp[Op.equalIn,bT b]
def MT{x y:Operand}(b:(wT x||wT y)=ae)(op:BinOp)(w:World):(eqGuard op t x y .nilIface .nilIface).run Q w=.ok () w:=by
 simp only[Bool.or_eq_true]at b;rcases b with b|b
 .cases x<;>simp only[wT,ahb]at b;cases op<;>rfl
 .cases y<;>simp only[wT,ahb]at b;cases x<;>cases op<;>rfl
def Zi{b:NU}{x y:Operand}(M:mEq Q b t x y=ae){d:Value}(s:VR σ X v u)(l:VR σ X m d)
  (h:NX X.H b v m=aa k) (neg:Bool) (w:World) :
  (do eqGuard (if neg then .neq else .eql) t x y u d;binOp (if neg then .neq else .eql) t u d).run Q w=.ok (.bool (if neg then !k else k)) w:=by
 have g:(binOp .eql t u d=do pure (.bool (<-Op.equal t u d)))->(binOp .neq t u d=do pure (.bool (!(<-Op.equal t u d))))->
   (∀op,(eqGuard op t x y u d).run Q w=.ok () w)->(Op.equalIn 10000 t u d).run Q w=.ok k w->
   (do eqGuard (if neg then .neq else .eql) t x y u d;binOp (if neg then .neq else .eql) t u d).run Q w=.ok (.bool (if neg then !k else k)) w:=by
  intro B F z O;cases neg
  .simp only[ahb,if_false,Sem.run_bind,z,Result.andThen_ok,B,Op.equal,Op.maxDepth,O,Sem.run_pure]
  .simp only[if_true,Sem.run_bind,z,Result.andThen_ok,F,Op.equal,Op.maxDepth,O,Sem.run_pure]
 unfold mEq at M;unfold NX at h;split at M
 .rename_i j;split at h<;>try simp only[reduceCtorEq]at *
  obtain⟨p,q,rfl,rfl,rfl⟩:=xH h s l;exact g rfl rfl (λop=>by cases op<;>rfl) (run_equalIn_bool' w 9999 t _ _ j)
 .rename_i j;split at h<;>try simp only[reduceCtorEq]at *
  obtain⟨a,rfl,rfl⟩:=uz s h;cases (l:dJ σ X.F X.w .zo d);exact g rfl rfl (λop=>by cases op<;>rfl) (Q2 j 9999 a w)
 .rename_i j;split at h<;>try simp only[reduceCtorEq]at *
  obtain⟨a,n,c,rfl,rfl⟩:=uz s h;cases (l:dJ σ X.F X.w .aN d);exact g rfl rfl (λop=>by cases op<;>rfl) (T_ j 9999 a n c w)
 .rename_i j;split at h<;>try simp only[reduceCtorEq]at *
  cases (l:dJ σ X.F X.w .xC d);rcases uz s h with⟨rfl,rfl⟩|⟨f,p,q,rfl,rfl⟩
  .exact g rfl rfl (λop=>by cases op<;>rfl) (T9 j 9999 w)
  .exact g rfl rfl (λop=>by cases op<;>rfl) (T8 j 9999 f p q w)
 .rename_i j;split at h<;>try simp only[reduceCtorEq]at *
  cases (l:dJ σ X.F X.w .sW d);obtain⟨rfl,rfl⟩:=uz s h;refine g rfl rfl (λop=>?_) ?_
  .have L:(wT x||wT y)=ae:=M;exact MT L op w
  .exact T' j 9999 w
 .rename_i o H j;obtain⟨xs,ys,rfl,rfl,h⟩:∃xs ys,v=.a xs/\m=.a ys/\wN H xs ys=aa k:=by
   grind
  simp only[IS,decide_eq_true_eq,aii]at M;obtain⟨Y,W⟩:=M;obtain⟨us,rfl,S⟩:=s;obtain⟨I,rfl,U⟩:=l;have r:=xG h;have A:=Fw Y;have N:(isAgg t).run Q w=.ok ae w:=by simp[isAgg,bT j]
  have e:us.take H.length=us:=agY (by have:=S.len;omega);have i:I.take H.length=I:=agY (by have:=U.len;omega);obtain⟨a,c,B,F,z⟩:=Fx 20 t H Y 10000 ap us I 0 _ _ k w h (by simpa[e]using S) (by simpa[i]using U);have J:a=.agg us.toArray:=by
   simp[part,N,dZ A,ais,e]at B;exact B.symm
  have K:c=.agg I.toArray:=by
   simp[part,N,dZ A,ais,i]at F;exact F.symm
  subst J;subst K;cases neg
  .simp only[ahb,if_false,Sem.run_bind,run_eqGuard_agg w _ t x y _ _ W,Result.andThen_ok,run_eql_struct,z]
  .simp only[if_true,Sem.run_bind,run_eqGuard_agg w _ t x y _ _ W,Result.andThen_ok,run_neq_struct,z]
 .simp at M
end
section
variable{Q:Program}{σ:Nat->FuncId}{X:Wd}
def me(h:VR σ X v u){i:Int}(hi:fE v=aa i):∃k,u=.int k i:=by
 unfold fE at hi;split at hi
 .simp only[AT]at hi;subst hi;exact⟨_,VR.int h⟩
 .simp at hi
def vT(h:VR σ X v u)(i:Gd v N=aa b)(q:N<=l)(d:BoundsCode)(w:World) :
  b<=N/\(Instr.sliceBound u l d).run Q w=.ok b w:=by
 unfold Gd at i;split at i
 .rename_i j g;obtain⟨k,rfl⟩:=me h g;split at i
  .rename_i m;simp only[AT]at i;subst i;refine⟨ap,?_⟩;have:0<=j/\j<=(l:Int):=ii
   simp[Instr.sliceBound,asIntOf,this]
  .simp at i
 .simp at i
def OR(X:Wd)(σ:Nat->FuncId):Option V->Option Value->Prop
 |none,ab=>True| some x,aa u=>VR σ X x u| _,_=>False
def e9{lo hi mx:Option V}{d j mx':Option Value}(v:OR X σ lo d)(A:OR X σ hi j)(H:OR X σ mx mx'){len m:Nat}
  (c:cG len b lo hi mx=aa (l,N,m)) {cap:Nat} (K:b<=cap) (S:len<=b) (s:Bool) (w:World) :
  (Instr.sliceBounds s len cap d j mx').run Q w=.ok (l,N,if mx.isSome then m else cap) w/\l<=N/\N<=m/\m<=b:=by
 unfold cG at c;cases mx with
 |some z=>
  cases mx'<;>simp only[OR]at H;rename_i W;simp only[ajr,ahh]at c;obtain⟨U,h,c⟩:=c;obtain⟨O,F⟩:=vT (Q:=Q) H h K (if s then .slice3Acap else .slice3Alen) w;cases hi with
  |none=>simp at c
  |some y=>
   cases j<;>simp only[OR]at A;simp only[ahz,ahh]at c;obtain⟨M,I,c⟩:=c;obtain⟨J,g⟩:=vT (Q:=Q) A I (agQ _) .slice3B w;cases lo with
   |none=>
    cases d<;>simp only[OR]at v;simp at c;obtain⟨rfl,rfl,rfl⟩:=c;simp[Instr.sliceBounds,F,g];omega
   |some x=>
    cases d<;>simp only[OR]at v;simp only[ahh]at c;obtain⟨L,q,c⟩:=c;obtain⟨B,u⟩:=vT (Q:=Q) v q (agQ _) .slice3C w;simp at c;obtain⟨rfl,rfl,rfl⟩:=c;simp[Instr.sliceBounds,F,g,u];omega
 |none=>
  cases mx'<;>simp only[OR]at H;cases hi with
  |none=>
   cases j<;>simp only[OR]at A;cases lo with
   |none=>
    cases d<;>simp only[OR]at v;simp at c;obtain⟨rfl,rfl,rfl⟩:=c;simp[Instr.sliceBounds];omega
   |some x=>
    cases d<;>simp only[OR]at v;simp only[ajr,ahz,ahh]at c;obtain⟨L,q,c⟩:=c;obtain⟨B,u⟩:=vT (Q:=Q) v q (agQ _) .sliceB w;simp at c;obtain⟨rfl,rfl,rfl⟩:=c;simp[Instr.sliceBounds,u];omega
  |some y=>
   cases j<;>simp only[OR]at A;simp only[ajr,ahz,ahh]at c;obtain⟨M,I,c⟩:=c;obtain⟨J,g⟩:=vT (Q:=Q) A I K (if s then .sliceAcap else .sliceAlen) w;cases lo with
   |none=>
    cases d<;>simp only[OR]at v;simp at c;obtain⟨rfl,rfl,rfl⟩:=c;simp[Instr.sliceBounds,g];omega
   |some x=>
    cases d<;>simp only[OR]at v;simp only[ahh]at c;obtain⟨L,q,c⟩:=c;obtain⟨B,u⟩:=vT (Q:=Q) v q (agQ _) .sliceB w;simp at c;obtain⟨rfl,rfl,rfl⟩:=c;simp[Instr.sliceBounds,g,u];omega
def gA(g:Q.underlying t=aa (.slice O))(h:eF Q O N=ae){a:Option Addr}{len cap:Nat}{lo hi mx:Option Value}{m:Nat}
  (d:(Instr.sliceBounds ae len cap lo hi mx).run Q w=.ok (l,b,m) w) :
  (Instr.sliceAt t (.slice a len cap) lo hi mx).run Q w=.ok (.slice (if m=l then a else a.map (·.add (l*N))) (b-l) (m-l)) w:=by
 simp[Instr.sliceAt,Instr.slice,bT g,d,dZ h]
def B'(hS:SR Q σ X){sz:Nat}(H:Q.underlying t=aa (.slice O))(g:eF Q O sz=ae)(N:VR σ X m u)
  {lo hi mx:Option V} {d_ c_ mx':Option Value} (I:OR X σ lo d_) (J:OR X σ hi c_) (K:OR X σ mx mx') (h:cJ X.H sz m lo hi mx=aa v) :
  ∃r,(Instr.sliceAt t u d_ c_ mx').run Q X.w=.ok r X.w/\VR σ X v r:=by
 unfold cJ at h;split at h
 .
  split at h
  .rename_i r y;obtain⟨l,q,x⟩:=r;simp only[AT]at h;subst h;cases (N:dJ σ X.F X.w .aN u);obtain⟨j,e,S,U⟩:=e9 (Q:=Q) I J K y (agQ 0) (agQ 0) ae X.w;refine⟨_,gA H g j,?_⟩;have:l=0/\q=0/\x=0:=ii
   obtain⟨rfl,rfl,rfl⟩:=this;simp;exact dJ.aN
  .simp at h
 .split at h
  .rename_i r y;obtain⟨l,q,x⟩:=r;simp only[AT]at h;subst h;cases (N:dJ σ X.F X.w .es u);obtain⟨j,e,S,U⟩:=e9 (Q:=Q) I J K y (agQ 0) (agQ 0) ae X.w;refine⟨_,gA H g j,?_⟩;have:l=0/\q=0/\x=0:=ii
   obtain⟨rfl,rfl,rfl⟩:=this;simp;exact dJ.es _
  .simp at h
 .
  rename_i cs n;split at h
  .rename_i l q x y;have h_:(∃(c o cap:Nat) (us:List Value),n<=cap/\us.length=cs.length/\(∀i,i<cs.length->X.F c (o+i))/\(∀(i:Nat) u,us[i]?=aa u->X.w.cell? ⟨c,o+i,ab⟩=aa u)/\
     (∀(i:Nat) m u,cs[i]?=aa m->us[i]?=aa u->dJ σ X.F X.w m u)/\u=.slice (aa ⟨c,o,ab⟩) n cap)\/(cs=[]/\n=0/\∃a cap,u=.slice (aa a) 0 cap):=by
    cases (N:dJ σ X.F X.w (.fs cs n) u)with
    |fs _ _ c o cap us d hl hF hc hr=>exact .inl ⟨c,o,cap,us,d,hl,hF,hc,hr,rfl⟩| VK a cap=>exact .inr ⟨rfl,rfl,a,cap,rfl⟩
   rcases h_ with⟨c,o,cap,us,d,hl,hF,hc,hr,rfl⟩|⟨rfl,rfl,a,cap,rfl⟩
   .obtain⟨j,e,S,U⟩:=e9 (Q:=Q) I J K y d (agQ n) ae X.w;split at h
    .rename_i A;simp only[AT]at h;subst h;rw[ct A.1]at j;obtain⟨_,rfl⟩:=A;refine⟨_,gA H g j,?_⟩;rw[show q-x=0 by omega,show x-x=0 by omega,ct rfl];exact dJ.es _
    .simp only[AT]at h;subst h;refine⟨_,gA H g j,?_⟩;generalize W:(if mx.isSome=ae then x else cap)=M;have e_:q<=M:=by rw[<-W];split<;>omega
     by_cases B:M=l
     .rw[ct B,show q-l=0 by omega];simp;exact dJ.VK _ _
     .rw[cC B];simp only[ahs,fS];refine dJ.fs _ _ c (o+l*sz) _ ((us.drop (l*sz)).take ((q-l)*sz)) ap (by simp[hl]) (λi hi=>?_) (λi u H=>?_) (λi m u N H=>?_)
      .have:=hF (l*sz+i) (by simp at hi;omega);rwa[show o+(l*sz+i)=o+l*sz+i by omega]at this
      .grind
      .grind
   .obtain⟨j,e,S,U⟩:=e9 (Q:=Q) I J K y (Nat.zero_le cap) (agQ 0) ae X.w;have:l=0/\q=0/\x=0:=ii
    obtain⟨rfl,rfl,rfl⟩:=this;refine⟨_,gA H g j,?_⟩;split at h
    .rename_i A;simp only[AT]at h;subst h;simp[A.1];exact dJ.es _
    .simp only[AT]at h;subst h;have ho:∀M,∃a',(if M=0 then aa a else Option.map (λ(m:Addr)=>m.add (0*sz)) (aa a))=aa a':=by intro M;split<;>exact⟨_,rfl⟩
     obtain⟨a',Y⟩:=ho (if mx.isSome=ae then 0 else cap);rw[Y];simp;exact dJ.VK _ _
  .simp at h
 .
  rename_i b o n cap ep s;simp only[VR,kg,CR,iS]at N;split at h
  .rename_i z;rw[z]at N;obtain⟨L,hL,d,rfl⟩:=N;split at h
   .rename_i l q x y;obtain⟨j,e,S,U⟩:=e9 (Q:=Q) I J K y (agQ cap) d ae X.w;have hm:(if mx.isSome=ae then x else cap)=x:=by
     split
     .rfl
     .rename_i hn;cases mx with
      |some _=>simp at hn| none=>unfold cG at y;cases hi<;>cases lo<;>simp[ahh]at y<;>omega
    rw[hm]at j;refine⟨_,gA H g j,?_⟩;split at h
    .rename_i B;simp only[AT]at h;subst h;rw[ct B,show q-l=0 by omega,show x-l=0 by omega];exact dJ.es _
    .rename_i B;simp only[AT]at h;subst h;rw[cC B];simp only[ahs,fS,VR,kg,CR,iS,z]
     grind
   .simp at h
  .rename_i F cs fl O st z;rw[z]at N;split at h
   .rename_i hc;obtain⟨rfl,rfl,rfl⟩:=hc;have b_:=N.2.1 rfl rfl;cases st with
    |loc=>
     obtain⟨L,hL,k,rfl,hk,rfl⟩:=b_;simp only at h;split at h
     .rename_i l q x y;obtain⟨j,e,S,U⟩:=e9 (Q:=Q) I J K y (show n<=L.cap-k by omega) (agQ n) ae X.w;refine⟨_,gA H g j,?_⟩;generalize W:(if mx.isSome=ae then x else L.cap-k)=M;have e_:q<=M:=by rw[<-W];split<;>omega
      split at h
      .rename_i A;simp only[AT]at h;subst h;rw[ct A.1]at W;subst W;obtain⟨_,rfl⟩:=A;rw[show q-x=0 by omega,show x-x=0 by omega,ct rfl];exact dJ.es _
      .split at h
       .rename_i A;simp only[AT]at h;subst h;rw[show q-l=0 by omega];have ho:∃a',(if M=l then aa (⟨L.c,k*F,ab⟩:Addr)else Option.map (λ(m:Addr)=>m.add (l*F)) (aa ⟨L.c,k*F,ab⟩))=aa a':=by split<;>exact⟨_,rfl⟩
        obtain⟨a',Y⟩:=ho;rw[Y];exact dJ.VK _ _
       .rename_i i6;split at h
        .split at h
         .simp only[AT]at h;subst h;simp only[VR,kg,CR,iS,z];simp
         .simp_all
        .rename_i hn;simp only[AT]at h;subst h;rw[cC hn]at W;have a_:(if M=l then aa (⟨L.c,k*F,ab⟩:Addr)else Option.map (λ(m:Addr)=>m.add (l*F)) (aa ⟨L.c,k*F,ab⟩))=aa ⟨L.c,k*F+l*F,ab⟩:=by
          split
          .grind
          .simp[fS]
         rw[a_];simp only[VR,kg,CR,iS,z];refine⟨agQ _,λ_ _=>⟨L,hL,k+l,by rw[ahi],ap,by rw[<-W];congr 1;omega⟩,_,_,_,rfl⟩
     .
      cases mx with
      |some _=>simp at h
      |none=>
       simp only at h;split at h
       .rename_i l q x y;split at h
        .rename_i g_;simp only[AT]at h;subst h;obtain⟨_,_,cV,c9,f_⟩:=hS.br b L hL;rw[z]at c9;cases c9;obtain⟨-,us,rest,-,hA,d9,i8,-,-⟩:=f_;have i7:cs.length<=L.cap*F:=by rw[<-d9,agM,<-hA.1];omega
         have d:(cs.length-k*F) / F<=L.cap-k:=by
          refine Nat.div_le_of_le_mul ?_;rw[Nat.mul_sub,ai1 F L.cap,ai1 F k];omega
         obtain⟨j,e,S,U⟩:=e9 (Q:=Q) I J K y d g_.1 ae X.w;refine⟨_,gA H g j,?_⟩;simp only[Option.isSome_none,ahb,if_false,ahs,fS];rw[cC ap];simp only[VR,kg,CR,iS,z]
         grind
        .simp_all
       .simp_all
    |nil=>
     obtain⟨rfl,rfl,rfl⟩:=b_;simp only at h;split at h
     .rename_i r y;obtain⟨l,q,x⟩:=r;simp only[AT]at h;subst h;obtain⟨j,e,S,U⟩:=e9 (Q:=Q) I J K y (agQ 0) (agQ 0) ae X.w;refine⟨_,gA H g j,?_⟩;have:l=0/\q=0/\x=0:=ii
      obtain⟨rfl,rfl,rfl⟩:=this;simp;exact dJ.aN
     .simp_all
    |es=>
     obtain⟨rfl,rfl,a,rfl⟩:=b_;simp only at h;split at h
     .rename_i r y;obtain⟨l,q,x⟩:=r;simp only[AT]at h;subst h;obtain⟨j,e,S,U⟩:=e9 (Q:=Q) I J K y (agQ 0) (agQ 0) ae X.w;refine⟨_,gA H g j,?_⟩;have:l=0/\q=0/\x=0:=ii
      obtain⟨rfl,rfl,rfl⟩:=this;simp;exact dJ.es _
     .simp_all
   .simp at h
  .simp at h
 .simp at h
end
section
variable{Q:Program}{σ:Nat->FuncId}{X:Wd}
def NI(A:Q.underlying t=aa .string)(B:VR σ X m u){lo hi:Option V}{d b:Option Value}(g:OR X σ lo d)(j:OR X σ hi b)
(h:Dy m lo hi=aa v) (w:World):∃r,(Instr.sliceAt t u d b ab).run Q w=.ok r w/\VR σ X v r:=by
 unfold Dy at h;split at h
 .rename_i s;have:=VR.str B;subst this;split at h
  .rename_i l z x y;simp only[AT]at h;subst h;obtain⟨q,_⟩:=e9 (Q:=Q) (mx:=ab) (mx':=ab) g j trivial y (agQ _) (agQ _) ag w;exact⟨.string (s.extract l z),by simp[Instr.sliceAt,Instr.slice,bT A,q],VR.mkStr _⟩
  .simp at h
 .simp at h
def NH(hS:SR Q σ X){sz:Nat}(H:Q.underlying t=aa (.array b O))(F:eF Q O sz=ae)(z:VR σ X m u)
  {lo hi mx:Option V} {y s mx':Option Value} (I:OR X σ lo y) (J:OR X σ hi s) (K:OR X σ mx mx') (h:qO X.H b sz m lo hi mx=aa v) :
  ∃r,(Instr.sliceAt t u y s mx').run Q X.w=.ok r X.w/\VR σ X v r:=by
 have run:∀(a:Addr) l j x,(Instr.sliceBounds ag b b y s mx').run Q X.w=.ok (l,j,x) X.w->
   (Instr.sliceAt t (.pointer (aa a)) y s mx').run Q X.w=.ok (.slice (aa (if x=l then a else a.add (l*sz))) (j-l) (x-l)) X.w:=by
  intro a l j x q;simp[Instr.sliceAt,bT H,Instr.sureAddr,q,dZ F]
 have mm:∀{l j x:Nat},cG b b lo hi mx=aa (l,j,x)->(if mx.isSome=ae then x else b)=x:=by
  intro l j x q;split
  .rfl
  .rename_i W;cases mx with
   |some _=>simp at W| none=>unfold cG at q;cases hi<;>cases lo<;>simp[ahh]at q<;>omega
 unfold qO at h;split at h
 .rename_i n g Y;obtain⟨L,hL,z⟩:=z;split at h
  .rename_i cs fl B;rw[B]at z;simp only at z;subst z;split at h
   .rename_i l j x q;obtain⟨A,M,N,e⟩:=e9 (Q:=Q) I J K q (agQ b) (agQ b) ag X.w;rw[mm q]at A;split at h
    .refine⟨_,run _ _ _ _ A,?_⟩;split at h
     .rename_i d;simp only[AT]at h;subst h;rw[ct d,show j-l=0 by omega,show x-l=0 by omega];exact dJ.es _
     .rename_i d;simp only[AT]at h;subst h;rw[cC d];simp only[fS,VR,kg,CR,iS,B]
      grind
    .simp_all
   .simp at h
  .simp at h
 .rename_i cs g;cases (z:dJ σ X.F X.w (.fp cs g) u)with
  |fp _ _ c o us U S hc hr=>
   split at h
   .rename_i l j x q;obtain⟨A,M,N,e⟩:=e9 (Q:=Q) I J K q (agQ b) (agQ b) ag X.w;rw[mm q]at A;split at h
    .refine⟨_,run _ _ _ _ A,?_⟩;split at h
     .rename_i d;simp only[AT]at h;subst h;rw[ct d,show j-l=0 by omega,show x-l=0 by omega];exact dJ.es _
     .rename_i d;simp only[AT]at h;subst h;rw[cC d,fS];refine dJ.fs _ _ c (o+g+l*sz) _ ((us.drop (g+l*sz)).take ((j-l)*sz)) ap (by simp[U]) (λi hi=>?_) (λi u H=>?_) (λi m u z H=>?_)
      .have:=S (g+l*sz+i) (by simp at hi;omega);rwa[show o+(g+l*sz+i)=o+g+l*sz+i by omega]at this
      .grind
      .grind
    .simp_all
   .simp at h
 .simp at h
def Hk{l:Array Field}(J:Q.underlying t=aa (.struct l)){f:Field}(F:l[N]?=aa f)(j:(Q.info? f.type).any (λN=>N.size != 0)=ae)
(g:VR σ X m u) (h:rn f.offset m=aa v) (w:World):∃r,(Instr.fieldAt t u N).run Q w=.ok r w/\VR σ X v r:=by
 have run:∀a:Addr,(Instr.fieldAt t (.pointer (aa a)) N).run Q w=.ok (.pointer (aa (a.add f.offset))) w:=by
  intro a;cases hi:Q.info? f.type with
  |none=>simp[hi]at j
  |some K=>
   simp[hi]at j;simp[Instr.fieldAt,bT J,F,Instr.sureAddr,fieldPlace,Go.sizeOf,typeInfo,hi,j]
 unfold rn at h;split at h
 .rename_i b o M;simp only[AT]at h;subst h;obtain⟨L,x,g⟩:=g;split at g
  .rename_i d;subst g;exact⟨_,run _,L,x,by rw[d,fS]⟩
  .rename_i s cs fl e d;obtain⟨q,y,a,rfl⟩:=g;refine⟨_,run _,L,x,?_⟩;rw[d];refine⟨q,λB=>?_,_,rfl⟩;have:=y B;simp only[Value.pointer.injEq,AT]at this;rw[this,fS]
  .simp_all
 .rename_i cs o;simp only[AT]at h;subst h;cases (g:dJ σ X.F X.w (.fp cs o) u)with
  |fp _ _ c o' us H z A I=>
   refine⟨_,run _,?_⟩;rw[fS,Nat.add_assoc];exact dJ.fp cs _ c o' us H z A I
 .simp at h
def Hr{sz:Nat}(J:eF Q O sz=ae)
  (H:(U=ab/\Q.underlying t=aa (.slice O))\/∃n,U=aa n/\Q.underlying t=aa (.array n O)) {i:V} {j:Value} (x:VR σ X m u) (hi:VR σ X i j)
(h:bO X.H sz U m i=aa v):∃r,(Instr.indexAt t u j).run Q X.w=.ok r X.w/\VR σ X v r:=by
 unfold bO at h;split at h
 .simp at h
 rename_i k hk;obtain⟨q,rfl⟩:=me hi hk;split at h
 .rename_i N;have z:U=ab->∀(a:Addr) (l c:Nat),k<l->(Instr.indexAt t (.slice (aa a) l c) (.int q k)).run Q X.w=.ok (.pointer (aa (a.add (k.toNat*sz)))) X.w:=by
   intro e a l c g;rcases H with⟨_,H⟩|⟨n,I,_⟩
   .simp[Instr.indexAt,asIntOf,bT H,N,g,dZ J]
   .simp_all
  have y:∀n,U=aa n->∀(a:Addr),k<n->(Instr.indexAt t (.pointer (aa a)) (.int q k)).run Q X.w=.ok (.pointer (aa (a.add (k.toNat*sz)))) X.w:=by
   intro n e a g;rcases H with⟨I,_⟩|⟨n',I,H⟩
   .simp_all
   .rw[e]at I;simp only[AT]at I;subst I;simp[Instr.indexAt,asIntOf,bT H,Instr.sureAddr,N,g,dZ J]
  split at h
  .rename_i b o l c Y s;split at h
   .rename_i g;simp only[VR,kg,CR,iS]at x;split at h
    .rename_i d;rw[d]at x;obtain⟨L,B,_,rfl⟩:=x;simp only[AT]at h;subst h;exact⟨_,z rfl _ _ _ g,L,B,by rw[d,fS]⟩
    .rename_i s' cs fl W d;rw[d]at x;split at h
     .rename_i F;simp only[AT]at h;subst h;obtain⟨L,B,kq,_,_,rfl⟩:=x.2.1 F.1 F.2;exact⟨_,z rfl _ _ _ g,L,B,by rw[d,fS];exact⟨x.1,λ_=>rfl,_,rfl⟩⟩
     .simp_all
    .simp_all
   .simp at h
  .rename_i cs l;split at h
   .rename_i g;simp only[AT]at h;subst h;cases (x:dJ σ X.F X.w (.fs cs l) u)with
    |fs _ _ c o cap us S A K F M=>
     refine⟨_,z rfl _ _ _ g,?_⟩;rw[fS];exact dJ.fp cs _ c o us A K F M
    |VK a cap=>simp at g;omega
   .simp at h
  .rename_i n b o Y;split at h
   .rename_i g;simp only[AT]at h;subst h;obtain⟨L,B,x⟩:=x;split at x
    .rename_i d;subst x;exact⟨_,y n rfl _ g,L,B,by rw[d,fS]⟩
    .rename_i s cs fl W d;obtain⟨h2,h3,a,rfl⟩:=x;refine⟨_,y n rfl _ g,L,B,?_⟩;rw[d];refine⟨h2,λhe=>?_,_,rfl⟩;have:=h3 he;simp only[Value.pointer.injEq,AT]at this;rw[this,fS]
    .simp_all
   .simp at h
  .rename_i n cs o;split at h
   .rename_i g;simp only[AT]at h;subst h;cases (x:dJ σ X.F X.w (.fp cs o) u)with
    |fp _ _ c o' us A K F M=>
     refine⟨_,y n rfl _ g,?_⟩;rw[fS,Nat.add_assoc];exact dJ.fp cs _ c o' us A K F M
   .simp at h
  .simp at h
 .simp at h
def zS(y:zQ Q t U=ae)(m:A2 (CR σ X) f B)(b:Nat)(d:aX U (f.drop b)=aa v)(w:World) :
  ∃u,(part t B.toArray b).run Q w=.ok u w/\VR σ X v u:=by
 obtain⟨q,s⟩:=J_ y w;cases U with
 |none=>
  cases g:f.drop b with
  |nil=>rw[g]at d;simp[aX]at d
  |cons x cs=>
   rw[g]at d;simp only[aX,AT]at d;subst d;obtain⟨u,z,l⟩:=(m.drop b).get (i:=0) (x:=x) (by rw[g];rfl);have j:B[b]?=aa u:=by simpa[ahP]using z
   exact⟨u,by simp[part,q,j],l⟩
 |some U=>
  simp only[aX]at d;split at d
  .simp only[AT]at d;subst d;exact⟨.agg ((B.drop b).take U).toArray,by simp[part,q,dZ (s U rfl),ais],_,rfl,(m.drop b).take U⟩
  .simp at d
def MO{b:Array Field}(q:Q.underlying t=aa (.struct b)){f:Field}(l:b[N]?=aa f)(x:zQ Q f.type U=ae)
(s:VR σ X m u) (h:mP f.offset U m=aa v) (w:World):∃r,(Instr.field t u N).run Q w=.ok r w/\VR σ X v r:=by
 unfold mP at h;split at h
 .obtain⟨us,rfl,d⟩:=s;obtain⟨r,g,j⟩:=zS x d f.offset h w;exact⟨r,by simp[Instr.field,bT q,l,asAgg,g],j⟩
 .simp at h
def Rn{sz:Nat}(y:Q.underlying t=aa (.array N O))(b:eF Q O sz=ae)(s:zQ Q O U=ae)
  {i:V} {j:Value} (z:VR σ X m u) (hi:VR σ X i j) (h:JH N sz U m i=aa v) (w:World):∃r,(Instr.index t u j).run Q w=.ok r w/\VR σ X v r:=by
 unfold JH at h;split at h
 .rename_i xs k q;obtain⟨A,rfl⟩:=me hi q;split at h
  .rename_i x;obtain⟨us,rfl,d⟩:=z;obtain⟨r,g,l⟩:=zS s d _ h w;exact⟨r,by simp[Instr.index,asIntOf,bT y,x,dZ b,g],l⟩
  .simp at h
 .simp at h
def Ro(x:Q.underlying t=aa .string){i:V}{j:Value}(q:VR σ X m u)(hi:VR σ X i j)(h:JI m i=aa v)(w:World) :
  ∃r,(Instr.index t u j).run Q w=.ok r w/\VR σ X v r:=by
 unfold JI at h;split at h
 .rename_i s k l;obtain⟨y,rfl⟩:=me hi l;have:=VR.str q;subst this;split at h
  .rename_i d;simp only[OF]at h;obtain⟨b,g,rfl⟩:=h;exact⟨_,by simp[Instr.index,asIntOf,bT x,d,g],VR.mkInt _ _⟩
  .simp at h
 .simp at h
end
section
variable{Q:Program}{σ:Nat->FuncId}{X:Wd}
theorem A2.over{α β:Type}{R:α->β->Prop}{cs xs:List α}{us d:List β}(h:A2 R cs us)(b:A2 R xs d)(off:Nat):A2 R (over cs off xs) (over us off d):=by
 unfold Km.over;rw[b.len];exact((h.take off).append b).append (h.drop _)
def Ff{α:Type}(cs:List α)(b:Nat)(xs:List α)(h:b+xs.length<=cs.length):(over cs b xs).length=cs.length:=by
 simp[over];omega
theorem EF(d:Nat):∀(g:List Value) (k:Nat) (b:List Value),d+k+g.length<=b.length->
  ((g.zipIdx k).foldl (λ(cs:Array Value) p=>cs.setIfInBounds (d+p.2) p.1) b.toArray)=(over b (d+k) g).toArray
 |[],k,b,_=>by simp[over]
 |v::g,k,b,h=>by
  simp only[List.zipIdx_cons,aiI];have j:b.toArray.setIfInBounds (d+k) v=(b.set (d+k) v).toArray:=lw
  rw[j,EF d g (k+1) _ (by simp at h ⊢;omega)]
  congr 1
  unfold over;simp only[ahk]at h ⊢;rw[List.take_set,List.drop_set_of_lt ap,show d+(k+1)=d+k+1 by omega,show d+k+1+g.length=d+k+(g.length+1) by omega];rw[ajk ap];have l:(List.take (d+k) b).length=d+k:=pp
  have e:(List.take (d+k) b++[b[d+k]]).set (d+k) v=List.take (d+k) b++[v]:=by
   rw[List.set_append,cC ap,l];simp
  simp_all
def tY(b:VR σ X v u)(h:v.cells?=aa f):∃us,u.cells=us.toArray/\A2 (CR σ X) f us:=by
 unfold V.cells? at h;split at h
 .rename_i v;simp only[AT]at h;subst h;have d:=CR.one σ b;refine⟨[u],?_,A2.cons b A2.nil⟩;cases u<;>simp_all [Value.cells,Value.oneCell']
 .simp only[AT]at h;subst h;obtain⟨us,rfl,h⟩:=b;exact⟨us,rfl,h⟩
 .simp at h
theorem rp{a:Act}{aT:T}(z:RR σ X aT a.tmps){place:Nat->Option (Nat × Nat)}:∀{qs:List (Nat × Nat × Arg)} {ps:List (Nat × Operand)},
  A2 (λ(q:Nat × Nat × Arg) (p:Nat × Operand)=>place p.1=aa (q.1,q.2.1)/\mA σ q.2.2 p.2=ae) qs ps->∀{cs cs':List C} {us:List Value},A2 (CR σ X) cs us->
  iw aT cs qs=aa cs'->∃b,Instr.fill place us.toArray (ps.map λp=>(p.1,a.eval p.2))=aa b.toArray/\A2 (CR σ X) cs' b
 |[],[],_,cs,cs',us,h,d=>by
  simp only[iw,AT]at d;subst d;exact⟨us,rfl,h⟩
 |[],_::_,g,_,_,_,_,_=>by have:=g.len;simp at this
 |_::_,[],g,_,_,_,_,_=>by have:=g.len;simp at this
 |(l,n,x)::qs,(i,y)::ps,g,cs,cs',us,h,d=>by
  obtain⟨⟨u,v⟩,m⟩:=g.of_cons;simp only at u v;simp only[iw]at d;split at d
  .rename_i xs s;split at d
   .rename_i J;obtain⟨I,H,j⟩:=tY (cQ z v) s;obtain⟨b,A,B⟩:=rp z m (h.over j l) d;refine⟨b,?_,B⟩;have K:=j.len;have F:=h.len;simp only[List.map_cons,Instr.fill,u,H];rw[cC ge];rw[<-A]
    congr 1
    have:=EF l I 0 us ap;simp_all
   .simp_all
  .simp at d
def gV(h:oE Q t q=ae)(w:World):∃z us,(zeroValue t).run Q w=.ok z w/\z.cells=us.toArray/\A2 (CR σ X) (q.map .f) us/\
  ∃i,Q.info? t=aa i/\i.zero=aa z:=by
 unfold oE at h;cases hi:Q.info? t with
 |none=>simp[hi]at h
 |some i=>
  simp only[hi,ajy]at h;split at h
  .rename_i z d;refine⟨z,z.cells.toList,by simp[zeroValue,typeInfo,hi,d],bv,A2.map ((gH h).oF λx u b=>Ia b),i,rfl,d⟩
  .simp at h
end
section
variable{Q:Program}{σ:Nat->FuncId}{X:Wd}
def oY{b:CK}(h:Na Q b t=ae):(b=.int/\∃j,Q.underlying t=aa (.int j))\/(b=.str/\Q.underlying t=aa .string)\/(b=.bool/\Q.underlying t=aa .bool):=by
 unfold Na at h
 grind
def yJ{l:CK}{d:TypeDesc}(m:(l=.int/\∃j,d=.int j)\/(l=.str/\d=.string)\/(l=.bool/\d=.bool)){F:Nat->Nat->Prop}{y:FC}{v:Value}
  (q:dJ σ F w K u) (s:dJ σ F w y v) (h:eqK l K y=aa k):Instr.sameNow d u v=aa k:=by
 unfold eqK at h;split at h
 .cases q;cases s;rcases m with⟨_,j,rfl⟩|⟨g,_⟩|⟨g,_⟩
  .assumption
  .cases g
  .cases g
 .cases q;cases s;rcases m with⟨g,_⟩|⟨_,rfl⟩|⟨g,_⟩
  .cases g
  .assumption
  .cases g
 .cases q;cases s;rcases m with⟨g,_⟩|⟨g,_⟩|⟨_,rfl⟩
  .cases g
  .cases g
  .assumption
 .simp at h
theorem BJ{l:CK}{d:TypeDesc}(q:(l=.int/\∃j,d=.int j)\/(l=.str/\d=.string)\/(l=.bool/\d=.bool)){F:Nat->Nat->Prop}{w:World}{k:FC}{B:Value}(v:dJ σ F w k B) :
  ∀{R:C->Value->Prop} {y:List (FC × C)} {b:List MapEntry},A2 (λe m=>dJ σ F w e.1 m.key/\R e.2 m.val) y b->∀{r:Option C} (i:Nat),nH l k y=aa r->
  match r with
  |none=>Instr.findNow d B b i=aa ab| some x=>∃j u,Instr.findNow d B b i=aa (aa (j,u))/\R x u
 |_,[],[],_,r,i,h=>by
  simp only[nH,AT]at h;subst h;rfl
 |_,[],_::_,g,_,_,_=>by have:=g.len;simp at this
 |_,_::_,[],g,_,_,_=>by have:=g.len;simp at this
 |_,e::y,m::b,g,r,i,h=>by
  obtain⟨⟨z,H⟩,A⟩:=g.of_cons;simp only[nH]at h;split at h
  .rename_i s;simp only[AT]at h;subst h;exact⟨i,m.val,by simp[Instr.findNow,yJ q v z s],H⟩
  .rename_i s;have:=BJ q v A (i+1) h;cases r with
   |none=>simpa[Instr.findNow,yJ q v z s]using this| some x=>obtain⟨j,u,I,J⟩:=this;exact⟨j,u,by simp[Instr.findNow,yJ q v z s,I],J⟩
  .simp at h
def lE{l:CK}(h:Na Q l t=ae){F:Nat->Nat->Prop}(m:dJ σ F w K u)(hi:isKey l K=ae)(b:Bool)(q:World) :
  (Instr.checkKey b 10000 t u).run Q q=.ok () q:=by
 have:∀n,(Instr.checkKey b (n+1) t u).run Q q=.ok () q:=by
  intro n;rcases oY h with⟨rfl,j,d⟩|⟨rfl,d⟩|⟨rfl,d⟩<;>cases m<;>simp_all [isKey,Instr.checkKey,bT d]
 simp_all
def HU{r:Option C}(b:k=(qB K).isSome)(h:kg σ X ((r.map mV).getD (zV ((qB K).getD K))) u):VR σ X (S9 K r) (if k=ae then .tuple #[u,.bool r.isSome]else u):=by
 unfold S9;cases d:qB K with
 |none=>rw[d]at h b;subst b;exact VR.Ta σ h| some z0=>rw[d]at h b;subst b;exact⟨[u,.bool r.isSome],rfl,A2.cons h (A2.cons (dJ.bool _) A2.nil)⟩
def M9(hS:SR Q σ X){kt:TypeId}{J:CK}(hu:Q.underlying t=aa (.map kt O))(z:Na Q J kt=ae){ok:Bool}(H:ok=(qB K).isSome)(hz:oE Q O (wB ((qB K).getD K))=ae)
  (l:(Q.info? O).any (λi=>i.zero.any λu=>if IV ((qB K).getD K)then YX u else ZN u)=ae) {k:V} {um uk:Value} (hm:VR σ X m um) (s:VR σ X k uk) (h:gN X.H J K m k=aa v) :
  ∃u,(Instr.lookup t um uk ok).run Q X.w=.ok u X.w/\VR σ X v u:=by
 obtain⟨I,zs,M,A,B,i0,W,Y⟩:=gV (σ:=σ) (X:=X) hz X.w;have N:kg σ X (zV ((qB K).getD K)) I:=by
  simp only[W,ajy,Y]at l;generalize (qB K).getD K=z0 at *;cases S:IV z0 with
  |true=>
   rw[aag S];simp only[S,if_true]at l;cases I with
   |agg cs=>exact⟨zs,by simp only[Value.cells]at A;rw[A],B⟩
   |_=>simp[YX]at l
  |false=>
   obtain⟨e1,e2⟩:=aah S;rw[e1];rw[e2]at B;simp only[S,ahb,if_false]at l;obtain⟨u,a_,b_⟩:=B.get (i:=0) (x:=.f z0) rfl;have hl:=B.len;have c9:zs=[u]:=by
    match zs,hl,a_ with
    |[y],_,h=>simp at h;rw[h]
   subst c9;cases I with
   |agg cs=>simp[ZN]at l| _=>simp only[Value.cells]at A;have:=congrArg Array.toList A;simp at this;subst this;exact b_
 unfold gN at h;split at h
 .rename_i kc;split at h
  .rename_i q;simp only[AT]at h;subst h;cases (hm:dJ σ X.F X.w .Ap um);refine⟨if ok=ae then .tuple #[I,.bool ag]else I,?_,HU (r:=ab) H N⟩;rcases oY z with⟨_,j,g⟩|⟨_,g⟩|⟨_,g⟩ <;>
    simp[Instr.lookup,bT hu,lE z s q,Instr.findKey,bT g,Instr.findNow,M]
  .simp at h
 .rename_i b kc;split at h
  .rename_i es hb;split at h
   .rename_i q;simp only[OF]at h;obtain⟨r,hr,rfl⟩:=h;obtain⟨L,hL,_,rfl⟩:=hm;obtain⟨_,_,cV,F,U⟩:=hS.br b L hL;rw[hb]at F;simp only[AT]at F;subst F;obtain⟨c_,h1,h2,_⟩:=U;have go:∀d,Q.underlying kt=aa d->((J=.int/\∃j,d=.int j)\/(J=.str/\d=.string)\/(J=.bool/\d=.bool))->∃u,(Instr.lookup t (.map (aa L.c)) uk ok).run Q X.w=.ok u X.w/\VR σ X (S9 K r) u:=by
     intro d g hd;have h3:=BJ (R:=λc u=>kg σ X (mV c) u) hd s h2 0 hr;cases r with
     |none=>
      refine⟨if ok=ae then .tuple #[I,.bool ag]else I,?_,HU (r:=ab) H N⟩;simp[Instr.lookup,bT hu,getObj,Sem.run,h1,lE z s q,Instr.findKey,bT g,h3,M]
     |some x=>
      obtain⟨j,u,e,h5⟩:=h3;refine⟨if ok=ae then .tuple #[u,.bool ae]else u,?_,HU (r:=aa x) H h5⟩;simp[Instr.lookup,bT hu,getObj,Sem.run,h1,lE z s q,Instr.findKey,bT g,e]
    rcases oY z with⟨e,j,g⟩|⟨e,g⟩|⟨e,g⟩
    .simp_all
    .simp_all
    .simp_all
   .simp at h
  .simp at h
 .simp at h
end
section
variable{Q:Program}{σ:Nat->FuncId}{X:Wd}
def fU{s:Sem Value}{w':World}(h:s.run Q w=.ok u w'):(do pure (Next.value (<-s)):Sem Next).run Q w=.ok (.value u) w':=by simp[h]
def wJ(b:RR σ X r e.tmps){x:Option Arg}{y:Option Operand}(h:mO σ x y=ae):OR X σ (x.map (·.ev r)) (y.map e.eval):=by
 rcases ac_ b h with⟨rfl,rfl⟩|⟨g,j,rfl,rfl,d⟩
 .trivial
 .exact d
def kS{p:TypeId->Bool}(h:(qn Q t).any p=ae):∃e,Q.underlying t=aa (.slice e)/\p e=ae:=by
 unfold qn at h
 grind
def mY(b:CR σ X h u)(x:bA X.H h=aa l):∃a c,u=.slice a l c:=by
 unfold bA at x;split at x<;>try simp only[AT,reduceCtorEq]at x
 .simp only[CR,iS]at b
  grind
 .subst x;cases (b:dJ σ X.F X.w .aN u);exact⟨_,_,rfl⟩
 .subst x;cases (b:dJ σ X.F X.w .es u);exact⟨_,_,rfl⟩
 .subst x;cases (b:dJ σ X.F X.w (.fs _ _) u)<;>exact⟨_,_,rfl⟩
def po(M:SR Q σ X){sz:Nat}(q:CR σ X h u)(g:bA X.H h=aa l)(x:dy X.H sz h=aa f) :
  ∃us,(Builtin.firstCells sz l u).run Q X.w=.ok us.toArray X.w/\A2 (CR σ X) f us/\f.length=l*sz:=by
 have row:∀(c o:Nat) (us:List Value) (cap:Nat),us.length=l*sz->(∀(i:Nat) u,us[i]?=aa u->X.w.cell? ⟨c,o+i,ab⟩=aa u)->
   (Builtin.firstCells sz l (.slice (aa ⟨c,o,ab⟩) l cap)).run Q X.w=.ok us.toArray X.w:=by
  intro c o us cap K F;have:=run_loadCells_list (P:=Q) X.w ⟨c,o,ab⟩ us (λj v O=>by rw[fS];exact F j v O);rw[K]at this
  assumption
 unfold dy at x;split at x<;>try simp only[reduceCtorEq]at x
 .rename_i b o I cap U s;simp only[CR,iS]at q;simp only[bA]at g;split at x
  .rename_i cs' fl B;rw[B]at q g;simp only[AT]at g;subst g;obtain⟨L,J,_,rfl⟩:=q;split at x
   .rename_i m;simp only[AT]at x;subst x;obtain⟨_,_,cV,d,y⟩:=M.br b L J;rw[B]at d;simp only[AT]at d;subst d;obtain⟨us,H,A,_⟩:=y;have:=A.len;refine⟨(us.drop o).take (I*sz),row _ _ _ _ ge (λi u K=>?_),(A.drop o).take _,ge⟩;rw[fI H]
    grind
   .simp at x
  .rename_i Y cs' fl e st B;rw[B]at q g;split at x
   .rename_i F;obtain⟨rfl,rfl,m⟩:=F;simp only[and_self,if_true,AT]at g;subst g;simp only[AT]at x;subst x;have z:=q.2.1 rfl rfl;cases st with
    |loc=>
     obtain⟨L,J,k,_,_,rfl⟩:=z;obtain⟨_,_,cV,d,y⟩:=M.br b L J;rw[B]at d;simp only[AT]at d;subst d;obtain⟨_,us,rest,H,A,_⟩:=y;have:=A.len;refine⟨(us.drop o).take (I*sz),row _ _ _ _ ge (λi u K=>?_),(A.drop o).take _,ge⟩;rw[fI H]
     grind
    |nil=>
     obtain⟨rfl,rfl,rfl⟩:=z;exact⟨[],by simp[Builtin.firstCells],by simpa using A2.nil,bv⟩
    |es=>
     obtain⟨rfl,rfl,a,rfl⟩:=z;exact⟨[],by simp[Builtin.firstCells,loadCells,loadCellsFrom],by simpa using A2.nil,bv⟩
   .simp at x
  .simp at x
 .simp only[AT]at x;subst x;simp only[bA,AT]at g;subst g;cases (q:dJ σ X.F X.w .aN u);exact⟨[],by simp[Builtin.firstCells],A2.nil,bv⟩
 .simp only[AT]at x;subst x;simp only[bA,AT]at g;subst g;cases (q:dJ σ X.F X.w .es u);exact⟨[],by simp[Builtin.firstCells,loadCells,loadCellsFrom],A2.nil,bv⟩
 .rename_i cs' I;simp only[bA,AT]at g;subst g;split at x
  .rename_i m;simp only[AT]at x;subst x;cases (q:dJ σ X.F X.w (.fs cs' I) u)with
   |fs _ _ c o cap us N S W F H=>
    exact⟨us,row _ _ _ _ ap F,A2.map ⟨ap,H⟩,ge⟩
   |VK a cap=>exact⟨[],by simp[Builtin.firstCells,loadCells,loadCellsFrom],A2.nil,bv⟩
  .simp at x
def TQ(c:VR σ X v u)(l:tX v=aa h):iS σ X h u:=by
 unfold tX at l;split at l
 .simp at l
 .simp at l
 .rename_i x q m;simp only[AT]at l;subst l;cases x with
  |cl f j=>exact absurd rfl (q f j)| bm f j=>exact absurd rfl (m f j)| mi b=>exact c| f y=>exact c| ptr a b h=>exact c| sl a b h d e g=>exact c| yl b=>exact c| mp b=>exact c| it b=>exact c
 .simp at l
def D_{xs:List V}(h:A2 (VR σ X) xs B)(b:bC tX xs=aa f):A2 (iS σ X) f B:=by
 induction xs generalizing B f with
 |nil=>
  simp only[bC,AT]at b;subst b
  match B,h.len with
  |[],_=>exact A2.nil
 |cons x xs m=>
  match B,h with
  |u::B,h=>
   obtain⟨g,j⟩:=h.of_cons;simp only[bC]at b;split at b
   .simp_all
   .rename_i y l;split at b
    .simp_all
    .rename_i ys d;simp only[AT]at b;subst b;exact A2.cons (TQ g l) (m j d)
  |[],h=>have:=h.len;simp at this
def eU{d:Operand->Value}{o:Call}{b:Builtin}(j:c.op=.call o)(g:o.callee=.builtin b){r:Result Next}
  (h:∀cs,(builtin b o.argTypes c.type cs (o.args.map d)).run Q w=r):(execOp d c).run Q w=r:=by
 simp only[execOp,j,resolve,g,Sem.run_bind,Sem.run_pure,Result.andThen_ok,invoke];exact h _
def Ea{α:Type}{a:Array α}{x:α}(h:a.toList=[x]):a=#[x]:=by
 grind
def TI{α:Type}{a:Array α}{x y:α}(h:a.toList=[x,y]):a=#[x,y]:=by
 grind
def M_(h:fC Q σ A (.len z)=ae):∃y t e,A.callee=.builtin .len/\A.args=#[y]/\A.argTypes=#[t]/\mA σ z y=ae/\Q.underlying t=aa (.slice e):=by
 simp only[fC]at h;split at h
 .rename_i y t b d g;simp only[IS]at h;have:=h.2;split at this
  .exact⟨y,t,_,b,Ea d,Ea g,h.1,by assumption⟩
  .simp_all
 .simp at h
def HY(h:fC Q σ A (.lens z)=ae):∃y t,A.callee=.builtin .len/\A.args=#[y]/\A.argTypes=#[t]/\mA σ z y=ae/\Q.underlying t=aa .string:=by
 simp only[fC]at h;split at h
 .rename_i y t b d g;simp only[IS]at h;have:=h.2;split at this
  .exact⟨y,t,b,Ea d,Ea g,h.1,by assumption⟩
  .simp_all
 .simp at h
def HX(h:fC Q σ A (.rR l)=ae):∃y t e,A.callee=.builtin .len/\A.args=#[y]/\A.argTypes=#[t]/\Q.underlying t=aa (.array l e):=by
 simp only[fC]at h;split at h
 .rename_i y t b d g;split at h
  .rename_i m e j;simp only[decide_eq_true_eq]at h;subst h;exact⟨y,t,e,b,Ea d,Ea g,j⟩
  .simp at h
 .simp at h
def H_(h:fC Q σ A (.uH k L)=ae):A.callee=.builtin (if k then .min else .max)/\S_ σ L A.args=ae:=by
 simp only[fC]at h
 grind
def RK{z:V}{y:Value}(b:VR σ X m u)(d:VR σ X v y)(h:BE k m v=aa z)(w:World):∃r,(if k then Builtin.min2 u y else Builtin.max2 u y).run Q w=.ok r w/\VR σ X z r:=by
 unfold BE at h;split at h
 .simp only[AT]at h;subst h;have b:=VR.int b;have d:=VR.int d;subst b;subst d;cases k
  .exact⟨_,by simp[Builtin.max2],VR.mkInt _ _⟩
  .exact⟨_,by simp[Builtin.min2],VR.mkInt _ _⟩
 .simp at h
theorem EY{lo:Bool}(w:World):∀{ys:List V} {d:List Value} {x z:V} {u:Value},VR σ X x u->A2 (VR σ X) ys d->wY lo x ys=aa z->∃r,(d.foldlM (λu v=>if lo then Builtin.min2 u v else Builtin.max2 u v) u).run Q w=.ok r w/\VR σ X z r
 |[],d,x,z,u,g,b,h=>by
  have:d=[]:=ag3 b.len.symm;subst this;simp only[wY,AT]at h;subst h;simp_all
 |y::ys,[],x,z,u,g,b,h=>by have:=b.len;simp at this
 |y::ys,v::d,x,z,u,g,b,h=>by
  obtain⟨l,b⟩:=b.of_cons;simp only[wY]at h;split at h
  .rename_i q m;obtain⟨F,s,j⟩:=RK (Q:=Q) g l m w;obtain⟨r,A,B⟩:=EY w j b h;simp_all
  .simp at h
def M'(h:fC Q σ A (.cap z)=ae):∃y t e,A.callee=.builtin .cap/\A.args=#[y]/\A.argTypes=#[t]/\mA σ z y=ae/\Q.underlying t=aa (.slice e):=by
 simp only[fC]at h;split at h
 .rename_i y t g j l;simp only[IS]at h;obtain⟨m,d⟩:=h;split at d
  .rename_i e b;exact⟨y,t,e,g,Ea j,Ea l,m,b⟩
  .simp at d
 .simp at h
def SC(d:CR σ X h u)(x:oC X.H h=aa N):∃a l,u=.slice a l N:=by
 cases h with
 |sl b o l c g sz=>
  simp only[oC]at x;simp only[CR,iS]at d
  grind
 |f y=>
  cases y<;>simp only[oC,AT,reduceCtorEq]at x
  .subst x;cases (d:dJ σ X.F X.w .aN u);exact⟨_,_,rfl⟩
  .subst x;cases (d:dJ σ X.F X.w .es u);exact⟨_,_,rfl⟩
 |_=>simp[oC]at x
def JY(v:SR Q σ X)(u:X.dA N=aa M){e:FC × C}(x:X.H[N]?=aa (.map [e])):∃d:MapEntry,X.w.heap[M.c]?=aa (.map #[d] 1)/\dJ σ X.F X.w e.1 d.key/\kg σ X (mV e.2) d.val/\d.born=0:=by
 obtain⟨_,_,cV,g,l⟩:=v.br N M u;rw[x]at g;cases g;obtain⟨j,q,b,s⟩:=l
 match j,b with
 |[d],b=>exact⟨d,q,b.of_cons.1.1,b.of_cons.1.2,s 0 d rfl⟩| [],b=>have:=b.len;simp at this| _::_::_,b=>have:=b.len;simp at this
def MJ(q:SR Q σ X)(M:VR σ X m u)(h:oS X.H m=aa v):∃r,(Instr.entry u).run Q X.w=.ok r X.w/\VR σ X v r:=by
 unfold oS at h;split at h
 .rename_i b;obtain⟨L,I,_,rfl⟩:=M;split at h
  .rename_i x s J;split at h
   .rename_i e K;simp only[AT]at h;subst h;obtain⟨_,_,cV,d,j⟩:=q.br b L I;rw[J]at d;cases d;obtain⟨N,O,st,F,_,H,l⟩:=j;simp only[if_true]at l;obtain⟨rfl,rfl⟩:=l;obtain⟨g,y,z,A,B⟩:=JY q F K;refine⟨.tuple #[g.key,g.val],?_,[g.key,g.val],rfl,A2.cons z (A2.cons A A2.nil)⟩;simp[Instr.entry,getObj,Sem.run,H,y,B,Result.andThen]
   .simp at h
  .simp at h
 .simp at h
theorem Ee:∀{cs:List C} {us:List Value} {bs:List UInt8},A2 (CR σ X) cs us->bC (λc=>match c with|C.f (.int .u8 n)=>aa (UInt8.ofNat n.toNat)|_=>ab) cs=aa bs->
  ∃d:List Int,us=d.map (Value.int .u8)/\bs=d.map λn=>UInt8.ofNat n.toNat
 |[],us,bs,h,b=>by
  simp only[bC,AT]at b;subst b
  match us,h.len with
  |[],_=>exact⟨[],rfl,rfl⟩
 |c::cs,[],bs,h,b=>by have:=h.len;simp at this
 |c::cs,u::us,bs,h,b=>by
  obtain⟨l,m⟩:=h.of_cons;simp only[bC]at b;split at b
  .simp at b
  .rename_i y g;split at b
   .simp_all
   .rename_i ys j;simp only[AT]at b;subst b;obtain⟨d,rfl,rfl⟩:=Ee m j;split at g
    .rename_i n;simp only[AT]at g;subst g;cases (l:dJ σ X.F X.w (.int .u8 n) u);exact⟨n::d,rfl,rfl⟩
    .simp_all
theorem foldl_push:∀(b:List Int) (s:ByteArray),b.foldl (λ(r:ByteArray) n=>r.push (UInt8.ofNat n.toNat)) s=⟨s.data++(b.map λn=>UInt8.ofNat n.toNat).toArray⟩
 |[],s=>by simp
 |n::b,s=>by
  rw[aiI,foldl_push b];simp
def QN(y:SR Q σ X)(q:VR σ X m u)(h:wL X.H m=aa v):∃r,(Conv.bytesToString u).run Q X.w=.ok r X.w/\VR σ X v r:=by
 unfold wL at h;split at h
 .rename_i m;split at h
  .rename_i l x;split at h
   .rename_i cs g;simp only[OF]at h;obtain⟨bs,z,rfl⟩:=h;obtain⟨us,j,s,A⟩:=po y q x g;obtain⟨d,c,rfl⟩:=mY q x;obtain⟨b,rfl,rfl⟩:=Ee s z;refine⟨.string (b.foldl (λ(r:ByteArray) n=>r.push (UInt8.ofNat n.toNat)) ByteArray.empty),?_,?_⟩
    .cases d with
     |none=>
      simp only[Builtin.firstCells,Sem.run_pure,Result.ok.injEq,and_true]at j;have:b=[]:=by
       simp_all
      subst this;rfl
     |some d=>exact run_bytesToString X.w d l c b (by simpa[Builtin.firstCells]using j)
    .rw[foldl_push];rw[show(ByteArray.empty.data++(List.map (λn:Int=>UInt8.ofNat n.toNat) b).toArray)=(List.map (λn:Int=>UInt8.ofNat n.toNat) b).toArray from Array.empty_append];exact VR.mkStr _
   .simp at h
  .simp at h
 .simp at h
def V0(hS:SR Q σ X){aT:T}(I:RR σ X aT e.tmps){op:et}(A:ft Q σ c op=ae)(hc:cls op=.p\/cls op=.r)(g_:op.fsl=ag){H':an}
  (h:cA aT X.H op=aa (v,H')):H'=X.H/\∃u,(execOp e.eval c).run Q X.w=.ok (.value u) X.w/\VR σ X v u:=by
 cases op<;>first|(simp only[cls,reduceCtorEq,or_self]at hc;done)|(simp[et.fsl]at g_;done)|clear g_
 case ju x=>
  simp only[cA,AT,agO]at h;obtain⟨rfl,rfl⟩:=h;refine⟨rfl,?_⟩;simp only[ft]at A;split at A
  .rename_i y F;exact⟨_,by simp[execOp,F],cQ I A⟩
  .rename_i y F;exact⟨_,by simp[execOp,F],cQ I A⟩
  .simp at A
 case pick o x y=>
  simp only[ft]at A;split at A
  .rename_i c' x' y' F;simp only[IS]at A;simp only[cA]at h;have c_:=cQ I A.1.1;split at h
   .rename_i b hb;rw[hb]at c_;have c_:=VR.bool c_;simp only[AT,agO]at h;obtain⟨rfl,rfl⟩:=h;cases b
    .exact⟨rfl,_,by simp[execOp,F,c_,asBool],cQ I A.2⟩
    .exact⟨rfl,_,by simp[execOp,F,c_,asBool],cQ I A.1.2⟩
   .simp at h
  .simp at A
 case build zs qs=>
  simp only[ft]at A;split at A
  .rename_i t ps F;simp only[IS]at A;simp only[cA,OF,agO]at h;obtain⟨cs,c9,rfl,rfl⟩:=h;obtain⟨z,us,j7,j8,j9,_⟩:=gV (σ:=σ) (X:=X) A.1 X.w;refine⟨rfl,?_⟩;have hb:=A.2;unfold RF at hb;split at hb
   .rename_i fs K;split at hb
    .rename_i pl n9;obtain⟨d_,S,h6⟩:=rp (place:=(pl.toArray[·]?)) I ((gH hb).oF λq p W=>by
      simp only[IS,decide_eq_true_eq]at W;exact⟨by simpa using W.1,W.2⟩) j9 c9
     refine⟨.agg d_.toArray,?_,d_,rfl,h6⟩;have hp:=run_places (P:=Q) X.w fs.toList pl n9;simp only[execOp,F];refine fU ?_;simp[Instr.build,j7,bT K,Array.mapM_eq_mapM_toList,hp,j8];simp_all
    .simp_all
   .rename_i n a K;split at hb
    .rename_i j_ hi;obtain⟨d_,S,h6⟩:=rp (place:=λi=>aa (i*j_.size,j_.size)) I ((gH hb).oF λq p W=>by
      simp only[IS,beq_iff_eq]at W;exact⟨by rw[W.1.2,W.1.1],W.2⟩) j9 c9
     refine⟨.agg d_.toArray,?_,d_,rfl,h6⟩;simp only[execOp,F];refine fU ?_;simp[Instr.build,j7,bT K,Go.sizeOf,typeInfo,hi,j8,S]
    .simp_all
   .simp_all
  .simp at A
 case load k x=>
  simp only[ft]at A;split at A
  .rename_i t y F;simp only[IS]at A;simp only[cA,OF,agO]at h;obtain⟨v',H,rfl,rfl⟩:=h;obtain⟨u,J,M⟩:=ZC hS A.1 (cQ I A.2) H;exact⟨rfl,u,by simp only[execOp,F];exact fU J,M⟩
  .simp at A
 case nI x=>
  simp only[ft]at A;split at A
  .rename_i y F;have B:=cQ I A;simp only[cA]at h;have r6:∀ad,e.eval y=.pointer (aa ad)->(execOp e.eval c).run Q X.w=.ok (.value (e.eval y)) X.w:=by
    intro ad m9;simp[execOp,F,m9]
   split at h
   .rename_i b f_ a hb;simp only[AT,agO]at h;obtain⟨rfl,rfl⟩:=h;rw[hb]at B;have p_:=B;obtain⟨L,hL,B⟩:=B
    grind
   .rename_i cs f_ hb;simp only[AT,agO]at h;obtain⟨rfl,rfl⟩:=h;rw[hb]at B;have p_:=B;have:∃ad,e.eval y=.pointer (aa ad):=by
     generalize e.eval y=u at B;cases (B:dJ σ X.F X.w (.fp cs f_) u);exact⟨_,rfl⟩
    grind
   .simp at h
  .simp at A
 case bin op x y=>
  simp only[ft]at A;split at A
  .rename_i l_ t x' y' yt F;simp only[IS,decide_eq_true_eq]at A;obtain⟨⟨rfl,B⟩,U⟩:=A;simp only[cA,OF,agO]at h;obtain⟨v',H,rfl,rfl⟩:=h;have B:=cQ I B;have U:=cQ I U;refine⟨rfl,?_⟩;have guard:∀op,(∀xs,e.eval x'≠.agg xs)->e.eval x'≠.nilIface->(eqGuard op t x' y' (e.eval x') (e.eval y')).run Q X.w=.ok () X.w:=by
    intro op J M;cases op<;>simp[eqGuard]<;>(generalize e.eval x'=ux at *;cases ux<;>simp at J M ⊢)
   unfold de at H;split at H
   .rename_i k n k' m J M;rw[J]at B;rw[M]at U;have B:=VR.int B;have U:=VR.int U;split at H
    .simp_all
    .rename_i A;simp only[AT]at H;subst H;exact⟨_,by simp only[execOp,F];refine fU ?_;rw[Sem.run_bind,guard _ (by simp[B]) (by simp[B])];simp[B,U,binOp,Op.shift,A],VR.mkInt _ _⟩
   .rename_i k n k' m J M;rw[J]at B;rw[M]at U;have B:=VR.int B;have U:=VR.int U;split at H
    .simp_all
    .rename_i A;simp only[AT]at H;subst H;exact⟨_,by simp only[execOp,F];refine fU ?_;rw[Sem.run_bind,guard _ (by simp[B]) (by simp[B])];simp[B,U,binOp,Op.shift,A],VR.mkInt _ _⟩
   .rename_i k n k' m _ _ J M;rw[J]at B;rw[M]at U;have B:=VR.int B;have U:=VR.int U;split at H
    .rename_i hk;subst hk;obtain⟨u,Y,O,S⟩:=TM (Q:=Q) (σ:=σ) (X:=X) H X.w;exact⟨u,by simp only[execOp,F];refine fU ?_;rw[Sem.run_bind,guard _ (by simp[B]) (by simp[B])];simp[B,U,S,Y],O⟩
    .simp_all
   .rename_i s1 s2 J M;rw[J]at B;rw[M]at U;have B:=VR.str B;have U:=VR.str U;obtain⟨u,Y,O⟩:=TN (Q:=Q) (σ:=σ) (X:=X) H X.w t;exact⟨u,by simp only[execOp,F];refine fU ?_;rw[Sem.run_bind,guard _ (by simp[B]) (by simp[B])];simp[B,U,Y],O⟩
   .simp_all
  .simp at A
 case eq neg k x y=>
  simp only[ft]at A;split at A
  .rename_i l_ t x' y' yt F;simp only[IS,decide_eq_true_eq]at A;obtain⟨⟨⟨rfl,B⟩,U⟩,hk⟩:=A;simp only[cA,OF,agO]at h;obtain⟨b,H,rfl,rfl⟩:=h;refine⟨rfl,_,?_,VR.zh _⟩;simp only[execOp,F];exact fU (Zi hk (cQ I B) (cQ I U) H neg X.w)
  .simp at A
 case un op x=>
  simp only[ft]at A;split at A
  .rename_i l_ t y F;simp only[IS,decide_eq_true_eq]at A;obtain⟨rfl,B⟩:=A;simp only[cA,OF,agO]at h;obtain⟨v',H,rfl,rfl⟩:=h;have B:=cQ I B;refine⟨rfl,?_⟩;unfold Tc at H;split at H
   .rename_i k n J;rw[J]at B;have B:=VR.int B;simp only[AT]at H;subst H;exact⟨_,by simp[execOp,F,B,Op.unary,Op.intArith],VR.mkInt _ _⟩
   .rename_i b J;rw[J]at B;have B:=VR.bool B;simp only[AT]at H;subst H;exact⟨_,by simp[execOp,F,B,Op.unary],VR.zh _⟩
   .simp_all
  .simp at A
 case QO k x=>
  simp only[ft]at A;split at A
  .rename_i s d y F;simp only[IS]at A;obtain⟨⟨B,hs⟩,hd⟩:=A;have B:=cQ I B;simp only[cA]at h;split at h
   .rename_i q n J;rw[J]at B;have B:=VR.int B;simp only[AT,agO]at h;obtain⟨rfl,rfl⟩:=h;split at hd
    .rename_i k' K;simp only[decide_eq_true_eq]at hd;subst hd;obtain⟨ds,m_⟩:=Option.isSome_iff_exists.1 hs;exact⟨rfl,_,by simp only[execOp,F];refine fU ?_;simp[convert,bT m_,bT K,B,Conv.intToInt],VR.mkInt _ _⟩
    .simp_all
   .simp at h
  .simp at A
 case Hc x=>
  simp only[ft]at A;split at A
  .rename_i s d y F;simp only[IS]at A;obtain⟨B,hd⟩:=A;have B:=cQ I B;simp only[cA]at h;split at h
   .rename_i q J;rw[J]at B;have B:=VR.str B;simp only[AT,agO]at h;obtain⟨rfl,rfl⟩:=h;split at hd
    .rename_i i7 i8;exact⟨rfl,_,by simp only[execOp,F];refine fU ?_;simp[convert,bT i7,bT i8,B],VR.mkStr _⟩
    .simp_all
   .simp at h
  .simp at A
 case Ao f xs=>
  simp only[ft]at A;split at A
  .rename_i g fst b_ F;simp only[IS,beq_iff_eq]at A;obtain⟨⟨N,rfl⟩,B⟩:=A;simp only[cA,OF,agO]at h;obtain⟨cs,c9,rfl,rfl⟩:=h;have:=D_ (qC I B) c9;have j5:fst=#[]:=by simpa using N
   exact⟨rfl,.func (.func (σ f)) #[] (b_.map e.eval),by simp only[execOp,F,Instr.makeFunc,j5];exact fU bv,(b_.map e.eval).toList,congrArg _ Array.toArray_toList.symm,this⟩
  .simp at A
 case slice sz x lo hi mx=>
  simp only[ft]at A;split at A
  .rename_i t y k_ j6 mx' F;simp only[IS,decide_eq_true_eq]at A;obtain⟨⟨⟨⟨⟨B,J⟩,M⟩,Y⟩,he⟩,hz⟩:=A;obtain⟨a,K,a_⟩:=kS he;simp only[cA,OF,agO]at h;obtain⟨v',H,rfl,rfl⟩:=h;obtain⟨r,O,S⟩:=B' hS K a_ (cQ I B) (wJ I J) (wJ I M) (wJ I Y) H;exact⟨rfl,r,by simp only[execOp,F];exact fU O,S⟩
  .simp at A
 case vj n sz x lo hi mx=>
  simp only[ft]at A;split at A
  .rename_i t y k_ j6 mx' F;simp only[IS,decide_eq_true_eq]at A;obtain⟨⟨⟨⟨⟨B,J⟩,M⟩,Y⟩,he⟩,hz⟩:=A;split at he
   .rename_i n' a K;simp only[IS,beq_iff_eq]at he;obtain⟨rfl,a_⟩:=he;simp only[cA,OF,agO]at h;obtain⟨v',H,rfl,rfl⟩:=h;obtain⟨r,O,S⟩:=NH hS K a_ (cQ I B) (wJ I J) (wJ I M) (wJ I Y) H;exact⟨rfl,r,by simp only[execOp,F];exact fU O,S⟩
   .simp_all
  .simp at A
 case xr x lo hi=>
  simp only[ft]at A;split at A
  .rename_i t y k_ j6 F;simp only[IS]at A;obtain⟨⟨⟨B,J⟩,M⟩,he⟩:=A;split at he
   .rename_i K;simp only[cA,OF,agO]at h;obtain⟨v',H,rfl,rfl⟩:=h;obtain⟨r,O,S⟩:=NI K (cQ I B) (wJ I J) (wJ I M) H X.w;exact⟨rfl,r,by simp only[execOp,F,Option.map_none];exact fU O,S⟩
   .simp_all
  .simp at A
 case mM f_ x=>
  simp only[ft]at A;split at A
  .rename_i t y i F;simp only[IS]at A;obtain⟨B,N⟩:=A;split at N
   .rename_i fs K;split at N
    .rename_i f h_;simp only[IS,beq_iff_eq]at N;obtain⟨rfl,hz⟩:=N;simp only[cA,OF,agO]at h;obtain⟨v',H,rfl,rfl⟩:=h;obtain⟨r,O,S⟩:=Hk K h_ hz (cQ I B) H X.w;exact⟨rfl,r,by simp only[execOp,F];exact fU O,S⟩
    .simp_all
   .simp_all
  .simp at A
 case field f_ n x=>
  simp only[ft]at A;split at A
  .rename_i t y i F;simp only[IS]at A;obtain⟨B,N⟩:=A;split at N
   .rename_i fs K;split at N
    .rename_i f h_;simp only[IS,beq_iff_eq]at N;obtain⟨rfl,hz⟩:=N;simp only[cA,OF,agO]at h;obtain⟨v',H,rfl,rfl⟩:=h;obtain⟨r,O,S⟩:=MO K h_ hz (cQ I B) H X.w;exact⟨rfl,r,by simp only[execOp,F];exact fU O,S⟩
    .simp_all
   .simp_all
  .simp at A
 case hZ sz i9 x i=>
  simp only[ft]at A;split at A
  .rename_i t y j F;simp only[IS]at A;obtain⟨⟨B,hi⟩,N⟩:=A;simp only[cA,OF,agO]at h;obtain⟨v',H,rfl,rfl⟩:=h;have:∃a,eF Q a sz=ae/\((i9=ab/\Q.underlying t=aa (.slice a))\/∃n,i9=aa n/\Q.underlying t=aa (.array n a)):=by
    grind
   obtain⟨a,a_,K⟩:=this;obtain⟨r,O,S⟩:=Hr a_ K (cQ I B) (cQ I hi) H;exact⟨rfl,r,by simp only[execOp,F];exact fU O,S⟩
  .simp at A
 case idxs x i=>
  simp only[ft]at A;split at A
  .rename_i t y j F;simp only[IS]at A;obtain⟨⟨B,hi⟩,N⟩:=A;simp only[cA,OF,agO]at h;obtain⟨v',H,rfl,rfl⟩:=h;split at N
   .rename_i K;obtain⟨r,O,S⟩:=Ro K (cQ I B) (cQ I hi) H X.w;exact⟨rfl,r,by simp only[execOp,F];exact fU O,S⟩
   .simp_all
  .simp at A
 case EJ n sz k x i=>
  simp only[ft]at A;split at A
  .rename_i t y j F;simp only[IS]at A;obtain⟨⟨B,hi⟩,N⟩:=A;simp only[cA,OF,agO]at h;obtain⟨v',H,rfl,rfl⟩:=h;split at N
   .rename_i n' a K;simp only[IS,beq_iff_eq]at N;obtain⟨⟨rfl,a_⟩,hk⟩:=N;obtain⟨r,O,S⟩:=Rn K a_ hk (cQ I B) (cQ I hi) H X.w;exact⟨rfl,r,by simp only[execOp,F];exact fU O,S⟩
   .simp_all
  .simp at A
 case lookup ck z m k=>
  simp only[ft]at A;split at A
  .rename_i t m' k' ok F;simp only[IS,beq_iff_eq]at A;obtain⟨⟨⟨J,M⟩,n8⟩,N⟩:=A;simp only[cA,OF,agO]at h;obtain⟨v',H,rfl,rfl⟩:=h;split at N
   .rename_i kt a K;simp only[IS]at N;obtain⟨u,O,S⟩:=M9 hS K N.1.1 n8 N.1.2 N.2 (cQ I J) (cQ I M) H;exact⟨rfl,u,by simp only[execOp,F];exact fU O,S⟩
   .simp_all
  .simp at A
 case extract x i=>
  simp only[ft]at A;split at A
  .rename_i y j F;simp only[IS,beq_iff_eq]at A;obtain⟨B,rfl⟩:=A;have B:=cQ I B;simp only[cA]at h;split at h
   .rename_i vs o_;rw[o_]at B;simp only[OF,agO]at h;obtain⟨v',H,rfl,rfl⟩:=h;obtain⟨us,e_,M⟩:=B;obtain⟨u,K,p9⟩:=M.get H;exact⟨rfl,u,by simp only[execOp,F];refine fU ?_;simp[Instr.extract,e_,K],VR.Ta σ p9⟩
   .simp at h
  .simp at A
 case rR n=>
  simp only[ft]at A;split at A
  .rename_i o F;obtain⟨y,t,a,J,M,Y,K⟩:=HX A;simp only[cA,AT,agO]at h;obtain⟨rfl,rfl⟩:=h;exact⟨rfl,_,eU F J (λcs=>by simp[builtin,M,Y,Builtin.len_,bT K,goInt]),VR.mkInt _ _⟩
  .simp at A
 case lens x=>
  simp only[ft]at A;split at A
  .rename_i o F;obtain⟨y,t,J,M,Y,B,K⟩:=HY A;have B:=cQ I B;simp only[cA]at h;split at h
   .rename_i s hs;rw[hs]at B;have B:=VR.str B;simp only[AT,agO]at h;obtain⟨rfl,rfl⟩:=h;exact⟨rfl,_,eU F J (λcs=>by simp[builtin,M,Y,Builtin.len_,bT K,B,goInt]),VR.mkInt _ _⟩
   .simp at h
  .simp at A
 case len x=>
  simp only[ft]at A;split at A
  .rename_i o F;obtain⟨y,t,a,J,M,Y,B,K⟩:=M_ A;have B:=cQ I B;simp only[cA]at h;split at h
   .rename_i z hz;rw[hz]at B;split at h
    .rename_i n hn;simp only[AT,agO]at h;obtain⟨rfl,rfl⟩:=h;obtain⟨ad,cp,i6⟩:=mY B hn;exact⟨rfl,_,eU F J (λcs=>by simp[builtin,M,Y,Builtin.len_,bT K,i6,goInt]),VR.mkInt _ _⟩
    .simp_all
   .simp at h
  .simp at A
 case uH lo xs=>
  simp only[ft]at A;split at A
  .rename_i o F;obtain⟨J,M⟩:=H_ A;have hA:=qC I M;simp only[cA,OF,agO]at h;obtain⟨v',H,rfl,rfl⟩:=h;refine⟨rfl,?_⟩;unfold C' at H;split at H
   .simp_all
   .rename_i x ys q_;rw[q_]at hA
    match e_:(o.args.map e.eval).toList,hA with
    |[],hA=>have:=hA.len;simp at this
    |u::us,hA=>
     obtain⟨B,hA⟩:=hA.of_cons;obtain⟨r,g1,g2⟩:=EY (Q:=Q) (lo:=lo) X.w B hA H;refine⟨r,eU F J (λcs=>?_),g2⟩;cases lo
     .simp only[ahb,if_false]at g1 ⊢;have g1:(us.foldlM Builtin.max2 u).run Q X.w=.ok r X.w:=g1;have d9:List.map e.eval o.args.toList=u::us:=by simpa using e_
      simp[builtin,Builtin.max_,d9,g1]
     .simp only[if_true]at g1 ⊢;have g1:(us.foldlM Builtin.min2 u).run Q X.w=.ok r X.w:=g1;have d9:List.map e.eval o.args.toList=u::us:=by simpa using e_
      simp[builtin,Builtin.min_,d9,g1]
  .simp at A
 case cap x=>
  simp only[ft]at A;split at A
  .rename_i o F;obtain⟨y,t,a,J,M,Y,B,K⟩:=M' A;have B:=cQ I B;simp only[cA]at h;split at h
   .rename_i z hz;rw[hz]at B;split at h
    .rename_i n hn;simp only[AT,agO]at h;obtain⟨rfl,rfl⟩:=h;obtain⟨ad,l,i6⟩:=SC B hn;exact⟨rfl,_,eU F J (λcs=>by simp[builtin,M,Y,Builtin.cap_,bT K,i6,goInt]),VR.mkInt _ _⟩
    .simp_all
   .simp at h
  .simp at A
 case entry x=>
  simp only[ft]at A;split at A
  .rename_i y F;simp only[cA,OF,agO]at h;obtain⟨v',H,rfl,rfl⟩:=h;obtain⟨r,g1,g2⟩:=MJ hS (cQ I A) H;exact⟨rfl,r,by simp only[execOp,F];exact fU g1,g2⟩
  .simp at A
 case An f xs=>
  simp only[ft]at A;split at A
  .rename_i g fst b_ F;simp only[IS,beq_iff_eq]at A;obtain⟨⟨N,rfl⟩,B⟩:=A;simp only[cA,OF,agO]at h;obtain⟨cs,c9,rfl,rfl⟩:=h;have:=D_ (qC I B) c9;have i_:b_=#[]:=by simpa using N
   exact⟨rfl,.func (.func (σ f)) (fst.map e.eval) #[],by simp only[execOp,F,Instr.makeFunc,i_];exact fU bv,(fst.map e.eval).toList,by rw[Array.toArray_toList],this⟩
  .simp at A
 case call f args h'=>cases h'<;>simp[cls]at hc
 case Es x=>
  simp only[ft]at A;split at A
  .rename_i s d y F;simp only[IS]at A;obtain⟨B,hd⟩:=A;have B:=cQ I B;split at hd
   .rename_i a i7 i8;simp only[IS]at hd;have n_:Q.underlying a=aa (.int .u8):=by
     have:=hd.1;unfold ac1 at this;split at this
     .assumption
     .simp_all
    simp only[cA,OF,agO]at h;obtain⟨v',H,rfl,rfl⟩:=h;obtain⟨u,O,S⟩:=QN hS B H;refine⟨rfl,u,?_,S⟩;simp only[execOp,F];refine fU ?_;simp only[convert,Sem.run_bind,bT i7,bT i8,Result.andThen_ok];have:∃ad l o,e.eval y=.slice ad l o:=by
     unfold wL at H;split at H
     .rename_i z hz;rw[hz]at B;split at H
      .rename_i l hl;obtain⟨ad,o,h⟩:=mY B hl;exact⟨_,_,_,h⟩
      .simp_all
     .simp_all
    obtain⟨ad,l,o,h6⟩:=this;rw[h6]at O ⊢;simp only[Sem.run_bind,bT n_,Result.andThen_ok,O]
   .simp_all
  .simp at A
end
section
variable{Q:Program}{σ:Nat->FuncId}{X:Wd}
def SR.lt(d:SR Q σ X)(h:X.dA b=aa M):b<X.H.length:=by
 obtain⟨_,_,cV,hb,_⟩:=d.br b M h
 grind
def SR.wq(b:SR Q σ X):X.dA X.H.length=ab:=by
 cases h:X.dA X.H.length with
 |none=>rfl| some L=>have:=SR.lt b h;omega
def Ext.one(x:SR Q σ X)(b0:Nat)(s:Y.B=X.B)(m:∀c i,Y.F c i↔X.F c i)
  (q:∀k,k<X.w.heap.size->(∀L,X.dA b0=aa L->k≠L.c)->Y.w.heap[k]?=X.w.heap[k]?)
  (u:∀L i,X.dA b0=aa L->X.F L.c i->Y.w.cell? ⟨L.c,i,ab⟩=X.w.cell? ⟨L.c,i,ab⟩) (l:b0<X.H.length->pG X Y b0)
  (v:∀b,b≠b0->b<X.H.length->Y.H[b]?=X.H[b]?) (j:∀b,b≠b0->Y.dA b=X.dA b)
  (A:∀L,Y.dA b0=aa L->(∃L0,X.dA b0=aa L0/\L0.c=L.c)\/X.w.heap.size<=L.c) (H:X.w.heap.size<=Y.w.heap.size) (ho:Y.w.os=X.w.os) (I:Y.w.tape=X.w.tape)
  (hu:Y.w.output=X.w.output):Ext X.H.length X Y where
 B:=s
 F:=λc i h=>(m c i).2 h
 tS:=λc i h=>.inl ((m c i).1 h)
 fw:=λc i h=>by
  by_cases hc:∃L,X.dA b0=aa L/\c=L.c
  .grind
  .exact World.cell?_of_block (q c (x.fb c i h) λL d e=>hc ⟨L,d,e⟩)
 bS:=λb hb=>by
  by_cases h:b=b0
  .simp_all
  .intro cV g;refine⟨cV,(v b h hb).trans g,?_⟩;have:∀L,X.dA b=aa L->Y.dA b=aa L:=λL d=>(j b h).trans d;cases cV<;>simp_all
 Bp:=λb L hb=>by
  grind
 size:=H
 os:=ho
 tape:=I
 output:=hu
 frame:=λk y z=>q k y λL d e=>z b0 L d e.symm
def SR.grow(d:SR Q σ X)(cV:bV):SR Q σ { X with H:=X.H++[cV] }/\Ext X.H.length X { X with H:=X.H++[cV] }:=by
 have g:Ext X.H.length X { X with H:=X.H++[cV] }:=Ext.one d X.H.length rfl (λ_ _=>Iff.rfl) (λ_ _ _=>rfl) (λ_ _ _ _=>rfl) (λh=>by omega)
  (λb _ h=>by simp[AI h]) (λ_ _=>rfl) (λL h=>by rw[SR.wq d]at h;simp at h) (agQ _) rfl rfl rfl
 refine⟨⟨λb L hb=>?_,d.inj,d.fb⟩,g⟩;obtain⟨h1,h2,blk',h3,h4⟩:=d.br b L hb;exact⟨h1,h2,blk',by rw[AI (SR.lt d hb)];exact h3,BR.ext Q σ g rfl (λ_ h=>h) h4⟩
structure fG(w w':World)(o:Obj):Prop where
 heap:w'.heap=w.heap.push o
 os:w'.os=w.os
 tape:w'.tape=w.tape
 output:w'.output=w.output
theorem fG.alloc(w:World)(o:Obj):fG w (w.alloc o) o:=⟨rfl,rfl,rfl,rfl⟩
def fG.Gf{w':World}{o:Obj}(h:fG w w' o)(b:l<w.heap.size):w'.heap[l]?=w.heap[l]?:=by
 rw[h.heap,Array.getElem?_push,cC ap]
def fG.new{w':World}{o:Obj}(h:fG w w' o):w'.heap[w.heap.size]?=aa o:=by
 rw[h.heap];simp
theorem fG.size{w w':World}{o:Obj}(h:fG w w' o):w'.heap.size=w.heap.size+1:=by
 rw[h.heap];simp
def SR.fill(g:SR Q σ X)(x:X.B<=X.w.heap.size){cV:bV}(y:X.H[N]?=aa cV)(u:X.dA N=ab){w':World}{o:Obj}(d:fG X.w w' o)(cap:Nat)
  (l:Ext X.H.length X { X with dA:=λb=>if b=N then aa ⟨X.w.heap.size,cap⟩else X.dA b,w:=w' }->BR Q σ { X with dA:=λb=>if b=N then aa ⟨X.w.heap.size,cap⟩else X.dA b,w:=w' } cV ⟨X.w.heap.size,cap⟩) :
  SR Q σ { X with dA:=λb=>if b=N then aa ⟨X.w.heap.size,cap⟩else X.dA b,w:=w' }/\Ext X.H.length X { X with dA:=λb=>if b=N then aa ⟨X.w.heap.size,cap⟩else X.dA b,w:=w' }:=by
 have m:Ext X.H.length X { X with dA:=λb=>if b=N then aa ⟨X.w.heap.size,cap⟩else X.dA b,w:=w' }:=
  Ext.one g N rfl (λ_ _=>Iff.rfl) (λk h _=>d.Gf h) (λL i s _=>by rw[u]at s;simp at s)
   (λ_ q j=>⟨q,j,by
    cases q<;>simp[u]⟩)
   (λ_ _ _=>rfl) (λb h=>by simp[h]) (λL h=>by simp at h;subst h;exact .inr (agQ _)) (by rw[d.size];omega) d.os d.tape d.output
 refine⟨SR.step Q σ g m N (λ_ _=>rfl) (λb h=>by simp[h]) (λb L _ hb=>d.Gf (g.br b L hb).2.1) (λ_ _ _ _ _ h=>h) (λL h=>?_) (λc i h=>by rw[d.size];have:=g.fb c i h;omega),m⟩;simp at h;subst h;refine⟨x,by simp[d.size],⟨cV,y,l m⟩,λb v _ hb=>?_⟩;have:=(g.br b v hb).2.1
 grind
def SR.new(d:SR Q σ X)(j:X.B<=X.w.heap.size)(cV:bV){o:Obj}(g:fG X.w w o)(cap:Nat)
  (b:∀X',Ext X.H.length X X'->X'.w=w->X'.F=X.F->X'.H=X.H++[cV]->BR Q σ X' cV ⟨X.w.heap.size,cap⟩) :
  ∃X',X'.w=w/\X'.H=X.H++[cV]/\SR Q σ X'/\Ext X.H.length X X'/\X'.dA X.H.length=aa ⟨X.w.heap.size,cap⟩/\X'.B<=X'.w.heap.size:=by
 obtain⟨h1,h2⟩:=SR.grow d cV;have l:(X.H++[cV])[X.H.length]?=aa cV:=lw
 obtain⟨h3,h4⟩:=SR.fill h1 j l (SR.wq d) g cap (λm=>b _ (h2.trans (m.mono bv)) rfl rfl rfl);exact⟨_,rfl,rfl,h3,h2.trans (h4.mono bv),bv,by simp[g.size];omega⟩
def SR.turn(m:SR Q σ X){cV blk':bV}(hb:X.H[b]?=aa cV)(l:X.dA b=aa M){w':World}(x:w'.heap.size=X.w.heap.size)
  (y:∀k,k≠M.c->w'.heap[k]?=X.w.heap[k]?) (z:∀i,X.F M.c i->w'.cell? ⟨M.c,i,ab⟩=X.w.cell? ⟨M.c,i,ab⟩) (ho:w'.os=X.w.os) (A:w'.tape=X.w.tape) (hu:w'.output=X.w.output)
  (j:pG X { X with H:=X.H.set b blk',w:=w' } b)
  (s:Ext X.H.length X { X with H:=X.H.set b blk',w:=w' }->BR Q σ { X with H:=X.H.set b blk',w:=w' } blk' M) :
  SR Q σ { X with H:=X.H.set b blk',w:=w' }/\Ext X.H.length X { X with H:=X.H.set b blk',w:=w' }:=by
 have u:b<X.H.length:=(aft.1 hb).1;have v:Ext X.H.length X { X with H:=X.H.set b blk',w:=w' }:=
  Ext.one m b rfl (λ_ _=>Iff.rfl) (λk _ h=>y k (h M l)) (λd i h=>by rw[l]at h;cases h;exact z i) (λ_=>j)
   (λq h _=>by simp[sh (Ne.symm h)]) (λ_ _=>rfl) (λd h=>.inl ⟨d,h,rfl⟩) (Nat.le_of_eq x.symm) ho A hu
 refine⟨SR.step Q σ m v b (λq h=>by simp[sh (Ne.symm h)]) (λ_ _=>rfl) (λq d h g=>y _ λe=>h (m.inj q b d M g l e)) (λ_ _ _ _ _ h=>h)
  (λd h=>?_) (λc i h=>by rw[x];exact m.fb c i h),v⟩
 change X.dA b=aa d at h;rw[l]at h;cases h;obtain⟨h1,h2,_⟩:=m.br b M l;exact⟨h1,by show M.c<w'.heap.size;omega,⟨blk',by simp[u],s v⟩,λq d h g e=>h (m.inj q b d M g l e)⟩
theorem mr{w:World}{c:Nat}{us:List Value}(h:rowAt w c us):∀(d:List Value) (b:Nat),b+d.length<=us.length->
  (w.setCells c b d).heap.size=w.heap.size/\(∀k,k≠c->(w.setCells c b d).heap[k]?=w.heap[k]?)/\(w.setCells c b d).os=w.os/\(w.setCells c b d).tape=w.tape/\
  (w.setCells c b d).output=w.output/\rowAt (w.setCells c b d) c (over us b d)
 |[],b,_=>⟨rfl,λ_ _=>rfl,rfl,rfl,rfl,by simpa[World.setCells,over]using h⟩
 |v::d,b,l=>by
  simp only[ahk]at l;have g:rowAt (w.setCell ⟨c,b,ab⟩ v) c (us.set b v):=by
   obtain⟨e,q,g,j⟩:=h;refine⟨e,q,?_,by simpa using j⟩;simp[World.setCell,Array.getElem?_modify,g]
  obtain⟨j,s,u,x,y,z⟩:=mr g d (b+1) ge;simp only[World.setCells];refine⟨by rw[j];simp,λk m=>(s k m).trans ?_,u,x,y,?_⟩
  .simp only[World.setCell,Array.getElem?_modify];rw[cC (by simpa using Ne.symm m)]
  .have:over (us.set b v) (b+1) d=over us b (v::d):=by
    unfold over;simp only[ahk];rw[List.take_set,List.drop_set_of_lt ap,show b+1+d.length=b+(d.length+1) by omega];rw[ajk ap];have l:(List.take b us).length=b:=pp
    have e:(List.take b us++[us[b]]).set b v=List.take b us++[v]:=by
     rw[List.set_append,cC ap,l];simp
    simp_all
   simp_all
def wy(h:rowAt w N B)(d:List Value)(b:Nat)(m:b+d.length<=B.length)(g:∀v∈d,v.oneCell'=ae) :
  (storeCells ⟨N,b,ab⟩ d).run Q w=.ok () (w.setCells N b d):=by
 have:=run_storeCells_cells (P:=Q) N b d 0 w (λj l=>by rw[fI h];simp;omega) (λj l=>Hm h ap) g;omega
def Fe{α:Type}(us:List α)(b:Nat)(d:List α)(h:b+d.length<=us.length)(i:Nat)(hi:i<b):(over us b d)[i]?=us[i]?:=by
 unfold over
 grind
end
section
variable{Q:Program}{σ:Nat->FuncId}{X:Wd}
def ke(Q:Program)(σ:Nat->FuncId)(X:Wd)(v:V)(H':an)(s:Sem Next):Prop:=
 ∃u X',(s.run Q X.w=.ok (.value u) X'.w\/(s.run Q X.w=.ok .skip X'.w/\u=undef))/\X'.H=H'/\SR Q σ X'/\VR σ X' v u/\Ext X.H.length X X'/\X'.B<=X'.w.heap.size
def ke.adi(b:X.B<=X.w.heap.size)(d:SR Q σ X){s:Sem Next}(h:I=X.H/\∃u,s.run Q X.w=.ok (.value u) X.w/\VR σ X v u):ke Q σ X v I s:=by
 obtain⟨rfl,u,h1,h2⟩:=h;exact⟨u,X,.inl h1,rfl,d,h2,Ext.refl _ _,b⟩
def rF{w':World}(h:fG w w' (.cells B.toArray t)):rowAt w' w.heap.size B:=⟨t,(0,0),h.new,λi _=>by simp⟩
def Ii(b:SR Q σ X)(g:X.B<=X.w.heap.size)(h:A2 (CR σ X) f B)(e:TypeId) :
  ∃X',X'.w=X.w.alloc (.cells B.toArray e)/\X'.H=X.H++[.box f 0]/\SR Q σ X'/\Ext X.H.length X X'/\X'.dA X.H.length=aa ⟨X.w.heap.size,0⟩/\X'.B<=X'.w.heap.size:=
 SR.new b g (.box f 0) (fG.alloc _ _) 0 λX' m l j _=>⟨B,by rw[l];exact rF (fG.alloc _ _),A2.ext' σ m h,λi _ d=>by
  rw[j]at d;have:=b.fb _ _ d;simp at this⟩
def zm(u:SR Q σ X)(q:X.B<=X.w.heap.size)(h:A2 (CR σ X) f B)(e:TypeId){s:Sem Next}
  (v:s.run Q X.w=.ok (.value (.pointer (aa ⟨X.w.heap.size,0,ab⟩))) (X.w.alloc (.cells B.toArray e))):ke Q σ X (.c (.ptr X.H.length 0 0)) (X.H++[.box f 0]) s:=by
 obtain⟨X',d,b,g,j,l,m⟩:=Ii u q h e;refine⟨_,X',.inl (by rw[d];exact v),b,g,?_,j,m⟩;exact⟨_,l,by rw[b];simp⟩
def Qp(m:SR Q σ X)(l:X.B<=X.w.heap.size){zs:List FC}(b:ft Q σ c (.alloc zs)=ae) :
  ke Q σ X (.c (.ptr X.H.length 0 0)) (X.H++[.box (zs.map .f) 0]) (execOp e.eval c):=by
 simp only[ft]at b;split at b
 .rename_i t q;obtain⟨z,us,d,g,j,_⟩:=gV (σ:=σ) (X:=X) b X.w;refine zm m l j t ?_;simp only[execOp,q];refine fU ?_;simp[Instr.alloc,d,newVar,newRow,g]
 .simp at b
def Y4(m:SR Q σ X)(j:X.B<=X.w.heap.size)(l:RR σ X r e.tmps)(b:ft Q σ c (.box z)=ae)(s:(z.ev r).cells?=aa f) :
  ke Q σ X (.c (.ptr X.H.length 0 0)) (X.H++[.box f 0]) (execOp e.eval c):=by
 simp only[ft]at b;split at b
 .rename_i t y q;obtain⟨us,d,g⟩:=tY (cQ l b) s;refine zm m j g t ?_;simp only[execOp,q];refine fU ?_;simp[Instr.box,newVar,newRow,d]
 .simp at b
def mZ(h:A2 (CR σ X) (q.map .f) B)(n:Nat):A2 (CR σ X) ((dQ n q).map .f) (dQ n B):=by
 induction n with
 |zero=>exact A2.nil
 |succ n b=>
  simp only[dQ,aiO,List.flatten_cons,List.map_append]at b ⊢;exact h.append b
def oA{α:Type}(n:Nat)(xs:List α):(dQ n xs).length=n*xs.length:=by simp[dQ]
theorem FF{α:Type}(us:List α):∀(n i:Nat),i<n*us.length->(dQ n us)[i]?=us[i % us.length]?
 |0,i,h=>by simp at h
 |n+1,i,h=>by
  have b:dQ (n+1) us=us++dQ n us:=by simp[dQ,aiO]
  rw[b];by_cases hi:i<us.length
  .rw[AI hi,Nat.mod_eq_of_lt hi]
  .have d:(n+1)*us.length=n*us.length+us.length:=by rw[ahi];omega
   rw[agL ap,FF us n (i-us.length) ap];rw[<-Nat.mod_eq_sub_mod ap]
def lN(us:List Value)(n:Nat)(l:0<us.length):((Array.range (n*us.length)).map λi=>us.toArray[i % us.toArray.size]!)=(dQ n us).toArray:=by
 apply Array.ext
 .simp[oA]
 .intro i b g;have d:i<n*us.length:=by simpa using b
  have j:=FF us n i d
  grind
def LZ(d:SR Q σ X)(hB:X.B<=X.w.heap.size){aT:T}(hR:RR σ X aT e.tmps){sz:Nat}{zs:List FC}{ps:List (Nat × Arg)}
  (m:ft Q σ c (.iR sz zs b ps)=ae) {H':an} (h:cA aT X.H (.iR sz zs b ps)=aa (v,H')):ke Q σ X v H' (execOp e.eval c):=by
 simp only[ft]at m;split at m
 .rename_i t l qs f;simp only[IS,beq_iff_eq,decide_eq_true_eq]at m;obtain⟨⟨⟨⟨rfl,W⟩,A⟩,a_⟩,r⟩:=m;obtain⟨a,hu,A⟩:=kS A;simp only[IS,decide_eq_true_eq]at A;obtain⟨⟨s,hz⟩,c9⟩:=A;obtain⟨z,us,O,S,u,_⟩:=gV (σ:=σ) (X:=X) hz X.w;have N:us.length=sz:=by have:=u.len;simp at this;omega
  simp only[cA]at h;split at h
  .
   rename_i Y;subst Y;split at h
   .rename_i b_;simp only[AT,agO]at h;obtain⟨rfl,rfl⟩:=h;have j:qs.toList=[]:=by
     have:=(gH r).len
     grind
    have j:qs=#[]:=by apply Array.ext';simpa using j
    obtain⟨X',F,y,H,I,U,J⟩:∃X':Wd,X'.w=X.w.alloc (.cells #[] a)/\X'.H=X.H/\SR Q σ X'/\Ext X.H.length X X'/\True/\X'.B<=X'.w.heap.size:=by
     have hx:Ext X.H.length X { X with w:=X.w.alloc (.cells #[] a) }:=Ext.one d X.H.length rfl (λ_ _=>Iff.rfl) (λk hk _=>(fG.alloc _ _).Gf hk)
      (λL i h=>by rw[SR.wq d]at h;simp at h) (λh=>by omega) (λ_ _ _=>rfl) (λ_ _=>rfl) (λL h=>by rw[SR.wq d]at h;simp at h) bv rfl rfl rfl
     refine⟨{ X with w:=X.w.alloc (.cells #[] a) },rfl,rfl,SR.step Q σ d hx X.H.length (λ_ _=>rfl) (λ_ _=>rfl) (λn L _ hb=>(fG.alloc _ _).Gf (d.br n L hb).2.1)
      (λ_ _ _ _ _ h=>h) (λL h=>by rw[SR.wq d]at h;simp at h) (λo i h=>?_),hx,trivial,?_⟩
     .have:=d.fb o i h;simp;omega
     .simp;omega
    refine⟨.slice (aa ⟨X.w.heap.size,0,ab⟩) 0 0,X',.inl ?_,y,H,dJ.es _,I,J⟩;rw[F];simp only[execOp,f];refine fU ?_;simp[Instr.buildSlice,bT hu,dZ s,j,Instr.fill,newRow,show Array.range 0=(#[]:Array Nat) from rfl]
   .simp at h
  .rename_i Y;simp only[OF,agO]at h;obtain⟨cs,K,rfl,rfl⟩:=h;obtain⟨c_,U,J⟩:=rp (place:=λi=>aa (i*sz,sz)) (ps:=qs.toList) hR (qs:=ps.map λp=>(p.1*sz,sz,p.2)) (A2.map ((gH r).oF λq p g=>by
    simp only[IS,beq_iff_eq]at g;exact⟨by rw[g.1],g.2⟩)) (mZ u l) K
   obtain⟨X',F,y,H,I,h7,h8⟩:=Ii d hB J a;refine⟨.slice (aa ⟨X.w.heap.size,0,ab⟩) l l,X',.inl ?_,y,H,?_,I,h8⟩
   .rw[F];simp only[execOp,f];refine fU ?_;have M:l*sz≠0:=by
     intro B;rcases ai9.1 B with B|B<;>omega
    have x:=lN us l ap;rw[N]at x;simp only[Instr.buildSlice,Sem.run_bind,bT hu,dZ s,Result.andThen_ok,cC (show¬ l*sz>2 ^ 24 by omega),Sem.run_ite,cC M,O,Sem.run_pure,S];simp only[Array.toList_map];rw[x];simp[U,newRow]
   .simp only[VR,kg,CR,iS,y];simp_all
 .simp at m
theorem Jv:∀{cs:List C} {b:List FC},VH cs=aa b->cs=b.map .f
 |[],b,h=>by simp[VH]at h;subst h;rfl
 |c::cs,b,h=>by
  cases c with
  |f x=>
   simp only[VH,OF]at h;obtain⟨g,d,rfl⟩:=h;rw[Jv d];rfl
  |_=>simp[VH]at h
def Bl(s:SR Q σ X)(hB:X.B<=X.w.heap.size){aT:T}(hR:RR σ X aT e.tmps){sz:Nat}{zs:List FC}{ps:List (Nat × Arg)}
  (K:ft Q σ c (.lS sz zs b ps)=ae) {H':an} (h:cA aT d (.lS sz zs b ps)=aa (v,H')) :
  H'=d/\∃u X',(execOp e.eval c).run Q X.w=.ok (.value u) X'.w/\X'.H=X.H/\SR Q σ X'/\VR σ X' v u/\Ext X.H.length X X'/\X'.B<=X'.w.heap.size/\X'.dA=X.dA:=by
 simp only[ft]at K;split at K
 .rename_i t j qs ho;simp only[IS,beq_iff_eq,decide_eq_true_eq]at K;obtain⟨⟨⟨⟨rfl,d_⟩,U⟩,e_⟩,hq⟩:=K;obtain⟨a,W,U⟩:=kS U;simp only[IS,decide_eq_true_eq]at U;obtain⟨⟨a_,hz⟩,f_⟩:=U;obtain⟨z,us,c_,d9,O,_⟩:=gV (σ:=σ) (X:=X) hz X.w;have b_:us.length=sz:=by have:=O.len;simp at this;omega
  simp only[cA,OF,ahh,agO]at h;obtain⟨fs,⟨cs,f,l⟩,rfl,rfl⟩:=h;split at l
  .simp at l
  rename_i hn;have A:=Jv l;obtain⟨H,h5,h6⟩:=rp (place:=λi=>aa (i*sz,sz)) (ps:=qs.toList) hR (qs:=ps.map λp=>(p.1*sz,sz,p.2)) (A2.map ((gH hq).oF λq p m=>by
   simp only[IS,beq_iff_eq]at m;exact⟨by rw[m.1],m.2⟩)) (mZ O j) f
  have g:fG X.w (X.w.alloc (.cells H.toArray a)) (.cells H.toArray a):=fG.alloc _ _;obtain⟨w',N⟩:=aH (X.w.alloc (.cells H.toArray a));rw[<-N]at g;have I:∀o i,X.F o i->w'.cell? ⟨o,i,ab⟩=X.w.cell? ⟨o,i,ab⟩:=λo i h=>World.cell?_of_block (g.Gf (s.fb o i h));have hx:Ext X.H.length X { X with w:=w',F:=λo i=>X.F o i\/(o=X.w.heap.size/\i<H.length) }:={
   B:=rfl
   F:=λo i h=>.inl h
   tS:=λo i h=>h.elim .inl λh=>.inr (.inl (by rw[h.1];exact agQ _))
   fw:=I
   bS:=λn _ cV y=>⟨cV,y,by cases cV<;>simp⟩
   Bp:=λn L h=>.inl ⟨n,L,h,rfl⟩
   size:=by show _<=w'.heap.size;rw[g.size];omega
   os:=g.os
   tape:=g.tape
   output:=g.output
   frame:=λk hk _=>g.Gf hk }
  refine⟨rfl,.slice (aa ⟨X.w.heap.size,0,ab⟩) j j,{ X with w:=w',F:=λo i=>X.F o i\/(o=X.w.heap.size/\i<H.length) },?_,rfl,?_,?_,hx,?_,rfl⟩
  .simp only[execOp,ho];refine fU ?_;have r:j*sz≠0:=by
    intro Y;rcases ai9.1 Y with Y|Y<;>omega
   have S:=lN us j ap;rw[b_]at S;simp only[Instr.buildSlice,Sem.run_bind,bT W,dZ a_,Result.andThen_ok,cC (show¬ j*sz>2 ^ 24 by omega),Sem.run_ite,cC r,c_,Sem.run_pure,d9];simp only[Array.toList_map];rw[S];simp[h5,newRow,N]
  .exact SR.step Q σ s hx X.H.length (λ_ _=>rfl) (λ_ _=>rfl) (λn L _ y=>g.Gf (s.br n L y).2.1)
    (λn L _ y i h=>h.elim id λh=>by have:=(s.br n L y).2.1;omega) (λL h=>by change X.dA X.H.length=aa L at h;rw[SR.wq s]at h;simp at h)
    (λo i h=>by
     show o<w'.heap.size;rw[g.size];rcases h with h|h
     .have:=s.fb o i h;omega
     .omega)
  .have J:H.length=fs.length:=by have:=h6.len;rw[A]at this;simp at this;omega
   refine dJ.fs fs j X.w.heap.size 0 j H (agQ _) J (λi hi=>.inr ⟨rfl,ap⟩) (λi u W=>?_) λi x u c9 W=>?_
   .simp_all
   .obtain⟨u',M,hr⟩:=h6.get (i:=i) (x:=.f x) (by rw[A,ahF,c9];rfl);rw[W]at M;cases M;exact dJ.mono (λo i h=>.inl h) I hr
  .show X.B<=w'.heap.size;rw[g.size];omega
 .simp at K
end
section
variable{Q:Program}{σ:Nat->FuncId}{X:Wd}
def Fc{α:Type}(us rest:List α)(b:Nat)(d:List α)(h:b+d.length<=us.length):over (us++rest) b d=over us b d++rest:=by
 unfold over
 grind
theorem A2.one{cs:List C}{us:List Value}(h:A2 (CR σ X) cs us):∀v∈us,v.oneCell'=ae:=by
 intro v d;obtain⟨i,hi⟩:=aia d;have b:i<cs.length:=by rw[h.len];exact(aft.1 hi).1
 exact CR.one σ (h.2 i _ v (BY b) hi)
def F9(z:SR Q σ X){fl:Nat}(q:X.H[b]?=aa (.box f fl))(y:X.dA b=aa M){xs:List C}(v:A2 (CR σ X) xs B)
  (J:fl<=N) (Y:N+xs.length<=f.length):∃X',(storeCells ⟨M.c,N,ab⟩ B).run Q X.w=.ok () X'.w/\X'.H=X.H.set b (.box (over f N xs) fl)/\SR Q σ X'/\Ext X.H.length X X'/\
   (∀b,X'.dA b=X.dA b)/\X'.w.heap.size=X.w.heap.size/\X'.B=X.B:=by
 obtain⟨_,_,cV,j,s⟩:=z.br b M y;rw[q]at j;simp only[AT]at j;subst j;obtain⟨us,u,x,F⟩:=s;have L:=v.len;have K:=x.len;obtain⟨A,d,O,S,U,l⟩:=mr u B N ap;obtain⟨H,I⟩:=SR.turn z (blk':=.box (over f N xs) fl) q y A d (λi W=>by
   rw[fI l,fI u];have:i<N:=by
    grind
   exact Fe us N B ap i this) O S U
  (λcV g=>⟨.box (over f N xs) fl,by simp[(aft.1 q).1],by rw[q]at g;simp only[AT]at g;subst g;exact λM h=>h⟩)
  (λm=>⟨over us N B,l,A2.over (A2.ext' σ m x) (A2.ext' σ m v) N,F⟩)
 exact⟨_,wy u B N ap (A2.one v),rfl,H,I,λ_=>rfl,A,rfl⟩
def F_(B:SR Q σ X){sz:Nat}{cs:List C}{fl:Nat}(s:X.H[b]?=aa (.dz sz cs fl l .loc))(A:X.dA b=aa M){xs:List C}{q:List Value}(x:A2 (CR σ X) xs q)
  (O:fl<=N) (S:N+xs.length<=cs.length):∃X',(storeCells ⟨M.c,N,ab⟩ q).run Q X.w=.ok () X'.w/\X'.H=X.H.set b (.dz sz (over cs N xs) fl l .loc)/\SR Q σ X'/\Ext X.H.length X X'/\
   (∀b,X'.dA b=X.dA b)/\X'.w.heap.size=X.w.heap.size/\X'.B=X.B:=by
 obtain⟨_,_,cV,j,u⟩:=B.br b M A;rw[s]at j;simp only[AT]at j;subst j;obtain⟨W,us,rest,v,z,K,L,d,H⟩:=u;have a:=x.len;have Y:=z.len;obtain⟨F,c,e,f,k,y⟩:=mr v q N ge;rw[Fc _ _ _ _ ap]at y;have U:=Ff us N q ap;obtain⟨I,J⟩:=SR.turn B (blk':=.dz sz (over cs N xs) fl l .loc) s A F c (λi n=>by
   rw[fI y,fI v];have:i<N:=by
    grind
   rw[AI ap,AI ap];exact Fe us N q ap i this) e f k
  (λcV g=>⟨.dz sz (over cs N xs) fl l .loc,by simp[(aft.1 s).1],by rw[s]at g;simp only[AT]at g;subst g;exact⟨rfl,.inl ⟨rfl,rfl,λM h=>h⟩⟩⟩)
  (λm=>⟨rfl,over us N q,rest,y,A2.over (A2.ext' σ m z) (A2.ext' σ m x) N,by simp only[agM]at K ⊢;omega,L,by rw[Ff cs N xs S];exact d,H⟩)
 exact⟨_,wy v q N ge (A2.one x),rfl,I,J,λ_=>rfl,F,rfl⟩
def SL(s:SR Q σ X)(d:CR σ X h u)(m:A2 (CR σ X) f B){H':an}(x:dj X.H h f=aa H') :
  ∃c g X',u=.pointer (aa ⟨c,g,ab⟩)/\(storeCells ⟨c,g,ab⟩ B).run Q X.w=.ok () X'.w/\X'.H=H'/\SR Q σ X'/\Ext X.H.length X X'/\X'.w.heap.size=X.w.heap.size/\X'.B=X.B:=by
 unfold dj at x;split at x
 .rename_i b g I;obtain⟨L,q,d⟩:=d;split at x
  .rename_i cs fl l;rw[l]at d;simp only at d;subst d;split at x
   .rename_i j;simp only[AT]at x;subst x;obtain⟨X',y,z,A,v,_,F,H⟩:=F9 s l q m j.1 j.2
    grind
   .simp at x
  .rename_i sz cs fl e l;rw[l]at d;split at x
   .rename_i j;have d:=d.2.1 j.1;subst d;simp only[AT]at x;subst x;obtain⟨X',y,z,A,v,_,F,H⟩:=F_ s l q m j.2.1 j.2.2
    grind
   .simp at x
  .simp at x
 .simp at x
def SO(B:SR Q σ X)(a:X.B<=X.w.heap.size)(q:RR σ X r e.tmps){y:Arg}(n:ft Q σ c (.store b z y)=ae){H':an}
  (h:cA r X.H (.store b z y)=aa (v,H')):ke Q σ X v H' (execOp e.eval c):=by
 simp only[ft]at n;split at n
 .rename_i t N O H;simp only[IS]at n;obtain⟨⟨F,g⟩,m⟩:=n;have g:=cQ q g;have m:=cQ q m;simp only[cA]at h;split at h
  .rename_i p xs I l;rw[I]at g;split at h
   .rename_i s;simp only[OF,agO]at h;obtain⟨S,j,rfl,rfl⟩:=h;obtain⟨f,K,d⟩:=tY m l;obtain⟨o,M,X',J,U,u,x,A,W,Y⟩:=SL B g d j;refine⟨undef,X',.inr ⟨?_,rfl⟩,u,x,trivial,A,ap⟩;have L:=d.len;simp only[execOp,H,Sem.run_bind];have:(Instr.storeAt t (e.eval N) (e.eval O)).run Q X.w=.ok () X'.w:=by
     rw[J];simp[Instr.storeAt,Instr.sureAddr,storeVar,dZ F,K];simp_all
    simp_all
   .simp at h
  .simp at h
 .simp at n
end
section
variable{Q:Program}{σ:Nat->FuncId}{X:Wd}
theorem Bn(n:Nat):∀(r c:Nat),Builtin.growBy n r c<=Nat.max c (n+(n+768) / 4)
 |0,c=>by simp[Builtin.growBy];exact ahD _ _
 |r+1,c=>by
  simp only[Builtin.growBy];split
  .grind
  .rename_i h;refine ahd (Bn n r _) ?_
   grind
def zn{need cap:Nat}(h:cap<need):Builtin.nextslicecap need cap<=2*need+768:=by
 unfold Builtin.nextslicecap;split
 .omega
 .split
  .omega
  .refine ahd (Bn need 4 cap) ?_
   grind
def DZ(L:SR Q σ X){sz:Nat}(y:VR σ X v u)(h:dI X.H sz v=aa (b,f)) :
  ∃H,(Builtin.lenOf u).run Q X.w=.ok b X.w/\(Builtin.firstCells sz b u).run Q X.w=.ok H.toArray X.w/\A2 (CR σ X) f H/\f.length=b*sz:=by
 unfold dI at h;split at h
 .rename_i s;have:=VR.str y;subst this;split at h
  case isFalse=>simp at h
  rename_i q;subst q;simp only[AT,agO]at h;obtain⟨rfl,rfl⟩:=h;have g:s.extract 0 s.size=s:=ByteArray.extract_zero_size;refine⟨s.data.toList.map λm=>.int .u8 m.toNat,by simp[Builtin.lenOf],?_,?_,?_⟩
  .simp only[Builtin.firstCells,g,Sem.run_pure]
   congr 1
   grind
  .rw[ByteArray.toList_eq];exact⟨bv,λi x u F B=>by
    simp only[ahF,OF]at F B;obtain⟨c,M,rfl⟩:=F;obtain⟨d,z,rfl⟩:=B;rw[M]at z;cases z;exact dJ.int _ _⟩
  .rw[ByteArray.toList_eq];simp only[agS,Array.length_toList,Nat.mul_one];rfl
 .rename_i x N;split at h
  .rename_i l cs A j;simp only[AT,agO]at h;obtain⟨rfl,rfl⟩:=h;obtain⟨us,I,J,K⟩:=po L y A j;obtain⟨a,c,rfl⟩:=mY y A;exact⟨us,by simp[Builtin.lenOf],I,J,K⟩
  .simp at h
 .simp at h
structure abP(Q:Program)(t t' e:TypeId)(sz bytes:Nat):Prop where
 hu:Q.underlying t=aa (.slice e)
 hu':∃d,Q.underlying t'=aa d/\(∀k,d≠.int k)
 xB:eF Q e sz=ae
 hby:qR Q e bytes=ae
 pos:0<sz
 zero:∃i z,Q.info? e=aa i/\i.zero=aa z/\z.cells.size=sz
def wv(base:Option Addr)(k:Nat)(b:List Value):Sem Unit:=match base with
 |some a=>storeCells (a.add k) b| none=>pure ()
def mX{e:TypeId}{sz bytes:Nat}(j:abP Q t O e sz bytes)(W:TypeId){base:Option Addr}{cap:Nat}
  (S:(Builtin.lenOf u).run Q w=.ok b w) (Y:(Builtin.firstCells sz b u).run Q w=.ok B.toArray w) :
  (l+b<=cap->(Builtin.append_ #[t,O] W #[.slice base l cap,u]).run Q w =
   ((wv base (l*sz) B).run Q w).andThen λ_ w'=>.ok (.slice base (l+b) cap) w')/\
  (¬ l+b<=cap->cF (l+b) bytes=ae->∀os B:List Value,(Builtin.firstCells sz l (.slice base l cap)).run Q w.drew=.ok os.toArray w.drew->(Builtin.firstCells sz b u).run Q w.drew=.ok B.toArray w.drew->
   ∃nc rest w',l+b<=nc/\(Builtin.append_ #[t,O] W #[.slice base l cap,u]).run Q w=.ok (.slice (aa ⟨w.heap.size,0,ab⟩) (l+b) nc) w'/\
    fG w w' (.cells (os++B++rest).toArray e)/\rest.length=(nc-(l+b))*sz):=by
 obtain⟨d,U,f⟩:=j.hu';obtain⟨i,z,hi,h,y⟩:=j.zero;obtain⟨q,s,g⟩:=Du j.hby w;have A:((d matches .int _):Bool)=ag:=by
  simp
 constructor
 .intro I;simp only[Builtin.append_,aiH];simp[bT j.hu,bT U,dZ j.xB,A,S,I,Y];cases base<;>simp[wv]
 .intro H m os B a c;unfold cF at m;simp only[IS,decide_eq_true_eq]at m;have v:q=i:=by
   simp[typeInfo,hi]at s;exact s.symm
  subst v;have J:¬ (Builtin.nextslicecap (l+b) cap*q.bytes>2 ^ 48):=by
   rw[g];have:=zn (need:=l+b) (cap:=cap) ap;have:=ahA bytes this;omega
  let nc:=(Question.appendCap (l+b) cap e).cut (w.tape w.drawn (.appendCap (l+b) cap e))
  have K:l+b<=nc:=by simp[nc,Question.cut]
  refine⟨nc,dQ (nc-(l+b)) z.cells.toList,w.drew.alloc (.cells (os++B++dQ (nc-(l+b)) z.cells.toList).toArray e),K,?_,⟨rfl,rfl,rfl,rfl⟩,by rw[oA];simp[y]⟩;have F:(choose (.appendCap (l+b) cap e)).run Q w=.ok nc w.drew:=by
   rfl
  have M:Builtin.zeroCells z.cells (nc-(l+b))=(dQ (nc-(l+b)) z.cells.toList).toArray:=by
   have:=lN z.cells.toList (nc-(l+b)) (by simp[y];exact j.pos)
   assumption
  have x:¬ (((l+b:Nat):Int)>IntKind.i64.max):=by
   have:IntKind.i64.max=9223372036854775807:=pi
   omega
  have N:∀w',(zeroValue e).run Q w'=.ok z w':=λw'=>by simp[zeroValue,typeInfo,hi,h]
  have L:∀w',(typeInfo e).run Q w'=.ok q w':=λw'=>by simp[typeInfo,hi]
  simp only[Builtin.append_,Sem.run_bind,bT j.hu,bT U,dZ j.xB,A,Result.andThen_ok,Sem.run_pure,ahb,if_false,S,cC H,Sem.run_ite,L,x,false_and,J,F,run_askRoom,a,
   Bool.not_false,if_true,c,N,M,newRow,run_newObj,aiH,aht,aho]
  have X:os.toArray++B.toArray++(dQ (nc-(l+b)) z.cells.toList).toArray=(os++B++dQ (nc-(l+b)) z.cells.toList).toArray:=lw
  rw[X];rfl
theorem SR.drew(b:SR Q σ X):SR Q σ { X with w:=X.w.drew }/\Ext X.H.length X { X with w:=X.w.drew }:=by
 have d:Ext X.H.length X { X with w:=X.w.drew }:=Ext.one b X.H.length rfl (λ_ _=>Iff.rfl) (λ_ _ _=>rfl) (λ_ _ _ _=>rfl) (λh=>by omega)
  (λ_ _ _=>rfl) (λ_ _=>rfl) (λL h=>.inl ⟨L,h,rfl⟩) (agQ _) rfl rfl rfl
 exact⟨SR.step Q σ b d X.H.length (λ_ _=>rfl) (λ_ _=>rfl) (λ_ _ _ _=>rfl) (λ_ _ _ _ _ h=>h) (λL h=>by
  change X.dA X.H.length=aa L at h;rw[SR.wq b]at h;simp at h) b.fb,d⟩
def RV(l:SR Q σ X)(A:X.B<=X.w.heap.size)(d:0<N){cs:List C}{us rest:List Value}(h:A2 (CR σ X) cs us){n nc:Nat}(q:cs.length=n*N)(H:rest.length=(nc-n)*N)(F:n<=nc)
(s:fG X.w w (.cells (us++rest).toArray t)) :
  ∃X',X'.w=w/\X'.H=X.H++[.dz N cs 0 0 .loc]/\SR Q σ X'/\Ext X.H.length X X'/\VR σ X' (.c (.sl X.H.length 0 n 0 0 N)) (.slice (aa ⟨X.w.heap.size,0,ab⟩) n nc)/\X'.B<=X'.w.heap.size:=by
 obtain⟨X',u,j,v,x,y,z⟩:=SR.new l A (.dz N cs 0 0 .loc) s nc λX' I g B _=>⟨rfl,us,rest,by rw[g];exact rF s,A2.ext' σ I h,by
  have:=h.len;rw[agM,H,<-this,q,<-ahi];congr 1;show n+(nc-n)=nc;omega,d,⟨n,q⟩,λi _ m=>by rw[B]at m;have:=l.fb _ _ m;simp at this⟩
 refine⟨X',u,j,v,x,?_,z⟩;have b:X'.H[X.H.length]?=aa (.dz N cs 0 0 .loc):=by rw[j];simp
 simp only[VR,kg,CR,iS,b];exact⟨agQ _,λ_ _=>⟨_,y,0,ap,by show 0+n<=nc;omega,bv⟩,_,_,_,rfl⟩
def CY(q:SR Q σ X)(S:X.B<=X.w.heap.size){sz:Nat}{cs:List C}{fl:Nat}{st:Os}(I:X.H[b]?=aa (.dz sz f fl l st)){ys:List C}{us rest:List Value}(J:A2 (CR σ X) cs us)(M:A2 (CR σ X) ys B)
  (A:0<sz) {nc:Nat} (K:cs.length+ys.length=N*sz) (Y:rest.length=(nc-N)*sz) (W:N<=nc) {w':World} (j:fG X.w w' (.cells (us++B++rest).toArray t)) :
  ∃X',X'.w=w'/\X'.H=X.H.set b (.dz sz (cs++ys) fl (l+1) .loc)/\SR Q σ X'/\Ext X.H.length X X'/\VR σ X' (.c (.sl b 0 N 0 (l+1) sz)) (.slice (aa ⟨X.w.heap.size,0,ab⟩) N nc)/\X'.B<=X'.w.heap.size:=by
 have z:b<X.H.length:=(aft.1 I).1
 let X':Wd:={ X with H:=X.H.set b (.dz sz (cs++ys) fl (l+1) .loc),dA:=λk=>if k=b then aa ⟨X.w.heap.size,nc⟩else X.dA k,w:=w' }
 have g:X'.H[b]?=aa (.dz sz (cs++ys) fl (l+1) .loc):=by simp[X',z]
 have u:X'.dA b=aa ⟨X.w.heap.size,nc⟩:=by simp[X']
 have v:Ext X.H.length X X':=Ext.one q b rfl (λ_ _=>Iff.rfl) (λk U _=>j.Gf U) (λL i a y=>World.cell?_of_block (j.Gf (q.fb _ _ y)))
  (λ_ cV d=>⟨_,g,by rw[I]at d;simp only[AT]at d;subst d;exact⟨rfl,.inr ⟨ap,rfl,_,u⟩⟩⟩)
  (λm h _=>by simp[X',sh (Ne.symm h)]) (λm h=>by simp[X',h]) (λL h=>by rw[u]at h;simp only[AT]at h;subst h;exact .inr (agQ _)) (by show X.w.heap.size<=w'.heap.size;rw[j.size];omega) j.os j.tape j.output
 refine⟨X',rfl,rfl,SR.step Q σ q v b (λm h=>by simp[X',sh (Ne.symm h)]) (λm h=>by simp[X',h]) (λm L _ s=>j.Gf (q.br m L s).2.1) (λ_ _ _ _ _ h=>h) (λL h=>?_) (λc i h=>?_),v,?_,?_⟩
 .rw[u]at h;simp only[AT]at h;subst h;refine⟨S,by show X.w.heap.size<w'.heap.size;rw[j.size];omega,⟨_,g,rfl,us++B,rest,rF j,(A2.ext' σ v J).append (A2.ext' σ v M),?_,A,⟨N,by simpa using K⟩,λi _ y=>?_⟩,λm F _ s=>?_⟩
  .have n:=J.len;have O:=M.len;rw[agM,agM,Y,<-n,<-O,K,<-ahi];congr 1;show N+(nc-N)=nc;omega
  .have:=q.fb _ _ y;simp at this
  .have:=(q.br m F s).2.1;show F.c≠X.w.heap.size;omega
 .have:=q.fb c i h;show c<w'.heap.size;rw[j.size];omega
 .simp only[VR,kg,CR,iS,g];exact⟨agQ _,λ_ _=>⟨_,u,0,ap,by show 0+N<=nc;omega,bv⟩,_,_,_,rfl⟩
 .show X.B<=w'.heap.size;rw[j.size];omega
end
section
variable{Q:Program}{σ:Nat->FuncId}{X:Wd}
def Sc{α:Type}(us rest b:List α)(h:b.length<=rest.length):over (us++rest) us.length b=us++b++rest.drop b.length:=by
 unfold over;simp
def aab(L:SR Q σ X){sz:Nat}{cs:List C}{fl:Nat}(z:X.H[b]?=aa (.dz sz cs fl l .loc))(y:X.dA b=aa M){ys:List C}(I:A2 (CR σ X) ys B)(Y:fl<=cs.length)
(a:cs.length+ys.length=N*sz) (q:N<=M.cap):∃X',(storeCells ⟨M.c,cs.length,ab⟩ B).run Q X.w=.ok () X'.w/\X'.H=X.H.set b (.dz sz (cs++ys) fl (l+1) .loc)/\SR Q σ X'/\
   Ext X.H.length X X'/\VR σ X' (.c (.sl b 0 N 0 (l+1) sz)) (.slice (aa ⟨M.c,0,ab⟩) N M.cap)/\X'.w.heap.size=X.w.heap.size/\X'.B=X.B:=by
 obtain⟨_,_,cV,j,A⟩:=L.br b M y;rw[z]at j;simp only[AT]at j;subst j;obtain⟨_,us,rest,m,J,K,W,o,O⟩:=A;have s:b<X.H.length:=(aft.1 z).1;have c:=I.len;have g:=J.len;have H:N*sz<=M.cap*sz:=ahA sz q;have F:B.length<=rest.length:=by simp only[agM]at K;omega
 obtain⟨n,e,f,h,k,x⟩:=mr m B cs.length ge;rw[g,Sc _ _ _ F]at x;rw[<-g]at x;obtain⟨S,U⟩:=SR.turn L (blk':=.dz sz (cs++ys) fl (l+1) .loc) z y n e (λi p=>by
   have hi:i<fl:=by
    grind
   have:=fI x i;rw[g]at this ⊢;rw[this,fI m,List.append_assoc,AI ap,AI ap]) f h k
  (λcV d=>⟨.dz sz (cs++ys) fl (l+1) .loc,by simp[s],by rw[z]at d;simp only[AT]at d;subst d;exact⟨rfl,.inr ⟨ap,rfl,M,y⟩⟩⟩)
  (λv=>⟨rfl,us++B,rest.drop B.length,by rw[g]at x ⊢;exact x,(A2.ext' σ v J).append (A2.ext' σ v I),by simp only[agM,ag5]at K ⊢;omega,W,⟨N,by simpa using a⟩,O⟩)
 refine⟨_,wy m B cs.length ge (A2.one I),rfl,S,U,?_,n,rfl⟩;have u:(X.H.set b (.dz sz (cs++ys) fl (l+1) .loc))[b]?=aa (.dz sz (cs++ys) fl (l+1) .loc):=by simp[s]
 simp only[VR,kg,CR,iS,u];exact⟨agQ _,λ_ _=>⟨M,y,0,ap,ap,bv⟩,_,_,_,rfl⟩
def C9{bytes:Nat}{y:Arg}(h:fC Q σ A (.append N bytes z y)=ae):∃u v t l e,A.callee=.builtin .append/\A.args=#[u,v]/\A.argTypes=#[t,l]/\mA σ z u=ae/\mA σ y v=ae/\
  abP Q t l e N bytes:=by
 simp only[fC]at h;split at h
 .rename_i u v t l c B F;simp only[IS]at h;obtain⟨⟨⟨J,K⟩,j⟩,H⟩:=h;obtain⟨e,I,j⟩:=kS j;simp only[IS,decide_eq_true_eq]at j;obtain⟨⟨⟨q,m⟩,d⟩,g⟩:=j;have s:∃i x,Q.info? e=aa i/\i.zero=aa x/\x.cells.size=N:=by
   cases hi:Q.info? e with
   |none=>simp[hi]at g
   |some i=>
    simp only[hi,ajy]at g;cases b:i.zero with
    |none=>simp[b]at g| some x=>simp[b]at g;exact⟨i,x,rfl,b,g⟩
  refine⟨u,v,t,l,e,c,TI B,TI F,J,K,⟨I,?_,q,m,d,s⟩⟩
  grind
 .simp at h
def LW(O:SR Q σ X)(hB:X.B<=X.w.heap.size){aT:T}(hR:RR σ X aT e.tmps){sz bytes:Nat}{y:Arg}(hm:ft Q σ c (.append sz bytes z y)=ae){H':an}
  (h:cA aT X.H (.append sz bytes z y)=aa (v,H')):ke Q σ X v H' (execOp e.eval c):=by
 simp only[ft]at hm;split at hm
 .rename_i o ho;obtain⟨u,v',t,t',a,h1,h2,h3,W,hy,ht⟩:=C9 hm;have W:=cQ hR W;have hy:=cQ hR hy;simp only[cA]at h;generalize r_:e.eval u=ux at W;generalize s7:e.eval v'=uy at hy;generalize z.ev aT=vx at W h;generalize y.ev aT=vy at hy h;have b_:∀(r:Value) (w':World),(Builtin.append_ #[t,t'] c.type #[ux,uy]).run Q X.w=.ok r w'->(execOp e.eval c).run Q X.w=.ok (.value r) w':=by
   intro r w' hr;refine eU ho h1 λcs=>?_;simp[builtin,h2,h3,r_,s7,hr]
  unfold bZ at h;split at h
  .simp at h
  rename_i m ys i7;rw[cC (by have:=ht.pos;omega)]at h;obtain⟨vs,d9,c_,f_,i6⟩:=DZ O hy i7;obtain⟨S,j9⟩:=SR.drew O;obtain⟨a_,_,g_,m_,_⟩:=DZ S (VR.ext' σ j9 hy) i7;have A:A2 (CR σ X) ys a_:=by
   have e_:Ext X.H.length { X with w:=X.w.drew } X:=Ext.one S X.H.length rfl (λ_ _=>Iff.rfl) (λ_ _ _=>rfl) (λ_ _ _ _=>rfl) (λh=>absurd h (ai5 _))
    (λ_ _ _=>rfl) (λ_ _=>rfl) (λL h=>.inl ⟨L,h,rfl⟩) (agQ _) rfl rfl rfl
   exact A2.ext' σ (X:={ X with w:=X.w.drew }) e_ m_
  have c9:∀{base:Option Addr} {l cap:Nat} {os:List Value} {cs:List C},ux=.slice base l cap->¬ l+m<=cap->cF (l+m) bytes=ae->
    (Builtin.firstCells sz l (.slice base l cap)).run Q X.w.drew=.ok os.toArray X.w.drew->A2 (CR σ X) cs os->cs.length=l*sz->
    ke Q σ X (.c (.sl X.H.length 0 (l+m) 0 0 sz)) (X.H++[.dz sz (cs++ys) 0 0 .loc]) (execOp e.eval c):=by
   intro base l cap os cs hu l_ d p_ p9 o_;obtain⟨nc,rest,w',I,j,g,J⟩:=(mX ht c.type (base:=base) (l:=l) (cap:=cap) d9 c_).2 l_ d os a_ p_ g_;obtain⟨X',K,H,M,N,g5,g6⟩:=RV O hB ht.pos (cs:=cs++ys) (us:=os++a_) (p9.append A) (n:=l+m) (nc:=nc) (by rw[agM,o_,i6,ahi]) J I g;exact⟨_,X',.inl (by rw[K];exact b_ _ _ (by rw[hu];exact j)),H,M,g5,N,g6⟩
  have q:∀{base:Option Addr} {l cap:Nat} {X':Wd},ux=.slice base l cap->l+m<=cap->(wv base (l*sz) vs).run Q X.w=.ok () X'.w->
    (execOp e.eval c).run Q X.w=.ok (.value (.slice base (l+m) cap)) X'.w:=by
   intro base l cap X' hu x r9;refine b_ _ _ ?_;rw[hu,(mX ht c.type (base:=base) (l:=l) (cap:=cap) d9 c_).1 x,r9];rfl
  split at h
  .
   cases (W:dJ σ X.F X.w .aN ux);split at h
   .rename_i U;subst U;simp only[AT,agO]at h;obtain⟨rfl,rfl⟩:=h;exact⟨_,X,.inl (q (X':=X) rfl ap rfl),rfl,O,dJ.aN,Ext.refl _ _,hB⟩
   .split at h
    .rename_i d;simp only[AT,agO]at h;obtain⟨rfl,rfl⟩:=h;have:=c9 (base:=ab) (l:=0) (cap:=0) (os:=[]) (cs:=[]) rfl ap (by simpa using d) (by simp[Builtin.firstCells]) A2.nil bv;simp_all
    .simp_all
  .
   cases (W:dJ σ X.F X.w .es ux);rename_i ad;split at h
   .rename_i U;subst U;simp only[AT,agO]at h;obtain⟨rfl,rfl⟩:=h;have j7:vs=[]:=ag3 (by rw[<-f_.len,i6];simp);exact⟨_,X,.inl (q (X':=X) rfl ap (by rw[j7];rfl)),rfl,O,dJ.es _,Ext.refl _ _,hB⟩
   .split at h
    .rename_i d;simp only[AT,agO]at h;obtain⟨rfl,rfl⟩:=h;have:=c9 (base:=aa ad) (l:=0) (cap:=0) (os:=[]) (cs:=[]) rfl ap (by simpa using d) (by simp[Builtin.firstCells,loadCells,loadCellsFrom]) A2.nil bv;simp_all
    .simp_all
  .rename_i b Y l cap ep s;have j8:CR σ X (.sl b Y l cap ep s) ux:=W;simp only[VR,kg,CR,iS]at W;split at h
   .
    rename_i cs fl F;rw[F]at W;obtain⟨L,hL,t_,rfl⟩:=W;split at h
    .rename_i x;split at h
     .rename_i hc;simp only[AT,agO]at h;obtain⟨rfl,rfl⟩:=h;obtain⟨X',K,H,M,N,g5,g6,g7⟩:=F9 O F hL f_ hc.1 hc.2;refine⟨_,X',.inl (q rfl x (by simp only[wv,fS];exact K)),H,M,?_,N,ap⟩;have d_:X'.H[b]?=aa (.box (over cs (Y+l*sz) ys) fl):=by rw[H];simp[(aft.1 F).1]
      simp only[VR,kg,CR,iS,d_];simp_all
     .simp_all
    .rename_i l_;split at h
     .rename_i hc;simp only[AT,agO]at h;obtain⟨rfl,rfl⟩:=h;have j5:dy X.H sz (.sl b Y l cap ep s)=aa ((cs.drop Y).take (l*sz)):=by simp[dy,F,hc.2]
      have j6:bA X.H (.sl b Y l cap ep s)=aa l:=by simp[bA,F]
      obtain⟨os,q1,q2,q3⟩:=po S (CR.ext' σ j9 j8) j6 j5;have n8:A2 (CR σ X) ((cs.drop Y).take (l*sz)) os:=by
       have e_:Ext X.H.length { X with w:=X.w.drew } X:=Ext.one S X.H.length rfl (λ_ _=>Iff.rfl) (λ_ _ _=>rfl) (λ_ _ _ _=>rfl) (λh=>absurd h (ai5 _))
        (λ_ _ _=>rfl) (λ_ _=>rfl) (λL h=>.inl ⟨L,h,rfl⟩) (agQ _) rfl rfl rfl
       exact A2.ext' σ (X:={ X with w:=X.w.drew }) e_ q2
      simp_all
     .simp_all
   .
    rename_i s' cs fl e' st F;rw[F]at W;split at h
    .rename_i hc;obtain⟨rfl,rfl,rfl⟩:=hc;have h_:=W.2.1 rfl rfl;split at h
     .
      rename_i U;subst U;simp only[AT,agO]at h;obtain⟨rfl,rfl⟩:=h;have j7:vs=[]:=ag3 (by rw[<-f_.len,i6];simp);obtain⟨base,n,cp,i8⟩:=W.2.2;have r7:n=l/\l<=cp:=by
       grind
      obtain⟨rfl,t8⟩:=r7;refine⟨.slice base (n+0) cp,X,.inl (q (X':=X) i8 ap (by rw[j7];cases base<;>rfl)),rfl,O,?_,Ext.refl _ _,hB⟩;rw[Nat.add_zero,<-i8];exact j8
     .rename_i U;split at h
      .
       rename_i hc;obtain⟨rfl,B,j_⟩:=hc;split at h
       .rename_i d;simp only[AT,agO]at h;obtain⟨rfl,rfl⟩:=h;have hn:cs.length+ys.length=(l+m)*s:=by rw[i6,<-B,ahi]
        cases st with
        |loc=>
         obtain⟨L,hL,k,r6,hk,rfl⟩:=h_;have m9:k=0:=by
          rcases ai9.1 r6.symm with h8|h8
          .omega
          .have:=ht.pos;omega
         subst m9;rw[Nat.sub_zero]at *;by_cases x:l+m<=L.cap
         .obtain⟨X',K,H,M,N,g5,g6,g7⟩:=aab O F hL f_ j_ hn x;exact⟨_,X',.inl (q rfl x (by simp only[wv,fS];rw[B,ahI];exact K)),H,M,g5,N,ap⟩
         .have j5:dy X.H s (.sl b 0 l cap ep s)=aa ((cs.drop 0).take (l*s)):=by simp[dy,F,B]
          have j6:bA X.H (.sl b 0 l cap ep s)=aa l:=by simp[bA,F]
          obtain⟨os,q1,q2,q3⟩:=po S (CR.ext' σ j9 j8) j6 j5;have n8:A2 (CR σ X) cs os:=by
           have e_:Ext X.H.length { X with w:=X.w.drew } X:=Ext.one S X.H.length rfl (λ_ _=>Iff.rfl) (λ_ _ _=>rfl) (λ_ _ _ _=>rfl) (λh=>absurd h (ai5 _))
            (λ_ _ _=>rfl) (λ_ _=>rfl) (λL h=>.inl ⟨L,h,rfl⟩) (agQ _) rfl rfl rfl
           have:=A2.ext' σ (X:={ X with w:=X.w.drew }) e_ q2
           grind
          obtain⟨nc,rest,w',I,j,g,J⟩:=(mX ht c.type (base:=aa ⟨L.c,0,ab⟩) (l:=l) (cap:=L.cap) d9 c_).2 x d os a_ q1 g_;obtain⟨X',K,H,M,N,g5,g6⟩:=CY O hB F n8 A ht.pos hn J I g;exact⟨_,X',.inl (by rw[K];exact b_ _ _ (by simpa using j)),H,M,g5,N,g6⟩
        |nil=>
         obtain⟨_,rfl,rfl⟩:=h_;have i_:cs=[]:=ag3 (by simpa using B.symm);subst i_;obtain⟨nc,rest,w',I,j,g,J⟩:=(mX ht c.type (base:=ab) (l:=0) (cap:=0) d9 c_).2 ap d [] a_ (by simp[Builtin.firstCells]) g_;obtain⟨X',K,H,M,N,g5,g6⟩:=CY O hB F (us:=[]) A2.nil A ht.pos hn J I g;exact⟨_,X',.inl (by rw[K];exact b_ _ _ j),H,M,g5,N,g6⟩
        |es=>
         obtain⟨_,rfl,ad,rfl⟩:=h_;have i_:cs=[]:=ag3 (by simpa using B.symm);subst i_;obtain⟨nc,rest,w',I,j,g,J⟩:=(mX ht c.type (base:=aa ad) (l:=0) (cap:=0) d9 c_).2 ap d [] a_ (by simp[Builtin.firstCells,loadCells,loadCellsFrom]) g_;obtain⟨X',K,H,M,N,g5,g6⟩:=CY O hB F (us:=[]) A2.nil A ht.pos hn J I g;exact⟨_,X',.inl (by rw[K];exact b_ _ _ j),H,M,g5,N,g6⟩
       .simp_all
      .split at h
       .
        rename_i hc;obtain⟨rfl,k_,q_⟩:=hc;simp only[AT,agO]at h;obtain⟨rfl,rfl⟩:=h;obtain⟨L,hL,k,rfl,hk,rfl⟩:=h_;obtain⟨_,_,cV,i9,n_⟩:=O.br b L hL;rw[F]at i9;simp only[AT]at i9;subst i9;obtain⟨_,us,rest,hr,n9,h6,h7,h8,s_⟩:=n_;have x:l+m<=L.cap-k:=by
         have e1:(k+(l+m))*s<=L.cap*s:=by
          rw[ahi,ahi];have:=n9.len
          grind
         have:=Nat.le_of_mul_le_mul_right e1 h7;omega
        obtain⟨X',K,H,M,N,g5,g6,g7⟩:=F_ O F hL f_ k_ q_;refine⟨_,X',.inl (q rfl x (by simp only[wv,fS];exact K)),H,M,?_,N,ap⟩;have d_:X'.H[b]?=aa (.dz s (over cs (k*s+l*s) ys) fl ep .loc):=by rw[H];simp[(aft.1 F).1]
        simp only[VR,kg,CR,iS,d_]
        grind
       .simp_all
    .simp_all
   .simp at h
  .simp at h
 .simp at hm
end
section
variable{Q:Program}{σ:Nat->FuncId}{X:Wd}
def HW{bytes:Nat}{zs:List FC}{y:Arg}(h:fC Q σ A (.sJ N bytes zs z y)=ae):∃u v t j e k,A.callee=.builtin .append/\A.args=#[u,v]/\A.argTypes=#[t,j]/\mA σ z u=ae/\mA σ y v=ae/\
  Q.underlying t=aa (.slice e)/\eF Q e N=ae/\qR Q e bytes=ae/\0<N/\oE Q e zs=ae/\Q.underlying j=aa (.int k):=by
 simp only[fC]at h;split at h
 .rename_i u v t j q s x;simp only[IS]at h;obtain⟨⟨⟨F,H⟩,g⟩,d⟩:=h;obtain⟨e,B,g⟩:=kS g;simp only[IS,decide_eq_true_eq]at g;obtain⟨⟨⟨m,l⟩,b⟩,I⟩:=g;split at d
  .rename_i k c;exact⟨u,v,t,j,e,k,q,TI s,TI x,F,H,B,m,l,b,I,c⟩
  .simp at d
 .simp at h
def S4(h:b<2 ^ 48):IntKind.i64.wrap (b:Int)=b:=by
 simp only[IntKind.wrap,IntKind.bits,IntKind.signed]
 grind
def zG{e:TypeId}{sz bytes:Nat}{k k':IntKind}(o:Q.underlying t=aa (.slice e))(y:Q.underlying O=aa (.int k))(v:eF Q e sz=ae)(F:qR Q e bytes=ae)(f:0<sz)
{us:List Value} {i:TypeInfo} (hi:Q.info? e=aa i) (r:i.zero=aa u) (U:u.cells=us.toArray) (N:us.length=sz) (p:TypeId) {base:Option Addr} {n:Nat} :
  (n=0->(Builtin.append_ #[t,O] p #[.slice base 0 0,.int k' (n:Int)]).run Q w=.ok (.slice base 0 0) w)/\
  (n≠0->cF n bytes=ae->∃nc rest w',n<=nc/\(Builtin.append_ #[t,O] p #[.slice base 0 0,.int k' (n:Int)]).run Q w=.ok (.slice (aa ⟨w.heap.size,0,ab⟩) n nc) w'/\
   fG w w' (.cells (dQ n us++rest).toArray e)/\rest.length=(nc-n)*sz):=by
 obtain⟨g,l,B⟩:=Du F w;have s:g=i:=by simp[typeInfo,hi]at l;exact l.symm
 subst s;have x:∀w',(typeInfo e).run Q w'=.ok g w':=λw'=>by simp[typeInfo,hi]
 have Y:∀w',(zeroValue e).run Q w'=.ok u w':=λw'=>by simp[zeroValue,typeInfo,hi,r]
 have j:∀(q:Int) w',(asInt (.int k' q)).run Q w'=.ok q w':=λq w'=>by simp[asInt,asIntOf]
 constructor
 .rintro rfl;have a:IntKind.i64.wrap 0=0:=pi
  simp only[Builtin.append_,aiH];simp[bT o,bT y,dZ v,x,j,a];cases base<;>simp[storeCells]
 .intro hn b;have A:=b;unfold cF at b;simp only[IS,decide_eq_true_eq]at b;have S:=S4 b.2;have K:¬ (Builtin.nextslicecap n 0*g.bytes>2 ^ 48):=by
   rw[B];have:=zn (need:=n) (cap:=0) ap;have:=ahA bytes this;omega
  let nc:=(Question.appendCap n 0 e).cut (w.tape w.drawn (.appendCap n 0 e))
  have L:n<=nc:=by simp[nc,Question.cut]
  have H:(choose (.appendCap n 0 e)).run Q w=.ok nc w.drew:=by
   rfl
  have X:∀m,Builtin.zeroCells u.cells m=(dQ m us).toArray:=λm=>by
   have:=lN us m ap;simpa[Builtin.zeroCells,U]using this
  have z:¬ ((n:Int)>IntKind.i64.max):=by
   have:IntKind.i64.max=9223372036854775807:=pi
   omega
  have I:¬ ((n:Int)<0):=ii
  have J:¬ ((n:Int)*(g.bytes:Int)>2 ^ 48):=by
   grind
  have d:(Builtin.firstCells sz 0 (.slice base 0 0)).run Q w.drew=.ok #[] w.drew:=by
   cases base<;>simp[Builtin.firstCells,loadCells,loadCellsFrom]
  have M:¬ (n*sz=0):=by
   intro h;rcases ai9.1 h with h|h<;>omega
  refine⟨nc,dQ (nc-n) us,w.drew.alloc (.cells (dQ n us++dQ (nc-n) us).toArray e),L,?_,⟨rfl,rfl,rfl,rfl⟩,by rw[oA,N]⟩;have W:¬ (n<=0):=ii
  have hint:((n:Int)).toNat=n:=lw
  simp only[Builtin.append_,Sem.run_bind,bT o,bT y,dZ v,Result.andThen_ok,Sem.run_pure,ahb,if_false,Sem.run_ite,x,false_and,K,H,run_askRoom,
   Bool.not_true,if_true,Y,X,newRow,run_newObj,aiH,aht,aho,j,S,I,J,hint,ahI,W,z,M,d,true_or,and_true,Bool.true_eq]
  have c:#[]++(dQ n us).toArray++(dQ (nc-n) us).toArray=(dQ n us++dQ (nc-n) us).toArray:=lw
  first
   |(rw[c];rfl)
   |(simp[c];rfl)
def TH(W:SR Q σ X)(U:X.B<=X.w.heap.size){aT:T}(hR:RR σ X aT e.tmps){sz bytes:Nat}{zs:List FC}{y:Arg}(N:ft Q σ c (.sJ sz bytes zs z y)=ae){H':an}
  (h:cA aT X.H (.sJ sz bytes zs z y)=aa (v,H')):ke Q σ X v H' (execOp e.eval c):=by
 simp only[ft]at N;split at N
 .rename_i o ho;obtain⟨u,v',t,t',a,k,h1,h2,h3,J,L,p,F,l,b,hz,Y⟩:=HW N;have J:=cQ hR J;have L:=cQ hR L;simp only[cA]at h;generalize w:e.eval u=O at J;generalize a_:e.eval v'=uy at L;generalize z.ev aT=vx at J h;generalize y.ev aT=vy at L h;have g:∀(r:Value) (w':World),(Builtin.append_ #[t,t'] c.type #[O,uy]).run Q X.w=.ok r w'->(execOp e.eval c).run Q X.w=.ok (.value r) w':=by
   intro r w' hr;refine eU ho h1 λcs=>?_;simp[builtin,h2,h3,w,a_,hr]
  unfold D9 at h;split at h
  .rename_i n hn;obtain⟨k',A⟩:=me L hn;split at h
   .rename_i hc;obtain⟨x,us,b_,I,M,i0,q,s⟩:=gV (σ:=σ) (X:=X) hz X.w;have H:us.length=sz:=by have:=M.len;simp at this;omega
    obtain⟨m,rfl⟩:∃m:Nat,n=m:=⟨n.toNat,ap⟩
    have S:∀base,O=.slice base 0 0->(v,H')=(.c (.sl X.H.length 0 m 0 0 sz),X.H++[.dz sz ((dQ m zs).map .f) 0 0 .loc])->m≠0->cF m bytes=ae->ke Q σ X v H' (execOp e.eval c):=by
     intro base hb he d B;cases he;obtain⟨nc,rest,w',f,K,j,i⟩:=(zG (k':=k') p Y F l b q s I H c.type (base:=base) (n:=m)).2 d B;obtain⟨X',g1,g2,g3,g4,g5,g6⟩:=RV W U b (cs:=(dQ m zs).map .f) (us:=dQ m us) (mZ M m) (n:=m) (nc:=nc) (by rw[agS,oA,hc.2]) i f j;exact⟨_,X',.inl (by rw[g1];exact g _ _ (by rw[hb,A];exact K)),g2,g3,g5,g4,g6⟩
    split at h
    .cases (J:dJ σ X.F X.w .aN O);simp only[ag7]at h;split at h
     .rename_i d;simp only[AT,agO]at h;obtain⟨rfl,rfl⟩:=h;exact⟨_,X,.inl (g _ _ (by rw[A];exact(zG (k':=k') p Y F l b q s I H c.type (base:=ab) (n:=m)).1 d)),rfl,W,dJ.aN,Ext.refl _ _,U⟩
     .simp_all
    .cases (J:dJ σ X.F X.w .es O);rename_i ad;simp only[ag7]at h;split at h
     .rename_i d;simp only[AT,agO]at h;obtain⟨rfl,rfl⟩:=h;exact⟨_,X,.inl (g _ _ (by rw[A];exact(zG (k':=k') p Y F l b q s I H c.type (base:=aa ad) (n:=m)).1 d)),rfl,W,dJ.es _,Ext.refl _ _,U⟩
     .simp_all
    .simp_all
   .simp at h
  .simp at h
 .simp at N
end
section
variable{Q:Program}{σ:Nat->FuncId}{X:Wd}
def Z2(s:SR Q σ X)(m:X.B<=X.w.heap.size){st:Os}(d:ft Q σ c (.pre st N)=ae)
  (h:cA r X.H (.pre st N)=aa (v,I)):ke Q σ X v I (execOp e.eval c):=by
 cases st with
 |nil=>
  simp only[cA]at h;split at h
  .simp at h
  .simp only[AT,agO]at h;obtain⟨rfl,rfl⟩:=h;obtain⟨j,l⟩:=SR.grow s (.dz N [] 0 0 .nil);have q:VR σ { X with H:=X.H++[.dz N [] 0 0 .nil] } (.c (.sl X.H.length 0 0 0 0 N)) (.slice ab 0 0):=by
    have b:(X.H++[bV.dz N [] 0 0 .nil])[X.H.length]?=aa (.dz N [] 0 0 .nil):=lw
    simp only[VR,kg,CR,iS,b];simp
   simp only[ft]at d;split at d
   .rename_i g;exact⟨.slice ab 0 0,_,.inl (by simp[execOp,g,Act.eval]),rfl,j,q,l,m⟩
   .rename_i g;exact⟨.slice ab 0 0,_,.inl (by simp[execOp,g,Act.eval]),rfl,j,q,l,m⟩
   .simp_all
 |_=>simp[ft]at d
def RS(u:SR Q σ X)(s:X.B<=X.w.heap.size)(b:ft Q σ c .pK=ae):ke Q σ X (.c (.mp X.H.length)) (X.H++[.map []]) (execOp e.eval c):=by
 simp only[ft]at b;split at b
 .rename_i t v;obtain⟨X',g,d,j,l,m,q⟩:=SR.new u s (.map []) (fG.alloc X.w (.map #[] 0)) 0 λX' z x y _=>⟨[],by rw[x];exact(fG.alloc _ _).new,A2.nil,bv⟩
  exact⟨.map (aa X.w.heap.size),X',.inl (by rw[g];simp[execOp,v,Instr.makeMap]),d,j,⟨_,m,⟨[],by rw[d];simp⟩,rfl⟩,l,q⟩
 .simp at b
def Sj(B:SR Q σ X)(x:X.B<=X.w.heap.size)(A:RR σ X r e.tmps)(d:ft Q σ c (.range z)=ae){H':an}
  (h:cA r X.H (.range z)=aa (v,H')):ke Q σ X v H' (execOp e.eval c):=by
 simp only[ft]at d;split at d
 .rename_i t y F;simp only[IS]at d;obtain⟨b,I⟩:=d;have b:=cQ A b;simp only[cA]at h;split at h
  .rename_i s H;rw[H]at b;have b:=VR.str b;simp only[AT,agO]at h;obtain⟨rfl,rfl⟩:=h;split at I
   .rename_i J;obtain⟨X',j,g,l,m,q,u⟩:=SR.new B x (.it s 0) (fG.alloc X.w (.stringIter s 0)) 0 λX' b K L _=>by
     show X'.w.heap[X.w.heap.size]?=_;rw[K];exact(fG.alloc _ _).new
    exact⟨.pointer (aa ⟨X.w.heap.size,0,ab⟩),X',.inl (by rw[j];simp[execOp,F,Instr.range,bT J,b]),g,l,⟨_,q,⟨s,0,by rw[g];simp⟩,rfl⟩,m,u⟩
   .simp_all
  .simp at h
 .simp at d
def SR.vn(m:SR Q σ X){cV blk':bV}{o o':Obj}(hb:X.H[b]?=aa cV)(l:X.dA b=aa M)(ho:X.w.heap[M.c]?=aa o)(x:∀c e f,o≠.cells c e f)(q:∀c e f,o'≠.cells c e f)
  (d:pG X { X with H:=X.H.set b blk',w:={ X.w with heap:=X.w.heap.setIfInBounds M.c o' } } b)
  (g:∀X',Ext X.H.length X X'->X'.w.heap[M.c]?=aa o'->X'.F=X.F->X'.dA=X.dA->X'.H=X.H.set b blk'->BR Q σ X' blk' M) :
  SR Q σ { X with H:=X.H.set b blk',w:={ X.w with heap:=X.w.heap.setIfInBounds M.c o' } }/\Ext X.H.length X { X with H:=X.H.set b blk',w:={ X.w with heap:=X.w.heap.setIfInBounds M.c o' } }:=by
 have j:M.c<X.w.heap.size:=(m.br b M l).2.1;refine SR.turn m hb l bv (λk v=>by simp[Array.getElem?_setIfInBounds_ne (Ne.symm v)]) (λi _=>?_) rfl rfl rfl d (λy=>g _ y (by simp[j]) rfl rfl rfl);have s:({ X.w with heap:=X.w.heap.setIfInBounds M.c o' }:World).cell? ⟨M.c,i,ab⟩=ab:=by
  simp only[World.cell?];simp_all
 have u:X.w.cell? ⟨M.c,i,ab⟩=ab:=by
  simp only[World.cell?,ho];simp_all
 rw[s,u]
def UQ(u:SR Q σ X)(B:X.B<=X.w.heap.size)(O:RR σ X r e.tmps)(q:ft Q σ c (.next z)=ae){H':an}
  (h:cA r X.H (.next z)=aa (v,H')):ke Q σ X v H' (execOp e.eval c):=by
 simp only[ft]at q;split at q
 .rename_i y H;have J:=cQ O q;simp only[cA]at h;unfold VV at h;split at h
  .rename_i b U;rw[U]at J;obtain⟨L,F,⟨Y,W,S⟩,I⟩:=J;split at h
   .rename_i s d m;obtain⟨_,_,cV,l,x⟩:=u.br b L F;rw[m]at l;simp only[AT]at l;subst l;have j:X.w.heap[L.c]?=aa (.stringIter s d):=x;split at h
    .rename_i A;simp only[AT,agO]at h;obtain⟨rfl,rfl⟩:=h;obtain⟨K,M⟩:=SR.vn (o':=.stringIter s (d+(Utf8.decode s d).2)) (blk':=.it s (d+(Utf8.decode s d).2)) u m F j bv bv
      (λcV g=>⟨.it s (d+(Utf8.decode s d).2),by simp[(aft.1 m).1],by rw[m]at g;simp only[AT]at g;subst g;exact λL h=>h⟩)
      (λX' _ N _ _ _=>N)
     refine⟨.tuple #[.bool ae,.int .i64 d,.int .i32 (Utf8.decode s d).1],_,.inl ?_,rfl,K,⟨[.bool ae,.int .i64 d,.int .i32 (Utf8.decode s d).1],rfl,?_⟩,M,by simpa using B⟩
     .simp only[execOp,H];refine fU ?_;simp[Instr.next,I,getObj,setObj,Sem.run,j,A,goInt]
     .exact A2.cons (dJ.bool _) (A2.cons (dJ.int _ _) (A2.cons (dJ.int _ _) A2.nil))
    .rename_i A;simp only[AT,agO]at h;obtain⟨rfl,rfl⟩:=h;refine⟨.tuple #[.bool ag],X,.inl ?_,rfl,u,⟨[.bool ag],rfl,A2.cons (dJ.bool _) A2.nil⟩,Ext.refl _ _,B⟩;simp only[execOp,H];refine fU ?_;simp[Instr.next,I,getObj,Sem.run,j,A]
   .simp at h
  .simp at h
 .simp at q
theorem E4{s:CK}{d:TypeDesc}(z:(s=.int/\∃j,d=.int j)\/(s=.str/\d=.string)\/(s=.bool/\d=.bool)){F:Nat->Nat->Prop}{w:World}{k:FC}{v:C}{x:Value}(B:dJ σ F w k x) :
  ∀{R:C->Value->Prop} {l g:List (FC × C)} {b:List MapEntry},A2 (λe m=>dJ σ F w e.1 m.key/\R e.2 m.val) l b->∀(i:Nat),qH s k v l=aa g->
  (Instr.findNow d x b i=aa ab/\g=l++[(k,v)])\/∃(j:Nat) (u:Value) (m:MapEntry),Instr.findNow d x b i=aa (aa (i+j,u))/\b[j]?=aa m/\Instr.sameNow d x m.key=aa ae/\g=l.set j (k,v)
 |_,[],g,[],_,i,h=>by
  simp only[qH,AT]at h;subst h;exact .inl ⟨rfl,rfl⟩
 |_,[],_,_::_,q,_,_=>by have:=q.len;simp at this
 |_,_::_,_,[],q,_,_=>by have:=q.len;simp at this
 |_,e::l,g,m::b,q,i,h=>by
  obtain⟨⟨I,O⟩,H⟩:=q.of_cons;simp only[qH]at h;split at h
  .rename_i A;simp only[AT]at h;subst h;have:=yJ z B I A;exact .inr ⟨0,m.val,m,by simp[Instr.findNow,this],rfl,this,rfl⟩
  .rename_i A;simp only[OF]at h;obtain⟨J,K,rfl⟩:=h;have:=yJ z B I A;rcases E4 z B H (i+1) K with⟨y,rfl⟩|⟨j,u,N,y,L,M,rfl⟩
   .exact .inl ⟨by simp[Instr.findNow,this,y],rfl⟩
   .exact .inr ⟨j+1,u,N,by simp[Instr.findNow,this,y];omega,by simpa using L,M,rfl⟩
  .simp at h
def FI{d:TypeDesc}{v:Value}(h:Instr.sameNow d u v=aa ae)(n:Nat):Instr.sameBits n v u=ae:=by
 unfold Instr.sameNow at h;split at h
 .split at h
  .rename_i b;subst b;simp only[AT,beq_iff_eq]at h;subst h;simp[Instr.sameBits]
  .simp at h
 .simp only[AT,beq_toListBytes,beq_iff_eq]at h;simp[Instr.sameBits,beq_toListBytes,h]
 .simp only[AT,beq_iff_eq]at h;subst h;simp[Instr.sameBits]
 .simp at h
def acE(c:VR σ X (mV h) u):kg σ X (mV h) u:=by
 cases h
 case cl f cs=>
  simp only[mV]at c ⊢;split at c
  .rename_i b;rw[ct b];exact c
  .rename_i b;rw[cC b];exact c
 all_goals exact c
def RJ(hS:SR Q σ X)(hB:X.B<=X.w.heap.size)(hR:RR σ X r e.tmps){Y:CK}{x y:Arg}(hm:ft Q σ c (.qD Y x y z)=ae){H':an}
  (h:cA r X.H (.qD Y x y z)=aa (v,H')):ke Q σ X v H' (execOp e.eval c):=by
 simp only[ft]at hm;split at hm
 .rename_i t x' I U ho;simp only[IS]at hm;obtain⟨⟨⟨hx,H⟩,S⟩,ht⟩:=hm;have hx:=cQ hR hx;have H:=cQ hR H;have S:=cQ hR S;split at ht
  .rename_i kt a hu;simp only[cA]at h;split at h
   .rename_i b k vv d_ h_ i8;rw[d_]at hx;rw[h_]at H;rw[<-RG i8]at S;have S:kg σ X (mV vv) (e.eval U):=acE S;obtain⟨L,hL,_,d9⟩:=hx;split at h
    .rename_i es hb;split at h
     .rename_i b_;simp only[OF,agO]at h;obtain⟨s,hp,rfl,rfl⟩:=h;obtain⟨_,_,cV,K,g_⟩:=hS.br b L hL;rw[hb]at K;simp only[AT]at K;subst K;obtain⟨q,F,h2,f_⟩:=g_;have go:∀d,Q.underlying kt=aa d->((Y=.int/\∃j,d=.int j)\/(Y=.str/\d=.string)\/(Y=.bool/\d=.bool))->ke Q σ X .top (X.H.set b (.map s)) (execOp e.eval c):=by
       intro d B hd;have a_:∀(g:List MapEntry),(Instr.mapUpdate t (e.eval x') (e.eval I) (e.eval U)).run Q X.w=.ok () { X.w with heap:=X.w.heap.setIfInBounds L.c (.map g.toArray g.length) }->
         A2 (λ(a:FC × C) (m:MapEntry)=>dJ σ X.F X.w a.1 m.key/\kg σ X (mV a.2) m.val) s g->(∀(i:Nat) m,g[i]?=aa m->m.born=i)->ke Q σ X .top (X.H.set b (.map s)) (execOp e.eval c):=by
        intro g c_ hA e_;obtain⟨g1,g2⟩:=SR.vn (o':=.map g.toArray g.length) (blk':=.map s) hS hb hL F bv bv
         (λcV A=>⟨.map s,by simp[(aft.1 hb).1],by rw[hb]at A;simp only[AT]at A;subst A;exact λL h=>h⟩)
         (λX' O h1 hF _ _=>⟨g,h1,hA.oF λa m h=>⟨dJ.mono O.F O.fw h.1,kg.ext' σ O h.2⟩,e_⟩)
        exact⟨undef,_,.inr ⟨by simp[execOp,ho,c_],rfl⟩,rfl,g1,trivial,g2,by simpa using hB⟩
       rcases E4 (R:=λo u=>kg σ X (mV o) u) hd H h2 0 hp with⟨J,rfl⟩|⟨j,u,m,J,h5,h6,rfl⟩
       .have M:A2 (λ(a:FC × C) (m:MapEntry)=>dJ σ X.F X.w a.1 m.key/\kg σ X (mV a.2) m.val) [(k,vv)] [({ key:=e.eval I,val:=e.eval U,born:=q.length }:MapEntry)]:=A2.cons (And.intro H S) A2.nil;refine a_ (q++[{ key:=e.eval I,val:=e.eval U,born:=q.length }]) ?_ (h2.append M) ?_
        rotate_left
        .grind
        simp[Instr.mapUpdate,bT hu,d9,getObj,setObj,Sem.run,F,lE ht H b_,Instr.findKey,bT B,J]
       .rw[ahI]at J;refine a_ (q.set j { m with key:=e.eval I,val:=e.eval U }) ?_ ?_ ?_
        .have i7:(Instr.keyThatStays m.key (e.eval I)).run Q X.w=.ok (e.eval I) X.w:=by
          simp[Instr.keyThatStays,FI h6 10000]
         have c9:q.modify j (λa=>{ a with key:=e.eval I,val:=e.eval U })=q.set j { m with key:=e.eval I,val:=e.eval U }:=by
          apply List.ext_getElem?
          grind
         simp[Instr.mapUpdate,bT hu,d9,getObj,setObj,Sem.run,F,lE ht H b_,Instr.findKey,bT B,J,h5,i7,c9]
        .refine⟨by simpa using h2.len,λi e' m' W l=>?_⟩;rw[List.getElem?_set]at W l;split at W
         .rename_i N;subst N;simp only[if_true]at l;have i6:=(aft.1 h5).1;have i9:=h2.len;rw[ct ap]at W;rw[ct i6]at l;simp only[AT]at W l;subst W;subst l;exact⟨H,S⟩
         .rename_i N;rw[cC N]at l;exact h2.2 i e' m' W l
        .grind
      rcases oY ht with⟨J,j,B⟩|⟨J,B⟩|⟨J,B⟩
      .simp_all
      .simp_all
      .simp_all
     .simp_all
    .simp_all
   .simp at h
  .simp at ht
 .simp at hm
def EU(h:fC Q σ A (.clear N q z)=ae):∃y t e,A.callee=.builtin .clear/\A.args=#[y]/\A.argTypes=#[t]/\mA σ z y=ae/\Q.underlying t=aa (.slice e)/\eF Q e N=ae/\oE Q e q=ae:=by
 simp only[fC]at h;split at h
 .rename_i y t d g j;simp only[IS]at h;obtain⟨m,b⟩:=h;obtain⟨e,l,b⟩:=kS b
  grind
 .simp at h
def QD(hS:SR Q σ X)(hB:X.B<=X.w.heap.size){aT:T}(hR:RR σ X aT e.tmps){sz:Nat}{zs:List FC}(J:ft Q σ c (.clear sz zs z)=ae){H':an}
  (h:cA aT X.H (.clear sz zs z)=aa (v,H')):ke Q σ X v H' (execOp e.eval c):=by
 simp only[ft]at J;split at J
 .rename_i o f;obtain⟨y,t,a,M,N,O,j,n,c_,hz⟩:=EU J;have j:=cQ hR j;simp only[cA,OF,agO]at h;obtain⟨H2,g,rfl,rfl⟩:=h;have done:VR σ X (.t []) (.tuple #[]):=⟨[],rfl,A2.nil⟩
  unfold nE at g;split at g
  .rename_i p hp;rw[hp]at j;split at g
   .rename_i U;simp only[AT]at g;subst g;obtain⟨K,cp,d⟩:=mY j U;refine⟨.tuple #[],X,.inl (eU f M λcs=>?_),rfl,hS,done,Ext.refl _ _,hB⟩;cases K<;>simp[builtin,N,O,Builtin.clear_,bT n,d]
   .rename_i l W U;obtain⟨K,cp,d⟩:=mY j U;split at g
    .rename_i a_;obtain⟨x,us,B,F,H,_⟩:=gV (σ:=σ) (X:=X) hz X.w;have d9:us.length=zs.length:=by have:=H.len;simp at this;omega
     have Y:l≠0:=λa=>W (by rw[a]);have key:∀(b o' u:Nat),(∃q,CR σ X (.ptr b o' u) (.pointer (aa q))/\K=aa q)->dj X.H (.ptr b o' u) ((dQ l zs).map .f)=aa H2->ke Q σ X (.t []) H2 (execOp e.eval c):=by
      rintro b o' u ⟨q,hq,rfl⟩ i;obtain⟨cc,d_,X',g1,g2,g3,g4,g5,g6,g7⟩:=SL hS hq (mZ H l) i;cases g1;by_cases c9:sz=0
      .subst c9;have b_:zs=[]:=ag3 a_;have r:us=[]:=ag3 ap;subst b_;subst r;refine⟨.tuple #[],X',.inl (eU f M λcs=>?_),g3,g4,⟨[],rfl,A2.nil⟩,g5,ap⟩;have hr:dQ l ([]:List Value)=[]:=by simp[dQ]
       rw[hr]at g2;simp[builtin,N,O,Builtin.clear_,bT n,d,Y,B,F,Builtin.zeroCells];simp_all
      .have w:Builtin.zeroCells x.cells l=(dQ l us).toArray:=by
        have:=lN us l ap;simpa[Builtin.zeroCells,F]using this
       refine⟨.tuple #[],X',.inl (eU f M λcs=>?_),g3,g4,⟨[],rfl,A2.nil⟩,g5,ap⟩;simp[builtin,N,O,Builtin.clear_,bT n,d,B,w];simp_all
     split at g
     .rename_i b o' l' cap u s;simp only[VR,kg,CR,iS]at j;split at g
      .rename_i cs fl I;rw[I]at j;obtain⟨L,S,_,m⟩:=j;rw[d]at m;simp only[Value.slice.injEq]at m;refine key b o' u ⟨⟨L.c,o',ab⟩,⟨L,S,by rw[I]⟩,m.1⟩ g
      .rename_i s' cs fl e' I;split at g
       .rename_i A;rw[I]at j;obtain⟨L,S,k,_,_,m⟩:=j.2.1 A.1 A.2;rw[d]at m;simp only[Value.slice.injEq]at m;refine key b o' u ⟨⟨L.c,o',ab⟩,⟨L,S,?_⟩,m.1⟩ g;simp_all
       .simp_all
      .simp_all
     .simp_all
    .simp_all
   .simp_all
  .simp at g
 .simp at J
def Nr(B:SR Q σ X)(S:X.B<=X.w.heap.size){aT:T}(U:RR σ X aT e.tmps)(l:ft Q σ c (.mU z)=ae){H':an}
  (h:cA aT X.H (.mU z)=aa (v,H')):ke Q σ X v H' (execOp e.eval c):=by
 simp only[ft]at l;split at l
 .rename_i t y Y;simp only[IS]at l;obtain⟨j,o⟩:=l;have j:=cQ U j;simp only[cA]at h;unfold xQ at h;split at h
  .rename_i b i;rw[i]at j;obtain⟨L,A,_,f⟩:=j;split at h
   .rename_i u m;split at h
    .rename_i w;simp only[AT,agO]at h;obtain⟨rfl,rfl⟩:=h;obtain⟨_,_,cV,g,q⟩:=B.br b L A;rw[m]at g;simp only[AT]at g;subst g;obtain⟨d,H,I,_⟩:=q;split at o
     .rename_i kt a s;obtain⟨X',J,x,K,M,N,O⟩:=SR.new B S (.Ge b u.length ag) (fG.alloc X.w (.mapIter (aa L.c) d.length #[] d.length)) 0 λX' j k p r=>by
       obtain⟨blk',n,F⟩:=j.bS b (aft.1 m).1 _ m;cases blk'<;>simp only at F;refine⟨L,#[],d.length,F L A,⟨_,n⟩,?_,rfl⟩;rw[I.len,k];exact(fG.alloc _ _).new
      refine⟨.pointer (aa ⟨X.w.heap.size,0,ab⟩),X',.inl ?_,x,K,⟨_,N,⟨b,u.length,ag,by rw[x];simp⟩,rfl⟩,M,O⟩;have W:(getObj L.c).run Q X.w=.ok (.map d.toArray d.length) X.w:=by simp[getObj,Sem.run,H]
      rw[J];simp[execOp,Y,Instr.range,bT s,f,W]
     .simp_all
    .simp_all
   .simp at h
  .simp at h
 .simp at l
def RY(s:SR Q σ X)(O:X.B<=X.w.heap.size){aT:T}(t:RR σ X aT e.tmps)(F:ft Q σ c (.qI z)=ae){H':an}
  (h:cA aT X.H (.qI z)=aa (v,H')):ke Q σ X v H' (execOp e.eval c):=by
 simp only[ft]at F;split at F
 .rename_i y U;have n:=cQ t F;simp only[cA]at h;unfold Db at h;split at h
  .rename_i b w;rw[w]at n;obtain⟨L,k,_,Y⟩:=n;split at h
   .rename_i m i done u;obtain⟨_,_,cV,d,l⟩:=s.br b L k;rw[u]at d;simp only[AT]at d;subst d;obtain⟨K,sn,st,N,_,B,q⟩:=l;split at h
    .rename_i j;obtain⟨_,_,cV,d,l⟩:=s.br m K N;rw[j]at d;simp only[AT]at d;subst d;obtain⟨M,H,f,_⟩:=l;have:M=[]:=ag3 f.len.symm;subst this;split at h
     .simp_all
     .rename_i x;simp only[AT,agO]at h;obtain⟨rfl,rfl⟩:=h;simp only[x,ahb,if_false]at q;subst q;refine⟨.tuple #[.bool ag],X,.inl ?_,rfl,s,⟨[.bool ag],rfl,A2.cons (dJ.bool _) A2.nil⟩,Ext.refl _ _,O⟩;simp only[execOp,U];refine fU ?_;simp[Instr.next,Y,getObj,Sem.run,B,H,Result.andThen,choose,Question.forced]
    .rename_i a j;obtain⟨I,H,f,k3,p⟩:=JY s N j;split at h
     .rename_i x;simp only[AT,agO]at h;obtain⟨rfl,rfl⟩:=h;simp only[x,if_true]at q;obtain⟨rfl,rfl⟩:=q;refine⟨.tuple #[.bool ag],X,.inl ?_,rfl,s,⟨[.bool ag],rfl,A2.cons (dJ.bool _) A2.nil⟩,Ext.refl _ _,O⟩;simp only[execOp,U];refine fU ?_;simp[Instr.next,Y,getObj,Sem.run,B,H,p,Result.andThen,choose,Question.forced]
     .rename_i x;split at h
      .rename_i W;subst W;simp only[AT,agO]at h;obtain⟨rfl,rfl⟩:=h;simp only[x,ahb,if_false]at q;subst q;obtain⟨q1,J⟩:=SR.vn (o':=.mapIter (aa K.c) 1 #[0] 1) (blk':=.Ge m 1 ae) s u k B bv bv
        (λcV g=>⟨.Ge m 1 ae,by simp[(aft.1 u).1],by rw[u]at g;simp only[AT]at g;subst g;exact⟨⟨rfl,rfl⟩,λL h=>h⟩⟩)
        (λX' a_ o _ A r=>by
         have S:b≠m:=λa=>by rw[a,j]at u;cases u
         exact⟨K,#[0],1,by rw[A];exact N,⟨_,by rw[r,sh S];exact j⟩,o,rfl,rfl⟩)
       refine⟨.tuple #[.bool ae,I.key,I.val],_,.inl ?_,rfl,q1,?_,J,by simpa using O⟩
       .simp only[execOp,U];refine fU ?_;simp[Instr.next,Y,getObj,setObj,Sem.run,B,H,p,Result.andThen,choose,Question.forced]
       .exact⟨[.bool ae,I.key,I.val],rfl,A2.cons (dJ.bool _) (A2.cons (dJ.mono J.F J.fw f) (A2.cons (kg.ext' σ J k3) A2.nil))⟩
      .simp_all
    .simp_all
   .simp at h
  .simp at h
 .simp at F
end
section
variable{Q:Program}{σ:Nat->FuncId}{X:Wd}
def eA(a b:bV):Prop:=
 match a with
 | .box cs fl=>(match b with
  | .box cs' fl'=>cs=cs'/\fl<=fl'
  |_=>False)
 | .dz s cs fl e st=>(match b with
  | .dz g cs' fl' d st'=>s=g/\cs=cs'/\fl<=fl'/\e=d/\st=st'
  |_=>False)
 |a=>a=b
def eA.refl(a:bV):eA a a:=by cases a<;>simp[eA]
theorem eA.trans{a b c:bV}(h:eA a b)(k:eA b c):eA a c:=by
 cases a<;>cases b<;>simp only[eA,reduceCtorEq]at h<;>cases c<;>simp only[eA,reduceCtorEq]at k ⊢
 .grind
 .grind
 all_goals exact h.trans k
def jC(H H':an):Prop:=H.length=H'.length/\∀(b:Nat) cV blk',H[b]?=aa cV->H'[b]?=aa blk'->eA cV blk'
theorem jC.refl(H:an):jC H H:=⟨rfl,λb cV blk' h d=>by rw[h]at d;cases d;exact eA.refl _⟩
def jC.get{H':an}(h:jC I H'){cV:bV}(hb:I[b]?=aa cV):∃blk',H'[b]?=aa blk'/\eA cV blk':=by
 have hl:=(aft.1 hb).1;have d:b<H'.length:=by have:=h.1;omega
 exact⟨_,BY d,h.2 b _ _ hb (BY d)⟩
theorem jC.trans{A B C:an}(h:jC A B)(k:jC B C):jC A C:=
 ⟨h.1.trans k.1,λb x z d g=>by obtain⟨y,hy,h1⟩:=h.get d;exact h1.trans (k.2 b y z hy g)⟩
def jC.none{H H':an}(h:jC H H'){b:Nat}(hb:H[b]?=ab):H'[b]?=ab:=by
 rw[List.getElem?_eq_none_iff]at hb ⊢;have:=h.1;omega
theorem jC.set{H:an}{b:Nat}{cV blk':bV}(hb:H[b]?=aa cV)(h:eA cV blk'):jC H (H.set b blk'):=by
 have hl:=(aft.1 hb).1;refine⟨bv,λi x y d hy=>?_⟩;by_cases hi:i=b
 .simp_all
 .rw[sh (Ne.symm hi)]at hy;rw[d]at hy;cases hy;exact eA.refl _
theorem jC.foldl{f:an->C->an}(b:∀H x,jC H (f H x)):∀(xs:List C) (H:an),jC H (xs.foldl f H)
 |[],H=>jC.refl H| x::xs,H=>(b H x).trans (jC.foldl b xs (f H x))
theorem nG:∀(n:Nat) (x:C) (H:an),jC H (ez n x H)
 |n,.f _,H=>by cases n<;>exact jC.refl H
 |0,.ptr _ _ _,H=>jC.refl H| 0,.sl _ _ _ _ _ _,H=>jC.refl H| 0,.cl _ _,H=>jC.refl H| 0,.yl _,H=>jC.refl H| 0,.mp _,H=>jC.refl H| 0,.it _,H=>jC.refl H| 0,.bm _ _,H=>jC.refl H| 0,.mi _,H=>jC.refl H
 |n+1,.ptr b m j,H=>by
  simp only[ez];split
  .rename_i cs fl d;exact(jC.set d (by exact⟨rfl,ahD _ _⟩)).trans (jC.foldl (λH x=>nG n x H) _ _)
  .exact jC.refl H
 |n+1,.sl b o l c j sz,H=>by
  simp only[ez];split
  .rename_i cs fl d;exact(jC.set d (by exact⟨rfl,ahD _ _⟩)).trans (jC.foldl (λH x=>nG n x H) _ _)
  .rename_i s cs fl e st d;exact(jC.set d (by exact⟨rfl,rfl,ahD _ _,rfl,rfl⟩)).trans (jC.foldl (λH x=>nG n x H) _ _)
  .exact jC.refl H
 |n+1,.cl f g,H=>jC.foldl (λH x=>nG n x H) _ _
 |n+1,.yl _,H=>jC.refl H| n+1,.mp _,H=>jC.refl H| n+1,.it _,H=>jC.refl H| n+1,.bm _ _,H=>jC.refl H| n+1,.mi _,H=>jC.refl H
theorem iu{α β:Type}{f g:α->Option β}:∀{xs:List α},(∀x∈xs,f x=g x)->bC f xs=bC g xs
 |[],_=>rfl| x::xs,h=>by rw[bC,bC,h x bv,iu (xs:=xs) (λy b=>h y (List.mem_cons_of_mem _ b))]
theorem qp:∀(n:Nat) {H H':an},jC H H'->∀(x:C),fv n H' x=fv n H x
 |n,H,H',h,.f _=>by cases n<;>rfl
 |0,H,H',h,.ptr _ _ _=>rfl| 0,H,H',h,.sl _ _ _ _ _ _=>rfl| 0,H,H',h,.cl _ _=>rfl| 0,H,H',h,.yl _=>rfl| 0,H,H',h,.mp _=>rfl| 0,H,H',h,.it _=>rfl| 0,H,H',h,.bm _ _=>rfl| 0,H,H',h,.mi _=>rfl
 |n+1,H,H',h,.ptr b v s=>by
  simp only[fv];cases m:H[b]? with
  |none=>rw[h.none m]
  |some cV=>
   obtain⟨blk',d,j⟩:=h.get m;rw[d];cases cV<;>cases blk'<;>simp only[eA,reduceCtorEq]at j
   .obtain⟨rfl,_⟩:=j;simp only[iu (g:=fv n H) λx _=>qp n h x]
   all_goals rfl
 |n+1,H,H',h,.sl b o l c s sz=>by
  simp only[fv];cases m:H[b]? with
  |none=>rw[h.none m]
  |some cV=>
   obtain⟨blk',d,j⟩:=h.get m;rw[d];cases cV<;>cases blk'<;>simp only[eA,reduceCtorEq]at j
   .obtain⟨rfl,_⟩:=j;simp only[iu (g:=fv n H) λx _=>qp n h x]
   .obtain⟨rfl,rfl,u,rfl,rfl⟩:=j;clear u;rename_i st _;cases st<;>simp only[iu (g:=fv n H) λx _=>qp n h x]
   all_goals rfl
 |n+1,H,H',h,.cl f q=>by simp only[fv,iu (g:=fv n H) λx _=>qp n h x]
 |n+1,H,H',h,.yl _=>rfl| n+1,H,H',h,.mp _=>rfl| n+1,H,H',h,.it _=>rfl| n+1,H,H',h,.bm _ _=>rfl| n+1,H,H',h,.mi _=>rfl
def fj:Nat->an->C->Prop
 |_,_,.f _=>True| 0,_,_=>True| n+1,H,.ptr b _ _=>∀cs fl,H[b]?=aa (.box cs fl)->cs.length<=fl/\∀x∈cs,fj n H x
 |n+1,H,.sl b o l _ _ sz=>∀cV,H[b]?=aa cV->match cV with
  | .box cs fl=>o+l*sz<=fl/\∀x∈(cs.drop o).take (l*sz),fj n H x| .dz _ cs fl _ .loc=>o+l*sz<=fl/\∀x∈(cs.drop o).take (l*sz),fj n H x| _=>True
 |n+1,H,.cl _ d=>∀x∈d,fj n H x| _,_,_=>True
theorem fj.le:∀(n:Nat) {H H':an},jC H H'->∀{x:C},fj n H x->fj n H' x
 |n,H,H',h,.f _,_=>by cases n<;>trivial
 |0,H,H',h,.ptr _ _ _,_=>trivial| 0,H,H',h,.sl _ _ _ _ _ _,_=>trivial| 0,H,H',h,.cl _ _,_=>trivial| 0,H,H',h,.yl _,_=>trivial| 0,H,H',h,.mp _,_=>trivial| 0,H,H',h,.it _,_=>trivial| 0,H,H',h,.bm _ _,_=>trivial| 0,H,H',h,.mi _,_=>trivial
 |n+1,H,H',h,.ptr b off A,v=>by
  intro cs fl m;have y:=(aft.1 m).1;have s:b<H.length:=by have:=h.1;omega
  have d:=h.2 b _ _ (BY s) m;cases g:H[b]<;>rw[g]at d<;>simp only[eA,reduceCtorEq]at d;obtain⟨rfl,q⟩:=d;obtain⟨h1,h2⟩:=v _ _ (by rw[BY s,g]);exact⟨ahd h1 q,λx u=>fj.le n h (h2 x u)⟩
 |n+1,H,H',h,.sl b o l c A sz,v=>by
  intro blk' m;have y:=(aft.1 m).1;have s:b<H.length:=by have:=h.1;omega
  have d:=h.2 b _ _ (BY s) m;have j:=v _ (BY s);cases g:H[b]<;>rw[g]at d j<;>cases blk'<;>simp only[eA,reduceCtorEq]at d<;>try simp only
  .obtain⟨rfl,q⟩:=d;exact⟨ahd j.1 q,λx u=>fj.le n h (j.2 x u)⟩
  .obtain⟨rfl,rfl,q,rfl,rfl⟩:=d;rename_i st _;cases st<;>simp only at j ⊢;exact⟨ahd j.1 q,λx u=>fj.le n h (j.2 x u)⟩
 |n+1,H,H',h,.cl f z,v=>λx u=>fj.le n h (v x u)
 |n+1,H,H',h,.yl _,_=>trivial| n+1,H,H',h,.mp _,_=>trivial| n+1,H,H',h,.it _,_=>trivial| n+1,H,H',h,.bm _ _,_=>trivial| n+1,H,H',h,.mi _,_=>trivial
theorem iG{n:Nat}(b:∀(x:C) (H:an),fj n (ez n x H) x):∀(xs:List C) (H:an),∀x∈xs,fj n (xs.foldl (λH x=>ez n x H) H) x
 |y::ys,H,x,d=>by
  simp only[aiI];rcases ag8.1 d with rfl|d
  .exact fj.le n (jC.foldl (λH x=>nG n x H) ys _) (b x H)
  .exact iG b ys _ x d
theorem kv:∀(n:Nat) (x:C) (H:an),fj n (ez n x H) x
 |n,.f _,H=>by cases n<;>trivial
 |0,.ptr _ _ _,H=>trivial| 0,.sl _ _ _ _ _ _,H=>trivial| 0,.cl _ _,H=>trivial| 0,.yl _,H=>trivial| 0,.mp _,H=>trivial| 0,.it _,H=>trivial| 0,.bm _ _,H=>trivial| 0,.mi _,H=>trivial
 |n+1,.ptr b J I,H=>by
  simp only[ez];cases u:H[b]? with
  |none=>intro cs fl h;exfalso;simp only at h;exact absurd (u.symm.trans h) bv
  |some cV=>
   cases cV with
   |box d g=>
    intro cs fl h;have s:=(aft.1 u).1;simp only at h ⊢;have z:=jC.foldl (λH x=>nG n x H) d (H.set b (.box d (Nat.max g d.length)));obtain⟨blk',j,m⟩:=z.get (b:=b) (cV:=.box d (Nat.max g d.length)) (by simp[s]);rw[h]at j;cases j;obtain⟨rfl,q⟩:=m;exact⟨ahd (ahv _ _) q,λx v=>iG (λx H=>kv n x H) _ _ x v⟩
   |_=>intro cs fl h;simp only at h;rw[u]at h;cases h
 |n+1,.sl b o l c I sz,H=>by
  simp only[ez];cases u:H[b]? with
  |none=>intro cV h;exfalso;simp only at h;exact absurd (u.symm.trans h) bv
  |some cV=>
   have s:=(aft.1 u).1;cases cV with
   |box d g=>
    intro cV h;simp only at h ⊢;have z:=jC.foldl (λH x=>nG n x H) ((d.drop o).take (l*sz)) (H.set b (.box d (Nat.max g (o+l*sz))));obtain⟨blk',j,m⟩:=z.get (b:=b) (cV:=.box d (Nat.max g (o+l*sz))) (by simp[s]);rw[h]at j;cases j;cases cV<;>simp only[eA,reduceCtorEq]at m;obtain⟨rfl,q⟩:=m;exact⟨ahd (ahv _ _) q,λx v=>iG (λx H=>kv n x H) _ _ x v⟩
   |dz F d g B y=>
    intro cV h;simp only at h ⊢;have z:=jC.foldl (λH x=>nG n x H) ((d.drop o).take (l*sz)) (H.set b (.dz F d (Nat.max g (o+l*sz)) B y));obtain⟨blk',j,m⟩:=z.get (b:=b) (cV:=.dz F d (Nat.max g (o+l*sz)) B y) (by simp[s]);rw[h]at j;cases j;cases cV<;>simp only[eA,reduceCtorEq]at m;obtain⟨rfl,rfl,q,rfl,rfl⟩:=m;cases y<;>simp only;exact⟨ahd (ahv _ _) q,λx v=>iG (λx H=>kv n x H) _ _ x v⟩
   |_=>intro cV h;simp only at h;rw[u]at h;cases h;simp
 |n+1,.cl f A,H=>λx v=>iG (λx H=>kv n x H) _ _ x v
 |n+1,.yl _,H=>trivial| n+1,.mp _,H=>trivial| n+1,.it _,H=>trivial| n+1,.bm _ _,H=>trivial| n+1,.mi _,H=>trivial
end
section
variable{Q:Program}{σ:Nat->FuncId}{X:Wd}
def eu(H H':an):Prop:=∀(b:Nat) cV,H[b]?=aa cV->∃blk',H'[b]?=aa blk'/\eA cV blk'
theorem eu.refl(H:an):eu H H:=λ_ cV h=>⟨cV,h,eA.refl _⟩
theorem eu.trans{A B C:an}(h:eu A B)(k:eu B C):eu A C:=λb x d=>by
 obtain⟨y,hy,h1⟩:=h b x d;obtain⟨z,g,h2⟩:=k b y hy;exact⟨z,g,h1.trans h2⟩
def jC.ext(h:jC d I):eu d I:=λ_ _ hb=>h.get hb
def eu.append(H H':an):eu H (H++H'):=λb cV hb=>⟨cV,by rw[AI (aft.1 hb).1];exact hb,eA.refl _⟩
def eu.len{H':an}(h:eu I H'):I.length<=H'.length:=by
 rcases ahS H'.length I.length with d|b
 .obtain⟨y,hy,_⟩:=h H'.length _ (BY d);simp_all
 .exact b
def SR.ahead(d:SR Q σ X)(h:eu X.H I):SR Q σ { X with H:=I }/\Ext X.H.length X { X with H:=I }:=by
 have l:Ext X.H.length X { X with H:=I }:=
  {B:=rfl,F:=λ_ _ h=>h,tS:=λ_ _ h=>.inl h,fw:=λ_ _ _=>rfl
   bS:=λb _ cV hb=>by
    obtain⟨blk',g,hl⟩:=h b cV hb;refine⟨blk',g,?_⟩;cases cV<;>cases blk'<;>simp only[eA,reduceCtorEq]at hl<;>simp_all
   Bp:=λb L h=>.inl ⟨b,L,h,rfl⟩,size:=agQ _,os:=rfl,tape:=rfl,output:=rfl,frame:=λ_ _ _=>rfl }
 refine⟨⟨λb L hb=>?_,d.inj,d.fb⟩,l⟩;obtain⟨h1,h2,cV,h3,h4⟩:=d.br b L hb;obtain⟨blk',h5,h6⟩:=h b cV h3;refine⟨h1,h2,blk',h5,?_⟩;have h7:BR Q σ { X with H:=I } cV L:=BR.ext Q σ l rfl (λ_ h=>h) h4;cases cV<;>cases blk'<;>simp only[eA,reduceCtorEq]at h6
 .obtain⟨rfl,hl⟩:=h6;obtain⟨us,g1,g2,g3⟩:=h7;exact⟨us,g1,g2,λi hi=>g3 i (ahd hl hi)⟩
 .obtain⟨rfl,rfl,hl,rfl,rfl⟩:=h6;obtain⟨j,us,rest,g1,g2,g3,g4,g5,g6⟩:=h7;exact⟨j,us,rest,g1,g2,g3,g4,g5,λi hi=>g6 i (ahd hl hi)⟩
 all_goals (rw[<-h6];exact h7)
def CV:bV->Nat->Prop
 | .box cs fl,i=>i<fl/\i<cs.length| .dz _ cs fl _ _,i=>i<fl/\i<cs.length| _,_=>False
def FL(X:Wd):Prop:=∀b L i cV,X.dA b=aa L->X.H[b]?=aa cV->CV cV i->X.F L.c i
def Wd.flag(X:Wd):Wd:={ X with F:=λc i=>X.F c i\/∃b L cV,X.dA b=aa L/\L.c=c/\X.H[b]?=aa cV/\CV cV i }
theorem SR.flag(j:SR Q σ X):SR Q σ X.flag/\Ext X.H.length X X.flag/\FL X.flag:=by
 have g:Ext X.H.length X X.flag:=
  {B:=rfl,F:=λ_ _ h=>.inl h
   tS:=λc i h=>by
    rcases h with h|⟨b,L,cV,h1,h2,_⟩
    .simp_all
    .grind
   fw:=λ_ _ _=>rfl
   bS:=λb _=>by
    intro cV hb;refine⟨cV,hb,?_⟩;cases cV<;>simp[Wd.flag]
   Bp:=λb L h=>.inl ⟨b,L,h,rfl⟩,size:=agQ _,os:=rfl,tape:=rfl,output:=rfl,frame:=λ_ _ _=>rfl }
 refine⟨⟨λb L hb=>?_,j.inj,λc i h=>?_⟩,g,λb L i cV h1 h2 h3=>.inr ⟨b,L,cV,h1,rfl,h2,h3⟩⟩
 .obtain⟨h1,h2,cV,h3,h4⟩:=j.br b L hb;refine⟨h1,h2,cV,h3,?_⟩;have key:∀i,X.flag.F L.c i->X.F L.c i\/CV cV i:=by
   rintro i (h|⟨v,x,blk',g1,g2,g3,g4⟩)
   .simp_all
   .have:v=b:=j.inj _ _ _ _ g1 hb g2;simp_all
  cases cV with
  |box cs fl=>
   obtain⟨us,g1,g2,g3⟩:=h4;exact⟨us,g1,A2.ext' σ g g2,λi hi l=>(key i l).elim (g3 i hi) λh=>by have:=h.1;omega⟩
  |dz sz cs fl y st=>
   obtain⟨u,us,rest,g1,g2,g3,g4,g5,g6⟩:=h4;exact⟨u,us,rest,g1,A2.ext' σ g g2,g3,g4,g5,λi hi l=>(key i l).elim (g6 i hi) λh=>by have:=h.1;omega⟩
  |map es=>exact BR.ext Q σ g rfl (λi h=>(key i h).elim id False.elim) h4
  |it s p=>exact BR.ext Q σ g rfl (λi h=>(key i h).elim id False.elim) h4
  |dH b=>exact BR.ext Q σ g rfl (λi h=>(key i h).elim id False.elim) h4
  |Ge m s d=>exact BR.ext Q σ g rfl (λi h=>(key i h).elim id False.elim) h4
  |lp f t p a c st q d=>exact BR.ext Q σ g rfl (λi h=>(key i h).elim id False.elim) h4
 .rcases h with h|⟨b,L,cV,h1,h2,_⟩
  .exact j.fb c i h
  .rw[<-h2];exact(j.br b L h1).2.1
theorem jf{α β:Type}{f:α->Option β}:∀{xs:List α} {ys:List β},bC f xs=aa ys->A2 (λx y=>f x=aa y) xs ys
 |[],ys,h=>by simp only[bC,AT]at h;subst h;exact A2.nil
 |x::xs,ys,h=>by
  simp only[bC]at h;split at h
  .simp at h
  .rename_i y d;split at h
   .simp at h
   .rename_i ys' b;simp only[AT]at h;subst h;exact A2.cons d (jf b)
theorem frz(hS:SR Q σ X)(hF:FL X){H:an}(U:eu H X.H):∀(n:Nat) {x:C} {y:FC} {v:Value},fv n H x=aa y->fj n H x->CR σ X x v->dJ σ X.F X.w y v
 |n,.f x,y,v,d,_,B=>by
  have:fv n H (.f x)=aa x:=by cases n<;>rfl
  rw[this]at d;cases d;exact B
 |0,.ptr _ _ _,y,v,d,_,_=>by simp[fv]at d
 |0,.sl _ _ _ _ _ _,y,v,d,_,_=>by simp[fv]at d
 |0,.cl _ _,y,v,d,_,_=>by simp[fv]at d
 |0,.yl _,y,v,d,_,_=>by simp[fv]at d
 |0,.mp _,y,v,d,_,_=>by simp[fv]at d
 |0,.it _,y,v,d,_,_=>by simp[fv]at d
 |0,.bm _ _,y,v,d,_,_=>by simp[fv]at d
 |0,.mi _,y,v,d,_,_=>by simp[fv]at d
 |n+1,.ptr b d9 ep,y,v,d,hm,B=>by
  simp only[fv]at d;split at d
  .rename_i cs fl M;simp only[OF]at d;obtain⟨ys,g,rfl⟩:=d;obtain⟨O,J⟩:=hm cs fl M;obtain⟨blk',m,j⟩:=U b _ M;cases blk'<;>simp only[eA,reduceCtorEq]at j;obtain⟨rfl,j⟩:=j;rename_i fl';obtain⟨L,S,B⟩:=B;simp only[m]at B;subst B;obtain⟨_,_,cV,I,N⟩:=hS.br b L S;rw[m]at I;cases I;obtain⟨us,A,z,_⟩:=N;have g:=jf g;have:=dJ.fp (σ:=σ) (F:=X.F) (w:=X.w) ys d9 L.c 0 us (by rw[<-z.len,g.len])
    (λi hi=>by rw[ahI];exact hF b L i _ S m ⟨by have:=g.len;omega,by have:=g.len;omega⟩)
    (λi u W=>by rw[ahI,fI A];exact W)
    (λi y u hy W=>by
     have hi:i<cs.length:=by rw[g.len];exact(aft.1 hy).1
     have Y:=BY hi;exact frz hS hF U n (g.2 i _ _ Y hy) (J _ (IN hi)) (z.2 i _ _ Y W))
   simp_all
  .simp at d
 |n+1,.sl b o l c ep sz,y,v,d,hm,B=>by
  have key:∀(cs:List C) (fl:Nat) (blk':bV) (L:Loc) (us rest:List Value) (ys:List FC) (cap:Nat),o+l*sz<=cs.length->o+l*sz<=fl->
    (∀i,i<fl->i<cs.length->CV blk' i)->X.H[b]?=aa blk'->X.dA b=aa L->rowAt X.w L.c (us++rest)->A2 (CR σ X) cs us->
    (∀x∈(cs.drop o).take (l*sz),fj n H x)->bC (fv n H) ((cs.drop o).take (l*sz))=aa ys->l<=cap->dJ σ X.F X.w (.fs ys l) (.slice (aa ⟨L.c,o,ab⟩) l cap):=by
   intro cs fl blk' L us rest ys cap q O a_ m S A z J g K;have g:=jf g;have d_:=z.len;have c_:ys.length=l*sz:=by rw[<-g.len];simp;omega
   have c9:=(z.drop o).take (l*sz);refine .fs ys l L.c o cap ((us.drop o).take (l*sz)) K (by rw[c_];simp;omega) (λi hi=>hF b L _ _ S m (a_ _ ap ap)) (λi u W=>?_) (λi y u hy W=>?_)
   .have hi:i<l*sz:=by
     grind
    rw[fI A,AI ap];simp_all
   .have hi:i<((cs.drop o).take (l*sz)).length:=by rw[g.len];exact(aft.1 hy).1
    have Y:=BY hi;exact frz hS hF U n (g.2 i _ _ Y hy) (J _ (IN hi)) (c9.2 i _ _ Y W)
  simp only[fv]at d;simp only[CR,iS]at B;split at d
  .rename_i cs fl M;split at d
   .rename_i q;simp only[OF]at d;obtain⟨ys,g,rfl⟩:=d;obtain⟨O,J⟩:=hm _ M;obtain⟨blk',m,j⟩:=U b _ M;cases blk'<;>simp only[eA,reduceCtorEq]at j;obtain⟨rfl,j⟩:=j;rename_i fl';simp only[m]at B;obtain⟨L,S,K,rfl⟩:=B;obtain⟨_,_,cV,I,N⟩:=hS.br b L S;rw[m]at I;cases I;obtain⟨us,A,z,_⟩:=N;exact key cs fl (.box cs fl') L us [] ys c q O (λi h1 h2=>⟨ap,h2⟩) m S (by simpa using A) z J g K
   .simp_all
  .rename_i s cs fl e M;split at d
   .rename_i q;obtain⟨rfl,rfl,q⟩:=q;simp only[OF]at d;obtain⟨ys,g,rfl⟩:=d;obtain⟨O,J⟩:=hm _ M;obtain⟨blk',m,j⟩:=U b _ M;cases blk'<;>simp only[eA,reduceCtorEq]at j;obtain⟨rfl,rfl,j,rfl,rfl⟩:=j;rename_i fl';simp only[m]at B;obtain⟨L,S,k,ho,K,rfl⟩:=B.2.1 trivial trivial;obtain⟨_,_,cV,I,N⟩:=hS.br b L S;rw[m]at I;cases I;obtain⟨_,us,rest,A,z,_⟩:=N;exact key cs fl (.dz sz cs fl' ep .loc) L us rest ys _ q O (λi h1 h2=>⟨ap,h2⟩) m S A z J g ap
   .simp_all
  .rename_i s cs fl e M;split at d
   .rename_i q;obtain⟨rfl,rfl⟩:=q;cases d;obtain⟨blk',m,j⟩:=U b _ M;cases blk'<;>simp only[eA,reduceCtorEq]at j;obtain⟨rfl,rfl,j,rfl,rfl⟩:=j;simp only[m]at B;obtain⟨_,_,rfl⟩:=B.2.1 trivial trivial;exact .aN
   .simp_all
  .rename_i s cs fl e M;split at d
   .rename_i q;obtain⟨rfl,rfl⟩:=q;cases d;obtain⟨blk',m,j⟩:=U b _ M;cases blk'<;>simp only[eA,reduceCtorEq]at j;obtain⟨rfl,rfl,j,rfl,rfl⟩:=j;simp only[m]at B;obtain⟨_,_,a,rfl⟩:=B.2.1 trivial trivial;exact .es a
   .simp_all
  .simp at d
 |n+1,.cl f b_,y,v,d,hm,B=>by
  simp only[fv,OF]at d;obtain⟨ys,g,rfl⟩:=d;obtain⟨us,rfl,z⟩:=B;have g:=jf g;refine .fn f ys us (by rw[<-z.len,g.len]) λi y u hy W=>?_;have hi:i<b_.length:=by rw[g.len];exact(aft.1 hy).1
  have Y:=BY hi;exact frz hS hF U n (g.2 i _ _ Y hy) (hm _ (IN hi)) (CR.Ta σ (z.2 i _ _ Y W))
 |n+1,.yl _,y,v,d,_,_=>by simp[fv]at d
 |n+1,.mp _,y,v,d,_,_=>by simp[fv]at d
 |n+1,.it _,y,v,d,_,_=>by simp[fv]at d
 |n+1,.bm _ _,y,v,d,_,_=>by simp[fv]at d
 |n+1,.mi _,y,v,d,_,_=>by simp[fv]at d
end
section
variable{Q:Program}{σ:Nat->FuncId}{X:Wd}
def SR.skip(g:SR Q σ X){w':World}{o:Obj}(d:fG X.w w' o)(m:X.B<=X.w.heap.size):∃X':Wd,X'.w=w'/\X'.H=X.H/\SR Q σ X'/\Ext X.H.length X X'/\X'.B<=X'.w.heap.size:=by
 have j:Ext X.H.length X { X with w:=w' }:=Ext.one g X.H.length rfl (λ_ _=>Iff.rfl) (λk l _=>d.Gf l)
  (λL i h=>by rw[SR.wq g]at h;simp at h) (λh=>absurd h (ai5 _)) (λ_ _ _=>rfl) (λ_ _=>rfl) (λL h=>.inl ⟨L,h,rfl⟩) (by show _<=w'.heap.size;rw[d.size];omega) d.os d.tape d.output
 refine⟨{ X with w:=w' },rfl,rfl,SR.step Q σ g j X.H.length (λ_ _=>rfl) (λ_ _=>rfl) (λb L _ hb=>d.Gf (g.br b L hb).2.1)
  (λ_ _ _ _ _ h=>h) (λL h=>by change X.dA X.H.length=aa L at h;rw[SR.wq g]at h;simp at h) (λc i h=>?_),j,?_⟩
 .have:=g.fb c i h;show c<w'.heap.size;rw[d.size];omega
 .show X.B<=w'.heap.size;rw[d.size];omega
def wrap_small{n:Int}(b:0<=n)(d:n<2 ^ 63):IntKind.i64.wrap n=n:=by
 have:n % (2 ^ 64:Int)=n:=Int.emod_eq_of_lt b ap;simp only[IntKind.wrap,IntKind.bits,IntKind.signed,this,Bool.true_and,decide_eq_true_eq];omega
def Ig(hS:SR Q σ X)(hB:X.B<=X.w.heap.size){aT:T}(hR:RR σ X aT e.tmps){sz bytes:Nat}{zs:List FC}{y:Arg}(H:ft Q σ c (.fu sz bytes zs z y)=ae){H':an}
  (h:cA aT X.H (.fu sz bytes zs z y)=aa (v,H')):ke Q σ X v H' (execOp e.eval c):=by
 simp only[ft]at H;split at H
 .rename_i t x' y' ho;simp only[IS,decide_eq_true_eq]at H;obtain⟨⟨⟨p,w⟩,S⟩,d9⟩:=H;have p:=cQ hR p;have w:=cQ hR w;obtain⟨a,hu,S⟩:=kS S;simp only[IS]at S;obtain⟨⟨j,f⟩,hz⟩:=S;obtain⟨x,us,b_,c9,N,i6,e_,f_⟩:=gV (σ:=σ) (X:=X) hz X.w;obtain⟨d_,u,A⟩:=Du f X.w;simp only[cA]at h;split at h
  .rename_i l o hl hc;obtain⟨kl,r⟩:=me p hl;obtain⟨kc,a_⟩:=me w hc;split at h
   .rename_i s;obtain⟨h0,g_,g,h_⟩:=s;unfold cF at g;simp only[IS,decide_eq_true_eq]at g;have K:us.length=sz:=by have:=N.len;simp at this;omega
    have M:=wrap_small (n:=l) h0 ap;have L:=wrap_small (n:=o) ap ap;have c_:o.toNat*bytes<=2 ^ 48:=by
     grind
    have m:¬ ((bytes:Int)*o>2 ^ 48):=by
     grind
    have J:((Array.range (o.toNat*sz)).map λi=>us.toArray[i % us.toArray.size]!)=(dQ o.toNat us).toArray:=by
     have:=lN us o.toNat ap;rwa[K]at this
    have run:(execOp e.eval c).run Q X.w=.ok (.value (.slice (aa ⟨X.w.heap.size,0,ab⟩) l.toNat o.toNat)) (X.w.alloc (.cells (dQ o.toNat us).toArray a)):=by
     simp only[execOp,ho];refine fU ?_;rw[r,a_];have B:¬ o<0:=ii
     have F:¬ l<0:=ii
     have q:¬ l>o:=ii
     by_cases d:o.toNat*sz=0
     .have k:dQ o.toNat us=[]:=ag3 (by rw[oA,K];exact d);have b:((decide (o<0)||decide ((bytes:Int)*o>2 ^ 48))||decide (l<0)||decide (l>o))=ag:=by rw[decide_eq_false B,decide_eq_false F,decide_eq_false q,decide_eq_false m];rfl
      simp only[Instr.makeSlice,Sem.run_bind,bT hu,asInt,asIntOf,Sem.run_pure,Result.andThen_ok,u,A,M,L,run_askRoom,dZ j];simp only[b,ahb,if_false,Sem.run_ite,ct d,Sem.run_bind,Result.andThen_ok,Sem.run_pure,run_askRoom,dZ j,newRow,run_newObj];rw[d,k,show(Array.map (λz=>(#[]:Array Value)[z % (#[]:Array Value).size]!) (Array.range 0))=#[] from by simp[show Array.range 0=(#[]:Array Nat) from rfl]];rfl
     .simp only[Instr.makeSlice,Sem.run_bind,bT hu,asInt,asIntOf,Sem.run_pure,Result.andThen_ok,u,A,M,L,run_askRoom,dZ j];have b:((decide (o<0)||decide ((bytes:Int)*o>2 ^ 48))||decide (l<0)||decide (l>o))=ag:=by rw[decide_eq_false B,decide_eq_false F,decide_eq_false q,decide_eq_false m];rfl
      simp only[b,ahb,if_false,Sem.run_ite,cC d,Sem.run_bind,b_,c9,Result.andThen_ok,Sem.run_pure,run_askRoom,dZ j,J,newRow,run_newObj];rfl
    split at h
    .rename_i d;subst d;simp only[AT,agO]at h;obtain⟨rfl,rfl⟩:=h;have:l=0:=ii
     subst this;obtain⟨X',U,O,W,Y,g5⟩:=SR.skip hS (fG.alloc X.w (.cells (dQ (0:Int).toNat us).toArray a)) hB;exact⟨_,X',.inl (by rw[U];exact run),O,W,dJ.es _,Y,g5⟩
    .simp only[AT,agO]at h;obtain⟨rfl,rfl⟩:=h;obtain⟨X',U,O,W,Y,g5,g6⟩:=Ii hS hB (mZ N o.toNat) a;refine⟨_,X',.inl (by rw[U];exact run),O,W,?_,Y,g6⟩;have I:X'.H[X.H.length]?=aa (.box ((dQ o.toNat zs).map .f) 0):=by rw[O];simp
     simp only[VR,kg,CR,iS,I]
     grind
   .simp at h
  .simp at h
 .simp at H
def Zk(H:an):∀x,fv 0 H x=fcC x:=λx=>by cases x<;>rfl
def U3(K:SR Q σ X)(hB:X.B<=X.w.heap.size){a:Act}{aT:T}(J:RR σ X aT a.tmps){sz:Nat}{hi mx:Arg}(B:ft Q σ c (.zL sz z hi mx)=ae){H':an}
  (h:cA aT X.H (.zL sz z hi mx)=aa (v,H')):ke Q σ X v H' (execOp a.eval c):=by
 simp only[ft]at B;split at B
 .rename_i t y W mx' ho;simp only[IS,decide_eq_true_eq]at B;obtain⟨⟨⟨⟨u,h2⟩,h3⟩,he⟩,hz⟩:=B;obtain⟨e,hu,F⟩:=kS he;simp only[cA]at h;unfold B9 at h;have o1:OR X σ ab ab:=trivial;have o2:OR X σ (aa (hi.ev aT)) (aa (a.eval W)):=cQ J h2;have o3:OR X σ (aa (mx.ev aT)) (aa (a.eval mx')):=cQ J h3;have u:=cQ J u;split at h
  .rename_i v' hv;simp only[AT,agO]at h;obtain⟨rfl,rfl⟩:=h;obtain⟨r,I,h5⟩:=B' K hu F u o1 o2 o3 hv;exact⟨r,X,.inl (by simp only[execOp,ho];exact fU I),rfl,K,h5,Ext.refl _ _,hB⟩
  .split at h
   .rename_i b o' n c' l s f_;rw[f_]at u;simp only[VR,kg,CR,iS]at u;split at h
    .rename_i d cs fl e' M;rw[M]at u;split at h
     .rename_i O;obtain⟨rfl,rfl,rfl,rfl⟩:=O;split at h
      .rename_i i j A b_;split at h
       .rename_i a_;obtain⟨rfl,i7,i6⟩:=a_;split at h
        .rename_i ys g_;simp only[AT,agO]at h;obtain⟨rfl,rfl⟩:=h;obtain⟨L,hL,k,hk,i9,e_⟩:=u.2.1 rfl rfl;have c9:k=0:=by
          rcases Nat.eq_zero_or_pos k with h|h
          .omega
          .have:=Nat.mul_pos h hz;omega
         subst c9;have i8:i<=n:=by
          unfold Gd at A
          grind
         have N:cG n n ab (aa (hi.ev aT)) (aa (mx.ev aT))=aa (0,i,i):=by
          have Y:Gd (hi.ev aT) i=aa i:=by
           unfold Gd at A ⊢
           grind
          simp[cG,b_,Y]
         obtain⟨I,_,_,_⟩:=e9 (Q:=Q) o1 o2 o3 N (cap:=L.cap) ap (agQ n) ae X.w;have h6:=gA (a:=aa ⟨L.c,0,ab⟩) hu F I;have c_:jC X.H (X.H.set b (.dz d cs (Nat.max fl (i*d)) l .loc)):=jC.set M ⟨rfl,rfl,ahD _ _,rfl,rfl⟩;obtain⟨g1,g2⟩:=SR.ahead K c_.ext;obtain⟨g3,g4,g5⟩:=SR.flag g1;have d9:=(aft.1 M).1;have m:(X.H.set b (.dz d cs (Nat.max fl (i*d)) l .loc))[b]?=aa (.dz d cs (Nat.max fl (i*d)) l .loc):=by simp[d9]
         have U:fv 1 (X.H.set b (.dz d cs (Nat.max fl (i*d)) l .loc)) (.sl b 0 i 0 l d)=aa (.fs ys i):=by
          simp only[fv,m];rw[ct ⟨trivial,trivial,ap⟩,iu (g:=fcC) λz _=>Zk _ z,List.drop_zero,g_];rfl
         have d_:fj 1 (X.H.set b (.dz d cs (Nat.max fl (i*d)) l .loc)) (.sl b 0 i 0 l d):=by
          intro cV q;rw[m]at q;cases q;refine⟨by have:=ahv fl (i*d);simp only[ahI];exact this,λz _=>?_⟩;cases z<;>trivial
         have S:CR σ ({ X with H:=X.H.set b (.dz d cs (Nat.max fl (i*d)) l .loc) }:Wd).flag (.sl b 0 i 0 l d) (.slice (aa ⟨L.c,0,ab⟩) i L.cap):=by
          simp only[CR,iS,Wd.flag,m];exact⟨agQ _,λ_ _=>⟨L,hL,0,ap,ap,bv⟩,_,_,_,rfl⟩
         have hf:=frz g3 g5 (eu.refl _) 1 U d_ S;have x:dJ σ ({ X with H:=X.H.set b (.dz d cs (Nat.max fl (i*d)) l .loc) }:Wd).flag.F X.w (.fs ys i) (.slice (aa ⟨L.c,0,ab⟩) i i):=by
          cases hf with
          |fs _ _ o o2 cap us h_ hl hF O hr=>exact .fs _ _ _ _ _ us (agQ _) hl hF O hr| VK a2 cap=>omega
         refine⟨.slice (aa ⟨L.c,0,ab⟩) i i,({ X with H:=X.H.set b (.dz d cs (Nat.max fl (i*d)) l .loc) }:Wd).flag,.inl ?_,rfl,g3,x,g2.trans (g4.mono bv),hB⟩;simp only[execOp,ho];refine fU ?_;rw[e_];simp[show i≠0 by omega,fS]at h6
         assumption
        .simp_all
       .simp_all
      .simp_all
     .simp_all
    .simp_all
   .simp at h
 .simp at B
def aaf(d:SR Q σ X)(g:X.B<=X.w.heap.size)(j:RR σ X r e.tmps){op:et}(b:ft Q σ c op=ae){H':an}
  (h:cA r X.H op=aa (v,H')):ke Q σ X v H' (execOp e.eval c):=by
 cases m:op.fsl
 case true=>
  cases op<;>simp only[et.fsl,reduceCtorEq]at m;obtain⟨rfl,u,X',B,F,H,I,J,K,_⟩:=Bl d g j b h;exact⟨u,X',.inl B,F,H,I,J,K⟩
 by_cases s:cls op=.p\/cls op=.r
 .exact ke.adi g d (V0 d j b s m h)
 .cases op with
  |pre st sz=>exact Z2 d g b h
  |alloc zs=>
   simp only[cA,AT,agO]at h;obtain⟨rfl,rfl⟩:=h;exact Qp d g b
  |box x=>
   simp only[cA]at h;split at h
   .rename_i xs q;simp only[AT,agO]at h;obtain⟨rfl,rfl⟩:=h;exact Y4 d g j b q
   .simp at h
  |iR sz zs n ps=>exact LZ d g j b h| store n x y=>exact SO d g j b h
  |pK=>
   simp only[cA,AT,agO]at h;obtain⟨rfl,rfl⟩:=h;exact RS d g b
  |qD L x y z=>exact RJ d g j b h| fu sz l zs x y=>exact Ig d g j b h| range x=>exact Sj d g j b h| next x=>exact UQ d g j b h
  |append sz l x y=>exact LW d g j b h| T2 x=>simp[ft]at b| copy sz x y=>simp[ft]at b| clear sz zs x=>exact QD d g j b h| sJ sz l zs x y=>exact TH d g j b h| mU x=>exact Nr d g j b h| zL sz x y z=>exact U3 d g j b h| qI x=>exact RY d g j b h| call f xs A=>simp[cA]at h| jr x xs A=>simp[cA]at h| recover=>simp[cA]at h| defer x xs=>simp[cA]at h| bad=>simp[cA]at h| _=>exact absurd (by simp[cls]) s
end
section
variable{Q:Program}{σ:Nat->FuncId}{X:Wd}
def oO(n:Nat)(H:an):V->Prop
 | .c x=>fj n H x| .a xs=>∀x∈xs,fj n H x| _=>True
theorem oO.le{n:Nat}{H H':an}(h:jC H H'){v:V}(b:oO n H v):oO n H' v:=by
 cases v with
 |c x=>exact fj.le n h b| a xs=>exact λx d=>fj.le n h (b x d)
 |_=>trivial
def ZF(n:Nat)(v:V)(H:an):jC H (UO n H v):=by
 cases v with
 |c x=>exact nG n x H| a xs=>exact jC.foldl (λH x=>nG n x H) xs H
 |_=>exact jC.refl H
def Ie(n:Nat)(v:V)(H:an):oO n (UO n H v) v:=by
 cases v with
 |c x=>exact kv n x H| a xs=>exact λx b=>iG (λx H=>kv n x H) xs H x b
 |_=>trivial
theorem uI(n:Nat):∀(b:List V) (H:an),jC H (b.foldl (UO n) H)
 |[],H=>jC.refl H| v::b,H=>(ZF n v H).trans (uI n b _)
theorem wZ(n:Nat):∀(b:List V) (H:an),∀v∈b,oO n (b.foldl (UO n) H) v
 |u::b,H,v,d=>by
  rcases ag8.1 d with rfl|d
  .exact(Ie n v H).le (uI n b _)
  .exact wZ n b _ v d
def FV1(σ:Nat->FuncId)(F:Nat->Nat->Prop)(w:World)(v:V)(u:Value):Prop:=∀X:Wd,X.F=F->X.w=w->kg σ X v u
def FV(σ:Nat->FuncId)(F:Nat->Nat->Prop)(w:World)(v:V)(u:Value):Prop:=∀X:Wd,X.F=F->X.w=w->VR σ X v u
def VJ(z:SR Q σ X)(q:FL X)(s:eu d X.H)(H:dq N d v=aa m)(A:oO N d v)(B:kg σ X v u):FV1 σ X.F X.w m u:=by
 intro K g j;cases v with
 |c x=>
  simp only[dq,OF]at H;obtain⟨y,I,rfl⟩:=H;have:=frz z q s N I A B;rw[<-g,<-j]at this;exact this
 |a xs=>
  simp only[dq,OF]at H;obtain⟨ys,b,rfl⟩:=H;obtain⟨us,rfl,l⟩:=B;have b:=jf b;refine⟨us,rfl,A2.map ⟨by rw[<-l.len,b.len],λi y u I J=>?_⟩⟩;have hi:i<xs.length:=by rw[b.len];exact(aft.1 I).1
  have F:=BY hi;have:=frz z q s N (b.2 i _ _ F I) (A _ (IN hi)) (l.2 i _ _ F J);rw[<-g,<-j]at this;exact this
 |top=>simp[dq]at H| t L=>simp[dq]at H
def bV.full:bV->bV
 | .box cs fl=>.box cs (Nat.max fl cs.length)| .dz s cs fl e st=>.dz s cs (Nat.max fl cs.length) e st| b=>b
def CW(H:an):jC H (H.map bV.full):=by
 refine⟨bv,λb x y g d=>?_⟩;rw[ahF,g]at d;simp only[ahs,AT]at d;subst d;cases x<;>simp[eA,bV.full,ahD]
theorem js:∀(n:Nat) {H:an} {x:C} {y:FC},fv n H x=aa y->fj n (H.map bV.full) x
 |n,H,.f _,y,_=>by cases n<;>trivial
 |0,H,.ptr _ _ _,y,_=>trivial| 0,H,.sl _ _ _ _ _ _,y,_=>trivial| 0,H,.cl _ _,y,_=>trivial| 0,H,.yl _,y,_=>trivial| 0,H,.mp _,y,_=>trivial| 0,H,.it _,y,_=>trivial| 0,H,.bm _ _,y,_=>trivial| 0,H,.mi _,y,_=>trivial
 |n+1,H,.ptr b B A,y,d=>by
  intro cs fl j;rw[ahF]at j;simp only[fv]at d;split at d
  .rename_i cs' fl' g;rw[g]at j;simp only[ahs,AT,bV.full,bV.box.injEq]at j;obtain⟨rfl,rfl⟩:=j;simp only[OF]at d;obtain⟨ys,m,rfl⟩:=d;refine⟨ahv _ _,λx u=>?_⟩;obtain⟨i,hi⟩:=aia u;obtain⟨y,_,v⟩:=(jf m).get hi;exact js n v
  .simp at d
 |n+1,H,.sl b o l c A sz,y,d=>by
  intro cV j;rw[ahF]at j;simp only[fv]at d;split at d
  .rename_i cs' fl' g;rw[g]at j;simp only[ahs,AT,bV.full]at j;subst j;split at d
   .rename_i q;simp only[OF]at d;obtain⟨ys,m,rfl⟩:=d;refine⟨ahd q (ahv _ _),λx u=>?_⟩;obtain⟨i,hi⟩:=aia u;obtain⟨y,_,v⟩:=(jf m).get hi;exact js n v
   .simp_all
  .rename_i s cs' fl' e g;rw[g]at j;simp only[ahs,AT,bV.full]at j;subst j;split at d
   .rename_i q;simp only[OF]at d;obtain⟨ys,m,rfl⟩:=d;refine⟨ahd q.2.2 (ahv _ _),λx u=>?_⟩;obtain⟨i,hi⟩:=aia u;obtain⟨y,_,v⟩:=(jf m).get hi;exact js n v
   .simp_all
  .rename_i s cs' fl' e g;rw[g]at j;simp only[ahs,AT,bV.full]at j
   grind
  .rename_i s cs' fl' e g;rw[g]at j;simp only[ahs,AT,bV.full]at j
   grind
  .simp at d
 |n+1,H,.cl f z,y,d=>by
  simp only[fv,OF]at d;obtain⟨ys,m,rfl⟩:=d;intro x u;obtain⟨i,hi⟩:=aia u;obtain⟨y,_,v⟩:=(jf m).get hi;exact js n v
 |n+1,H,.yl _,y,d=>trivial| n+1,H,.mp _,y,d=>trivial| n+1,H,.it _,y,d=>trivial| n+1,H,.bm _ _,y,d=>trivial| n+1,H,.mi _,y,d=>trivial
def CX(b:dq N I v=aa m):oO N (I.map bV.full) v:=by
 cases v with
 |c x=>
  simp only[dq,OF]at b;obtain⟨y,d,rfl⟩:=b;exact js N d
 |a xs=>
  simp only[dq,OF]at b;obtain⟨ys,g,rfl⟩:=b;intro x j;obtain⟨i,hi⟩:=aia j;obtain⟨y,_,d⟩:=(jf g).get hi;exact js N d
 |_=>trivial
def Wd.inner(X:Wd):Wd:=⟨λ_=>ab,X.F,[],X.w,X.w.heap.size⟩
theorem SR.inner(d:SR Q σ X):SR Q σ X.inner:=⟨λb L h=>by simp[Wd.inner]at h,λb j L g h=>by simp[Wd.inner]at h,d.fb⟩
def Wd.mR(Y:Wd):Wd:=Wd.flag { Y with H:=Y.H.map bV.full }
theorem SR.mR{Y:Wd}(b:SR Q σ Y):SR Q σ Y.mR/\Ext Y.H.length Y Y.mR/\FL Y.mR:=by
 obtain⟨h1,h2⟩:=SR.ahead b (CW Y.H).ext;obtain⟨h3,h4,h5⟩:=SR.flag h1;exact⟨h3,h2.trans (h4.mono bv),h5⟩
def Hn(K:SR Q σ Y)(n:jd b Y.H v=aa m)(A:VR σ Y v u):FV σ Y.mR.F Y.w m u:=by
 obtain⟨H,I,J⟩:=SR.mR K;have g:=VR.ext' σ I A;have one:∀{v m:V} {u:Value},dq b Y.H v=aa m->kg σ Y.mR v u->FV1 σ Y.mR.F Y.w m u:=by
  intro v m u n A;have z:dq b Y.mR.H v=aa m:=by
   show dq b (Y.H.map bV.full) v=aa m;cases v with
   |c x=>simp only[dq]at n ⊢;rw[qp b (CW Y.H)];exact n| a xs=>simp only[dq]at n ⊢;rw[iu (λx _=>qp b (CW Y.H) x)];exact n
   |_=>simp[dq]at n
  exact VJ H J (eu.refl _) z (CX n) A
 intro s j l;cases v with
 |t M=>
  simp only[jd,OF]at n;obtain⟨N,d,rfl⟩:=n;obtain⟨us,rfl,q⟩:=g;have d:=jf d;refine⟨us,rfl,by rw[<-q.len,d.len],λi y u F L=>?_⟩;have hi:i<M.length:=by rw[d.len];exact(aft.1 F).1
  have B:=BY hi;exact one (d.2 i _ _ B F) (q.2 i _ _ B L) s j l
 |c x=>exact VR.Ta σ (one (v:=.c x) n g s j l)| a xs=>exact VR.Ta σ (one (v:=.a xs) n g s j l)| top=>simp[jd,dq]at n
def SR.outer(q:SR Q σ X)(u:X.B<=X.w.heap.size)(s:SR Q σ Y)(d:Ext 0 X.inner Y) :
  SR Q σ { X with F:=Y.mR.F,w:=Y.w }/\Ext X.H.length X { X with F:=Y.mR.F,w:=Y.w }/\X.B<=Y.w.heap.size:=by
 obtain⟨h1,h2,h3⟩:=SR.mR s;have xB:X.w.heap.size<=Y.w.heap.size:=d.size;have g:∀k,k<X.w.heap.size->Y.w.heap[k]?=X.w.heap[k]?:=λk m=>d.frame k m (λb L h=>by simp[Wd.inner]at h);have l:∀c i,Y.mR.F c i->X.F c i\/X.w.heap.size<=c:=by
  intro c i h;rcases h2.tS c i h with h|h|⟨b,L,hb,rfl⟩
  .rcases d.tS c i h with h|h|⟨b,L,hb,_⟩
   .exact .inl h
   .exact .inr h
   .simp[Wd.inner]at hb
  .omega
  .have:=(s.br b L hb).1;rw[d.B]at this;exact .inr this
 have j:Ext X.H.length X { X with F:=Y.mR.F,w:=Y.w }:=
  {B:=rfl,F:=λc i h=>h2.F c i (d.F c i h)
   tS:=λc i h=>(l c i h).elim .inl λh=>.inr (.inl h)
   fw:=λc i h=>d.fw c i h
   bS:=λb _ cV hb=>⟨cV,hb,by cases cV<;>simp⟩
   Bp:=λb L h=>.inl ⟨b,L,h,rfl⟩,size:=xB,os:=d.os,tape:=d.tape,output:=d.output,frame:=λk m _=>g k m }
 refine⟨⟨λb L hb=>?_,q.inj,λc i h=>h1.fb c i h⟩,j,ahd u xB⟩;obtain⟨g1,g2,cV,g3,g4⟩:=q.br b L hb;refine⟨g1,ah2 g2 xB,cV,g3,BR.ext Q σ j (g _ g2) (λi h=>?_) g4⟩
 grind
end
section
variable{Q:Program}{σ:Nat->FuncId}{X:Wd}
def iC(Q:Program)(σ:Nat->FuncId)(X:Wd)(v:V)(H':an)(X':Wd)(u:Value):Prop:=
 X'.H=H'/\SR Q σ X'/\VR σ X' v u/\Ext X.H.length X X'/\X'.B<=X'.w.heap.size
def ta(b:CallKind)(cs:List Frame):Prop:=b=.normal\/(b=.deferred/\∃c rest,cs=c::rest/\c.mode=.returning)
def mh(b:Frame)(cs:List Frame):Prop:=ta b.kind cs
def ta.Nh{fr:Frame}{cs:List Frame}(h:ta fr.kind cs):tryRecover fr cs=ab:=by
 unfold tryRecover;rcases h with h|⟨h,c,rest,rfl,b⟩
 .rw[h]
 .simp_all
def Leaves(Q:Program)(f:FuncId)(d:CallKind)(b:Frame)(u:Value)(w:World):Prop:=
 b.mode=.returning/\b.defers=[]/\b.kind=d/\b.fn=f/\∃fn,Q.funcs[f]?=aa fn/\(Go.results fn b.tmps).run Q w=.ok u w
structure ik(Q:Program)(σ:Nat->FuncId)(call:eC):Prop where
 enters:∀f args H r,call (.fn f) args H=aa r->∀as w,(callFunc (σ f) as).run Q w=.ok (.enter (σ f) as) w
 fn:∀f args H r H',call (.fn f) args H=aa (r,H')->∀(X:Wd) us kind cs,X.H=H->SR Q σ X->X.B<=X.w.heap.size->A2 (VR σ X) args us->ta kind cs->kind=.normal\/f≠v8->
  ∃fr X' u,Steps Q (lone (Frame.enter Q (σ f) us.toArray kind) cs X.w) (lone fr cs X'.w)/\Leaves Q (σ f) kind fr u X'.w/\iC Q σ X r H' X' u
 yield:∀b args H r H',call (.yield b) args H=aa (r,H')->∀(X:Wd) us c cs L,X.H=H->SR Q σ X->X.B<=X.w.heap.size->A2 (VR σ X) args us->X.dA b=aa L->
  ∃f tmps as bd X' u,(Instr.yield L.c us.toArray).run Q X.w=.ok (.round L.c f tmps as bd) X.w/\
   Steps Q (lone (Frame.round L.c f tmps as bd .normal) (c::cs) X.w) (lone (c.finish u) cs X'.w)/\iC Q σ X r H' X' u
def dV(Q:Program)(σ:Nat->FuncId)(X:Wd)(o:Oper)(a:Act)(v:V)(H':an):Prop:=
 ∀(b:Frame) (ops:Array Oper) (i:Nat) (rest:List Nat) (k:List Item) (cs:List Frame),ops[i]?=aa o->Region.wanted o (yielded ops a.tmps)=ae->mh b cs->
  ∃X' u,Steps Q (lone (b.atR a (.inRegion ops (i::rest)::k)) cs X.w) (lone (b.atR (a.put o.dst u) (.inRegion ops rest::k)) cs X'.w)/\iC Q σ X v H' X' u
def dV.adh(hd:∀o,c.op≠.defer o)(h:ke Q σ X v I (execOp e.eval c)):dV Q σ X c e v I:=by
 intro b ops i rest k cs ho j l;obtain⟨u,X',d,h1,h2,h3,h4,h5⟩:=h;refine⟨X',u,.one (step_lone_go ?_),h1,h2,h3,h4,h5⟩;rw[stepGR_op ho j,Oper.semAt_eq _ _ _ hd];have g:=Frame.finish_atR b e ops i rest k u;rw[ho]at g;simp only[ahz]at g;rw[<-g];rcases d with d|⟨d,rfl⟩<;>simp[stepG.apply,Sem.runT_eq,d]
def dV.zt(hd:∀o,c.op≠.defer o){f:FuncId}{us:Array Value}(g:(execOp e.eval c).run Q X.w=.ok (.enter f us) X.w)
  (h:∀cs,∃fr X' u,Steps Q (lone (Frame.enter Q f us .normal) cs X.w) (lone fr cs X'.w)/\Leaves Q f .normal fr u X'.w/\iC Q σ X v I X' u):dV Q σ X c e v I:=by
 intro b ops i rest k cs ho j x;obtain⟨fr,X',u,h1,⟨l1,l2,l,m,fn,q,s⟩,h3⟩:=h (b.atR e (.inRegion ops (i::rest)::k)::cs);refine⟨X',u,.head (step_lone_go (fr':=Frame.enter Q f us .normal) (cs':=b.atR e (.inRegion ops (i::rest)::k)::cs) (w':=X.w) ?_) (h1.trans (.one ?_)),h3⟩
 .rw[stepGR_op ho j,Oper.semAt_eq _ _ _ hd];simp[stepG.apply,Sem.runT_eq,g,Frame.atR]
 .have d:=Frame.finish_atR b e ops i rest k u;rw[ho]at d;simp only[ahz]at d;rw[<-d];exact step_leave_returned ⟨l1,l2,l,fn,by rw[m];exact q,s⟩
def dV.R5(hd:∀o,c.op≠.defer o){f:FuncId}{tmps:Array Value}{as bd:Code}(d:(execOp e.eval c).run Q X.w=.ok (.round l f tmps as bd) X.w)
  (h:∀o cs,∃X' u,Steps Q (lone (Frame.round l f tmps as bd .normal) (o::cs) X.w) (lone (o.finish u) cs X'.w)/\iC Q σ X v I X' u):dV Q σ X c e v I:=by
 intro b ops i rest k cs ho j m;obtain⟨X',u,h1,h3⟩:=h (b.atR e (.inRegion ops (i::rest)::k)) cs;refine⟨X',u,.head (step_lone_go (fr':=Frame.round l f tmps as bd .normal) (cs':=b.atR e (.inRegion ops (i::rest)::k)::cs) (w':=X.w) ?_) ?_,h3⟩
 .rw[stepGR_op ho j,Oper.semAt_eq _ _ _ hd];simp[stepG.apply,Sem.runT_eq,d,Frame.atR]
 .have g:=Frame.finish_atR b e ops i rest k u;simp_all
theorem sK{args:List V}{c:Callee}{d:List V}(j:cr v args=aa (c,d))(l:VR σ X v u)(q:A2 (VR σ X) args B) :
  match c with
  | .fn f=>∃fst cap:List Value,u=.func (.func (σ f)) fst.toArray cap.toArray/\A2 (VR σ X) d (fst++B++cap)| .yield b=>d=args/\∃L,X.dA b=aa L/\u=.func (.yield L.c) #[] #[]:=by
 unfold cr at j;split at j
 .rename_i f m;cases j;cases l with
  |fn _ _ cap x y=>
   refine⟨[],cap,rfl,q.append (A2.map ⟨x.symm,λi v u l z=>?_⟩)⟩;exact y i v u l z
 .rename_i f m;cases j;obtain⟨cap,rfl,g⟩:=l;exact⟨[],cap,rfl,q.append (A2.map (g.oF λv u h=>CR.Ta σ h))⟩
 .rename_i b;cases j;obtain⟨L,A,_,rfl⟩:=l;simp_all
 .rename_i f first
  cases j;obtain⟨cap,rfl,g⟩:=l;have s:A2 (VR σ X) (first.map .c) cap:=A2.map (g.oF λv u h=>CR.Ta σ h);exact⟨cap,[],rfl,by simpa using s.append q⟩
 .simp at j
def lI{y:Operand}(b:c.op=.call A)(g:A.callee=.value y){fn:Fn}{fst cap:Array Value}(d:e.eval y=.func fn fst cap) :
  (execOp e.eval c).run Q w=(invoke (.fn fn cap) (fst++A.args.map e.eval)).run Q w:=by
 simp only[execOp,b,resolve,g,d,Deferred.ofValue,Sem.run_bind,Sem.run_pure,Result.andThen_ok]
def gX{f:FuncId}{cap as:Array Value}(h:∀as w,(callFunc f as).run Q w=.ok (.enter f as) w):(invoke (.fn (.func f) cap) as).run Q w=.ok (.enter f (as++cap)) w:=by
 simp only[invoke];exact h _ _
end
section
variable{Q:Program}{σ:Nat->FuncId}{X:Wd}{call:eC}
def Ud(h:jC d I)(v:V):dq b I v=dq b d v:=by
 cases v with
 |c x=>simp only[dq,qp b h]| a xs=>simp only[dq,iu (λx _=>qp b h x)]
 |_=>rfl
def Dp(L:ik Q σ call)(hS:SR Q σ X)(hB:X.B<=X.w.heap.size){f:Nat}{args:List V}{us:List Value}{H':an}{r':V}(g:iy call f args d=aa (r',H'))(hH:eu H' X.H)(M:A2 (VR σ X) args us)(cs:List Frame) :
  (∀as w,(callFunc (σ f) as).run Q w=.ok (.enter (σ f) as) w)/\
  ∃l X' u,Steps Q (lone (Frame.enter Q (σ f) us.toArray .normal) cs X.w) (lone l cs X'.w)/\Leaves Q (σ f) .normal l u X'.w/\iC Q σ X r' X.H X' u/\X'.dA=X.dA:=by
 unfold iy at g;split at g
 .simp at g
 .rename_i s H;split at g
  .simp at g
  .rename_i r U b;split at g
   .simp_all
   .rename_i a_ N;simp only[AT,agO]at g;obtain⟨rfl,rfl⟩:=g;have A:=uI deep args d;have B:=wZ deep args d;obtain⟨v,K,h3⟩:=SR.flag hS;have H:=jf H;have z:A2 (VR σ X.flag.inner) s us:=by
     refine⟨by rw[<-H.len];exact M.len,λi y u S hu=>?_⟩;have hi:i<args.length:=by rw[H.len];exact(aft.1 S).1
     have O:=BY hi;have m:dq deep d args[i]=aa y:=H.2 i _ _ O S;have q:=VR.ext' σ K (M.2 i _ _ O hu);rw[<-Ud A]at m;have I:kg σ X.flag args[i] u:=by
      cases j:args[i]with
      |c x=>rw[j]at q;exact q| a xs=>rw[j]at q;exact q| top=>trivial| t vs=>rw[j]at m;simp[dq]at m
     exact VR.Ta σ (VJ v h3 hH m (B _ (IN hi)) I X.flag.inner rfl rfl)
    obtain⟨l,Y,u,W,g2,g3,J,g5,g6,g7⟩:=L.fn f s [] r U b X.flag.inner us .normal cs rfl (SR.inner v) (agQ _) z (.inl rfl) (.inl rfl);obtain⟨k1,k2,k3⟩:=SR.outer v hB J g6;refine⟨L.enters f s [] _ b,l,{ X.flag with F:=Y.mR.F,w:=Y.w },u,W,g2,⟨rfl,k1,?_,K.trans (k2.mono (agQ _)),k3⟩,rfl⟩;rw[<-g3]at N;exact Hn J N g5 _ rfl rfl
def qJ(b:ft Q σ c (.call l L k)=ae):∃o,c.op=.call o/\o.callee=.value (.func (σ l))/\S_ σ L o.args=ae:=by
 simp only[ft]at b;split at b
 .rename_i o d;simp only[fC]at b
  grind
 .simp at b
def Df(b:ft Q σ c (.jr z L k)=ae):∃o y,c.op=.call o/\o.callee=.value y/\mA σ z y=ae/\S_ σ L o.args=ae:=by
 simp only[ft]at b;split at b
 .rename_i o d;simp only[fC]at b
  grind
 .simp at b
def oq{o:Call}(h:c.op=.call o):∀o,c.op≠.defer o:=λb e=>by rw[h]at e;cases e
def Eg(l:ik Q σ call)(q:SR Q σ X)(j:X.B<=X.w.heap.size)(F:RR σ X r e.tmps){f:Nat}(J:ft Q σ c (.call f L k)=ae)
  {H':an} (y:iy call f (fA r L) d=aa (v,H')) (m:eu H' X.H):dV Q σ X c e v X.H:=by
 obtain⟨o,x,I,H⟩:=qJ J;have s:=qC F H;have b:=(Dp l q j y m s []).1;refine dV.zt (oq x) (f:=σ f) (us:=o.args.map e.eval) ?_ λcs=>?_
 .rw[lI x I (fn:=.func (σ f)) (fst:=#[]) (cap:=#[]) rfl,gX b];simp
 .obtain⟨_,z,X',u,g,A,B,_⟩:=Dp l q j y m s cs;exact⟨z,X',u,by rw[Array.toArray_toList]at g;exact g,A,B⟩
def CG(A:ik Q σ call)(I:SR Q σ X)(z:X.B<=X.w.heap.size)(F:RR σ X r e.tmps){xs:List Arg}(L:ft Q σ c (.call b xs k)=ae)
  {H':an} (M:iy call b (fA r xs) d=aa (v,H')) (B:eu H' X.H)
  (f:Frame) (ops:Array Oper) (i:Nat) (rest:List Nat) (h:List Item) (cs:List Frame) (g:ops[i]?=aa c) (N:Region.wanted c (yielded ops e.tmps)=ae) :
  ∃X' u,Steps Q (lone (f.atR e (.inRegion ops (i::rest)::h)) cs X.w) (lone (f.atR (e.put c.dst u) (.inRegion ops rest::h)) cs X'.w)/\iC Q σ X v X.H X' u/\X'.dA=X.dA:=by
 obtain⟨o,s,K,m⟩:=qJ L;have J:=qC F m;obtain⟨l,n,X',u,q,⟨O,S,U,W,fn,Y,a⟩,x,y⟩:=Dp A I z M B J (f.atR e (.inRegion ops (i::rest)::h)::cs);rw[Array.toArray_toList]at q;have j:(execOp e.eval c).run Q X.w=.ok (.enter (σ b) (o.args.map e.eval)) X.w:=by
  rw[lI s K (fn:=.func (σ b)) (fst:=#[]) (cap:=#[]) rfl,gX l];simp
 refine⟨X',u,.head (step_lone_go (fr':=Frame.enter Q (σ b) (o.args.map e.eval) .normal) (cs':=f.atR e (.inRegion ops (i::rest)::h)::cs) (w':=X.w) ?_) (q.trans (.one ?_)),x,y⟩
 .rw[stepGR_op g N,Oper.semAt_eq _ _ _ (oq s)];simp[stepG.apply,Sem.runT_eq,j,Frame.atR]
 .have H:=Frame.finish_atR f e ops i rest h u;rw[g]at H;simp only[ahz]at H;rw[<-H];exact step_leave_returned ⟨O,S,U,fn,by rw[W];exact Y,a⟩
def Ef(j:ik Q σ call)(A:SR Q σ X)(y:X.B<=X.w.heap.size)(z:RR σ X r e.tmps){f:Nat}(H:ft Q σ c (.call f L k)=ae)
(m:call (.fn f) (fA r L) X.H=aa (v,I)):dV Q σ X c e v I:=by
 obtain⟨o,l,F,d⟩:=qJ H;have B:=qC z d;have b:=j.enters _ _ _ _ m;refine dV.zt (oq l) (f:=σ f) (us:=o.args.map e.eval) ?_ λcs=>?_
 .rw[lI l F (fn:=.func (σ f)) (fst:=#[]) (cap:=#[]) rfl,gX b];simp
 .obtain⟨q,X',u,g,s,x⟩:=j.fn _ _ _ _ _ m X _ .normal cs rfl A y B (.inl rfl) (.inl rfl);exact⟨q,X',u,by rw[Array.toArray_toList]at g;exact g,s,x⟩
def Qy(q:ik Q σ call)(M:SR Q σ X)(J:X.B<=X.w.heap.size)(K:RR σ X r e.tmps){xs:List Arg}(hm:ft Q σ c (.jr z xs k)=ae)
  {H':an} {o:Callee} {args:List V} (j:cr (z.ev r) (fA r xs)=aa (o,args)) (x:call o args X.H=aa (v,H')):dV Q σ X c e v H':=by
 obtain⟨cl,y,m,O,hy,F⟩:=Df hm;have N:=qC K F;have S:=sK j (cQ K hy) N;cases o with
 |fn f=>
  obtain⟨fst,cap,g,B⟩:=S;have s:=q.enters _ _ _ _ x;refine dV.zt (oq m) (f:=σ f) (us:=fst.toArray++cl.args.map e.eval++cap.toArray) ?_ λcs=>?_
  .rw[lI m O g,gX s]
  .obtain⟨W,X',u,Y,I,h3⟩:=q.fn _ _ _ _ _ x X _ .normal cs rfl M J B (.inl rfl) (.inl rfl);refine⟨W,X',u,?_,I,h3⟩;have a:(fst++(cl.args.map e.eval).toList++cap).toArray=fst.toArray++cl.args.map e.eval++cap.toArray:=lw
   grind
 |yield b=>
  obtain⟨rfl,L,hL,g⟩:=S;have key:=λo cs=>q.yield b _ _ _ _ x X _ o cs L rfl M J N hL;obtain⟨f,tmps,as,bd,_,_,d,_⟩:=key default [];refine dV.R5 (oq m) (l:=L.c) (f:=f) (tmps:=tmps) (as:=as) (bd:=bd) ?_ λo cs=>?_
  .rw[lI m O g,Array.empty_append];rw[Array.toArray_toList]at d;exact d
  .obtain⟨f',H,as',U,X',u,A,Y,I⟩:=key o cs
   grind
end
section
variable{Q:Program}{σ:Nat->FuncId}{X:Wd}{call:eC}
def xX(σ:Nat->FuncId)(X:Wd):gY->Deferred->Prop
 | .dR b,d=>∃L o,X.dA b=aa L/\X.H[b]?=aa (.dH o)/\d = { target:=.collected L.c,args:=#[] }| .fn f args,d=>∃us cap:Array Value,d = { target:=.fn (.func (σ f)) cap,args:=us }/\A2 (VR σ X) args (us.toList++cap.toList)
theorem xX.fK{X X':Wd}(g:tQ X.H.length X X'){x:gY}{d:Deferred}(h:xX σ X x d):xX σ X' x d:=by
 cases x with
 |dR b=>
  obtain⟨L,o,h1,h2,h3⟩:=h;obtain⟨blk',h4,h5⟩:=g.bS b (aft.1 h2).1 _ h2;cases blk'<;>simp only at h5;exact⟨L,_,h5 L h1,h4,h3⟩
 |fn f args=>
  obtain⟨us,cap,h1,h2⟩:=h;exact⟨us,cap,h1,h2.oF λ_ _ h=>VR.fK σ g h⟩
def iV(σ:Nat->FuncId)(X:Wd)(b:List gY)(d:List Deferred):Prop:=A2 (xX σ X) b d
def xX.ext'{X:Wd}(b:Ext X.H.length X Y){x:gY}{d:Deferred}(h:xX σ X x d):xX σ Y x d:=xX.fK b.W h
theorem iV.fK{X X':Wd}(g:tQ X.H.length X X'){b:List gY}{d:List Deferred}(h:iV σ X b d):iV σ X' b d:=h.oF λ_ _ h=>xX.fK g h
theorem iV.ext'{X X':Wd}(g:Ext X.H.length X X'){b:List gY}{d:List Deferred}(h:iV σ X b d):iV σ X' b d:=h.oF λ_ _ h=>xX.ext' g h
def tU(Q:Program)(σ:Nat->FuncId)(X:Wd)(o:Oper)(a:Act)(ok:Frame->Prop)(v:V)(H':an)(d:List gY):Prop:=
 ∀(b:Frame) (ops:Array Oper) (i:Nat) (rest:List Nat) (k:List Item) (cs:List Frame),ops[i]?=aa o->Region.wanted o (yielded ops a.tmps)=ae->mh b cs->ok b->
  ∃(X':Wd) (u:Value) (a':Act),Steps Q (lone (b.atR a (.inRegion ops (i::rest)::k)) cs X.w) (lone (b.atR (a'.put o.dst u) (.inRegion ops rest::k)) cs X'.w)/\iC Q σ X v H' X' u/\a'.tmps=a.tmps/\iV σ X' d a'.defers
def dV.S3(h:dV Q σ X c e v I){d:List gY}(hd:iV σ X d e.defers){ok:Frame->Prop}:tU Q σ X c e ok v I d:=by
 intro b ops i rest k cs ho j g _;obtain⟨X',u,h1,h2⟩:=h b ops i rest k cs ho j g;exact⟨X',u,e,h1,h2,rfl,hd.ext' h2.2.2.2.1⟩
theorem dV.ahead(j:SR Q σ X){d H':an}(g:eu X.H d){o:Oper}{a:Act}{v:V}(h:dV Q σ { X with H:=d } o a v H'):dV Q σ X o a v H':=by
 intro b ops i rest k cs ho m l;obtain⟨X',u,h1,h2,h3,h4,h5,h6⟩:=h b ops i rest k cs ho m l;exact⟨X',u,h1,h2,h3,h4,(SR.ahead j g).2.trans (h5.mono g.len),h6⟩
def jK(op:et)(b:Frame):Prop:=b.roundOf=ab\/op.fN=ae
def It(z:SR Q σ X)(y:X.B<=X.w.heap.size)(g:ft Q σ c .recover=ae){u:List gY}(A:iV σ X u e.defers):tU Q σ X c e (jK .recover) (.c (.f .sW)) X.H u:=by
 intro b ops i rest k cs x F B q;have q:b.roundOf=ab:=q.elim id λh=>by simp[et.fN]at h
 simp only[ft]at g;split at g
 .rename_i o v;simp only[fC]at g;split at g
  .rename_i j;have l:(execOp e.eval c).run Q X.w=.ok .recover X.w:=by
    simp[execOp,v,resolve,j,invoke,builtin]
   refine⟨X,.nilIface,e,.one (step_lone_go ?_),⟨rfl,z,dJ.sW,Ext.refl _ _,y⟩,rfl,A⟩;rw[stepGR_op x F,Oper.semAt_eq _ _ _ (oq v)];have d:=Frame.finish_atR b e ops i rest k .nilIface;rw[x]at d;simp only[ahz]at d;rw[<-d];have m:tryRecover (b.atR e (.inRegion ops (i::rest)::k)) cs=ab:=ta.Nh B;have s:(b.atR e (.inRegion ops (i::rest)::k)).roundOf=ab:=q;simp[stepG.apply,Sem.runT_eq,l,m,s]
  .simp at g
 .simp at g
def QU(B:SR Q σ X)(A:X.B<=X.w.heap.size)(v:RR σ X r e.tmps){xs:List Arg}(g:ft Q σ c (.defer z xs)=ae){u:List gY}(H:iV σ X u e.defers)
{args:List V} (F:cr (z.ev r) (fA r xs)=aa (.fn N,args)):tU Q σ X c e (jK (.defer z xs)) .top X.H (.fn N args::u):=by
 intro b ops i rest k cs x J L m;have m:b.roundOf=ab:=m.elim id λh=>by simp[et.fN]at h
 simp only[ft]at g;split at g
 .rename_i o j;split at g
  .rename_i y K;simp only[IS]at g;have I:=sK F (cQ v g.1) (qC v g.2);obtain⟨fst,cap,q,s⟩:=I;have l:(execOp e.eval c).run Q X.w=.ok (.defer { target:=.fn (.func (σ N)) cap.toArray,args:=fst.toArray++o.args.map e.eval }) X.w:=by
    simp[execOp,j,resolve,K,q,Deferred.ofValue]
   refine⟨X,undef,{ e with defers:={ target:=.fn (.func (σ N)) cap.toArray,args:=fst.toArray++o.args.map e.eval }::e.defers },.one (step_lone_go ?_),⟨rfl,B,trivial,Ext.refl _ _,A⟩,rfl,A2.cons ⟨_,_,rfl,by simpa using s⟩ H⟩;rw[stepGR_op x J,m,Oper.semAt_none];have d:=Frame.finish_atR b { e with defers:={ target:=.fn (.func (σ N)) cap.toArray,args:=fst.toArray++o.args.map e.eval }::e.defers } ops i rest k undef;rw[x]at d;simp only[ahz]at d;rw[<-d];simp[stepG.apply,Sem.runT_eq,l,Frame.atR]
  .simp at g
 .simp at g
def uD(d:ft Q σ c F=ae)(g:∀x xs,F≠.defer x xs)(j:F≠.bad):∀o,c.op≠.defer o:=by
 intro o b;cases F
 case pre c sz=>cases c<;>simp[ft,b]at d
 case defer x xs=>exact g _ _ rfl
 case bad=>exact j rfl
 all_goals simp[ft,b]at d
def Kq(A:ik Q σ call)(g:SR Q σ X)(l:X.B<=X.w.heap.size){s z:St}(m:X.H=s.heap)(q:RR σ X s.aT e.tmps)(u:iV σ X s.defs e.defers){op:et}(j:ft Q σ c op=ae)
  (h:jP call s op=aa (v,z)):tU Q σ X c e (jK op) v z.heap z.defs/\z.aT=s.aT:=by
 by_cases F:(∃f xs h,op=.call f xs h)\/(∃x xs h,op=.jr x xs h)\/op=.recover\/∃x xs,op=.defer x xs
 .rcases F with⟨f,xs,M,rfl⟩|⟨x,xs,M,rfl⟩|rfl|⟨x,xs,rfl⟩
  .simp only[jP,OF,agO]at h;obtain⟨⟨J,H'⟩,d,rfl,rfl⟩:=h;refine⟨dV.S3 ?_ u,rfl⟩;unfold mj at d;split at d
   .exact Ef A g l q j (m▸d)
   .have y:eu X.H H':=by
     have b:=d;unfold iy at b;split at b
     .simp_all
     .split at b
      .simp_all
      .split at b
       .simp_all
       .simp only[AT,agO]at b;rw[<-b.2,m];exact(uI _ _ _).ext
    obtain⟨K,L⟩:=SR.ahead g y;refine dV.ahead g y ?_;exact Eg A (X:={ X with H:=H' }) K l (q.ext' σ L) j d (eu.refl _)
  .simp only[jP]at h;split at h
   .rename_i o args B;simp only[OF,agO]at h;obtain⟨⟨J,H'⟩,d,rfl,rfl⟩:=h;exact⟨dV.S3 (Qy A g l q j B (m▸d)) u,rfl⟩
   .simp at h
  .simp only[jP,AT,agO]at h;obtain⟨rfl,rfl⟩:=h;rw[<-m];exact⟨It g l j u,rfl⟩
  .simp only[jP]at h;split at h
   .rename_i f args B;simp only[AT,agO]at h;obtain⟨rfl,rfl⟩:=h;refine⟨?_,rfl⟩;rw[<-m];exact QU g l q j u B
   .simp at h
 .have I:(cA s.aT s.heap op).map (λr=>(r.1,{ s with heap:=r.2 }))=aa (v,z):=by
   cases op<;>first|exact h|(exfalso;apply F;simp)
  simp only[OF,agO]at I;obtain⟨⟨J,H'⟩,d,rfl,rfl⟩:=I;refine⟨dV.S3 (dV.adh (uD j ?_ ?_) (aaf g l q j (m▸d))) u,rfl⟩
  .simp_all
  .rintro rfl;simp[cA]at d
end
section
variable{Q:Program}{σ:Nat->FuncId}{X:Wd}{call:eC}
structure Fr(Q:Program)(σ:Nat->FuncId)(n:Nat)(X:Wd)(s:St)(a:Act):Prop where
 heap:X.H=s.heap
 sr:SR Q σ X
 b:X.B<=X.w.heap.size
 aT:RR σ X s.aT a.tmps
 defs:iV σ X s.defs a.defers
 size:n<=a.tmps.size
def rL{ops:Array Oper}(F:oi Q σ b ops c J=ae){aT:T}{tmps:Array Value}(I:∀p w',J.g=aa (p,w')->VR σ X (aT.get p) (tmps.getD p.toNat undef))(K:b<=tmps.size)(h:wanted aT J.g=aa k) :
  Region.wanted c (yielded ops tmps)=k:=by
 simp only[oi,IS]at F;obtain⟨_,g⟩:=F;unfold Region.wanted;cases x:c.guard with
 |none=>
  rw[x]at g;cases n:J.g with
  |none=>rw[n]at h;simp only[wanted,AT]at h;simpa using h| some q=>rw[n]at g;simp at g
 |some M=>
  obtain⟨j,O⟩:=M;rw[x]at g;cases n:J.g with
  |none=>rw[n]at g;simp at g
  |some q=>
   obtain⟨p,w'⟩:=q;rw[n]at g h;simp only[IS,beq_iff_eq]at g;obtain⟨rfl,g⟩:=g;split at g
   .rename_i d m;simp only[IS,beq_iff_eq,decide_eq_true_eq]at g;obtain⟨B,A⟩:=g;have l:=I p _ n;rw[B]at l;have v:d<tmps.size:=ah2 A K;have s:tmps.getD d undef=tmps[d]:=by simp[Array.getD,v]
    rw[s]at l;simp only[wanted]at h;simp only[yielded,m,ahz,Array.getElem?_eq_getElem v];split at h
    .rename_i H z;rw[z]at l;simp only[AT]at h;have y:dJ σ X.F X.w (.bool H) tmps[d]:=l;generalize tmps[d]=u at y;cases y
     assumption
    .rename_i z;rw[z]at l;obtain⟨us,L,N⟩:=l;simp_all
    .simp_all
   .simp_all
def Sh{ops:Array Oper}(s:oi Q σ N ops c J=ae){a:Act}(q:RR σ X r a.tmps)(x:N<=a.tmps.size)(y:VR σ X v u) :
  RR σ X (oz r J.dst v) (a.put c.dst u).tmps/\(a.put c.dst u).tmps.size=a.tmps.size/\(a.put c.dst u).defers=a.defers:=by
 simp only[oi,IS]at s;obtain⟨⟨_,b⟩,_⟩:=s;split at b
 .rename_i d p g j;simp only[IS,beq_iff_eq,decide_eq_true_eq]at b;obtain⟨rfl,l⟩:=b;rw[g,j];exact⟨RR.set σ q (ah2 l x) y,by simp[Act.put],rfl⟩
 .rename_i g j;rw[g,j];exact⟨q,rfl,rfl⟩
 .simp at b
theorem VR.undef:VR σ X (.t []) undef:=⟨[],rfl,A2.nil⟩
def S5(S:ik Q σ call){s F:St}{a:Act}(d:Fr Q σ l X s a){ops:Array Oper}(j:oi Q σ l ops c J=ae)(h:jQ call s J=aa F)
  {b:Frame} {i:Nat} {rest:List Nat} {k:List Item} {cs:List Frame} (A:ops[i]?=aa c) (U:mh b cs) (W:jK J.op b) :
  ∃X' a',Steps Q (lone (b.atR a (.inRegion ops (i::rest)::k)) cs X.w) (lone (b.atR a' (.inRegion ops rest::k)) cs X'.w)/\Fr Q σ l X' F a'/\Ext X.H.length X X'/\a'.tmps.size=a.tmps.size:=by
 unfold jQ at h;split at h
 .rename_i g;have g:=rL j (λp w' _=>d.aT p) d.size g;split at h
  .rename_i v o N;simp only[AT]at h;subst h;have n:ft Q σ c J.op=ae:=by simp only[oi,IS]at j;exact j.1.1
   obtain⟨O,Y⟩:=Kq S d.sr d.b d.heap d.aT d.defs n N;obtain⟨X',u,a',H,⟨I,q,K,z,L⟩,x,M⟩:=O b ops i rest k cs A g U W;obtain⟨B,m,y⟩:=Sh j (X:=X') (a:=a') (by rw[x];exact d.aT.ext' σ z) (by rw[x];exact d.size) K;refine⟨X',a'.put c.dst u,H,⟨I,q,L,?_,by rw[y];exact M,by rw[m,x];exact d.size⟩,z,by rw[m,x]⟩;simp_all
  .simp at h
 .rename_i g;have g:=rL j (λp w' _=>d.aT p) d.size g;simp only[AT]at h;subst h;obtain⟨B,m,y⟩:=Sh j d.aT d.size (VR.undef (σ:=σ) (X:=X));refine⟨X,a.put c.dst undef,.one ?_,⟨d.heap,d.sr,d.b,B,by rw[y];exact d.defs,by rw[m];exact d.size⟩,Ext.refl _ _,m⟩;have:=stepR_op_skip (P:=Q) (b:=b) (a:=a) (k:=k) (cs:=cs) (w:=X.w) (ops:=ops) (i:=i) (rest:=rest) (by simp[A,g]);simp_all
 .simp at h
theorem Kt(H:ik Q σ call){n:Nat}{ops:Array Oper}{b:Frame}{k:List Item}{cs:List Frame}(I:mh b cs):∀(aos:List bh) (j:Nat) (X:Wd) (s u:St) (a:Act),Fr Q σ n X s a->
  iD (oi Q σ n ops) (ops.toList.drop j) aos=ae->(∀ao∈aos,jK ao.op b)->ja call aos s=aa u->
  ∃X' a',Steps Q (lone (b.atR a (.inRegion ops ((List.range ops.size).drop j)::k)) cs X.w) (lone (b.atR a' k) cs X'.w)/\Fr Q σ n X' u a'/\Ext X.H.length X X'/\a'.tmps.size=a.tmps.size
 |[],j,X,s,u,a,B,d,_,h=>by
  simp only[ja,AT]at h;subst h;have W:(List.range ops.size).drop j=[]:=by
   cases g:ops.toList.drop j with
   |nil=>
    simp_all
   |cons x xs=>rw[g]at d;simp[iD]at d
  rw[W];exact⟨X,a,.one stepR_region_end,B,Ext.refl _ _,rfl⟩
 |ao::aos,j,X,s,u,a,B,d,J,h=>by
  cases g:ops.toList.drop j with
  |nil=>rw[g]at d;simp[iD]at d
  |cons o os=>
   rw[g]at d;simp only[iD,IS]at d;have y:j<ops.toList.length:=by
    rcases ahS j ops.toList.length with v|v
    .omega
    .rw[List.drop_eq_nil_iff.2 v]at g;simp at g
   have l:=agT y;rw[g]at l;simp only[List.cons.injEq]at l;obtain⟨Y,F⟩:=l;simp only[ja]at h;split at h
   .rename_i s1 v;have m:(List.range ops.size).drop j=j ::(List.range ops.size).drop (j+1):=by
     rw[agT (by simpa using y)];simp
    rw[m];obtain⟨z,a1,M,N,A,O⟩:=S5 H B d.1 v (b:=b) (i:=j) (rest:=(List.range ops.size).drop (j+1)) (k:=k) (cs:=cs) (by simp at y;simp[y,Y]) I (J _ bv);obtain⟨K,L,k1,k2,k3,k4⟩:=Kt H I aos (j+1) z s1 u a1 N (by rw[<-F];exact d.2) (λao h=>J ao (by simp[h])) h;refine⟨K,L,M.trans k1,k2,A.trans (k3.mono ?_),k4.trans O⟩;have:=A.bS;rcases ahS z.H.length X.H.length with q|U
    .obtain⟨blk',S,_⟩:=A.bS z.H.length q _ (BY q);simp_all
    .omega
   .simp at h
end
def od{r':T}{x:Arg}(h:∀p∈x.rd,r.get p=r'.get p):x.ev r=x.ev r':=by
 cases x with
 |r p=>exact h p (by simp[Arg.rd])
 |k v=>rfl
def Nj{r':T}{x:Option Arg}(h:∀p∈ZL x,r.get p=r'.get p):x.map (·.ev r)=x.map (·.ev r'):=by
 cases x with
 |none=>rfl| some x=>simp only[ahs];rw[od h]
def jq{r':T}{xs:List Arg}(h:∀p∈xs.flatMap Arg.rd,r.get p=r'.get p):fA r xs=fA r' xs:=by
 unfold fA;refine List.map_congr_left λx d=>od λp b=>h p (ai2.2 ⟨x,d,b⟩)
theorem mn{r r':T}:∀(ps:List (Nat × Nat × Arg)) (cs:List C),(∀p∈ps.flatMap (λq=>q.2.2.rd),r.get p=r'.get p)->iw r cs ps=iw r' cs ps
 |[],cs,_=>rfl
 |(d,n,x)::ps,cs,h=>by
  simp only[iw];rw[od (x:=x) (r:=r) (r':=r') λp b=>h p (by simp[b])];split
  .split
   .exact mn ps _ λp b=>h p (by simp only[List.flatMap_cons,agP];exact .inr b)
   .rfl
  .rfl
def IQ{r':T}(h:∀p∈F.rd,r.get p=r'.get p):cA r I F=cA r' I F:=by
 have e:∀x:Arg,(∀p∈x.rd,p∈F.rd)->x.ev r=x.ev r':=λx A=>od λp d=>h p (A p d);have g:∀x:Option Arg,(∀p∈ZL x,p∈F.rd)->x.map (·.ev r)=x.map (·.ev r'):=λx A=>Nj λp d=>h p (A p d);cases F
 case build zs ps=>simp only[cA];rw[mn ps _ h]
 case iR sz zs n ps=>
  simp only[cA];rw[mn (r:=r) (r':=r') (ps.map λp=>(p.1*sz,sz,p.2)) _ λp d=>h p (by
   simp only[ai2,agX]at d;obtain⟨q,⟨q',j,rfl⟩,u⟩:=d;exact ai2.2 ⟨q',j,u⟩)]
 case lS sz zs n ps=>
  simp only[cA];rw[mn (r:=r) (r':=r') (ps.map λp=>(p.1*sz,sz,p.2)) _ λp d=>h p (by
   simp only[ai2,agX]at d;obtain⟨q,⟨q',j,rfl⟩,u⟩:=d;exact ai2.2 ⟨q',j,u⟩)]
 case Ao f xs=>simp only[cA];rw[jq h]
 case pick c a b=>
  simp only[cA];rw[e c co];split
  .rename_i v _;cases v<;>simp[e a co,e b co]
  .rfl
 case slice sz x lo hi mx=>simp only[cA];rw[e x co,g lo co,g hi co,g mx co]
 case vj n sz x lo hi mx=>simp only[cA];rw[e x co,g lo co,g hi co,g mx co]
 case xr x lo hi=>simp only[cA];rw[e x co,g lo co,g hi co]
 case qD B m k v=>simp only[cA];rw[e m co,e k co,e v co]
 case ju x=>simp only[cA];rw[e x co]
 case box x=>simp only[cA];rw[e x co]
 case load n x=>simp only[cA];rw[e x co]
 case nI x=>simp only[cA];rw[e x co]
 case un o x=>simp only[cA];rw[e x co]
 case QO k x=>simp only[cA];rw[e x co]
 case Hc x=>simp only[cA];rw[e x co]
 case Es x=>simp only[cA];rw[e x co]
 case T2 x=>simp only[cA];rw[e x co]
 case mM o x=>simp only[cA];rw[e x co]
 case field o n x=>simp only[cA];rw[e x co]
 case range x=>simp only[cA];rw[e x co]
 case next x=>simp only[cA];rw[e x co]
 case extract x i=>simp only[cA];rw[e x co]
 case len x=>simp only[cA];rw[e x co]
 case lens x=>simp only[cA];rw[e x co]
 case cap x=>simp only[cA];rw[e x co]
 case entry x=>simp only[cA];rw[e x co]
 case mU x=>simp only[cA];rw[e x co]
 case qI x=>simp only[cA];rw[e x co]
 case clear s z x=>simp only[cA];rw[e x co]
 case uH lo xs=>simp only[cA];rw[jq h]
 case An f xs=>simp only[cA];rw[jq h]
 case zL s x y z=>simp only[cA];rw[e x co,e y co,e z co]
 case sJ s b z x y=>simp only[cA];rw[e x co,e y co]
 case store n x y=>simp only[cA];rw[e x co,e y co]
 case bin o x y=>simp only[cA];rw[e x co,e y co]
 case eq n k x y=>simp only[cA];rw[e x co,e y co]
 case hZ s a x y=>simp only[cA];rw[e x co,e y co]
 case idxs x y=>simp only[cA];rw[e x co,e y co]
 case EJ l s n x y=>simp only[cA];rw[e x co,e y co]
 case append s b x y=>simp only[cA];rw[e x co,e y co]
 case copy s x y=>simp only[cA];rw[e x co,e y co]
 case lookup c z x y=>simp only[cA];rw[e x co,e y co]
 case fu s b z x y=>simp only[cA];rw[e x co,e y co]
 all_goals rfl
def Kr{call:eC}{s:St}{r':T}(h:∀p∈F.rd,s.aT.get p=r'.get p){l:St}(d:jP call s F=aa (v,l)):jP call { s with aT:=r' } F=aa (v,{ l with aT:=r' }):=by
 by_cases b:(∃f xs h,F=.call f xs h)\/(∃x xs h,F=.jr x xs h)\/F=.recover\/∃x xs,F=.defer x xs
 .rcases b with⟨f,xs,u,rfl⟩|⟨x,xs,u,rfl⟩|rfl|⟨x,xs,rfl⟩
  .simp only[jP,OF,agO]at d ⊢;obtain⟨q,m,rfl,rfl⟩:=d;rw[jq h]at m;simp_all
  .simp only[jP]at d ⊢;rw[od (x:=x) (r:=s.aT) (r':=r') (λp b=>h p (by simp[et.rd,b])),jq (xs:=xs) (r:=s.aT) (r':=r') (λp b=>h p (by simp only[et.rd,agP];exact .inr b))]at d;split at d
   .simp only[OF,agO]at d ⊢
    grind
   .simp_all
  .simp only[jP,AT,agO]at d ⊢;simp_all
  .simp only[jP]at d ⊢;rw[od (x:=x) (r:=s.aT) (r':=r') (λp b=>h p (by simp[et.rd,b])),jq (xs:=xs) (r:=s.aT) (r':=r') (λp b=>h p (by simp only[et.rd,agP];exact .inr b))]at d;split at d
   .grind
   .simp_all
 .have g:(cA s.aT s.heap F).map (λr=>(r.1,{ s with heap:=r.2 }))=aa (v,l):=by
   cases F<;>first|exact d|(exfalso;apply b;simp)
  have j:jP call { s with aT:=r' } F=(cA r' s.heap F).map (λr=>(r.1,{ s with aT:=r',heap:=r.2 })):=by
   cases F<;>first|rfl|(exfalso;apply b;simp)
  rw[j,<-IQ h];simp only[OF,agO]at g ⊢
  grind
def V6(b:cls F=.p)(H H':an):cA r H' F=(cA r H F).map λq=>(q.1,H'):=by
 cases F<;>simp only[cls,reduceCtorEq]at b<;>simp only[cA]
 all_goals first
  |(simp[Function.comp_def];done)
  |(split<;>simp[Function.comp_def];done)
  |(split<;>(first|rfl|(split<;>rfl)))
section
def iE{H':an}(j:eu I H')(b:Nat):I[b]?=ab\/(∃cs fl fl',I[b]?=aa (.box cs fl)/\H'[b]?=aa (.box cs fl'))\/
  (∃s cs fl fl' e st,I[b]?=aa (.dz s cs fl e st)/\H'[b]?=aa (.dz s cs fl' e st))\/∃cV,I[b]?=aa cV/\H'[b]?=aa cV:=by
 cases l:I[b]? with
 |none=>exact .inl rfl
 |some cV=>
  obtain⟨blk',d,g⟩:=j b _ l;cases cV<;>cases blk'<;>simp only[eA,reduceCtorEq]at g
  .simp_all
  .grind
  all_goals (rw[<-g]at d;exact .inr (.inr (.inr ⟨_,rfl,d⟩)))
variable{H H':an}
def Ei(g:eu H H'){cs:List C}(x:az H h=aa cs):az H' h=aa cs:=by
 cases h with
 |ptr b j m=>
  simp only[az]at x ⊢;rcases iE g b with e|⟨cs,fl,fl',e,d⟩|⟨s,cs,fl,fl',l,st,e,d⟩|⟨cV,e,d⟩
  .simp_all
  .simp_all
  .grind
  .simp_all
 |f h=>cases h<;>exact x
 |_=>simp[az]at x
def UA(g:eu H H')(h:aV H U m=aa v):aV H' U m=aa v:=by
 cases m with
 |c m=>
  simp only[aV,ahh]at h ⊢;obtain⟨cs,b,d⟩:=h;exact⟨cs,Ei g b,d⟩
 |_=>simp[aV]at h
def B7(g:eu H H')(x:bA H h=aa N):bA H' h=aa N:=by
 cases h with
 |sl b o l c m sz=>
  simp only[bA]at x ⊢;rcases iE g b with e|⟨cs,fl,fl',e,d⟩|⟨s,cs,fl,fl',j,st,e,d⟩|⟨cV,e,d⟩
  .simp_all
  all_goals (rw[e]at x;rw[d];exact x)
 |f h=>cases h<;>exact x
 |_=>simp[bA]at x
def FO(g:eu H H'){cs:List C}(x:dy H N h=aa cs):dy H' N h=aa cs:=by
 cases h with
 |sl b o l c m s=>
  simp only[dy]at x ⊢;rcases iE g b with e|⟨cs,fl,fl',e,d⟩|⟨s,cs,fl,fl',j,st,e,d⟩|⟨cV,e,d⟩
  .simp_all
  all_goals (rw[e]at x;rw[d];exact x)
 |f h=>cases h<;>exact x
 |_=>simp[dy]at x
def rv(g:eu H H'){b:NU}(x:isNil H b h=aa k):isNil H' b h=aa k:=by
 cases b<;>cases h<;>first|exact x|(simp[isNil]at x;done)|skip
 case sl.sl bb o l c m s=>
  simp only[isNil]at x ⊢;rcases iE g bb with e|⟨cs,fl,fl',e,d⟩|⟨s,cs,fl,fl',j,st,e,d⟩|⟨cV,e,d⟩
  .simp_all
  all_goals (rw[e]at x;rw[d];exact x)
 all_goals (rename_i y;cases y<;>exact x)
def Ua(d:eu H H'){b:NU}(h:NX H b v m=aa k):NX H' b v m=aa k:=by
 unfold NX at h;split at h
 .exact h
 .exact h
 .exact rv d h
 .exact rv d h
 .exact rv d h
 .exact rv d h
 .simp at h
def IH(g:eu H H'){lo hi mx:Option V}(h:cJ H N m lo hi mx=aa v):cJ H' N m lo hi mx=aa v:=by
 unfold cJ at h;split at h
 .exact h
 .exact h
 .exact h
 .rename_i b o n cap l s;simp only[cJ];rcases iE g b with e|⟨cs,fl,fl',e,d⟩|⟨s,cs,fl,fl',j,st,e,d⟩|⟨cV,e,d⟩
  .simp_all
  all_goals (rw[e]at h;rw[d];exact h)
 .simp at h
def IG(g:eu H H'){sz:Nat}{lo hi mx:Option V}(h:qO H N sz m lo hi mx=aa v):qO H' N sz m lo hi mx=aa v:=by
 unfold qO at h;split at h
 .rename_i b j x;simp only[qO];rcases iE g b with e|⟨cs,fl,fl',e,d⟩|⟨s,cs,fl,fl',l,st,e,d⟩|⟨cV,e,d⟩
  .simp_all
  all_goals (rw[e]at h;rw[d];exact h)
 .exact h
 .simp at h
def EM(j:eu H H'){i:V}(h:bO H N U m i=aa v):bO H' N U m i=aa v:=by
 unfold bO at h ⊢;split at h
 .simp at h
 .split at h
  .rename_i hi;simp only[hi,if_true];split at h
   .rename_i b o l c u s;split at h
    .rename_i x;simp only[x,if_true];rcases iE j b with e|⟨cs,fl,fl',e,g⟩|⟨s,cs,fl,fl',q,st,e,g⟩|⟨cV,e,g⟩
     .simp_all
     .simp_all
     .grind
     .simp_all
    .simp_all
   .omega
   .omega
   .omega
   .omega
  .simp at h
def ET(j:eu H H'){g:CK}{k:V}(h:gN H g K m k=aa v):gN H' g K m k=aa v:=by
 unfold gN at h;split at h
 .exact h
 .rename_i b k;simp only[gN];rcases iE j b with e|⟨cs,fl,fl',e,d⟩|⟨s,cs,fl,fl',l,st,e,d⟩|⟨cV,e,d⟩
  .simp_all
  all_goals (rw[e]at h;rw[d];exact h)
 .simp at h
def MB(d:eu H H')(h:wL H m=aa v):wL H' m=aa v:=by
 cases m with
 |c m=>
  simp only[wL]at h ⊢;split at h
  .rename_i n g;split at h
   .rename_i cs b;rw[B7 d g,FO d b];exact h
   .simp at h
  .simp at h
 |_=>simp[wL]at h
def NG(g:eu H H')(x:oC H h=aa N):oC H' h=aa N:=by
 cases h with
 |sl b o l c m sz=>
  simp only[oC]at x ⊢;rcases iE g b with e|⟨cs,fl,fl',e,d⟩|⟨s,cs,fl,fl',j,st,e,d⟩|⟨cV,e,d⟩
  .simp_all
  .simp_all
  .grind
  .simp_all
 |f h=>cases h<;>exact x
 |_=>simp[oC]at x
def UL(j:eu H H'){d:List (FC × C)}(h:H[b]?=aa (.map d)):H'[b]?=aa (.map d):=by
 obtain⟨blk',l,g⟩:=j b _ h;cases blk'<;>simp only[eA,reduceCtorEq,bV.map.injEq]at g;simp_all
def UN(j:eu H H')(h:H[b]?=aa (.Ge N l k)):H'[b]?=aa (.Ge N l k):=by
 obtain⟨blk',s,g⟩:=j b _ h;cases blk'<;>simp only[eA,reduceCtorEq,bV.Ge.injEq]at g;simp_all
def Hg(b:eu H H')(h:oS H m=aa v):oS H' m=aa v:=by
 unfold oS at h;split at h
 .split at h
  .rename_i d;split at h
   .rename_i g;simp only[oS,UN b d,UL b g];exact h
   .simp at h
  .simp at h
 .simp at h
def Ks(l:cls F=.r)(b:eu H H')(h:cA r H F=aa (v,I)):I=H/\cA r H' F=aa (v,H'):=by
 cases F<;>first|(simp only[cA,reduceCtorEq]at h;done)|(simp only[cls,reduceCtorEq]at l;done)|simp only[cA]at h ⊢
 case len x=>
  split at h
  .rename_i y m;split at h
   .rename_i n g;simp only[AT,agO]at h;obtain⟨rfl,rfl⟩:=h;simp only[B7 b g];simp
   .simp at h
  .simp at h
 case cap x=>
  split at h
  .rename_i y m;split at h
   .rename_i n g;simp only[AT,agO]at h;obtain⟨rfl,rfl⟩:=h;simp only[NG b g];simp
   .simp at h
  .simp at h
 all_goals
  simp only[OF,agO]at h;obtain⟨q,d,rfl,rfl⟩:=h;refine⟨rfl,?_⟩
 case entry=>rw[Hg b d];rfl
 case load=>rw[UA b d];rfl
 case eq=>rw[Ua b d];rfl
 case slice=>rw[IH b d];rfl
 case vj=>rw[IG b d];rfl
 case hZ=>rw[EM b d];rfl
 case lookup=>rw[ET b d];rfl
 case Es=>rw[MB b d];rfl
def adD(g:cls F=.a)(h:cA r H F=aa (v,d)):d=H\/∃cV,d=H++[cV]:=by
 cases F<;>first|(simp only[cls,reduceCtorEq]at g;done)|simp only[cA]at h
 case call=>simp at h
 case alloc zs=>simp only[AT,agO]at h;exact .inr ⟨_,h.2.symm⟩
 case pK=>simp only[AT,agO]at h;exact .inr ⟨_,h.2.symm⟩
 case box x=>
  grind
 case iR sz zs n ps=>
  split at h
  .simp_all
  .simp only[OF,agO]at h
   grind
 case fu sz b zs x y=>
  grind
end
section
variable{Q:Program}{σ:Nat->FuncId}{X:Wd}
def Jx(d:SR Q σ X)(l:X.B<=X.w.heap.size){fl:Nat}(s:X.H[N]?=aa (.box f fl))(u:X.dA N=ab)(h:A2 (CR σ X) f B)(e:TypeId) :
  ∃X',X'.w=X.w.alloc (.cells B.toArray e)/\X'.H=X.H/\SR Q σ X'/\Ext X.H.length X X'/\X'.dA N=aa ⟨X.w.heap.size,0⟩/\X'.B<=X'.w.heap.size/\∀b,b≠N->X'.dA b=X.dA b:=by
 obtain⟨g,j⟩:=SR.fill d l s u (fG.alloc X.w (.cells B.toArray e)) 0 (λv=>⟨B,rF (fG.alloc _ _),A2.ext' σ v h,λi _ q=>by
  have:=d.fb _ _ q;simp at this⟩)
 exact⟨{ X with dA:=λb=>if b=N then aa ⟨X.w.heap.size,0⟩else X.dA b,w:=X.w.alloc (.cells B.toArray e) },rfl,rfl,g,j,bv,ge,λb m=>by simp[m]⟩
def GV(Q:Program)(σ:Nat->FuncId)(X:Wd)(n:Nat)(v:V)(s:Sem Next)(e:Prop):Prop:=
 ∃X' u,s.run Q X.w=.ok (.value u) X'.w/\iC Q σ X v X.H X' u/\(∀b,b≠n->X'.dA b=X.dA b)/\(e->X'.dA=X.dA)
def EB(y:SR Q σ X)(x:X.B<=X.w.heap.size){fl:Nat}(g:X.H[N]?=aa (.box f fl))(A:X.dA N=ab){us:List Value}(h:A2 (CR σ X) f us)(e:TypeId){s:Sem Next}{b:Prop}(z:¬ b)
  (B:s.run Q X.w=.ok (.value (.pointer (aa ⟨X.w.heap.size,0,ab⟩))) (X.w.alloc (.cells us.toArray e))):GV Q σ X N (.c (.ptr N 0 0)) s b:=by
 obtain⟨X',j,d,l,m,q,u,v⟩:=Jx y x g A h e;refine⟨X',_,by rw[j];exact B,⟨d,l,?_,m,u⟩,v,λh=>absurd h z⟩;exact⟨_,q,by rw[d,g]⟩
def Jy(y:SR Q σ X)(x:X.B<=X.w.heap.size){fl:Nat}(g:X.H[N]?=aa (.box f fl))(B:X.dA N=ab){us:List Value}(h:A2 (CR σ X) f us)(e:TypeId){s:Sem Next}{sz:Nat}(A:l<=b){c:Prop}(z:¬ c)
  (F:s.run Q X.w=.ok (.value (.slice (aa ⟨X.w.heap.size,0,ab⟩) l b)) (X.w.alloc (.cells us.toArray e))):GV Q σ X N (.c (.sl N 0 l b 0 sz)) s c:=by
 obtain⟨X',j,d,m,q,H,u,v⟩:=Jx y x g B h e;refine⟨X',_,by rw[j];exact F,⟨d,m,?_,q,u⟩,v,λh=>absurd h z⟩;simp only[VR,kg,CR,iS,d,g];simp_all
def uq(h:eu (I++[.box f 0]) d):∃fl,d[I.length]?=aa (.box f fl):=by
 obtain⟨blk',g,b⟩:=h I.length (.box f 0) bv;cases blk'<;>simp only[eA,reduceCtorEq]at b;simp_all
def FN{w':World}{o:Obj}(g:SR Q σ X)(d:fG X.w w' o)(q:X.B<=X.w.heap.size):∃X':Wd,X'.w=w'/\X'.H=X.H/\SR Q σ X'/\Ext X.H.length X X'/\X'.B<=X'.w.heap.size/\X'.dA=X.dA:=by
 have j:Ext X.H.length X { X with w:=w' }:=Ext.one g X.H.length rfl (λ_ _=>Iff.rfl) (λk m _=>d.Gf m)
  (λL i h=>by rw[SR.wq g]at h;simp at h) (λh=>absurd h (ai5 _)) (λ_ _ _=>rfl) (λ_ _=>rfl) (λL h=>.inl ⟨L,h,rfl⟩) (by show _<=w'.heap.size;rw[d.size];omega) d.os d.tape d.output
 refine⟨{ X with w:=w' },rfl,rfl,SR.step Q σ g j X.H.length (λ_ _=>rfl) (λ_ _=>rfl) (λb L _ l=>d.Gf (g.br b L l).2.1)
  (λ_ _ _ _ _ h=>h) (λL h=>by change X.dA X.H.length=aa L at h;rw[SR.wq g]at h;simp at h) (λc i h=>?_),j,?_,rfl⟩
 .have:=g.fb c i h;show c<w'.heap.size;rw[d.size];omega
 .show X.B<=w'.heap.size;rw[d.size];omega
def Uy(N:SR Q σ X)(M:X.B<=X.w.heap.size)(hR:RR σ X r e.tmps){op:et}(hc:cls op=.a)(H:ft Q σ c op=ae){H1:an}(h:cA r d op=aa (v,H1))
  (hH:eu H1 X.H) (Y:H1.length≠d.length->X.dA d.length=ab):GV Q σ X d.length v (execOp e.eval c) (H1.length=d.length):=by
 cases op<;>first|(simp only[cls,reduceCtorEq]at hc;done)|skip
 case call f xs h'=>simp[cA]at h
 case alloc zs=>
  simp only[cA,AT,agO]at h;obtain⟨rfl,rfl⟩:=h;obtain⟨fl,I⟩:=uq hH;simp only[ft]at H;split at H
  .rename_i t B;obtain⟨z,us,h1,L,h3,_⟩:=gV (σ:=σ) (X:=X) H X.w;refine EB N M I (Y bv) h3 t bv ?_;simp only[execOp,B];refine fU ?_;simp[Instr.alloc,h1,newVar,newRow,L]
  .simp at H
 case pK=>
  simp only[cA,AT,agO]at h;obtain⟨rfl,rfl⟩:=h;have I:X.H[d.length]?=aa (.map []):=by
   obtain⟨blk',hb,hl⟩:=hH d.length (.map []) bv;cases blk'<;>simp only[eA,reduceCtorEq,bV.map.injEq]at hl;simp_all
  simp only[ft]at H;split at H
  .rename_i t B;have Y:=Y bv;obtain⟨h1,L⟩:=SR.fill N M I Y (fG.alloc X.w (.map #[] 0)) 0 (λhx=>⟨[],(fG.alloc _ _).new,A2.nil,bv⟩);refine⟨{ X with dA:=λb=>if b=d.length then aa ⟨X.w.heap.size,0⟩else X.dA b,w:=X.w.alloc (.map #[] 0) },.map (aa X.w.heap.size),?_,⟨rfl,h1,⟨⟨X.w.heap.size,0⟩,bv,⟨[],I⟩,rfl⟩,L,by show X.B<=_;simp;omega⟩,λb hb=>by simp[hb],λh=>by simp at h⟩;simp[execOp,B,Instr.makeMap]
  .simp at H
 case box x=>
  simp only[cA]at h;split at h
  .rename_i xs j5;simp only[AT,agO]at h;obtain⟨rfl,rfl⟩:=h;obtain⟨fl,I⟩:=uq hH;simp only[ft]at H;split at H
   .rename_i t y B;obtain⟨us,L,h3⟩:=tY (cQ hR H) j5;refine EB N M I (Y bv) h3 t bv ?_;simp only[execOp,B];refine fU ?_;simp[Instr.box,newVar,newRow,L]
   .simp_all
  .simp at h
 case iR sz zs n ps=>
  simp only[ft]at H;split at H
  .rename_i t n' qs B;simp only[IS,beq_iff_eq,decide_eq_true_eq]at H;obtain⟨⟨⟨⟨rfl,s⟩,F⟩,j_⟩,hq⟩:=H;obtain⟨a,hu,F⟩:=kS F;simp only[IS,decide_eq_true_eq]at F;obtain⟨⟨j,hz⟩,j7⟩:=F;obtain⟨z,us,a_,b_,A,_⟩:=gV (σ:=σ) (X:=X) hz X.w;have J:us.length=sz:=by have:=A.len;simp at this;omega
   simp only[cA]at h;split at h
   .rename_i I;subst I;split at h
    .rename_i n8;simp only[AT,agO]at h;obtain⟨rfl,rfl⟩:=h;have W:qs.toList=[]:=by
      have:=(gH hq).len
      grind
     have W:qs=#[]:=by apply Array.ext';simpa using W
     obtain⟨X',h1,L,h3,h4,h5,h6⟩:=FN N (fG.alloc X.w (.cells #[] a)) M;refine⟨X',.slice (aa ⟨X.w.heap.size,0,ab⟩) 0 0,?_,⟨L,h3,dJ.es _,h4,h5⟩,λb _=>by rw[h6],λ_=>h6⟩;rw[h1];simp only[execOp,B];refine fU ?_;simp[Instr.buildSlice,bT hu,dZ j,W,Instr.fill,newRow,show Array.range 0=(#[]:Array Nat) from rfl]
    .simp_all
   .rename_i I;simp only[OF,agO]at h;obtain⟨cs,i7,rfl,rfl⟩:=h;obtain⟨fl,S⟩:=uq hH;obtain⟨n_,h5,h6⟩:=rp (place:=λi=>aa (i*sz,sz)) (ps:=qs.toList) hR (qs:=ps.map λp=>(p.1*sz,sz,p.2)) (A2.map ((gH hq).oF λq p U=>by
     simp only[IS,beq_iff_eq]at U;exact⟨by rw[U.1],U.2⟩)) (mZ A n') i7
    refine Jy N M S (Y bv) h6 a (agQ _) bv ?_;simp only[execOp,B];refine fU ?_;have i8:n'*sz≠0:=by
     intro h0;rcases ai9.1 h0 with h0|h0<;>omega
    have h_:=lN us n' ap;rw[J]at h_;simp only[Instr.buildSlice,Sem.run_bind,bT hu,dZ j,Result.andThen_ok,cC (show¬ n'*sz>2 ^ 24 by omega),Sem.run_ite,cC i8,a_,Sem.run_pure,b_];simp only[Array.toList_map];rw[h_];simp[h5,newRow]
  .simp at H
 case fu sz bytes zs x y=>
  simp only[ft]at H;split at H
  .rename_i t x' y' B;simp only[IS,decide_eq_true_eq]at H;obtain⟨⟨⟨hx,hy⟩,F⟩,j9⟩:=H;have hx:=cQ hR hx;have hy:=cQ hR hy;obtain⟨a,hu,F⟩:=kS F;simp only[IS]at F;obtain⟨⟨j,i6⟩,hz⟩:=F;obtain⟨z,us,a_,b_,A,n9,l_,m9⟩:=gV (σ:=σ) (X:=X) hz X.w;obtain⟨k_,c9,c_⟩:=Du i6 X.w;simp only[cA]at h;split at h
   .rename_i l o hl hc;obtain⟨kl,i_⟩:=me hx hl;obtain⟨kc,j6⟩:=me hy hc;split at h
    .rename_i O;obtain⟨h0,m_,u,j7⟩:=O;unfold cF at u;simp only[IS,decide_eq_true_eq]at u;have J:us.length=sz:=by have:=A.len;simp at this;omega
     have g_:=wrap_small (n:=l) h0 ap;have f_:=wrap_small (n:=o) ap ap;have j8:o.toNat*bytes<=2 ^ 48:=by
      grind
     have s:¬ ((bytes:Int)*o>2 ^ 48):=by
      grind
     have e_:((Array.range (o.toNat*sz)).map λi=>us.toArray[i % us.toArray.size]!)=(dQ o.toNat us).toArray:=by
      have:=lN us o.toNat ap;rwa[J]at this
     have run:(execOp e.eval c).run Q X.w=.ok (.value (.slice (aa ⟨X.w.heap.size,0,ab⟩) l.toNat o.toNat)) (X.w.alloc (.cells (dQ o.toNat us).toArray a)):=by
      simp only[execOp,B];refine fU ?_;rw[i_,j6];have d9:¬ o<0:=ii
      have d_:¬ l<0:=ii
      have K:¬ l>o:=ii
      by_cases m:o.toNat*sz=0
      .have i9:dQ o.toNat us=[]:=ag3 (by rw[oA,J];exact m);have g:((decide (o<0)||decide ((bytes:Int)*o>2 ^ 48))||decide (l<0)||decide (l>o))=ag:=by rw[decide_eq_false d9,decide_eq_false d_,decide_eq_false K,decide_eq_false s];rfl
       simp only[Instr.makeSlice,Sem.run_bind,bT hu,asInt,asIntOf,Sem.run_pure,Result.andThen_ok,c9,c_,g_,f_,run_askRoom,dZ j];simp only[g,ahb,if_false,Sem.run_ite,ct m,Sem.run_bind,Result.andThen_ok,Sem.run_pure,run_askRoom,dZ j,newRow,run_newObj];rw[m,i9,show(Array.map (λx=>(#[]:Array Value)[x % (#[]:Array Value).size]!) (Array.range 0))=#[] from by simp[show Array.range 0=(#[]:Array Nat) from rfl]];rfl
      .simp only[Instr.makeSlice,Sem.run_bind,bT hu,asInt,asIntOf,Sem.run_pure,Result.andThen_ok,c9,c_,g_,f_,run_askRoom,dZ j];have g:((decide (o<0)||decide ((bytes:Int)*o>2 ^ 48))||decide (l<0)||decide (l>o))=ag:=by rw[decide_eq_false d9,decide_eq_false d_,decide_eq_false K,decide_eq_false s];rfl
       simp only[g,ahb,if_false,Sem.run_ite,cC m,Sem.run_bind,a_,b_,Result.andThen_ok,Sem.run_pure,run_askRoom,dZ j,e_,newRow,run_newObj];rfl
     split at h
     .rename_i m;subst m;simp only[AT,agO]at h;obtain⟨rfl,rfl⟩:=h;have:l=0:=ii
      subst this;obtain⟨X',g1,g2,g3,g4,g5,g6⟩:=FN N (fG.alloc X.w (.cells (dQ (0:Int).toNat us).toArray a)) M;exact⟨X',_,by rw[g1];exact run,⟨g2,g3,dJ.es _,g4,g5⟩,λb _=>by rw[g6],λ_=>g6⟩
     .simp only[AT,agO]at h;obtain⟨rfl,rfl⟩:=h;obtain⟨fl,S⟩:=uq hH;exact Jy N M S (Y bv) (mZ A o.toNat) a ap bv run
    .simp_all
   .simp at h
  .simp at H
end
def Ib{b:List Nat}:(sT b c).testBit N=ae↔∃e∈c.after.toList,Region.binds .any e=ae/\(e.on=N\/(b.getD e.on 0).testBit N=ae):=by
 unfold sT;have key:∀(l:List Edge) (s:Nat),(l.foldl (λs e=>if Region.binds .any e then s ||| 2 ^ e.on ||| b.getD e.on 0 else s) s).testBit N=ae ↔
   s.testBit N=ae\/∃e∈l,Region.binds .any e=ae/\(e.on=N\/(b.getD e.on 0).testBit N=ae):=by
  intro l;induction l with
  |nil=>intro s;simp
  |cons e l d=>
   grind
 grind
theorem BC:∀(os:List Oper) (b:List Nat),(eT os b).length=b.length+os.length
 |[],b=>by simp[eT]
 |o::os,b=>by rw[eT,BC];simp;omega
theorem wb:∀(os:List Oper) (b:List Nat) (k:Nat),k<b.length->(eT os b)[k]?=b[k]?
 |[],b,k,_=>rfl
 |o::os,b,k,h=>by
  rw[eT,wb os _ k ge,AI h]
theorem BD:∀(os:List Oper) (b:List Nat) (t:Nat) (o:Oper),os[t]?=aa o->(eT os b)[b.length+t]?=aa (sT ((eT os b).take (b.length+t)) o)
 |[],b,t,o,h=>by simp at h
 |o'::os,b,0,o,h=>by
  simp only[aht,AT]at h;subst h;have g:∀k,k<b.length->(eT os (b++[sT b o']))[k]?=b[k]?:=λk j=>by rw[wb os _ k ge,AI j]
  have d:(eT os (b++[sT b o'])).take b.length=b:=by
   apply List.ext_getElem?
   grind
  rw[eT,Nat.add_zero,d,wb os _ _ bv];simp
 |o'::os,b,t+1,o,h=>by
  simp only[aho]at h;have:=BD os (b++[sT b o']) t o h;rw[eT]
  grind
def Ji{ops:List Oper}(b:ops[N]?=aa c) :
  DF (eT ops []) l N=ae↔∃e∈c.after.toList,Region.binds .any e=ae/\(e.on=l\/(e.on<N/\DF (eT ops []) l e.on=ae)):=by
 have h:=BD ops [] N c b;simp only[ah7,ahI]at h;unfold DF;rw[List.getD_eq_getElem?_getD,h,Option.getD_some,Ib]
 grind
def vH(ops:List Oper)(D:Nat->Prop):Prop:=∀j o,D j->ops[j]?=aa o->∀e∈o.after.toList,Region.binds .any e=ae->D e.on
def vH.below{ops:List Oper}{D:Nat->Prop}(h:vH ops D):∀(j:Nat),D j->DF (eT ops []) N j=ae->D N:=by
 intro j;induction j using Nat.strongRecOn with
 |ind j l=>
  intro g b;cases ho:ops[j]? with
  |none=>
   exfalso;unfold Km.DF at b;have:(eT ops []).length<=j:=by rw[BC];simpa using List.getElem?_eq_none_iff.1 ho
   simp_all
  |some o=>
   obtain⟨e,d,hb,h1|⟨h1,h2⟩⟩:=(Ji ho).1 b
   .exact h1▸h j o g ho e d hb
   .exact l e.on h1 (h j o g ho e d hb) h2
def vH.ready{ops:List Oper}{D:Nat->Prop}(h:vH ops D)(ho:ops[N]?=aa c)(g:∀e∈c.after.toList,Region.binds .any e=ae->D e.on)(b:DF (eT ops []) l N=ae):D l:=by
 obtain⟨e,d,hb,h1|⟨h1,h2⟩⟩:=(Ji ho).1 b
 .grind
 .exact h.below e.on (g e d hb) h2
def JP(aos:List bh)(j:Nat):Prop:=∃y,aos[j]?=aa y/\cls y.op=.w
def qF{aos:List bh}:b∈pB aos↔JP aos b:=by
 unfold pB JP
 grind
theorem qT{α:Type}(p:α->Bool):∀(l:List α),(∀k,k<(l.takeWhile p).length->∃y,l[k]?=aa y/\p y=ae)/\((l.takeWhile p).length=l.length\/∃y,l[(l.takeWhile p).length]?=aa y/\p y=ag)
 |[]=>by simp
 |x::l=>by
  by_cases b:p x=ae
  .rw[List.takeWhile_cons_of_pos b];obtain⟨d,j⟩:=qT p l;refine⟨λk g=>?_,?_⟩
   .cases k with
    |zero=>exact⟨x,rfl,b⟩| succ k=>exact d k (by simpa using g)
   .simp_all
  .simp_all
def td{aos:List bh}{i:Nat}(hi:i<=aos.length):i<=phase aos i/\phase aos i<=aos.length/\(phase aos i=aos.length\/JP aos (phase aos i))/\∀j,i<=j->j<phase aos i->¬ JP aos j:=by
 unfold phase;obtain⟨m,d⟩:=qT (λy:bh=>decide (cls y.op≠.w)) (aos.drop i);have g:((aos.drop i).takeWhile λy=>decide (cls y.op≠.w)).length<=(aos.drop i).length:=by
  grind
 simp only[ag5]at g d;refine⟨ap,ap,?_,λj v s=>?_⟩
 .rcases d with d|⟨y,b,l⟩
  .omega
  .rw[ahP]at b;exact .inr ⟨y,b,by simpa using l⟩
 .obtain⟨y,b,l⟩:=m (j-i) ap;rw[ahP,show i+(j-i)=j by omega]at b;rintro⟨x,u,q⟩;simp_all
structure Ord(ops:List Oper)(aos:List bh)(jU:List (Nat × Nat)):Prop where
 back:∀j o,j<aos.length->ops[j]?=aa o->∀e∈o.after.toList,Region.binds .any e=ae->e.on<j
 two:∀i j x y,i<j->aos[i]?=aa x->aos[j]?=aa y->DF (eT ops []) i j=ae\/(x.apart y=ae/\(yD x y=ae\/(j=oe (eT ops []) aos/\cls x.op=.w)))
 ear:∀y,aos[oe (eT ops []) aos]?=aa y->(∃zs,y.op=.alloc zs)/\y.g=ab/\∃p,y.dst=aa p/\∀i z,aos[i]?=aa z->p∈z.rd->∀e,JP aos e->e<oe (eT ops []) aos->DF (eT ops []) e i=ae
 rd:∀i x e,aos[i]?=aa x->cls x.op=.r->JP aos e\/e=aos.length->EZ (eT ops []) aos i e=ae->e=phase aos i\/(i,e)∈jU
def Nl{ops:List Oper}{aos:List bh}{jU:List (Nat × Nat)}(h:R_ ops aos jU=ae):Ord ops aos jU:=by
 simp only[R_,IS]at h;obtain⟨⟨⟨v,K⟩,d⟩,m⟩:=h;refine⟨λj o N Q e b M=>?_,λi j x y F l s=>?_,λy s=>?_,λi x e l B b O=>?_⟩
 .rw[ag9]at v;have q:(o,j)∈ops.zip (List.range aos.length):=by
   refine ahg (i:=j) ?_
   grind
  grind
 .grind
 .unfold Jt at d;rw[s]at d;simp only[IS,Option.isNone_iff_eq_none]at d;obtain⟨⟨A,L⟩,g⟩:=d;refine⟨?_,A,?_⟩
  .grind
  .split at g
   .rename_i p I;refine⟨p,I,λi z u J e b H=>?_⟩;rw[ag9]at g;have:=g i (by simpa using (aft.1 u).1);rw[u]at this;simp only[Bool.or_eq_true,aii,List.contains_eq_mem,decide_eq_false_iff_not,ag9]at this;rcases this with h|h
    .simp_all
    .have:=h e (qF.2 b);simp_all
   .simp_all
 .rw[ag9]at m;have:=m i (by simpa using (aft.1 l).1);rw[l]at this;simp only[B,if_true]at this;rw[ag9]at this;have:=this e (by
   rw[agP];rcases b with b|b
   .exact .inl (qF.2 b)
   .simp_all)
  simp_all
section
variable{Q:Program}{σ:Nat->FuncId}{X:Wd}{call:eC}
def Ext.len(h:Ext Y.H.length Y p):Y.H.length<=p.H.length:=by
 rcases ahS p.H.length Y.H.length with b|d
 .obtain⟨blk',g,_⟩:=h.bS p.H.length b _ (BY b);simp_all
 .exact d
def Ci{s b:St}(h:jP call s F=aa (v,b)):b.aT=s.aT:=by
 have:=Kr (r':=s.aT) (λ_ _=>rfl) h;rw[show({ s with aT:=s.aT }:St)=s from rfl,h]at this
 grind
def IU{s b:St}(h:jQ call s J=aa b):∃v,b.aT=oz s.aT J.dst v:=by
 unfold jQ at h;split at h
 .split at h
  .rename_i v g d;cases h;exact⟨v,by rw[Ci d]⟩
  .simp at h
 .grind
 .simp at h
def zA{d:Option P}{p:P}:(oz r d v).get p=if d=aa p then v else r.get p:=by
 cases d with
 |none=>simp[oz]| some q=>simp only[oz,T.uo,AT]
def tM{s l:St}(g:cls J.op≠.w)(h:jQ call s J=aa l):eu s.heap l.heap/\l.defs=s.defs:=by
 unfold jQ at h;split at h
 .split at h
  .rename_i v z b;cases h;by_cases j:(∃f xs h,J.op=.call f xs h)\/(∃x xs h,J.op=.jr x xs h)\/J.op=.recover\/∃x xs,J.op=.defer x xs
   .rcases j with⟨f,xs,q,e⟩|⟨x,xs,q,e⟩|e|⟨x,xs,e⟩
    .rw[e]at b g;cases q
     .simp only[jP,mj,ahb,if_false,OF,agO]at b;obtain⟨⟨A,H'⟩,b,rfl,rfl⟩:=b;refine⟨?_,rfl⟩;unfold iy at b;split at b
      .simp_all
      .split at b
       .simp_all
       .split at b
        .simp_all
        .simp only[AT,agO]at b;show eu s.heap H';rw[<-b.2];exact(uI _ _ _).ext
     .exact absurd rfl g
    .rw[e]at g;exact absurd rfl g
    .rw[e]at g;exact absurd rfl g
    .rw[e]at g;exact absurd rfl g
   .have u:(cA s.aT s.heap J.op).map (λr=>(r.1,{ s with heap:=r.2 }))=aa (v,z):=by
     generalize J.op=op at b j;cases op<;>first|exact b|(exfalso;apply j;simp)
    simp only[OF,agO]at u;obtain⟨⟨A,H'⟩,m,rfl,rfl⟩:=u;clear b;have b:=m;clear m;refine⟨?_,rfl⟩;show eu s.heap H';cases d:cls J.op with
    |p=>
     have:=V6 (r:=s.aT) d s.heap s.heap;rw[b]at this;simp only[ahs,AT,agO]at this;rw[this.2];exact eu.refl _
    |r=>rw[(Ks d (eu.refl _) b).1];exact eu.refl _
    |a=>
     rcases adD d b with e|⟨cs,e⟩
     .rw[e];exact eu.refl _
     .rw[e];exact eu.append _ _
    |c=>
     generalize J.op=op at b d;cases op<;>first|(simp only[cls,reduceCtorEq]at d;done)|(simp[cA]at b;done)
    |w=>exact absurd d g
  .simp at h
 .cases h;exact⟨eu.refl _,rfl⟩
 .simp at h
def lT(aT:T)(ps:List P):T:=ps.foldl (λt p=>t.set p (aT.get p)) .e
def zB(aT:T)(ps:List P)(p:P):(lT aT ps).get p=if p∈ps then aT.get p else .top:=by
 have key:∀(ps:List P) (t:T),(ps.foldl (λt p=>t.set p (aT.get p)) t).get p=if p∈ps then aT.get p else t.get p:=by
  intro ps;induction ps with
  |nil=>intro t;simp
  |cons q ps b=>
   intro t;simp only[aiI,b,T.uo,ag8]
   grind
 have:=key ps .e
 assumption
structure nr(Q:Program)(σ:Nat->FuncId)(call:eC)(n:Nat)(ops:Array Oper)(aos:List bh)(jU:List (Nat × Nat))(st:Nat->St):Prop where
 ZG:iD (oi Q σ n ops) ops.toList aos=ae
 ord:Ord ops.toList aos jU
 step:∀i y,aos[i]?=aa y->jQ call (st i) y=aa (st (i+1))
 afa:∀i e y,(i,e)∈jU->aos[i]?=aa y->wanted (st i).aT y.g=aa ae->∃v H1 H2,cA (st i).aT (st i).heap y.op=aa (v,H1)/\cA (st i).aT (st e).heap y.op=aa (v,H2)
structure nZ(σ:Nat->FuncId)(X:Wd)(c:Nat)(zs:List FC):Prop where
 cV:∃us t,X.w.heap[c]?=aa (.cells us.toArray t (0,0))/\A2 (CR σ X) (zs.map .f) us
 b:X.B<=c
 Bp:∀b L,X.dA b=aa L->L.c≠c
 f:∀i,¬ X.F c i
def nZ.lt(h:nZ σ X b q):b<X.w.heap.size:=by
 obtain⟨us,t,h1,_⟩:=h.cV
 grind
def nZ.ext(d:Ext Y.H.length Y p)(h:nZ σ Y l q):nZ σ p l q:=by
 have j:=h.lt;obtain⟨us,t,h1,h2⟩:=h.cV;refine⟨⟨us,t,by rw[d.frame l j h.Bp];exact h1,A2.ext' σ d h2⟩,by rw[d.B];exact h.b,λb L hb=>?_,λi hi=>?_⟩
 .rcases d.Bp b L hb with⟨b0,L0,g1,g2⟩|g1
  .rw[<-g2];exact h.Bp b0 L0 g1
  .omega
 .rcases d.tS l i hi with g|g|⟨b,L,g1,g2⟩
  .exact h.f i g
  .omega
  .exact h.Bp b L g1 g2
def SR.assign(m:SR Q σ X){zs:List FC}{fl:Nat}(g:nZ σ X b zs)(u:X.H[N]?=aa (.box (zs.map .f) fl))(x:X.dA N=ab) :
  SR Q σ { X with dA:=λc=>if c=N then aa ⟨b,0⟩else X.dA c }/\tQ X.H.length X { X with dA:=λc=>if c=N then aa ⟨b,0⟩else X.dA c }/\VR σ { X with dA:=λc=>if c=N then aa ⟨b,0⟩else X.dA c } (.c (.ptr N 0 0)) (.pointer (aa ⟨b,0,ab⟩)):=by
 have q:tQ X.H.length X { X with dA:=λc=>if c=N then aa ⟨b,0⟩else X.dA c }:=by
  refine⟨λ_ _ h=>h,λ_ _ _=>rfl,λc _ cV hb=>⟨cV,hb,?_⟩⟩;have:∀L,X.dA c=aa L->(if c=N then aa (⟨b,0⟩:Loc)else X.dA c)=aa L:=λL v=>by
   grind
  cases cV<;>simp only[true_and,and_self]<;>first|exact this|(exact .inl ⟨trivial,trivial,this⟩)|(exact⟨rfl,.inl ⟨rfl,rfl,this⟩⟩)|(exact .inl this)|simpa using this
 obtain⟨us,t,h1,h2⟩:=g.cV;refine⟨⟨λc L hb=>?_,λc j L s hb d hc=>?_,m.fb⟩,q,⟨⟨b,0⟩,bv,by rw[u]⟩⟩
 .by_cases e:c=N
  .subst e;simp only[if_true,AT]at hb;subst hb;exact⟨g.b,g.lt,_,u,us,⟨t,(0,0),h1,λi _=>by simp⟩,A2.fK σ q h2,λi _=>g.f i⟩
  .simp only[e,if_false]at hb;obtain⟨g1,g2,cV,g3,g4⟩:=m.br c L hb;exact⟨g1,g2,cV,g3,BR.ug Q σ q rfl (λ_ h=>h) g4⟩
 .simp only at hb d;by_cases e:c=N<;>by_cases l:j=N
  .omega
  .rw[ct e]at hb;rw[cC l]at d;cases hb;exact absurd hc.symm (g.Bp j s d)
  .rw[cC e]at hb;rw[ct l]at d;cases d;exact absurd hc (g.Bp c L hb)
  .rw[cC e]at hb;rw[cC l]at d;exact m.inj c j L s hb d hc
abbrev eJ(ops:Array Oper)(aos:List bh):Nat:=oe (eT ops.toList []) aos
def aeV(σ:Nat->FuncId)(X0:Wd)(ops:Array Oper)(aos:List bh)(E9:Nat)(X:Wd)(a:Act)(p:P)(K:Nat):Prop:=
 ∃y zs c,K=eJ ops aos+1/\E9<=eJ ops aos/\aos[eJ ops aos]?=aa y/\y.dst=aa p/\y.op=.alloc zs/\a.tmps.getD p.toNat undef=.pointer (aa ⟨c,0,ab⟩)/\X0.w.heap.size<=c/\nZ σ X c zs
structure Inv(Q:Program)(σ:Nat->FuncId)(X0:Wd)(n:Nat)(ops:Array Oper)(aos:List bh)(st:Nat->St)(D:Nat->Prop)(E9:Nat)(X:Wd)(a:Act):Prop where
 closed:vH ops.toList D
 dlt:∀j,D j->j<aos.length
 eN:E9<=aos.length
 eW:E9=aos.length\/JP aos E9
 eD:¬ D E9
 wD:∀j,JP aos j->j<E9->D j
 heap:X.H=(st E9).heap
 ext:Ext X0.H.length X0 X
 sr:SR Q σ X
 b:X.B<=X.w.heap.size
 defs:iV σ X (st E9).defs a.defers
 size:n<=a.tmps.size
 SE:∀p,∃K,K<=aos.length/\(VR σ X ((st K).aT.get p) (a.tmps.getD p.toNat undef)\/aeV σ X0 ops aos E9 X a p K)/\∀j y,aos[j]?=aa y->y.dst=aa p->(j<K↔D j)
 Bo:∀j y,j<E9->¬ D j->aos[j]?=aa y->cls y.op=.a->(st (j+1)).heap.length≠(st j).heap.length->X.dA (st j).heap.length=ab
section
variable{n:Nat}{ops:Array Oper}{aos:List bh}{jU:List (Nat × Nat)}{st:Nat->St}
theorem nr.ph(R:nr Q σ call n ops aos jU st){p:P}{lo:Nat}:∀(hi:Nat),lo<=hi->hi<=aos.length->(∀j y,lo<=j->j<hi->aos[j]?=aa y->y.dst≠aa p)->(st lo).aT.get p=(st hi).aT.get p
 |0,h,_,_=>by rw[Nat.le_zero.1 h]
 |hi+1,h,g,b=>by
  rcases ahS hi lo with h1|h1
  .grind
  .rw[nr.ph R hi h1 ap λj y h2 h3=>b j y h2 ap];have hy:=BY (show hi<aos.length by omega);obtain⟨v,d⟩:=IU (R.step hi _ hy);rw[d,zA,cC (b hi _ h1 ap hy)]
theorem nr.dW(R:nr Q σ call n ops aos jU st){lo:Nat}:∀(hi:Nat),lo<=hi->hi<=aos.length->(∀j,lo<=j->j<hi->¬ JP aos j)->eu (st lo).heap (st hi).heap/\(st hi).defs=(st lo).defs
 |0,h,_,_=>by rw[Nat.le_zero.1 h];exact⟨eu.refl _,rfl⟩
 |hi+1,h,l,b=>by
  rcases ahS hi lo with h1|h1
  .rw[show lo=hi+1 by omega];exact⟨eu.refl _,rfl⟩
  .obtain⟨g1,g2⟩:=nr.dW R hi h1 ap λj h2 h3=>b j h2 ap;have hy:=BY (show hi<aos.length by omega);obtain⟨d,g⟩:=tM (λhc=>b hi h1 ap ⟨_,hy,hc⟩) (R.step hi _ hy);exact⟨g1.trans d,g.trans g2⟩
def nr.at(R:nr Q σ call n ops aos jU st){i:Nat}(hy:aos[i]?=aa J):∃o,ops[i]?=aa o/\oi Q σ n ops o J=ae:=by
 have:=gH R.ZG;have hi:i<ops.toList.length:=by rw[this.len];exact(aft.1 hy).1
 have b:=BY hi;refine⟨ops.toList[i],by rw[<-Array.getElem?_toList];exact b,this.2 i _ _ b hy⟩
def nr.before(R:nr Q σ call n ops aos jU st){y:bh}(b:l<N)(d:aos[l]?=aa J)(hy:aos[N]?=aa y)(h:J.apart y=ag\/(yD J y=ag/\(N=eJ ops aos->cls J.op≠.w))):DF (eT ops.toList []) l N=ae:=by
 rcases R.ord.two l N J y b d hy with h1|⟨h1,h2⟩
 .exact h1
 .simp_all
def Ext.assign(h:Ext Y.H.length Y p)(g:tQ p.H.length p { p with dA:=λb=>if b=l then aa ⟨N,0⟩else p.dA b })(hc:Y.w.heap.size<=N):Ext Y.H.length Y { p with dA:=λb=>if b=l then aa ⟨N,0⟩else p.dA b } where
 B:=h.B
 F:=h.F
 tS:=h.tS
 fw:=h.fw
 bS:=λb hb=>(h.bS b hb).trans (g.bS b (ah2 hb h.len))
 Bp:=λb L hb=>by
  simp only at hb;by_cases e:b=l
  .grind
  .rw[cC e]at hb;exact h.Bp b L hb
 size:=h.size
 os:=h.os
 tape:=h.tape
 output:=h.output
 frame:=h.frame
def nr.QX(R:nr Q σ call n ops aos jU st)(hy:aos[eJ ops aos]?=aa J):cls J.op=.a:=by
 obtain⟨⟨zs,h⟩,_⟩:=R.ord.ear J hy;rw[h];rfl
def Qs{y:bh}{p:P}(h:J.dst=aa p)(b:p∈y.rd):J.apart y=ag:=by
 simp[bh.apart,h,b]
def D8{y:bh}{p:P}(h:J.dst=aa p)(b:y.dst=aa p):J.apart y=ag:=by
 simp[bh.apart,h,b]
def Qr{y:bh}{p:P}(h:p∈J.rd)(b:y.dst=aa p):J.apart y=ag:=by
 simp[bh.apart,h,b]
structure nq(ops:Array Oper)(aos:List bh)(D:Nat->Prop)(i:Nat)(o:Oper)(y:bh):Prop where
 ho:ops[i]?=aa o
 hy:aos[i]?=aa y
 hD:¬ D i
 pre:∀e∈o.after.toList,Region.binds .any e=ae->D e.on
variable{X0:Wd}{D:Nat->Prop}{E9 i:Nat}{a:Act}{o:Oper}{y:bh}
def nq.sZ(d:Inv Q σ X0 n ops aos st D E9 X a)(b:nq ops aos D i o y)(h:DF (eT ops.toList []) l i=ae):D l:=
 d.closed.ready (by simpa using b.ho) b.pre h
def nq.uP(b:Inv Q σ X0 n ops aos st D E9 X a)(g:nq ops aos D i o y)(h:DF (eT ops.toList []) i l=ae):¬ D l:=
 λd=>g.hD (b.closed.below l d h)
def nr.reads(R:nr Q σ call n ops aos jU st)(l:Inv Q σ X0 n ops aos st D E9 X a)(b:nq ops aos D i o y){p:P}(A:p∈y.rd):VR σ X ((st i).aT.get p) (a.tmps.getD p.toNat undef):=by
 obtain⟨K,H,m,F⟩:=l.SE p;have hi:i<aos.length:=(aft.1 b.hy).1;have m:VR σ X ((st K).aT.get p) (a.tmps.getD p.toNat undef):=by
  rcases m with m|⟨z,zs,c,_,L,d,hd,_⟩
  .exact m
  .exfalso;obtain⟨_,_,M,v,g⟩:=R.ord.ear z d;rw[hd]at v;cases v;have I:=(aft.1 d).1;rcases l.eW with h4|u
   .omega
   .have J:E9≠eJ ops aos:=by
     intro e;obtain⟨q,B,x⟩:=u;rw[e]at B;rw[R.QX B]at x;cases x
    exact l.eD (b.sZ l (g i y b.hy A E9 u (show E9<eJ ops aos by omega)))
 rcases Nat.le_total K i with h|h
 .rw[<-R.ph i h ap λj z h1 h2 d hd=>?_]
  .exact m
  .have:=b.sZ l (R.before h2 d b.hy (.inl (Qs hd A)));have:=(F j z d hd).2 this;omega
 .rw[R.ph K h H λj z h1 h2 d hd=>?_]
  .exact m
  .have s:=(F j z d hd).1 h2;rcases ahS i j with h3|h3
   .exact b.uP l (R.before h3 b.hy d (.inl (Qr A hd))) s
   .have:j=i:=ii
    subst this;exact b.hD s
def nr.fin(R:nr Q σ call n ops aos jU st)(F:Inv Q σ X0 n ops aos st D E9 X a)(q:nq ops aos D i o y){a1:Act}(hS:SR Q σ Y)(hB:Y.B<=Y.w.heap.size)(c_:Ext X0.H.length X0 Y)
  (hm:∀v u,VR σ X v u->VR σ Y v u) (c9:∀y zs c p,E9<=eJ ops aos->aos[eJ ops aos]?=aa y->y.op=.alloc zs->y.dst=aa p->D (eJ ops aos)->a.tmps.getD p.toNat undef=.pointer (aa ⟨c,0,ab⟩)->X0.w.heap.size<=c->nZ σ X c zs->if b<=eJ ops aos then nZ σ Y c zs else VR σ Y ((st (eJ ops aos+1)).aT.get p) (.pointer (aa ⟨c,0,ab⟩)))
  (hv:VR σ Y v u\/(i=eJ ops aos/\b<=eJ ops aos/\∃zs c,y.op=.alloc zs/\u=.pointer (aa ⟨c,0,ab⟩)/\X0.w.heap.size<=c/\nZ σ Y c zs))
  (ht:a1.tmps=(a.put o.dst u).tmps) (U:(st (i+1)).aT=oz (st i).aT y.dst v) (h1:b<=aos.length) (h2:b=aos.length\/JP aos b) (h3:¬ (D b\/b=i)) (h4:∀j,JP aos j->j<b->D j\/j=i)
  (hH:Y.H=(st b).heap) (hd:iV σ Y (st b).defs a1.defers)
  (hh:∀j y,j<b->¬ (D j\/j=i)->aos[j]?=aa y->cls y.op=.a->(st (j+1)).heap.length≠(st j).heap.length->Y.dA (st j).heap.length=ab) :
  Inv Q σ X0 n ops aos st (λj=>D j\/j=i) b Y a1:=by
 have hi:i<aos.length:=(aft.1 q.hy).1;obtain⟨o',S,A⟩:=R.at q.hy;rw[q.ho]at S;cases S;have xB:(a.put o.dst u).tmps.size=a.tmps.size:=by cases o.dst<;>simp[Act.put]
 refine⟨λj oj O B e he hb=>?_,λj O=>O.elim (F.dlt j) λh=>h▸hi,h1,h2,h3,h4,hH,c_,hS,hB,hd,by rw[ht,xB];exact F.size,λp=>?_,hh⟩
 .rcases O with O|rfl
  .exact .inl (F.closed j oj O B e he hb)
  .have:oj=o:=by have:=q.ho;simp at B;rw[this]at B;cases B;rfl
   subst this;exact .inl (q.pre e he hb)
 .by_cases m:y.dst=aa p
  .have s:a1.tmps.getD p.toNat undef=u:=by
    rw[ht];simp only[oi,IS]at A;have g:=A.1.2;rw[m]at g;split at g
    .rename_i d p' L J;simp only[IS,beq_iff_eq,decide_eq_true_eq]at g;cases J;have a_:d<a.tmps.size:=ah2 g.2 F.size;rw[L,g.1];simp only[Act.put];simp[a_]
    .rename_i J;simp at J
    .simp at g
   refine⟨i+1,hi,?_,λj z I x=>⟨λh=>?_,λh=>?_⟩⟩
   .rcases hv with hv|⟨N,l,zs,c,g1,g2,g3,g4⟩
    .left;rw[U,zA,ct m,s];exact hv
    .right;exact⟨y,zs,c,by rw[N],l,by rw[<-N];exact q.hy,m,g1,by rw[s];exact g2,g3,g4⟩
   .rcases ahS j i with M|M
    .exact .inl (q.sZ F (R.before M I q.hy (.inl (D8 x m))))
    .exact .inr ap
   .rcases h with h|rfl
    .rcases ahS i j with M|M
     .exact absurd h (q.uP F (R.before M q.hy I (.inl (D8 m x))))
     .omega
    .omega
  .obtain⟨K,hK,H,hw⟩:=F.SE p;have e:a1.tmps.getD p.toNat undef=a.tmps.getD p.toNat undef:=by
    rw[ht];simp only[oi,IS]at A;have g:=A.1.2;split at g
    .rename_i d p' L J;simp only[IS,beq_iff_eq,decide_eq_true_eq]at g;have b_:d≠p.toNat:=λe=>m (by rw[J,P.toNat_inj (g.1.trans e)]);rw[L];simp[Act.put,Array.getD_eq_getD_getElem?,Array.getElem?_setIfInBounds_ne b_]
    .rename_i L J;rw[L];rfl
    .simp at g
   refine⟨K,hK,?_,λj z I x=>?_⟩
   .rcases H with H|⟨z,zs,c,g1,g2,g3,g4,g5,g6,g7,g8⟩
    .left;rw[e];exact hm _ _ H
    .have W:D (eJ ops aos):=(hw _ z g3 g4).1 ap;have:=c9 z zs c p g2 g3 g5 g4 W g6 g7 g8;split at this
     .rename_i l;right;exact⟨z,zs,c,g1,l,g3,g4,g5,by rw[e];exact g6,g7,this⟩
     .left;rw[e,g6,g1];exact this
   .rw[hw j z I x];exact⟨.inl,λh=>h.elim id λh=>absurd (by rw[h]at I;rw[q.hy]at I;cases I;exact x) m⟩
end
end
end Km
