/-
  Our own small machine for Go code by value, held Al ug model: part 1. No program in Pz.
-/
import GoSem.Step
import GoSem.Dispatch
import GoSem.Machine.Exec
import Derived.Calls
import Derived.Laws.World
import Derived.Laws.Cells
import Derived.Laws.IdiomCopy
import Derived.Below
import Derived.Laws.Slices
import Derived.Laws.Strings
import Derived.Laws.StructEq
import Derived.Laws.BytesString
import Derived.Laws.Tables
import Derived.Laws.AppendOwn
open Option renaming some->aa,none->ab
open Bool renaming true->ae,false->ag
open Option.some renaming injEq->At
open Bool renaming false_eq_true->afR, and_eq_true->afE
open List renaming getElem?_eq_some_iff->afD, getElem?_eq_getElem->afB, getElem?_append_left->afy, getElem?_append_right->afI, getElem?_take->ago, getElem?_drop->af0, getElem?_map->agl, all_eq_true->af4, getElem?_of_mem->agG, extract_eq_take_drop->ag3, take_of_length_le->afM, length_append->afK, foldl_cons->ag7, length_cons->agm, take_succ_eq_append_getElem->agh, eq_nil_of_length_eq_zero->afV, getElem?_set_ne->ae2
open Nat renaming le_refl->afJ, le_trans->af1, lt_of_lt_of_le->af9, add_zero->ahc, add_mul->agn, mul_eq_zero->ahn, lt_or_ge->agq
open Option renaming bind_eq_some_iff->af3, map_eq_some_iff->afF, bind_eq_bind->ahu, bind_some->agr, map_some->agv
open Prod.mk renaming injEq->afG
set_option linter.unusedVariables false
set_option linter.constructorNameAsVariable false
set_option linter.unusedSimpArgs false
set_option linter.unusedSectionVars false
set_option maxRecDepth 100000
namespace Km
open Go
theorem aD.{u}{α:Sort u}(a:α):∃b,b=a:=⟨a,rfl⟩
theorem bG.{u}{c:Prop}{h:Decidable c}(b:¬c){α:Sort u}{t e:α}:(ite c t e)=e:=if_neg b
theorem bu.{u}{c:Prop}{h:Decidable c}(hc:c){α:Sort u}{t e:α}:(ite c t e)=t:=if_pos hc
inductive FC where
 |bool (b:Bool)
 |int (k:IntKind) (n:Int)
 |str (s:ByteArray)
 |rP|aK|es|tw|oi|xI
 |fp (cs:List FC) (off:Nat)
 |fs (cs:List FC) (len:Nat)
 |fn (f:Nat) (IG:List FC)
 deriving Inhabited
inductive C where
 |f (x:FC)
 |ptr (b off ep:Nat)
 |sl (b off len cap ep sz:Nat)
 |cl (f:Nat) (IG:List C)
 |yl (b:Nat)
 |mp (b:Nat)
 |it (b:Nat)
 |bm (f:Nat) (first:List C)
 |mi (b:Nat)
 deriving Inhabited
inductive V where
 |top
 |c (x:C)
 |a (xs:List C)
 |t (xs:List V)
 deriving Inhabited
def D9:Nat:=1000000007
def mV:C->V
 | .cl f cs=>if f=D9 then .a cs else .c (.cl f cs)| x=>.c x
def rp:V->Option C
 | .c (.cl f cs)=>if f=D9 then ab else aa (.cl f cs)| .c x=>aa x| .a cs=>aa (.cl D9 cs)| _=>ab
def zV:FC->V
 | .fn f zs=>if f=D9 then .a (zs.map .f)else .c (.f (.fn f zs))| z=>.c (.f z)
def tJ:FC->List FC
 | .fn f zs=>if f=D9 then zs else [.fn f zs]| z=>[z]
def FM:FC->Bool
 | .fn f _=>decide (f=D9)| _=>ag
theorem Oo{v:V}{c:C}(h:rp v=aa c):mV c=v:=by
 cases v with
 |c x=>
  cases x<;>simp only[rp,At]at h
  case cl f cs=>
   split at h
   .cases h
   .rename_i b;simp only[At]at h;subst h;simp only[mV,bG b]
  all_goals (subst h;rfl)
 |a cs=>simp only[rp,At]at h;subst h;simp[mV]| _=>simp[rp]at h
theorem Yy{z:FC}(h:FM z=ae):zV z=.a ((tJ z).map .f):=by
 cases z<;>simp only[FM,decide_eq_true_eq,reduceCtorEq,afR]at h;simp only[zV,tJ,bu h]
theorem Yz{z:FC}(h:FM z=ag):zV z=.c (.f z)/\tJ z=[z]:=by
 cases z<;>simp only[FM,decide_eq_false_iff_not]at h
 case fn f zs=>simp only[zV,tJ,bG h,and_self]
 all_goals exact⟨rfl,rfl⟩
inductive Os where|loc|nil|es
 deriving DecidableEq,Inhabited
inductive P where
 |h
 |o (p:P)
 |i (p:P)
 deriving DecidableEq,Inhabited
def P.toNat:P->Nat
 | .h=>0| .o p=>2*p.toNat+1| .i p=>2*p.toNat+2
inductive T where
 |e
 |n (l:T) (v:V) (r:T)
 deriving Inhabited
def T.get:T->P->V
 | .e,_=>.top| .n _ v _,.h=>v| .n l _ _,.o p=>l.get p| .n _ _ r,.i p=>r.get p
def T.set:T->P->V->T
 | .e,.h,w=>.n .e w .e| .e,.o p,w=>.n (T.set .e p w) .top .e| .e,.i p,w=>.n .e .top (T.set .e p w)| .n l _ r,.h,w=>.n l w r| .n l v r,.o p,w=>.n (l.set p w) v r| .n l v r,.i p,w=>.n l v (r.set p w)
inductive Arg where
 |r (n:P)
 |k (v:V)
 deriving Inhabited
inductive CK where|bool|int|str
 deriving DecidableEq,Inhabited
inductive FR where
 |bool|ptr|sl|fn|Rn
 |st (ks:List CK)
 deriving Inhabited
inductive dd where
 |dr (x:Arg)
 |pre (o:Os) (sz:Nat)
 |pick (c a b:Arg)
 |alloc (zs:List FC)
 |box (x:Arg)
 |build (zs:List FC) (parts:List (Nat × Nat × Arg))
 |dX (sz:Nat) (zs:List FC) (len:Nat) (parts:List (Nat × Arg))
 |load (n:Option Nat) (x:Arg)
 |store (n:Nat) (x y:Arg)
 |jx (x:Arg)
 |bin (op:BinOp) (x y:Arg)
 |eq (neg:Bool) (k:FR) (x y:Arg)
 |un (op:UnOp) (x:Arg)
 |I' (k:IntKind) (x:Arg)
 |xC (x:Arg)
 |xB (x:Arg)
 |Ej (x:Arg)
 |tt (f:Nat) (IG:List Arg)
 |mr
 |lookup (ck:CK) (zero:FC) (m k:Arg)
 |mq (ck:CK) (m k v:Arg)
 |fQ (sz bytes:Nat) (zs:List FC) (l c:Arg)
 |slice (sz:Nat) (x:Arg) (lo hi mx:Option Arg)
 |pc (n sz:Nat) (x:Arg) (lo hi mx:Option Arg)
 |qo (x:Arg) (lo hi:Option Arg)
 |fL (off:Nat) (x:Arg)
 |field (off:Nat) (n:Option Nat) (x:Arg)
 |ez (sz:Nat) (arr:Option Nat) (x i:Arg)
 |idxs (x i:Arg)
 |xD (len sz:Nat) (n:Option Nat) (x i:Arg)
 |range (x:Arg)
 |next (x:Arg)
 |extract (x:Arg) (i:Nat)
 |call (f:Nat) (args:List Arg) (h:Bool)
 |gN (x:Arg) (args:List Arg) (h:Bool)
 |len (x:Arg)
 |iP (n:Nat)
 |lens (x:Arg)
 |cap (x:Arg)
 |append (sz bytes:Nat) (x y:Arg)
 |copy (sz:Nat) (x y:Arg)
 |pW (lo:Bool) (xs:List Arg)
 |oC (sz bytes:Nat) (zs:List FC) (x n:Arg)
 |clear (sz:Nat) (zs:List FC) (x:Arg)
 |mF (x:Arg)
 |qi (x:Arg)
 |entry (x:Arg)
 |tq (f:Nat) (xs:List Arg)
 |wW (sz:Nat) (x hi mx:Arg)
 |ib (sz:Nat) (zs:List FC) (len:Nat) (parts:List (Nat × Arg))
 |recover
 |defer (x:Arg) (args:List Arg)
 |bad
 deriving Inhabited
def dd.YN:dd->Bool
 | .ib ..=>ae| _=>ag
structure aV where
 dst:Option P
 op:dd
 g:Option (P × Bool):=ab
 deriving Inhabited
inductive aH where
 |skip
 |region (ops:List aV) (jG:List (Nat × Nat))
 |seq (a b:aH)
 |cond (c:Arg) (a b:aH)
 |block (id:Nat) (a:aH)
 |loop (a:aH)
 |oW (f:Arg) (ps:List P) (assign body:aH)
 |exit (id:Nat)
 |ret
 |bad
 |scope (a:aH)
 |label (l:Nat)
 |goto (l:Nat)
 deriving Inhabited
inductive fe where|ready|busy|done|exhausted
 deriving DecidableEq,Inhabited
inductive bB where
 |box (cs:List C) (fl:Nat)
 |ct (sz:Nat) (cs:List C) (fl ep:Nat) (st:Os)
 |map (es:List (FC × C))
 |it (s:ByteArray) (pos:Nat)
 |xw (m since:Nat) (done:Bool)
 |gI (open_:Bool)
 |lp (fn:Nat) (tmps:T) (ps:List P) (assign body:aH) (st:fe) (pending:Option aH) (gI:Nat)
 deriving Inhabited
abbrev aj:=List bB
inductive dS where
 |iM (b:Nat)
 |fn (f:Nat) (args:List V)
 deriving Inhabited
inductive iv where
 |tmp (t:P)
 |cell (t:P) (n:Option Nat)
 deriving Inhabited
structure aM where
 ps:List P
 results:List iv
 body:aH
 deriving Inhabited
def Arg.ev(aF:T):Arg->V
 | .r n=>aF.get n| .k v=>v
def V.int(k:IntKind)(n:Int):V:=.c (.f (.int k n))
def V.bool(b:Bool):V:=.c (.f (.bool b))
def aw(H:aj):C->Option (List C)
 | .ptr b off ep=>match H[b]? with
  |some (.box cs _)=>aa (cs.drop off)| some (.ct _ cs _ e .loc)=>if ep=e then aa (cs.drop off)else ab| _=>ab
 | .f (.fp cs off)=>aa ((cs.drop off).map .f)| _=>ab
def aO:Option Nat->List C->Option V
 |none,c::_=>aa (.c c)| none,[]=>ab| some n,cs=>if n<=cs.length then aa (.a (cs.take n))else ab
def aQ(H:aj)(n:Option Nat):V->Option V
 | .c x=>(aw H x).bind (aO n)| _=>ab
def V.cells? : V->Option (List C)
 | .c x=>aa [x]| .a xs=>aa xs| _=>ab
def bp{α:Type}(cs:List α)(off:Nat)(xs:List α):List α:=cs.take off++xs++cs.drop (off+xs.length)
def cz(H:aj)(x:C)(xs:List C):Option aj:=
 match x with
 | .ptr b off ep=>match H[b]? with
  |some (.box cs fl)=>if fl<=off/\off+xs.length<=cs.length then aa (H.set b (.box (bp cs off xs) fl))else ab| some (.ct sz cs fl e .loc)=>if ep=e/\fl<=off/\off+xs.length<=cs.length then aa (H.set b (.ct sz (bp cs off xs) fl e .loc))else ab| _=>ab
 |_=>ab
def bo(H:aj):C->Option Nat
 | .sl b _ l _ ep sz=>match H[b]? with
  |some (.box _ _)=>aa l| some (.ct s _ _ e _)=>if ep=e/\sz=s then aa l else ab| _=>ab
 | .f .aK=>aa 0| .f .es=>aa 0| .f (.fs _ l)=>aa l| _=>ab
def cR(H:aj)(sz:Nat):C->Option (List C)
 | .sl b o l _ ep s=>match H[b]? with
  |some (.box cs _)=>if o+l*sz<=cs.length then aa ((cs.drop o).take (l*sz))else ab| some (.ct s' cs _ e _)=>if ep=e/\s=s'/\o+l*sz<=cs.length then aa ((cs.drop o).take (l*sz))else ab| _=>ab
 | .f .aK=>aa []| .f .es=>aa []| .f (.fs cs l)=>if cs.length=l*sz then aa (cs.map .f)else ab| _=>ab
def aZ{α β:Type}(g:α->Option β):List α->Option (List β)
 |[]=>aa []
 |x::xs=>match g x with
  |none=>ab
  |some y=>match aZ g xs with
   |none=>ab| some ys=>aa (y::ys)
def eg:Nat->aj->C->Option FC
 |_,_,.f x=>aa x| 0,_,_=>ab
 |n+1,H,.ptr b off _=>match H[b]? with
  |some (.box cs _)=>(aZ (eg n H) cs).map (.fp · off)| _=>ab
 |n+1,H,.sl b o l _ ep sz=>match H[b]? with
  |some (.box cs _)=>if o+l*sz<=cs.length then(aZ (eg n H) ((cs.drop o).take (l*sz))).map (.fs · l)else ab| some (.ct s cs _ e .loc)=>if ep=e/\sz=s/\o+l*sz<=cs.length then(aZ (eg n H) ((cs.drop o).take (l*sz))).map (.fs · l)else ab| some (.ct s _ _ e .nil)=>if ep=e/\sz=s then aa .aK else ab| some (.ct s _ _ e .es)=>if ep=e/\sz=s then aa .es else ab| _=>ab
 |n+1,H,.cl f d=>(aZ (eg n H) d).map (.fn f)| _+1,_,_=>ab
def bX(n:Nat)(H:aj):V->Option V
 | .c x=>(eg n H x).map λy=>.c (.f y)
 | .a xs=>(aZ (eg n H) xs).map λys=>.a (ys.map .f)
 |_=>ab
def fC(n:Nat)(H:aj):V->Option V
 | .t b=>(aZ (bX n H) b).map .t| v=>bX n H v
def ic:Nat->C->aj->aj
 |_,.f _,H=>H| 0,_,H=>H
 |n+1,.ptr b _ _,H=>match H[b]? with
  |some (.box cs fl)=>cs.foldl (λH x=>ic n x H) (H.set b (.box cs (Nat.max fl cs.length)))
  |_=>H
 |n+1,.sl b o l _ _ sz,H=>match H[b]? with
  |some (.box cs fl)=>((cs.drop o).take (l*sz)).foldl (λH x=>ic n x H) (H.set b (.box cs (Nat.max fl (o+l*sz))))
  |some (.ct s cs fl e g)=>((cs.drop o).take (l*sz)).foldl (λH x=>ic n x H) (H.set b (.ct s cs (Nat.max fl (o+l*sz)) e g))
  |_=>H
 |n+1,.cl _ d,H=>d.foldl (λH x=>ic n x H) H
 |_+1,_,H=>H
def Qf(n:Nat)(H:aj):V->aj
 | .c x=>ic n x H| .a xs=>xs.foldl (λH x=>ic n x H) H
 |_=>H
def od(op:BinOp)(k:IntKind)(x y:Int):Option V:=
 match op with
 | .add=>aa (.int k (k.wrap (x+y)))| .sub=>aa (.int k (k.wrap (x-y)))| .mul=>aa (.int k (k.wrap (x*y)))| .quo=>if y=0 then ab else aa (.int k (k.wrap (x.tdiv y)))| .rem=>if y=0 then ab else aa (.int k (x.tmod y))| .and=>aa (.int k (k.wrap (BitVec.ofInt k.bits x &&& BitVec.ofInt k.bits y).toNat))| .or=>aa (.int k (k.wrap (BitVec.ofInt k.bits x ||| BitVec.ofInt k.bits y).toNat))| .xor=>aa (.int k (k.wrap (BitVec.ofInt k.bits x ^^^ BitVec.ofInt k.bits y).toNat))| .andNot=>aa (.int k (k.wrap (BitVec.ofInt k.bits x &&& ~~~ (BitVec.ofInt k.bits y)).toNat))| .eql=>aa (.bool (x == y))| .neq=>aa (.bool (x != y))| .lss=>aa (.bool (decide (x<y)))| .leq=>aa (.bool (decide (x<=y)))| .gtr=>aa (.bool (decide (x>y)))| .geq=>aa (.bool (decide (x≥y)))| _=>ab
def WM(op:BinOp)(x y:ByteArray):Option V:=
 match op with
 | .add=>if((x.size+y.size:Nat):Int)>IntKind.i64.max then ab else aa (.c (.f (.str (x++y))))| .eql=>aa (.bool (x.toList == y.toList))| .neq=>aa (.bool !(x.toList == y.toList))| .lss=>aa (.bool (Op.bytesLess x.toList y.toList))| .leq=>aa (.bool (Op.bytesLess x.toList y.toList||x.toList == y.toList))| .gtr=>aa (.bool !(Op.bytesLess x.toList y.toList||x.toList == y.toList))| .geq=>aa (.bool !(Op.bytesLess x.toList y.toList))| _=>ab
def Gh:CK->C->C->Option Bool
 | .bool,.f (.bool a),.f (.bool b)=>aa (a == b)| .int,.f (.int k a),.f (.int k' b)=>if k=k' then aa (a == b)else ab| .str,.f (.str a),.f (.str b)=>aa (a == b)| _,_,_=>ab
def sA:List CK->List C->List C->Option Bool
 |[],[],[]=>aa ae
 |k::d,x::xs,y::ys=>match Gh k x y,sA d xs ys with
  |some a,aa b=>aa (a&&b)| _,_=>ab
 |_,_,_=>ab
def isNil(H:aj):FR->C->Option Bool
 | .ptr,.f .rP=>aa ae| .ptr,.f (.fp _ _)=>aa ag| .ptr,.ptr _ _ _=>aa ag| .sl,.f .aK=>aa ae| .sl,.f .es=>aa ag| .sl,.f (.fs _ _)=>aa ag
 | .sl,.sl b _ _ _ ep sz=>match H[b]? with
  |some (.box _ _)=>aa ag| some (.ct s _ _ e d)=>if ep=e/\sz=s then aa (d == .nil)else ab| _=>ab
 | .fn,.f .tw=>aa ae| .fn,.f (.fn _ _)=>aa ag| .fn,.cl _ _=>aa ag| .fn,.bm _ _=>aa ag| .Rn,.f .oi=>aa ae| _,_=>ab
def Dk(H:aj):FR->V->V->Option Bool
 | .bool,.c x,.c y=>Gh .bool x y| .st b,.a xs,.a ys=>sA b xs ys| .ptr,.c x,.c (.f .rP)=>isNil H .ptr x| .sl,.c x,.c (.f .aK)=>isNil H .sl x| .fn,.c x,.c (.f .tw)=>isNil H .fn x| .Rn,.c x,.c (.f .oi)=>isNil H .Rn x| _,_,_=>ab
def ei(op:BinOp)(x y:V):Option V:=
 match op,x,y with
 | .shl,.c (.f (.int k a)),.c (.f (.int _ b))=>if b<0 then ab else aa (.int k (k.wrap (a*2 ^ (min b.toNat k.bits))))| .shr,.c (.f (.int k a)),.c (.f (.int _ b))=>if b<0 then ab else aa (.int k (a.fdiv (2 ^ (min b.toNat k.bits))))| op,.c (.f (.int k a)),.c (.f (.int k' b))=>if k=k' then od op k a b else ab| op,.c (.f (.str a)),.c (.f (.str b))=>WM op a b| _,_,_=>ab
def PZ(op:UnOp)(x:V):Option V:=
 match op,x with
 | .neg,.c (.f (.int k n))=>aa (.int k (k.wrap (0-n)))| .not,.c (.f (.bool b))=>aa (.bool !b)| _,_=>ab
def kQ:V->Option Int
 | .c (.f (.int _ n))=>aa n| _=>ab
def BF(x:V)(y:Nat):Option Nat:=
 match kQ x with
 |some i=>if 0<=i/\i<=y then aa i.toNat else ab| none=>ab
def ch(len cap:Nat)(lo hi mx:Option V):Option (Nat × Nat × Nat):=do
 let m <-match mx with
  |some v=>BF v cap| none=>aa cap
 let h <-match hi,mx with
  |some v,_=>BF v m| none,ab=>aa len| none,aa _=>ab
 let l <-match lo with
  |some v=>BF v h| none=>aa 0
 pure (l,h,m)
def ea(H:aj)(sz:Nat)(x:V)(lo hi mx:Option V):Option V:=
 match x with
 | .c (.f .aK)=>match ch 0 0 lo hi mx with
  |some _=>aa (.c (.f .aK))| none=>ab
 | .c (.f .es)=>match ch 0 0 lo hi mx with
  |some _=>aa (.c (.f .es))| none=>ab
 | .c (.f (.fs cs n))=>match ch n n lo hi mx with
  |some (l,h,m)=>
   if mx.isSome/\m=l then aa (.c (.f .es))else
   aa (.c (.f (.fs ((cs.drop (l*sz)).take ((h-l)*sz)) (h-l))))
  |none=>ab
 | .c (.sl b o n cap ep s)=>match H[b]? with
  |some (.box _ _)=>match ch n cap lo hi mx with
   |some (l,h,m)=>if m=l then aa (.c (.f .es))else aa (.c (.sl b (o+l*sz) (h-l) (m-l) ep s))| none=>ab
  |some (.ct s' cs _ e d)=>
   if ep=e/\s=sz/\s'=sz then
    match d with
    | .loc=>match ch n n lo hi mx with
     |some (l,h,m)=>
      if mx.isSome/\m=l then aa (.c (.f .es))
      else if l=h/\0<l then aa (.c (.f (.fs [] 0)))
      else if mx.isSome then(if 0<l then aa (.c (.sl b 0 0 0 ep (s'+1)))else ab)
      else aa (.c (.sl b (o+l*sz) (h-l) 0 ep s))
     |none=>match mx with
      |some _=>ab
      |none=>match ch n ((cs.length-o) / sz) lo hi ab with
       |some (l,h,_)=>if n<=(cs.length-o) / sz/\l<h then aa (.c (.sl b (o+l*sz) (h-l) 0 ep s))else ab| none=>ab
    | .nil=>match ch 0 0 lo hi mx with
     |some _=>aa (.c (.f .aK))| none=>ab
    | .es=>match ch 0 0 lo hi mx with
     |some _=>aa (.c (.f .es))| none=>ab
   else ab
  |_=>ab
 |_=>ab
def wZ(x:V)(lo hi:Option V):Option V:=
 match x with
 | .c (.f (.str s))=>match ch s.size s.size lo hi ab with
  |some (l,h,_)=>aa (.c (.f (.str (s.extract l h))))| none=>ab
 |_=>ab
def mH(H:aj)(n sz:Nat)(x:V)(lo hi mx:Option V):Option V:=
 match x with
 | .c (.ptr b off _)=>match H[b]? with
  |some (.box cs _)=>match ch n n lo hi mx with
   |some (l,h,m)=>if off+n*sz<=cs.length then(if m=l then aa (.c (.f .es))else aa (.c (.sl b (off+l*sz) (h-l) (m-l) 0 sz)))else ab| none=>ab
  |_=>ab
 | .c (.f (.fp cs off))=>match ch n n lo hi mx with
   |some (l,h,m)=>if off+n*sz<=cs.length then(if m=l then aa (.c (.f .es))else aa (.c (.f (.fs ((cs.drop (off+l*sz)).take ((h-l)*sz)) (h-l)))))else ab| none=>ab
 |_=>ab
def bw(H:aj)(sz:Nat)(d:Option Nat)(x i:V):Option V:=
 match kQ i with
 |none=>ab
 |some i=>
  if 0<=i then
   match d,x with
   |none,.c (.sl b o l _ ep s)=>if i<l then
     (match H[b]? with
      |some (.box _ _)=>aa (.c (.ptr b (o+i.toNat*sz) ep))| some (.ct s' _ _ e .loc)=>if ep=e/\s=s' then aa (.c (.ptr b (o+i.toNat*sz) ep))else ab
      |_=>ab)else ab
   |none,.c (.f (.fs cs l))=>if i<l then aa (.c (.f (.fp cs (i.toNat*sz))))else ab| some n,.c (.ptr b o ep)=>if i<n then aa (.c (.ptr b (o+i.toNat*sz) ep))else ab| some n,.c (.f (.fp cs o))=>if i<n then aa (.c (.f (.fp cs (o+i.toNat*sz))))else ab| _,_=>ab
  else ab
def kI(off:Nat):V->Option V
 | .c (.ptr b o ep)=>aa (.c (.ptr b (o+off) ep))| .c (.f (.fp cs o))=>aa (.c (.f (.fp cs (o+off))))| _=>ab
def ko(off:Nat)(n:Option Nat):V->Option V
 | .a xs=>aO n (xs.drop off)| _=>ab
def Cb(x i:V):Option V:=
 match x,kQ i with
 | .c (.f (.str s)),aa i=>if 0<=i then(s[i.toNat]?).map λb=>.int .u8 b.toNat else ab
 |_,_=>ab
def Ca(len sz:Nat)(n:Option Nat)(x i:V):Option V:=
 match x,kQ i with
 | .a xs,aa i=>if 0<=i/\i<len then aO n (xs.drop (i.toNat*sz))else ab| _,_=>ab
def GL(H:aj):V->Option (V × aj)
 | .c (.it b)=>match H[b]? with
  |some (.it s pos)=>
   if pos<s.size then
    let r:=Utf8.decode s pos
    aa (.t [.bool ae,.int .i64 pos,.int .i32 r.1],H.set b (.it s (pos+r.2)))
   else aa (.t [.bool ag],H)
  |_=>ab
 |_=>ab
def bU(need bytes:Nat):Bool:=decide ((2*need+768)*bytes<=2 ^ 48)&&decide (need<2 ^ 48)
def cS(H:aj)(sz:Nat):V->Option (Nat × List C)
 | .c (.f (.str s))=>if sz=1 then aa (s.size,s.toList.map λb=>.f (.int .u8 b.toNat))else ab
 | .c x=>match bo H x,cR H sz x with
  |some l,aa cs=>aa (l,cs)| _,_=>ab
 |_=>ab
def cw(H:aj)(sz bytes:Nat)(x y:V):Option (V × aj):=
 match cS H sz y with
 |none=>ab
 |some (m,ys)=>
  if sz=0 then ab else
  match x with
  | .c (.f .aK)=>if m=0 then aa (.c (.f .aK),H)else
    if bU m bytes then aa (.c (.sl H.length 0 m 0 0 sz),H++[.ct sz ys 0 0 .loc])else ab
  | .c (.f .es)=>if m=0 then aa (.c (.f .es),H)else
    if bU m bytes then aa (.c (.sl H.length 0 m 0 0 sz),H++[.ct sz ys 0 0 .loc])else ab
  | .c (.sl b o l cap ep s)=>match H[b]? with
   |some (.box cs fl)=>
    if l+m<=cap then
     if fl<=o+l*sz/\o+l*sz+ys.length<=cs.length then aa (.c (.sl b o (l+m) cap ep s),H.set b (.box (bp cs (o+l*sz) ys) fl))else ab
    else if bU (l+m) bytes/\o+l*sz<=cs.length then aa (.c (.sl H.length 0 (l+m) 0 0 sz),H++[.ct sz ((cs.drop o).take (l*sz)++ys) 0 0 .loc])else ab
   |some (.ct s' cs fl e d)=>
    if ep=e/\s'=sz/\s=sz then
     if m=0 then aa (x,H)
     else if o=0/\l*sz=cs.length/\fl<=cs.length then
      if bU (l+m) bytes then aa (.c (.sl b 0 (l+m) 0 (ep+1) sz),H.set b (.ct sz (cs++ys) fl (e+1) .loc))else ab
     else if d=.loc/\fl<=o+l*sz/\o+l*sz+ys.length<=cs.length then
      aa (.c (.sl b o (l+m) 0 ep sz),H.set b (.ct sz (bp cs (o+l*sz) ys) fl e .loc))
     else ab
    else ab
   |_=>ab
  |_=>ab
def copyV(H:aj)(sz:Nat)(x y:V):Option (V × aj):=
 match cS H sz y,x with
 |some _,.c (.f .aK)=>aa (.int .i64 0,H)| some _,.c (.f .es)=>aa (.int .i64 0,H)
 |some (m,ys),.c (.sl b o l _ ep s')=>
  let n:=Nat.min m l
  match H[b]? with
  |some (.box cs fl)=>if fl<=o/\o+n*sz<=cs.length then aa (.int .i64 n,H.set b (.box (bp cs o (ys.take (n*sz))) fl))else ab| some (.ct s cs fl e .loc)=>if ep=e/\s'=s/\s=sz/\fl<=o/\o+n*sz<=cs.length then aa (.int .i64 n,H.set b (.ct s (bp cs o (ys.take (n*sz))) fl e .loc))else ab| _=>ab
 |_,_=>ab
def qe(H:aj):V->Option V
 | .c x=>match bo H x with
  |some _=>match cR H 1 x with
   |some cs=>(aZ (λc=>match c with|C.f (.int .u8 n)=>aa (UInt8.ofNat n.toNat)|_=>ab) cs).map λl=>.c (.f (.str ⟨l.toArray⟩))
   |none=>ab
  |none=>ab
 |_=>ab
def dO(aF:T)(cs:List C):List (Nat × Nat × Arg)->Option (List C)
 |[]=>aa cs
 |(off,n,x)::rest=>match (x.ev aF).cells? with
  |some xs=>if xs.length=n/\off+xs.length<=cs.length then dO aF (bp cs off xs) rest else ab| none=>ab
def dH(aF:T)(xs:List Arg):List V:=xs.map (·.ev aF)
def oE:V->Option C
 | .c (.cl _ _)=>ab| .c (.bm _ _)=>ab| .c x=>aa x| _=>ab
def cP{α:Type}(n:Nat)(xs:List α):List α:=(List.replicate n xs).flatten
def YI:CK->FC->FC->Option Bool
 | .int,.int k a,.int k' b=>if k=k' then aa (a == b)else ab| .str,.str a,.str b=>aa (a == b)| .bool,.bool a,.bool b=>aa (a == b)| _,_,_=>ab
def oR(b:CK)(k:FC):List (FC × C)->Option (Option C)
 |[]=>aa ab
 |e::d=>match YI b k e.1 with
  |some ae=>aa (aa e.2)| some ag=>oR b k d| none=>ab
def rO(b:CK)(k:FC)(v:C):List (FC × C)->Option (List (FC × C))
 |[]=>aa [(k,v)]
 |e::d=>match YI b k e.1 with
  |some ae=>aa ((k,v)::d)| some ag=>(rO b k v d).map (e::·)| none=>ab
def isKey:CK->FC->Bool
 | .int,.int _ _=>ae| .str,.str _=>ae| .bool,.bool _=>ae| _,_=>ag
def tn:FC->Option FC
 | .fp [z] 77=>aa z| _=>ab
def To(z:FC)(r:Option C):V:=match tn z with
 |some b=>.t [(r.map mV).getD (zV b),.c (.f (.bool r.isSome))]| none=>(r.map mV).getD (zV z)
def gR(H:aj)(d:CK)(z:FC):V->V->Option V
 | .c (.f .xI),.c (.f k)=>if isKey d k then aa (To z ab)else ab
 | .c (.mp b),.c (.f k)=>match H[b]? with
  |some (.map g)=>if isKey d k then(oR d k g).map (To z)else ab| _=>ab
 |_,_=>ab
def kE(H:aj):C->Option Nat
 | .sl b _ _ c ep sz=>match H[b]? with
  |some (.box _ _)=>aa c| some (.ct s _ _ e .nil)=>if ep=e/\sz=s then aa 0 else ab| some (.ct s _ _ e .es)=>if ep=e/\sz=s then aa 0 else ab| _=>ab
 | .f .aK=>aa 0| .f .es=>aa 0| _=>ab
def zf(lo:Bool)(x y:V):Option V:=
 match x,y with
 | .c (.f (.int k a)),.c (.f (.int _ b))=>aa (.int k (if lo then(if b<a then b else a)else(if b>a then b else a)))| _,_=>ab
def tX(lo:Bool):V->List V->Option V
 |x,[]=>aa x
 |x,y::ys=>match zf lo x y with
  |some z=>tX lo z ys| none=>ab
def xH(lo:Bool):List V->Option V
 |[]=>ab| x::xs=>tX lo x xs
def qH(H:aj)(sz:Nat)(zs:List FC)(x:V):Option aj:=
 match x with
 | .c y=>match bo H y with
  |some 0=>aa H
  |some l=>
   if zs.length=sz then
    match y with
    | .sl b o _ _ ep s=>match H[b]? with
     |some (.box _ _)=>cz H (.ptr b o ep) ((cP l zs).map .f)| some (.ct s' _ _ e .loc)=>if ep=e/\s=s' then cz H (.ptr b o ep) ((cP l zs).map .f)else ab| _=>ab
    |_=>ab
   else ab
  |none=>ab
 |_=>ab
def vr(H:aj)(sz bytes:Nat)(zs:List FC)(x n:V):Option (V × aj):=
 match kQ n with
 |some n=>
  if 0<=n/\zs.length=sz then
   match x with
   | .c (.f .aK)=>if n.toNat=0 then aa (.c (.f .aK),H)else
     if bU n.toNat bytes then aa (.c (.sl H.length 0 n.toNat 0 0 sz),H++[.ct sz ((cP n.toNat zs).map .f) 0 0 .loc])else ab
   | .c (.f .es)=>if n.toNat=0 then aa (.c (.f .es),H)else
     if bU n.toNat bytes then aa (.c (.sl H.length 0 n.toNat 0 0 sz),H++[.ct sz ((cP n.toNat zs).map .f) 0 0 .loc])else ab
   |_=>ab
  else ab
 |none=>ab
def fcC:C->Option FC
 | .f x=>aa x| _=>ab
def C0(H:aj)(sz:Nat)(x hi mx:V):Option (V × aj):=
 match ea H sz x ab (aa hi) (aa mx)with
 |some v=>aa (v,H)
 |none=>match x with
  | .c (.sl b o n _ ep s)=>match H[b]? with
   |some (.ct s' cs fl e .loc)=>
    if ep=e/\s=sz/\s'=sz/\o=0 then
     match BF hi n,BF mx n with
     |some i,aa j=>
      if i=j/\0<i/\i*sz<=cs.length then
       match aZ fcC (cs.take (i*sz))with
       |some ys=>aa (.c (.f (.fs ys i)),H.set b (.ct s' cs (Nat.max fl (i*sz)) e .loc))| none=>ab
      else ab
     |_,_=>ab
    else ab
   |_=>ab
  |_=>ab
def AV(H:aj):V->Option (V × aj)
 | .c (.mi b)=>match H[b]? with
  |some (.xw m d done)=>match H[m]? with
   |some (.map [])=>if done then ab else aa (.t [.bool ag],H)| some (.map [e])=>if done then aa (.t [.bool ag],H)else if d=1 then aa (.t [.bool ae,.c (.f e.1),mV e.2],H.set b (.xw m 1 ae))else ab| _=>ab
  |_=>ab
 |_=>ab
def ny(H:aj):V->Option V
 | .c (.mi b)=>match H[b]? with
  |some (.xw m _ ae)=>match H[m]? with
   |some (.map [e])=>aa (.t [.c (.f e.1),mV e.2])| _=>ab
  |_=>ab
 |_=>ab
def uM(H:aj):V->Option (V × aj)
 | .c (.mp b)=>match H[b]? with
  |some (.map d)=>if d.length<=1 then aa (.c (.mi H.length),H++[.xw b d.length ag])else ab| _=>ab
 |_=>ab
def Qc:List C->Option (List FC)
 |[]=>aa []| .f x::xs=>(Qc xs).map (x::·)| _::_=>ab
def bF(aF:T)(H:aj):dd->Option (V × aj)
 | .dr x=>aa (x.ev aF,H)| .pre o sz=>if o=.loc\/sz=0 then ab else aa (.c (.sl H.length 0 0 0 0 sz),H++[.ct sz [] 0 0 o])
 | .pick c a b=>match c.ev aF with
  | .c (.f (.bool v))=>aa ((if v then a else b).ev aF,H)| _=>ab
 | .alloc zs=>aa (.c (.ptr H.length 0 0),H++[.box (zs.map .f) 0])
 | .box x=>match (x.ev aF).cells? with
  |some xs=>aa (.c (.ptr H.length 0 0),H++[.box xs 0])| none=>ab
 | .build zs ps=>(dO aF (zs.map .f) ps).map λcs=>(.a cs,H)
 | .dX sz zs n ps=>
  if n=0 then(if ps.isEmpty then aa (.c (.f .es),H)else ab)else
  (dO aF ((cP n zs).map .f) (ps.map λp=>(p.1*sz,sz,p.2))).map λcs=>(.c (.sl H.length 0 n n 0 sz),H++[.box cs 0])
 | .load n x=>(aQ H n (x.ev aF)).map (·,H)
 | .store n x y=>match x.ev aF,(y.ev aF).cells? with
  | .c p,aa xs=>if xs.length=n then(cz H p xs).map (.top,·)else ab| _,_=>ab
 | .jx x=>match x.ev aF with
  | .c (.ptr b o e)=>aa (.c (.ptr b o e),H)| .c (.f (.fp cs o))=>aa (.c (.f (.fp cs o)),H)| _=>ab
 | .bin op x y=>(ei op (x.ev aF) (y.ev aF)).map (·,H)| .eq neg k x y=>(Dk H k (x.ev aF) (y.ev aF)).map λb=>(.bool (if neg then !b else b),H)
 | .un op x=>(PZ op (x.ev aF)).map (·,H)
 | .I' k x=>match x.ev aF with
  | .c (.f (.int _ n))=>aa (.int k (k.wrap n),H)| _=>ab
 | .xC x=>match x.ev aF with
  | .c (.f (.str s))=>aa (.c (.f (.str s)),H)| _=>ab
 | .xB x=>(qe H (x.ev aF)).map (·,H)
 | .Ej x=>match x.ev aF with
  | .c (.f (.str s))=>if s.size<2 ^ 48 then aa (.c (.sl H.length 0 s.size 0 0 1),H++[.ct 1 (s.toList.map λb=>.f (.int .u8 b.toNat)) 0 0 .loc])else ab
  |_=>ab
 | .tt f d=>(aZ oE (dH aF d)).map λxs=>(.c (.cl f xs),H)
 | .mr=>aa (.c (.mp H.length),H++[.map []])| .lookup g z m k=>(gR H g z (m.ev aF) (k.ev aF)).map (·,H)
 | .mq g m k v=>match m.ev aF,k.ev aF,rp (v.ev aF)with
  | .c (.mp b),.c (.f k),aa v=>match H[b]? with
   |some (.map q)=>if isKey g k then(rO g k v q).map λq=>(.top,H.set b (.map q))else ab
   |_=>ab
  |_,_,_=>ab
 | .fQ sz bytes zs l c=>match kQ (l.ev aF),kQ (c.ev aF)with
  |some l,aa c=>
   if 0<=l/\l<=c/\bU c.toNat bytes=ae/\zs.length=sz then
    (if c=0 then aa (.c (.f .es),H)else
    aa (.c (.sl H.length 0 l.toNat c.toNat 0 sz),H++[.box ((cP c.toNat zs).map .f) 0]))
   else ab
  |_,_=>ab
 | .slice sz x lo hi mx=>(ea H sz (x.ev aF) (lo.map (·.ev aF)) (hi.map (·.ev aF)) (mx.map (·.ev aF))).map (·,H)| .pc n sz x lo hi mx=>(mH H n sz (x.ev aF) (lo.map (·.ev aF)) (hi.map (·.ev aF)) (mx.map (·.ev aF))).map (·,H)| .qo x lo hi=>(wZ (x.ev aF) (lo.map (·.ev aF)) (hi.map (·.ev aF))).map (·,H)| .fL off x=>(kI off (x.ev aF)).map (·,H)| .field off n x=>(ko off n (x.ev aF)).map (·,H)| .ez sz j x i=>(bw H sz j (x.ev aF) (i.ev aF)).map (·,H)| .idxs x i=>(Cb (x.ev aF) (i.ev aF)).map (·,H)| .xD len sz n x i=>(Ca len sz n (x.ev aF) (i.ev aF)).map (·,H)
 | .range x=>match x.ev aF with
  | .c (.f (.str s))=>aa (.c (.it H.length),H++[.it s 0])| _=>ab
 | .next x=>GL H (x.ev aF)
 | .extract x i=>match x.ev aF with
  | .t A=>(A[i]?).map (·,H)| _=>ab
 | .iP n=>aa (.int .i64 n,H)
 | .lens x=>match x.ev aF with
  | .c (.f (.str s))=>aa (.int .i64 (s.size:Nat),H)| _=>ab
 | .len x=>match x.ev aF with
  | .c y=>match bo H y with
   |some n=>aa (.int .i64 (n:Nat),H)| none=>ab
  |_=>ab
 | .append sz bytes x y=>cw H sz bytes (x.ev aF) (y.ev aF)| .copy sz x y=>copyV H sz (x.ev aF) (y.ev aF)| .pW lo xs=>(xH lo (dH aF xs)).map (·,H)| .clear sz zs x=>(qH H sz zs (x.ev aF)).map (.t [],·)| .oC sz bytes zs x n=>vr H sz bytes zs (x.ev aF) (n.ev aF)| .mF x=>uM H (x.ev aF)| .qi x=>AV H (x.ev aF)| .entry x=>(ny H (x.ev aF)).map (·,H)| .ib sz zs n ps=>((dO aF ((cP n zs).map .f) (ps.map λp=>(p.1*sz,sz,p.2))).bind λcs=>if n=0 then ab else Qc cs).map λu=>(.c (.f (.fs u n)),H)
 | .wW sz x hi mx=>C0 H sz (x.ev aF) (hi.ev aF) (mx.ev aF)| .tq f xs=>(aZ oE (dH aF xs)).map λxs=>(.c (.bm f xs),H)
 | .cap x=>match x.ev aF with
  | .c y=>match kE H y with
   |some n=>aa (.int .i64 (n:Nat),H)| none=>ab
  |_=>ab
 |_=>ab
inductive Callee where
 |fn (f:Nat)
 |yield (b:Nat)
abbrev cU:=Callee->List V->aj->Option (V × aj)
def deep:Nat:=64
def eQ(call:cU)(c:Nat)(args:List V)(H:aj):Option (V × aj):=
 match aZ (bX deep H) args with
 |none=>ab
 |some b=>match call (.fn c) b []with
  |none=>ab
  |some (r,H')=>match fC deep H' r with
   |none=>ab| some r'=>aa (r',args.foldl (Qf deep) H)
def cL:V->List V->Option (Callee × List V)
 | .c (.f (.fn f d)),args=>aa (.fn f,args++d.map λx=>.c (.f x))
 | .c (.cl f d),args=>aa (.fn f,args++d.map .c)| .c (.yl b),args=>aa (.yield b,args)| .c (.bm f first),args=>aa (.fn f,first.map .c++args)
 |_,_=>ab
def iI(call:cU)(h:Bool)(c:Nat)(args:List V)(H:aj):Option (V × aj):=
 if h then call (.fn c) args H else eQ call c args H
structure St where
 aF:T
 defs:List dS
 heap:aj
def lS(aF:T)(d:Option P)(v:V):T:=
 match d with
 |some d=>aF.set d v| none=>aF
def fH(call:cU)(s:St)(op:dd):Option (V × St):=
 match op with
 | .call f args h=>(iI call h f (dH s.aF args) s.heap).map λr=>(r.1,{ s with heap:=r.2 })
 | .gN x args _=>match cL (x.ev s.aF) (dH s.aF args)with
  |some (c,args)=>(call c args s.heap).map λr=>(r.1,{ s with heap:=r.2 })
  |none=>ab
 | .recover=>aa (.c (.f .oi),s)
 | .defer x args=>match cL (x.ev s.aF) (dH s.aF args)with
  |some (.fn f,args)=>aa (.top,{ s with defs:=.fn f args::s.defs })
  |_=>ab
 |op=>(bF s.aF s.heap op).map λr=>(r.1,{ s with heap:=r.2 })
def iT{α:Type}(f:α->α->Bool):List α->List α->Bool
 |[],[]=>ae| x::xs,y::ys=>f x y&&iT f xs ys| _,_=>ag
def FC.beq:Nat->FC->FC->Bool
 |_,.bool a,.bool b=>a == b| _,.int j a,.int k b=>decide (j=k)&&a == b| _,.str a,.str b=>decide (a=b)| _,.rP,.rP|_,.aK,.aK|_,.es,.es|_,.tw,.tw|_,.oi,.oi|_,.xI,.xI=>ae| n+1,.fp xs o,.fp ys o'=>o == o'&&iT (FC.beq n) xs ys| n+1,.fs xs l,.fs ys d=>l == d&&iT (FC.beq n) xs ys| n+1,.fn f xs,.fn g ys=>f == g&&iT (FC.beq n) xs ys| _,_,_=>ag
def C.beq:C->C->Bool
 | .f a,.f b=>FC.beq 64 a b| .ptr a b c,.ptr a' j l=>a == a'&&b == j&&c == l| .sl a b c d e g,.sl a' j l m q g'=>a == a'&&b == j&&c == l&&d == m&&e == q&&g == g'| .mp a,.mp b=>a == b| _,_=>ag
def V.beq:V->V->Bool
 | .c x,.c y=>x.beq y| .a xs,.a ys=>xs.length == ys.length&&(xs.zip ys).all λp=>p.1.beq p.2
 |_,_=>ag
def wanted(aF:T):Option (P × Bool)->Option Bool
 |none=>aa ae
 |some (r,w)=>match aF.get r with
  | .c (.f (.bool b))=>aa (b == w)| .t []=>aa ag| _=>ab
def gE(call:cU)(s:St)(o:aV):Option St:=
 match wanted s.aF o.g with
 |some ae=>match fH call s o.op with
  |some (v,s')=>aa { s' with aF:=lS s'.aF o.dst v }
  |none=>ab
 |some ag=>aa { s with aF:=lS s.aF o.dst (.t []) }
 |none=>ab
def gz(call:cU):List aV->St->Option St
 |[],s=>aa s
 |o::os,s=>match gE call s o with
  |some s'=>gz call os s'| none=>ab
def ee(call:cU):List aV->St->Option (List St)
 |[],s=>aa [s]
 |o::os,s=>match gE call s o with
  |some s'=>match ee call os s' with
   |some b=>aa (s::b)| none=>ab
  |none=>ab
def sameAt(ops:List aV)(b:List St)(c:Nat × Nat):Bool:=
 match ops[c.1]?,b[c.1]?,b[c.2]? with
 |some o,aa s,aa s'=>match wanted s.aF o.g with
  |some ag=>ae
  |_=>match bF s.aF s.heap o.op,bF s.aF s'.heap o.op with
   |some (v,_),aa (d,_)=>v.beq d| _,_=>ag
 |_,_,_=>ag
def gY(call:cU)(ops:List aV)(b:List (Nat × Nat))(s:St):Option St:=
 match b with
 |[]=>gz call ops s
 |_=>match ee call ops s with
  |some d=>if b.all (sameAt ops d)then d.getLast? else ab| none=>ab
def dd.dB:dd->Bool
 | .defer _ _| .recover=>ag| _=>ae
inductive de where
 |code (c:aH)
 |inBlock (id:Nat)
 |inLoop (c:aH)
 |kz (b:Nat)
 |oD
 |inScope (a:aH)
def exitTo(id:Nat):List de->Option (List de)
 |[]=>ab| .inBlock b::k=>if b == id then aa k else exitTo id k| _::k=>exitTo id k
def findLabel:aH->Nat->Option aH
 | .seq a b,l=>match findLabel a l with
  |some rest=>aa (.seq rest b)| none=>findLabel b l
 | .label d,l=>if d == l then aa .skip else ab| _,_=>ab
def gotoIn(l:Nat):List de->Option (List de)
 |[]=>ab
 | .inScope body::k=>match findLabel body l with
  |some rest=>aa (.code rest::.inScope body::k)| none=>gotoIn l k
 |_::k=>gotoIn l k
def C.fN(n:Nat):C->Bool
 | .f _=>ae| .ptr b _ _=>decide (b<n)| .sl b _ _ _ _ _=>decide (b<n)| .cl _ _=>ag| .yl b=>decide (b<n)| .mp b=>decide (b<n)| .it b=>decide (b<n)| .mi b=>decide (b<n)| .bm _ _=>ag
def C.under(n:Nat):C->Bool
 | .cl _ d=>d.all (·.fN n)| .f _=>ae| .ptr b _ _=>decide (b<n)| .sl b _ _ _ _ _=>decide (b<n)| .yl b=>decide (b<n)| .mp b=>decide (b<n)| .it b=>decide (b<n)| .mi b=>decide (b<n)| .bm _ first=>first.all (·.fN n)
def run(call:cU)(fn:Nat):Nat->Option Nat->List de->St->Option (Option aH × St)
 |0,_,_,_=>ab
 |m+1,j,q,s=>
  match q with
  |[]=>aa (ab,s)| .inBlock _::k=>run call fn m j k s| .inLoop c::k=>run call fn m j (.code c::.inLoop c::k) s
  | .kz b::k=>match s.heap[b]? with
   |some (.lp f tmps ps as bd x pending d)=>
    if x=.busy then ab else
    let s:={ s with heap:=s.heap.set b (.lp f tmps ps as bd .exhausted pending d) }
    match pending with
    |none=>run call fn m j k s| some .ret=>run call fn m j (.code .ret::k) s| some (.exit id)=>run call fn m j (.code (.exit id)::k) s| some _=>ab
   |_=>ab
  | .oD::k=>match j with
   |none=>ab
   |some b=>match s.heap[b]? with
    |some (.lp f tmps ps as bd .ready pending d)=>run call fn m j k { s with heap:=s.heap.set b (.lp f tmps ps as bd .busy pending d) }
    |_=>ab
  | .code .skip::k=>run call fn m j k s| .inScope _::k=>run call fn m j k s| .code (.label _)::k=>run call fn m j k s| .code (.scope a)::k=>run call fn m j (.code a::.inScope a::k) s
  | .code (.goto l)::k=>match gotoIn l k with
   |some k=>run call fn m j k s| none=>ab
  | .code .bad::_=>ab| .code .ret::_=>aa (aa .ret,s)
  | .code (.exit id)::k=>match exitTo id k with
   |some k=>run call fn m j k s| none=>if j.isSome then aa (aa (.exit id),s)else ab
  | .code (.seq a b)::k=>run call fn m j (.code a::.code b::k) s| .code (.block id a)::k=>run call fn m j (.code a::.inBlock id::k) s| .code (.loop a)::k=>run call fn m j (.code a::.inLoop a::k) s
  | .code (.cond c a b)::k=>match c.ev s.aF with
   | .c (.f (.bool v))=>run call fn m j (.code (if v then a else b)::k) s| _=>ab
  | .code (.region ops u)::k=>
   if j.isSome&&!ops.all (·.op.dB)then ab else
   match gY call ops u s with
   |some s=>run call fn m j k s| none=>ab
  | .code (.oW f ps as bd)::k=>
   if j.isSome then ab else
   let d:=s.heap.length
   let H:=s.heap++[.gI ae,.lp fn s.aF ps as bd .ready ab d]
   match cL (f.ev s.aF) [.c (.yl (d+1))]with
   |some (.fn g,args)=>match call (.fn g) args H with
    |some (_,H)=>run call fn m j (.kz (d+1)::k) { aF:=s.aF,defs:=.iM d::s.defs,heap:=H }| none=>ab
   |_=>ab
def gk:Nat:=1000000000
def dP(call:cU):List dS->aj->Option aj
 |[],H=>aa H
 | .iM b::ds,H=>match H[b]? with
  |some (.gI ae)=>dP call ds (H.set b (.gI ag))| _=>ab
 | .fn f args::ds,H=>if f=gk then ab else match call (.fn f) args H with
  |some (_,H)=>dP call ds H| none=>ab
def cu(aF:T)(H:aj):iv->Option V
 | .tmp t=>match aF.get t with
  | .t _=>ab| v=>aa v
 | .cell t n=>aQ H n (aF.get t)
def results(aF:T)(H:aj)(b:List iv):Option V:=
 match aZ (cu aF H) b with
 |some [v]=>aa v| some d=>aa (.t d)| none=>ab
def cO:List P->List V->T->T
 |p::ps,v::b,aF=>cO ps b (aF.set p v)| _,_,aF=>aF
def eV(tab:Nat->Option aM)(g:Nat->List V->aj->Option (Option (V × aj)))(m:Nat):Nat->cU
 |0,_,_,_=>ab
 |d+1,.fn f,args,H=>
  match g f args H with
  |some r=>r
  |none=>match tab f with
   |none=>ab
   |some af=>if args.length=af.ps.length then match run (eV tab g m d) f m ab [.code af.body] ⟨cO af.ps args .e,[],H⟩with
    |some (_,s)=>match dP (eV tab g m d) s.defs s.heap with
     |some H=>(results s.aF H af.results).map (·,H)| none=>ab
    |none=>ab
    else ab
 |d+1,.yield b,args,H=>
  match H[b]? with
  |some (.lp f tmps ps as bd _ _ _)=>
   if args.length=ps.length then
    match run (eV tab g m d) f m (aa b) [.code as,.oD,.code bd] ⟨cO ps args tmps,[],H⟩with
    |some (j,s)=>
     if s.defs.isEmpty then
      match s.heap[b]? with
      |some (.lp x l u as' q _ _ v)=>aa (.bool j.isNone,s.heap.set b (.lp x l u as' q (if j.isNone then .ready else .done) j v))| _=>ab
     else ab
    |none=>ab
   else ab
  |_=>ab
section
variable(Q:Program)(σ:Nat->FuncId)
def XN:Value->Bool
 | .agg _| .tuple _=>ag| _=>ae
def WG:Value->Bool
 | .agg _=>ae| _=>ag
def mK1:FC->Value->Bool
 | .bool a,.bool b=>a == b| .int j a,.int k b=>decide (j=k)&&decide (a=b)| .str a,.string b=>decide (a=b)| .rP,.pointer ab=>ae| .aK,.slice ab 0 0=>ae| .tw,.nilFunc=>ae| .oi,.nilIface=>ae| .xI,.map ab=>ae| _,_=>ag
def gd{α β:Type}(f:α->β->Bool):List α->List β->Bool
 |[],[]=>ae| x::xs,y::ys=>f x y&&gd f xs ys| _,_=>ag
def mK:V->Value->Bool
 | .c (.f x),v=>mK1 x v| .a xs,.agg us=>gd (λx u=>match x with|C.f x=>mK1 x u|_=>ag) xs us.toList
 | .top,.tuple us=>us.isEmpty| _,_=>ag
def mA:Arg->Operand->Bool
 | .r p,.tmp t=>p.toNat == t| .k v,.const u=>mK v u| .k (.c (.f (.fn f []))),.func g=>σ f == g| _,_=>ag
def Qe(xs:List Arg)(ys:Array Operand):Bool:=gd (mA σ) xs ys.toList
def mO:Option Arg->Option Operand->Bool
 |none,ab=>ae| some x,aa y=>mA σ x y| _,_=>ag
def dJ(t:TypeId)(n:Nat):Bool:=(Q.info? t).any λi=>i.size == n
def pk(t:TypeId)(n:Nat):Bool:=(Q.info? t).any λi=>i.bytes == n
def nk(t:TypeId)(zs:List FC):Bool:=(Q.info? t).any λi=>match i.zero with
 |some z=>gd mK1 zs z.cells.toList| none=>ag
def xi(t:TypeId)(n:Option Nat):Bool:=match Q.underlying t,n with
 |some (.struct _),aa n|some (.array _ _),aa n=>dJ Q t n| some (.struct _),ab|some (.array _ _),ab=>ag| some _,ab=>ae| _,_=>ag
def jz:Nat->TypeId->Option (List CK)
 |0,_=>ab
 |d+1,t=>match Q.underlying t with
  |some .bool=>if dJ Q t 1 then aa [.bool]else ab| some (.int _)=>if dJ Q t 1 then aa [.int]else ab| some .string=>if dJ Q t 1 then aa [.str]else ab
  |some (.struct fs)=>if Q.stoodInHeld t then ab else match rD (jz d) 0 fs.toList with
   |some ks=>if dJ Q t ks.length then aa ks else ab| none=>ab
  |_=>ab
 where
 rD (rec:TypeId->Option (List CK)) (off:Nat):List Field->Option (List CK)
  |[]=>aa []
  |f::fs=>if f.name≠ "_"/\f.offset=off then match rec f.type with
    |some ks=>match rD rec (off+ks.length) fs with
     |some r=>aa (ks++r)| none=>ab
    |none=>ab
   else ab
def tT:Operand->Bool
 | .const _=>ae| _=>ag
def mEq(k:FR)(t:TypeId)(x y:Operand):Bool:=match Q.underlying t,k with
 |some .bool,.bool|some (.pointer _),.ptr|some (.slice _),.sl|some (.func _ _ _),.fn=>ae| some (.interface _),.Rn=>tT x||tT y| some (.struct _),.st b=>decide (jz Q 20 t=aa b)&&!Q.eqGuardType Q.depth t| _,_=>ag
def oH(t:TypeId):Option TypeId:=match Q.underlying t with
 |some (.slice e)=>aa e| _=>ab
def aa4(t:TypeId):Bool:=match Q.underlying t with
 |some (.int .u8)=>ae| _=>ag
def eh(c:Call):dd->Bool
 | .len x=>match c.callee,c.args.toList,c.argTypes.toList with
  | .builtin .len,[y],[t]=>mA σ x y&&(match Q.underlying t with|some (.slice _)=>ae|_=>ag)
  |_,_,_=>ag
 | .lens x=>match c.callee,c.args.toList,c.argTypes.toList with
  | .builtin .len,[y],[t]=>mA σ x y&&(match Q.underlying t with|some .string=>ae|_=>ag)
  |_,_,_=>ag
 | .iP n=>match c.callee,c.args.toList,c.argTypes.toList with
  | .builtin .len,[_],[t]=>(match Q.underlying t with|some (.array m _)=>decide (n=m)|_=>ag)
  |_,_,_=>ag
 | .append sz bytes x y=>match c.callee,c.args.toList,c.argTypes.toList with
  | .builtin .append,[u,v],[t,b]=>mA σ x u&&mA σ y v&&(oH Q t).any (λe=>dJ Q e sz&&pk Q e bytes&&decide (0<sz)&&(Q.info? e).any (λi=>i.zero.any λz=>decide (z.cells.size=sz)))
    && (match Q.underlying b with|some .string=>ae|some (.slice _)=>ae|_=>ag)
  |_,_,_=>ag
 | .oC sz bytes zs x y=>match c.callee,c.args.toList,c.argTypes.toList with
  | .builtin .append,[u,v],[t,b]=>mA σ x u&&mA σ y v&&(oH Q t).any (λe=>dJ Q e sz&&pk Q e bytes&&decide (0<sz)&&nk Q e zs)
    && (match Q.underlying b with|some (.int _)=>ae|_=>ag)
  |_,_,_=>ag
 | .copy sz x y=>match c.callee,c.args.toList,c.argTypes.toList with
  | .builtin .copy,[u,v],[t,_]=>mA σ x u&&mA σ y v&&(oH Q t).any (λe=>dJ Q e sz)
  |_,_,_=>ag
 | .pW lo xs=>match c.callee,lo with
  | .builtin .max,ag| .builtin .min,ae=>Qe σ xs c.args| _,_=>ag
 | .cap x=>match c.callee,c.args.toList,c.argTypes.toList with
  | .builtin .cap,[y],[t]=>mA σ x y&&(match Q.underlying t with|some (.slice _)=>ae|_=>ag)
  |_,_,_=>ag
 | .clear sz zs x=>match c.callee,c.args.toList,c.argTypes.toList with
  | .builtin .clear,[y],[t]=>mA σ x y&&(oH Q t).any (λe=>dJ Q e sz&&nk Q e zs)
  |_,_,_=>ag
 | .recover=>match c.callee with
  | .builtin .recover=>ae| _=>ag
 | .call f xs _=>match c.callee with
  | .value (.func g)=>σ f == g&&Qe σ xs c.args| _=>ag
 | .gN x xs _=>match c.callee with
  | .value y=>mA σ x y&&Qe σ xs c.args| _=>ag
 |_=>ag
def JG(b:CK)(t:TypeId):Bool:=match Q.underlying t,b with
 |some (.int _),.int|some .string,.str|some .bool,.bool=>ae| _,_=>ag
def On(t:TypeId)(qs:List (Nat × Nat × Arg))(ps:List (Nat × Operand)):Bool:=match Q.underlying t with
 |some (.struct b)=>match b.toList.mapM (λf=>(Q.info? f.type).map λi=>(f.offset,i.size))with
  |some d=>gd (λ(q:Nat × Nat × Arg) (p:Nat × Operand)=>decide (d[p.1]?=aa (q.1,q.2.1))&&mA σ q.2.2 p.2) qs ps
  |none=>ag
 |some (.array _ e)=>match Q.info? e with
  |some i=>gd (λ(q:Nat × Nat × Arg) (p:Nat × Operand)=>i.size == q.2.1&&q.1 == p.1*q.2.1&&mA σ q.2.2 p.2) qs ps
  |none=>ag
 |_=>ag
def dZ(o:Oper)(a:dd):Bool:=match a with
 | .bad=>ae| .dr y=>(match o.op with| .move x| .assign x=>mA σ y x|_=>ag)
 | .pre .nil sz=>(match o.op with| .move (.const (.slice ab 0 0))| .assign (.const (.slice ab 0 0))=>decide (0<sz)|_=>ag)
 | .pick L A I=>(match o.op with| .pick c x y=>mA σ L c&&mA σ A x&&mA σ I y|_=>ag)
 | .alloc zs=>(match o.op with| .alloc t=>nk Q t zs|_=>ag)
 | .box y=>(match o.op with| .box _ x=>mA σ y x|_=>ag)
 | .build zs qs=>(match o.op with| .build t ps=>nk Q t zs&&On Q σ t qs ps.toList|_=>ag)
 | .dX sz zs F qs=>(match o.op with| .buildSlice t n ps=>n == F&&decide (n*sz<=2 ^ 24)&&(oH Q t).any (λe=>dJ Q e sz&&nk Q e zs&&decide (zs.length=sz))&&decide (0<sz)&&gd (λ(q:Nat × Arg) (p:Nat × Operand)=>q.1 == p.1&&mA σ q.2 p.2) qs ps.toList|_=>ag)
 | .ib sz zs F qs=>(match o.op with| .buildSlice t n ps=>n == F&&decide (n*sz<=2 ^ 24)&&(oH Q t).any (λe=>dJ Q e sz&&nk Q e zs&&decide (zs.length=sz))&&decide (0<sz)&&gd (λ(q:Nat × Arg) (p:Nat × Operand)=>q.1 == p.1&&mA σ q.2 p.2) qs ps.toList|_=>ag)
 | .load n y=>(match o.op with| .load t x=>xi Q t n&&mA σ y x|_=>ag)
 | .store n A I=>(match o.op with| .store t x y=>dJ Q t n&&mA σ A x&&mA σ I y|_=>ag)
 | .jx y=>(match o.op with| .nilCheck x=>mA σ y x|_=>ag)
 | .bin H A I=>(match o.op with| .binOp op t x y _=>decide (op=H)&&mA σ A x&&mA σ I y|_=>ag)
 | .eq neg k A I=>(match o.op with| .binOp op t x y _=>decide (op=if neg then .neq else .eql)&&mA σ A x&&mA σ I y&&mEq Q k t x y|_=>ag)
 | .un H y=>(match o.op with| .unOp op _ x=>decide (op=H)&&mA σ y x|_=>ag)
 | .I' k y=>(match o.op with| .convert s d x=>mA σ y x&&(Q.underlying s).isSome&&(match Q.underlying d with|some (.int k')=>decide (k=k')|_=>ag)|_=>ag)
 | .xC y=>(match o.op with| .convert s d x=>mA σ y x&&(match Q.underlying s,Q.underlying d with|some .string,aa .string=>ae|_,_=>ag)|_=>ag)
 | .xB y=>(match o.op with| .convert s d x=>mA σ y x&&(match Q.underlying s,Q.underlying d with|some (.slice e),aa .string=>aa4 Q e&&dJ Q e 1|_,_=>ag)|_=>ag)
 | .tt g ys=>(match o.op with| .makeFunc (.func f) fst B=>fst.isEmpty&&σ g == f&&Qe σ ys B|_=>ag)
 | .mr=>(match o.op with| .makeMap _ ab=>ae|_=>ag)
 | .fQ sz bytes zs S L=>(match o.op with| .makeSlice t l c=>mA σ S l&&mA σ L c&&(oH Q t).any (λe=>dJ Q e sz&&pk Q e bytes&&nk Q e zs)&&decide (0<sz)|_=>ag)
 | .slice sz y E b mx'=>(match o.op with| .slice t x lo hi mx=>mA σ y x&&mO σ E lo&&mO σ b hi&&mO σ mx' mx&&(oH Q t).any (λe=>dJ Q e sz)&&decide (0<sz)|_=>ag)
 | .wW sz y b mx'=>(match o.op with| .slice t x ab (aa hi) (aa mx)=>mA σ y x&&mA σ b hi&&mA σ mx' mx&&(oH Q t).any (λe=>dJ Q e sz)&&decide (0<sz)|_=>ag)
 | .qo y E b=>(match o.op with| .slice t x lo hi ab=>mA σ y x&&mO σ E lo&&mO σ b hi&&(match Q.underlying t with|some .string=>ae|_=>ag)|_=>ag)
 | .pc n sz y E b mx'=>(match o.op with| .slice t x lo hi mx=>mA σ y x&&mO σ E lo&&mO σ b hi&&mO σ mx' mx&&(match Q.underlying t with|some (.array F e)=>n == F&&dJ Q e sz|_=>ag)&&decide (0<sz)|_=>ag)
 | .fL off y=>(match o.op with| .fieldAddr t x i=>mA σ y x&&(match Q.underlying t with|some (.struct N)=>(match N[i]? with|some f=>f.offset == off&&(Q.info? f.type).any (λi=>i.size != 0)|none=>ag)|_=>ag)|_=>ag)
 | .field off n y=>(match o.op with| .field t x i=>mA σ y x&&(match Q.underlying t with|some (.struct N)=>(match N[i]? with|some f=>f.offset == off&&xi Q f.type n|none=>ag)|_=>ag)|_=>ag)
 | .ez sz K A J=>(match o.op with| .indexAddr t x i=>mA σ A x&&mA σ J i&&(match Q.underlying t,K with|some (.slice e),ab=>dJ Q e sz|some (.array n e),aa F=>n == F&&dJ Q e sz|_,_=>ag)|_=>ag)
 | .idxs A J=>(match o.op with| .index t x i=>mA σ A x&&mA σ J i&&(match Q.underlying t with|some .string=>ae|_=>ag)|_=>ag)
 | .xD n sz k A J=>(match o.op with| .index t x i=>mA σ A x&&mA σ J i&&(match Q.underlying t with|some (.array F e)=>n == F&&dJ Q e sz&&xi Q e k|_=>ag)|_=>ag)
 | .lookup M z O k'=>(match o.op with| .lookup t m k ok=>mA σ O m&&mA σ k' k&&(ok ==(tn z).isSome)&&(match Q.underlying t with|some (.map kt e)=>JG Q M kt&&nk Q e (tJ ((tn z).getD z))&&(Q.info? e).any (λi=>i.zero.any λu=>if FM ((tn z).getD z)then WG u else XN u)|_=>ag)|_=>ag)
 | .mq M O k' U=>(match o.op with| .mapUpdate t m k v=>mA σ O m&&mA σ k' k&&mA σ U v&&(match Q.underlying t with|some (.map kt _)=>JG Q M kt|_=>ag)|_=>ag)
 | .range y=>(match o.op with| .range t x=>mA σ y x&&(match Q.underlying t with|some .string=>ae|_=>ag)|_=>ag)
 | .next y=>(match o.op with| .next x ae=>mA σ y x|_=>ag)
 | .extract y j=>(match o.op with| .extract x i=>mA σ y x&&i == j|_=>ag)
 | .defer x xs=>(match o.op with| .defer c=>(match c.callee with| .value y=>mA σ x y&&Qe σ xs c.args|_=>ag)|_=>ag)
 | .len x=>(match o.op with| .call c=>eh Q σ c (.len x)|_=>ag)
 | .lens x=>(match o.op with| .call c=>eh Q σ c (.lens x)|_=>ag)
 | .iP n=>(match o.op with| .call c=>eh Q σ c (.iP n)|_=>ag)
 | .append sz bytes x y=>(match o.op with| .call c=>eh Q σ c (.append sz bytes x y)|_=>ag)
 | .pW lo xs=>(match o.op with| .call c=>eh Q σ c (.pW lo xs)|_=>ag)
 | .oC sz bytes zs x y=>(match o.op with| .call c=>eh Q σ c (.oC sz bytes zs x y)|_=>ag)
 | .cap x=>(match o.op with| .call c=>eh Q σ c (.cap x)|_=>ag)
 | .clear sz zs x=>(match o.op with| .call c=>eh Q σ c (.clear sz zs x)|_=>ag)
 | .mF y=>(match o.op with| .range t x=>mA σ y x&&(match Q.underlying t with|some (.map _ _)=>ae|_=>ag)|_=>ag)
 | .qi y=>(match o.op with| .next x ag=>mA σ y x|_=>ag)
 | .entry y=>(match o.op with| .entry x=>mA σ y x|_=>ag)
 | .tq g ys=>(match o.op with| .makeFunc (.func f) fst B=>B.isEmpty&&σ g == f&&Qe σ ys fst|_=>ag)
 | .recover=>(match o.op with| .call c=>eh Q σ c (.recover)|_=>ag)
 | .call f xs h=>(match o.op with| .call c=>eh Q σ c (.call f xs h)|_=>ag)
 | .gN x xs h=>(match o.op with| .call c=>eh Q σ c (.gN x xs h)|_=>ag)
 |_=>ag
inductive Cls where|p|r|a|c|w
 deriving DecidableEq
def cls:dd->Cls
 | .dr _| .pick .. | .build .. | .un .. | .I' .. | .xC _| .tt .. | .qo .. | .fL .. | .field .. | .idxs .. | .xD .. | .extract .. | .pW .. | .tq .. | .jx _| .bin .. | .iP _| .lens _| .ib ..=>.p| .load .. | .eq .. | .len _| .slice .. | .pc .. | .ez .. | .lookup .. | .xB _| .cap _| .entry _=>.r| .alloc _| .box _| .mr=>.a| .dX .. | .fQ ..=>.a| .call _ _ ag=>.c| _=>.w
def Arg.rd:Arg->List P
 | .r p=>[p]| .k _=>[]
def XL:Option Arg->List P
 |some x=>x.rd| none=>[]
def dd.rd:dd->List P
 | .dr x| .box x| .load _ x| .jx x| .un _ x| .I' _ x| .xC x| .xB x| .Ej x| .fL _ x| .field _ _ x| .range x| .next x| .extract x _| .len x| .lens x| .cap x| .clear _ _ x| .mF x| .qi x| .entry x=>x.rd| .pre _ _| .alloc _| .mr| .recover| .iP _| .bad=>[]| .pick c a b=>c.rd++a.rd++b.rd| .build _ ps=>ps.flatMap λp=>p.2.2.rd
 | .dX _ _ _ ps| .ib _ _ _ ps=>ps.flatMap λp=>p.2.rd
 | .store _ x y| .bin _ x y| .eq _ _ x y| .ez _ _ x y| .idxs x y| .xD _ _ _ x y| .append _ _ x y| .copy _ x y| .oC _ _ _ x y| .lookup _ _ x y| .fQ _ _ _ x y=>x.rd++y.rd| .mq _ x y z| .wW _ x y z=>x.rd++y.rd++z.rd| .tt _ xs| .call _ xs _| .pW _ xs| .tq _ xs=>xs.flatMap Arg.rd| .gN x xs _| .defer x xs=>x.rd++xs.flatMap Arg.rd| .slice _ x a b c| .pc _ _ x a b c=>x.rd++XL a++XL b++XL c| .qo x a b=>x.rd++XL a++XL b
def aV.rd(o:aV):List P:=(match o.g with|some (p,_)=>[p]|none=>[])++o.op.rd
def aV.apart(x y:aV):Bool:=
 (match x.dst with|some d=>!y.rd.contains d&&y.dst != aa d|none=>ae)&&(match y.dst with|some d=>!x.rd.contains d|none=>ae)
def vB(x y:aV):Bool:=
 match cls x.op,cls y.op with
 | .p,_|_,.p=>ae| .r,.w| .w,.r=>ae| .w,_|_,.w=>ag| _,_=>ae
def oP(acc:List Nat)(o:Oper):Nat:=o.after.toList.foldl (λs e=>if Region.binds .any e then s ||| 2 ^ e.on ||| acc.getD e.on 0 else s) 0
def dI:List Oper->List Nat->List Nat
 |[],acc=>acc| o::os,acc=>dI os (acc++[oP acc o])
def Bl(b:List Nat)(i j:Nat):Bool:=(b.getD j 0).testBit i
def nQ(aos:List aV):List Nat:=(List.range aos.length).filter λj=>match aos[j]? with
 |some y=>decide (cls y.op=.w)| none=>ag
def phase(aos:List aV)(i:Nat):Nat:=i+((aos.drop i).takeWhile λy=>decide (cls y.op≠.w)).length
def Cn(b:List Nat)(aos:List aV)(i e:Nat):Bool:=
 (nQ aos).all λj=>if j<e then !Bl b i j else !Bl b j i
def Q0(b:List Nat)(aos:List aV)(j:Nat):Bool:=match aos[j]? with
 |some y=>(match y.op with| .alloc _=>ae|_=>ag)&&(nQ aos).any λe=>decide (e<j)&&!Bl b e j
 |none=>ag
def mU(b:List Nat)(aos:List aV):Nat:=((List.range aos.length).find? (Q0 b aos)).getD aos.length
def Ge(b:List Nat)(aos:List aV)(j:Nat):Bool:=match aos[j]? with
 |some y=>y.g.isNone&&(match y.op with| .alloc _=>ae|_=>ag)&&(match y.dst with
  |some p=>(List.range aos.length).all λi=>match aos[i]? with
   |some z=>!z.rd.contains p||(nQ aos).all λe=>!decide (e<j)||Bl b e i
   |none=>ae
  |none=>ag)
 |none=>ae
def OK(ops:List Oper)(aos:List aV)(d:List (Nat × Nat)):Bool:=
 let b:=dI ops []
 let n:=aos.length
 ((ops.zip (List.range n)).all λo=>o.1.after.toList.all λe=>!Region.binds .any e||decide (e.on<o.2)) &&
 ((List.range n).all λj=>(List.range j).all λi=>Bl b i j||(match aos[i]?,aos[j]? with
  |some x,aa y=>x.apart y&&(vB x y||(decide (j=mU b aos)&&decide (cls x.op=.w)))
  |_,_=>ag)) &&
 Ge b aos (mU b aos) &&
 ((List.range n).all λi=>match aos[i]? with
  |some x=>if cls x.op=.r then(nQ aos++[n]).all λe=>e == phase aos i||!Cn b aos i e||d.contains (i,e)else ae
  |none=>ag)
variable(Q:Program)(σ:Nat->FuncId)
def nb(n:Nat)(ops:Array Oper)(o:Oper)(a:aV):Bool:=
 dZ Q σ o a.op &&
 (match o.dst,a.dst with|some d,aa p=>p.toNat == d&&decide (d<n)|none,ab=>ae|_,_=>ag) &&
 (match o.guard,a.g with
  |some (j,w),aa (p,w')=>w == w'&&(match (ops[j]?).bind (·.dst)with|some d=>p.toNat == d&&decide (d<n)|none=>ag)
  |none,ab=>ae
  |_,_=>ag)
def mv:aH->Bool
 | .seq a b=>mv a&&mv b| .bad=>ag| _=>ae
def bY(n:Nat):Code->aH->Bool
 |_,.bad=>ae| .skip,.skip=>ae| .region _ ops g,.region aos j=>gd (nb Q σ n ops) ops.toList aos&&(!g||OK ops.toList aos j)| .seq a b,.seq a' d=>bY n a a'&&bY n b d| .cond c a b,.cond v a' d=>mA σ v c&&bY n a a'&&bY n b d| .block i a,.block m a'=>i == m&&bY n a a'| .loop a,.loop a'=>bY n a a'| .rangeFunc f ps a b,.oW x u a' d=>mA σ x f&&gd (λp (q:P)=>q.toNat == p&&decide (p<n)) ps.toList u&&bY n a a'&&bY n b d
 | .exit i,.exit m=>i == m| .scope a,.scope a'=>bY n a a'&&mv a'| .label l,.label s=>l == s| .goto l,.goto s=>l == s| .ret,.ret=>ae| _,_=>ag
def xG(n:Nat):ResultVar->iv->Bool
 | .tmp t,.tmp p=>p.toNat == t&&decide (t<n)| .cell t b,.cell p k=>p.toNat == t&&decide (t<n)&&xi Q b k| _,_=>ag
def zb(f:Func)(a:aM):Bool:=
 f.name != "runtime.NumGoroutine" &&
 (match f.body with|some b=>bY Q σ f.ntmps b a.body|none=>ag) &&
 gd (xG Q f.ntmps) f.results.toList a.results &&
 decide (a.ps.map P.toNat=List.range a.ps.length)
end
section
def A2{α β:Type}(R:α->β->Prop)(xs:List α)(ys:List β):Prop:=
 xs.length=ys.length/\∀(i:Nat) x y,xs[i]?=aa x->ys[i]?=aa y->R x y
section A2
variable{α β:Type}{R S:α->β->Prop}{xs xs':List α}{ys ys':List β}
theorem A2.len(h:A2 R xs ys):xs.length=ys.length:=h.1
theorem A2.nil:A2 R [] []:=⟨rfl,by simp⟩
theorem A2.mono(h:A2 R xs ys)(d:∀x y,x∈xs->R x y->S x y):A2 S xs ys:=
 ⟨h.1,λi x y b hy=>d x y (List.mem_of_getElem? b) (h.2 i x y b hy)⟩
theorem A2.get(h:A2 R xs ys){i:Nat}{x:α}(b:xs[i]?=aa x):∃y,ys[i]?=aa y/\R x y:=by
 have hi:i<xs.length:=(afD.1 b).1;have hy:i<ys.length:=h.1▸hi;exact⟨ys[i],afB hy,h.2 i x _ b (afB hy)⟩
theorem A2.cons{x:α}{y:β}(j:R x y)(h:A2 R xs ys):A2 R (x::xs) (y::ys):=
 ⟨by simp[h.1],λi a b d g=>by
  cases i with
  |zero=>simp at d g;subst d;subst g;exact j
  |succ i=>simp at d g;exact h.2 i a b d g⟩
theorem A2.of_cons{x:α}{y:β}(h:A2 R (x::xs) (y::ys)):R x y/\A2 R xs ys:=
 ⟨h.2 0 x y rfl rfl,by simpa using h.1,λi a b d g=>h.2 (i+1) a b (by simpa using d) (by simpa using g)⟩
theorem A2.append(h:A2 R xs ys)(j:A2 R xs' ys'):A2 R (xs++xs') (ys++ys'):=
 ⟨by simp[h.1,j.1],λi a b d g=>by
  by_cases hi:i<xs.length
  .rw[afy hi]at d;rw[afy (h.1▸hi)]at g;exact h.2 i a b d g
  .rw[afI (by omega)]at d;rw[afI (by have:=h.1;omega),<-h.1]at g;exact j.2 _ a b d g⟩
theorem A2.take(h:A2 R xs ys)(n:Nat):A2 R (xs.take n) (ys.take n):=
 ⟨by simp[h.1],λi a b d g=>by
  rw[ago]at d g;split at d
  .rename_i hi;simp only[hi,if_true]at g;exact h.2 i a b d g
  .simp at d⟩
theorem A2.drop(h:A2 R xs ys)(n:Nat):A2 R (xs.drop n) (ys.drop n):=
 ⟨by simp[h.1],λi a b d g=>by
  rw[af0]at d g;exact h.2 _ a b d g⟩
theorem A2.map{l:Type}{g:l->α}{zs:List l}(h:A2 (λz y=>R (g z) y) zs ys):A2 R (zs.map g) ys:=
 ⟨by simpa using h.1,λi a b d m=>by
  rw[agl]at d;cases j:zs[i]? with
  |none=>rw[j]at d;simp at d
  |some z=>rw[j]at d;simp at d;subst d;exact h.2 i z b j m⟩
theorem A2.nm(h:A2 R xs ys)(b:∀x y,R x y->S x y):A2 S xs ys:=h.mono λx y _=>b x y
end A2
inductive cX(σ:Nat->FuncId)(F:Nat->Nat->Prop)(w:World):FC->Value->Prop
 |bool (b:Bool):cX σ F w (.bool b) (.bool b)
 |int (k:IntKind) (n:Int):cX σ F w (.int k n) (.int k n)
 |str (s:ByteArray):cX σ F w (.str s) (.string s)
 |rP:cX σ F w .rP (.pointer ab)
 |aK:cX σ F w .aK (.slice ab 0 0)
 |es (a:Addr):cX σ F w .es (.slice (aa a) 0 0)
 |tw:cX σ F w .tw .nilFunc
 |oi:cX σ F w .oi .nilIface
 |xI:cX σ F w .xI (.map ab)
 |fp (cs:List FC) (off c o:Nat) (us:List Value) (hl:us.length=cs.length) (hF:∀i,i<cs.length->F c (o+i))
   (hc:∀(i:Nat) u,us[i]?=aa u->w.cell? ⟨c,o+i,ab⟩=aa u) (hr:∀(i:Nat) x u,cs[i]?=aa x->us[i]?=aa u->cX σ F w x u) :
   cX σ F w (.fp cs off) (.pointer (aa ⟨c,o+off,ab⟩))
 |fs (cs:List FC) (l c o cap:Nat) (us:List Value) (Ey:l<=cap) (hl:us.length=cs.length) (hF:∀i,i<cs.length->F c (o+i))
   (hc:∀(i:Nat) u,us[i]?=aa u->w.cell? ⟨c,o+i,ab⟩=aa u) (hr:∀(i:Nat) x u,cs[i]?=aa x->us[i]?=aa u->cX σ F w x u) :
   cX σ F w (.fs cs l) (.slice (aa ⟨c,o,ab⟩) l cap)
 |Tb (a:Addr) (cap:Nat):cX σ F w (.fs [] 0) (.slice (aa a) 0 cap)
 |fn (f:Nat) (IG:List FC) (us:List Value) (hl:us.length=IG.length) (hr:∀(i:Nat) x u,IG[i]?=aa x->us[i]?=aa u->cX σ F w x u) :
   cX σ F w (.fn f IG) (.func (.func (σ f)) #[] us.toArray)
theorem cX.mono{σ:Nat->FuncId}{F q:Nat->Nat->Prop}{w w':World}(s:∀c i,F c i->q c i)
  (z:∀c i,F c i->w'.cell? ⟨c,i,ab⟩=w.cell? ⟨c,i,ab⟩) {x:FC} {v:Value} (h:cX σ F w x v):cX σ q w' x v:=by
 induction h with
 |fp cs off c o us d b hc y m=>
  refine .fp cs off c o us d (λi hi=>s _ _ (b i hi)) (λi u hu=>?_) m;rw[z c (o+i) (b i (by rw[<-d];exact(afD.1 hu).1))];exact hc i u hu
 |fs cs l c o cap us j d b hc y m=>
  refine .fs cs l c o cap us j d (λi hi=>s _ _ (b i hi)) (λi u hu=>?_) m;rw[z c (o+i) (b i (by rw[<-d];exact(afD.1 hu).1))];exact hc i u hu
 |fn f g us d y m=>exact .fn f g us d m| _=>constructor
theorem cX.one{σ:Nat->FuncId}{F:Nat->Nat->Prop}{w:World}{x:FC}{v:Value}(h:cX σ F w x v):v.oneCell'=ae:=by
 cases h<;>rfl
structure Loc where
 c:Nat
 cap:Nat
structure Wd where
 cI:Nat->Option Loc
 F:Nat->Nat->Prop
 H:aj
 w:World
 B:Nat
variable(σ:Nat->FuncId)
def fZ(X:Wd):C->Value->Prop
 | .f x,v=>cX σ X.F X.w x v
 | .ptr b off ep,v=>∃L,X.cI b=aa L/\match X.H[b]? with
  |some (.box _ _)=>v=.pointer (aa ⟨L.c,off,ab⟩)| some (.ct _ _ _ e .loc)=>ep<=e/\(ep=e->v=.pointer (aa ⟨L.c,off,ab⟩))/\∃a,v=.pointer (aa a)| _=>False
 | .sl b o l cap ep sz,v=>match X.H[b]? with
  |some (.box _ _)=>∃L,X.cI b=aa L/\l<=cap/\v=.slice (aa ⟨L.c,o,ab⟩) l cap
  |some (.ct s _ _ e u)=>ep<=e/\(ep=e->sz=s->match u with
    | .loc=>∃L,X.cI b=aa L/\∃k,o=k*s/\k+l<=L.cap/\v=.slice (aa ⟨L.c,o,ab⟩) l (L.cap-k)| .nil=>o=0/\l=0/\v=.slice ab 0 0
    | .es=>o=0/\l=0/\∃a,v=.slice (aa a) 0 0)/\∃a n c,v=.slice a n c
  |_=>False
 | .cl _ _,_=>False| .yl b,v=>∃L,X.cI b=aa L/\(∃f t p a g s q d,X.H[b]?=aa (.lp f t p a g s q d))/\v=.func (.yield L.c) #[] #[]| .mp b,v=>∃L,X.cI b=aa L/\(∃j,X.H[b]?=aa (.map j))/\v=.map (aa L.c)| .it b,v=>∃L,X.cI b=aa L/\(∃s p,X.H[b]?=aa (.it s p))/\v=.pointer (aa ⟨L.c,0,ab⟩)| .mi b,v=>∃L,X.cI b=aa L/\(∃m s d,X.H[b]?=aa (.xw m s d))/\v=.pointer (aa ⟨L.c,0,ab⟩)| .bm _ _,_=>False
def CR(X:Wd):C->Value->Prop
 | .cl f b,v=>∃us,v=.func (.func (σ f)) #[] us.toArray/\A2 (fZ σ X) b us| .bm f first,v=>∃us,v=.func (.func (σ f)) us.toArray #[]/\A2 (fZ σ X) first us
 |x,v=>fZ σ X x v
theorem fZ.one{X:Wd}{x:C}{v:Value}(h:fZ σ X x v):v.oneCell'=ae:=by
 cases x with
 |f x=>exact cX.one h
 |ptr b off ep=>
  obtain⟨L,_,h⟩:=h;split at h
  .subst h;rfl
  .obtain⟨_,_,a,rfl⟩:=h;rfl
  .exact h.elim
 |sl b o l cap ep sz=>
  simp only[fZ]at h;split at h
  .obtain⟨L,_,_,rfl⟩:=h;rfl
  .obtain⟨_,_,a,n,c,rfl⟩:=h;rfl
  .exact h.elim
 |cl f d=>exact h.elim| yl b=>obtain⟨L,_,_,rfl⟩:=h;rfl
 |mp b=>obtain⟨L,_,_,rfl⟩:=h;rfl
 |it b=>obtain⟨L,_,_,rfl⟩:=h;rfl
 |mi b=>obtain⟨L,_,_,rfl⟩:=h;rfl
 |bm f first=>exact h.elim
theorem CR.one{X:Wd}{x:C}{v:Value}(h:CR σ X x v):v.oneCell'=ae:=by
 cases x with
 |cl f j=>obtain⟨us,rfl,_⟩:=h;rfl
 |bm f first=>obtain⟨us,rfl,_⟩:=h;rfl
 |mi b=>exact fZ.one σ (x:=.mi b) h| f y=>exact fZ.one σ (x:=.f y) h| ptr a b c=>exact fZ.one σ (x:=.ptr a b c) h| sl a b c d e g=>exact fZ.one σ (x:=.sl a b c d e g) h| yl b=>exact fZ.one σ (x:=.yl b) h| mp b=>exact fZ.one σ (x:=.mp b) h| it b=>exact fZ.one σ (x:=.it b) h
theorem CR.Qg{X:Wd}{x:C}{v:Value}(h:fZ σ X x v):CR σ X x v:=by
 cases x with
 |cl f b=>exact h.elim| bm f first=>exact h.elim
 |_=>exact h
def iS(X:Wd):V->Value->Prop
 | .top,_=>True| .c x,v=>CR σ X x v| .a xs,v=>∃us,v=.agg us.toArray/\A2 (CR σ X) xs us| .t _,_=>False
def VR(X:Wd):V->Value->Prop
 | .t b,v=>∃us,v=.tuple us.toArray/\A2 (iS σ X) b us| x,v=>iS σ X x v
theorem VR.Qg{X:Wd}{x:V}{v:Value}(h:iS σ X x v):VR σ X x v:=by
 cases x with
 |t b=>exact h.elim| _=>exact h
def rowAt(w:World)(c:Nat)(us:List Value):Prop:=
 ∃e b,w.heap[c]?=aa (.cells us.toArray e b)/\∀i,i<=us.length->¬(b.1<=i/\i<b.2)
def nT(X X':Wd)(b:Nat):Prop:=
 ∀bz,X.H[b]?=aa bz->∃blk',X'.H[b]?=aa blk'/\match bz,blk' with
  | .box _ _,.box _ _=>∀L,X.cI b=aa L->X'.cI b=aa L| .ct s _ _ e y,.ct s' _ _ j g=>s=s'/\((e=j/\y=g/\∀L,X.cI b=aa L->X'.cI b=aa L)\/(e<j/\g=.loc/\∃L,X'.cI b=aa L))| .map _,.map _=>∀L,X.cI b=aa L->X'.cI b=aa L| .it _ _,.it _ _=>∀L,X.cI b=aa L->X'.cI b=aa L| .gI _,.gI _=>∀L,X.cI b=aa L->X'.cI b=aa L| .xw m s _,.xw v s' _=>(m=v/\s=s')/\∀L,X.cI b=aa L->X'.cI b=aa L| .lp f t p a c _ _ d,.lp u z x a' l _ _ q=>(f=u/\t=z/\p=x/\a=a'/\c=l/\d=q)/\∀L,X.cI b=aa L->X'.cI b=aa L| _,_=>False
structure Ext(N:Nat)(X X':Wd):Prop where
 B:X'.B=X.B
 F:∀c i,X.F c i->X'.F c i
 re:∀c i,X'.F c i->X.F c i\/X.w.heap.size<=c\/∃b L,X.cI b=aa L/\L.c=c
 fw:∀c i,X.F c i->X'.w.cell? ⟨c,i,ab⟩=X.w.cell? ⟨c,i,ab⟩
 cZ:∀b,b<N->nT X X' b
 yZ:∀b L,X'.cI b=aa L->(∃b0 L0,X.cI b0=aa L0/\L0.c=L.c)\/X.w.heap.size<=L.c
 size:X.w.heap.size<=X'.w.heap.size
 os:X'.w.os=X.w.os
 tape:X'.w.tape=X.w.tape
 output:X'.w.output=X.w.output
 frame:∀k,k<X.w.heap.size->(∀b L,X.cI b=aa L->L.c≠k)->X'.w.heap[k]?=X.w.heap[k]?
structure q8(N:Nat)(X X':Wd):Prop where
 F:∀c i,X.F c i->X'.F c i
 fw:∀c i,X.F c i->X'.w.cell? ⟨c,i,ab⟩=X.w.cell? ⟨c,i,ab⟩
 cZ:∀b,b<N->nT X X' b
theorem Ext.W{N:Nat}{X X':Wd}(h:Ext N X X'):q8 N X X':=⟨h.F,h.fw,h.cZ⟩
theorem nT.refl(X:Wd)(b:Nat):nT X X b:=λbz h=>⟨bz,h,by cases bz<;>simp⟩
theorem nT.trans{X Y Z:Wd}{b:Nat}(h:nT X Y b)(k:nT Y Z b):nT X Z b:=by
 intro bz s;obtain⟨blk',m,h1⟩:=h bz s;obtain⟨g,j,h2⟩:=k blk' m;refine⟨g,j,?_⟩;cases bz<;>cases blk'<;>simp only at h1<;>cases g<;>simp only at h2 ⊢
 case box=>exact λL d=>h2 L (h1 L d)
 case map=>exact λL d=>h2 L (h1 L d)
 case it=>exact λL d=>h2 L (h1 L d)
 case gI=>exact λL d=>h2 L (h1 L d)
 case xw=>
  obtain⟨⟨rfl,rfl⟩,h1⟩:=h1;obtain⟨⟨rfl,rfl⟩,h2⟩:=h2;exact⟨⟨rfl,rfl⟩,λL d=>h2 L (h1 L d)⟩
 case lp=>
  obtain⟨⟨rfl,rfl,rfl,rfl,rfl,rfl⟩,h1⟩:=h1;obtain⟨⟨rfl,rfl,rfl,rfl,rfl,rfl⟩,h2⟩:=h2;exact⟨⟨rfl,rfl,rfl,rfl,rfl,rfl⟩,λL d=>h2 L (h1 L d)⟩
 case ct=>
  obtain⟨rfl,h1⟩:=h1;obtain⟨rfl,h2⟩:=h2;refine⟨rfl,?_⟩;rcases h1 with⟨rfl,rfl,h1⟩|⟨h1,rfl,L,d⟩
  .rcases h2 with⟨rfl,rfl,h2⟩|⟨h2,rfl,L,d⟩
   .exact .inl ⟨rfl,rfl,λL d=>h2 L (h1 L d)⟩
   .exact .inr ⟨h2,rfl,L,d⟩
  .rcases h2 with⟨rfl,rfl,h2⟩|⟨h2,rfl,q,l⟩
   .exact .inr ⟨h1,rfl,L,h2 L d⟩
   .exact .inr ⟨by omega,rfl,q,l⟩
theorem Ext.refl(N:Nat)(X:Wd):Ext N X X:=
 ⟨rfl,λ_ _ h=>h,λ_ _ h=>.inl h,λ_ _ _=>rfl,λb _=>nT.refl X b,λb L h=>.inl ⟨b,L,h,rfl⟩,afJ _,rfl,rfl,rfl,λ_ _ _=>rfl⟩
theorem Ext.trans{N:Nat}{X Y Z:Wd}(h:Ext N X Y)(k:Ext N Y Z):Ext N X Z where
 B:=k.B.trans h.B
 F:=λc i g=>k.F c i (h.F c i g)
 re:=λc i g=>by
  rcases k.re c i g with h1|h1|⟨b,L,d,rfl⟩
  .exact h.re c i h1
  .exact .inr (.inl (af1 h.size h1))
  .rcases h.yZ b L d with⟨b0,l,h0,h1⟩|h1
   .exact .inr (.inr ⟨b0,l,h0,h1⟩)
   .exact .inr (.inl h1)
 fw:=λc i g=>(k.fw c i (h.F c i g)).trans (h.fw c i g)
 cZ:=λb d=>(h.cZ b d).trans (k.cZ b d)
 yZ:=λb L d=>by
  rcases k.yZ b L d with⟨b0,l,h0,h1⟩|h1
  .rcases h.yZ b0 l h0 with⟨b1,s,h2,h3⟩|h2
   .exact .inl ⟨b1,s,h2,h3.trans h1⟩
   .exact .inr (h1▸h2)
  .exact .inr (af1 h.size h1)
 size:=af1 h.size k.size
 os:=k.os.trans h.os
 tape:=k.tape.trans h.tape
 output:=k.output.trans h.output
 frame:=λj m q=>by
  rw[k.frame j (af9 m h.size) (λb L d hc=>?_)]
  .exact h.frame j m q
  .rcases h.yZ b L d with⟨b0,l,h0,h1⟩|h1
   .exact q b0 l h0 (h1.trans hc)
   .omega
theorem Ext.mono{N M:Nat}{X Y:Wd}(h:Ext N X Y)(g:M<=N):Ext M X Y:=
 {h with cZ:=λb d=>h.cZ b (af9 d g) }
theorem fZ.under{X:Wd}{x:C}{v:Value}(h:fZ σ X x v):x.fN X.H.length=ae:=by
 have lt:∀(b:Nat) bz,X.H[b]?=aa bz->b<X.H.length:=λb bz g=>(afD.1 g).1;cases x with
 |f x=>rfl
 |ptr b off ep=>
  obtain⟨L,_,h⟩:=h;split at h
  .rename_i g;simpa[C.fN]using lt _ _ g
  .rename_i g;simpa[C.fN]using lt _ _ g
  .exact h.elim
 |sl b o l cap ep sz=>
  simp only[fZ]at h;split at h
  .rename_i g;simpa[C.fN]using lt _ _ g
  .rename_i g;simpa[C.fN]using lt _ _ g
  .exact h.elim
 |cl f j=>exact h.elim| yl b=>obtain⟨L,_,⟨f,t,p,a,u,s,q,d,g⟩,rfl⟩:=h;simpa[C.fN]using lt _ _ g
 |mp b=>obtain⟨L,_,⟨es,g⟩,rfl⟩:=h;simpa[C.fN]using lt _ _ g
 |it b=>obtain⟨L,_,⟨s,p,g⟩,rfl⟩:=h;simpa[C.fN]using lt _ _ g
 |mi b=>obtain⟨L,_,⟨m,s,d,g⟩,rfl⟩:=h;simpa[C.fN]using lt _ _ g
 |bm f first=>exact h.elim
theorem fZ.rA{N:Nat}{X X':Wd}(y:q8 N X X'){x:C}{v:Value}(hu:x.fN N=ae)(h:fZ σ X x v):fZ σ X' x v:=by
 cases x with
 |f x=>exact cX.mono y.F y.fw h
 |ptr b off ep=>
  obtain⟨L,u,h⟩:=h;have A:=y.cZ b (by simpa[C.fN]using hu);split at h
  .rename_i cs fl j;obtain⟨blk',g,h1⟩:=A _ j;cases blk'<;>simp only at h1;exact⟨L,h1 L u,by rw[g];exact h⟩
  .rename_i s cs fl e j;obtain⟨blk',g,h1⟩:=A _ j;cases blk'<;>simp only at h1;obtain⟨rfl,⟨rfl,rfl,h2⟩|⟨h2,rfl,B,z⟩⟩:=h1
   .exact⟨L,h2 L u,by rw[g];exact h⟩
   .exact⟨B,z,by rw[g];exact⟨by omega,λh3=>by omega,h.2.2⟩⟩
  .exact h.elim
 |sl b o l cap ep sz=>
  simp only[fZ]at h ⊢;have A:=y.cZ b (by simpa[C.fN]using hu);split at h
  .rename_i cs fl j;obtain⟨L,u,h⟩:=h;obtain⟨blk',g,h1⟩:=A _ j;cases blk'<;>simp only at h1;rw[g];exact⟨L,h1 L u,h⟩
  .rename_i s cs fl e st j;obtain⟨blk',g,h1⟩:=A _ j;cases blk'<;>simp only at h1;rw[g];obtain⟨rfl,⟨rfl,rfl,h2⟩|⟨h2,rfl,B,z⟩⟩:=h1
   .refine⟨h.1,λh3 h4=>?_,h.2.2⟩;have h5:=h.2.1 h3 h4;cases st with
    |loc=>obtain⟨L,u,h6⟩:=h5;exact⟨L,h2 L u,h6⟩
    |nil=>exact h5| es=>exact h5
   .exact⟨by omega,λh3=>by omega,h.2.2⟩
  .exact h.elim
 |cl f E=>exact h.elim
 |yl b=>
  obtain⟨L,u,⟨f,t,p,a,F,s,q,d,j⟩,rfl⟩:=h;obtain⟨blk',g,h1⟩:=y.cZ b (by simpa[C.fN]using hu) _ j;cases blk'<;>simp only at h1;exact⟨L,h1.2 L u,⟨_,_,_,_,_,_,_,_,g⟩,rfl⟩
 |mp b=>
  obtain⟨L,u,⟨es,j⟩,rfl⟩:=h;obtain⟨blk',g,h1⟩:=y.cZ b (by simpa[C.fN]using hu) _ j;cases blk'<;>simp only at h1;exact⟨L,h1 L u,⟨_,g⟩,rfl⟩
 |it b=>
  obtain⟨L,u,⟨s,p,j⟩,rfl⟩:=h;obtain⟨blk',g,h1⟩:=y.cZ b (by simpa[C.fN]using hu) _ j;cases blk'<;>simp only at h1;exact⟨L,h1 L u,⟨_,_,g⟩,rfl⟩
 |mi b=>
  obtain⟨L,u,⟨m,s,d,j⟩,rfl⟩:=h;obtain⟨blk',g,h1⟩:=y.cZ b (by simpa[C.fN]using hu) _ j;cases blk'<;>simp only at h1;exact⟨L,h1.2 L u,⟨_,_,_,g⟩,rfl⟩
 |bm f first=>exact h.elim
theorem CR.rA{N:Nat}{X X':Wd}(j:q8 N X X'){x:C}{v:Value}(hu:x.under N=ae)(h:CR σ X x v):CR σ X' x v:=by
 cases x with
 |cl f m=>
  obtain⟨us,rfl,h⟩:=h;refine⟨us,rfl,h.mono λy u hy l=>fZ.rA σ j ?_ l⟩;exact af4.1 hu y hy
 |bm f first=>
  obtain⟨us,rfl,h⟩:=h;refine⟨us,rfl,h.mono λy u hy l=>fZ.rA σ j ?_ l⟩;exact af4.1 hu y hy
 |mi b=>exact fZ.rA σ j (x:=.mi b) hu h| f y=>exact fZ.rA σ j (x:=.f y) hu h| ptr a b c=>exact fZ.rA σ j (x:=.ptr a b c) hu h| sl a b c d e g=>exact fZ.rA σ j (x:=.sl a b c d e g) hu h| yl b=>exact fZ.rA σ j (x:=.yl b) hu h| mp b=>exact fZ.rA σ j (x:=.mp b) hu h| it b=>exact fZ.rA σ j (x:=.it b) hu h
end
section
variable(Q:Program)(σ:Nat->FuncId)
theorem CR.under{X:Wd}{x:C}{v:Value}(h:CR σ X x v):x.under X.H.length=ae:=by
 cases x with
 |cl f j=>
  obtain⟨us,rfl,h⟩:=h;simp only[C.under,af4];intro y hy;obtain⟨i,hi⟩:=agG hy;obtain⟨u,_,hu⟩:=h.get hi;exact fZ.under σ hu
 |bm f j=>
  obtain⟨us,rfl,h⟩:=h;simp only[C.under,af4];intro y hy;obtain⟨i,hi⟩:=agG hy;obtain⟨u,_,hu⟩:=h.get hi;exact fZ.under σ hu
 |mi b=>exact fZ.under σ (x:=.mi b) h| f y=>rfl| ptr a b c=>exact fZ.under σ (x:=.ptr a b c) h| sl a b c d e g=>exact fZ.under σ (x:=.sl a b c d e g) h| yl b=>exact fZ.under σ (x:=.yl b) h| mp b=>exact fZ.under σ (x:=.mp b) h| it b=>exact fZ.under σ (x:=.it b) h
theorem CR.ej{X X':Wd}(b:q8 X.H.length X X'){x:C}{v:Value}(h:CR σ X x v):CR σ X' x v:=CR.rA σ b (CR.under σ h) h
theorem A2.ej{X X':Wd}(b:q8 X.H.length X X'){xs:List C}{us:List Value}(h:A2 (CR σ X) xs us):A2 (CR σ X') xs us:=
 h.nm λ_ _ h=>CR.ej σ b h
theorem iS.ej{X X':Wd}(b:q8 X.H.length X X'){x:V}{v:Value}(h:iS σ X x v):iS σ X' x v:=by
 cases x with
 |top=>trivial| c x=>exact CR.ej σ b h| a xs=>obtain⟨us,rfl,h⟩:=h;exact⟨us,rfl,A2.ej σ b h⟩
 |t d=>exact h.elim
theorem VR.ej{X X':Wd}(b:q8 X.H.length X X'){x:V}{v:Value}(h:VR σ X x v):VR σ X' x v:=by
 cases x with
 |t d=>obtain⟨us,rfl,h⟩:=h;exact⟨us,rfl,h.nm λ_ _ h=>iS.ej σ b h⟩
 |top=>trivial| c x=>exact iS.ej σ (x:=.c x) b h| a xs=>exact iS.ej σ (x:=.a xs) b h
def RR(X:Wd)(aF:T)(tmps:Array Value):Prop:=∀p,VR σ X (aF.get p) (tmps.getD p.toNat undef)
theorem RR.ej{X X':Wd}(b:q8 X.H.length X X'){aF:T}{tmps:Array Value}(h:RR σ X aF tmps):RR σ X' aF tmps:=λp=>VR.ej σ b (h p)
theorem CR.ext'{X X':Wd}(b:Ext X.H.length X X'){x:C}{v:Value}(h:CR σ X x v):CR σ X' x v:=CR.ej σ b.W h
theorem A2.ext'{X X':Wd}(b:Ext X.H.length X X'){xs:List C}{us:List Value}(h:A2 (CR σ X) xs us):A2 (CR σ X') xs us:=A2.ej σ b.W h
theorem iS.ext'{X X':Wd}(b:Ext X.H.length X X'){x:V}{v:Value}(h:iS σ X x v):iS σ X' x v:=iS.ej σ b.W h
theorem VR.ext'{X X':Wd}(b:Ext X.H.length X X'){x:V}{v:Value}(h:VR σ X x v):VR σ X' x v:=VR.ej σ b.W h
theorem RR.ext'{X X':Wd}(b:Ext X.H.length X X'){aF:T}{tmps:Array Value}(h:RR σ X aF tmps):RR σ X' aF tmps:=RR.ej σ b.W h
theorem T.rE(t:T)(p q:P)(v:V):(t.set p v).get q=if p=q then v else t.get q:=by
 induction t generalizing p q with
 |e=>
  induction p generalizing q with
  |h=>cases q<;>simp[T.set,T.get]
  |o p b=>cases q<;>simp[T.set,T.get,b]
  |i p b=>cases q<;>simp[T.set,T.get,b]
 |n l j r d g=>cases p<;>cases q<;>simp[T.set,T.get,d,g]
theorem P.toNat_inj{p q:P}(h:p.toNat=q.toNat):p=q:=by
 induction p generalizing q with
 |h=>cases q<;>simp[P.toNat]at h ⊢
 |o p b=>
  cases q with
  |h=>simp[P.toNat]at h| o q=>simp only[P.toNat]at h;rw[b (q:=q) (by omega)]
  |i q=>simp[P.toNat]at h;omega
 |i p b=>
  cases q with
  |h=>simp[P.toNat]at h| o q=>simp[P.toNat]at h;omega| i q=>simp only[P.toNat]at h;rw[b (q:=q) (by omega)]
theorem RR.set{X:Wd}{aF:T}{tmps:Array Value}(h:RR σ X aF tmps){p:P}(g:p.toNat<tmps.size){v:V}{u:Value}(j:VR σ X v u) :
  RR σ X (aF.set p v) (tmps.setIfInBounds p.toNat u):=by
 intro q;rw[T.rE];by_cases d:p=q
 .subst d;simpa[g]using j
 .have b:p.toNat≠q.toNat:=λe=>d (P.toNat_inj e);simpa[d,Array.getD_eq_getD_getElem?,Array.getElem?_setIfInBounds_ne b]using h q
def fe.of:fe->LoopState
 | .ready=>.ready| .busy=>.busy| .done=>.done| .exhausted=>.exhausted
def zc(n:Nat):Option aH->Option Code->Prop
 |none,ab=>True| some a,aa c=>bY Q σ n c a=ae| _,_=>False
def BR(X:Wd):bB->Loc->Prop
 | .box cs fl,L=>∃us,rowAt X.w L.c us/\A2 (CR σ X) cs us/\∀i,fl<=i->¬ X.F L.c i| .ct sz cs fl _ l,L=>l=.loc/\∃us rest,rowAt X.w L.c (us++rest)/\A2 (CR σ X) cs us/\(us++rest).length=L.cap*sz/\0<sz/\(∃n,cs.length=n*sz)/\∀i,fl<=i->¬ X.F L.c i| .map y,L=>∃g:List MapEntry,X.w.heap[L.c]?=aa (.map g.toArray g.length)/\A2 (λe m=>cX σ X.F X.w e.1 m.key/\iS σ X (mV e.2) m.val) y g/\∀(i:Nat) m,g[i]?=aa m->m.born=i
 | .xw m j done,L=>∃(B:Loc) (z:Array Nat) (l:Nat),X.cI m=aa B/\(∃y,X.H[m]?=aa (.map y))/\X.w.heap[L.c]?=aa (.mapIter (aa B.c) j z l)/\(if done then z=#[0]/\l=1 else z=#[])| .it s pos,L=>X.w.heap[L.c]?=aa (.stringIter s pos)| .gI b,L=>X.w.heap[L.c]?=aa (.deferred (if b then aa []else ab))
 | .lp f tmps ps as bd l v d,L=>∃(n:Nat) (us:Array Value) (x:Array Tmp) (as' u:Code) (pend':Option Code) (A:Loc),
   X.w.heap[L.c]?=aa (.loop { state:=l.of,pending:=pend',fn:=σ f,tmps:=us,params:=x,assign:=as',body:=u,defers:=A.c })/\
   n<=us.size/\RR σ X tmps us/\gd (λp (q:P)=>q.toNat == p&&decide (p<n)) x.toList ps=ae/\bY Q σ n as' as=ae/\bY Q σ n u bd=ae/\zc Q σ n v pend'/\X.cI d=aa A/\∃o,X.H[d]?=aa (.gI o)
theorem BR.rA{X X':Wd}(g:q8 X.H.length X X'){bz:bB}{L:Loc}(l:X'.w.heap[L.c]?=X.w.heap[L.c]?)(F:∀i,X'.F L.c i->X.F L.c i)(h:BR Q σ X bz L):BR Q σ X' bz L:=by
 cases bz with
 |box cs fl=>
  obtain⟨us,⟨e,fr,h1,h2⟩,h3,h4⟩:=h;exact⟨us,⟨e,fr,l.trans h1,h2⟩,A2.ej σ g h3,λi hi x=>h4 i hi (F i x)⟩
 |ct sz cs fl ep st=>
  obtain⟨y,us,rest,⟨e,fr,h1,h2⟩,h3,h4,h5,h6,h7⟩:=h;exact⟨y,us,rest,⟨e,fr,l.trans h1,h2⟩,A2.ej σ g h3,h4,h5,h6,λi hi x=>h7 i hi (F i x)⟩
 |map es=>
  obtain⟨u,h1,h2,h3⟩:=h;exact⟨u,l.trans h1,h2.nm λ_ _ h=>⟨cX.mono g.F g.fw h.1,iS.ej σ g h.2⟩,h3⟩
 |xw m A done=>
  obtain⟨E,J,st,h1,⟨es,h2⟩,h3,h4⟩:=h;obtain⟨blk',j,h5⟩:=g.cZ m (afD.1 h2).1 _ h2;cases blk'<;>simp only at h5;exact⟨E,J,st,h5 E h1,⟨_,j⟩,l.trans h3,h4⟩
 |it s pos=>exact l.trans h| gI b=>exact l.trans h
 |lp f tmps ps as bd st H d=>
  obtain⟨n,us,z,as',v,pend',B,h1,h2,h3,h4,h5,h6,h7,h8,o,h9⟩:=h;have I:d<X.H.length:=(afD.1 h9).1;obtain⟨blk',j,q⟩:=g.cZ d I _ h9;cases blk'<;>simp only at q;exact⟨n,us,z,as',v,pend',B,l.trans h1,h2,RR.ej σ g h3,h4,h5,h6,h7,q B h8,_,j⟩
theorem BR.ext{X X':Wd}(g:Ext X.H.length X X'){bz:bB}{L:Loc}(d:X'.w.heap[L.c]?=X.w.heap[L.c]?)(b:∀i,X'.F L.c i->X.F L.c i)(h:BR Q σ X bz L):BR Q σ X' bz L:=BR.rA Q σ g.W d b h
structure SR(X:Wd):Prop where
 br:∀b L,X.cI b=aa L->X.B<=L.c/\L.c<X.w.heap.size/\∃bz,X.H[b]?=aa bz/\BR Q σ X bz L
 inj:∀b b' L L',X.cI b=aa L->X.cI b'=aa L'->L.c=L'.c->b=b'
 fb:∀c i,X.F c i->c<X.w.heap.size
theorem SR.step{X X':Wd}(v:SR Q σ X)(u:Ext X.H.length X X')(b0:Nat)(y:∀b,b≠b0->X'.H[b]?=X.H[b]?)(d:∀b,b≠b0->X'.cI b=X.cI b)
  (z:∀b L,b≠b0->X.cI b=aa L->X'.w.heap[L.c]?=X.w.heap[L.c]?) (x:∀b L,b≠b0->X.cI b=aa L->∀i,X'.F L.c i->X.F L.c i)
  (h0:∀L,X'.cI b0=aa L->X.B<=L.c/\L.c<X'.w.heap.size/\(∃bz,X'.H[b0]?=aa bz/\BR Q σ X' bz L)/\∀b l,b≠b0->X.cI b=aa l->l.c≠L.c)
  (s:∀c i,X'.F c i->c<X'.w.heap.size):SR Q σ X' where
 br:=λb L g=>by
  rw[u.B];by_cases h:b=b0
  .subst h;obtain⟨h1,h2,h3,_⟩:=h0 L g;exact⟨h1,h2,h3⟩
  .rw[d b h]at g;obtain⟨h1,h2,bz,h3,h4⟩:=v.br b L g;exact⟨h1,af9 h2 u.size,bz,(y b h).trans h3,BR.ext Q σ u (z b L h g) (x b L h g) h4⟩
 fb:=λc i h=>s c i h
 inj:=λb m L l g j hc=>by
  by_cases h:b=b0<;>by_cases q:m=b0
  .rw[h,q]
  .subst h;rw[d m q]at j;exact absurd hc.symm ((h0 L g).2.2.2 m l q j)
  .subst q;rw[d b h]at g;exact absurd hc ((h0 l j).2.2.2 b L h g)
  .rw[d b h]at g;rw[d m q]at j;exact v.inj b m L l g j hc
end
section
variable{Q:Program}{σ:Nat->FuncId}{X:Wd}
theorem bl{t:TypeId}{d:TypeDesc}(h:Q.underlying t=aa d)(w:World):(underlying t).run Q w=.ok d w:=by
 simp[underlying,h]
theorem dq{t:TypeId}{n:Nat}(h:dJ Q t n=ae)(w:World):(Go.sizeOf t).run Q w=.ok n w:=by
 unfold dJ at h;cases hi:Q.info? t with
 |none=>simp[hi]at h| some i=>simp[hi]at h;simp[Go.sizeOf,typeInfo,hi,h]
theorem A9{t:TypeId}{n:Nat}(h:pk Q t n=ae)(w:World):∃i,(typeInfo t).run Q w=.ok i w/\i.bytes=n:=by
 unfold pk at h;cases hi:Q.info? t with
 |none=>simp[hi]at h| some i=>simp[hi]at h;exact⟨i,by simp[typeInfo,hi],h⟩
theorem G2{t:TypeId}{n:Option Nat}(h:xi Q t n=ae)(w:World):(isAgg t).run Q w=.ok n.isSome w/\∀k,n=aa k->dJ Q t k=ae:=by
 unfold xi at h;cases b:Q.underlying t with
 |none=>simp[b]at h
 |some d=>
  cases d<;>cases n<;>simp_all [isAgg,bl b]
theorem ew(c o k:Nat):(⟨c,o,ab⟩:Addr).add k=⟨c,o+k,ab⟩:=by unfold Addr.add;split<;>simp_all
theorem dD{w:World}{c:Nat}{us:List Value}(h:rowAt w c us)(i:Nat):w.cell? ⟨c,i,ab⟩=us[i]?:=by
 obtain⟨e,b,h,_⟩:=h;simp[World.cell?,h]
theorem Eu{w:World}{c:Nat}{us:List Value}(h:rowAt w c us){i:Nat}(hi:i<us.length):w.frozen? ⟨c,i,ab⟩=ag:=by
 obtain⟨e,d,h,b⟩:=h;have:=b i (Nat.le_of_lt hi);simp only[World.frozen?,h];simp only[Bool.and_eq_false_iff,decide_eq_false_iff_not];omega
theorem vw(A:SR Q σ X){x:C}{v:Value}(g:CR σ X x v){cs:List C}(h:aw X.H x=aa cs) :
  ∃c o us,v=.pointer (aa ⟨c,o,ab⟩)/\(∀(i:Nat) u,us[i]?=aa u->X.w.cell? ⟨c,o+i,ab⟩=aa u)/\A2 (CR σ X) cs us:=by
 cases x with
 |ptr b off ep=>
  obtain⟨L,z,g⟩:=g;obtain⟨_,_,bz,q,j⟩:=A.br b L z;simp only[aw,q]at h;rw[q]at g;cases bz with
  |box cs' fl=>
   simp only[At]at h;subst h;subst g;obtain⟨us,l,m,_⟩:=j;exact⟨L.c,off,us.drop off,rfl,λi u d=>by rw[dD l];rw[af0]at d;exact d,m.drop off⟩
  |ct s cs' fl e H=>
   cases H<;>simp only at h g
   .split at h
    .rename_i E;simp only[At]at h;subst h;obtain⟨_,g,_⟩:=g;have g:=g E;subst g;obtain⟨_,us,rest,l,m,_⟩:=j;refine⟨L.c,off,us.drop off,rfl,λi u d=>?_,m.drop off⟩;rw[dD l];rw[af0]at d;rw[afy (afD.1 d).1];exact d
    .simp at h
   all_goals exact g.elim
  |_=>simp at h
 |f x=>
  cases x with
  |fp cs' off=>
   simp only[aw,At]at h;subst h;cases g with
   |fp _ _ c o us F I B l=>
    refine⟨c,o+off,us.drop off,rfl,λi u d=>?_,A2.map ⟨by simp[F],λi x u y d=>?_⟩⟩
    .rw[af0]at d;have:=B _ u d;rwa[show o+(off+i)=o+off+i by omega]at this
    .rw[af0]at y d;exact l _ x u y d
  |_=>simp[aw]at h
 |_=>simp[aw]at h
theorem C_{t:TypeId}{n:Option Nat}(z:xi Q t n=ae){c o:Nat}{us:List Value}{cs:List C}{w:World}
  (q:∀(i:Nat) u,us[i]?=aa u->w.cell? ⟨c,o+i,ab⟩=aa u) (g:A2 (CR σ X) cs us) {v:V} (b:aO n cs=aa v) :
  ∃u,(loadVar t ⟨c,o,ab⟩).run Q w=.ok u w/\VR σ X v u:=by
 obtain⟨m,s⟩:=G2 z w;cases n with
 |none=>
  cases cs with
  |nil=>simp[aO]at b
  |cons x cs=>
   simp only[aO,At]at b;subst b;obtain⟨u,A,l⟩:=g.get (i:=0) (x:=x) rfl;have:=q 0 u A;simp only[ahc]at this;exact⟨u,by simp[loadVar,m,this],l⟩
 |some n=>
  simp only[aO]at b;split at b
  .rename_i B;simp only[At]at b;subst b;have y:(us.take n).length=n:=by have:=g.len;simp;omega
   have:=run_loadCells_list (P:=Q) w ⟨c,o,ab⟩ (us.take n) (λj v d=>by
    rw[ew];rw[ago]at d;split at d
    .exact q j v d
    .simp at d)
   rw[y]at this;refine⟨.agg (us.take n).toArray,?_,⟨us.take n,rfl,g.take n⟩⟩;simp[loadVar,m,dq (s n rfl),this]
  .simp at b
theorem Xw(q:SR Q σ X){t:TypeId}{n:Option Nat}(s:xi Q t n=ae){x:V}{p:Value}(y:VR σ X x p){v:V}(h:aQ X.H n x=aa v) :
  ∃u,(Instr.loadAt t p).run Q X.w=.ok u X.w/\VR σ X v u:=by
 cases x with
 |c x=>
  simp only[aQ,af3]at h;obtain⟨cs,b,d⟩:=h;obtain⟨c,o,us,rfl,g,j⟩:=vw q y b;obtain⟨u,l,m⟩:=C_ s g j d;exact⟨u,by simp[Instr.loadAt,Instr.sureAddr,l],m⟩
 |_=>simp[aQ]at h
end
section
variable{Q:Program}{σ:Nat->FuncId}{X:Wd}
theorem VR.int{k:IntKind}{n:Int}{u:Value}(h:VR σ X (.c (.f (.int k n))) u):u=.int k n:=by cases (h:cX σ X.F X.w (.int k n) u);rfl
theorem VR.bool{b:Bool}{u:Value}(h:VR σ X (.c (.f (.bool b))) u):u=.bool b:=by cases (h:cX σ X.F X.w (.bool b) u);rfl
theorem VR.str{s:ByteArray}{u:Value}(h:VR σ X (.c (.f (.str s))) u):u=.string s:=by cases (h:cX σ X.F X.w (.str s) u);rfl
theorem VR.mkInt(k:IntKind)(n:Int):VR σ X (V.int k n) (.int k n):=cX.int k n
theorem VR.wg(b:Bool):VR σ X (V.bool b) (.bool b):=cX.bool b
theorem VR.mkStr(s:ByteArray):VR σ X (.c (.f (.str s))) (.string s):=cX.str s
theorem ff{α β:Type}{f:α->β->Bool}:∀{xs:List α} {ys:List β},gd f xs ys=ae->A2 (λx y=>f x y=ae) xs ys
 |[],[],_=>A2.nil
 |x::xs,y::ys,h=>by
  simp only[gd,afE]at h;exact A2.cons h.1 (ff h.2)
 |[],_::_,h=>by simp[gd]at h
 |_::_,[],h=>by simp[gd]at h
theorem ER{F:Nat->Nat->Prop}{w:World}{x:FC}{u:Value}(h:mK1 x u=ae):cX σ F w x u:=by
 unfold mK1 at h;split at h
 .simp only[beq_iff_eq]at h;subst h;exact .bool _
 .simp only[afE,decide_eq_true_eq]at h;obtain⟨rfl,rfl⟩:=h;exact .int _ _
 .simp only[decide_eq_true_eq]at h;subst h;exact .str _
 .exact .rP
 .exact .aK
 .exact .tw
 .exact .oi
 .exact .xI
 .simp at h
theorem aa'{x:V}{u:Value}(h:mK x u=ae):VR σ X x u:=by
 unfold mK at h;split at h
 .exact ER h
 .refine⟨_,by simp,(ff h).nm λy w b=>?_⟩;split at b
  .exact ER b
  .simp at b
 .trivial
 .simp at h
theorem cf{a:Act}{aF:T}(b:RR σ X aF a.tmps){x:Arg}{y:Operand}(h:mA σ x y=ae):VR σ X (x.ev aF) (a.eval y):=by
 unfold mA at h;split at h
 .rename_i p t;simp only[beq_iff_eq]at h;subst h;exact b p
 .exact aa' h
 .simp only[beq_iff_eq]at h;subst h;exact cX.fn _ [] [] rfl (by simp)
 .simp at h
theorem oO{a:Act}{aF:T}(j:RR σ X aF a.tmps){xs:List Arg}{ys:Array Operand}(h:Qe σ xs ys=ae):A2 (VR σ X) (dH aF xs) (ys.map a.eval).toList:=by
 have:=(ff h).nm λx y b=>cf j b;refine⟨by simpa[dH]using this.len,λi v u g d=>?_⟩;simp only[dH,agl,afF]at g;simp only[Array.toList_map,agl,afF]at d;obtain⟨x,l,rfl⟩:=g;obtain⟨y,m,rfl⟩:=d;exact this.2 i x y l m
theorem aa_{a:Act}{aF:T}(g:RR σ X aF a.tmps){x:Option Arg}{y:Option Operand}(h:mO σ x y=ae) :
  (x=ab/\y=ab)\/∃b d,x=aa b/\y=aa d/\VR σ X (b.ev aF) (a.eval d):=by
 unfold mO at h;split at h
 .exact .inl ⟨rfl,rfl⟩
 .exact .inr ⟨_,_,rfl,rfl,cf g h⟩
 .simp at h
theorem QP{op:BinOp}{k:IntKind}{x y:Int}{v:V}(h:od op k x y=aa v)(w:World) :
  ∃u,(binOp op 0 (.int k x) (.int k y)).run Q w=.ok u w/\VR σ X v u/\∀t,binOp op t (.int k x) (.int k y)=binOp op 0 (.int k x) (.int k y):=by
 unfold od at h;split at h<;>(try split at h)<;>(try simp only[At,reduceCtorEq]at h)<;>(try subst h)
 all_goals first
  |(refine⟨_,?_,VR.mkInt _ _,λ_=>by simp[binOp]⟩;simp[binOp,Op.intArith,Op.intBits];done)
  |(refine⟨_,?_,VR.wg _,λ_=>by simp[binOp]⟩;simp[binOp,Op.intCmp];done)
  |(rename_i b;refine⟨_,?_,VR.mkInt _ _,λ_=>by simp[binOp]⟩;simp[binOp,Op.intDiv,b];done)
theorem QR{op:BinOp}{x y:ByteArray}{v:V}(h:WM op x y=aa v)(w:World)(t:TypeId) :
  ∃u,(binOp op t (.string x) (.string y)).run Q w=.ok u w/\VR σ X v u:=by
 unfold WM at h;split at h<;>(try split at h)<;>(try simp only[At,reduceCtorEq]at h)<;>(try subst h)
 all_goals first
  |exact⟨_,by simp[binOp,Op.stringOp],VR.wg _⟩
  |(rename_i b;exact⟨_,by simp only[binOp,Op.stringOp];rw[bG b];rfl,VR.mkStr _⟩)
  |skip
end
section
variable{Q:Program}{σ:Nat->FuncId}{X:Wd}
theorem uC:∀{d:List CK} {xs ys:List C} {b:Bool},sA d xs ys=aa b->xs.length=d.length/\ys.length=d.length
 |[],[],[],_,_=>⟨rfl,rfl⟩
 |k::d,x::xs,y::ys,b,h=>by
  simp only[sA]at h;split at h
  .rename_i g;have:=uC g;simp[this]
  .simp at h
 |[],_::_,_,_,h=>by simp[sA]at h
 |[],[],_::_,_,h=>by simp[sA]at h
 |_::_,[],_,_,h=>by simp[sA]at h
 |_::_,_::_,[],_,h=>by simp[sA]at h
theorem vJ:∀{d g:List CK} {xs ys:List C} {b:Bool},sA (d++g) xs ys=aa b->
  ∃b1 j,sA d (xs.take d.length) (ys.take d.length)=aa b1/\sA g (xs.drop d.length) (ys.drop d.length)=aa j/\b=(b1&&j)
 |[],g,xs,ys,b,h=>⟨ae,b,rfl,by simpa using h,by simp⟩
 |k::d,g,[],ys,b,h=>by simp[sA]at h
 |k::d,g,x::xs,[],b,h=>by simp[sA]at h
 |k::d,g,x::xs,y::ys,b,h=>by
  simp only[List.cons_append,sA]at h;split at h
  .rename_i a c q s;simp only[At]at h;obtain⟨b1,j,l,m,rfl⟩:=vJ s;refine⟨a&&b1,j,?_,by simpa using m,by rw[<-h,Bool.and_assoc]⟩;simp[sA,q,l]
  .simp at h
def CKv:CK->Value->Value->Bool->Prop
 | .bool,u,v,b=>∃p q,u=.bool p/\v=.bool q/\b=(p == q)| .int,u,v,b=>∃j p q,u=.int j p/\v=.int j q/\b=(p == q)| .str,u,v,b=>∃p q,u=.string p/\v=.string q/\b=(p == q)
theorem uD{k:CK}{x y:C}{b:Bool}(h:Gh k x y=aa b){u v:Value}(d:CR σ X x u)(g:CR σ X y v):CKv k u v b:=by
 unfold Gh at h;split at h
 .simp only[At]at h;exact⟨_,_,VR.bool (σ:=σ) (X:=X) d,VR.bool (σ:=σ) (X:=X) g,h.symm⟩
 .split at h
  .rename_i j;subst j;simp only[At]at h;exact⟨_,_,_,VR.int (σ:=σ) (X:=X) d,VR.int (σ:=σ) (X:=X) g,h.symm⟩
  .simp at h
 .simp only[At]at h;exact⟨_,_,VR.str (σ:=σ) (X:=X) d,VR.str (σ:=σ) (X:=X) g,h.symm⟩
 .simp at h
theorem CA:∀(d:Nat) (t:TypeId) (S:List CK),jz Q d t=aa S->∀(D:Nat),d<=D->∀(us W:List Value) (off:Nat) (xs ys:List C) (b:Bool) (w:World),
  sA S xs ys=aa b->A2 (CR σ X) xs ((us.drop off).take S.length)->A2 (CR σ X) ys ((W.drop off).take S.length)->
  ∃a c,(part t us.toArray off).run Q w=.ok a w/\(part t W.toArray off).run Q w=.ok c w/\(Op.equalIn D t a c).run Q w=.ok b w
 |0,_,_,h,_,_,_,_,_,_,_,_,_,_,_,_=>by simp[jz]at h
 |d+1,t,S,h,0,hD,_,_,_,_,_,_,_,_,_,_=>by omega
 |d+1,t,S,h,D+1,hD,us,W,off,xs,ys,b,w,L,hx,hy=>by
  have hl:=uC L;have m:∀(k:CK),S=[k]->(∀td,Q.underlying t=aa td->(match td with| .struct _| .array _ _=>False|_=>True))->(∃td,Q.underlying t=aa td)->
    ∃x y u v,xs=[x]/\ys=[y]/\Gh k x y=aa b/\CR σ X x u/\CR σ X y v/\(part t us.toArray off).run Q w=.ok u w/\(part t W.toArray off).run Q w=.ok v w:=by
   intro k z a9 g;subst z;obtain⟨td,g⟩:=g;have a9:=a9 td g
   match xs,ys,hl with
   |[x],[y],_=>
    simp only[sA]at L;split at L
    .rename_i a c ha hc;simp only[At]at hc L;subst hc;simp at L;subst L;obtain⟨u,e_,f7⟩:=hx.get (i:=0) (x:=x) rfl;obtain⟨v,f8,f_⟩:=hy.get (i:=0) (x:=y) rfl;have e1:us[off]?=aa u:=by simpa[ago,af0]using e_
     have e2:W[off]?=aa v:=by simpa[ago,af0]using f8
     have a8:(isAgg t).run Q w=.ok ag w:=by
      cases td<;>simp_all [isAgg,bl g]
     exact⟨x,y,u,v,rfl,rfl,ha,f7,f_,by simp[part,a8,e1],by simp[part,a8,e2]⟩
    .simp at L
  unfold jz at h;split at h
  .rename_i g;split at h
   .simp only[At]at h;obtain⟨x,y,u,v,rfl,rfl,E,Y,Z,M,h4⟩:=m .bool h.symm (λtd s=>by rw[g]at s;cases s;trivial) ⟨_,g⟩;obtain⟨p,q,rfl,rfl,rfl⟩:=uD E Y Z;exact⟨_,_,M,h4,run_equalIn_bool' w D t _ _ g⟩
   .simp at h
  .rename_i j g;split at h
   .simp only[At]at h;obtain⟨x,y,u,v,rfl,rfl,E,Y,Z,M,h4⟩:=m .int h.symm (λtd s=>by rw[g]at s;cases s;trivial) ⟨_,g⟩;obtain⟨j',p,q,rfl,rfl,rfl⟩:=uD E Y Z;exact⟨_,_,M,h4,run_equalIn_int w D t _ _ _ _ g⟩
   .simp at h
  .rename_i g;split at h
   .simp only[At]at h;obtain⟨x,y,u,v,rfl,rfl,E,Y,Z,M,h4⟩:=m .str h.symm (λtd s=>by rw[g]at s;cases s;trivial) ⟨_,g⟩;obtain⟨p,q,rfl,rfl,rfl⟩:=uD E Y Z;exact⟨_,_,M,h4,by rw[run_equalIn_string w D t _ _ g,beq_toListBytes]⟩
   .simp at h
  .rename_i fs g;split at h
   .simp at h
   .rename_i e9;split at h
    .rename_i U hf;split at h
     .rename_i a_;simp only[At]at h;subst h;have K:(isAgg t).run Q w=.ok ae w:=by simp[isAgg,bl g]
      have O:Q.underlying t=aa (.struct (Q.fieldsOf t)):=by simp[Program.fieldsOf,g]
      have d_:Q.fieldsOf t=fs:=by rw[g]at O;simpa using O.symm
      refine⟨.agg ((us.drop off).take U.length).toArray,.agg ((W.drop off).take U.length).toArray,?_,?_,?_⟩
      .simp[part,K,dq a_,ag3]
      .simp[part,K,dq a_,ag3]
      .rw[run_equalIn_struct w D t _ _ O (by simpa using e9),d_];have key:∀(l:List Field) (k:Nat) (I:List CK) (b2:Bool),jz.rD (jz Q d) k l=aa I->∀(A B:List Value) (F H:List C),
         sA I (F.drop k) (H.drop k)=aa b2->A2 (CR σ X) F A->A2 (CR σ X) H B->(Op.eqFields D A.toArray B.toArray l).run Q w=.ok b2 w:=by
        intro l;induction l with
        |nil=>
         intro k I b2 z A B F H E _ _;simp only[jz.rD,At]at z;subst z;have:=uC E;simp only[List.length_nil,List.length_eq_zero_iff]at this;rw[this.1,this.2]at E;simp only[sA,At]at E;subst E;simp[Op.eqFields]
        |cons f l ih=>
         intro k I b2 z A B F H E b9 b_;simp only[jz.rD]at z;split at z
         .rename_i N;obtain⟨hn,ho⟩:=N;subst ho;split at z
          .rename_i J M;split at z
           .rename_i r hr;simp only[At]at z;subst z;obtain⟨b1,b3,c_,d9,rfl⟩:=vJ E;obtain⟨a,c,h5,h6,h7⟩:=CA d f.type J M D (by omega) A B f.offset _ _ b1 w c_ (by have:=(b9.drop f.offset).take J.length;simpa using this) (by have:=(b_.drop f.offset).take J.length;simpa using this);have g_:=ih (f.offset+J.length) r b3 hr A B F H (by simpa[List.drop_drop]using d9) b9 b_;simp only[Op.eqFields,hn,ne_eq,not_false_eq_true,if_true,Sem.run_bind,h5,h6,h7,Result.andThen_ok];cases b1<;>simp[g_]
           .simp at z
          .simp at z
         .simp at z
       exact key fs.toList 0 U b hf _ _ xs ys (by simpa using L) hx hy
     .simp at h
    .simp at h
  .simp at h
def adx:FR->Value->Bool->Prop
 | .ptr,u,b=>∃a,u=.pointer a/\b=a.isNone| .sl,u,b=>∃a n c,u=.slice a n c/\b=a.isNone| .fn,u,b=>(u=.nilFunc/\b=ae)\/∃f p q,u=.func f p q/\b=ag| .Rn,u,b=>u=.nilIface/\b=ae| _,_,_=>False
theorem rI{k:FR}{x:C}{u:Value}(d:CR σ X x u){b:Bool}(h:isNil X.H k x=aa b):adx k u b:=by
 unfold isNil at h;split at h<;>try simp only[At,reduceCtorEq]at h
 .cases (d:cX σ X.F X.w .rP u);subst h;exact⟨_,rfl,rfl⟩
 .cases (d:cX σ X.F X.w (.fp _ _) u);subst h;exact⟨_,rfl,rfl⟩
 .obtain⟨L,_,d⟩:=d;subst h;split at d
  .subst d;exact⟨_,rfl,rfl⟩
  .obtain⟨_,_,a,rfl⟩:=d;exact⟨_,rfl,rfl⟩
  .exact d.elim
 .cases (d:cX σ X.F X.w .aK u);subst h;exact⟨_,_,_,rfl,rfl⟩
 .cases (d:cX σ X.F X.w .es u);subst h;exact⟨_,_,_,rfl,rfl⟩
 .cases (d:cX σ X.F X.w (.fs _ _) u)<;>(subst h;exact⟨_,_,_,rfl,rfl⟩)
 .rename_i q o l c ep sz;simp only[CR,fZ]at d;split at h
  .rename_i g;rw[g]at d;obtain⟨L,_,_,rfl⟩:=d;simp only[At]at h;subst h;exact⟨_,_,_,rfl,rfl⟩
  .rename_i s cs fl e m g;rw[g]at d;split at h
   .rename_i j;have:=d.2.1 j.1 j.2;simp only[At]at h;subst h;cases m with
    |loc=>obtain⟨L,_,k,_,_,rfl⟩:=this;exact⟨_,_,_,rfl,rfl⟩
    |nil=>obtain⟨_,_,rfl⟩:=this;exact⟨_,_,_,rfl,rfl⟩
    |es=>obtain⟨_,_,a,rfl⟩:=this;exact⟨_,_,_,rfl,rfl⟩
   .simp at h
  .simp at h
 .cases (d:cX σ X.F X.w .tw u);subst h;exact .inl ⟨rfl,rfl⟩
 .cases (d:cX σ X.F X.w (.fn _ _) u);subst h;exact .inr ⟨_,_,_,rfl,rfl⟩
 .obtain⟨us,rfl,_⟩:=d;subst h;exact .inr ⟨_,_,_,rfl,rfl⟩
 .obtain⟨us,rfl,_⟩:=d;subst h;exact .inr ⟨_,_,_,rfl,rfl⟩
 .cases (d:cX σ X.F X.w .oi u);subst h;exact⟨rfl,rfl⟩
theorem Cz{d:Nat}{t:TypeId}{b:List CK}(h:jz Q d t=aa b):dJ Q t b.length=ae:=by
 cases d with
 |zero=>simp[jz]at h
 |succ d=>
  unfold jz at h;split at h
  .split at h
   .simp only[At]at h;subst h;assumption
   .simp at h
  .split at h
   .simp only[At]at h;subst h;assumption
   .simp at h
  .split at h
   .simp only[At]at h;subst h;assumption
   .simp at h
  .split at h
   .simp at h
   .split at h
    .split at h
     .simp only[At]at h;subst h;assumption
     .simp at h
    .simp at h
  .simp at h
theorem NL{t e:TypeId}(b:Q.underlying t=aa (.pointer e))(D:Nat)(a:Option Addr)(w:World):(Op.equalIn (D+1) t (.pointer a) (.pointer ab)).run Q w=.ok a.isNone w:=by
 cases a<;>simp[Op.equalIn,bl b]
theorem Q5{t e:TypeId}(b:Q.underlying t=aa (.slice e))(D:Nat)(a:Option Addr)(n c:Nat)(w:World):(Op.equalIn (D+1) t (.slice a n c) (.slice ab 0 0)).run Q w=.ok a.isNone w:=by
 cases a<;>simp[Op.equalIn,bl b]
theorem Q3{t:TypeId}{p r:Array TypeId}{v:Bool}(b:Q.underlying t=aa (.func p r v))(D:Nat)(w:World):(Op.equalIn (D+1) t .nilFunc .nilFunc).run Q w=.ok ae w:=by
 simp[Op.equalIn,bl b]
theorem Q2{t:TypeId}{p r:Array TypeId}{v:Bool}(b:Q.underlying t=aa (.func p r v))(D:Nat)(f:Fn)(x y:Array Value)(w:World):(Op.equalIn (D+1) t (.func f x y) .nilFunc).run Q w=.ok ag w:=by
 simp[Op.equalIn,bl b]
theorem Q4{t:TypeId}{d:Array (String × TypeId)}(b:Q.underlying t=aa (.interface d))(D:Nat)(w:World):(Op.equalIn (D+1) t .nilIface .nilIface).run Q w=.ok ae w:=by
 simp[Op.equalIn,bl b]
theorem Jm{t:TypeId}{x y:Operand}(b:(tT x||tT y)=ae)(op:BinOp)(w:World):(eqGuard op t x y .nilIface .nilIface).run Q w=.ok () w:=by
 simp only[Bool.or_eq_true]at b;rcases b with b|b
 .cases x<;>simp only[tT,afR]at b;cases op<;>rfl
 .cases y<;>simp only[tT,afR]at b;cases x<;>cases op<;>rfl
theorem W0{k:FR}{t:TypeId}{x y:Operand}(v:mEq Q k t x y=ae){H I:V}{l d:Value}(s:VR σ X H l)(u:VR σ X I d){b:Bool}
  (h:Dk X.H k H I=aa b) (neg:Bool) (w:World) :
  (do eqGuard (if neg then .neq else .eql) t x y l d;binOp (if neg then .neq else .eql) t l d).run Q w=.ok (.bool (if neg then !b else b)) w:=by
 have g:(binOp .eql t l d=do pure (.bool (<-Op.equal t l d)))->(binOp .neq t l d=do pure (.bool (!(<-Op.equal t l d))))->
   (∀op,(eqGuard op t x y l d).run Q w=.ok () w)->(Op.equalIn 10000 t l d).run Q w=.ok b w->
   (do eqGuard (if neg then .neq else .eql) t x y l d;binOp (if neg then .neq else .eql) t l d).run Q w=.ok (.bool (if neg then !b else b)) w:=by
  intro B E z N;cases neg
  .simp only[afR,if_false,Sem.run_bind,z,Result.andThen_ok,B,Op.equal,Op.maxDepth,N,Sem.run_pure]
  .simp only[if_true,Sem.run_bind,z,Result.andThen_ok,E,Op.equal,Op.maxDepth,N,Sem.run_pure]
 unfold mEq at v;unfold Dk at h;split at v
 .rename_i j;split at h<;>try simp only[reduceCtorEq]at *
  obtain⟨p,q,rfl,rfl,rfl⟩:=uD h s u;exact g rfl rfl (λop=>by cases op<;>rfl) (run_equalIn_bool' w 9999 t _ _ j)
 .rename_i j;split at h<;>try simp only[reduceCtorEq]at *
  obtain⟨a,rfl,rfl⟩:=rI s h;cases (u:cX σ X.F X.w .rP d);exact g rfl rfl (λop=>by cases op<;>rfl) (NL j 9999 a w)
 .rename_i j;split at h<;>try simp only[reduceCtorEq]at *
  obtain⟨a,n,c,rfl,rfl⟩:=rI s h;cases (u:cX σ X.F X.w .aK d);exact g rfl rfl (λop=>by cases op<;>rfl) (Q5 j 9999 a n c w)
 .rename_i j;split at h<;>try simp only[reduceCtorEq]at *
  cases (u:cX σ X.F X.w .tw d);rcases rI s h with⟨rfl,rfl⟩|⟨f,p,q,rfl,rfl⟩
  .exact g rfl rfl (λop=>by cases op<;>rfl) (Q3 j 9999 w)
  .exact g rfl rfl (λop=>by cases op<;>rfl) (Q2 j 9999 f p q w)
 .rename_i j;split at h<;>try simp only[reduceCtorEq]at *
  cases (u:cX σ X.F X.w .oi d);obtain⟨rfl,rfl⟩:=rI s h;refine g rfl rfl (λop=>?_) ?_
  .have M:(tT x||tT y)=ae:=v;exact Jm M op w
  .exact Q4 j 9999 w
 .rename_i e F j;obtain⟨xs,ys,rfl,rfl,h⟩:∃xs ys,H=.a xs/\I=.a ys/\sA F xs ys=aa b:=by
   cases H<;>cases I<;>first|exact⟨_,_,rfl,rfl,h⟩|simp at h
  simp only[afE,decide_eq_true_eq,Bool.not_eq_true']at v;obtain⟨W,U⟩:=v;obtain⟨us,rfl,O⟩:=s;obtain⟨J,rfl,S⟩:=u;have i:=uC h;have A:=Cz W;have m:(isAgg t).run Q w=.ok ae w:=by simp[isAgg,bl j]
  have Y:us.take F.length=us:=afM (by have:=O.len;omega);have Z:J.take F.length=J:=afM (by have:=S.len;omega);obtain⟨a,c,B,E,z⟩:=CA 20 t F W 10000 (by omega) us J 0 _ _ b w h (by simpa[Y]using O) (by simpa[Z]using S);have K:a=.agg us.toArray:=by
   simp[part,m,dq A,ag3,Y]at B;exact B.symm
  have L:c=.agg J.toArray:=by
   simp[part,m,dq A,ag3,Z]at E;exact E.symm
  subst K;subst L;cases neg
  .simp only[afR,if_false,Sem.run_bind,run_eqGuard_agg w _ t x y _ _ U,Result.andThen_ok,run_eql_struct,z]
  .simp only[if_true,Sem.run_bind,run_eqGuard_agg w _ t x y _ _ U,Result.andThen_ok,run_neq_struct,z]
 .simp at v
end
section
variable{Q:Program}{σ:Nat->FuncId}{X:Wd}
theorem kS{x:V}{u:Value}(h:VR σ X x u){i:Int}(hi:kQ x=aa i):∃k,u=.int k i:=by
 unfold kQ at hi;split at hi
 .simp only[At]at hi;subst hi;exact⟨_,VR.int h⟩
 .simp at hi
theorem sR{x:V}{u:Value}(h:VR σ X x u){y i:Nat}(b:BF x y=aa i){g:Nat}(q:y<=g)(d:BoundsCode)(w:World) :
  i<=y/\(Instr.sliceBound u g d).run Q w=.ok i w:=by
 unfold BF at b;split at b
 .rename_i j l;obtain⟨k,rfl⟩:=kS h l;split at b
  .rename_i m;simp only[At]at b;subst b;refine⟨by omega,?_⟩;have:0<=j/\j<=(g:Int):=by omega
   simp[Instr.sliceBound,asIntOf,this]
  .simp at b
 .simp at b
def OR(X:Wd)(σ:Nat->FuncId):Option V->Option Value->Prop
 |none,ab=>True| some x,aa u=>VR σ X x u| _,_=>False
theorem dQ{lo hi mx:Option V}{d j mx':Option Value}(v:OR X σ lo d)(A:OR X σ hi j)(F:OR X σ mx mx'){len c l h m:Nat}
  (b:ch len c lo hi mx=aa (l,h,m)) {cap:Nat} (J:c<=cap) (M:len<=c) (s:Bool) (w:World) :
  (Instr.sliceBounds s len cap d j mx').run Q w=.ok (l,h,if mx.isSome then m else cap) w/\l<=h/\h<=m/\m<=c:=by
 unfold ch at b;cases mx with
 |some z=>
  cases mx'<;>simp only[OR]at F;rename_i O;simp only[ahu,af3]at b;obtain⟨N,K,b⟩:=b;obtain⟨L,E⟩:=sR (Q:=Q) F K J (if s then .slice3Acap else .slice3Alen) w;cases hi with
  |none=>simp at b
  |some y=>
   cases j<;>simp only[OR]at A;simp only[agr,af3]at b;obtain⟨h0,H,b⟩:=b;obtain⟨I,g⟩:=sR (Q:=Q) A H (afJ _) .slice3B w;cases lo with
   |none=>
    cases d<;>simp only[OR]at v;simp at b;obtain⟨rfl,rfl,rfl⟩:=b;simp[Instr.sliceBounds,E,g];omega
   |some x=>
    cases d<;>simp only[OR]at v;simp only[af3]at b;obtain⟨l0,q,b⟩:=b;obtain⟨B,u⟩:=sR (Q:=Q) v q (afJ _) .slice3C w;simp at b;obtain⟨rfl,rfl,rfl⟩:=b;simp[Instr.sliceBounds,E,g,u];omega
 |none=>
  cases mx'<;>simp only[OR]at F;cases hi with
  |none=>
   cases j<;>simp only[OR]at A;cases lo with
   |none=>
    cases d<;>simp only[OR]at v;simp at b;obtain⟨rfl,rfl,rfl⟩:=b;simp[Instr.sliceBounds];omega
   |some x=>
    cases d<;>simp only[OR]at v;simp only[ahu,agr,af3]at b;obtain⟨l0,q,b⟩:=b;obtain⟨B,u⟩:=sR (Q:=Q) v q (afJ _) .sliceB w;simp at b;obtain⟨rfl,rfl,rfl⟩:=b;simp[Instr.sliceBounds,u];omega
  |some y=>
   cases j<;>simp only[OR]at A;simp only[ahu,agr,af3]at b;obtain⟨h0,H,b⟩:=b;obtain⟨I,g⟩:=sR (Q:=Q) A H J (if s then .sliceAcap else .sliceAlen) w;cases lo with
   |none=>
    cases d<;>simp only[OR]at v;simp at b;obtain⟨rfl,rfl,rfl⟩:=b;simp[Instr.sliceBounds,g];omega
   |some x=>
    cases d<;>simp only[OR]at v;simp only[af3]at b;obtain⟨l0,q,b⟩:=b;obtain⟨B,u⟩:=sR (Q:=Q) v q (afJ _) .sliceB w;simp at b;obtain⟨rfl,rfl,rfl⟩:=b;simp[Instr.sliceBounds,g,u];omega
theorem eT{t e:TypeId}{sz:Nat}(g:Q.underlying t=aa (.slice e))(b:dJ Q e sz=ae){a:Option Addr}{len cap:Nat}{lo hi mx:Option Value}{l h m:Nat}{w:World}
  (d:(Instr.sliceBounds ae len cap lo hi mx).run Q w=.ok (l,h,m) w) :
  (Instr.sliceAt t (.slice a len cap) lo hi mx).run Q w=.ok (.slice (if m=l then a else a.map (·.add (l*sz))) (h-l) (m-l)) w:=by
 simp[Instr.sliceAt,Instr.slice,bl g,d,dq b]
theorem zD(hS:SR Q σ X){t e:TypeId}{sz:Nat}(g:Q.underlying t=aa (.slice e))(j:dJ Q e sz=ae){x:V}{u:Value}(F:VR σ X x u)
  {lo hi mx:Option V} {b9 a9 mx':Option Value} (H:OR X σ lo b9) (I:OR X σ hi a9) (J:OR X σ mx mx') {v:V} (h:ea X.H sz x lo hi mx=aa v) :
  ∃r,(Instr.sliceAt t u b9 a9 mx').run Q X.w=.ok r X.w/\VR σ X v r:=by
 unfold ea at h;split at h
 .
  split at h
  .rename_i r z;obtain⟨l,y,m⟩:=r;simp only[At]at h;subst h;cases (F:cX σ X.F X.w .aK u);obtain⟨q,K,N,O⟩:=dQ (Q:=Q) H I J z (afJ 0) (afJ 0) ae X.w;refine⟨_,eT g j q,?_⟩;have:l=0/\y=0/\m=0:=by omega
   obtain⟨rfl,rfl,rfl⟩:=this;simp;exact cX.aK
  .simp at h
 .split at h
  .rename_i r z;obtain⟨l,y,m⟩:=r;simp only[At]at h;subst h;cases (F:cX σ X.F X.w .es u);obtain⟨q,K,N,O⟩:=dQ (Q:=Q) H I J z (afJ 0) (afJ 0) ae X.w;refine⟨_,eT g j q,?_⟩;have:l=0/\y=0/\m=0:=by omega
   obtain⟨rfl,rfl,rfl⟩:=this;simp;exact cX.es _
  .simp at h
 .
  rename_i cs n;split at h
  .rename_i l y m z;have d_:(∃(c o cap:Nat) (us:List Value),n<=cap/\us.length=cs.length/\(∀i,i<cs.length->X.F c (o+i))/\(∀(i:Nat) u,us[i]?=aa u->X.w.cell? ⟨c,o+i,ab⟩=aa u)/\
     (∀(i:Nat) x u,cs[i]?=aa x->us[i]?=aa u->cX σ X.F X.w x u)/\u=.slice (aa ⟨c,o,ab⟩) n cap)\/(cs=[]/\n=0/\∃a cap,u=.slice (aa a) 0 cap):=by
    cases (F:cX σ X.F X.w (.fs cs n) u)with
    |fs _ _ c o cap us d hl hF hc hr=>exact .inl ⟨c,o,cap,us,d,hl,hF,hc,hr,rfl⟩| Tb a cap=>exact .inr ⟨rfl,rfl,a,cap,rfl⟩
   rcases d_ with⟨c,o,cap,us,d,hl,hF,hc,hr,rfl⟩|⟨rfl,rfl,a,cap,rfl⟩
   .obtain⟨q,K,N,O⟩:=dQ (Q:=Q) H I J z d (afJ n) ae X.w;split at h
    .rename_i B;simp only[At]at h;subst h;rw[bu B.1]at q;obtain⟨_,rfl⟩:=B;refine⟨_,eT g j q,?_⟩;rw[show y-m=0 by omega,show m-m=0 by omega,bu rfl];exact cX.es _
    .simp only[At]at h;subst h;refine⟨_,eT g j q,?_⟩;generalize S:(if mx.isSome=ae then m else cap)=M;have b_:y<=M:=by rw[<-S];split<;>omega
     by_cases E:M=l
     .rw[bu E,show y-l=0 by omega];simp;exact cX.Tb _ _
     .rw[bG E];simp only[agv,ew];refine cX.fs _ _ c (o+l*sz) _ ((us.drop (l*sz)).take ((y-l)*sz)) (by omega) (by simp[hl]) (λi hi=>?_) (λi u g=>?_) (λi x u F g=>?_)
      .have:=hF (l*sz+i) (by simp at hi;omega);rwa[show o+(l*sz+i)=o+l*sz+i by omega]at this
      .rw[ago]at g;split at g
       .rw[af0]at g;have:=hc _ u g;rwa[show o+(l*sz+i)=o+l*sz+i by omega]at this
       .simp at g
      .rw[ago]at g F;split at g
       .rename_i hi;rw[bu hi]at F;rw[af0]at g F;exact hr _ x u F g
       .simp at g
   .obtain⟨q,K,N,O⟩:=dQ (Q:=Q) H I J z (Nat.zero_le cap) (afJ 0) ae X.w;have:l=0/\y=0/\m=0:=by omega
    obtain⟨rfl,rfl,rfl⟩:=this;refine⟨_,eT g j q,?_⟩;split at h
    .rename_i B;simp only[At]at h;subst h;simp[B.1];exact cX.es _
    .simp only[At]at h;subst h;have ho:∀M,∃a',(if M=0 then aa a else Option.map (λ(x:Addr)=>x.add (0*sz)) (aa a))=aa a':=by intro M;split<;>exact⟨_,rfl⟩
     obtain⟨a',U⟩:=ho (if mx.isSome=ae then 0 else cap);rw[U];simp;exact cX.Tb _ _
  .simp at h
 .
  rename_i b o n cap ep s;simp only[VR,iS,CR,fZ]at F;split at h
  .rename_i A;rw[A]at F;obtain⟨L,Z,d,rfl⟩:=F;split at h
   .rename_i l y m z;obtain⟨q,K,N,O⟩:=dQ (Q:=Q) H I J z (afJ cap) d ae X.w;have hm:(if mx.isSome=ae then m else cap)=m:=by
     split
     .rfl
     .rename_i hn;cases mx with
      |some _=>simp at hn| none=>unfold ch at z;cases hi<;>cases lo<;>simp[af3]at z<;>omega
    rw[hm]at q;refine⟨_,eT g j q,?_⟩;split at h
    .rename_i E;simp only[At]at h;subst h;rw[bu E,show y-l=0 by omega,show m-l=0 by omega];exact cX.es _
    .rename_i E;simp only[At]at h;subst h;rw[bG E];simp only[agv,ew,VR,iS,CR,fZ,A];exact⟨L,Z,by omega,rfl⟩
   .simp at h
  .rename_i s' cs fl e st A;rw[A]at F;split at h
   .rename_i hc;obtain⟨rfl,rfl,rfl⟩:=hc;have Y:=F.2.1 rfl rfl;cases st with
    |loc=>
     obtain⟨L,Z,k,rfl,hk,rfl⟩:=Y;simp only at h;split at h
     .rename_i l y m z;obtain⟨q,K,N,O⟩:=dQ (Q:=Q) H I J z (show n<=L.cap-k by omega) (afJ n) ae X.w;refine⟨_,eT g j q,?_⟩;generalize S:(if mx.isSome=ae then m else L.cap-k)=M;have b_:y<=M:=by rw[<-S];split<;>omega
      split at h
      .rename_i B;simp only[At]at h;subst h;rw[bu B.1]at S;subst S;obtain⟨_,rfl⟩:=B;rw[show y-m=0 by omega,show m-m=0 by omega,bu rfl];exact cX.es _
      .split at h
       .rename_i B;simp only[At]at h;subst h;rw[show y-l=0 by omega];have ho:∃a',(if M=l then aa (⟨L.c,k*s',ab⟩:Addr)else Option.map (λ(x:Addr)=>x.add (l*s')) (aa ⟨L.c,k*s',ab⟩))=aa a':=by split<;>exact⟨_,rfl⟩
        obtain⟨a',U⟩:=ho;rw[U];exact cX.Tb _ _
       .rename_i e9;split at h
        .split at h
         .simp only[At]at h;subst h;simp only[VR,iS,CR,fZ,A];exact⟨afJ _,λ_ e=>by omega,_,_,_,rfl⟩
         .simp at h
        .rename_i hn;simp only[At]at h;subst h;rw[bG hn]at S;have W:(if M=l then aa (⟨L.c,k*s',ab⟩:Addr)else Option.map (λ(x:Addr)=>x.add (l*s')) (aa ⟨L.c,k*s',ab⟩))=aa ⟨L.c,k*s'+l*s',ab⟩:=by
          split
          .have:l=0:=by omega
           subst this;simp
          .simp[ew]
         rw[W];simp only[VR,iS,CR,fZ,A];refine⟨afJ _,λ_ _=>⟨L,Z,k+l,by rw[agn],by omega,by rw[<-S];congr 1;omega⟩,_,_,_,rfl⟩
     .
      cases mx with
      |some _=>simp at h
      |none=>
       simp only at h;split at h
       .rename_i l y m z;split at h
        .rename_i d9;simp only[At]at h;subst h;obtain⟨_,_,bz,a8,c_⟩:=hS.br b L Z;rw[A]at a8;cases a8;obtain⟨-,us,rest,-,hA,a_,f7,-,-⟩:=c_;have e_:cs.length<=L.cap*s':=by rw[<-a_,afK,<-hA.1];omega
         have d:(cs.length-k*s') / s'<=L.cap-k:=by
          refine Nat.div_le_of_le_mul ?_;rw[Nat.mul_sub,Nat.mul_comm s' L.cap,Nat.mul_comm s' k];omega
         obtain⟨q,K,N,O⟩:=dQ (Q:=Q) H I J z d d9.1 ae X.w;refine⟨_,eT g j q,?_⟩;simp only[Option.isSome_none,afR,if_false,agv,ew];rw[bG (by omega)];simp only[VR,iS,CR,fZ,A];refine⟨afJ _,λ_ _=>⟨L,Z,k+l,by rw[agn],by omega,by congr 1;omega⟩,_,_,_,rfl⟩
        .simp at h
       .simp at h
    |nil=>
     obtain⟨rfl,rfl,rfl⟩:=Y;simp only at h;split at h
     .rename_i r z;obtain⟨l,y,m⟩:=r;simp only[At]at h;subst h;obtain⟨q,K,N,O⟩:=dQ (Q:=Q) H I J z (afJ 0) (afJ 0) ae X.w;refine⟨_,eT g j q,?_⟩;have:l=0/\y=0/\m=0:=by omega
      obtain⟨rfl,rfl,rfl⟩:=this;simp;exact cX.aK
     .simp at h
    |es=>
     obtain⟨rfl,rfl,a,rfl⟩:=Y;simp only at h;split at h
     .rename_i r z;obtain⟨l,y,m⟩:=r;simp only[At]at h;subst h;obtain⟨q,K,N,O⟩:=dQ (Q:=Q) H I J z (afJ 0) (afJ 0) ae X.w;refine⟨_,eT g j q,?_⟩;have:l=0/\y=0/\m=0:=by omega
      obtain⟨rfl,rfl,rfl⟩:=this;simp;exact cX.es _
     .simp at h
   .simp at h
  .simp at h
 .simp at h
end
section
variable{Q:Program}{σ:Nat->FuncId}{X:Wd}
theorem Kx{t:TypeId}(A:Q.underlying t=aa .string){x:V}{u:Value}(B:VR σ X x u){lo hi:Option V}{d b:Option Value}(g:OR X σ lo d)(j:OR X σ hi b)
  {v:V} (h:wZ x lo hi=aa v) (w:World):∃r,(Instr.sliceAt t u d b ab).run Q w=.ok r w/\VR σ X v r:=by
 unfold wZ at h;split at h
 .rename_i s;have:=VR.str B;subst this;split at h
  .rename_i l z m y;simp only[At]at h;subst h;obtain⟨q,_⟩:=dQ (Q:=Q) (mx:=ab) (mx':=ab) g j trivial y (afJ _) (afJ _) ag w;exact⟨.string (s.extract l z),by simp[Instr.sliceAt,Instr.slice,bl A,q],VR.mkStr _⟩
  .simp at h
 .simp at h
theorem Kv(Z:SR Q σ X){t e:TypeId}{n sz:Nat}(g:Q.underlying t=aa (.array n e))(E:dJ Q e sz=ae){x:V}{u:Value}(q:VR σ X x u)
  {lo hi mx:Option V} {z y mx':Option Value} (F:OR X σ lo z) (H:OR X σ hi y) (I:OR X σ mx mx') {v:V} (h:mH X.H n sz x lo hi mx=aa v) :
  ∃r,(Instr.sliceAt t u z y mx').run Q X.w=.ok r X.w/\VR σ X v r:=by
 have run:∀(a:Addr) l j m,(Instr.sliceBounds ag n n z y mx').run Q X.w=.ok (l,j,m) X.w->
   (Instr.sliceAt t (.pointer (aa a)) z y mx').run Q X.w=.ok (.slice (aa (if m=l then a else a.add (l*sz))) (j-l) (m-l)) X.w:=by
  intro a l j m s;simp[Instr.sliceAt,bl g,Instr.sureAddr,s,dq E]
 have mm:∀{l j m:Nat},ch n n lo hi mx=aa (l,j,m)->(if mx.isSome=ae then m else n)=m:=by
  intro l j m s;split
  .rfl
  .rename_i W;cases mx with
   |some _=>simp at W| none=>unfold ch at s;cases hi<;>cases lo<;>simp[af3]at s<;>omega
 unfold mH at h;split at h
 .rename_i b off ep;obtain⟨L,O,q⟩:=q;split at h
  .rename_i cs fl B;rw[B]at q;simp only at q;subst q;split at h
   .rename_i l j m s;obtain⟨A,J,K,M⟩:=dQ (Q:=Q) F H I s (afJ n) (afJ n) ag X.w;rw[mm s]at A;split at h
    .refine⟨_,run _ _ _ _ A,?_⟩;split at h
     .rename_i d;simp only[At]at h;subst h;rw[bu d,show j-l=0 by omega,show m-l=0 by omega];exact cX.es _
     .rename_i d;simp only[At]at h;subst h;rw[bG d];simp only[ew,VR,iS,CR,fZ,B];exact⟨L,O,by omega,rfl⟩
    .simp at h
   .simp at h
  .simp at h
 .rename_i cs off;cases (q:cX σ X.F X.w (.fp cs off) u)with
  |fp _ _ c o us U N S Y=>
   split at h
   .rename_i l j m s;obtain⟨A,J,K,M⟩:=dQ (Q:=Q) F H I s (afJ n) (afJ n) ag X.w;rw[mm s]at A;split at h
    .refine⟨_,run _ _ _ _ A,?_⟩;split at h
     .rename_i d;simp only[At]at h;subst h;rw[bu d,show j-l=0 by omega,show m-l=0 by omega];exact cX.es _
     .rename_i d;simp only[At]at h;subst h;rw[bG d,ew];refine cX.fs _ _ c (o+off+l*sz) _ ((us.drop (off+l*sz)).take ((j-l)*sz)) (by omega) (by simp[U]) (λi hi=>?_) (λi u g=>?_) (λi x u q g=>?_)
      .have:=N (off+l*sz+i) (by simp at hi;omega);rwa[show o+(off+l*sz+i)=o+off+l*sz+i by omega]at this
      .rw[ago]at g;split at g
       .rw[af0]at g;have:=S _ u g;rwa[show o+(off+l*sz+i)=o+off+l*sz+i by omega]at this
       .simp at g
      .rw[ago]at g q;split at g
       .rename_i hi;rw[bu hi]at q;rw[af0]at g q;exact Y _ x u q g
       .simp at g
    .simp at h
   .simp at h
 .simp at h
theorem Er{t:TypeId}{l:Array Field}(I:Q.underlying t=aa (.struct l)){i:Nat}{f:Field}(E:l[i]?=aa f)(j:(Q.info? f.type).any (λi=>i.size != 0)=ae)
  {x:V} {u:Value} (g:VR σ X x u) {v:V} (h:kI f.offset x=aa v) (w:World):∃r,(Instr.fieldAt t u i).run Q w=.ok r w/\VR σ X v r:=by
 have run:∀a:Addr,(Instr.fieldAt t (.pointer (aa a)) i).run Q w=.ok (.pointer (aa (a.add f.offset))) w:=by
  intro a;cases hi:Q.info? f.type with
  |none=>simp[hi]at j
  |some J=>
   simp[hi]at j;simp[Instr.fieldAt,bl I,E,Instr.sureAddr,fieldPlace,Go.sizeOf,typeInfo,hi,j]
 unfold kI at h;split at h
 .rename_i b o ep;simp only[At]at h;subst h;obtain⟨L,m,g⟩:=g;split at g
  .rename_i d;subst g;exact⟨_,run _,L,m,by rw[d,ew]⟩
  .rename_i s cs fl e d;obtain⟨q,y,a,rfl⟩:=g;refine⟨_,run _,L,m,?_⟩;rw[d];refine⟨q,λB=>?_,_,rfl⟩;have:=y B;simp only[Value.pointer.injEq,At]at this;rw[this,ew]
  .exact g.elim
 .rename_i cs o;simp only[At]at h;subst h;cases (g:cX σ X.F X.w (.fp cs o) u)with
  |fp _ _ c o' us F z A H=>
   refine⟨_,run _,?_⟩;rw[ew,Nat.add_assoc];exact cX.fp cs _ c o' us F z A H
 .simp at h
theorem ED{t e:TypeId}{sz:Nat}{q:Option Nat}(I:dJ Q e sz=ae)
  (H:(q=ab/\Q.underlying t=aa (.slice e))\/∃n,q=aa n/\Q.underlying t=aa (.array n e)) {x i:V} {u j:Value} (m:VR σ X x u) (hi:VR σ X i j)
  {v:V} (h:bw X.H sz q x i=aa v):∃r,(Instr.indexAt t u j).run Q X.w=.ok r X.w/\VR σ X v r:=by
 unfold bw at h;split at h
 .simp at h
 rename_i k Z;obtain⟨O,rfl⟩:=kS hi Z;split at h
 .rename_i h0;have z:q=ab->∀(a:Addr) (l c:Nat),k<l->(Instr.indexAt t (.slice (aa a) l c) (.int O k)).run Q X.w=.ok (.pointer (aa (a.add (k.toNat*sz)))) X.w:=by
   intro J a l c g;rcases H with⟨_,H⟩|⟨n,A,_⟩
   .simp[Instr.indexAt,asIntOf,bl H,h0,g,dq I]
   .rw[J]at A;simp at A
  have y:∀n,q=aa n->∀(a:Addr),k<n->(Instr.indexAt t (.pointer (aa a)) (.int O k)).run Q X.w=.ok (.pointer (aa (a.add (k.toNat*sz)))) X.w:=by
   intro n J a g;rcases H with⟨A,_⟩|⟨n',A,H⟩
   .rw[J]at A;simp at A
   .rw[J]at A;simp only[At]at A;subst A;simp[Instr.indexAt,asIntOf,bl H,Instr.sureAddr,h0,g,dq I]
  split at h
  .rename_i b o l c ep s;split at h
   .rename_i g;simp only[VR,iS,CR,fZ]at m;split at h
    .rename_i d;rw[d]at m;obtain⟨L,E,_,rfl⟩:=m;simp only[At]at h;subst h;exact⟨_,z rfl _ _ _ g,L,E,by rw[d,ew]⟩
    .rename_i s' cs fl S d;rw[d]at m;split at h
     .rename_i F;simp only[At]at h;subst h;obtain⟨L,E,kq,_,_,rfl⟩:=m.2.1 F.1 F.2;exact⟨_,z rfl _ _ _ g,L,E,by rw[d,ew];exact⟨m.1,λ_=>rfl,_,rfl⟩⟩
     .simp at h
    .simp at h
   .simp at h
  .rename_i cs l;split at h
   .rename_i g;simp only[At]at h;subst h;cases (m:cX σ X.F X.w (.fs cs l) u)with
    |fs _ _ c o cap us N B K F M=>
     refine⟨_,z rfl _ _ _ g,?_⟩;rw[ew];exact cX.fp cs _ c o us B K F M
    |Tb a cap=>simp at g;omega
   .simp at h
  .rename_i n b o ep;split at h
   .rename_i g;simp only[At]at h;subst h;obtain⟨L,E,m⟩:=m;split at m
    .rename_i d;subst m;exact⟨_,y n rfl _ g,L,E,by rw[d,ew]⟩
    .rename_i s cs fl S d;obtain⟨U,W,a,rfl⟩:=m;refine⟨_,y n rfl _ g,L,E,?_⟩;rw[d];refine⟨U,λY=>?_,_,rfl⟩;have:=W Y;simp only[Value.pointer.injEq,At]at this;rw[this,ew]
    .exact m.elim
   .simp at h
  .rename_i n cs o;split at h
   .rename_i g;simp only[At]at h;subst h;cases (m:cX σ X.F X.w (.fp cs o) u)with
    |fp _ _ c o' us B K F M=>
     refine⟨_,y n rfl _ g,?_⟩;rw[ew,Nat.add_assoc];exact cX.fp cs _ c o' us B K F M
   .simp at h
  .simp at h
 .simp at h
theorem xk{t:TypeId}{n:Option Nat}(s:xi Q t n=ae){xs:List C}{us:List Value}(l:A2 (CR σ X) xs us)(off:Nat){v:V}(b:aO n (xs.drop off)=aa v)(w:World) :
  ∃u,(part t us.toArray off).run Q w=.ok u w/\VR σ X v u:=by
 obtain⟨m,q⟩:=G2 s w;cases n with
 |none=>
  cases d:xs.drop off with
  |nil=>rw[d]at b;simp[aO]at b
  |cons x cs=>
   rw[d]at b;simp only[aO,At]at b;subst b;obtain⟨u,y,j⟩:=(l.drop off).get (i:=0) (x:=x) (by rw[d];rfl);have g:us[off]?=aa u:=by simpa[af0]using y
   exact⟨u,by simp[part,m,g],j⟩
 |some n=>
  simp only[aO]at b;split at b
  .simp only[At]at b;subst b;exact⟨.agg ((us.drop off).take n).toArray,by simp[part,m,dq (q n rfl),ag3],_,rfl,(l.drop off).take n⟩
  .simp at b
theorem Jd{t:TypeId}{b:Array Field}(q:Q.underlying t=aa (.struct b)){i:Nat}{f:Field}(l:b[i]?=aa f){n:Option Nat}(m:xi Q f.type n=ae)
  {x:V} {u:Value} (s:VR σ X x u) {v:V} (h:ko f.offset n x=aa v) (w:World):∃r,(Instr.field t u i).run Q w=.ok r w/\VR σ X v r:=by
 unfold ko at h;split at h
 .obtain⟨us,rfl,d⟩:=s;obtain⟨r,g,j⟩:=xk m d f.offset h w;exact⟨r,by simp[Instr.field,bl q,l,asAgg,g],j⟩
 .simp at h
theorem N2{t e:TypeId}{len sz:Nat}(y:Q.underlying t=aa (.array len e))(b:dJ Q e sz=ae){n:Option Nat}(s:xi Q e n=ae)
  {x i:V} {u j:Value} (z:VR σ X x u) (hi:VR σ X i j) {v:V} (h:Ca len sz n x i=aa v) (w:World):∃r,(Instr.index t u j).run Q w=.ok r w/\VR σ X v r:=by
 unfold Ca at h;split at h
 .rename_i xs k q;obtain⟨A,rfl⟩:=kS hi q;split at h
  .rename_i m;obtain⟨us,rfl,d⟩:=z;obtain⟨r,g,l⟩:=xk s d _ h w;exact⟨r,by simp[Instr.index,asIntOf,bl y,m,dq b,g],l⟩
  .simp at h
 .simp at h
theorem N3{t:TypeId}(l:Q.underlying t=aa .string){x i:V}{u j:Value}(m:VR σ X x u)(hi:VR σ X i j){v:V}(h:Cb x i=aa v)(w:World) :
  ∃r,(Instr.index t u j).run Q w=.ok r w/\VR σ X v r:=by
 unfold Cb at h;split at h
 .rename_i s k g;obtain⟨q,rfl⟩:=kS hi g;have:=VR.str m;subst this;split at h
  .rename_i h0;simp only[afF]at h;obtain⟨b,d,rfl⟩:=h;exact⟨_,by simp[Instr.index,asIntOf,bl l,h0,d],VR.mkInt _ _⟩
  .simp at h
 .simp at h
end
section
variable{Q:Program}{σ:Nat->FuncId}{X:Wd}
theorem A2.bp{α β:Type}{R:α->β->Prop}{cs xs:List α}{us d:List β}(h:A2 R cs us)(b:A2 R xs d)(off:Nat):A2 R (bp cs off xs) (bp us off d):=by
 unfold Km.bp;rw[b.len];exact((h.take off).append b).append (h.drop _)
theorem Cw{α:Type}(cs:List α)(off:Nat)(xs:List α)(h:off+xs.length<=cs.length):(bp cs off xs).length=cs.length:=by
 simp[bp];omega
theorem B8(off:Nat):∀(d:List Value) (k:Nat) (b:List Value),off+k+d.length<=b.length->
  ((d.zipIdx k).foldl (λ(cs:Array Value) p=>cs.setIfInBounds (off+p.2) p.1) b.toArray)=(bp b (off+k) d).toArray
 |[],k,b,_=>by simp[bp]
 |v::d,k,b,h=>by
  simp only[List.zipIdx_cons,ag7];have g:b.toArray.setIfInBounds (off+k) v=(b.set (off+k) v).toArray:=by simp
  rw[g,B8 off d (k+1) _ (by simp at h ⊢;omega)]
  congr 1
  unfold bp;simp only[agm]at h ⊢;rw[List.take_set,List.drop_set_of_lt (by omega),show off+(k+1)=off+k+1 by omega,show off+k+1+d.length=off+k+(d.length+1) by omega];rw[agh (by omega)];have j:(List.take (off+k) b).length=off+k:=by simp;omega
  have e:(List.take (off+k) b++[b[off+k]]).set (off+k) v=List.take (off+k) b++[v]:=by
   rw[List.set_append,bG (by omega),j];simp
  rw[e];simp
theorem rq{x:V}{u:Value}(b:VR σ X x u){xs:List C}(h:x.cells?=aa xs):∃us,u.cells=us.toArray/\A2 (CR σ X) xs us:=by
 unfold V.cells? at h;split at h
 .rename_i x;simp only[At]at h;subst h;have d:=CR.one σ b;refine⟨[u],?_,A2.cons b A2.nil⟩;cases u<;>simp_all [Value.cells,Value.oneCell']
 .simp only[At]at h;subst h;obtain⟨us,rfl,h⟩:=b;exact⟨us,rfl,h⟩
 .simp at h
theorem pC{a:Act}{aF:T}(v:RR σ X aF a.tmps){place:Nat->Option (Nat × Nat)}:∀{qs:List (Nat × Nat × Arg)} {ps:List (Nat × Operand)},
  A2 (λ(q:Nat × Nat × Arg) (p:Nat × Operand)=>place p.1=aa (q.1,q.2.1)/\mA σ q.2.2 p.2=ae) qs ps->∀{cs cs':List C} {us:List Value},A2 (CR σ X) cs us->
  dO aF cs qs=aa cs'->∃d,Instr.fill place us.toArray (ps.map λp=>(p.1,a.eval p.2))=aa d.toArray/\A2 (CR σ X) cs' d
 |[],[],_,cs,cs',us,h,b=>by
  simp only[dO,At]at b;subst b;exact⟨us,rfl,h⟩
 |[],_::_,g,_,_,_,_,_=>by have:=g.len;simp at this
 |_::_,[],g,_,_,_,_,_=>by have:=g.len;simp at this
 |(off,n,x)::qs,(i,y)::ps,g,cs,cs',us,h,b=>by
  obtain⟨⟨s,u⟩,l⟩:=g.of_cons;simp only at s u;simp only[dO]at b;split at b
  .rename_i xs m;split at b
   .rename_i H;obtain⟨F,E,j⟩:=rq (cf v u) m;obtain⟨d,z,A⟩:=pC v l (h.bp j off) b;refine⟨d,?_,A⟩;have I:=j.len;have B:=h.len;simp only[List.map_cons,Instr.fill,s,E];rw[bG (by simp;omega)];rw[<-z]
    congr 1
    have:=B8 off F 0 us (by omega);simp only[ahc]at this;rw[<-this];simp[<-Array.foldl_toList]
   .simp at b
  .simp at b
theorem fG{t:TypeId}{zs:List FC}(h:nk Q t zs=ae)(w:World):∃z us,(zeroValue t).run Q w=.ok z w/\z.cells=us.toArray/\A2 (CR σ X) (zs.map .f) us/\
  ∃i,Q.info? t=aa i/\i.zero=aa z:=by
 unfold nk at h;cases hi:Q.info? t with
 |none=>simp[hi]at h
 |some i=>
  simp only[hi,Option.any_some]at h;split at h
  .rename_i z d;refine⟨z,z.cells.toList,by simp[zeroValue,typeInfo,hi,d],by simp,A2.map ((ff h).nm λx u b=>ER b),i,rfl,d⟩
  .simp at h
end
section
variable{Q:Program}{σ:Nat->FuncId}{X:Wd}
theorem nF{b:CK}{t:TypeId}(h:JG Q b t=ae):(b=.int/\∃j,Q.underlying t=aa (.int j))\/(b=.str/\Q.underlying t=aa .string)\/(b=.bool/\Q.underlying t=aa .bool):=by
 unfold JG at h;split at h
 .exact .inl ⟨rfl,_,by assumption⟩
 .exact .inr (.inl ⟨rfl,by assumption⟩)
 .exact .inr (.inr ⟨rfl,by assumption⟩)
 .simp at h
theorem vI{l:CK}{d:TypeDesc}(m:(l=.int/\∃j,d=.int j)\/(l=.str/\d=.string)\/(l=.bool/\d=.bool)){F:Nat->Nat->Prop}{w:World}{x y:FC}{u v:Value}
  (q:cX σ F w x u) (s:cX σ F w y v) {b:Bool} (h:YI l x y=aa b):Instr.sameNow d u v=aa b:=by
 unfold YI at h;split at h
 .cases q;cases s;rcases m with⟨_,j,rfl⟩|⟨g,_⟩|⟨g,_⟩
  .simpa[Instr.sameNow]using h
  .cases g
  .cases g
 .cases q;cases s;rcases m with⟨g,_⟩|⟨_,rfl⟩|⟨g,_⟩
  .cases g
  .simpa[Instr.sameNow]using h
  .cases g
 .cases q;cases s;rcases m with⟨g,_⟩|⟨g,_⟩|⟨_,rfl⟩
  .cases g
  .cases g
  .simpa[Instr.sameNow]using h
 .simp at h
theorem zj{l:CK}{d:TypeDesc}(q:(l=.int/\∃j,d=.int j)\/(l=.str/\d=.string)\/(l=.bool/\d=.bool)){F:Nat->Nat->Prop}{w:World}{k:FC}{B:Value}(v:cX σ F w k B) :
  ∀{R:C->Value->Prop} {y:List (FC × C)} {b:List MapEntry},A2 (λe m=>cX σ F w e.1 m.key/\R e.2 m.val) y b->∀{r:Option C} (i:Nat),oR l k y=aa r->
  match r with
  |none=>Instr.findNow d B b i=aa ab| some x=>∃j u,Instr.findNow d B b i=aa (aa (j,u))/\R x u
 |_,[],[],_,r,i,h=>by
  simp only[oR,At]at h;subst h;rfl
 |_,[],_::_,g,_,_,_=>by have:=g.len;simp at this
 |_,_::_,[],g,_,_,_=>by have:=g.len;simp at this
 |_,e::y,m::b,g,r,i,h=>by
  obtain⟨⟨z,E⟩,A⟩:=g.of_cons;simp only[oR]at h;split at h
  .rename_i s;simp only[At]at h;subst h;exact⟨i,m.val,by simp[Instr.findNow,vI q v z s],E⟩
  .rename_i s;have:=zj q v A (i+1) h;cases r with
   |none=>simpa[Instr.findNow,vI q v z s]using this| some x=>obtain⟨j,u,H,I⟩:=this;exact⟨j,u,by simp[Instr.findNow,vI q v z s,H],I⟩
  .simp at h
theorem jM{l:CK}{t:TypeId}(h:JG Q l t=ae){k:FC}{F:Nat->Nat->Prop}{q:World}{g:Value}(m:cX σ F q k g)(hi:isKey l k=ae)(b:Bool)(w:World) :
  (Instr.checkKey b 10000 t g).run Q w=.ok () w:=by
 have:∀n,(Instr.checkKey b (n+1) t g).run Q w=.ok () w:=by
  intro n;rcases nF h with⟨rfl,j,d⟩|⟨rfl,d⟩|⟨rfl,d⟩<;>cases m<;>simp_all [isKey,Instr.checkKey,bl d]
 exact this 9999
theorem EH{z:FC}{r:Option C}{u:Value}{ok:Bool}(b:ok=(tn z).isSome)(h:iS σ X ((r.map mV).getD (zV ((tn z).getD z))) u):VR σ X (To z r) (if ok=ae then .tuple #[u,.bool r.isSome]else u):=by
 unfold To;cases d:tn z with
 |none=>rw[d]at h b;subst b;exact VR.Qg σ h| some g=>rw[d]at h b;subst b;exact⟨[u,.bool r.isSome],rfl,A2.cons h (A2.cons (cX.bool _) A2.nil)⟩
theorem JD(hS:SR Q σ X){t kt e:TypeId}{J:CK}(Y:Q.underlying t=aa (.map kt e))(K:JG Q J kt=ae){z:FC}{ok:Bool}(H:ok=(tn z).isSome)(hz:nk Q e (tJ ((tn z).getD z))=ae)
  (l:(Q.info? e).any (λi=>i.zero.any λu=>if FM ((tn z).getD z)then WG u else XN u)=ae) {m k:V} {um uk:Value} (hm:VR σ X m um) (s:VR σ X k uk) {v:V} (h:gR X.H J z m k=aa v) :
  ∃u,(Instr.lookup t um uk ok).run Q X.w=.ok u X.w/\VR σ X v u:=by
 obtain⟨I,zs,M,A,B,i0,U,W⟩:=fG (σ:=σ) (X:=X) hz X.w;have N:iS σ X (zV ((tn z).getD z)) I:=by
  simp only[U,Option.any_some,W]at l;generalize (tn z).getD z=z0 at *;cases O:FM z0 with
  |true=>
   rw[Yy O];simp only[O,if_true]at l;cases I with
   |agg cs=>exact⟨zs,by simp only[Value.cells]at A;rw[A],B⟩
   |_=>simp[WG]at l
  |false=>
   obtain⟨e1,e2⟩:=Yz O;rw[e1];rw[e2]at B;simp only[O,afR,if_false]at l;obtain⟨u,Z,a8⟩:=B.get (i:=0) (x:=.f z0) rfl;have hl:=B.len;have a9:zs=[u]:=by
    match zs,hl,Z with
    |[y],_,h=>simp at h;rw[h]
   subst a9;cases I with
   |agg cs=>simp[XN]at l| _=>simp only[Value.cells]at A;have:=congrArg Array.toList A;simp at this;subst this;exact a8
 unfold gR at h;split at h
 .rename_i kc;split at h
  .rename_i q;simp only[At]at h;subst h;cases (hm:cX σ X.F X.w .xI um);refine⟨if ok=ae then .tuple #[I,.bool ag]else I,?_,EH (r:=ab) H N⟩;rcases nF K with⟨_,j,g⟩|⟨_,g⟩|⟨_,g⟩ <;>
    simp[Instr.lookup,bl Y,jM K s q,Instr.findKey,bl g,Instr.findNow,M]
  .simp at h
 .rename_i b kc;split at h
  .rename_i es hb;split at h
   .rename_i q;simp only[afF]at h;obtain⟨r,hr,rfl⟩:=h;obtain⟨L,hL,_,rfl⟩:=hm;obtain⟨_,_,bz,F,S⟩:=hS.br b L hL;rw[hb]at F;simp only[At]at F;subst F;obtain⟨a_,h1,h2,_⟩:=S;have go:∀d,Q.underlying kt=aa d->((J=.int/\∃j,d=.int j)\/(J=.str/\d=.string)\/(J=.bool/\d=.bool))->∃u,(Instr.lookup t (.map (aa L.c)) uk ok).run Q X.w=.ok u X.w/\VR σ X (To z r) u:=by
     intro d g hd;have h3:=zj (R:=λc u=>iS σ X (mV c) u) hd s h2 0 hr;cases r with
     |none=>
      refine⟨if ok=ae then .tuple #[I,.bool ag]else I,?_,EH (r:=ab) H N⟩;simp[Instr.lookup,bl Y,getObj,Sem.run,h1,jM K s q,Instr.findKey,bl g,h3,M]
     |some x=>
      obtain⟨j,u,E,h5⟩:=h3;refine⟨if ok=ae then .tuple #[u,.bool ae]else u,?_,EH (r:=aa x) H h5⟩;simp[Instr.lookup,bl Y,getObj,Sem.run,h1,jM K s q,Instr.findKey,bl g,E]
    rcases nF K with⟨E,j,g⟩|⟨E,g⟩|⟨E,g⟩
    .exact go _ g (.inl ⟨E,j,rfl⟩)
    .exact go _ g (.inr (.inl ⟨E,rfl⟩))
    .exact go _ g (.inr (.inr ⟨E,rfl⟩))
   .simp at h
  .simp at h
 .simp at h
end
section
variable{Q:Program}{σ:Nat->FuncId}{X:Wd}
theorem ey{s:Sem Value}{u:Value}{w w':World}(h:s.run Q w=.ok u w'):(do pure (Next.value (<-s)):Sem Next).run Q w=.ok (.value u) w':=by simp[h]
theorem tM{a:Act}{aF:T}(b:RR σ X aF a.tmps){x:Option Arg}{y:Option Operand}(h:mO σ x y=ae):OR X σ (x.map (·.ev aF)) (y.map a.eval):=by
 rcases aa_ b h with⟨rfl,rfl⟩|⟨g,j,rfl,rfl,d⟩
 .trivial
 .exact d
theorem jH{t:TypeId}{p:TypeId->Bool}(h:(oH Q t).any p=ae):∃e,Q.underlying t=aa (.slice e)/\p e=ae:=by
 unfold oH at h;split at h
 .exact⟨_,by assumption,by simpa using h⟩
 .simp at h
theorem kd{x:C}{u:Value}(b:CR σ X x u){l:Nat}(h:bo X.H x=aa l):∃a c,u=.slice a l c:=by
 unfold bo at h;split at h<;>try simp only[At,reduceCtorEq]at h
 .simp only[CR,fZ]at b;split at h
  .rename_i d;rw[d]at b;obtain⟨L,_,_,rfl⟩:=b;simp only[At]at h;subst h;exact⟨_,_,rfl⟩
  .rename_i s cs fl e j d;rw[d]at b;split at h
   .rename_i g;have:=b.2.1 g.1 g.2;simp only[At]at h;subst h;cases j with
    |loc=>obtain⟨L,_,k,_,_,rfl⟩:=this;exact⟨_,_,rfl⟩
    |nil=>obtain⟨_,rfl,rfl⟩:=this;exact⟨_,_,rfl⟩
    |es=>obtain⟨_,rfl,a,rfl⟩:=this;exact⟨_,_,rfl⟩
   .simp at h
  .simp at h
 .subst h;cases (b:cX σ X.F X.w .aK u);exact⟨_,_,rfl⟩
 .subst h;cases (b:cX σ X.F X.w .es u);exact⟨_,_,rfl⟩
 .subst h;cases (b:cX σ X.F X.w (.fs _ _) u)<;>exact⟨_,_,rfl⟩
theorem nM(K:SR Q σ X){sz:Nat}{x:C}{u:Value}(y:CR σ X x u){l:Nat}(m:bo X.H x=aa l){cs:List C}(h:cR X.H sz x=aa cs) :
  ∃us,(Builtin.firstCells sz l u).run Q X.w=.ok us.toArray X.w/\A2 (CR σ X) cs us/\cs.length=l*sz:=by
 have row:∀(c o:Nat) (us:List Value) (cap:Nat),us.length=l*sz->(∀(i:Nat) u,us[i]?=aa u->X.w.cell? ⟨c,o+i,ab⟩=aa u)->
   (Builtin.firstCells sz l (.slice (aa ⟨c,o,ab⟩) l cap)).run Q X.w=.ok us.toArray X.w:=by
  intro c o us cap g F;have:=run_loadCells_list (P:=Q) X.w ⟨c,o,ab⟩ us (λj v N=>by rw[ew];exact F j v N);rw[g]at this;simpa[Builtin.firstCells]using this
 unfold cR at h;split at h<;>try simp only[reduceCtorEq]at h
 .rename_i b o I cap ep s;simp only[CR,fZ]at y;simp only[bo]at m;split at h
  .rename_i cs' fl E;rw[E]at y m;simp only[At]at m;subst m;obtain⟨L,J,_,rfl⟩:=y;split at h
   .rename_i q;simp only[At]at h;subst h;obtain⟨_,_,bz,d,z⟩:=K.br b L J;rw[E]at d;simp only[At]at d;subst d;obtain⟨us,H,B,_⟩:=z;have:=B.len;refine⟨(us.drop o).take (I*sz),row _ _ _ _ (by simp;omega) (λi u g=>?_),(B.drop o).take _,by simp;omega⟩;rw[dD H];rw[ago]at g;split at g
    .rw[af0]at g;exact g
    .simp at g
   .simp at h
  .rename_i s' cs' fl e S E;rw[E]at y m;split at h
   .rename_i F;obtain⟨rfl,rfl,q⟩:=F;simp only[and_self,if_true,At]at m;subst m;simp only[At]at h;subst h;have A:=y.2.1 rfl rfl;cases S with
    |loc=>
     obtain⟨L,J,k,_,_,rfl⟩:=A;obtain⟨_,_,bz,d,z⟩:=K.br b L J;rw[E]at d;simp only[At]at d;subst d;obtain⟨_,us,rest,H,B,_⟩:=z;have:=B.len;refine⟨(us.drop o).take (I*sz),row _ _ _ _ (by simp;omega) (λi u g=>?_),(B.drop o).take _,by simp;omega⟩;rw[dD H];rw[ago]at g;split at g
     .rw[af0]at g;rw[afy (afD.1 g).1];exact g
     .simp at g
    |nil=>
     obtain⟨rfl,rfl,rfl⟩:=A;exact⟨[],by simp[Builtin.firstCells],by simpa using A2.nil,by simp⟩
    |es=>
     obtain⟨rfl,rfl,a,rfl⟩:=A;exact⟨[],by simp[Builtin.firstCells,loadCells,loadCellsFrom],by simpa using A2.nil,by simp⟩
   .simp at h
  .simp at h
 .simp only[At]at h;subst h;simp only[bo,At]at m;subst m;cases (y:cX σ X.F X.w .aK u);exact⟨[],by simp[Builtin.firstCells],A2.nil,by simp⟩
 .simp only[At]at h;subst h;simp only[bo,At]at m;subst m;cases (y:cX σ X.F X.w .es u);exact⟨[],by simp[Builtin.firstCells,loadCells,loadCellsFrom],A2.nil,by simp⟩
 .rename_i cs' I;simp only[bo,At]at m;subst m;split at h
  .rename_i q;simp only[At]at h;subst h;cases (y:cX σ X.F X.w (.fs cs' I) u)with
   |fs _ _ c o cap us M O U F H=>
    exact⟨us,row _ _ _ _ (by omega) F,A2.map ⟨by omega,H⟩,by simp;omega⟩
   |Tb a cap=>exact⟨[],by simp[Builtin.firstCells,loadCells,loadCellsFrom],A2.nil,by simp⟩
  .simp at h
theorem QU{v:V}{u:Value}(h:VR σ X v u){c:C}(l:oE v=aa c):fZ σ X c u:=by
 unfold oE at l;split at l
 .simp at l
 .simp at l
 .rename_i x q m;simp only[At]at l;subst l;cases x with
  |cl f j=>exact absurd rfl (q f j)| bm f j=>exact absurd rfl (m f j)| mi b=>exact h| f y=>exact h| ptr a b c=>exact h| sl a b c d e g=>exact h| yl b=>exact h| mp b=>exact h| it b=>exact h
 .simp at l
theorem BC{xs:List V}{us:List Value}(h:A2 (VR σ X) xs us){cs:List C}(b:aZ oE xs=aa cs):A2 (fZ σ X) cs us:=by
 induction xs generalizing us cs with
 |nil=>
  simp only[aZ,At]at b;subst b
  match us,h.len with
  |[],_=>exact A2.nil
 |cons x xs m=>
  match us,h with
  |u::us,h=>
   obtain⟨g,j⟩:=h.of_cons;simp only[aZ]at b;split at b
   .simp at b
   .rename_i y l;split at b
    .simp at b
    .rename_i ys d;simp only[At]at b;subst b;exact A2.cons (QU g l) (m j d)
  |[],h=>have:=h.len;simp at this
theorem dG{d:Operand->Value}{o:Oper}{c:Call}{b:Builtin}(j:o.op=.call c)(g:c.callee=.builtin b){r:Result Next}{w:World}
  (h:∀cs,(builtin b c.argTypes o.type cs (c.args.map d)).run Q w=r):(execOp d o).run Q w=r:=by
 simp only[execOp,j,resolve,g,Sem.run_bind,Sem.run_pure,Result.andThen_ok,invoke];exact h _
theorem xz{α:Type}{a:Array α}{x:α}(h:a.toList=[x]):a=#[x]:=by
 apply Array.ext';simp[h]
theorem QN{α:Type}{a:Array α}{x y:α}(h:a.toList=[x,y]):a=#[x,y]:=by
 apply Array.ext';simp[h]
theorem JF{c:Call}{x:Arg}(h:eh Q σ c (.len x)=ae):∃y t e,c.callee=.builtin .len/\c.args=#[y]/\c.argTypes=#[t]/\mA σ x y=ae/\Q.underlying t=aa (.slice e):=by
 simp only[eh]at h;split at h
 .rename_i y t b d g;simp only[afE]at h;have:=h.2;split at this
  .exact⟨y,t,_,b,xz d,xz g,h.1,by assumption⟩
  .simp at this
 .simp at h
theorem EN{c:Call}{x:Arg}(h:eh Q σ c (.lens x)=ae):∃y t,c.callee=.builtin .len/\c.args=#[y]/\c.argTypes=#[t]/\mA σ x y=ae/\Q.underlying t=aa .string:=by
 simp only[eh]at h;split at h
 .rename_i y t b d g;simp only[afE]at h;have:=h.2;split at this
  .exact⟨y,t,b,xz d,xz g,h.1,by assumption⟩
  .simp at this
 .simp at h
theorem EM{c:Call}{n:Nat}(h:eh Q σ c (.iP n)=ae):∃y t e,c.callee=.builtin .len/\c.args=#[y]/\c.argTypes=#[t]/\Q.underlying t=aa (.array n e):=by
 simp only[eh]at h;split at h
 .rename_i y t b d g;split at h
  .rename_i m e j;simp only[decide_eq_true_eq]at h;subst h;exact⟨y,t,e,b,xz d,xz g,j⟩
  .simp at h
 .simp at h
theorem EP{c:Call}{lo:Bool}{xs:List Arg}(h:eh Q σ c (.pW lo xs)=ae):c.callee=.builtin (if lo then .min else .max)/\Qe σ xs c.args=ae:=by
 simp only[eh]at h;split at h
 .rename_i b;exact⟨b,h⟩
 .rename_i b;exact⟨b,h⟩
 .simp at h
theorem Ot{lo:Bool}{x y z:V}{u v:Value}(b:VR σ X x u)(d:VR σ X y v)(h:zf lo x y=aa z)(w:World):∃r,(if lo then Builtin.min2 u v else Builtin.max2 u v).run Q w=.ok r w/\VR σ X z r:=by
 unfold zf at h;split at h
 .simp only[At]at h;subst h;have b:=VR.int b;have d:=VR.int d;subst b;subst d;cases lo
  .exact⟨_,by simp[Builtin.max2],VR.mkInt _ _⟩
  .exact⟨_,by simp[Builtin.min2],VR.mkInt _ _⟩
 .simp at h
theorem Cm{lo:Bool}(w:World):∀{ys:List V} {d:List Value} {x z:V} {u:Value},VR σ X x u->A2 (VR σ X) ys d->tX lo x ys=aa z->∃r,(d.foldlM (λu v=>if lo then Builtin.min2 u v else Builtin.max2 u v) u).run Q w=.ok r w/\VR σ X z r
 |[],d,x,z,u,g,b,h=>by
  have:d=[]:=afV b.len.symm;subst this;simp only[tX,At]at h;subst h;exact⟨u,rfl,g⟩
 |y::ys,[],x,z,u,g,b,h=>by have:=b.len;simp at this
 |y::ys,v::d,x,z,u,g,b,h=>by
  obtain⟨A,b⟩:=b.of_cons;simp only[tX]at h;split at h
  .rename_i q B;obtain⟨E,j,l⟩:=Ot (Q:=Q) g A B w;obtain⟨r,m,s⟩:=Cm w l b h;exact⟨r,by rw[List.foldlM_cons,Sem.run_bind,j];exact m,s⟩
  .simp at h
theorem JE{c:Call}{x:Arg}(h:eh Q σ c (.cap x)=ae):∃y t e,c.callee=.builtin .cap/\c.args=#[y]/\c.argTypes=#[t]/\mA σ x y=ae/\Q.underlying t=aa (.slice e):=by
 simp only[eh]at h;split at h
 .rename_i y t g j l;simp only[afE]at h;obtain⟨m,d⟩:=h;split at d
  .rename_i e b;exact⟨y,t,e,g,xz j,xz l,m,b⟩
  .simp at d
 .simp at h
theorem PA{x:C}{u:Value}(d:CR σ X x u){n:Nat}(h:kE X.H x=aa n):∃a l,u=.slice a l n:=by
 cases x with
 |sl b o l c ep sz=>
  simp only[kE]at h;simp only[CR,fZ]at d;split at h
  .rename_i g;rw[g]at d;obtain⟨L,_,_,rfl⟩:=d;simp only[At]at h;subst h;exact⟨_,_,rfl⟩
  .rename_i g;rw[g]at d;split at h
   .rename_i j;have:=d.2.1 j.1 j.2;simp only[At]at h;subst h;obtain⟨_,_,rfl⟩:=this;exact⟨_,_,rfl⟩
   .simp at h
  .rename_i g;rw[g]at d;split at h
   .rename_i j;have:=d.2.1 j.1 j.2;simp only[At]at h;subst h;obtain⟨_,_,a,rfl⟩:=this;exact⟨_,_,rfl⟩
   .simp at h
  .simp at h
 |f y=>
  cases y<;>simp only[kE,At,reduceCtorEq]at h
  .subst h;cases (d:cX σ X.F X.w .aK u);exact⟨_,_,rfl⟩
  .subst h;cases (d:cX σ X.F X.w .es u);exact⟨_,_,rfl⟩
 |_=>simp[kE]at h
theorem GK(v:SR Q σ X){m:Nat}{L:Loc}(u:X.cI m=aa L){e:FC × C}(x:X.H[m]?=aa (.map [e])):∃d:MapEntry,X.w.heap[L.c]?=aa (.map #[d] 1)/\cX σ X.F X.w e.1 d.key/\iS σ X (mV e.2) d.val/\d.born=0:=by
 obtain⟨_,_,bz,g,l⟩:=v.br m L u;rw[x]at g;cases g;obtain⟨j,q,b,s⟩:=l
 match j,b with
 |[d],b=>exact⟨d,q,b.of_cons.1.1,b.of_cons.1.2,s 0 d rfl⟩| [],b=>have:=b.len;simp at this| _::_::_,b=>have:=b.len;simp at this
theorem Ja(q:SR Q σ X){x:V}{u:Value}(K:VR σ X x u){v:V}(h:ny X.H x=aa v):∃r,(Instr.entry u).run Q X.w=.ok r X.w/\VR σ X v r:=by
 unfold ny at h;split at h
 .rename_i b;obtain⟨L,H,_,rfl⟩:=K;split at h
  .rename_i m s I;split at h
   .rename_i e J;simp only[At]at h;subst h;obtain⟨_,_,bz,d,j⟩:=q.br b L H;rw[I]at d;cases d;obtain⟨M,N,O,E,_,F,l⟩:=j;simp only[if_true]at l;obtain⟨rfl,rfl⟩:=l;obtain⟨g,y,z,A,B⟩:=GK q E J;refine⟨.tuple #[g.key,g.val],?_,[g.key,g.val],rfl,A2.cons z (A2.cons A A2.nil)⟩;simp[Instr.entry,getObj,Sem.run,F,y,B,Result.andThen]
   .simp at h
  .simp at h
 .simp at h
theorem BH:∀{cs:List C} {us:List Value} {d:List UInt8},A2 (CR σ X) cs us->aZ (λc=>match c with|C.f (.int .u8 n)=>aa (UInt8.ofNat n.toNat)|_=>ab) cs=aa d->
  ∃j:List Int,us=j.map (Value.int .u8)/\d=j.map λn=>UInt8.ofNat n.toNat
 |[],us,d,h,b=>by
  simp only[aZ,At]at b;subst b
  match us,h.len with
  |[],_=>exact⟨[],rfl,rfl⟩
 |c::cs,[],d,h,b=>by have:=h.len;simp at this
 |c::cs,u::us,d,h,b=>by
  obtain⟨m,q⟩:=h.of_cons;simp only[aZ]at b;split at b
  .simp at b
  .rename_i y g;split at b
   .simp at b
   .rename_i ys l;simp only[At]at b;subst b;obtain⟨j,rfl,rfl⟩:=BH q l;split at g
    .rename_i n;simp only[At]at g;subst g;cases (m:cX σ X.F X.w (.int .u8 n) u);exact⟨n::j,rfl,rfl⟩
    .simp at g
theorem foldl_push:∀(b:List Int) (s:ByteArray),b.foldl (λ(r:ByteArray) n=>r.push (UInt8.ofNat n.toNat)) s=⟨s.data++(b.map λn=>UInt8.ofNat n.toNat).toArray⟩
 |[],s=>by simp
 |n::b,s=>by
  rw[ag7,foldl_push b]
  congr 1
  simp[ByteArray.push]
theorem Nz(y:SR Q σ X){x:V}{u:Value}(q:VR σ X x u){v:V}(h:qe X.H x=aa v):∃r,(Conv.bytesToString u).run Q X.w=.ok r X.w/\VR σ X v r:=by
 unfold qe at h;split at h
 .rename_i x;split at h
  .rename_i l m;split at h
   .rename_i cs j;simp only[afF]at h;obtain⟨A,z,rfl⟩:=h;obtain⟨us,g,s,B⟩:=nM y q m j;obtain⟨d,c,rfl⟩:=kd q m;obtain⟨b,rfl,rfl⟩:=BH s z;refine⟨.string (b.foldl (λ(r:ByteArray) n=>r.push (UInt8.ofNat n.toNat)) ByteArray.empty),?_,?_⟩
    .cases d with
     |none=>
      simp only[Builtin.firstCells,Sem.run_pure,Result.ok.injEq,and_true]at g;have:b=[]:=by
       have:=congrArg Array.toList g;simpa using this.symm
      subst this;simp only[Conv.bytesToString,List.foldl_nil,List.map_nil,Sem.run_pure]
     |some d=>exact run_bytesToString X.w d l c b (by simpa[Builtin.firstCells]using g)
    .rw[foldl_push];rw[show(ByteArray.empty.data++(List.map (λn:Int=>UInt8.ofNat n.toNat) b).toArray)=(List.map (λn:Int=>UInt8.ofNat n.toNat) b).toArray from Array.empty_append];exact VR.mkStr _
   .simp at h
  .simp at h
 .simp at h
theorem Tv(hS:SR Q σ X){a:Act}{aF:T}(H:RR σ X aF a.tmps){o:Oper}{op:dd}(A:dZ Q σ o op=ae)(hc:cls op=.p\/cls op=.r)(e9:op.YN=ag){v:V}{H':aj}
  (h:bF aF X.H op=aa (v,H')):H'=X.H/\∃u,(execOp a.eval o).run Q X.w=.ok (.value u) X.w/\VR σ X v u:=by
 cases op<;>first|(simp only[cls,reduceCtorEq,or_self]at hc;done)|(simp[dd.YN]at e9;done)|clear e9
 case dr x=>
  simp only[bF,At,afG]at h;obtain⟨rfl,rfl⟩:=h;refine⟨rfl,?_⟩;simp only[dZ]at A;split at A
  .rename_i y E;exact⟨_,by simp[execOp,E],cf H A⟩
  .rename_i y E;exact⟨_,by simp[execOp,E],cf H A⟩
  .simp at A
 case pick c x y=>
  simp only[dZ]at A;split at A
  .rename_i c' x' y' E;simp only[afE]at A;simp only[bF]at h;have b9:=cf H A.1.1;split at h
   .rename_i b Z;rw[Z]at b9;have b9:=VR.bool b9;simp only[At,afG]at h;obtain⟨rfl,rfl⟩:=h;cases b
    .exact⟨rfl,_,by simp[execOp,E,b9,asBool],cf H A.2⟩
    .exact⟨rfl,_,by simp[execOp,E,b9,asBool],cf H A.1.2⟩
   .simp at h
  .simp at A
 case build zs qs=>
  simp only[dZ]at A;split at A
  .rename_i t ps E;simp only[afE]at A;simp only[bF,afF,afG]at h;obtain⟨cs,a9,rfl,rfl⟩:=h;obtain⟨z,us,i7,i8,i9,_⟩:=fG (σ:=σ) (X:=X) A.1 X.w;refine⟨rfl,?_⟩;have Z:=A.2;unfold On at Z;split at Z
   .rename_i fs K;split at Z
    .rename_i pl j8;obtain⟨c_,N,h6⟩:=pC (place:=(pl.toArray[·]?)) H ((ff Z).nm λq p W=>by
      simp only[afE,decide_eq_true_eq]at W;exact⟨by simpa using W.1,W.2⟩) i9 a9
     refine⟨.agg c_.toArray,?_,c_,rfl,h6⟩;have hp:=run_places (P:=Q) X.w fs.toList pl j8;simp only[execOp,E];refine ey ?_;simp[Instr.build,i7,bl K,Array.mapM_eq_mapM_toList,hp,i8];simp at N;simp[N]
    .simp at Z
   .rename_i n e K;split at Z
    .rename_i i_ hi;obtain⟨c_,N,h6⟩:=pC (place:=λi=>aa (i*i_.size,i_.size)) H ((ff Z).nm λq p W=>by
      simp only[afE,beq_iff_eq]at W;exact⟨by rw[W.1.2,W.1.1],W.2⟩) i9 a9
     refine⟨.agg c_.toArray,?_,c_,rfl,h6⟩;simp only[execOp,E];refine ey ?_;simp[Instr.build,i7,bl K,Go.sizeOf,typeInfo,hi,i8,N]
    .simp at Z
   .simp at Z
  .simp at A
 case load k x=>
  simp only[dZ]at A;split at A
  .rename_i t y E;simp only[afE]at A;simp only[bF,afF,afG]at h;obtain⟨v',F,rfl,rfl⟩:=h;obtain⟨u,J,M⟩:=Xw hS A.1 (cf H A.2) F;exact⟨rfl,u,by simp only[execOp,E];exact ey J,M⟩
  .simp at A
 case jx x=>
  simp only[dZ]at A;split at A
  .rename_i y E;have B:=cf H A;simp only[bF]at h;have e_:∀ad,a.eval y=.pointer (aa ad)->(execOp a.eval o).run Q X.w=.ok (.value (a.eval y)) X.w:=by
    intro ad a_;simp[execOp,E,a_]
   split at h
   .rename_i b off e Z;simp only[At,afG]at h;obtain⟨rfl,rfl⟩:=h;rw[Z]at B;have d_:=B;obtain⟨L,hL,B⟩:=B;split at B
    .exact⟨rfl,_,e_ _ B,d_⟩
    .obtain⟨_,_,ad,a_⟩:=B;exact⟨rfl,_,e_ _ a_,d_⟩
    .exact B.elim
   .rename_i cs off Z;simp only[At,afG]at h;obtain⟨rfl,rfl⟩:=h;rw[Z]at B;have d_:=B;have:∃ad,a.eval y=.pointer (aa ad):=by
     generalize a.eval y=u at B;cases (B:cX σ X.F X.w (.fp cs off) u);exact⟨_,rfl⟩
    obtain⟨ad,a_⟩:=this;exact⟨rfl,_,e_ _ a_,d_⟩
   .simp at h
  .simp at A
 case bin op x y=>
  simp only[dZ]at A;split at A
  .rename_i j5 t x' y' yt E;simp only[afE,decide_eq_true_eq]at A;obtain⟨⟨rfl,B⟩,S⟩:=A;simp only[bF,afF,afG]at h;obtain⟨v',F,rfl,rfl⟩:=h;have B:=cf H B;have S:=cf H S;refine⟨rfl,?_⟩;have guard:∀op,(∀xs,a.eval x'≠.agg xs)->a.eval x'≠.nilIface->(eqGuard op t x' y' (a.eval x') (a.eval y')).run Q X.w=.ok () X.w:=by
    intro op J M;cases op<;>simp[eqGuard]<;>(generalize a.eval x'=ux at *;cases ux<;>simp at J M ⊢)
   unfold ei at F;split at F
   .rename_i k n k' m J M;rw[J]at B;rw[M]at S;have B:=VR.int B;have S:=VR.int S;split at F
    .simp at F
    .rename_i A;simp only[At]at F;subst F;exact⟨_,by simp only[execOp,E];refine ey ?_;rw[Sem.run_bind,guard _ (by simp[B]) (by simp[B])];simp[B,S,binOp,Op.shift,A],VR.mkInt _ _⟩
   .rename_i k n k' m J M;rw[J]at B;rw[M]at S;have B:=VR.int B;have S:=VR.int S;split at F
    .simp at F
    .rename_i A;simp only[At]at F;subst F;exact⟨_,by simp only[execOp,E];refine ey ?_;rw[Sem.run_bind,guard _ (by simp[B]) (by simp[B])];simp[B,S,binOp,Op.shift,A],VR.mkInt _ _⟩
   .rename_i k n k' m _ _ J M;rw[J]at B;rw[M]at S;have B:=VR.int B;have S:=VR.int S;split at F
    .rename_i hk;subst hk;obtain⟨u,Y,O,N⟩:=QP (Q:=Q) (σ:=σ) (X:=X) F X.w;exact⟨u,by simp only[execOp,E];refine ey ?_;rw[Sem.run_bind,guard _ (by simp[B]) (by simp[B])];simp[B,S,N,Y],O⟩
    .simp at F
   .rename_i s1 s2 J M;rw[J]at B;rw[M]at S;have B:=VR.str B;have S:=VR.str S;obtain⟨u,Y,O⟩:=QR (Q:=Q) (σ:=σ) (X:=X) F X.w t;exact⟨u,by simp only[execOp,E];refine ey ?_;rw[Sem.run_bind,guard _ (by simp[B]) (by simp[B])];simp[B,S,Y],O⟩
   .simp at F
  .simp at A
 case eq neg k x y=>
  simp only[dZ]at A;split at A
  .rename_i j5 t x' y' yt E;simp only[afE,decide_eq_true_eq]at A;obtain⟨⟨⟨rfl,B⟩,S⟩,hk⟩:=A;simp only[bF,afF,afG]at h;obtain⟨b,F,rfl,rfl⟩:=h;refine⟨rfl,_,?_,VR.wg _⟩;simp only[execOp,E];exact ey (W0 hk (cf H B) (cf H S) F neg X.w)
  .simp at A
 case un op x=>
  simp only[dZ]at A;split at A
  .rename_i j5 t y E;simp only[afE,decide_eq_true_eq]at A;obtain⟨rfl,B⟩:=A;simp only[bF,afF,afG]at h;obtain⟨v',F,rfl,rfl⟩:=h;have B:=cf H B;refine⟨rfl,?_⟩;unfold PZ at F;split at F
   .rename_i k n J;rw[J]at B;have B:=VR.int B;simp only[At]at F;subst F;exact⟨_,by simp[execOp,E,B,Op.unary,Op.intArith],VR.mkInt _ _⟩
   .rename_i b J;rw[J]at B;have B:=VR.bool B;simp only[At]at F;subst F;exact⟨_,by simp[execOp,E,B,Op.unary],VR.wg _⟩
   .simp at F
  .simp at A
 case I' k x=>
  simp only[dZ]at A;split at A
  .rename_i s d y E;simp only[afE]at A;obtain⟨⟨B,hs⟩,hd⟩:=A;have B:=cf H B;simp only[bF]at h;split at h
   .rename_i q n J;rw[J]at B;have B:=VR.int B;simp only[At,afG]at h;obtain⟨rfl,rfl⟩:=h;split at hd
    .rename_i k' K;simp only[decide_eq_true_eq]at hd;subst hd;obtain⟨ds,j6⟩:=Option.isSome_iff_exists.1 hs;exact⟨rfl,_,by simp only[execOp,E];refine ey ?_;simp[convert,bl j6,bl K,B,Conv.intToInt],VR.mkInt _ _⟩
    .simp at hd
   .simp at h
  .simp at A
 case xC x=>
  simp only[dZ]at A;split at A
  .rename_i s d y E;simp only[afE]at A;obtain⟨B,hd⟩:=A;have B:=cf H B;simp only[bF]at h;split at h
   .rename_i q J;rw[J]at B;have B:=VR.str B;simp only[At,afG]at h;obtain⟨rfl,rfl⟩:=h;split at hd
    .rename_i f_ g_;exact⟨rfl,_,by simp only[execOp,E];refine ey ?_;simp[convert,bl f_,bl g_,B],VR.mkStr _⟩
    .simp at hd
   .simp at h
  .simp at A
 case tt f xs=>
  simp only[dZ]at A;split at A
  .rename_i g fst a8 E;simp only[afE,beq_iff_eq]at A;obtain⟨⟨I,rfl⟩,B⟩:=A;simp only[bF,afF,afG]at h;obtain⟨cs,a9,rfl,rfl⟩:=h;have:=BC (oO H B) a9;have i5:fst=#[]:=by simpa using I
   exact⟨rfl,.func (.func (σ f)) #[] (a8.map a.eval),by simp only[execOp,E,Instr.makeFunc,i5];exact ey (by simp),(a8.map a.eval).toList,congrArg _ Array.toArray_toList.symm,this⟩
  .simp at A
 case slice sz x lo hi mx=>
  simp only[dZ]at A;split at A
  .rename_i t y j4 i6 mx' E;simp only[afE,decide_eq_true_eq]at A;obtain⟨⟨⟨⟨⟨B,J⟩,M⟩,Y⟩,he⟩,hz⟩:=A;obtain⟨e,K,U⟩:=jH he;simp only[bF,afF,afG]at h;obtain⟨v',F,rfl,rfl⟩:=h;obtain⟨r,O,N⟩:=zD hS K U (cf H B) (tM H J) (tM H M) (tM H Y) F;exact⟨rfl,r,by simp only[execOp,E];exact ey O,N⟩
  .simp at A
 case pc n sz x lo hi mx=>
  simp only[dZ]at A;split at A
  .rename_i t y j4 i6 mx' E;simp only[afE,decide_eq_true_eq]at A;obtain⟨⟨⟨⟨⟨B,J⟩,M⟩,Y⟩,he⟩,hz⟩:=A;split at he
   .rename_i n' e K;simp only[afE,beq_iff_eq]at he;obtain⟨rfl,U⟩:=he;simp only[bF,afF,afG]at h;obtain⟨v',F,rfl,rfl⟩:=h;obtain⟨r,O,N⟩:=Kv hS K U (cf H B) (tM H J) (tM H M) (tM H Y) F;exact⟨rfl,r,by simp only[execOp,E];exact ey O,N⟩
   .simp at he
  .simp at A
 case qo x lo hi=>
  simp only[dZ]at A;split at A
  .rename_i t y j4 i6 E;simp only[afE]at A;obtain⟨⟨⟨B,J⟩,M⟩,he⟩:=A;split at he
   .rename_i K;simp only[bF,afF,afG]at h;obtain⟨v',F,rfl,rfl⟩:=h;obtain⟨r,O,N⟩:=Kx K (cf H B) (tM H J) (tM H M) F X.w;exact⟨rfl,r,by simp only[execOp,E,Option.map_none];exact ey O,N⟩
   .simp at he
  .simp at A
 case fL off x=>
  simp only[dZ]at A;split at A
  .rename_i t y i E;simp only[afE]at A;obtain⟨B,I⟩:=A;split at I
   .rename_i fs K;split at I
    .rename_i f f7;simp only[afE,beq_iff_eq]at I;obtain⟨rfl,hz⟩:=I;simp only[bF,afF,afG]at h;obtain⟨v',F,rfl,rfl⟩:=h;obtain⟨r,O,N⟩:=Er K f7 hz (cf H B) F X.w;exact⟨rfl,r,by simp only[execOp,E];exact ey O,N⟩
    .simp at I
   .simp at I
  .simp at A
 case field off n x=>
  simp only[dZ]at A;split at A
  .rename_i t y i E;simp only[afE]at A;obtain⟨B,I⟩:=A;split at I
   .rename_i fs K;split at I
    .rename_i f f7;simp only[afE,beq_iff_eq]at I;obtain⟨rfl,hz⟩:=I;simp only[bF,afF,afG]at h;obtain⟨v',F,rfl,rfl⟩:=h;obtain⟨r,O,N⟩:=Jd K f7 hz (cf H B) F X.w;exact⟨rfl,r,by simp only[execOp,E];exact ey O,N⟩
    .simp at I
   .simp at I
  .simp at A
 case ez sz h_ x i=>
  simp only[dZ]at A;split at A
  .rename_i t y j E;simp only[afE]at A;obtain⟨⟨B,hi⟩,I⟩:=A;simp only[bF,afF,afG]at h;obtain⟨v',F,rfl,rfl⟩:=h;have:∃e,dJ Q e sz=ae/\((h_=ab/\Q.underlying t=aa (.slice e))\/∃n,h_=aa n/\Q.underlying t=aa (.array n e)):=by
    split at I
    .rename_i e K;exact⟨e,I,.inl ⟨rfl,K⟩⟩
    .rename_i n e n' K;simp only[afE,beq_iff_eq]at I;obtain⟨rfl,U⟩:=I;exact⟨e,U,.inr ⟨_,rfl,K⟩⟩
    .simp at I
   obtain⟨e,U,K⟩:=this;obtain⟨r,O,N⟩:=ED U K (cf H B) (cf H hi) F;exact⟨rfl,r,by simp only[execOp,E];exact ey O,N⟩
  .simp at A
 case idxs x i=>
  simp only[dZ]at A;split at A
  .rename_i t y j E;simp only[afE]at A;obtain⟨⟨B,hi⟩,I⟩:=A;simp only[bF,afF,afG]at h;obtain⟨v',F,rfl,rfl⟩:=h;split at I
   .rename_i K;obtain⟨r,O,N⟩:=N3 K (cf H B) (cf H hi) F X.w;exact⟨rfl,r,by simp only[execOp,E];exact ey O,N⟩
   .simp at I
  .simp at A
 case xD n sz k x i=>
  simp only[dZ]at A;split at A
  .rename_i t y j E;simp only[afE]at A;obtain⟨⟨B,hi⟩,I⟩:=A;simp only[bF,afF,afG]at h;obtain⟨v',F,rfl,rfl⟩:=h;split at I
   .rename_i n' e K;simp only[afE,beq_iff_eq]at I;obtain⟨⟨rfl,U⟩,hk⟩:=I;obtain⟨r,O,N⟩:=N2 K U hk (cf H B) (cf H hi) F X.w;exact⟨rfl,r,by simp only[execOp,E];exact ey O,N⟩
   .simp at I
  .simp at A
 case lookup ck z m k=>
  simp only[dZ]at A;split at A
  .rename_i t m' k' ok E;simp only[afE,beq_iff_eq]at A;obtain⟨⟨⟨J,M⟩,j7⟩,I⟩:=A;simp only[bF,afF,afG]at h;obtain⟨v',F,rfl,rfl⟩:=h;split at I
   .rename_i kt e K;simp only[afE]at I;obtain⟨u,O,N⟩:=JD hS K I.1.1 j7 I.1.2 I.2 (cf H J) (cf H M) F;exact⟨rfl,u,by simp only[execOp,E];exact ey O,N⟩
   .simp at I
  .simp at A
 case extract x i=>
  simp only[dZ]at A;split at A
  .rename_i y j E;simp only[afE,beq_iff_eq]at A;obtain⟨B,rfl⟩:=A;have B:=cf H B;simp only[bF]at h;split at h
   .rename_i vs j_;rw[j_]at B;simp only[afF,afG]at h;obtain⟨v',F,rfl,rfl⟩:=h;obtain⟨us,d9,M⟩:=B;obtain⟨u,K,k_⟩:=M.get F;exact⟨rfl,u,by simp only[execOp,E];refine ey ?_;simp[Instr.extract,d9,K],VR.Qg σ k_⟩
   .simp at h
  .simp at A
 case iP n=>
  simp only[dZ]at A;split at A
  .rename_i c E;obtain⟨y,t,e,J,M,Y,K⟩:=EM A;simp only[bF,At,afG]at h;obtain⟨rfl,rfl⟩:=h;exact⟨rfl,_,dG E J (λcs=>by simp[builtin,M,Y,Builtin.len_,bl K,goInt]),VR.mkInt _ _⟩
  .simp at A
 case lens x=>
  simp only[dZ]at A;split at A
  .rename_i c E;obtain⟨y,t,J,M,Y,B,K⟩:=EN A;have B:=cf H B;simp only[bF]at h;split at h
   .rename_i s hs;rw[hs]at B;have B:=VR.str B;simp only[At,afG]at h;obtain⟨rfl,rfl⟩:=h;exact⟨rfl,_,dG E J (λcs=>by simp[builtin,M,Y,Builtin.len_,bl K,B,goInt]),VR.mkInt _ _⟩
   .simp at h
  .simp at A
 case len x=>
  simp only[dZ]at A;split at A
  .rename_i c E;obtain⟨y,t,e,J,M,Y,B,K⟩:=JF A;have B:=cf H B;simp only[bF]at h;split at h
   .rename_i z hz;rw[hz]at B;split at h
    .rename_i n hn;simp only[At,afG]at h;obtain⟨rfl,rfl⟩:=h;obtain⟨ad,cp,f8⟩:=kd B hn;exact⟨rfl,_,dG E J (λcs=>by simp[builtin,M,Y,Builtin.len_,bl K,f8,goInt]),VR.mkInt _ _⟩
    .simp at h
   .simp at h
  .simp at A
 case pW lo xs=>
  simp only[dZ]at A;split at A
  .rename_i c E;obtain⟨J,M⟩:=EP A;have hA:=oO H M;simp only[bF,afF,afG]at h;obtain⟨v',F,rfl,rfl⟩:=h;refine⟨rfl,?_⟩;unfold xH at F;split at F
   .simp at F
   .rename_i x ys l_;rw[l_]at hA
    match d9:(c.args.map a.eval).toList,hA with
    |[],hA=>have:=hA.len;simp at this
    |u::us,hA=>
     obtain⟨B,hA⟩:=hA.of_cons;obtain⟨r,g1,g2⟩:=Cm (Q:=Q) (lo:=lo) X.w B hA F;refine⟨r,dG E J (λcs=>?_),g2⟩;cases lo
     .simp only[afR,if_false]at g1 ⊢;have g1:(us.foldlM Builtin.max2 u).run Q X.w=.ok r X.w:=g1;have b_:List.map a.eval c.args.toList=u::us:=by simpa using d9
      simp[builtin,Builtin.max_,b_,g1]
     .simp only[if_true]at g1 ⊢;have g1:(us.foldlM Builtin.min2 u).run Q X.w=.ok r X.w:=g1;have b_:List.map a.eval c.args.toList=u::us:=by simpa using d9
      simp[builtin,Builtin.min_,b_,g1]
  .simp at A
 case cap x=>
  simp only[dZ]at A;split at A
  .rename_i c E;obtain⟨y,t,e,J,M,Y,B,K⟩:=JE A;have B:=cf H B;simp only[bF]at h;split at h
   .rename_i z hz;rw[hz]at B;split at h
    .rename_i n hn;simp only[At,afG]at h;obtain⟨rfl,rfl⟩:=h;obtain⟨ad,l,f8⟩:=PA B hn;exact⟨rfl,_,dG E J (λcs=>by simp[builtin,M,Y,Builtin.cap_,bl K,f8,goInt]),VR.mkInt _ _⟩
    .simp at h
   .simp at h
  .simp at A
 case entry x=>
  simp only[dZ]at A;split at A
  .rename_i y E;simp only[bF,afF,afG]at h;obtain⟨v',F,rfl,rfl⟩:=h;obtain⟨r,g1,g2⟩:=Ja hS (cf H A) F;exact⟨rfl,r,by simp only[execOp,E];exact ey g1,g2⟩
  .simp at A
 case tq f xs=>
  simp only[dZ]at A;split at A
  .rename_i g fst a8 E;simp only[afE,beq_iff_eq]at A;obtain⟨⟨I,rfl⟩,B⟩:=A;simp only[bF,afF,afG]at h;obtain⟨cs,a9,rfl,rfl⟩:=h;have:=BC (oO H B) a9;have i4:a8=#[]:=by simpa using I
   exact⟨rfl,.func (.func (σ f)) (fst.map a.eval) #[],by simp only[execOp,E,Instr.makeFunc,i4];exact ey (by simp),(fst.map a.eval).toList,by rw[Array.toArray_toList],this⟩
  .simp at A
 case call f args h'=>cases h'<;>simp[cls]at hc
 case xB x=>
  simp only[dZ]at A;split at A
  .rename_i s d y E;simp only[afE]at A;obtain⟨B,hd⟩:=A;have B:=cf H B;split at hd
   .rename_i e f_ g_;simp only[afE]at hd;have j9:Q.underlying e=aa (.int .u8):=by
     have:=hd.1;unfold aa4 at this;split at this
     .assumption
     .simp at this
    simp only[bF,afF,afG]at h;obtain⟨v',F,rfl,rfl⟩:=h;obtain⟨u,O,N⟩:=Nz hS B F;refine⟨rfl,u,?_,N⟩;simp only[execOp,E];refine ey ?_;simp only[convert,Sem.run_bind,bl f_,bl g_,Result.andThen_ok];have:∃ad l c,a.eval y=.slice ad l c:=by
     unfold qe at F;split at F
     .rename_i z hz;rw[hz]at B;split at F
      .rename_i l hl;obtain⟨ad,c,h⟩:=kd B hl;exact⟨_,_,_,h⟩
      .simp at F
     .simp at F
    obtain⟨ad,l,c,h6⟩:=this;rw[h6]at O ⊢;simp only[Sem.run_bind,bl j9,Result.andThen_ok,O]
   .simp at hd
  .simp at A
end
section
variable{Q:Program}{σ:Nat->FuncId}{X:Wd}
theorem SR.lt(d:SR Q σ X){b:Nat}{L:Loc}(h:X.cI b=aa L):b<X.H.length:=by
 obtain⟨_,_,bz,g,_⟩:=d.br b L h;exact(afD.1 g).1
theorem SR.tC(b:SR Q σ X):X.cI X.H.length=ab:=by
 cases h:X.cI X.H.length with
 |none=>rfl| some L=>have:=SR.lt b h;omega
theorem Ext.one(A:SR Q σ X){X':Wd}(b0:Nat)(y:X'.B=X.B)(v:∀c i,X'.F c i↔X.F c i)
  (x:∀k,k<X.w.heap.size->(∀L,X.cI b0=aa L->k≠L.c)->X'.w.heap[k]?=X.w.heap[k]?)
  (s:∀L i,X.cI b0=aa L->X.F L.c i->X'.w.cell? ⟨L.c,i,ab⟩=X.w.cell? ⟨L.c,i,ab⟩) (j:b0<X.H.length->nT X X' b0)
  (z:∀b,b≠b0->b<X.H.length->X'.H[b]?=X.H[b]?) (d:∀b,b≠b0->X'.cI b=X.cI b)
  (u:∀L,X'.cI b0=aa L->(∃q,X.cI b0=aa q/\q.c=L.c)\/X.w.heap.size<=L.c) (I:X.w.heap.size<=X'.w.heap.size) (ho:X'.w.os=X.w.os) (J:X'.w.tape=X.w.tape)
  (hu:X'.w.output=X.w.output):Ext X.H.length X X' where
 B:=y
 F:=λc i h=>(v c i).2 h
 re:=λc i h=>.inl ((v c i).1 h)
 fw:=λc i h=>by
  by_cases hc:∃L,X.cI b0=aa L/\c=L.c
  .obtain⟨L,g,rfl⟩:=hc;exact s L i g h
  .exact World.cell?_of_block (x c (A.fb c i h) λL g e=>hc ⟨L,g,e⟩)
 cZ:=λb l=>by
  by_cases h:b=b0
  .subst h;exact j l
  .intro bz m;refine⟨bz,(z b h l).trans m,?_⟩;have:∀L,X.cI b=aa L->X'.cI b=aa L:=λL g=>(d b h).trans g;cases bz<;>simp_all
 yZ:=λb L l=>by
  by_cases h:b=b0
  .subst h;rcases u L l with⟨q,h1,h2⟩|h1
   .exact .inl ⟨b,q,h1,h2⟩
   .exact .inr h1
  .rw[d b h]at l;exact .inl ⟨b,L,l,rfl⟩
 size:=I
 os:=ho
 tape:=J
 output:=hu
 frame:=λk E H=>x k E λL g e=>H b0 L g e.symm
theorem SR.grow(d:SR Q σ X)(bz:bB):SR Q σ { X with H:=X.H++[bz] }/\Ext X.H.length X { X with H:=X.H++[bz] }:=by
 have j:Ext X.H.length X { X with H:=X.H++[bz] }:=Ext.one d X.H.length rfl (λ_ _=>Iff.rfl) (λ_ _ _=>rfl) (λ_ _ _ _=>rfl) (λh=>by omega)
  (λb _ h=>by simp[afy h]) (λ_ _=>rfl) (λL h=>by rw[SR.tC d]at h;simp at h) (afJ _) rfl rfl rfl
 refine⟨⟨λb L g=>?_,d.inj,d.fb⟩,j⟩;obtain⟨h1,h2,blk',h3,h4⟩:=d.br b L g;exact⟨h1,h2,blk',by rw[afy (SR.lt d g)];exact h3,BR.ext Q σ j rfl (λ_ h=>h) h4⟩
structure ef(w w':World)(o:Obj):Prop where
 heap:w'.heap=w.heap.push o
 os:w'.os=w.os
 tape:w'.tape=w.tape
 output:w'.output=w.output
theorem ef.alloc(w:World)(o:Obj):ef w (w.alloc o) o:=⟨rfl,rfl,rfl,rfl⟩
theorem ef.Dm{w w':World}{o:Obj}(h:ef w w' o){k:Nat}(b:k<w.heap.size):w'.heap[k]?=w.heap[k]?:=by
 rw[h.heap,Array.getElem?_push,bG (by omega)]
theorem ef.new{w w':World}{o:Obj}(h:ef w w' o):w'.heap[w.heap.size]?=aa o:=by
 rw[h.heap];simp
theorem ef.size{w w':World}{o:Obj}(h:ef w w' o):w'.heap.size=w.heap.size+1:=by
 rw[h.heap];simp
theorem SR.fill(g:SR Q σ X)(y:X.B<=X.w.heap.size){n:Nat}{bz:bB}(z:X.H[n]?=aa bz)(v:X.cI n=ab){w':World}{o:Obj}(d:ef X.w w' o)(cap:Nat)
  (m:Ext X.H.length X { X with cI:=λb=>if b=n then aa ⟨X.w.heap.size,cap⟩else X.cI b,w:=w' }->BR Q σ { X with cI:=λb=>if b=n then aa ⟨X.w.heap.size,cap⟩else X.cI b,w:=w' } bz ⟨X.w.heap.size,cap⟩) :
  SR Q σ { X with cI:=λb=>if b=n then aa ⟨X.w.heap.size,cap⟩else X.cI b,w:=w' }/\Ext X.H.length X { X with cI:=λb=>if b=n then aa ⟨X.w.heap.size,cap⟩else X.cI b,w:=w' }:=by
 have q:Ext X.H.length X { X with cI:=λb=>if b=n then aa ⟨X.w.heap.size,cap⟩else X.cI b,w:=w' }:=
  Ext.one g n rfl (λ_ _=>Iff.rfl) (λk h _=>d.Dm h) (λL i u _=>by rw[v]at u;simp at u)
   (λ_ s l=>⟨s,l,by
    cases s<;>simp[v]⟩)
   (λ_ _ _=>rfl) (λb h=>by simp[h]) (λL h=>by simp at h;subst h;exact .inr (afJ _)) (by rw[d.size];omega) d.os d.tape d.output
 refine⟨SR.step Q σ g q n (λ_ _=>rfl) (λb h=>by simp[h]) (λb L _ j=>d.Dm (g.br b L j).2.1) (λ_ _ _ _ _ h=>h) (λL h=>?_) (λc i h=>by rw[d.size];have:=g.fb c i h;omega),q⟩;simp at h;subst h;refine⟨y,by simp[d.size],⟨bz,z,m q⟩,λb x _ j=>?_⟩;have:=(g.br b x j).2.1;simp;omega
theorem SR.new(d:SR Q σ X)(j:X.B<=X.w.heap.size)(bz:bB){w':World}{o:Obj}(g:ef X.w w' o)(cap:Nat)
  (b:∀X',Ext X.H.length X X'->X'.w=w'->X'.F=X.F->X'.H=X.H++[bz]->BR Q σ X' bz ⟨X.w.heap.size,cap⟩) :
  ∃X',X'.w=w'/\X'.H=X.H++[bz]/\SR Q σ X'/\Ext X.H.length X X'/\X'.cI X.H.length=aa ⟨X.w.heap.size,cap⟩/\X'.B<=X'.w.heap.size:=by
 obtain⟨h1,h2⟩:=SR.grow d bz;have l:(X.H++[bz])[X.H.length]?=aa bz:=by simp
 obtain⟨h3,h4⟩:=SR.fill h1 j l (SR.tC d) g cap (λm=>b _ (h2.trans (m.mono (by simp))) rfl rfl rfl);exact⟨_,rfl,rfl,h3,h2.trans (h4.mono (by simp)),by simp,by simp[g.size];omega⟩
theorem SR.PW(m:SR Q σ X){b:Nat}{bz blk':bB}{L:Loc}(A:X.H[b]?=aa bz)(l:X.cI b=aa L){w':World}(x:w'.heap.size=X.w.heap.size)
  (y:∀k,k≠L.c->w'.heap[k]?=X.w.heap[k]?) (z:∀i,X.F L.c i->w'.cell? ⟨L.c,i,ab⟩=X.w.cell? ⟨L.c,i,ab⟩) (ho:w'.os=X.w.os) (B:w'.tape=X.w.tape) (hu:w'.output=X.w.output)
  (j:nT X { X with H:=X.H.set b blk',w:=w' } b)
  (s:Ext X.H.length X { X with H:=X.H.set b blk',w:=w' }->BR Q σ { X with H:=X.H.set b blk',w:=w' } blk' L) :
  SR Q σ { X with H:=X.H.set b blk',w:=w' }/\Ext X.H.length X { X with H:=X.H.set b blk',w:=w' }:=by
 have u:b<X.H.length:=(afD.1 A).1;have v:Ext X.H.length X { X with H:=X.H.set b blk',w:=w' }:=
  Ext.one m b rfl (λ_ _=>Iff.rfl) (λk _ h=>y k (h L l)) (λd i h=>by rw[l]at h;cases h;exact z i) (λ_=>j)
   (λq h _=>by simp[ae2 (Ne.symm h)]) (λ_ _=>rfl) (λd h=>.inl ⟨d,h,rfl⟩) (Nat.le_of_eq x.symm) ho B hu
 refine⟨SR.step Q σ m v b (λq h=>by simp[ae2 (Ne.symm h)]) (λ_ _=>rfl) (λq d h g=>y _ λe=>h (m.inj q b d L g l e)) (λ_ _ _ _ _ h=>h)
  (λd h=>?_) (λc i h=>by rw[x];exact m.fb c i h),v⟩
 change X.cI b=aa d at h;rw[l]at h;cases h;obtain⟨h1,h2,_⟩:=m.br b L l;exact⟨h1,by show L.c<w'.heap.size;omega,⟨blk',by simp[u],s v⟩,λq d h g e=>h (m.inj q b d L g l e)⟩
theorem eo{w:World}{c:Nat}{us:List Value}(h:rowAt w c us):∀(b:List Value) (off:Nat),off+b.length<=us.length->
  (w.setCells c off b).heap.size=w.heap.size/\(∀k,k≠c->(w.setCells c off b).heap[k]?=w.heap[k]?)/\(w.setCells c off b).os=w.os/\(w.setCells c off b).tape=w.tape/\
  (w.setCells c off b).output=w.output/\rowAt (w.setCells c off b) c (bp us off b)
 |[],off,_=>⟨rfl,λ_ _=>rfl,rfl,rfl,rfl,by simpa[World.setCells,bp]using h⟩
 |v::b,off,j=>by
  simp only[agm]at j;have d:rowAt (w.setCell ⟨c,off,ab⟩ v) c (us.set off v):=by
   obtain⟨e,m,d,g⟩:=h;refine⟨e,m,?_,by simpa using g⟩;simp[World.setCell,Array.getElem?_modify,d]
  obtain⟨g,q,s,u,x,y⟩:=eo d b (off+1) (by simp;omega);simp only[World.setCells];refine⟨by rw[g];simp,λk l=>(q k l).trans ?_,s,u,x,?_⟩
  .simp only[World.setCell,Array.getElem?_modify];rw[bG (by simpa using Ne.symm l)]
  .have:bp (us.set off v) (off+1) b=bp us off (v::b):=by
    unfold bp;simp only[agm];rw[List.take_set,List.drop_set_of_lt (by omega),show off+1+b.length=off+(b.length+1) by omega];rw[agh (by omega)];have j:(List.take off us).length=off:=by simp;omega
    have e:(List.take off us++[us[off]]).set off v=List.take off us++[v]:=by
     rw[List.set_append,bG (by omega),j];simp
    rw[e];simp
   rw[<-this];exact y
theorem tH{w:World}{c:Nat}{us:List Value}(h:rowAt w c us)(b:List Value)(off:Nat)(l:off+b.length<=us.length)(d:∀v∈b,v.oneCell'=ae) :
  (storeCells ⟨c,off,ab⟩ b).run Q w=.ok () (w.setCells c off b):=by
 have:=run_storeCells_cells (P:=Q) c off b 0 w (λj g=>by rw[dD h];simp;omega) (λj g=>Eu h (by omega)) d;simpa using this
theorem Cu{α:Type}(us:List α)(off:Nat)(b:List α)(h:off+b.length<=us.length)(i:Nat)(hi:i<off):(bp us off b)[i]?=us[i]?:=by
 unfold bp;rw[afy (by simp;omega),afy (by simp;omega),ago];simp[hi]
end
section
variable{Q:Program}{σ:Nat->FuncId}{X:Wd}
def iX(Q:Program)(σ:Nat->FuncId)(X:Wd)(v:V)(H':aj)(s:Sem Next):Prop:=
 ∃u X',(s.run Q X.w=.ok (.value u) X'.w\/(s.run Q X.w=.ok .skip X'.w/\u=undef))/\X'.H=H'/\SR Q σ X'/\VR σ X' v u/\Ext X.H.length X X'/\X'.B<=X'.w.heap.size
theorem iX.abe(b:X.B<=X.w.heap.size)(d:SR Q σ X){v:V}{H':aj}{s:Sem Next}(h:H'=X.H/\∃u,s.run Q X.w=.ok (.value u) X.w/\VR σ X v u):iX Q σ X v H' s:=by
 obtain⟨rfl,u,h1,h2⟩:=h;exact⟨u,X,.inl h1,rfl,d,h2,Ext.refl _ _,b⟩
theorem lH{w w':World}{us:List Value}{e:TypeId}(h:ef w w' (.cells us.toArray e)):rowAt w' w.heap.size us:=⟨e,(0,0),h.new,λi _=>by simp⟩
theorem E0(b:SR Q σ X)(g:X.B<=X.w.heap.size){cs:List C}{us:List Value}(h:A2 (CR σ X) cs us)(e:TypeId) :
  ∃X',X'.w=X.w.alloc (.cells us.toArray e)/\X'.H=X.H++[.box cs 0]/\SR Q σ X'/\Ext X.H.length X X'/\X'.cI X.H.length=aa ⟨X.w.heap.size,0⟩/\X'.B<=X'.w.heap.size:=
 SR.new b g (.box cs 0) (ef.alloc _ _) 0 λX' m l j _=>⟨us,by rw[l];exact lH (ef.alloc _ _),A2.ext' σ m h,λi _ d=>by
  rw[j]at d;have:=b.fb _ _ d;simp at this⟩
theorem wj(u:SR Q σ X)(q:X.B<=X.w.heap.size){cs:List C}{us:List Value}(h:A2 (CR σ X) cs us)(e:TypeId){s:Sem Next}
  (v:s.run Q X.w=.ok (.value (.pointer (aa ⟨X.w.heap.size,0,ab⟩))) (X.w.alloc (.cells us.toArray e))):iX Q σ X (.c (.ptr X.H.length 0 0)) (X.H++[.box cs 0]) s:=by
 obtain⟨X',d,b,g,j,l,m⟩:=E0 u q h e;refine⟨_,X',.inl (by rw[d];exact v),b,g,?_,j,m⟩;exact⟨_,l,by rw[b];simp⟩
theorem Na(m:SR Q σ X)(l:X.B<=X.w.heap.size){a:Act}{o:Oper}{zs:List FC}(b:dZ Q σ o (.alloc zs)=ae) :
  iX Q σ X (.c (.ptr X.H.length 0 0)) (X.H++[.box (zs.map .f) 0]) (execOp a.eval o):=by
 simp only[dZ]at b;split at b
 .rename_i t q;obtain⟨z,us,d,g,j,_⟩:=fG (σ:=σ) (X:=X) b X.w;refine wj m l j t ?_;simp only[execOp,q];refine ey ?_;simp[Instr.alloc,d,newVar,newRow,g]
 .simp at b
theorem WN(m:SR Q σ X)(j:X.B<=X.w.heap.size){a:Act}{aF:T}(l:RR σ X aF a.tmps){o:Oper}{x:Arg}(b:dZ Q σ o (.box x)=ae){xs:List C}(s:(x.ev aF).cells?=aa xs) :
  iX Q σ X (.c (.ptr X.H.length 0 0)) (X.H++[.box xs 0]) (execOp a.eval o):=by
 simp only[dZ]at b;split at b
 .rename_i t y q;obtain⟨us,d,g⟩:=rq (cf l b) s;refine wj m j g t ?_;simp only[execOp,q];refine ey ?_;simp[Instr.box,newVar,newRow,d]
 .simp at b
theorem lY{zs:List FC}{us:List Value}(h:A2 (CR σ X) (zs.map .f) us)(n:Nat):A2 (CR σ X) ((cP n zs).map .f) (cP n us):=by
 induction n with
 |zero=>exact A2.nil
 |succ n b=>
  simp only[cP,List.replicate_succ,List.flatten_cons,List.map_append]at b ⊢;exact h.append b
theorem ni{α:Type}(n:Nat)(xs:List α):(cP n xs).length=n*xs.length:=by simp[cP]
theorem CG{α:Type}(us:List α):∀(n i:Nat),i<n*us.length->(cP n us)[i]?=us[i % us.length]?
 |0,i,h=>by simp at h
 |n+1,i,h=>by
  have b:cP (n+1) us=us++cP n us:=by simp[cP,List.replicate_succ]
  rw[b];by_cases hi:i<us.length
  .rw[afy hi,Nat.mod_eq_of_lt hi]
  .have d:(n+1)*us.length=n*us.length+us.length:=by rw[agn];omega
   rw[afI (by omega),CG us n (i-us.length) (by omega)];rw[<-Nat.mod_eq_sub_mod (by omega)]
theorem kg(us:List Value)(n:Nat)(q:0<us.length):((Array.range (n*us.length)).map λi=>us.toArray[i % us.toArray.size]!)=(cP n us).toArray:=by
 apply Array.ext
 .simp[ni]
 .intro i g j;have l:i<n*us.length:=by simpa using g
  have b:=CG us n i l;have d:i % us.length<us.length:=Nat.mod_lt _ q;have m:i<(cP n us).length:=by simpa using j
  rw[afB m,afB d,At]at b;simp[b,d]
theorem IF(d:SR Q σ X)(hB:X.B<=X.w.heap.size){a:Act}{aF:T}(hR:RR σ X aF a.tmps){o:Oper}{sz n:Nat}{zs:List FC}{ps:List (Nat × Arg)}
  (m:dZ Q σ o (.dX sz zs n ps)=ae) {v:V} {H':aj} (h:bF aF X.H (.dX sz zs n ps)=aa (v,H')):iX Q σ X v H' (execOp a.eval o):=by
 simp only[dZ]at m;split at m
 .rename_i t l qs Y;simp only[afE,beq_iff_eq,decide_eq_true_eq]at m;obtain⟨⟨⟨⟨rfl,U⟩,B⟩,f⟩,Z⟩:=m;obtain⟨e,r,B⟩:=jH B;simp only[afE,decide_eq_true_eq]at B;obtain⟨⟨u,hz⟩,a8⟩:=B;obtain⟨z,us,N,O,x,_⟩:=fG (σ:=σ) (X:=X) hz X.w;have M:us.length=sz:=by have:=x.len;simp at this;omega
  simp only[bF]at h;split at h
  .
   rename_i W;subst W;split at h
   .rename_i s;simp only[At,afG]at h;obtain⟨rfl,rfl⟩:=h;have j:qs.toList=[]:=by
     have:=(ff Z).len;simp only[List.isEmpty_iff]at s;rw[s]at this;exact afV this.symm
    have j:qs=#[]:=by apply Array.ext';simpa using j
    obtain⟨X',E,A,F,H,S,I⟩:∃X':Wd,X'.w=X.w.alloc (.cells #[] e)/\X'.H=X.H/\SR Q σ X'/\Ext X.H.length X X'/\True/\X'.B<=X'.w.heap.size:=by
     have hx:Ext X.H.length X { X with w:=X.w.alloc (.cells #[] e) }:=Ext.one d X.H.length rfl (λ_ _=>Iff.rfl) (λk hk _=>(ef.alloc _ _).Dm hk)
      (λL i h=>by rw[SR.tC d]at h;simp at h) (λh=>by omega) (λ_ _ _=>rfl) (λ_ _=>rfl) (λL h=>by rw[SR.tC d]at h;simp at h) (by simp) rfl rfl rfl
     refine⟨{ X with w:=X.w.alloc (.cells #[] e) },rfl,rfl,SR.step Q σ d hx X.H.length (λ_ _=>rfl) (λ_ _=>rfl) (λb L _ hb=>(ef.alloc _ _).Dm (d.br b L hb).2.1)
      (λ_ _ _ _ _ h=>h) (λL h=>by rw[SR.tC d]at h;simp at h) (λc i h=>?_),hx,trivial,?_⟩
     .have:=d.fb c i h;simp;omega
     .simp;omega
    refine⟨.slice (aa ⟨X.w.heap.size,0,ab⟩) 0 0,X',.inl ?_,A,F,cX.es _,H,I⟩;rw[E];simp only[execOp,Y];refine ey ?_;simp[Instr.buildSlice,bl r,dq u,j,Instr.fill,newRow,show Array.range 0=(#[]:Array Nat) from rfl]
   .simp at h
  .rename_i W;simp only[afF,afG]at h;obtain⟨cs,J,rfl,rfl⟩:=h;obtain⟨a9,S,I⟩:=pC (place:=λi=>aa (i*sz,sz)) (ps:=qs.toList) hR (qs:=ps.map λp=>(p.1*sz,sz,p.2)) (A2.map ((ff Z).nm λq p g=>by
    simp only[afE,beq_iff_eq]at g;exact⟨by rw[g.1],g.2⟩)) (lY x l) J
   obtain⟨X',E,A,F,H,h7,h8⟩:=E0 d hB I e;refine⟨.slice (aa ⟨X.w.heap.size,0,ab⟩) l l,X',.inl ?_,A,F,?_,H,h8⟩
   .rw[E];simp only[execOp,Y];refine ey ?_;have K:l*sz≠0:=by
     intro h0;rcases ahn.1 h0 with h0|h0<;>omega
    have y:=kg us l (by omega);rw[M]at y;simp only[Instr.buildSlice,Sem.run_bind,bl r,dq u,Result.andThen_ok,bG (show¬ l*sz>2 ^ 24 by omega),Sem.run_ite,bG K,N,Sem.run_pure,O];simp only[Array.toList_map];rw[y];simp[S,newRow]
   .simp only[VR,iS,CR,fZ,A];simp;exact⟨_,h7,rfl⟩
 .simp at m
theorem Gk:∀{cs:List C} {b:List FC},Qc cs=aa b->cs=b.map .f
 |[],b,h=>by simp[Qc]at h;subst h;rfl
 |c::cs,b,h=>by
  cases c with
  |f x=>
   simp only[Qc,afF]at h;obtain⟨g,d,rfl⟩:=h;rw[Gk d];rfl
  |_=>simp[Qc]at h
theorem yT(y:SR Q σ X)(hB:X.B<=X.w.heap.size){a:Act}{aF:T}(hR:RR σ X aF a.tmps){o:Oper}{sz n:Nat}{zs:List FC}{ps:List (Nat × Arg)}
  (K:dZ Q σ o (.ib sz zs n ps)=ae) {v:V} {H H':aj} (h:bF aF H (.ib sz zs n ps)=aa (v,H')) :
  H'=H/\∃u X',(execOp a.eval o).run Q X.w=.ok (.value u) X'.w/\X'.H=X.H/\SR Q σ X'/\VR σ X' v u/\Ext X.H.length X X'/\X'.B<=X'.w.heap.size/\X'.cI=X.cI:=by
 simp only[dZ]at K;split at K
 .rename_i t j qs ho;simp only[afE,beq_iff_eq,decide_eq_true_eq]at K;obtain⟨⟨⟨⟨rfl,a_⟩,U⟩,b9⟩,hq⟩:=K;obtain⟨e,M,U⟩:=jH U;simp only[afE,decide_eq_true_eq]at U;obtain⟨⟨Z,hz⟩,b_⟩:=U;obtain⟨z,us,a8,a9,O,_⟩:=fG (σ:=σ) (X:=X) hz X.w;have f:us.length=sz:=by have:=O.len;simp at this;omega
  simp only[bF,afF,af3,afG]at h;obtain⟨fs,⟨cs,W,l⟩,rfl,rfl⟩:=h;split at l
  .simp at l
  rename_i hn;have E:=Gk l;obtain⟨d,h5,h6⟩:=pC (place:=λi=>aa (i*sz,sz)) (ps:=qs.toList) hR (qs:=ps.map λp=>(p.1*sz,sz,p.2)) (A2.map ((ff hq).nm λq p m=>by
   simp only[afE,beq_iff_eq]at m;exact⟨by rw[m.1],m.2⟩)) (lY O j) W
  have g:ef X.w (X.w.alloc (.cells d.toArray e)) (.cells d.toArray e):=ef.alloc _ _;obtain⟨w',s⟩:=aD (X.w.alloc (.cells d.toArray e));rw[<-s]at g;have I:∀c i,X.F c i->w'.cell? ⟨c,i,ab⟩=X.w.cell? ⟨c,i,ab⟩:=λc i h=>World.cell?_of_block (g.Dm (y.fb c i h));have hx:Ext X.H.length X { X with w:=w',F:=λc i=>X.F c i\/(c=X.w.heap.size/\i<d.length) }:={
   B:=rfl
   F:=λc i h=>.inl h
   re:=λc i h=>h.elim .inl λh=>.inr (.inl (by rw[h.1];exact afJ _))
   fw:=I
   cZ:=λb _ bz A=>⟨bz,A,by cases bz<;>simp⟩
   yZ:=λb L h=>.inl ⟨b,L,h,rfl⟩
   size:=by show _<=w'.heap.size;rw[g.size];omega
   os:=g.os
   tape:=g.tape
   output:=g.output
   frame:=λk hk _=>g.Dm hk }
  refine⟨rfl,.slice (aa ⟨X.w.heap.size,0,ab⟩) j j,{ X with w:=w',F:=λc i=>X.F c i\/(c=X.w.heap.size/\i<d.length) },?_,rfl,?_,?_,hx,?_,rfl⟩
  .simp only[execOp,ho];refine ey ?_;have Y:j*sz≠0:=by
    intro h0;rcases ahn.1 h0 with h0|h0<;>omega
   have S:=kg us j (by omega);rw[f]at S;simp only[Instr.buildSlice,Sem.run_bind,bl M,dq Z,Result.andThen_ok,bG (show¬ j*sz>2 ^ 24 by omega),Sem.run_ite,bG Y,a8,Sem.run_pure,a9];simp only[Array.toList_map];rw[S];simp[h5,newRow,s]
  .exact SR.step Q σ y hx X.H.length (λ_ _=>rfl) (λ_ _=>rfl) (λb L _ A=>g.Dm (y.br b L A).2.1)
    (λb L _ A i h=>h.elim id λh=>by have:=(y.br b L A).2.1;omega) (λL h=>by change X.cI X.H.length=aa L at h;rw[SR.tC y]at h;simp at h)
    (λc i h=>by
     show c<w'.heap.size;rw[g.size];rcases h with h|h
     .have:=y.fb c i h;omega
     .omega)
  .have J:d.length=fs.length:=by have:=h6.len;rw[E]at this;simp at this;omega
   refine cX.fs fs j X.w.heap.size 0 j d (afJ _) J (λi hi=>.inr ⟨rfl,by omega⟩) (λi u M=>?_) λi x u r M=>?_
   .show w'.cell? _=_;rw[dD (show rowAt w' X.w.heap.size d by rw[s];exact lH (ef.alloc _ _)),Nat.zero_add];exact M
   .obtain⟨u',N,hr⟩:=h6.get (i:=i) (x:=.f x) (by rw[E,agl,r];rfl);rw[M]at N;cases N;exact cX.mono (λc i h=>.inl h) I hr
  .show X.B<=w'.heap.size;rw[g.size];omega
 .simp at K
end
section
variable{Q:Program}{σ:Nat->FuncId}{X:Wd}
theorem Ct{α:Type}(us rest:List α)(off:Nat)(b:List α)(h:off+b.length<=us.length):bp (us++rest) off b=bp us off b++rest:=by
 unfold bp;rw[List.take_append_of_le_length (by omega),List.drop_append_of_le_length (by omega)];simp
theorem A2.one{cs:List C}{us:List Value}(h:A2 (CR σ X) cs us):∀v∈us,v.oneCell'=ae:=by
 intro v d;obtain⟨i,hi⟩:=agG d;have b:i<cs.length:=by rw[h.len];exact(afD.1 hi).1
 exact CR.one σ (h.2 i _ v (afB b) hi)
theorem Dg(z:SR Q σ X){b:Nat}{cs:List C}{fl:Nat}{L:Loc}(m:X.H[b]?=aa (.box cs fl))(y:X.cI b=aa L){xs:List C}{j:List Value}(u:A2 (CR σ X) xs j){off:Nat}
  (I:fl<=off) (U:off+xs.length<=cs.length):∃X',(storeCells ⟨L.c,off,ab⟩ j).run Q X.w=.ok () X'.w/\X'.H=X.H.set b (.box (bp cs off xs) fl)/\SR Q σ X'/\Ext X.H.length X X'/\
   (∀b,X'.cI b=X.cI b)/\X'.w.heap.size=X.w.heap.size/\X'.B=X.B:=by
 obtain⟨_,_,bz,g,q⟩:=z.br b L y;rw[m]at g;simp only[At]at g;subst g;obtain⟨us,s,v,x⟩:=q;have K:=u.len;have J:=v.len;obtain⟨A,M,N,O,S,B⟩:=eo s j off (by omega);obtain⟨E,F⟩:=SR.PW z (blk':=.box (bp cs off xs) fl) m y A M (λi H=>by
   rw[dD B,dD s];have:i<off:=by
    rcases agq i off with h|h
    .exact h
    .exact absurd H (x i (by omega))
   exact Cu us off j (by omega) i this) N O S
  (λbz d=>⟨.box (bp cs off xs) fl,by simp[(afD.1 m).1],by rw[m]at d;simp only[At]at d;subst d;exact λL h=>h⟩)
  (λl=>⟨bp us off j,B,A2.bp (A2.ext' σ l v) (A2.ext' σ l u) off,x⟩)
 exact⟨_,tH s j off (by omega) (A2.one u),rfl,E,F,λ_=>rfl,A,rfl⟩
theorem Dh(A:SR Q σ X){b:Nat}{sz:Nat}{cs:List C}{fl ep:Nat}{L:Loc}(m:X.H[b]?=aa (.ct sz cs fl ep .loc))(z:X.cI b=aa L){xs:List C}{j:List Value}(u:A2 (CR σ X) xs j){off:Nat}
  (M:fl<=off) (N:off+xs.length<=cs.length):∃X',(storeCells ⟨L.c,off,ab⟩ j).run Q X.w=.ok () X'.w/\X'.H=X.H.set b (.ct sz (bp cs off xs) fl ep .loc)/\SR Q σ X'/\Ext X.H.length X X'/\
   (∀b,X'.cI b=X.cI b)/\X'.w.heap.size=X.w.heap.size/\X'.B=X.B:=by
 obtain⟨_,_,bz,g,q⟩:=A.br b L z;rw[m]at g;simp only[At]at g;subst g;obtain⟨S,us,rest,s,x,H,I,J,y⟩:=q;have W:=u.len;have U:=x.len;obtain⟨B,Y,Z,a,c,v⟩:=eo s j off (by simp;omega);rw[Ct _ _ _ _ (by omega)]at v;have O:=Cw us off j (by omega);obtain⟨E,F⟩:=SR.PW A (blk':=.ct sz (bp cs off xs) fl ep .loc) m z B Y (λi K=>by
   rw[dD v,dD s];have:i<off:=by
    rcases agq i off with h|h
    .exact h
    .exact absurd K (y i (by omega))
   rw[afy (by omega),afy (by omega)];exact Cu us off j (by omega) i this) Z a c
  (λbz d=>⟨.ct sz (bp cs off xs) fl ep .loc,by simp[(afD.1 m).1],by rw[m]at d;simp only[At]at d;subst d;exact⟨rfl,.inl ⟨rfl,rfl,λL h=>h⟩⟩⟩)
  (λl=>⟨rfl,bp us off j,rest,v,A2.bp (A2.ext' σ l x) (A2.ext' σ l u) off,by simp only[afK]at H ⊢;omega,I,by rw[Cw cs off xs N];exact J,y⟩)
 exact⟨_,tH s j off (by simp;omega) (A2.one u),rfl,E,F,λ_=>rfl,B,rfl⟩
theorem PH(B:SR Q σ X){x:C}{u:Value}(d:CR σ X x u){xs:List C}{E:List Value}(l:A2 (CR σ X) xs E){H':aj}(h:cz X.H x xs=aa H') :
  ∃c off X',u=.pointer (aa ⟨c,off,ab⟩)/\(storeCells ⟨c,off,ab⟩ E).run Q X.w=.ok () X'.w/\X'.H=H'/\SR Q σ X'/\Ext X.H.length X X'/\X'.w.heap.size=X.w.heap.size/\X'.B=X.B:=by
 unfold cz at h;split at h
 .rename_i b off ep;obtain⟨L,A,d⟩:=d;split at h
  .rename_i cs fl j;rw[j]at d;simp only at d;subst d;split at h
   .rename_i g;simp only[At]at h;subst h;obtain⟨X',m,q,s,v,_,y,z⟩:=Dg B j A l g.1 g.2;exact⟨_,_,X',rfl,m,q,s,v,y,z⟩
   .simp at h
  .rename_i sz cs fl e j;rw[j]at d;split at h
   .rename_i g;have d:=d.2.1 g.1;subst d;simp only[At]at h;subst h;obtain⟨X',m,q,s,v,_,y,z⟩:=Dh B j A l g.2.1 g.2.2;exact⟨_,_,X',rfl,m,q,s,v,y,z⟩
   .simp at h
  .simp at h
 .simp at h
theorem PQ(E:SR Q σ X)(W:X.B<=X.w.heap.size){a:Act}{aF:T}(q:RR σ X aF a.tmps){o:Oper}{n:Nat}{x y:Arg}(b:dZ Q σ o (.store n x y)=ae){v:V}{H':aj}
  (h:bF aF X.H (.store n x y)=aa (v,H')):iX Q σ X v H' (execOp a.eval o):=by
 simp only[dZ]at b;split at b
 .rename_i t M N H;simp only[afE]at b;obtain⟨⟨F,g⟩,m⟩:=b;have g:=cf q g;have m:=cf q m;simp only[bF]at h;split at h
  .rename_i p xs I l;rw[I]at g;split at h
   .rename_i s;simp only[afF,afG]at h;obtain⟨O,j,rfl,rfl⟩:=h;obtain⟨Y,K,d⟩:=rq m l;obtain⟨c,off,X',J,u,z,A,B,S,U⟩:=PH E g d j;refine⟨undef,X',.inr ⟨?_,rfl⟩,z,A,trivial,B,by omega⟩;have L:=d.len;simp only[execOp,H,Sem.run_bind];have:(Instr.storeAt t (a.eval M) (a.eval N)).run Q X.w=.ok () X'.w:=by
     rw[J];simp[Instr.storeAt,Instr.sureAddr,storeVar,dq F,K];rw[bu (by omega)];exact u
    simp[this]
   .simp at h
  .simp at h
 .simp at b
end
end Km
