/-
  Our own small machine for Go code by value, held qH sV model: part 1. No program in BQ.
-/
import GoSem.Step
import GoSem.Dispatch
import GoSem.Machine.Exec
import Derived.Calls
import Derived.Laws.World
import Derived.Laws.Cells
import Derived.Laws.IdiomCopy
import Derived.Below
import Derived.Laws.Slices
import Derived.Laws.Strings
import Derived.Laws.StructEq
import Derived.Laws.BytesString
import Derived.Laws.Tables
import Derived.Laws.AppendOwn
open Option renaming some->aa,none->ab
open Bool renaming true->ae,false->ag
open Option.some renaming injEq->anc
open Bool renaming false_eq_true->arq, and_eq_true->aq3
open List renaming getElem?_eq_some_iff->aq4, getElem?_eq_getElem->aq2, getElem?_append_left->aq1, getElem?_append_right->arc, getElem?_take->arX, getElem?_drop->arC, getElem?_map->asf, all_eq_true->ars, getElem?_of_mem->asl, extract_eq_take_drop->asP, take_of_length_le->arw, length_append->ara, foldl_cons->asU, length_cons->ar0, take_succ_eq_append_getElem->atK, eq_nil_of_length_eq_zero->ark, getElem?_set_ne->aq0
open Nat renaming le_refl->aq9, le_trans->arB, lt_of_lt_of_le->asg, add_mul->arF, mul_comm->as9, mul_eq_zero->atz, lt_or_ge->arI
open Option renaming bind_eq_some_iff->arH, map_eq_some_iff->aq5, bind_eq_bind->atP, bind_some->arG, map_some->arN
open Prod.mk renaming injEq->aq8
set_option linter.unusedVariables false
set_option linter.constructorNameAsVariable false
set_option linter.unusedSimpArgs false
set_option linter.unusedSectionVars false
set_option maxRecDepth 100000
namespace Km
open Go
theorem aQ.{u}{α:Sort u}(a:α):∃b,b=a:=⟨a,rfl⟩
theorem aR.{u}{c:Prop}{h:Decidable c}(b:¬c){α:Sort u}{t e:α}:(ite c t e)=e:=if_neg b
theorem bw.{u}{c:Prop}{h:Decidable c}(hc:c){α:Sort u}{t e:α}:(ite c t e)=t:=if_pos hc
inductive FC where
 |bool (b:Bool)
 |int (k:IntKind) (n:Int)
 |str (s:ByteArray)
 |kr|aw|es|jw|nT|nD
 |fp (cs:List FC) (off:Nat)
 |fs (cs:List FC) (len:Nat)
 |fn (f:Nat) (Ka:List FC)
 deriving Inhabited
inductive C where
 |f (x:FC)
 |ptr (b off ep:Nat)
 |sl (b off len cap ep sz:Nat)
 |cl (f:Nat) (Ka:List C)
 |yl (b:Nat)
 |mp (b:Nat)
 |it (b:Nat)
 |bm (f:Nat) (first:List C)
 |mi (b:Nat)
 deriving Inhabited
inductive V where
 |top
 |c (x:C)
 |a (xs:List C)
 |t (xs:List V)
 deriving Inhabited
def jG:Nat:=1000000007
def mV:C->V
 | .cl f cs=>if f=jG then .a cs else .c (.cl f cs)| x=>.c x
def lQ:V->Option C
 | .c (.cl f cs)=>if f=jG then ab else aa (.cl f cs)| .c x=>aa x| .a cs=>aa (.cl jG cs)| _=>ab
def zV:FC->V
 | .fn f zs=>if f=jG then .a (zs.map .f)else .c (.f (.fn f zs))| z=>.c (.f z)
def qg:FC->List FC
 | .fn f zs=>if f=jG then zs else [.fn f zs]| z=>[z]
def AM:FC->Bool
 | .fn f _=>decide (f=jG)| _=>ag
theorem Zc{v:V}{c:C}(h:lQ v=aa c):mV c=v:=by
 cases v with
 |c x=>
  cases x<;>simp only[lQ,anc]at h
  case cl f cs=>
   split at h
   .cases h
   .rename_i b;simp only[anc]at h;subst h;simp only[mV,aR b]
  all_goals (subst h;rfl)
 |a cs=>simp only[lQ,anc]at h;subst h;simp[mV]| _=>simp[lQ]at h
theorem alB{z:FC}(h:AM z=ae):zV z=.a ((qg z).map .f):=by
 cases z<;>simp only[AM,decide_eq_true_eq,reduceCtorEq,arq]at h;simp only[zV,qg,bw h]
theorem alC{z:FC}(h:AM z=ag):zV z=.c (.f z)/\qg z=[z]:=by
 cases z<;>simp only[AM,decide_eq_false_iff_not]at h
 case fn f zs=>simp only[zV,qg,aR h,and_self]
 all_goals exact⟨rfl,rfl⟩
inductive Os where|loc|nil|es
 deriving DecidableEq,Inhabited
inductive P where
 |h
 |o (p:P)
 |i (p:P)
 deriving DecidableEq,Inhabited
def P.toNat:P->Nat
 | .h=>0| .o p=>2*p.toNat+1| .i p=>2*p.toNat+2
inductive T where
 |e
 |n (l:T) (v:V) (r:T)
 deriving Inhabited
def T.get:T->P->V
 | .e,_=>.top| .n _ v _,.h=>v| .n l _ _,.o p=>l.get p| .n _ _ r,.i p=>r.get p
def T.set:T->P->V->T
 | .e,.h,w=>.n .e w .e| .e,.o p,w=>.n (T.set .e p w) .top .e| .e,.i p,w=>.n .e .top (T.set .e p w)| .n l _ r,.h,w=>.n l w r| .n l v r,.o p,w=>.n (l.set p w) v r| .n l v r,.i p,w=>.n l v (r.set p w)
inductive Arg where
 |r (n:P)
 |k (v:V)
 deriving Inhabited
inductive CK where|bool|int|str
 deriving DecidableEq,Inhabited
inductive LI where
 |bool|ptr|sl|fn|ifc
 |st (ks:List CK)
 deriving Inhabited
inductive dn where
 |cP (x:Arg)
 |pre (o:Os) (sz:Nat)
 |pick (c a b:Arg)
 |alloc (zs:List FC)
 |box (x:Arg)
 |build (zs:List FC) (parts:List (Nat × Nat × Arg))
 |bN (sz:Nat) (zs:List FC) (len:Nat) (parts:List (Nat × Arg))
 |load (n:Option Nat) (x:Arg)
 |store (n:Nat) (x y:Arg)
 |bB (x:Arg)
 |bin (op:BinOp) (x y:Arg)
 |eq (neg:Bool) (k:LI) (x y:Arg)
 |un (op:UnOp) (x:Arg)
 |gG (k:IntKind) (x:Arg)
 |zB (x:Arg)
 |xA (x:Arg)
 |ae1 (x:Arg)
 |im (f:Nat) (Ka:List Arg)
 |ik
 |lookup (ck:CK) (zero:FC) (m k:Arg)
 |iO (ck:CK) (m k v:Arg)
 |eh (sz bytes:Nat) (zs:List FC) (l c:Arg)
 |slice (sz:Nat) (x:Arg) (lo hi mx:Option Arg)
 |pe (n sz:Nat) (x:Arg) (lo hi mx:Option Arg)
 |qy (x:Arg) (lo hi:Option Arg)
 |aO (off:Nat) (x:Arg)
 |field (off:Nat) (n:Option Nat) (x:Arg)
 |bu (sz:Nat) (arr:Option Nat) (x i:Arg)
 |idxs (x i:Arg)
 |xN (len sz:Nat) (n:Option Nat) (x i:Arg)
 |range (x:Arg)
 |next (x:Arg)
 |extract (x:Arg) (i:Nat)
 |call (f:Nat) (args:List Arg) (h:Bool)
 |bZ (x:Arg) (args:List Arg) (h:Bool)
 |len (x:Arg)
 |te (n:Nat)
 |lens (x:Arg)
 |cap (x:Arg)
 |append (sz bytes:Nat) (x y:Arg)
 |copy (sz:Nat) (x y:Arg)
 |fu (lo:Bool) (xs:List Arg)
 |lV (sz bytes:Nat) (zs:List FC) (x n:Arg)
 |clear (sz:Nat) (zs:List FC) (x:Arg)
 |ig (x:Arg)
 |lT (x:Arg)
 |entry (x:Arg)
 |x7 (f:Nat) (xs:List Arg)
 |qF (sz:Nat) (x hi mx:Arg)
 |jr (sz:Nat) (zs:List FC) (len:Nat) (parts:List (Nat × Arg))
 |recover
 |defer (x:Arg) (args:List Arg)
 |bad
 deriving Inhabited
def dn.fsl:dn->Bool
 | .jr ..=>ae| _=>ag
structure aN where
 dst:Option P
 op:dn
 g:Option (P × Bool):=ab
 deriving Inhabited
inductive ax where
 |skip
 |region (ops:List aN) (iD:List (Nat × Nat))
 |seq (a b:ax)
 |cond (c:Arg) (a b:ax)
 |block (id:Nat) (a:ax)
 |loop (a:ax)
 |fK (f:Arg) (ps:List P) (assign body:ax)
 |exit (id:Nat)
 |ret
 |bad
 |scope (a:ax)
 |label (l:Nat)
 |goto (l:Nat)
 deriving Inhabited
inductive dt where|ready|busy|done|exhausted
 deriving DecidableEq,Inhabited
inductive cH where
 |box (cs:List C) (fl:Nat)
 |cK (sz:Nat) (cs:List C) (fl ep:Nat) (st:Os)
 |map (es:List (FC × C))
 |it (s:ByteArray) (pos:Nat)
 |x6 (m since:Nat) (done:Bool)
 |fj (open_:Bool)
 |lp (fn:Nat) (tmps:T) (ps:List P) (assign body:ax) (st:dt) (pending:Option ax) (fj:Nat)
 deriving Inhabited
abbrev aj:=List cH
inductive fL where
 |gB (b:Nat)
 |fn (f:Nat) (args:List V)
 deriving Inhabited
inductive gl where
 |tmp (t:P)
 |cell (t:P) (n:Option Nat)
 deriving Inhabited
structure aG where
 ps:List P
 results:List gl
 body:ax
 deriving Inhabited
def Arg.ev(aF:T):Arg->V
 | .r n=>aF.get n| .k v=>v
def V.int(k:IntKind)(n:Int):V:=.c (.f (.int k n))
def V.bool(b:Bool):V:=.c (.f (.bool b))
def aK(H:aj):C->Option (List C)
 | .ptr b d g=>match H[b]? with
  |some (.box cs _)=>aa (cs.drop d)| some (.cK _ cs _ e .loc)=>if g=e then aa (cs.drop d)else ab| _=>ab
 | .f (.fp cs d)=>aa ((cs.drop d).map .f)| _=>ab
def bf:Option Nat->List C->Option V
 |none,c::_=>aa (.c c)| none,[]=>ab| some n,cs=>if n<=cs.length then aa (.a (cs.take n))else ab
def bF(H:aj)(n:Option Nat):V->Option V
 | .c x=>(aK H x).bind (bf n)| _=>ab
def V.cells? : V->Option (List C)
 | .c x=>aa [x]| .a xs=>aa xs| _=>ab
def bR{α:Type}(cs:List α)(b:Nat)(xs:List α):List α:=cs.take b++xs++cs.drop (b+xs.length)
def dC(H:aj)(x:C)(xs:List C):Option aj:=
 match x with
 | .ptr b d j=>match H[b]? with
  |some (.box cs g)=>if g<=d/\d+xs.length<=cs.length then aa (H.set b (.box (bR cs d xs) g))else ab| some (.cK sz cs g e .loc)=>if j=e/\g<=d/\d+xs.length<=cs.length then aa (H.set b (.cK sz (bR cs d xs) g e .loc))else ab| _=>ab
 |_=>ab
def aV(H:aj):C->Option Nat
 | .sl b _ l _ d sz=>match H[b]? with
  |some (.box _ _)=>aa l| some (.cK s _ _ e _)=>if d=e/\sz=s then aa l else ab| _=>ab
 | .f .aw=>aa 0| .f .es=>aa 0| .f (.fs _ l)=>aa l| _=>ab
def cA(H:aj)(sz:Nat):C->Option (List C)
 | .sl b o l _ d s=>match H[b]? with
  |some (.box cs _)=>if o+l*sz<=cs.length then aa ((cs.drop o).take (l*sz))else ab| some (.cK g cs _ e _)=>if d=e/\s=g/\o+l*sz<=cs.length then aa ((cs.drop o).take (l*sz))else ab| _=>ab
 | .f .aw=>aa []| .f .es=>aa []| .f (.fs cs l)=>if cs.length=l*sz then aa (cs.map .f)else ab| _=>ab
def aX{α β:Type}(g:α->Option β):List α->Option (List β)
 |[]=>aa []
 |x::xs=>match g x with
  |none=>ab
  |some y=>match aX g xs with
   |none=>ab| some ys=>aa (y::ys)
def eT:Nat->aj->C->Option FC
 |_,_,.f x=>aa x| 0,_,_=>ab
 |n+1,H,.ptr b j _=>match H[b]? with
  |some (.box cs _)=>(aX (eT n H) cs).map (.fp · j)| _=>ab
 |n+1,H,.sl b o l _ g sz=>match H[b]? with
  |some (.box cs _)=>if o+l*sz<=cs.length then(aX (eT n H) ((cs.drop o).take (l*sz))).map (.fs · l)else ab| some (.cK s cs _ e .loc)=>if g=e/\sz=s/\o+l*sz<=cs.length then(aX (eT n H) ((cs.drop o).take (l*sz))).map (.fs · l)else ab| some (.cK s _ _ e .nil)=>if g=e/\sz=s then aa .aw else ab| some (.cK s _ _ e .es)=>if g=e/\sz=s then aa .es else ab| _=>ab
 |n+1,H,.cl f d=>(aX (eT n H) d).map (.fn f)| _+1,_,_=>ab
def de(n:Nat)(H:aj):V->Option V
 | .c x=>(eT n H x).map λy=>.c (.f y)
 | .a xs=>(aX (eT n H) xs).map λys=>.a (ys.map .f)
 |_=>ab
def jy(n:Nat)(H:aj):V->Option V
 | .t b=>(aX (de n H) b).map .t| v=>de n H v
def fk:Nat->C->aj->aj
 |_,.f _,H=>H| 0,_,H=>H
 |n+1,.ptr b _ _,H=>match H[b]? with
  |some (.box cs g)=>cs.foldl (λH x=>fk n x H) (H.set b (.box cs (Nat.max g cs.length)))
  |_=>H
 |n+1,.sl b o l _ _ sz,H=>match H[b]? with
  |some (.box cs g)=>((cs.drop o).take (l*sz)).foldl (λH x=>fk n x H) (H.set b (.box cs (Nat.max g (o+l*sz))))
  |some (.cK s cs g e st)=>((cs.drop o).take (l*sz)).foldl (λH x=>fk n x H) (H.set b (.cK s cs (Nat.max g (o+l*sz)) e st))
  |_=>H
 |n+1,.cl _ d,H=>d.foldl (λH x=>fk n x H) H
 |_+1,_,H=>H
def mkV(n:Nat)(H:aj):V->aj
 | .c x=>fk n x H| .a xs=>xs.foldl (λH x=>fk n x H) H
 |_=>H
def iT(op:BinOp)(k:IntKind)(x y:Int):Option V:=
 match op with
 | .add=>aa (.int k (k.wrap (x+y)))| .sub=>aa (.int k (k.wrap (x-y)))| .mul=>aa (.int k (k.wrap (x*y)))| .quo=>if y=0 then ab else aa (.int k (k.wrap (x.tdiv y)))| .rem=>if y=0 then ab else aa (.int k (x.tmod y))| .and=>aa (.int k (k.wrap (BitVec.ofInt k.bits x &&& BitVec.ofInt k.bits y).toNat))| .or=>aa (.int k (k.wrap (BitVec.ofInt k.bits x ||| BitVec.ofInt k.bits y).toNat))| .xor=>aa (.int k (k.wrap (BitVec.ofInt k.bits x ^^^ BitVec.ofInt k.bits y).toNat))| .andNot=>aa (.int k (k.wrap (BitVec.ofInt k.bits x &&& ~~~ (BitVec.ofInt k.bits y)).toNat))| .eql=>aa (.bool (x == y))| .neq=>aa (.bool (x != y))| .lss=>aa (.bool (decide (x<y)))| .leq=>aa (.bool (decide (x<=y)))| .gtr=>aa (.bool (decide (x>y)))| .geq=>aa (.bool (decide (x≥y)))| _=>ab
def ajb(op:BinOp)(x y:ByteArray):Option V:=
 match op with
 | .add=>if((x.size+y.size:Nat):Int)>IntKind.i64.max then ab else aa (.c (.f (.str (x++y))))| .eql=>aa (.bool (x.toList == y.toList))| .neq=>aa (.bool !(x.toList == y.toList))| .lss=>aa (.bool (Op.bytesLess x.toList y.toList))| .leq=>aa (.bool (Op.bytesLess x.toList y.toList||x.toList == y.toList))| .gtr=>aa (.bool !(Op.bytesLess x.toList y.toList||x.toList == y.toList))| .geq=>aa (.bool !(Op.bytesLess x.toList y.toList))| _=>ab
def eqP:CK->C->C->Option Bool
 | .bool,.f (.bool a),.f (.bool b)=>aa (a == b)| .int,.f (.int k a),.f (.int k' b)=>if k=k' then aa (a == b)else ab| .str,.f (.str a),.f (.str b)=>aa (a == b)| _,_,_=>ab
def sT:List CK->List C->List C->Option Bool
 |[],[],[]=>aa ae
 |k::d,x::xs,y::ys=>match eqP k x y,sT d xs ys with
  |some a,aa b=>aa (a&&b)| _,_=>ab
 |_,_,_=>ab
def isNil(H:aj):LI->C->Option Bool
 | .ptr,.f .kr=>aa ae| .ptr,.f (.fp _ _)=>aa ag| .ptr,.ptr _ _ _=>aa ag| .sl,.f .aw=>aa ae| .sl,.f .es=>aa ag| .sl,.f (.fs _ _)=>aa ag
 | .sl,.sl b _ _ _ d sz=>match H[b]? with
  |some (.box _ _)=>aa ag| some (.cK s _ _ e st)=>if d=e/\sz=s then aa (st == .nil)else ab| _=>ab
 | .fn,.f .jw=>aa ae| .fn,.f (.fn _ _)=>aa ag| .fn,.cl _ _=>aa ag| .fn,.bm _ _=>aa ag| .ifc,.f .nT=>aa ae| _,_=>ab
def LK(H:aj):LI->V->V->Option Bool
 | .bool,.c x,.c y=>eqP .bool x y| .st b,.a xs,.a ys=>sT b xs ys| .ptr,.c x,.c (.f .kr)=>isNil H .ptr x| .sl,.c x,.c (.f .aw)=>isNil H .sl x| .fn,.c x,.c (.f .jw)=>isNil H .fn x| .ifc,.c x,.c (.f .nT)=>isNil H .ifc x| _,_,_=>ab
def bL(op:BinOp)(x y:V):Option V:=
 match op,x,y with
 | .shl,.c (.f (.int k a)),.c (.f (.int _ b))=>if b<0 then ab else aa (.int k (k.wrap (a*2 ^ (min b.toNat k.bits))))| .shr,.c (.f (.int k a)),.c (.f (.int _ b))=>if b<0 then ab else aa (.int k (a.fdiv (2 ^ (min b.toNat k.bits))))| op,.c (.f (.int k a)),.c (.f (.int k' b))=>if k=k' then iT op k a b else ab| op,.c (.f (.str a)),.c (.f (.str b))=>ajb op a b| _,_,_=>ab
def unV(op:UnOp)(x:V):Option V:=
 match op,x with
 | .neg,.c (.f (.int k n))=>aa (.int k (k.wrap (0-n)))| .not,.c (.f (.bool b))=>aa (.bool !b)| _,_=>ab
def fE:V->Option Int
 | .c (.f (.int _ n))=>aa n| _=>ab
def yX(x:V)(y:Nat):Option Nat:=
 match fE x with
 |some i=>if 0<=i/\i<=y then aa i.toNat else ab| none=>ab
def bM(len cap:Nat)(lo hi mx:Option V):Option (Nat × Nat × Nat):=do
 let m <-match mx with
  |some v=>yX v cap| none=>aa cap
 let h <-match hi,mx with
  |some v,_=>yX v m| none,ab=>aa len| none,aa _=>ab
 let l <-match lo with
  |some v=>yX v h| none=>aa 0
 pure (l,h,m)
def bS(H:aj)(sz:Nat)(x:V)(lo hi mx:Option V):Option V:=
 match x with
 | .c (.f .aw)=>match bM 0 0 lo hi mx with
  |some _=>aa (.c (.f .aw))| none=>ab
 | .c (.f .es)=>match bM 0 0 lo hi mx with
  |some _=>aa (.c (.f .es))| none=>ab
 | .c (.f (.fs cs n))=>match bM n n lo hi mx with
  |some (l,h,m)=>
   if mx.isSome/\m=l then aa (.c (.f .es))else
   aa (.c (.f (.fs ((cs.drop (l*sz)).take ((h-l)*sz)) (h-l))))
  |none=>ab
 | .c (.sl b o n cap d s)=>match H[b]? with
  |some (.box _ _)=>match bM n cap lo hi mx with
   |some (l,h,m)=>if m=l then aa (.c (.f .es))else aa (.c (.sl b (o+l*sz) (h-l) (m-l) d s))| none=>ab
  |some (.cK g cs _ e st)=>
   if d=e/\s=sz/\g=sz then
    match st with
    | .loc=>match bM n n lo hi mx with
     |some (l,h,m)=>
      if mx.isSome/\m=l then aa (.c (.f .es))
      else if l=h/\0<l then aa (.c (.f (.fs [] 0)))
      else if mx.isSome then(if 0<l then aa (.c (.sl b 0 0 0 d (g+1)))else ab)
      else aa (.c (.sl b (o+l*sz) (h-l) 0 d s))
     |none=>match mx with
      |some _=>ab
      |none=>match bM n ((cs.length-o) / sz) lo hi ab with
       |some (l,h,_)=>if n<=(cs.length-o) / sz/\l<h then aa (.c (.sl b (o+l*sz) (h-l) 0 d s))else ab| none=>ab
    | .nil=>match bM 0 0 lo hi mx with
     |some _=>aa (.c (.f .aw))| none=>ab
    | .es=>match bM 0 0 lo hi mx with
     |some _=>aa (.c (.f .es))| none=>ab
   else ab
  |_=>ab
 |_=>ab
def v5(x:V)(lo hi:Option V):Option V:=
 match x with
 | .c (.f (.str s))=>match bM s.size s.size lo hi ab with
  |some (l,h,_)=>aa (.c (.f (.str (s.extract l h))))| none=>ab
 |_=>ab
def mI(H:aj)(n sz:Nat)(x:V)(lo hi mx:Option V):Option V:=
 match x with
 | .c (.ptr b d _)=>match H[b]? with
  |some (.box cs _)=>match bM n n lo hi mx with
   |some (l,h,m)=>if d+n*sz<=cs.length then(if m=l then aa (.c (.f .es))else aa (.c (.sl b (d+l*sz) (h-l) (m-l) 0 sz)))else ab| none=>ab
  |_=>ab
 | .c (.f (.fp cs d))=>match bM n n lo hi mx with
   |some (l,h,m)=>if d+n*sz<=cs.length then(if m=l then aa (.c (.f .es))else aa (.c (.f (.fs ((cs.drop (d+l*sz)).take ((h-l)*sz)) (h-l)))))else ab| none=>ab
 |_=>ab
def bg(H:aj)(sz:Nat)(g:Option Nat)(x i:V):Option V:=
 match fE i with
 |none=>ab
 |some i=>
  if 0<=i then
   match g,x with
   |none,.c (.sl b o l _ d s)=>if i<l then
     (match H[b]? with
      |some (.box _ _)=>aa (.c (.ptr b (o+i.toNat*sz) d))| some (.cK j _ _ e .loc)=>if d=e/\s=j then aa (.c (.ptr b (o+i.toNat*sz) d))else ab
      |_=>ab)else ab
   |none,.c (.f (.fs cs l))=>if i<l then aa (.c (.f (.fp cs (i.toNat*sz))))else ab| some n,.c (.ptr b o d)=>if i<n then aa (.c (.ptr b (o+i.toNat*sz) d))else ab| some n,.c (.f (.fp cs o))=>if i<n then aa (.c (.f (.fp cs (o+i.toNat*sz))))else ab| _,_=>ab
  else ab
def mX(d:Nat):V->Option V
 | .c (.ptr b o g)=>aa (.c (.ptr b (o+d) g))| .c (.f (.fp cs o))=>aa (.c (.f (.fp cs (o+d))))| _=>ab
def rG(b:Nat)(n:Option Nat):V->Option V
 | .a xs=>bf n (xs.drop b)| _=>ab
def ud(x i:V):Option V:=
 match x,fE i with
 | .c (.f (.str s)),aa i=>if 0<=i then(s[i.toNat]?).map λb=>.int .u8 b.toNat else ab
 |_,_=>ab
def Be(len sz:Nat)(n:Option Nat)(x i:V):Option V:=
 match x,fE i with
 | .a xs,aa i=>if 0<=i/\i<len then bf n (xs.drop (i.toNat*sz))else ab| _,_=>ab
def ahg(H:aj):V->Option (V × aj)
 | .c (.it b)=>match H[b]? with
  |some (.it s pos)=>
   if pos<s.size then
    let r:=Utf8.decode s pos
    aa (.t [.bool ae,.int .i64 pos,.int .i32 r.1],H.set b (.it s (pos+r.2)))
   else aa (.t [.bool ag],H)
  |_=>ab
 |_=>ab
def cJ(need bytes:Nat):Bool:=decide ((2*need+768)*bytes<=2 ^ 48)&&decide (need<2 ^ 48)
def cN(H:aj)(sz:Nat):V->Option (Nat × List C)
 | .c (.f (.str s))=>if sz=1 then aa (s.size,s.toList.map λb=>.f (.int .u8 b.toNat))else ab
 | .c x=>match aV H x,cA H sz x with
  |some l,aa cs=>aa (l,cs)| _,_=>ab
 |_=>ab
def bJ(H:aj)(sz bytes:Nat)(x y:V):Option (V × aj):=
 match cN H sz y with
 |none=>ab
 |some (m,ys)=>
  if sz=0 then ab else
  match x with
  | .c (.f .aw)=>if m=0 then aa (.c (.f .aw),H)else
    if cJ m bytes then aa (.c (.sl H.length 0 m 0 0 sz),H++[.cK sz ys 0 0 .loc])else ab
  | .c (.f .es)=>if m=0 then aa (.c (.f .es),H)else
    if cJ m bytes then aa (.c (.sl H.length 0 m 0 0 sz),H++[.cK sz ys 0 0 .loc])else ab
  | .c (.sl b o l cap g s)=>match H[b]? with
   |some (.box cs d)=>
    if l+m<=cap then
     if d<=o+l*sz/\o+l*sz+ys.length<=cs.length then aa (.c (.sl b o (l+m) cap g s),H.set b (.box (bR cs (o+l*sz) ys) d))else ab
    else if cJ (l+m) bytes/\o+l*sz<=cs.length then aa (.c (.sl H.length 0 (l+m) 0 0 sz),H++[.cK sz ((cs.drop o).take (l*sz)++ys) 0 0 .loc])else ab
   |some (.cK j cs d e st)=>
    if g=e/\j=sz/\s=sz then
     if m=0 then aa (x,H)
     else if o=0/\l*sz=cs.length/\d<=cs.length then
      if cJ (l+m) bytes then aa (.c (.sl b 0 (l+m) 0 (g+1) sz),H.set b (.cK sz (cs++ys) d (e+1) .loc))else ab
     else if st=.loc/\d<=o+l*sz/\o+l*sz+ys.length<=cs.length then
      aa (.c (.sl b o (l+m) 0 g sz),H.set b (.cK sz (bR cs (o+l*sz) ys) d e .loc))
     else ab
    else ab
   |_=>ab
  |_=>ab
def copyV(H:aj)(sz:Nat)(x y:V):Option (V × aj):=
 match cN H sz y,x with
 |some _,.c (.f .aw)=>aa (.int .i64 0,H)| some _,.c (.f .es)=>aa (.int .i64 0,H)
 |some (m,ys),.c (.sl b o l _ g j)=>
  let n:=Nat.min m l
  match H[b]? with
  |some (.box cs d)=>if d<=o/\o+n*sz<=cs.length then aa (.int .i64 n,H.set b (.box (bR cs o (ys.take (n*sz))) d))else ab| some (.cK s cs d e .loc)=>if g=e/\j=s/\s=sz/\d<=o/\o+n*sz<=cs.length then aa (.int .i64 n,H.set b (.cK s (bR cs o (ys.take (n*sz))) d e .loc))else ab| _=>ab
 |_,_=>ab
def ql(H:aj):V->Option V
 | .c x=>match aV H x with
  |some _=>match cA H 1 x with
   |some cs=>(aX (λc=>match c with|C.f (.int .u8 n)=>aa (UInt8.ofNat n.toNat)|_=>ab) cs).map λl=>.c (.f (.str ⟨l.toArray⟩))
   |none=>ab
  |none=>ab
 |_=>ab
def fv(aF:T)(cs:List C):List (Nat × Nat × Arg)->Option (List C)
 |[]=>aa cs
 |(b,n,x)::rest=>match (x.ev aF).cells? with
  |some xs=>if xs.length=n/\b+xs.length<=cs.length then fv aF (bR cs b xs) rest else ab| none=>ab
def dx(aF:T)(xs:List Arg):List V:=xs.map (·.ev aF)
def ta:V->Option C
 | .c (.cl _ _)=>ab| .c (.bm _ _)=>ab| .c x=>aa x| _=>ab
def cQ{α:Type}(n:Nat)(xs:List α):List α:=(List.replicate n xs).flatten
def eqK:CK->FC->FC->Option Bool
 | .int,.int k a,.int k' b=>if k=k' then aa (a == b)else ab| .str,.str a,.str b=>aa (a == b)| .bool,.bool a,.bool b=>aa (a == b)| _,_,_=>ab
def ie(b:CK)(k:FC):List (FC × C)->Option (Option C)
 |[]=>aa ab
 |e::d=>match eqK b k e.1 with
  |some ae=>aa (aa e.2)| some ag=>ie b k d| none=>ab
def lS(b:CK)(k:FC)(v:C):List (FC × C)->Option (List (FC × C))
 |[]=>aa [(k,v)]
 |e::d=>match eqK b k e.1 with
  |some ae=>aa ((k,v)::d)| some ag=>(lS b k v d).map (e::·)| none=>ab
def isKey:CK->FC->Bool
 | .int,.int _ _=>ae| .str,.str _=>ae| .bool,.bool _=>ae| _,_=>ag
def lW:FC->Option FC
 | .fp [z] 77=>aa z| _=>ab
def Y'(z:FC)(r:Option C):V:=match lW z with
 |some b=>.t [(r.map mV).getD (zV b),.c (.f (.bool r.isSome))]| none=>(r.map mV).getD (zV z)
def eO(H:aj)(d:CK)(z:FC):V->V->Option V
 | .c (.f .nD),.c (.f k)=>if isKey d k then aa (Y' z ab)else ab
 | .c (.mp b),.c (.f k)=>match H[b]? with
  |some (.map g)=>if isKey d k then(ie d k g).map (Y' z)else ab| _=>ab
 |_,_=>ab
def kz(H:aj):C->Option Nat
 | .sl b _ _ c d sz=>match H[b]? with
  |some (.box _ _)=>aa c| some (.cK s _ _ e .nil)=>if d=e/\sz=s then aa 0 else ab| some (.cK s _ _ e .es)=>if d=e/\sz=s then aa 0 else ab| _=>ab
 | .f .aw=>aa 0| .f .es=>aa 0| _=>ab
def uB(lo:Bool)(x y:V):Option V:=
 match x,y with
 | .c (.f (.int k a)),.c (.f (.int _ b))=>aa (.int k (if lo then(if b<a then b else a)else(if b>a then b else a)))| _,_=>ab
def qu(lo:Bool):V->List V->Option V
 |x,[]=>aa x
 |x,y::ys=>match uB lo x y with
  |some z=>qu lo z ys| none=>ab
def vF(lo:Bool):List V->Option V
 |[]=>ab| x::xs=>qu lo x xs
def jm(H:aj)(sz:Nat)(zs:List FC)(x:V):Option aj:=
 match x with
 | .c y=>match aV H y with
  |some 0=>aa H
  |some l=>
   if zs.length=sz then
    match y with
    | .sl b o _ _ d s=>match H[b]? with
     |some (.box _ _)=>dC H (.ptr b o d) ((cQ l zs).map .f)| some (.cK g _ _ e .loc)=>if d=e/\s=g then dC H (.ptr b o d) ((cQ l zs).map .f)else ab| _=>ab
    |_=>ab
   else ab
  |none=>ab
 |_=>ab
def xd(H:aj)(sz bytes:Nat)(zs:List FC)(x n:V):Option (V × aj):=
 match fE n with
 |some n=>
  if 0<=n/\zs.length=sz then
   match x with
   | .c (.f .aw)=>if n.toNat=0 then aa (.c (.f .aw),H)else
     if cJ n.toNat bytes then aa (.c (.sl H.length 0 n.toNat 0 0 sz),H++[.cK sz ((cQ n.toNat zs).map .f) 0 0 .loc])else ab
   | .c (.f .es)=>if n.toNat=0 then aa (.c (.f .es),H)else
     if cJ n.toNat bytes then aa (.c (.sl H.length 0 n.toNat 0 0 sz),H++[.cK sz ((cQ n.toNat zs).map .f) 0 0 .loc])else ab
   |_=>ab
  else ab
 |none=>ab
def fcC:C->Option FC
 | .f x=>aa x| _=>ab
def uQ(H:aj)(sz:Nat)(x hi mx:V):Option (V × aj):=
 match bS H sz x ab (aa hi) (aa mx)with
 |some v=>aa (v,H)
 |none=>match x with
  | .c (.sl b o n _ g s)=>match H[b]? with
   |some (.cK d cs l e .loc)=>
    if g=e/\s=sz/\d=sz/\o=0 then
     match yX hi n,yX mx n with
     |some i,aa j=>
      if i=j/\0<i/\i*sz<=cs.length then
       match aX fcC (cs.take (i*sz))with
       |some ys=>aa (.c (.f (.fs ys i)),H.set b (.cK d cs (Nat.max l (i*sz)) e .loc))| none=>ab
      else ab
     |_,_=>ab
    else ab
   |_=>ab
  |_=>ab
def vH(H:aj):V->Option (V × aj)
 | .c (.mi b)=>match H[b]? with
  |some (.x6 m d done)=>match H[m]? with
   |some (.map [])=>if done then ab else aa (.t [.bool ag],H)| some (.map [e])=>if done then aa (.t [.bool ag],H)else if d=1 then aa (.t [.bool ae,.c (.f e.1),mV e.2],H.set b (.x6 m 1 ae))else ab| _=>ab
  |_=>ab
 |_=>ab
def ld(H:aj):V->Option V
 | .c (.mi b)=>match H[b]? with
  |some (.x6 m _ ae)=>match H[m]? with
   |some (.map [e])=>aa (.t [.c (.f e.1),mV e.2])| _=>ab
  |_=>ab
 |_=>ab
def qQ(H:aj):V->Option (V × aj)
 | .c (.mp b)=>match H[b]? with
  |some (.map d)=>if d.length<=1 then aa (.c (.mi H.length),H++[.x6 b d.length ag])else ab| _=>ab
 |_=>ab
def fcL:List C->Option (List FC)
 |[]=>aa []| .f x::xs=>(fcL xs).map (x::·)| _::_=>ab
def bG(aF:T)(H:aj):dn->Option (V × aj)
 | .cP x=>aa (x.ev aF,H)| .pre o sz=>if o=.loc\/sz=0 then ab else aa (.c (.sl H.length 0 0 0 0 sz),H++[.cK sz [] 0 0 o])
 | .pick c a b=>match c.ev aF with
  | .c (.f (.bool v))=>aa ((if v then a else b).ev aF,H)| _=>ab
 | .alloc zs=>aa (.c (.ptr H.length 0 0),H++[.box (zs.map .f) 0])
 | .box x=>match (x.ev aF).cells? with
  |some xs=>aa (.c (.ptr H.length 0 0),H++[.box xs 0])| none=>ab
 | .build zs ps=>(fv aF (zs.map .f) ps).map λcs=>(.a cs,H)
 | .bN sz zs n ps=>
  if n=0 then(if ps.isEmpty then aa (.c (.f .es),H)else ab)else
  (fv aF ((cQ n zs).map .f) (ps.map λp=>(p.1*sz,sz,p.2))).map λcs=>(.c (.sl H.length 0 n n 0 sz),H++[.box cs 0])
 | .load n x=>(bF H n (x.ev aF)).map (·,H)
 | .store n x y=>match x.ev aF,(y.ev aF).cells? with
  | .c p,aa xs=>if xs.length=n then(dC H p xs).map (.top,·)else ab| _,_=>ab
 | .bB x=>match x.ev aF with
  | .c (.ptr b o e)=>aa (.c (.ptr b o e),H)| .c (.f (.fp cs o))=>aa (.c (.f (.fp cs o)),H)| _=>ab
 | .bin op x y=>(bL op (x.ev aF) (y.ev aF)).map (·,H)| .eq neg k x y=>(LK H k (x.ev aF) (y.ev aF)).map λb=>(.bool (if neg then !b else b),H)
 | .un op x=>(unV op (x.ev aF)).map (·,H)
 | .gG k x=>match x.ev aF with
  | .c (.f (.int _ n))=>aa (.int k (k.wrap n),H)| _=>ab
 | .zB x=>match x.ev aF with
  | .c (.f (.str s))=>aa (.c (.f (.str s)),H)| _=>ab
 | .xA x=>(ql H (x.ev aF)).map (·,H)
 | .ae1 x=>match x.ev aF with
  | .c (.f (.str s))=>if s.size<2 ^ 48 then aa (.c (.sl H.length 0 s.size 0 0 1),H++[.cK 1 (s.toList.map λb=>.f (.int .u8 b.toNat)) 0 0 .loc])else ab
  |_=>ab
 | .im f g=>(aX ta (dx aF g)).map λxs=>(.c (.cl f xs),H)
 | .ik=>aa (.c (.mp H.length),H++[.map []])| .lookup j z m k=>(eO H j z (m.ev aF) (k.ev aF)).map (·,H)
 | .iO j m k v=>match m.ev aF,k.ev aF,lQ (v.ev aF)with
  | .c (.mp b),.c (.f k),aa v=>match H[b]? with
   |some (.map u)=>if isKey j k then(lS j k v u).map λu=>(.top,H.set b (.map u))else ab
   |_=>ab
  |_,_,_=>ab
 | .eh sz bytes zs l c=>match fE (l.ev aF),fE (c.ev aF)with
  |some l,aa c=>
   if 0<=l/\l<=c/\cJ c.toNat bytes=ae/\zs.length=sz then
    (if c=0 then aa (.c (.f .es),H)else
    aa (.c (.sl H.length 0 l.toNat c.toNat 0 sz),H++[.box ((cQ c.toNat zs).map .f) 0]))
   else ab
  |_,_=>ab
 | .slice sz x lo hi mx=>(bS H sz (x.ev aF) (lo.map (·.ev aF)) (hi.map (·.ev aF)) (mx.map (·.ev aF))).map (·,H)| .pe n sz x lo hi mx=>(mI H n sz (x.ev aF) (lo.map (·.ev aF)) (hi.map (·.ev aF)) (mx.map (·.ev aF))).map (·,H)| .qy x lo hi=>(v5 (x.ev aF) (lo.map (·.ev aF)) (hi.map (·.ev aF))).map (·,H)| .aO d x=>(mX d (x.ev aF)).map (·,H)| .field d n x=>(rG d n (x.ev aF)).map (·,H)| .bu sz q x i=>(bg H sz q (x.ev aF) (i.ev aF)).map (·,H)| .idxs x i=>(ud (x.ev aF) (i.ev aF)).map (·,H)| .xN len sz n x i=>(Be len sz n (x.ev aF) (i.ev aF)).map (·,H)
 | .range x=>match x.ev aF with
  | .c (.f (.str s))=>aa (.c (.it H.length),H++[.it s 0])| _=>ab
 | .next x=>ahg H (x.ev aF)
 | .extract x i=>match x.ev aF with
  | .t B=>(B[i]?).map (·,H)| _=>ab
 | .te n=>aa (.int .i64 n,H)
 | .lens x=>match x.ev aF with
  | .c (.f (.str s))=>aa (.int .i64 (s.size:Nat),H)| _=>ab
 | .len x=>match x.ev aF with
  | .c y=>match aV H y with
   |some n=>aa (.int .i64 (n:Nat),H)| none=>ab
  |_=>ab
 | .append sz bytes x y=>bJ H sz bytes (x.ev aF) (y.ev aF)| .copy sz x y=>copyV H sz (x.ev aF) (y.ev aF)| .fu lo xs=>(vF lo (dx aF xs)).map (·,H)| .clear sz zs x=>(jm H sz zs (x.ev aF)).map (.t [],·)| .lV sz bytes zs x n=>xd H sz bytes zs (x.ev aF) (n.ev aF)| .ig x=>qQ H (x.ev aF)| .lT x=>vH H (x.ev aF)| .entry x=>(ld H (x.ev aF)).map (·,H)| .jr sz zs n ps=>((fv aF ((cQ n zs).map .f) (ps.map λp=>(p.1*sz,sz,p.2))).bind λcs=>if n=0 then ab else fcL cs).map λA=>(.c (.f (.fs A n)),H)
 | .qF sz x hi mx=>uQ H sz (x.ev aF) (hi.ev aF) (mx.ev aF)| .x7 f xs=>(aX ta (dx aF xs)).map λxs=>(.c (.bm f xs),H)
 | .cap x=>match x.ev aF with
  | .c y=>match kz H y with
   |some n=>aa (.int .i64 (n:Nat),H)| none=>ab
  |_=>ab
 |_=>ab
inductive Callee where
 |fn (f:Nat)
 |yield (b:Nat)
abbrev dw:=Callee->List V->aj->Option (V × aj)
def deep:Nat:=64
def eU(call:dw)(c:Nat)(args:List V)(H:aj):Option (V × aj):=
 match aX (de deep H) args with
 |none=>ab
 |some d=>match call (.fn c) d []with
  |none=>ab
  |some (r,b)=>match jy deep b r with
   |none=>ab| some r'=>aa (r',args.foldl (mkV deep) H)
def bX:V->List V->Option (Callee × List V)
 | .c (.f (.fn f d)),args=>aa (.fn f,args++d.map λx=>.c (.f x))
 | .c (.cl f d),args=>aa (.fn f,args++d.map .c)| .c (.yl b),args=>aa (.yield b,args)| .c (.bm f first),args=>aa (.fn f,first.map .c++args)
 |_,_=>ab
def gv(call:dw)(h:Bool)(c:Nat)(args:List V)(H:aj):Option (V × aj):=
 if h then call (.fn c) args H else eU call c args H
structure St where
 aF:T
 defs:List fL
 heap:aj
def gV(aF:T)(d:Option P)(v:V):T:=
 match d with
 |some d=>aF.set d v| none=>aF
def eH(call:dw)(s:St)(op:dn):Option (V × St):=
 match op with
 | .call f args h=>(gv call h f (dx s.aF args) s.heap).map λr=>(r.1,{ s with heap:=r.2 })
 | .bZ x args _=>match bX (x.ev s.aF) (dx s.aF args)with
  |some (c,args)=>(call c args s.heap).map λr=>(r.1,{ s with heap:=r.2 })
  |none=>ab
 | .recover=>aa (.c (.f .nT),s)
 | .defer x args=>match bX (x.ev s.aF) (dx s.aF args)with
  |some (.fn f,args)=>aa (.top,{ s with defs:=.fn f args::s.defs })
  |_=>ab
 |op=>(bG s.aF s.heap op).map λr=>(r.1,{ s with heap:=r.2 })
def nH{α:Type}(f:α->α->Bool):List α->List α->Bool
 |[],[]=>ae| x::xs,y::ys=>f x y&&nH f xs ys| _,_=>ag
def FC.beq:Nat->FC->FC->Bool
 |_,.bool a,.bool b=>a == b| _,.int j a,.int k b=>decide (j=k)&&a == b| _,.str a,.str b=>decide (a=b)| _,.kr,.kr|_,.aw,.aw|_,.es,.es|_,.jw,.jw|_,.nT,.nT|_,.nD,.nD=>ae| n+1,.fp xs o,.fp ys o'=>o == o'&&nH (FC.beq n) xs ys| n+1,.fs xs l,.fs ys d=>l == d&&nH (FC.beq n) xs ys| n+1,.fn f xs,.fn g ys=>f == g&&nH (FC.beq n) xs ys| _,_,_=>ag
def C.beq:C->C->Bool
 | .f a,.f b=>FC.beq 64 a b| .ptr a b c,.ptr a' j l=>a == a'&&b == j&&c == l| .sl a b c d e g,.sl a' j l d' m g'=>a == a'&&b == j&&c == l&&d == d'&&e == m&&g == g'| .mp a,.mp b=>a == b| _,_=>ag
def V.beq:V->V->Bool
 | .c x,.c y=>x.beq y| .a xs,.a ys=>xs.length == ys.length&&(xs.zip ys).all λp=>p.1.beq p.2
 |_,_=>ag
def wanted(aF:T):Option (P × Bool)->Option Bool
 |none=>aa ae
 |some (r,w)=>match aF.get r with
  | .c (.f (.bool b))=>aa (b == w)| .t []=>aa ag| _=>ab
def fh(call:dw)(s:St)(o:aN):Option St:=
 match wanted s.aF o.g with
 |some ae=>match eH call s o.op with
  |some (v,b)=>aa { b with aF:=gV b.aF o.dst v }
  |none=>ab
 |some ag=>aa { s with aF:=gV s.aF o.dst (.t []) }
 |none=>ab
def fz(call:dw):List aN->St->Option St
 |[],s=>aa s
 |o::os,s=>match fh call s o with
  |some b=>fz call os b| none=>ab
def eA(call:dw):List aN->St->Option (List St)
 |[],s=>aa [s]
 |o::os,s=>match fh call s o with
  |some b=>match eA call os b with
   |some ss=>aa (s::ss)| none=>ab
  |none=>ab
def sameAt(ops:List aN)(ss:List St)(c:Nat × Nat):Bool:=
 match ops[c.1]?,ss[c.1]?,ss[c.2]? with
 |some o,aa s,aa b=>match wanted s.aF o.g with
  |some ag=>ae
  |_=>match bG s.aF s.heap o.op,bG s.aF b.heap o.op with
   |some (v,_),aa (d,_)=>v.beq d| _,_=>ag
 |_,_,_=>ag
def gA(call:dw)(ops:List aN)(b:List (Nat × Nat))(s:St):Option St:=
 match b with
 |[]=>fz call ops s
 |_=>match eA call ops s with
  |some ss=>if b.all (sameAt ops ss)then ss.getLast? else ab| none=>ab
def dn.fH:dn->Bool
 | .defer _ _| .recover=>ag| _=>ae
inductive cO where
 |code (c:ax)
 |inBlock (id:Nat)
 |inLoop (c:ax)
 |iZ (b:Nat)
 |nC
 |inScope (a:ax)
def exitTo(id:Nat):List cO->Option (List cO)
 |[]=>ab| .inBlock b::k=>if b == id then aa k else exitTo id k| _::k=>exitTo id k
def findLabel:ax->Nat->Option ax
 | .seq a b,l=>match findLabel a l with
  |some rest=>aa (.seq rest b)| none=>findLabel b l
 | .label d,l=>if d == l then aa .skip else ab| _,_=>ab
def gotoIn(l:Nat):List cO->Option (List cO)
 |[]=>ab
 | .inScope body::k=>match findLabel body l with
  |some rest=>aa (.code rest::.inScope body::k)| none=>gotoIn l k
 |_::k=>gotoIn l k
def C.e9(n:Nat):C->Bool
 | .f _=>ae| .ptr b _ _=>decide (b<n)| .sl b _ _ _ _ _=>decide (b<n)| .cl _ _=>ag| .yl b=>decide (b<n)| .mp b=>decide (b<n)| .it b=>decide (b<n)| .mi b=>decide (b<n)| .bm _ _=>ag
def C.under(n:Nat):C->Bool
 | .cl _ d=>d.all (·.e9 n)| .f _=>ae| .ptr b _ _=>decide (b<n)| .sl b _ _ _ _ _=>decide (b<n)| .yl b=>decide (b<n)| .mp b=>decide (b<n)| .it b=>decide (b<n)| .mi b=>decide (b<n)| .bm _ first=>first.all (·.e9 n)
def run(call:dw)(fn:Nat):Nat->Option Nat->List cO->St->Option (Option ax × St)
 |0,_,_,_=>ab
 |m+1,j,q,s=>
  match q with
  |[]=>aa (ab,s)| .inBlock _::k=>run call fn m j k s| .inLoop c::k=>run call fn m j (.code c::.inLoop c::k) s
  | .iZ b::k=>match s.heap[b]? with
   |some (.lp f tmps ps as bd st pending d)=>
    if st=.busy then ab else
    let s:={ s with heap:=s.heap.set b (.lp f tmps ps as bd .exhausted pending d) }
    match pending with
    |none=>run call fn m j k s| some .ret=>run call fn m j (.code .ret::k) s| some (.exit id)=>run call fn m j (.code (.exit id)::k) s| some _=>ab
   |_=>ab
  | .nC::k=>match j with
   |none=>ab
   |some b=>match s.heap[b]? with
    |some (.lp f tmps ps as bd .ready pending d)=>run call fn m j k { s with heap:=s.heap.set b (.lp f tmps ps as bd .busy pending d) }
    |_=>ab
  | .code .skip::k=>run call fn m j k s| .inScope _::k=>run call fn m j k s| .code (.label _)::k=>run call fn m j k s| .code (.scope a)::k=>run call fn m j (.code a::.inScope a::k) s
  | .code (.goto l)::k=>match gotoIn l k with
   |some k=>run call fn m j k s| none=>ab
  | .code .bad::_=>ab| .code .ret::_=>aa (aa .ret,s)
  | .code (.exit id)::k=>match exitTo id k with
   |some k=>run call fn m j k s| none=>if j.isSome then aa (aa (.exit id),s)else ab
  | .code (.seq a b)::k=>run call fn m j (.code a::.code b::k) s| .code (.block id a)::k=>run call fn m j (.code a::.inBlock id::k) s| .code (.loop a)::k=>run call fn m j (.code a::.inLoop a::k) s
  | .code (.cond c a b)::k=>match c.ev s.aF with
   | .c (.f (.bool v))=>run call fn m j (.code (if v then a else b)::k) s| _=>ab
  | .code (.region ops u)::k=>
   if j.isSome&&!ops.all (·.op.fH)then ab else
   match gA call ops u s with
   |some s=>run call fn m j k s| none=>ab
  | .code (.fK f ps as bd)::k=>
   if j.isSome then ab else
   let d:=s.heap.length
   let H:=s.heap++[.fj ae,.lp fn s.aF ps as bd .ready ab d]
   match bX (f.ev s.aF) [.c (.yl (d+1))]with
   |some (.fn g,args)=>match call (.fn g) args H with
    |some (_,H)=>run call fn m j (.iZ (d+1)::k) { aF:=s.aF,defs:=.gB d::s.defs,heap:=H }| none=>ab
   |_=>ab
def vB:Nat:=1000000000
def en(call:dw):List fL->aj->Option aj
 |[],H=>aa H
 | .gB b::d,H=>match H[b]? with
  |some (.fj ae)=>en call d (H.set b (.fj ag))| _=>ab
 | .fn f args::d,H=>if f=vB then ab else match call (.fn f) args H with
  |some (_,H)=>en call d H| none=>ab
def bQ(aF:T)(H:aj):gl->Option V
 | .tmp t=>match aF.get t with
  | .t _=>ab| v=>aa v
 | .cell t n=>bF H n (aF.get t)
def results(aF:T)(H:aj)(b:List gl):Option V:=
 match aX (bQ aF H) b with
 |some [v]=>aa v| some d=>aa (.t d)| none=>ab
def cD:List P->List V->T->T
 |p::ps,v::b,aF=>cD ps b (aF.set p v)| _,_,aF=>aF
def eK(tab:Nat->Option aG)(g:Nat->List V->aj->Option (Option (V × aj)))(m:Nat):Nat->dw
 |0,_,_,_=>ab
 |d+1,.fn f,args,H=>
  match g f args H with
  |some r=>r
  |none=>match tab f with
   |none=>ab
   |some q=>if args.length=q.ps.length then match run (eK tab g m d) f m ab [.code q.body] ⟨cD q.ps args .e,[],H⟩with
    |some (_,s)=>match en (eK tab g m d) s.defs s.heap with
     |some H=>(results s.aF H q.results).map (·,H)| none=>ab
    |none=>ab
    else ab
 |d+1,.yield b,args,H=>
  match H[b]? with
  |some (.lp f tmps ps as bd _ _ _)=>
   if args.length=ps.length then
    match run (eK tab g m d) f m (aa b) [.code as,.nC,.code bd] ⟨cD ps args tmps,[],H⟩with
    |some (j,s)=>
     if s.defs.isEmpty then
      match s.heap[b]? with
      |some (.lp x l v as' u _ _ d')=>aa (.bool j.isNone,s.heap.set b (.lp x l v as' u (if j.isNone then .ready else .done) j d'))| _=>ab
     else ab
    |none=>ab
   else ab
  |_=>ab
section
variable(Q:Program)(σ:Nat->FuncId)
def aj3:Value->Bool
 | .agg _| .tuple _=>ag| _=>ae
def ai':Value->Bool
 | .agg _=>ae| _=>ag
def mK1:FC->Value->Bool
 | .bool a,.bool b=>a == b| .int j a,.int k b=>decide (j=k)&&decide (a=b)| .str a,.string b=>decide (a=b)| .kr,.pointer ab=>ae| .aw,.slice ab 0 0=>ae| .jw,.nilFunc=>ae| .nT,.nilIface=>ae| .nD,.map ab=>ae| _,_=>ag
def fC{α β:Type}(f:α->β->Bool):List α->List β->Bool
 |[],[]=>ae| x::xs,y::ys=>f x y&&fC f xs ys| _,_=>ag
def mK:V->Value->Bool
 | .c (.f x),v=>mK1 x v| .a xs,.agg us=>fC (λx u=>match x with|C.f x=>mK1 x u|_=>ag) xs us.toList
 | .top,.tuple us=>us.isEmpty| _,_=>ag
def mA:Arg->Operand->Bool
 | .r p,.tmp t=>p.toNat == t| .k v,.const u=>mK v u| .k (.c (.f (.fn f []))),.func g=>σ f == g| _,_=>ag
def mAs(xs:List Arg)(ys:Array Operand):Bool:=fC (mA σ) xs ys.toList
def mO:Option Arg->Option Operand->Bool
 |none,ab=>ae| some x,aa y=>mA σ x y| _,_=>ag
def dF(t:TypeId)(n:Nat):Bool:=(Q.info? t).any λi=>i.size == n
def mL(t:TypeId)(n:Nat):Bool:=(Q.info? t).any λi=>i.bytes == n
def kD(t:TypeId)(zs:List FC):Bool:=(Q.info? t).any λi=>match i.zero with
 |some z=>fC mK1 zs z.cells.toList| none=>ag
def sM(t:TypeId)(n:Option Nat):Bool:=match Q.underlying t,n with
 |some (.struct _),aa n|some (.array _ _),aa n=>dF Q t n| some (.struct _),ab|some (.array _ _),ab=>ag| some _,ab=>ae| _,_=>ag
def gJ:Nat->TypeId->Option (List CK)
 |0,_=>ab
 |d+1,t=>match Q.underlying t with
  |some .bool=>if dF Q t 1 then aa [.bool]else ab| some (.int _)=>if dF Q t 1 then aa [.int]else ab| some .string=>if dF Q t 1 then aa [.str]else ab
  |some (.struct fs)=>if Q.stoodInHeld t then ab else match oG (gJ d) 0 fs.toList with
   |some ks=>if dF Q t ks.length then aa ks else ab| none=>ab
  |_=>ab
 where
 oG (rec:TypeId->Option (List CK)) (off:Nat):List Field->Option (List CK)
  |[]=>aa []
  |f::fs=>if f.name≠ "_"/\f.offset=off then match rec f.type with
    |some ks=>match oG rec (off+ks.length) fs with
     |some r=>aa (ks++r)| none=>ab
    |none=>ab
   else ab
def qp:Operand->Bool
 | .const _=>ae| _=>ag
def mEq(k:LI)(t:TypeId)(x y:Operand):Bool:=match Q.underlying t,k with
 |some .bool,.bool|some (.pointer _),.ptr|some (.slice _),.sl|some (.func _ _ _),.fn=>ae| some (.interface _),.ifc=>qp x||qp y| some (.struct _),.st b=>decide (gJ Q 20 t=aa b)&&!Q.eqGuardType Q.depth t| _,_=>ag
def me(t:TypeId):Option TypeId:=match Q.underlying t with
 |some (.slice e)=>aa e| _=>ab
def anQ(t:TypeId):Bool:=match Q.underlying t with
 |some (.int .u8)=>ae| _=>ag
def dX(c:Call):dn->Bool
 | .len x=>match c.callee,c.args.toList,c.argTypes.toList with
  | .builtin .len,[y],[t]=>mA σ x y&&(match Q.underlying t with|some (.slice _)=>ae|_=>ag)
  |_,_,_=>ag
 | .lens x=>match c.callee,c.args.toList,c.argTypes.toList with
  | .builtin .len,[y],[t]=>mA σ x y&&(match Q.underlying t with|some .string=>ae|_=>ag)
  |_,_,_=>ag
 | .te n=>match c.callee,c.args.toList,c.argTypes.toList with
  | .builtin .len,[_],[t]=>(match Q.underlying t with|some (.array m _)=>decide (n=m)|_=>ag)
  |_,_,_=>ag
 | .append sz bytes x y=>match c.callee,c.args.toList,c.argTypes.toList with
  | .builtin .append,[u,v],[t,b]=>mA σ x u&&mA σ y v&&(me Q t).any (λe=>dF Q e sz&&mL Q e bytes&&decide (0<sz)&&(Q.info? e).any (λi=>i.zero.any λz=>decide (z.cells.size=sz)))
    && (match Q.underlying b with|some .string=>ae|some (.slice _)=>ae|_=>ag)
  |_,_,_=>ag
 | .lV sz bytes zs x y=>match c.callee,c.args.toList,c.argTypes.toList with
  | .builtin .append,[u,v],[t,b]=>mA σ x u&&mA σ y v&&(me Q t).any (λe=>dF Q e sz&&mL Q e bytes&&decide (0<sz)&&kD Q e zs)
    && (match Q.underlying b with|some (.int _)=>ae|_=>ag)
  |_,_,_=>ag
 | .copy sz x y=>match c.callee,c.args.toList,c.argTypes.toList with
  | .builtin .copy,[u,v],[t,_]=>mA σ x u&&mA σ y v&&(me Q t).any (λe=>dF Q e sz)
  |_,_,_=>ag
 | .fu lo xs=>match c.callee,lo with
  | .builtin .max,ag| .builtin .min,ae=>mAs σ xs c.args| _,_=>ag
 | .cap x=>match c.callee,c.args.toList,c.argTypes.toList with
  | .builtin .cap,[y],[t]=>mA σ x y&&(match Q.underlying t with|some (.slice _)=>ae|_=>ag)
  |_,_,_=>ag
 | .clear sz zs x=>match c.callee,c.args.toList,c.argTypes.toList with
  | .builtin .clear,[y],[t]=>mA σ x y&&(me Q t).any (λe=>dF Q e sz&&kD Q e zs)
  |_,_,_=>ag
 | .recover=>match c.callee with
  | .builtin .recover=>ae| _=>ag
 | .call f xs _=>match c.callee with
  | .value (.func g)=>σ f == g&&mAs σ xs c.args| _=>ag
 | .bZ x xs _=>match c.callee with
  | .value y=>mA σ x y&&mAs σ xs c.args| _=>ag
 |_=>ag
def K6(b:CK)(t:TypeId):Bool:=match Q.underlying t,b with
 |some (.int _),.int|some .string,.str|some .bool,.bool=>ae| _,_=>ag
def Zb(t:TypeId)(qs:List (Nat × Nat × Arg))(ps:List (Nat × Operand)):Bool:=match Q.underlying t with
 |some (.struct b)=>match b.toList.mapM (λf=>(Q.info? f.type).map λi=>(f.offset,i.size))with
  |some pl=>fC (λ(q:Nat × Nat × Arg) (p:Nat × Operand)=>decide (pl[p.1]?=aa (q.1,q.2.1))&&mA σ q.2.2 p.2) qs ps
  |none=>ag
 |some (.array _ e)=>match Q.info? e with
  |some i=>fC (λ(q:Nat × Nat × Arg) (p:Nat × Operand)=>i.size == q.2.1&&q.1 == p.1*q.2.1&&mA σ q.2.2 p.2) qs ps
  |none=>ag
 |_=>ag
def dV(o:Oper)(a:dn):Bool:=match a with
 | .bad=>ae| .cP y=>(match o.op with| .move x| .assign x=>mA σ y x|_=>ag)
 | .pre .nil sz=>(match o.op with| .move (.const (.slice ab 0 0))| .assign (.const (.slice ab 0 0))=>decide (0<sz)|_=>ag)
 | .pick M A J=>(match o.op with| .pick c x y=>mA σ M c&&mA σ A x&&mA σ J y|_=>ag)
 | .alloc zs=>(match o.op with| .alloc t=>kD Q t zs|_=>ag)
 | .box y=>(match o.op with| .box _ x=>mA σ y x|_=>ag)
 | .build zs qs=>(match o.op with| .build t ps=>kD Q t zs&&Zb Q σ t qs ps.toList|_=>ag)
 | .bN sz zs F qs=>(match o.op with| .buildSlice t n ps=>n == F&&decide (n*sz<=2 ^ 24)&&(me Q t).any (λe=>dF Q e sz&&kD Q e zs&&decide (zs.length=sz))&&decide (0<sz)&&fC (λ(q:Nat × Arg) (p:Nat × Operand)=>q.1 == p.1&&mA σ q.2 p.2) qs ps.toList|_=>ag)
 | .jr sz zs F qs=>(match o.op with| .buildSlice t n ps=>n == F&&decide (n*sz<=2 ^ 24)&&(me Q t).any (λe=>dF Q e sz&&kD Q e zs&&decide (zs.length=sz))&&decide (0<sz)&&fC (λ(q:Nat × Arg) (p:Nat × Operand)=>q.1 == p.1&&mA σ q.2 p.2) qs ps.toList|_=>ag)
 | .load n y=>(match o.op with| .load t x=>sM Q t n&&mA σ y x|_=>ag)
 | .store n A J=>(match o.op with| .store t x y=>dF Q t n&&mA σ A x&&mA σ J y|_=>ag)
 | .bB y=>(match o.op with| .nilCheck x=>mA σ y x|_=>ag)
 | .bin I A J=>(match o.op with| .binOp op t x y _=>decide (op=I)&&mA σ A x&&mA σ J y|_=>ag)
 | .eq neg k A J=>(match o.op with| .binOp op t x y _=>decide (op=if neg then .neq else .eql)&&mA σ A x&&mA σ J y&&mEq Q k t x y|_=>ag)
 | .un I y=>(match o.op with| .unOp op _ x=>decide (op=I)&&mA σ y x|_=>ag)
 | .gG k y=>(match o.op with| .convert s d x=>mA σ y x&&(Q.underlying s).isSome&&(match Q.underlying d with|some (.int k')=>decide (k=k')|_=>ag)|_=>ag)
 | .zB y=>(match o.op with| .convert s d x=>mA σ y x&&(match Q.underlying s,Q.underlying d with|some .string,aa .string=>ae|_,_=>ag)|_=>ag)
 | .xA y=>(match o.op with| .convert s d x=>mA σ y x&&(match Q.underlying s,Q.underlying d with|some (.slice e),aa .string=>anQ Q e&&dF Q e 1|_,_=>ag)|_=>ag)
 | .im g ys=>(match o.op with| .makeFunc (.func f) fst B=>fst.isEmpty&&σ g == f&&mAs σ ys B|_=>ag)
 | .ik=>(match o.op with| .makeMap _ ab=>ae|_=>ag)
 | .eh sz bytes zs U M=>(match o.op with| .makeSlice t l c=>mA σ U l&&mA σ M c&&(me Q t).any (λe=>dF Q e sz&&mL Q e bytes&&kD Q e zs)&&decide (0<sz)|_=>ag)
 | .slice sz y E b mx'=>(match o.op with| .slice t x lo hi mx=>mA σ y x&&mO σ E lo&&mO σ b hi&&mO σ mx' mx&&(me Q t).any (λe=>dF Q e sz)&&decide (0<sz)|_=>ag)
 | .qF sz y b mx'=>(match o.op with| .slice t x ab (aa hi) (aa mx)=>mA σ y x&&mA σ b hi&&mA σ mx' mx&&(me Q t).any (λe=>dF Q e sz)&&decide (0<sz)|_=>ag)
 | .qy y E b=>(match o.op with| .slice t x lo hi ab=>mA σ y x&&mO σ E lo&&mO σ b hi&&(match Q.underlying t with|some .string=>ae|_=>ag)|_=>ag)
 | .pe n sz y E b mx'=>(match o.op with| .slice t x lo hi mx=>mA σ y x&&mO σ E lo&&mO σ b hi&&mO σ mx' mx&&(match Q.underlying t with|some (.array F e)=>n == F&&dF Q e sz|_=>ag)&&decide (0<sz)|_=>ag)
 | .aO H y=>(match o.op with| .fieldAddr t x i=>mA σ y x&&(match Q.underlying t with|some (.struct O)=>(match O[i]? with|some f=>f.offset == H&&(Q.info? f.type).any (λi=>i.size != 0)|none=>ag)|_=>ag)|_=>ag)
 | .field H n y=>(match o.op with| .field t x i=>mA σ y x&&(match Q.underlying t with|some (.struct O)=>(match O[i]? with|some f=>f.offset == H&&sM Q f.type n|none=>ag)|_=>ag)|_=>ag)
 | .bu sz L A K=>(match o.op with| .indexAddr t x i=>mA σ A x&&mA σ K i&&(match Q.underlying t,L with|some (.slice e),ab=>dF Q e sz|some (.array n e),aa F=>n == F&&dF Q e sz|_,_=>ag)|_=>ag)
 | .idxs A K=>(match o.op with| .index t x i=>mA σ A x&&mA σ K i&&(match Q.underlying t with|some .string=>ae|_=>ag)|_=>ag)
 | .xN n sz k A K=>(match o.op with| .index t x i=>mA σ A x&&mA σ K i&&(match Q.underlying t with|some (.array F e)=>n == F&&dF Q e sz&&sM Q e k|_=>ag)|_=>ag)
 | .lookup N z S k'=>(match o.op with| .lookup t m k ok=>mA σ S m&&mA σ k' k&&(ok ==(lW z).isSome)&&(match Q.underlying t with|some (.map kt e)=>K6 Q N kt&&kD Q e (qg ((lW z).getD z))&&(Q.info? e).any (λi=>i.zero.any λu=>if AM ((lW z).getD z)then ai' u else aj3 u)|_=>ag)|_=>ag)
 | .iO N S k' W=>(match o.op with| .mapUpdate t m k v=>mA σ S m&&mA σ k' k&&mA σ W v&&(match Q.underlying t with|some (.map kt _)=>K6 Q N kt|_=>ag)|_=>ag)
 | .range y=>(match o.op with| .range t x=>mA σ y x&&(match Q.underlying t with|some .string=>ae|_=>ag)|_=>ag)
 | .next y=>(match o.op with| .next x ae=>mA σ y x|_=>ag)
 | .extract y j=>(match o.op with| .extract x i=>mA σ y x&&i == j|_=>ag)
 | .defer x xs=>(match o.op with| .defer c=>(match c.callee with| .value y=>mA σ x y&&mAs σ xs c.args|_=>ag)|_=>ag)
 | .len x=>(match o.op with| .call c=>dX Q σ c (.len x)|_=>ag)
 | .lens x=>(match o.op with| .call c=>dX Q σ c (.lens x)|_=>ag)
 | .te n=>(match o.op with| .call c=>dX Q σ c (.te n)|_=>ag)
 | .append sz bytes x y=>(match o.op with| .call c=>dX Q σ c (.append sz bytes x y)|_=>ag)
 | .fu lo xs=>(match o.op with| .call c=>dX Q σ c (.fu lo xs)|_=>ag)
 | .lV sz bytes zs x y=>(match o.op with| .call c=>dX Q σ c (.lV sz bytes zs x y)|_=>ag)
 | .cap x=>(match o.op with| .call c=>dX Q σ c (.cap x)|_=>ag)
 | .clear sz zs x=>(match o.op with| .call c=>dX Q σ c (.clear sz zs x)|_=>ag)
 | .ig y=>(match o.op with| .range t x=>mA σ y x&&(match Q.underlying t with|some (.map _ _)=>ae|_=>ag)|_=>ag)
 | .lT y=>(match o.op with| .next x ag=>mA σ y x|_=>ag)
 | .entry y=>(match o.op with| .entry x=>mA σ y x|_=>ag)
 | .x7 g ys=>(match o.op with| .makeFunc (.func f) fst B=>B.isEmpty&&σ g == f&&mAs σ ys fst|_=>ag)
 | .recover=>(match o.op with| .call c=>dX Q σ c (.recover)|_=>ag)
 | .call f xs h=>(match o.op with| .call c=>dX Q σ c (.call f xs h)|_=>ag)
 | .bZ x xs h=>(match o.op with| .call c=>dX Q σ c (.bZ x xs h)|_=>ag)
 |_=>ag
inductive Cls where|p|r|a|c|w
 deriving DecidableEq
def cls:dn->Cls
 | .cP _| .pick .. | .build .. | .un .. | .gG .. | .zB _| .im .. | .qy .. | .aO .. | .field .. | .idxs .. | .xN .. | .extract .. | .fu .. | .x7 .. | .bB _| .bin .. | .te _| .lens _| .jr ..=>.p| .load .. | .eq .. | .len _| .slice .. | .pe .. | .bu .. | .lookup .. | .xA _| .cap _| .entry _=>.r| .alloc _| .box _| .ik=>.a| .bN .. | .eh ..=>.a| .call _ _ ag=>.c| _=>.w
def Arg.rd:Arg->List P
 | .r p=>[p]| .k _=>[]
def oRd:Option Arg->List P
 |some x=>x.rd| none=>[]
def dn.rd:dn->List P
 | .cP x| .box x| .load _ x| .bB x| .un _ x| .gG _ x| .zB x| .xA x| .ae1 x| .aO _ x| .field _ _ x| .range x| .next x| .extract x _| .len x| .lens x| .cap x| .clear _ _ x| .ig x| .lT x| .entry x=>x.rd| .pre _ _| .alloc _| .ik| .recover| .te _| .bad=>[]| .pick c a b=>c.rd++a.rd++b.rd| .build _ ps=>ps.flatMap λp=>p.2.2.rd
 | .bN _ _ _ ps| .jr _ _ _ ps=>ps.flatMap λp=>p.2.rd
 | .store _ x y| .bin _ x y| .eq _ _ x y| .bu _ _ x y| .idxs x y| .xN _ _ _ x y| .append _ _ x y| .copy _ x y| .lV _ _ _ x y| .lookup _ _ x y| .eh _ _ _ x y=>x.rd++y.rd| .iO _ x y z| .qF _ x y z=>x.rd++y.rd++z.rd| .im _ xs| .call _ xs _| .fu _ xs| .x7 _ xs=>xs.flatMap Arg.rd| .bZ x xs _| .defer x xs=>x.rd++xs.flatMap Arg.rd| .slice _ x a b c| .pe _ _ x a b c=>x.rd++oRd a++oRd b++oRd c| .qy x a b=>x.rd++oRd a++oRd b
def aN.rd(o:aN):List P:=(match o.g with|some (p,_)=>[p]|none=>[])++o.op.rd
def aN.apart(x y:aN):Bool:=
 (match x.dst with|some d=>!y.rd.contains d&&y.dst != aa d|none=>ae)&&(match y.dst with|some d=>!x.rd.contains d|none=>ae)
def rz(x y:aN):Bool:=
 match cls x.op,cls y.op with
 | .p,_|_,.p=>ae| .r,.w| .w,.r=>ae| .w,_|_,.w=>ag| _,_=>ae
def mw(b:List Nat)(o:Oper):Nat:=o.after.toList.foldl (λs e=>if Region.binds .any e then s ||| 2 ^ e.on ||| b.getD e.on 0 else s) 0
def dD:List Oper->List Nat->List Nat
 |[],b=>b| o::os,b=>dD os (b++[mw b o])
def wh(b:List Nat)(i j:Nat):Bool:=(b.getD j 0).testBit i
def lM(aos:List aN):List Nat:=(List.range aos.length).filter λj=>match aos[j]? with
 |some y=>decide (cls y.op=.w)| none=>ag
def phase(aos:List aN)(i:Nat):Nat:=i+((aos.drop i).takeWhile λy=>decide (cls y.op≠.w)).length
def xZ(b:List Nat)(aos:List aN)(i e:Nat):Bool:=
 (lM aos).all λj=>if j<e then !wh b i j else !wh b j i
def ae6(b:List Nat)(aos:List aN)(j:Nat):Bool:=match aos[j]? with
 |some y=>(match y.op with| .alloc _=>ae|_=>ag)&&(lM aos).any λe=>decide (e<j)&&!wh b e j
 |none=>ag
def kj(b:List Nat)(aos:List aN):Nat:=((List.range aos.length).find? (ae6 b aos)).getD aos.length
def A4(b:List Nat)(aos:List aN)(j:Nat):Bool:=match aos[j]? with
 |some y=>y.g.isNone&&(match y.op with| .alloc _=>ae|_=>ag)&&(match y.dst with
  |some p=>(List.range aos.length).all λi=>match aos[i]? with
   |some z=>!z.rd.contains p||(lM aos).all λe=>!decide (e<j)||wh b e i
   |none=>ae
  |none=>ag)
 |none=>ae
def Zz(ops:List Oper)(aos:List aN)(d:List (Nat × Nat)):Bool:=
 let b:=dD ops []
 let n:=aos.length
 ((ops.zip (List.range n)).all λo=>o.1.after.toList.all λe=>!Region.binds .any e||decide (e.on<o.2)) &&
 ((List.range n).all λj=>(List.range j).all λi=>wh b i j||(match aos[i]?,aos[j]? with
  |some x,aa y=>x.apart y&&(rz x y||(decide (j=kj b aos)&&decide (cls x.op=.w)))
  |_,_=>ag)) &&
 A4 b aos (kj b aos) &&
 ((List.range n).all λi=>match aos[i]? with
  |some x=>if cls x.op=.r then(lM aos++[n]).all λe=>e == phase aos i||!xZ b aos i e||d.contains (i,e)else ae
  |none=>ag)
variable(Q:Program)(σ:Nat->FuncId)
def kn(n:Nat)(ops:Array Oper)(o:Oper)(a:aN):Bool:=
 dV Q σ o a.op &&
 (match o.dst,a.dst with|some d,aa p=>p.toNat == d&&decide (d<n)|none,ab=>ae|_,_=>ag) &&
 (match o.guard,a.g with
  |some (j,w),aa (p,w')=>w == w'&&(match (ops[j]?).bind (·.dst)with|some d=>p.toNat == d&&decide (d<n)|none=>ag)
  |none,ab=>ae
  |_,_=>ag)
def ji:ax->Bool
 | .seq a b=>ji a&&ji b| .bad=>ag| _=>ae
def bU(n:Nat):Code->ax->Bool
 |_,.bad=>ae| .skip,.skip=>ae| .region _ ops g,.region aos j=>fC (kn Q σ n ops) ops.toList aos&&(!g||Zz ops.toList aos j)| .seq a b,.seq a' d=>bU n a a'&&bU n b d| .cond c a b,.cond v a' d=>mA σ v c&&bU n a a'&&bU n b d| .block i a,.block m a'=>i == m&&bU n a a'| .loop a,.loop a'=>bU n a a'| .rangeFunc f ps a b,.fK x u a' d=>mA σ x f&&fC (λp (q:P)=>q.toNat == p&&decide (p<n)) ps.toList u&&bU n a a'&&bU n b d
 | .exit i,.exit m=>i == m| .scope a,.scope a'=>bU n a a'&&ji a'| .label l,.label s=>l == s| .goto l,.goto s=>l == s| .ret,.ret=>ae| _,_=>ag
def th(n:Nat):ResultVar->gl->Bool
 | .tmp t,.tmp p=>p.toNat == t&&decide (t<n)| .cell t b,.cell p k=>p.toNat == t&&decide (t<n)&&sM Q b k| _,_=>ag
def ur(f:Func)(a:aG):Bool:=
 f.name != "runtime.NumGoroutine" &&
 (match f.body with|some b=>bU Q σ f.ntmps b a.body|none=>ag) &&
 fC (th Q f.ntmps) f.results.toList a.results &&
 decide (a.ps.map P.toNat=List.range a.ps.length)
end
section
def A2{α β:Type}(R:α->β->Prop)(xs:List α)(ys:List β):Prop:=
 xs.length=ys.length/\∀(i:Nat) x y,xs[i]?=aa x->ys[i]?=aa y->R x y
section A2
variable{α β:Type}{R S:α->β->Prop}{xs xs':List α}{ys ys':List β}
theorem A2.len(h:A2 R xs ys):xs.length=ys.length:=h.1
theorem A2.nil:A2 R [] []:=⟨rfl,by simp⟩
theorem A2.mono(h:A2 R xs ys)(d:∀x y,x∈xs->R x y->S x y):A2 S xs ys:=
 ⟨h.1,λi x y b hy=>d x y (List.mem_of_getElem? b) (h.2 i x y b hy)⟩
theorem A2.get(h:A2 R xs ys){i:Nat}{x:α}(b:xs[i]?=aa x):∃y,ys[i]?=aa y/\R x y:=by
 have hi:i<xs.length:=(aq4.1 b).1;have hy:i<ys.length:=h.1▸hi;exact⟨ys[i],aq2 hy,h.2 i x _ b (aq2 hy)⟩
theorem A2.cons{x:α}{y:β}(g:R x y)(h:A2 R xs ys):A2 R (x::xs) (y::ys):=
 ⟨by simp[h.1],λi a b d hb=>by
  cases i with
  |zero=>simp at d hb;subst d;subst hb;exact g
  |succ i=>simp at d hb;exact h.2 i a b d hb⟩
theorem A2.of_cons{x:α}{y:β}(h:A2 R (x::xs) (y::ys)):R x y/\A2 R xs ys:=
 ⟨h.2 0 x y rfl rfl,by simpa using h.1,λi a b d hb=>h.2 (i+1) a b (by simpa using d) (by simpa using hb)⟩
theorem A2.append(h:A2 R xs ys)(g:A2 R xs' ys'):A2 R (xs++xs') (ys++ys'):=
 ⟨by simp[h.1,g.1],λi a b d hb=>by
  by_cases hi:i<xs.length
  .rw[aq1 hi]at d;rw[aq1 (h.1▸hi)]at hb;exact h.2 i a b d hb
  .rw[arc (by omega)]at d;rw[arc (by have:=h.1;omega),<-h.1]at hb;exact g.2 _ a b d hb⟩
theorem A2.take(h:A2 R xs ys)(n:Nat):A2 R (xs.take n) (ys.take n):=
 ⟨by simp[h.1],λi a b d hb=>by
  rw[arX]at d hb;split at d
  .rename_i hi;simp only[hi,if_true]at hb;exact h.2 i a b d hb
  .simp at d⟩
theorem A2.drop(h:A2 R xs ys)(n:Nat):A2 R (xs.drop n) (ys.drop n):=
 ⟨by simp[h.1],λi a b d hb=>by
  rw[arC]at d hb;exact h.2 _ a b d hb⟩
theorem A2.map{l:Type}{g:l->α}{zs:List l}(h:A2 (λz y=>R (g z) y) zs ys):A2 R (zs.map g) ys:=
 ⟨by simpa using h.1,λi a b d hb=>by
  rw[asf]at d;cases j:zs[i]? with
  |none=>rw[j]at d;simp at d
  |some z=>rw[j]at d;simp at d;subst d;exact h.2 i z b j hb⟩
theorem A2.kH(h:A2 R xs ys)(b:∀x y,R x y->S x y):A2 S xs ys:=h.mono λx y _=>b x y
end A2
inductive cS(σ:Nat->FuncId)(F:Nat->Nat->Prop)(w:World):FC->Value->Prop
 |bool (b:Bool):cS σ F w (.bool b) (.bool b)
 |int (k:IntKind) (n:Int):cS σ F w (.int k n) (.int k n)
 |str (s:ByteArray):cS σ F w (.str s) (.string s)
 |kr:cS σ F w .kr (.pointer ab)
 |aw:cS σ F w .aw (.slice ab 0 0)
 |es (a:Addr):cS σ F w .es (.slice (aa a) 0 0)
 |jw:cS σ F w .jw .nilFunc
 |nT:cS σ F w .nT .nilIface
 |nD:cS σ F w .nD (.map ab)
 |fp (cs:List FC) (off c o:Nat) (us:List Value) (hl:us.length=cs.length) (hF:∀i,i<cs.length->F c (o+i))
   (hc:∀(i:Nat) u,us[i]?=aa u->w.cell? ⟨c,o+i,ab⟩=aa u) (hr:∀(i:Nat) x u,cs[i]?=aa x->us[i]?=aa u->cS σ F w x u) :
   cS σ F w (.fp cs off) (.pointer (aa ⟨c,o+off,ab⟩))
 |fs (cs:List FC) (l c o cap:Nat) (us:List Value) (aqR:l<=cap) (hl:us.length=cs.length) (hF:∀i,i<cs.length->F c (o+i))
   (hc:∀(i:Nat) u,us[i]?=aa u->w.cell? ⟨c,o+i,ab⟩=aa u) (hr:∀(i:Nat) x u,cs[i]?=aa x->us[i]?=aa u->cS σ F w x u) :
   cS σ F w (.fs cs l) (.slice (aa ⟨c,o,ab⟩) l cap)
 |fs0 (a:Addr) (cap:Nat):cS σ F w (.fs [] 0) (.slice (aa a) 0 cap)
 |fn (f:Nat) (Ka:List FC) (us:List Value) (hl:us.length=Ka.length) (hr:∀(i:Nat) x u,Ka[i]?=aa x->us[i]?=aa u->cS σ F w x u) :
   cS σ F w (.fn f Ka) (.func (.func (σ f)) #[] us.toArray)
theorem cS.mono{σ:Nat->FuncId}{F m:Nat->Nat->Prop}{w w':World}(q:∀c i,F c i->m c i)
  (y:∀c i,F c i->w'.cell? ⟨c,i,ab⟩=w.cell? ⟨c,i,ab⟩) {x:FC} {v:Value} (h:cS σ F w x v):cS σ m w' x v:=by
 induction h with
 |fp cs off c o us hl b hc s j=>
  refine .fp cs off c o us hl (λi hi=>q _ _ (b i hi)) (λi u hu=>?_) j;rw[y c (o+i) (b i (by rw[<-hl];exact(aq4.1 hu).1))];exact hc i u hu
 |fs cs l c o cap us g hl b hc s j=>
  refine .fs cs l c o cap us g hl (λi hi=>q _ _ (b i hi)) (λi u hu=>?_) j;rw[y c (o+i) (b i (by rw[<-hl];exact(aq4.1 hu).1))];exact hc i u hu
 |fn f d us hl s j=>exact .fn f d us hl j| _=>constructor
theorem cS.one{σ:Nat->FuncId}{F:Nat->Nat->Prop}{w:World}{x:FC}{v:Value}(h:cS σ F w x v):v.oneCell'=ae:=by
 cases h<;>rfl
structure Loc where
 c:Nat
 cap:Nat
structure Wd where
 cE:Nat->Option Loc
 F:Nat->Nat->Prop
 H:aj
 w:World
 B:Nat
variable(σ:Nat->FuncId)
def fM(X:Wd):C->Value->Prop
 | .f x,v=>cS σ X.F X.w x v
 | .ptr b j g,v=>∃L,X.cE b=aa L/\match X.H[b]? with
  |some (.box _ _)=>v=.pointer (aa ⟨L.c,j,ab⟩)| some (.cK _ _ _ e .loc)=>g<=e/\(g=e->v=.pointer (aa ⟨L.c,j,ab⟩))/\∃a,v=.pointer (aa a)| _=>False
 | .sl b o l cap g sz,v=>match X.H[b]? with
  |some (.box _ _)=>∃L,X.cE b=aa L/\l<=cap/\v=.slice (aa ⟨L.c,o,ab⟩) l cap
  |some (.cK s _ _ e st)=>g<=e/\(g=e->sz=s->match st with
    | .loc=>∃L,X.cE b=aa L/\∃k,o=k*s/\k+l<=L.cap/\v=.slice (aa ⟨L.c,o,ab⟩) l (L.cap-k)| .nil=>o=0/\l=0/\v=.slice ab 0 0
    | .es=>o=0/\l=0/\∃a,v=.slice (aa a) 0 0)/\∃a n c,v=.slice a n c
  |_=>False
 | .cl _ _,_=>False| .yl b,v=>∃L,X.cE b=aa L/\(∃f t p a u s q d,X.H[b]?=aa (.lp f t p a u s q d))/\v=.func (.yield L.c) #[] #[]| .mp b,v=>∃L,X.cE b=aa L/\(∃y,X.H[b]?=aa (.map y))/\v=.map (aa L.c)| .it b,v=>∃L,X.cE b=aa L/\(∃s p,X.H[b]?=aa (.it s p))/\v=.pointer (aa ⟨L.c,0,ab⟩)| .mi b,v=>∃L,X.cE b=aa L/\(∃m s d,X.H[b]?=aa (.x6 m s d))/\v=.pointer (aa ⟨L.c,0,ab⟩)| .bm _ _,_=>False
def CR(X:Wd):C->Value->Prop
 | .cl f b,v=>∃us,v=.func (.func (σ f)) #[] us.toArray/\A2 (fM σ X) b us| .bm f first,v=>∃us,v=.func (.func (σ f)) us.toArray #[]/\A2 (fM σ X) first us
 |x,v=>fM σ X x v
theorem fM.one{X:Wd}{x:C}{v:Value}(h:fM σ X x v):v.oneCell'=ae:=by
 cases x with
 |f x=>exact cS.one h
 |ptr b off g=>
  obtain⟨L,_,h⟩:=h;split at h
  .subst h;rfl
  .obtain⟨_,_,a,rfl⟩:=h;rfl
  .exact h.elim
 |sl b o l cap g sz=>
  simp only[fM]at h;split at h
  .obtain⟨L,_,_,rfl⟩:=h;rfl
  .obtain⟨_,_,a,n,c,rfl⟩:=h;rfl
  .exact h.elim
 |cl f d=>exact h.elim| yl b=>obtain⟨L,_,_,rfl⟩:=h;rfl
 |mp b=>obtain⟨L,_,_,rfl⟩:=h;rfl
 |it b=>obtain⟨L,_,_,rfl⟩:=h;rfl
 |mi b=>obtain⟨L,_,_,rfl⟩:=h;rfl
 |bm f first=>exact h.elim
theorem CR.one{X:Wd}{x:C}{v:Value}(h:CR σ X x v):v.oneCell'=ae:=by
 cases x with
 |cl f j=>obtain⟨us,rfl,_⟩:=h;rfl
 |bm f first=>obtain⟨us,rfl,_⟩:=h;rfl
 |mi b=>exact fM.one σ (x:=.mi b) h| f y=>exact fM.one σ (x:=.f y) h| ptr a b c=>exact fM.one σ (x:=.ptr a b c) h| sl a b c d e g=>exact fM.one σ (x:=.sl a b c d e g) h| yl b=>exact fM.one σ (x:=.yl b) h| mp b=>exact fM.one σ (x:=.mp b) h| it b=>exact fM.one σ (x:=.it b) h
theorem CR.of1{X:Wd}{x:C}{v:Value}(h:fM σ X x v):CR σ X x v:=by
 cases x with
 |cl f b=>exact h.elim| bm f first=>exact h.elim
 |_=>exact h
def ib(X:Wd):V->Value->Prop
 | .top,_=>True| .c x,v=>CR σ X x v| .a xs,v=>∃us,v=.agg us.toArray/\A2 (CR σ X) xs us| .t _,_=>False
def VR(X:Wd):V->Value->Prop
 | .t b,v=>∃us,v=.tuple us.toArray/\A2 (ib σ X) b us| x,v=>ib σ X x v
theorem VR.of1{X:Wd}{x:V}{v:Value}(h:ib σ X x v):VR σ X x v:=by
 cases x with
 |t b=>exact h.elim| _=>exact h
def rowAt(w:World)(c:Nat)(us:List Value):Prop:=
 ∃e b,w.heap[c]?=aa (.cells us.toArray e b)/\∀i,i<=us.length->¬(b.1<=i/\i<b.2)
def lO(X X':Wd)(b:Nat):Prop:=
 ∀bY,X.H[b]?=aa bY->∃blk',X'.H[b]?=aa blk'/\match bY,blk' with
  | .box _ _,.box _ _=>∀L,X.cE b=aa L->X'.cE b=aa L| .cK s _ _ e st,.cK g _ _ j st'=>s=g/\((e=j/\st=st'/\∀L,X.cE b=aa L->X'.cE b=aa L)\/(e<j/\st'=.loc/\∃L,X'.cE b=aa L))| .map _,.map _=>∀L,X.cE b=aa L->X'.cE b=aa L| .it _ _,.it _ _=>∀L,X.cE b=aa L->X'.cE b=aa L| .fj _,.fj _=>∀L,X.cE b=aa L->X'.cE b=aa L| .x6 m s _,.x6 u g _=>(m=u/\s=g)/\∀L,X.cE b=aa L->X'.cE b=aa L| .lp f t p a c _ _ d,.lp q x v a' l _ _ d'=>(f=q/\t=x/\p=v/\a=a'/\c=l/\d=d')/\∀L,X.cE b=aa L->X'.cE b=aa L| _,_=>False
structure Ext(N:Nat)(X X':Wd):Prop where
 B:X'.B=X.B
 F:∀c i,X.F c i->X'.F c i
 ov:∀c i,X'.F c i->X.F c i\/X.w.heap.size<=c\/∃b L,X.cE b=aa L/\L.c=c
 fw:∀c i,X.F c i->X'.w.cell? ⟨c,i,ab⟩=X.w.cell? ⟨c,i,ab⟩
 bE:∀b,b<N->lO X X' b
 ue:∀b L,X'.cE b=aa L->(∃b0 L0,X.cE b0=aa L0/\L0.c=L.c)\/X.w.heap.size<=L.c
 size:X.w.heap.size<=X'.w.heap.size
 os:X'.w.os=X.w.os
 tape:X'.w.tape=X.w.tape
 output:X'.w.output=X.w.output
 frame:∀k,k<X.w.heap.size->(∀b L,X.cE b=aa L->L.c≠k)->X'.w.heap[k]?=X.w.heap[k]?
structure ot(N:Nat)(X X':Wd):Prop where
 F:∀c i,X.F c i->X'.F c i
 fw:∀c i,X.F c i->X'.w.cell? ⟨c,i,ab⟩=X.w.cell? ⟨c,i,ab⟩
 bE:∀b,b<N->lO X X' b
theorem Ext.W{N:Nat}{X X':Wd}(h:Ext N X X'):ot N X X':=⟨h.F,h.fw,h.bE⟩
theorem lO.refl(X:Wd)(b:Nat):lO X X b:=λbY h=>⟨bY,h,by cases bY<;>simp⟩
theorem lO.trans{X Y Z:Wd}{b:Nat}(h:lO X Y b)(k:lO Y Z b):lO X Z b:=by
 intro bY hb;obtain⟨blk',m,h1⟩:=h bY hb;obtain⟨g,j,h2⟩:=k blk' m;refine⟨g,j,?_⟩;cases bY<;>cases blk'<;>simp only at h1<;>cases g<;>simp only at h2 ⊢
 case box=>exact λL d=>h2 L (h1 L d)
 case map=>exact λL d=>h2 L (h1 L d)
 case it=>exact λL d=>h2 L (h1 L d)
 case fj=>exact λL d=>h2 L (h1 L d)
 case x6=>
  obtain⟨⟨rfl,rfl⟩,h1⟩:=h1;obtain⟨⟨rfl,rfl⟩,h2⟩:=h2;exact⟨⟨rfl,rfl⟩,λL d=>h2 L (h1 L d)⟩
 case lp=>
  obtain⟨⟨rfl,rfl,rfl,rfl,rfl,rfl⟩,h1⟩:=h1;obtain⟨⟨rfl,rfl,rfl,rfl,rfl,rfl⟩,h2⟩:=h2;exact⟨⟨rfl,rfl,rfl,rfl,rfl,rfl⟩,λL d=>h2 L (h1 L d)⟩
 case cK=>
  obtain⟨rfl,h1⟩:=h1;obtain⟨rfl,h2⟩:=h2;refine⟨rfl,?_⟩;rcases h1 with⟨rfl,rfl,h1⟩|⟨h1,rfl,L,d⟩
  .rcases h2 with⟨rfl,rfl,h2⟩|⟨h2,rfl,L,d⟩
   .exact .inl ⟨rfl,rfl,λL d=>h2 L (h1 L d)⟩
   .exact .inr ⟨h2,rfl,L,d⟩
  .rcases h2 with⟨rfl,rfl,h2⟩|⟨h2,rfl,q,l⟩
   .exact .inr ⟨h1,rfl,L,h2 L d⟩
   .exact .inr ⟨by omega,rfl,q,l⟩
theorem Ext.refl(N:Nat)(X:Wd):Ext N X X:=
 ⟨rfl,λ_ _ h=>h,λ_ _ h=>.inl h,λ_ _ _=>rfl,λb _=>lO.refl X b,λb L h=>.inl ⟨b,L,h,rfl⟩,aq9 _,rfl,rfl,rfl,λ_ _ _=>rfl⟩
theorem Ext.trans{N:Nat}{X Y Z:Wd}(h:Ext N X Y)(k:Ext N Y Z):Ext N X Z where
 B:=k.B.trans h.B
 F:=λc i d=>k.F c i (h.F c i d)
 ov:=λc i d=>by
  rcases k.ov c i d with h1|h1|⟨b,L,hb,rfl⟩
  .exact h.ov c i h1
  .exact .inr (.inl (arB h.size h1))
  .rcases h.ue b L hb with⟨b0,L0,h0,h1⟩|h1
   .exact .inr (.inr ⟨b0,L0,h0,h1⟩)
   .exact .inr (.inl h1)
 fw:=λc i d=>(k.fw c i (h.F c i d)).trans (h.fw c i d)
 bE:=λb hb=>(h.bE b hb).trans (k.bE b hb)
 ue:=λb L hb=>by
  rcases k.ue b L hb with⟨b0,L0,h0,h1⟩|h1
  .rcases h.ue b0 L0 h0 with⟨b1,m,h2,h3⟩|h2
   .exact .inl ⟨b1,m,h2,h3.trans h1⟩
   .exact .inr (h1▸h2)
  .exact .inr (arB h.size h1)
 size:=arB h.size k.size
 os:=k.os.trans h.os
 tape:=k.tape.trans h.tape
 output:=k.output.trans h.output
 frame:=λj g l=>by
  rw[k.frame j (asg g h.size) (λb L hb hc=>?_)]
  .exact h.frame j g l
  .rcases h.ue b L hb with⟨b0,L0,h0,h1⟩|h1
   .exact l b0 L0 h0 (h1.trans hc)
   .omega
theorem Ext.mono{N M:Nat}{X Y:Wd}(h:Ext N X Y)(d:M<=N):Ext M X Y:=
 {h with bE:=λb hb=>h.bE b (asg hb d) }
theorem fM.under{X:Wd}{x:C}{v:Value}(h:fM σ X x v):x.e9 X.H.length=ae:=by
 have lt:∀(b:Nat) bY,X.H[b]?=aa bY->b<X.H.length:=λb bY hb=>(aq4.1 hb).1;cases x with
 |f x=>rfl
 |ptr b off j=>
  obtain⟨L,_,h⟩:=h;split at h
  .rename_i hb;simpa[C.e9]using lt _ _ hb
  .rename_i hb;simpa[C.e9]using lt _ _ hb
  .exact h.elim
 |sl b o l cap j sz=>
  simp only[fM]at h;split at h
  .rename_i hb;simpa[C.e9]using lt _ _ hb
  .rename_i hb;simpa[C.e9]using lt _ _ hb
  .exact h.elim
 |cl f g=>exact h.elim| yl b=>obtain⟨L,_,⟨f,t,p,a,u,s,q,d,hb⟩,rfl⟩:=h;simpa[C.e9]using lt _ _ hb
 |mp b=>obtain⟨L,_,⟨es,hb⟩,rfl⟩:=h;simpa[C.e9]using lt _ _ hb
 |it b=>obtain⟨L,_,⟨s,p,hb⟩,rfl⟩:=h;simpa[C.e9]using lt _ _ hb
 |mi b=>obtain⟨L,_,⟨m,s,d,hb⟩,rfl⟩:=h;simpa[C.e9]using lt _ _ hb
 |bm f first=>exact h.elim
theorem fM.oF{N:Nat}{X X':Wd}(u:ot N X X'){x:C}{v:Value}(hu:x.e9 N=ae)(h:fM σ X x v):fM σ X' x v:=by
 cases x with
 |f x=>exact cS.mono u.F u.fw h
 |ptr b off H=>
  obtain⟨L,j,h⟩:=h;have z:=u.bE b (by simpa[C.e9]using hu);split at h
  .rename_i cs A hb;obtain⟨blk',g,h1⟩:=z _ hb;cases blk'<;>simp only at h1;exact⟨L,h1 L j,by rw[g];exact h⟩
  .rename_i s cs A e hb;obtain⟨blk',g,h1⟩:=z _ hb;cases blk'<;>simp only at h1;obtain⟨rfl,⟨rfl,rfl,h2⟩|⟨h2,rfl,E,y⟩⟩:=h1
   .exact⟨L,h2 L j,by rw[g];exact h⟩
   .exact⟨E,y,by rw[g];exact⟨by omega,λh3=>by omega,h.2.2⟩⟩
  .exact h.elim
 |sl b o l cap H sz=>
  simp only[fM]at h ⊢;have z:=u.bE b (by simpa[C.e9]using hu);split at h
  .rename_i cs A hb;obtain⟨L,j,h⟩:=h;obtain⟨blk',g,h1⟩:=z _ hb;cases blk'<;>simp only at h1;rw[g];exact⟨L,h1 L j,h⟩
  .rename_i s cs A e st hb;obtain⟨blk',g,h1⟩:=z _ hb;cases blk'<;>simp only at h1;rw[g];obtain⟨rfl,⟨rfl,rfl,h2⟩|⟨h2,rfl,E,y⟩⟩:=h1
   .refine⟨h.1,λh3 I=>?_,h.2.2⟩;have B:=h.2.1 h3 I;cases st with
    |loc=>obtain⟨L,j,J⟩:=B;exact⟨L,h2 L j,J⟩
    |nil=>exact B| es=>exact B
   .exact⟨by omega,λh3=>by omega,h.2.2⟩
  .exact h.elim
 |cl f F=>exact h.elim
 |yl b=>
  obtain⟨L,j,⟨f,t,p,a,K,s,q,d,hb⟩,rfl⟩:=h;obtain⟨blk',g,h1⟩:=u.bE b (by simpa[C.e9]using hu) _ hb;cases blk'<;>simp only at h1;exact⟨L,h1.2 L j,⟨_,_,_,_,_,_,_,_,g⟩,rfl⟩
 |mp b=>
  obtain⟨L,j,⟨es,hb⟩,rfl⟩:=h;obtain⟨blk',g,h1⟩:=u.bE b (by simpa[C.e9]using hu) _ hb;cases blk'<;>simp only at h1;exact⟨L,h1 L j,⟨_,g⟩,rfl⟩
 |it b=>
  obtain⟨L,j,⟨s,p,hb⟩,rfl⟩:=h;obtain⟨blk',g,h1⟩:=u.bE b (by simpa[C.e9]using hu) _ hb;cases blk'<;>simp only at h1;exact⟨L,h1 L j,⟨_,_,g⟩,rfl⟩
 |mi b=>
  obtain⟨L,j,⟨m,s,d,hb⟩,rfl⟩:=h;obtain⟨blk',g,h1⟩:=u.bE b (by simpa[C.e9]using hu) _ hb;cases blk'<;>simp only at h1;exact⟨L,h1.2 L j,⟨_,_,_,g⟩,rfl⟩
 |bm f first=>exact h.elim
theorem CR.oF{N:Nat}{X X':Wd}(j:ot N X X'){x:C}{v:Value}(hu:x.under N=ae)(h:CR σ X x v):CR σ X' x v:=by
 cases x with
 |cl f m=>
  obtain⟨us,rfl,h⟩:=h;refine⟨us,rfl,h.mono λy u hy l=>fM.oF σ j ?_ l⟩;exact ars.1 hu y hy
 |bm f first=>
  obtain⟨us,rfl,h⟩:=h;refine⟨us,rfl,h.mono λy u hy l=>fM.oF σ j ?_ l⟩;exact ars.1 hu y hy
 |mi b=>exact fM.oF σ j (x:=.mi b) hu h| f y=>exact fM.oF σ j (x:=.f y) hu h| ptr a b c=>exact fM.oF σ j (x:=.ptr a b c) hu h| sl a b c d e g=>exact fM.oF σ j (x:=.sl a b c d e g) hu h| yl b=>exact fM.oF σ j (x:=.yl b) hu h| mp b=>exact fM.oF σ j (x:=.mp b) hu h| it b=>exact fM.oF σ j (x:=.it b) hu h
end
section
variable(Q:Program)(σ:Nat->FuncId)
theorem CR.under{X:Wd}{x:C}{v:Value}(h:CR σ X x v):x.under X.H.length=ae:=by
 cases x with
 |cl f j=>
  obtain⟨us,rfl,h⟩:=h;simp only[C.under,ars];intro y hy;obtain⟨i,hi⟩:=asl hy;obtain⟨u,_,hu⟩:=h.get hi;exact fM.under σ hu
 |bm f j=>
  obtain⟨us,rfl,h⟩:=h;simp only[C.under,ars];intro y hy;obtain⟨i,hi⟩:=asl hy;obtain⟨u,_,hu⟩:=h.get hi;exact fM.under σ hu
 |mi b=>exact fM.under σ (x:=.mi b) h| f y=>rfl| ptr a b c=>exact fM.under σ (x:=.ptr a b c) h| sl a b c d e g=>exact fM.under σ (x:=.sl a b c d e g) h| yl b=>exact fM.under σ (x:=.yl b) h| mp b=>exact fM.under σ (x:=.mp b) h| it b=>exact fM.under σ (x:=.it b) h
theorem CR.eg{X X':Wd}(b:ot X.H.length X X'){x:C}{v:Value}(h:CR σ X x v):CR σ X' x v:=CR.oF σ b (CR.under σ h) h
theorem A2.eg{X X':Wd}(b:ot X.H.length X X'){xs:List C}{us:List Value}(h:A2 (CR σ X) xs us):A2 (CR σ X') xs us:=
 h.kH λ_ _ h=>CR.eg σ b h
theorem ib.eg{X X':Wd}(b:ot X.H.length X X'){x:V}{v:Value}(h:ib σ X x v):ib σ X' x v:=by
 cases x with
 |top=>trivial| c x=>exact CR.eg σ b h| a xs=>obtain⟨us,rfl,h⟩:=h;exact⟨us,rfl,A2.eg σ b h⟩
 |t d=>exact h.elim
theorem VR.eg{X X':Wd}(b:ot X.H.length X X'){x:V}{v:Value}(h:VR σ X x v):VR σ X' x v:=by
 cases x with
 |t d=>obtain⟨us,rfl,h⟩:=h;exact⟨us,rfl,h.kH λ_ _ h=>ib.eg σ b h⟩
 |top=>trivial| c x=>exact ib.eg σ (x:=.c x) b h| a xs=>exact ib.eg σ (x:=.a xs) b h
def RR(X:Wd)(aF:T)(tmps:Array Value):Prop:=∀p,VR σ X (aF.get p) (tmps.getD p.toNat undef)
theorem RR.eg{X X':Wd}(b:ot X.H.length X X'){aF:T}{tmps:Array Value}(h:RR σ X aF tmps):RR σ X' aF tmps:=λp=>VR.eg σ b (h p)
theorem CR.ext'{X X':Wd}(b:Ext X.H.length X X'){x:C}{v:Value}(h:CR σ X x v):CR σ X' x v:=CR.eg σ b.W h
theorem A2.ext'{X X':Wd}(b:Ext X.H.length X X'){xs:List C}{us:List Value}(h:A2 (CR σ X) xs us):A2 (CR σ X') xs us:=A2.eg σ b.W h
theorem ib.ext'{X X':Wd}(b:Ext X.H.length X X'){x:V}{v:Value}(h:ib σ X x v):ib σ X' x v:=ib.eg σ b.W h
theorem VR.ext'{X X':Wd}(b:Ext X.H.length X X'){x:V}{v:Value}(h:VR σ X x v):VR σ X' x v:=VR.eg σ b.W h
theorem RR.ext'{X X':Wd}(b:Ext X.H.length X X'){aF:T}{tmps:Array Value}(h:RR σ X aF tmps):RR σ X' aF tmps:=RR.eg σ b.W h
theorem T.oH(t:T)(p q:P)(v:V):(t.set p v).get q=if p=q then v else t.get q:=by
 induction t generalizing p q with
 |e=>
  induction p generalizing q with
  |h=>cases q<;>simp[T.set,T.get]
  |o p b=>cases q<;>simp[T.set,T.get,b]
  |i p b=>cases q<;>simp[T.set,T.get,b]
 |n l j r d g=>cases p<;>cases q<;>simp[T.set,T.get,d,g]
theorem P.toNat_inj{p q:P}(h:p.toNat=q.toNat):p=q:=by
 induction p generalizing q with
 |h=>cases q<;>simp[P.toNat]at h ⊢
 |o p b=>
  cases q with
  |h=>simp[P.toNat]at h| o q=>simp only[P.toNat]at h;rw[b (q:=q) (by omega)]
  |i q=>simp[P.toNat]at h;omega
 |i p b=>
  cases q with
  |h=>simp[P.toNat]at h| o q=>simp[P.toNat]at h;omega| i q=>simp only[P.toNat]at h;rw[b (q:=q) (by omega)]
theorem RR.set{X:Wd}{aF:T}{tmps:Array Value}(h:RR σ X aF tmps){p:P}(g:p.toNat<tmps.size){v:V}{u:Value}(j:VR σ X v u) :
  RR σ X (aF.set p v) (tmps.setIfInBounds p.toNat u):=by
 intro q;rw[T.oH];by_cases d:p=q
 .subst d;simpa[g]using j
 .have b:p.toNat≠q.toNat:=λe=>d (P.toNat_inj e);simpa[d,Array.getD_eq_getD_getElem?,Array.getElem?_setIfInBounds_ne b]using h q
def dt.of:dt->LoopState
 | .ready=>.ready| .busy=>.busy| .done=>.done| .exhausted=>.exhausted
def uu(n:Nat):Option ax->Option Code->Prop
 |none,ab=>True| some a,aa c=>bU Q σ n c a=ae| _,_=>False
def BR(X:Wd):cH->Loc->Prop
 | .box cs y,L=>∃us,rowAt X.w L.c us/\A2 (CR σ X) cs us/\∀i,y<=i->¬ X.F L.c i| .cK sz cs y _ st,L=>st=.loc/\∃us rest,rowAt X.w L.c (us++rest)/\A2 (CR σ X) cs us/\(us++rest).length=L.cap*sz/\0<sz/\(∃n,cs.length=n*sz)/\∀i,y<=i->¬ X.F L.c i| .map x,L=>∃g:List MapEntry,X.w.heap[L.c]?=aa (.map g.toArray g.length)/\A2 (λe m=>cS σ X.F X.w e.1 m.key/\ib σ X (mV e.2) m.val) x g/\∀(i:Nat) m,g[i]?=aa m->m.born=i
 | .x6 m j done,L=>∃(B:Loc) (z:Array Nat) (st:Nat),X.cE m=aa B/\(∃x,X.H[m]?=aa (.map x))/\X.w.heap[L.c]?=aa (.mapIter (aa B.c) j z st)/\(if done then z=#[0]/\st=1 else z=#[])| .it s pos,L=>X.w.heap[L.c]?=aa (.stringIter s pos)| .fj b,L=>X.w.heap[L.c]?=aa (.deferred (if b then aa []else ab))
 | .lp f tmps ps as bd st u d,L=>∃(n:Nat) (us:Array Value) (v:Array Tmp) (as' l:Code) (pend':Option Code) (A:Loc),
   X.w.heap[L.c]?=aa (.loop { state:=st.of,pending:=pend',fn:=σ f,tmps:=us,params:=v,assign:=as',body:=l,defers:=A.c })/\
   n<=us.size/\RR σ X tmps us/\fC (λp (q:P)=>q.toNat == p&&decide (p<n)) v.toList ps=ae/\bU Q σ n as' as=ae/\bU Q σ n l bd=ae/\uu Q σ n u pend'/\X.cE d=aa A/\∃o,X.H[d]?=aa (.fj o)
theorem BR.oF{X X':Wd}(g:ot X.H.length X X'){bY:cH}{L:Loc}(q:X'.w.heap[L.c]?=X.w.heap[L.c]?)(M:∀i,X'.F L.c i->X.F L.c i)(h:BR Q σ X bY L):BR Q σ X' bY L:=by
 cases bY with
 |box cs O=>
  obtain⟨us,⟨e,fr,h1,h2⟩,h3,j⟩:=h;exact⟨us,⟨e,fr,q.trans h1,h2⟩,A2.eg σ g h3,λi hi B=>j i hi (M i B)⟩
 |cK sz cs O Y st=>
  obtain⟨E,us,rest,⟨e,fr,h1,h2⟩,h3,j,u,z,A⟩:=h;exact⟨E,us,rest,⟨e,fr,q.trans h1,h2⟩,A2.eg σ g h3,j,u,z,λi hi B=>A i hi (M i B)⟩
 |map es=>
  obtain⟨x,h1,h2,h3⟩:=h;exact⟨x,q.trans h1,h2.kH λ_ _ h=>⟨cS.mono g.F g.fw h.1,ib.eg σ g h.2⟩,h3⟩
 |x6 m H done=>
  obtain⟨J,W,st,h1,⟨es,h2⟩,h3,j⟩:=h;obtain⟨blk',l,u⟩:=g.bE m (aq4.1 h2).1 _ h2;cases blk'<;>simp only at u;exact⟨J,W,st,u J h1,⟨_,l⟩,q.trans h3,j⟩
 |it s pos=>exact q.trans h| fj b=>exact q.trans h
 |lp f tmps ps as bd st N d=>
  obtain⟨n,us,F,as',y,pend',I,h1,h2,h3,j,u,z,A,S,o,K⟩:=h;have U:d<X.H.length:=(aq4.1 K).1;obtain⟨blk',l,v⟩:=g.bE d U _ K;cases blk'<;>simp only at v;exact⟨n,us,F,as',y,pend',I,q.trans h1,h2,RR.eg σ g h3,j,u,z,A,v I S,_,l⟩
theorem BR.ext{X X':Wd}(g:Ext X.H.length X X'){bY:cH}{L:Loc}(d:X'.w.heap[L.c]?=X.w.heap[L.c]?)(b:∀i,X'.F L.c i->X.F L.c i)(h:BR Q σ X bY L):BR Q σ X' bY L:=BR.oF Q σ g.W d b h
structure SR(X:Wd):Prop where
 br:∀b L,X.cE b=aa L->X.B<=L.c/\L.c<X.w.heap.size/\∃bY,X.H[b]?=aa bY/\BR Q σ X bY L
 inj:∀b b' L L',X.cE b=aa L->X.cE b'=aa L'->L.c=L'.c->b=b'
 fb:∀c i,X.F c i->c<X.w.heap.size
theorem SR.step{X X':Wd}(u:SR Q σ X)(s:Ext X.H.length X X')(b0:Nat)(y:∀b,b≠b0->X'.H[b]?=X.H[b]?)(d:∀b,b≠b0->X'.cE b=X.cE b)
  (z:∀b L,b≠b0->X.cE b=aa L->X'.w.heap[L.c]?=X.w.heap[L.c]?) (x:∀b L,b≠b0->X.cE b=aa L->∀i,X'.F L.c i->X.F L.c i)
  (h0:∀L,X'.cE b0=aa L->X.B<=L.c/\L.c<X'.w.heap.size/\(∃bY,X'.H[b0]?=aa bY/\BR Q σ X' bY L)/\∀b j,b≠b0->X.cE b=aa j->j.c≠L.c)
  (q:∀c i,X'.F c i->c<X'.w.heap.size):SR Q σ X' where
 br:=λb L hb=>by
  rw[s.B];by_cases h:b=b0
  .subst h;obtain⟨h1,h2,h3,_⟩:=h0 L hb;exact⟨h1,h2,h3⟩
  .rw[d b h]at hb;obtain⟨h1,h2,bY,h3,v⟩:=u.br b L hb;exact⟨h1,asg h2 s.size,bY,(y b h).trans h3,BR.ext Q σ s (z b L h hb) (x b L h hb) v⟩
 fb:=λc i h=>q c i h
 inj:=λb l L j hb g hc=>by
  by_cases h:b=b0<;>by_cases m:l=b0
  .rw[h,m]
  .subst h;rw[d l m]at g;exact absurd hc.symm ((h0 L hb).2.2.2 l j m g)
  .subst m;rw[d b h]at hb;exact absurd hc ((h0 j g).2.2.2 b L h hb)
  .rw[d b h]at hb;rw[d l m]at g;exact u.inj b l L j hb g hc
end
section
variable{Q:Program}{σ:Nat->FuncId}{X:Wd}
theorem aW{t:TypeId}{d:TypeDesc}(h:Q.underlying t=aa d)(w:World):(underlying t).run Q w=.ok d w:=by
 simp[underlying,h]
theorem dj{t:TypeId}{n:Nat}(h:dF Q t n=ae)(w:World):(Go.sizeOf t).run Q w=.ok n w:=by
 unfold dF at h;cases hi:Q.info? t with
 |none=>simp[hi]at h| some i=>simp[hi]at h;simp[Go.sizeOf,typeInfo,hi,h]
theorem vV{t:TypeId}{n:Nat}(h:mL Q t n=ae)(w:World):∃i,(typeInfo t).run Q w=.ok i w/\i.bytes=n:=by
 unfold mL at h;cases hi:Q.info? t with
 |none=>simp[hi]at h| some i=>simp[hi]at h;exact⟨i,by simp[typeInfo,hi],h⟩
theorem BJ{t:TypeId}{n:Option Nat}(h:sM Q t n=ae)(w:World):(isAgg t).run Q w=.ok n.isSome w/\∀k,n=aa k->dF Q t k=ae:=by
 unfold sM at h;cases b:Q.underlying t with
 |none=>simp[b]at h
 |some d=>
  cases d<;>cases n<;>simp_all [isAgg,aW b]
theorem eo(c o k:Nat):(⟨c,o,ab⟩:Addr).add k=⟨c,o+k,ab⟩:=by unfold Addr.add;split<;>simp_all
theorem ec{w:World}{c:Nat}{us:List Value}(h:rowAt w c us)(i:Nat):w.cell? ⟨c,i,ab⟩=us[i]?:=by
 obtain⟨e,b,h,_⟩:=h;simp[World.cell?,h]
theorem zK{w:World}{c:Nat}{us:List Value}(h:rowAt w c us){i:Nat}(hi:i<us.length):w.frozen? ⟨c,i,ab⟩=ag:=by
 obtain⟨e,d,h,b⟩:=h;have:=b i (Nat.le_of_lt hi);simp only[World.frozen?,h];simp only[Bool.and_eq_false_iff,decide_eq_false_iff_not];omega
theorem ry(E:SR Q σ X){x:C}{v:Value}(j:CR σ X x v){cs:List C}(h:aK X.H x=aa cs) :
  ∃c o us,v=.pointer (aa ⟨c,o,ab⟩)/\(∀(i:Nat) u,us[i]?=aa u->X.w.cell? ⟨c,o+i,ab⟩=aa u)/\A2 (CR σ X) cs us:=by
 cases x with
 |ptr b d J=>
  obtain⟨L,B,j⟩:=j;obtain⟨_,_,bY,y,l⟩:=E.br b L B;simp only[aK,y]at h;rw[y]at j;cases bY with
  |box cs' A=>
   simp only[anc]at h;subst h;subst j;obtain⟨us,m,q,_⟩:=l;exact⟨L.c,d,us.drop d,rfl,λi u g=>by rw[ec m];rw[arC]at g;exact g,q.drop d⟩
  |cK s cs' A e st=>
   cases st<;>simp only at h j
   .split at h
    .rename_i H;simp only[anc]at h;subst h;obtain⟨_,j,_⟩:=j;have j:=j H;subst j;obtain⟨_,us,rest,m,q,_⟩:=l;refine⟨L.c,d,us.drop d,rfl,λi u g=>?_,q.drop d⟩;rw[ec m];rw[arC]at g;rw[aq1 (aq4.1 g).1];exact g
    .simp at h
   all_goals exact j.elim
  |_=>simp at h
 |f x=>
  cases x with
  |fp cs' d=>
   simp only[aK,anc]at h;subst h;cases j with
   |fp _ _ c o us I K F m=>
    refine⟨c,o+d,us.drop d,rfl,λi u g=>?_,A2.map ⟨by simp[I],λi x u z g=>?_⟩⟩
    .rw[arC]at g;have:=F _ u g;rwa[show o+(d+i)=o+d+i by omega]at this
    .rw[arC]at z g;exact m _ x u z g
  |_=>simp[aK]at h
 |_=>simp[aK]at h
theorem yP{t:TypeId}{n:Option Nat}(z:sM Q t n=ae){c o:Nat}{us:List Value}{cs:List C}{w:World}
  (q:∀(i:Nat) u,us[i]?=aa u->w.cell? ⟨c,o+i,ab⟩=aa u) (g:A2 (CR σ X) cs us) {v:V} (b:bf n cs=aa v) :
  ∃u,(loadVar t ⟨c,o,ab⟩).run Q w=.ok u w/\VR σ X v u:=by
 obtain⟨m,s⟩:=BJ z w;cases n with
 |none=>
  cases cs with
  |nil=>simp[bf]at b
  |cons x cs=>
   simp only[bf,anc]at b;subst b;obtain⟨u,A,l⟩:=g.get (i:=0) (x:=x) rfl;have:=q 0 u A;simp only[Nat.add_zero]at this;exact⟨u,by simp[loadVar,m,this],l⟩
 |some n=>
  simp only[bf]at b;split at b
  .rename_i B;simp only[anc]at b;subst b;have y:(us.take n).length=n:=by have:=g.len;simp;omega
   have:=run_loadCells_list (P:=Q) w ⟨c,o,ab⟩ (us.take n) (λj v d=>by
    rw[eo];rw[arX]at d;split at d
    .exact q j v d
    .simp at d)
   rw[y]at this;refine⟨.agg (us.take n).toArray,?_,⟨us.take n,rfl,g.take n⟩⟩;simp[loadVar,m,dj (s n rfl),this]
  .simp at b
theorem ajO(q:SR Q σ X){t:TypeId}{n:Option Nat}(s:sM Q t n=ae){x:V}{p:Value}(y:VR σ X x p){v:V}(h:bF X.H n x=aa v) :
  ∃u,(Instr.loadAt t p).run Q X.w=.ok u X.w/\VR σ X v u:=by
 cases x with
 |c x=>
  simp only[bF,arH]at h;obtain⟨cs,b,d⟩:=h;obtain⟨c,o,us,rfl,g,j⟩:=ry q y b;obtain⟨u,l,m⟩:=yP s g j d;exact⟨u,by simp[Instr.loadAt,Instr.sureAddr,l],m⟩
 |_=>simp[bF]at h
end
section
variable{Q:Program}{σ:Nat->FuncId}{X:Wd}
theorem VR.int{k:IntKind}{n:Int}{u:Value}(h:VR σ X (.c (.f (.int k n))) u):u=.int k n:=by cases (h:cS σ X.F X.w (.int k n) u);rfl
theorem VR.bool{b:Bool}{u:Value}(h:VR σ X (.c (.f (.bool b))) u):u=.bool b:=by cases (h:cS σ X.F X.w (.bool b) u);rfl
theorem VR.str{s:ByteArray}{u:Value}(h:VR σ X (.c (.f (.str s))) u):u=.string s:=by cases (h:cS σ X.F X.w (.str s) u);rfl
theorem VR.mkInt(k:IntKind)(n:Int):VR σ X (V.int k n) (.int k n):=cS.int k n
theorem VR.rO(b:Bool):VR σ X (V.bool b) (.bool b):=cS.bool b
theorem VR.mkStr(s:ByteArray):VR σ X (.c (.f (.str s))) (.string s):=cS.str s
theorem eM{α β:Type}{f:α->β->Bool}:∀{xs:List α} {ys:List β},fC f xs ys=ae->A2 (λx y=>f x y=ae) xs ys
 |[],[],_=>A2.nil
 |x::xs,y::ys,h=>by
  simp only[fC,aq3]at h;exact A2.cons h.1 (eM h.2)
 |[],_::_,h=>by simp[fC]at h
 |_::_,[],h=>by simp[fC]at h
theorem z9{F:Nat->Nat->Prop}{w:World}{x:FC}{u:Value}(h:mK1 x u=ae):cS σ F w x u:=by
 unfold mK1 at h;split at h
 .simp only[beq_iff_eq]at h;subst h;exact .bool _
 .simp only[aq3,decide_eq_true_eq]at h;obtain⟨rfl,rfl⟩:=h;exact .int _ _
 .simp only[decide_eq_true_eq]at h;subst h;exact .str _
 .exact .kr
 .exact .aw
 .exact .jw
 .exact .nT
 .exact .nD
 .simp at h
theorem an1{x:V}{u:Value}(h:mK x u=ae):VR σ X x u:=by
 unfold mK at h;split at h
 .exact z9 h
 .refine⟨_,by simp,(eM h).kH λy w b=>?_⟩;split at b
  .exact z9 b
  .simp at b
 .trivial
 .simp at h
theorem bV{a:Act}{aF:T}(b:RR σ X aF a.tmps){x:Arg}{y:Operand}(h:mA σ x y=ae):VR σ X (x.ev aF) (a.eval y):=by
 unfold mA at h;split at h
 .rename_i p t;simp only[beq_iff_eq]at h;subst h;exact b p
 .exact an1 h
 .simp only[beq_iff_eq]at h;subst h;exact cS.fn _ [] [] rfl (by simp)
 .simp at h
theorem mr{a:Act}{aF:T}(j:RR σ X aF a.tmps){xs:List Arg}{ys:Array Operand}(h:mAs σ xs ys=ae):A2 (VR σ X) (dx aF xs) (ys.map a.eval).toList:=by
 have:=(eM h).kH λx y b=>bV j b;refine⟨by simpa[dx]using this.len,λi v u g d=>?_⟩;simp only[dx,asf,aq5]at g;simp only[Array.toList_map,asf,aq5]at d;obtain⟨x,l,rfl⟩:=g;obtain⟨y,m,rfl⟩:=d;exact this.2 i x y l m
theorem an2{a:Act}{aF:T}(g:RR σ X aF a.tmps){x:Option Arg}{y:Option Operand}(h:mO σ x y=ae) :
  (x=ab/\y=ab)\/∃b d,x=aa b/\y=aa d/\VR σ X (b.ev aF) (a.eval d):=by
 unfold mO at h;split at h
 .exact .inl ⟨rfl,rfl⟩
 .exact .inr ⟨_,_,rfl,rfl,bV g h⟩
 .simp at h
theorem aeV{op:BinOp}{k:IntKind}{x y:Int}{v:V}(h:iT op k x y=aa v)(w:World) :
  ∃u,(binOp op 0 (.int k x) (.int k y)).run Q w=.ok u w/\VR σ X v u/\∀t,binOp op t (.int k x) (.int k y)=binOp op 0 (.int k x) (.int k y):=by
 unfold iT at h;split at h<;>(try split at h)<;>(try simp only[anc,reduceCtorEq]at h)<;>(try subst h)
 all_goals first
  |(refine⟨_,?_,VR.mkInt _ _,λ_=>by simp[binOp]⟩;simp[binOp,Op.intArith,Op.intBits];done)
  |(refine⟨_,?_,VR.rO _,λ_=>by simp[binOp]⟩;simp[binOp,Op.intCmp];done)
  |(rename_i b;refine⟨_,?_,VR.mkInt _ _,λ_=>by simp[binOp]⟩;simp[binOp,Op.intDiv,b];done)
theorem aeW{op:BinOp}{x y:ByteArray}{v:V}(h:ajb op x y=aa v)(w:World)(t:TypeId) :
  ∃u,(binOp op t (.string x) (.string y)).run Q w=.ok u w/\VR σ X v u:=by
 unfold ajb at h;split at h<;>(try split at h)<;>(try simp only[anc,reduceCtorEq]at h)<;>(try subst h)
 all_goals first
  |exact⟨_,by simp[binOp,Op.stringOp],VR.rO _⟩
  |(rename_i b;exact⟨_,by simp only[binOp,Op.stringOp];rw[aR b];rfl,VR.mkStr _⟩)
  |skip
end
section
variable{Q:Program}{σ:Nat->FuncId}{X:Wd}
theorem qI:∀{d:List CK} {xs ys:List C} {b:Bool},sT d xs ys=aa b->xs.length=d.length/\ys.length=d.length
 |[],[],[],_,_=>⟨rfl,rfl⟩
 |k::d,x::xs,y::ys,b,h=>by
  simp only[sT]at h;split at h
  .rename_i g;have:=qI g;simp[this]
  .simp at h
 |[],_::_,_,_,h=>by simp[sT]at h
 |[],[],_::_,_,h=>by simp[sT]at h
 |_::_,[],_,_,h=>by simp[sT]at h
 |_::_,_::_,[],_,h=>by simp[sT]at h
theorem rE:∀{d g:List CK} {xs ys:List C} {b:Bool},sT (d++g) xs ys=aa b->
  ∃j l,sT d (xs.take d.length) (ys.take d.length)=aa j/\sT g (xs.drop d.length) (ys.drop d.length)=aa l/\b=(j&&l)
 |[],g,xs,ys,b,h=>⟨ae,b,rfl,by simpa using h,by simp⟩
 |k::d,g,[],ys,b,h=>by simp[sT]at h
 |k::d,g,x::xs,[],b,h=>by simp[sT]at h
 |k::d,g,x::xs,y::ys,b,h=>by
  simp only[List.cons_append,sT]at h;split at h
  .rename_i a c s u;simp only[anc]at h;obtain⟨j,l,m,q,rfl⟩:=rE u;refine⟨a&&j,l,?_,by simpa using q,by rw[<-h,Bool.and_assoc]⟩;simp[sT,s,m]
  .simp at h
def CKv:CK->Value->Value->Bool->Prop
 | .bool,u,v,b=>∃p q,u=.bool p/\v=.bool q/\b=(p == q)| .int,u,v,b=>∃j p q,u=.int j p/\v=.int j q/\b=(p == q)| .str,u,v,b=>∃p q,u=.string p/\v=.string q/\b=(p == q)
theorem qJ{k:CK}{x y:C}{b:Bool}(h:eqP k x y=aa b){u v:Value}(d:CR σ X x u)(g:CR σ X y v):CKv k u v b:=by
 unfold eqP at h;split at h
 .simp only[anc]at h;exact⟨_,_,VR.bool (σ:=σ) (X:=X) d,VR.bool (σ:=σ) (X:=X) g,h.symm⟩
 .split at h
  .rename_i j;subst j;simp only[anc]at h;exact⟨_,_,_,VR.int (σ:=σ) (X:=X) d,VR.int (σ:=σ) (X:=X) g,h.symm⟩
  .simp at h
 .simp only[anc]at h;exact⟨_,_,VR.str (σ:=σ) (X:=X) d,VR.str (σ:=σ) (X:=X) g,h.symm⟩
 .simp at h
theorem yA:∀(d:Nat) (t:TypeId) (W:List CK),gJ Q d t=aa W->∀(D:Nat),d<=D->∀(us Z:List Value) (g:Nat) (xs ys:List C) (b:Bool) (w:World),
  sT W xs ys=aa b->A2 (CR σ X) xs ((us.drop g).take W.length)->A2 (CR σ X) ys ((Z.drop g).take W.length)->
  ∃a c,(part t us.toArray g).run Q w=.ok a w/\(part t Z.toArray g).run Q w=.ok c w/\(Op.equalIn D t a c).run Q w=.ok b w
 |0,_,_,h,_,_,_,_,_,_,_,_,_,_,_,_=>by simp[gJ]at h
 |d+1,t,W,h,0,hD,_,_,_,_,_,_,_,_,_,_=>by omega
 |d+1,t,W,h,D+1,hD,us,Z,g,xs,ys,b,w,N,hx,hy=>by
  have hl:=qI N;have s:∀(k:CK),W=[k]->(∀J,Q.underlying t=aa J->(match J with| .struct _| .array _ _=>False|_=>True))->(∃J,Q.underlying t=aa J)->
    ∃x y u v,xs=[x]/\ys=[y]/\eqP k x y=aa b/\CR σ X x u/\CR σ X y v/\(part t us.toArray g).run Q w=.ok u w/\(part t Z.toArray g).run Q w=.ok v w:=by
   intro k A a_ m;subst A;obtain⟨J,m⟩:=m;have a_:=a_ J m
   match xs,ys,hl with
   |[x],[y],_=>
    simp only[sT]at N;split at N
    .rename_i a c ha hc;simp only[anc]at hc N;subst hc;simp at N;subst N;obtain⟨u,d6,d7⟩:=hx.get (i:=0) (x:=x) rfl;obtain⟨v,d8,d9⟩:=hy.get (i:=0) (x:=y) rfl;have e1:us[g]?=aa u:=by simpa[arX,arC]using d6
     have e2:Z[g]?=aa v:=by simpa[arX,arC]using d8
     have a8:(isAgg t).run Q w=.ok ag w:=by
      cases J<;>simp_all [isAgg,aW m]
     exact⟨x,y,u,v,rfl,rfl,ha,d7,d9,by simp[part,a8,e1],by simp[part,a8,e2]⟩
    .simp at N
  unfold gJ at h;split at h
  .rename_i m;split at h
   .simp only[anc]at h;obtain⟨x,y,u,v,rfl,rfl,F,h1,h2,O,h4⟩:=s .bool h.symm (λJ z=>by rw[m]at z;cases z;trivial) ⟨_,m⟩;obtain⟨p,q,rfl,rfl,rfl⟩:=qJ F h1 h2;exact⟨_,_,O,h4,run_equalIn_bool' w D t _ _ m⟩
   .simp at h
  .rename_i j m;split at h
   .simp only[anc]at h;obtain⟨x,y,u,v,rfl,rfl,F,h1,h2,O,h4⟩:=s .int h.symm (λJ z=>by rw[m]at z;cases z;trivial) ⟨_,m⟩;obtain⟨j',p,q,rfl,rfl,rfl⟩:=qJ F h1 h2;exact⟨_,_,O,h4,run_equalIn_int w D t _ _ _ _ m⟩
   .simp at h
  .rename_i m;split at h
   .simp only[anc]at h;obtain⟨x,y,u,v,rfl,rfl,F,h1,h2,O,h4⟩:=s .str h.symm (λJ z=>by rw[m]at z;cases z;trivial) ⟨_,m⟩;obtain⟨p,q,rfl,rfl,rfl⟩:=qJ F h1 h2;exact⟨_,_,O,h4,by rw[run_equalIn_string w D t _ _ m,beq_toListBytes]⟩
   .simp at h
  .rename_i fs m;split at h
   .simp at h
   .rename_i d5;split at h
    .rename_i Y hf;split at h
     .rename_i b7;simp only[anc]at h;subst h;have M:(isAgg t).run Q w=.ok ae w:=by simp[isAgg,aW m]
      have U:Q.underlying t=aa (.struct (Q.fieldsOf t)):=by simp[Program.fieldsOf,m]
      have c_:Q.fieldsOf t=fs:=by rw[m]at U;simpa using U.symm
      refine⟨.agg ((us.drop g).take Y.length).toArray,.agg ((Z.drop g).take Y.length).toArray,?_,?_,?_⟩
      .simp[part,M,dj b7,asP]
      .simp[part,M,dj b7,asP]
      .rw[run_equalIn_struct w D t _ _ U (by simpa using d5),c_];have key:∀(l:List Field) (k:Nat) (K:List CK) (b2:Bool),gJ.oG (gJ Q d) k l=aa K->∀(B E:List Value) (H I:List C),
         sT K (H.drop k) (I.drop k)=aa b2->A2 (CR σ X) H B->A2 (CR σ X) I E->(Op.eqFields D B.toArray E.toArray l).run Q w=.ok b2 w:=by
        intro l;induction l with
        |nil=>
         intro k K b2 A B E H I F _ _;simp only[gJ.oG,anc]at A;subst A;have:=qI F;simp only[List.length_nil,List.length_eq_zero_iff]at this;rw[this.1,this.2]at F;simp only[sT,anc]at F;subst F;simp[Op.eqFields]
        |cons f l ih=>
         intro k K b2 A B E H I F b_ c5;simp only[gJ.oG]at A;split at A
         .rename_i S;obtain⟨hn,ho⟩:=S;subst ho;split at A
          .rename_i L O;split at A
           .rename_i r hr;simp only[anc]at A;subst A;obtain⟨b1,b3,c6,c9,rfl⟩:=rE F;obtain⟨a,c,h5,h6,h7⟩:=yA d f.type L O D (by omega) B E f.offset _ _ b1 w c6 (by have:=(b_.drop f.offset).take L.length;simpa using this) (by have:=(c5.drop f.offset).take L.length;simpa using this);have d_:=ih (f.offset+L.length) r b3 hr B E H I (by simpa[List.drop_drop]using c9) b_ c5;simp only[Op.eqFields,hn,ne_eq,not_false_eq_true,if_true,Sem.run_bind,h5,h6,h7,Result.andThen_ok];cases b1<;>simp[d_]
           .simp at A
          .simp at A
         .simp at A
       exact key fs.toList 0 Y b hf _ _ xs ys (by simpa using N) hx hy
     .simp at h
    .simp at h
  .simp at h
def apX:LI->Value->Bool->Prop
 | .ptr,u,b=>∃a,u=.pointer a/\b=a.isNone| .sl,u,b=>∃a n c,u=.slice a n c/\b=a.isNone| .fn,u,b=>(u=.nilFunc/\b=ae)\/∃f p q,u=.func f p q/\b=ag| .ifc,u,b=>u=.nilIface/\b=ae| _,_,_=>False
theorem oL{k:LI}{x:C}{u:Value}(d:CR σ X x u){b:Bool}(h:isNil X.H k x=aa b):apX k u b:=by
 unfold isNil at h;split at h<;>try simp only[anc,reduceCtorEq]at h
 .cases (d:cS σ X.F X.w .kr u);subst h;exact⟨_,rfl,rfl⟩
 .cases (d:cS σ X.F X.w (.fp _ _) u);subst h;exact⟨_,rfl,rfl⟩
 .obtain⟨L,_,d⟩:=d;subst h;split at d
  .subst d;exact⟨_,rfl,rfl⟩
  .obtain⟨_,_,a,rfl⟩:=d;exact⟨_,rfl,rfl⟩
  .exact d.elim
 .cases (d:cS σ X.F X.w .aw u);subst h;exact⟨_,_,_,rfl,rfl⟩
 .cases (d:cS σ X.F X.w .es u);subst h;exact⟨_,_,_,rfl,rfl⟩
 .cases (d:cS σ X.F X.w (.fs _ _) u)<;>(subst h;exact⟨_,_,_,rfl,rfl⟩)
 .rename_i m o l c q sz;simp only[CR,fM]at d;split at h
  .rename_i g;rw[g]at d;obtain⟨L,_,_,rfl⟩:=d;simp only[anc]at h;subst h;exact⟨_,_,_,rfl,rfl⟩
  .rename_i s cs v e st g;rw[g]at d;split at h
   .rename_i j;have:=d.2.1 j.1 j.2;simp only[anc]at h;subst h;cases st with
    |loc=>obtain⟨L,_,k,_,_,rfl⟩:=this;exact⟨_,_,_,rfl,rfl⟩
    |nil=>obtain⟨_,_,rfl⟩:=this;exact⟨_,_,_,rfl,rfl⟩
    |es=>obtain⟨_,_,a,rfl⟩:=this;exact⟨_,_,_,rfl,rfl⟩
   .simp at h
  .simp at h
 .cases (d:cS σ X.F X.w .jw u);subst h;exact .inl ⟨rfl,rfl⟩
 .cases (d:cS σ X.F X.w (.fn _ _) u);subst h;exact .inr ⟨_,_,_,rfl,rfl⟩
 .obtain⟨us,rfl,_⟩:=d;subst h;exact .inr ⟨_,_,_,rfl,rfl⟩
 .obtain⟨us,rfl,_⟩:=d;subst h;exact .inr ⟨_,_,_,rfl,rfl⟩
 .cases (d:cS σ X.F X.w .nT u);subst h;exact⟨rfl,rfl⟩
theorem yz{d:Nat}{t:TypeId}{b:List CK}(h:gJ Q d t=aa b):dF Q t b.length=ae:=by
 cases d with
 |zero=>simp[gJ]at h
 |succ d=>
  unfold gJ at h;split at h
  .split at h
   .simp only[anc]at h;subst h;assumption
   .simp at h
  .split at h
   .simp only[anc]at h;subst h;assumption
   .simp at h
  .split at h
   .simp only[anc]at h;subst h;assumption
   .simp at h
  .split at h
   .simp at h
   .split at h
    .split at h
     .simp only[anc]at h;subst h;assumption
     .simp at h
    .simp at h
  .simp at h
theorem YP{t e:TypeId}(b:Q.underlying t=aa (.pointer e))(D:Nat)(a:Option Addr)(w:World):(Op.equalIn (D+1) t (.pointer a) (.pointer ab)).run Q w=.ok a.isNone w:=by
 cases a<;>simp[Op.equalIn,aW b]
theorem ae'{t e:TypeId}(b:Q.underlying t=aa (.slice e))(D:Nat)(a:Option Addr)(n c:Nat)(w:World):(Op.equalIn (D+1) t (.slice a n c) (.slice ab 0 0)).run Q w=.ok a.isNone w:=by
 cases a<;>simp[Op.equalIn,aW b]
theorem ae8{t:TypeId}{p r:Array TypeId}{v:Bool}(b:Q.underlying t=aa (.func p r v))(D:Nat)(w:World):(Op.equalIn (D+1) t .nilFunc .nilFunc).run Q w=.ok ae w:=by
 simp[Op.equalIn,aW b]
theorem ae7{t:TypeId}{p r:Array TypeId}{v:Bool}(b:Q.underlying t=aa (.func p r v))(D:Nat)(f:Fn)(x y:Array Value)(w:World):(Op.equalIn (D+1) t (.func f x y) .nilFunc).run Q w=.ok ag w:=by
 simp[Op.equalIn,aW b]
theorem ae9{t:TypeId}{d:Array (String × TypeId)}(b:Q.underlying t=aa (.interface d))(D:Nat)(w:World):(Op.equalIn (D+1) t .nilIface .nilIface).run Q w=.ok ae w:=by
 simp[Op.equalIn,aW b]
theorem KN{t:TypeId}{x y:Operand}(b:(qp x||qp y)=ae)(op:BinOp)(w:World):(eqGuard op t x y .nilIface .nilIface).run Q w=.ok () w:=by
 simp only[Bool.or_eq_true]at b;rcases b with b|b
 .cases x<;>simp only[qp,arq]at b;cases op<;>rfl
 .cases y<;>simp only[qp,arq]at b;cases x<;>cases op<;>rfl
theorem ajt{k:LI}{t:TypeId}{x y:Operand}(v:mEq Q k t x y=ae){H I:V}{l d:Value}(s:VR σ X H l)(u:VR σ X I d){b:Bool}
  (h:LK X.H k H I=aa b) (neg:Bool) (w:World) :
  (do eqGuard (if neg then .neq else .eql) t x y l d;binOp (if neg then .neq else .eql) t l d).run Q w=.ok (.bool (if neg then !b else b)) w:=by
 have g:(binOp .eql t l d=do pure (.bool (<-Op.equal t l d)))->(binOp .neq t l d=do pure (.bool (!(<-Op.equal t l d))))->
   (∀op,(eqGuard op t x y l d).run Q w=.ok () w)->(Op.equalIn 10000 t l d).run Q w=.ok b w->
   (do eqGuard (if neg then .neq else .eql) t x y l d;binOp (if neg then .neq else .eql) t l d).run Q w=.ok (.bool (if neg then !b else b)) w:=by
  intro B E z N;cases neg
  .simp only[arq,if_false,Sem.run_bind,z,Result.andThen_ok,B,Op.equal,Op.maxDepth,N,Sem.run_pure]
  .simp only[if_true,Sem.run_bind,z,Result.andThen_ok,E,Op.equal,Op.maxDepth,N,Sem.run_pure]
 unfold mEq at v;unfold LK at h;split at v
 .rename_i j;split at h<;>try simp only[reduceCtorEq]at *
  obtain⟨p,q,rfl,rfl,rfl⟩:=qJ h s u;exact g rfl rfl (λop=>by cases op<;>rfl) (run_equalIn_bool' w 9999 t _ _ j)
 .rename_i j;split at h<;>try simp only[reduceCtorEq]at *
  obtain⟨a,rfl,rfl⟩:=oL s h;cases (u:cS σ X.F X.w .kr d);exact g rfl rfl (λop=>by cases op<;>rfl) (YP j 9999 a w)
 .rename_i j;split at h<;>try simp only[reduceCtorEq]at *
  obtain⟨a,n,c,rfl,rfl⟩:=oL s h;cases (u:cS σ X.F X.w .aw d);exact g rfl rfl (λop=>by cases op<;>rfl) (ae' j 9999 a n c w)
 .rename_i j;split at h<;>try simp only[reduceCtorEq]at *
  cases (u:cS σ X.F X.w .jw d);rcases oL s h with⟨rfl,rfl⟩|⟨f,p,q,rfl,rfl⟩
  .exact g rfl rfl (λop=>by cases op<;>rfl) (ae8 j 9999 w)
  .exact g rfl rfl (λop=>by cases op<;>rfl) (ae7 j 9999 f p q w)
 .rename_i j;split at h<;>try simp only[reduceCtorEq]at *
  cases (u:cS σ X.F X.w .nT d);obtain⟨rfl,rfl⟩:=oL s h;refine g rfl rfl (λop=>?_) ?_
  .have M:(qp x||qp y)=ae:=v;exact KN M op w
  .exact ae9 j 9999 w
 .rename_i e F j;obtain⟨xs,ys,rfl,rfl,h⟩:∃xs ys,H=.a xs/\I=.a ys/\sT F xs ys=aa b:=by
   cases H<;>cases I<;>first|exact⟨_,_,rfl,rfl,h⟩|simp at h
  simp only[aq3,decide_eq_true_eq,Bool.not_eq_true']at v;obtain⟨W,U⟩:=v;obtain⟨us,rfl,O⟩:=s;obtain⟨J,rfl,S⟩:=u;have i:=qI h;have A:=yz W;have m:(isAgg t).run Q w=.ok ae w:=by simp[isAgg,aW j]
  have Y:us.take F.length=us:=arw (by have:=O.len;omega);have Z:J.take F.length=J:=arw (by have:=S.len;omega);obtain⟨a,c,B,E,z⟩:=yA 20 t F W 10000 (by omega) us J 0 _ _ b w h (by simpa[Y]using O) (by simpa[Z]using S);have K:a=.agg us.toArray:=by
   simp[part,m,dj A,asP,Y]at B;exact B.symm
  have L:c=.agg J.toArray:=by
   simp[part,m,dj A,asP,Z]at E;exact E.symm
  subst K;subst L;cases neg
  .simp only[arq,if_false,Sem.run_bind,run_eqGuard_agg w _ t x y _ _ U,Result.andThen_ok,run_eql_struct,z]
  .simp only[if_true,Sem.run_bind,run_eqGuard_agg w _ t x y _ _ U,Result.andThen_ok,run_neq_struct,z]
 .simp at v
end
section
variable{Q:Program}{σ:Nat->FuncId}{X:Wd}
theorem il{x:V}{u:Value}(h:VR σ X x u){i:Int}(hi:fE x=aa i):∃k,u=.int k i:=by
 unfold fE at hi;split at hi
 .simp only[anc]at hi;subst hi;exact⟨_,VR.int h⟩
 .simp at hi
theorem pJ{x:V}{u:Value}(h:VR σ X x u){y i:Nat}(b:yX x y=aa i){g:Nat}(q:y<=g)(d:BoundsCode)(w:World) :
  i<=y/\(Instr.sliceBound u g d).run Q w=.ok i w:=by
 unfold yX at b;split at b
 .rename_i j l;obtain⟨k,rfl⟩:=il h l;split at b
  .rename_i m;simp only[anc]at b;subst b;refine⟨by omega,?_⟩;have:0<=j/\j<=(g:Int):=by omega
   simp[Instr.sliceBound,asIntOf,this]
  .simp at b
 .simp at b
def OR(X:Wd)(σ:Nat->FuncId):Option V->Option Value->Prop
 |none,ab=>True| some x,aa u=>VR σ X x u| _,_=>False
theorem dN{lo hi mx:Option V}{d j mx':Option Value}(v:OR X σ lo d)(A:OR X σ hi j)(F:OR X σ mx mx'){len c l h m:Nat}
  (b:bM len c lo hi mx=aa (l,h,m)) {cap:Nat} (J:c<=cap) (O:len<=c) (s:Bool) (w:World) :
  (Instr.sliceBounds s len cap d j mx').run Q w=.ok (l,h,if mx.isSome then m else cap) w/\l<=h/\h<=m/\m<=c:=by
 unfold bM at b;cases mx with
 |some z=>
  cases mx'<;>simp only[OR]at F;rename_i U;simp only[atP,arH]at b;obtain⟨S,M,b⟩:=b;obtain⟨N,E⟩:=pJ (Q:=Q) F M J (if s then .slice3Acap else .slice3Alen) w;cases hi with
  |none=>simp at b
  |some y=>
   cases j<;>simp only[OR]at A;simp only[arG,arH]at b;obtain⟨L,H,b⟩:=b;obtain⟨I,g⟩:=pJ (Q:=Q) A H (aq9 _) .slice3B w;cases lo with
   |none=>
    cases d<;>simp only[OR]at v;simp at b;obtain⟨rfl,rfl,rfl⟩:=b;simp[Instr.sliceBounds,E,g];omega
   |some x=>
    cases d<;>simp only[OR]at v;simp only[arH]at b;obtain⟨K,q,b⟩:=b;obtain⟨B,u⟩:=pJ (Q:=Q) v q (aq9 _) .slice3C w;simp at b;obtain⟨rfl,rfl,rfl⟩:=b;simp[Instr.sliceBounds,E,g,u];omega
 |none=>
  cases mx'<;>simp only[OR]at F;cases hi with
  |none=>
   cases j<;>simp only[OR]at A;cases lo with
   |none=>
    cases d<;>simp only[OR]at v;simp at b;obtain⟨rfl,rfl,rfl⟩:=b;simp[Instr.sliceBounds];omega
   |some x=>
    cases d<;>simp only[OR]at v;simp only[atP,arG,arH]at b;obtain⟨K,q,b⟩:=b;obtain⟨B,u⟩:=pJ (Q:=Q) v q (aq9 _) .sliceB w;simp at b;obtain⟨rfl,rfl,rfl⟩:=b;simp[Instr.sliceBounds,u];omega
  |some y=>
   cases j<;>simp only[OR]at A;simp only[atP,arG,arH]at b;obtain⟨L,H,b⟩:=b;obtain⟨I,g⟩:=pJ (Q:=Q) A H J (if s then .sliceAcap else .sliceAlen) w;cases lo with
   |none=>
    cases d<;>simp only[OR]at v;simp at b;obtain⟨rfl,rfl,rfl⟩:=b;simp[Instr.sliceBounds,g];omega
   |some x=>
    cases d<;>simp only[OR]at v;simp only[arH]at b;obtain⟨K,q,b⟩:=b;obtain⟨B,u⟩:=pJ (Q:=Q) v q (aq9 _) .sliceB w;simp at b;obtain⟨rfl,rfl,rfl⟩:=b;simp[Instr.sliceBounds,g,u];omega
theorem eE{t e:TypeId}{sz:Nat}(g:Q.underlying t=aa (.slice e))(b:dF Q e sz=ae){a:Option Addr}{len cap:Nat}{lo hi mx:Option Value}{l h m:Nat}{w:World}
  (d:(Instr.sliceBounds ae len cap lo hi mx).run Q w=.ok (l,h,m) w) :
  (Instr.sliceAt t (.slice a len cap) lo hi mx).run Q w=.ok (.slice (if m=l then a else a.map (·.add (l*sz))) (h-l) (m-l)) w:=by
 simp[Instr.sliceAt,Instr.slice,aW g,d,dj b]
theorem uR(hS:SR Q σ X){t e:TypeId}{sz:Nat}(g:Q.underlying t=aa (.slice e))(j:dF Q e sz=ae){x:V}{u:Value}(F:VR σ X x u)
  {lo hi mx:Option V} {b_ a_ mx':Option Value} (I:OR X σ lo b_) (J:OR X σ hi a_) (K:OR X σ mx mx') {v:V} (h:bS X.H sz x lo hi mx=aa v) :
  ∃r,(Instr.sliceAt t u b_ a_ mx').run Q X.w=.ok r X.w/\VR σ X v r:=by
 unfold bS at h;split at h
 .
  split at h
  .rename_i r z;obtain⟨l,y,m⟩:=r;simp only[anc]at h;subst h;cases (F:cS σ X.F X.w .aw u);obtain⟨q,N,O,S⟩:=dN (Q:=Q) I J K z (aq9 0) (aq9 0) ae X.w;refine⟨_,eE g j q,?_⟩;have:l=0/\y=0/\m=0:=by omega
   obtain⟨rfl,rfl,rfl⟩:=this;simp;exact cS.aw
  .simp at h
 .split at h
  .rename_i r z;obtain⟨l,y,m⟩:=r;simp only[anc]at h;subst h;cases (F:cS σ X.F X.w .es u);obtain⟨q,N,O,S⟩:=dN (Q:=Q) I J K z (aq9 0) (aq9 0) ae X.w;refine⟨_,eE g j q,?_⟩;have:l=0/\y=0/\m=0:=by omega
   obtain⟨rfl,rfl,rfl⟩:=this;simp;exact cS.es _
  .simp at h
 .
  rename_i cs n;split at h
  .rename_i l y m z;have c_:(∃(c o cap:Nat) (us:List Value),n<=cap/\us.length=cs.length/\(∀i,i<cs.length->X.F c (o+i))/\(∀(i:Nat) u,us[i]?=aa u->X.w.cell? ⟨c,o+i,ab⟩=aa u)/\
     (∀(i:Nat) x u,cs[i]?=aa x->us[i]?=aa u->cS σ X.F X.w x u)/\u=.slice (aa ⟨c,o,ab⟩) n cap)\/(cs=[]/\n=0/\∃a cap,u=.slice (aa a) 0 cap):=by
    cases (F:cS σ X.F X.w (.fs cs n) u)with
    |fs _ _ c o cap us d hl hF hc hr=>exact .inl ⟨c,o,cap,us,d,hl,hF,hc,hr,rfl⟩| fs0 a cap=>exact .inr ⟨rfl,rfl,a,cap,rfl⟩
   rcases c_ with⟨c,o,cap,us,d,hl,hF,hc,hr,rfl⟩|⟨rfl,rfl,a,cap,rfl⟩
   .obtain⟨q,N,O,S⟩:=dN (Q:=Q) I J K z d (aq9 n) ae X.w;split at h
    .rename_i B;simp only[anc]at h;subst h;rw[bw B.1]at q;obtain⟨_,rfl⟩:=B;refine⟨_,eE g j q,?_⟩;rw[show y-m=0 by omega,show m-m=0 by omega,bw rfl];exact cS.es _
    .simp only[anc]at h;subst h;refine⟨_,eE g j q,?_⟩;generalize U:(if mx.isSome=ae then m else cap)=M;have c5:y<=M:=by rw[<-U];split<;>omega
     by_cases E:M=l
     .rw[bw E,show y-l=0 by omega];simp;exact cS.fs0 _ _
     .rw[aR E];simp only[arN,eo];refine cS.fs _ _ c (o+l*sz) _ ((us.drop (l*sz)).take ((y-l)*sz)) (by omega) (by simp[hl]) (λi hi=>?_) (λi u g=>?_) (λi x u F g=>?_)
      .have:=hF (l*sz+i) (by simp at hi;omega);rwa[show o+(l*sz+i)=o+l*sz+i by omega]at this
      .rw[arX]at g;split at g
       .rw[arC]at g;have:=hc _ u g;rwa[show o+(l*sz+i)=o+l*sz+i by omega]at this
       .simp at g
      .rw[arX]at g F;split at g
       .rename_i hi;rw[bw hi]at F;rw[arC]at g F;exact hr _ x u F g
       .simp at g
   .obtain⟨q,N,O,S⟩:=dN (Q:=Q) I J K z (Nat.zero_le cap) (aq9 0) ae X.w;have:l=0/\y=0/\m=0:=by omega
    obtain⟨rfl,rfl,rfl⟩:=this;refine⟨_,eE g j q,?_⟩;split at h
    .rename_i B;simp only[anc]at h;subst h;simp[B.1];exact cS.es _
    .simp only[anc]at h;subst h;have ho:∀M,∃a',(if M=0 then aa a else Option.map (λ(x:Addr)=>x.add (0*sz)) (aa a))=aa a':=by intro M;split<;>exact⟨_,rfl⟩
     obtain⟨a',W⟩:=ho (if mx.isSome=ae then 0 else cap);rw[W];simp;exact cS.fs0 _ _
  .simp at h
 .
  rename_i b o n cap ep s;simp only[VR,ib,CR,fM]at F;split at h
  .rename_i A;rw[A]at F;obtain⟨L,hL,d,rfl⟩:=F;split at h
   .rename_i l y m z;obtain⟨q,N,O,S⟩:=dN (Q:=Q) I J K z (aq9 cap) d ae X.w;have hm:(if mx.isSome=ae then m else cap)=m:=by
     split
     .rfl
     .rename_i hn;cases mx with
      |some _=>simp at hn| none=>unfold bM at z;cases hi<;>cases lo<;>simp[arH]at z<;>omega
    rw[hm]at q;refine⟨_,eE g j q,?_⟩;split at h
    .rename_i E;simp only[anc]at h;subst h;rw[bw E,show y-l=0 by omega,show m-l=0 by omega];exact cS.es _
    .rename_i E;simp only[anc]at h;subst h;rw[aR E];simp only[arN,eo,VR,ib,CR,fM,A];exact⟨L,hL,by omega,rfl⟩
   .simp at h
  .rename_i H cs fl e st A;rw[A]at F;split at h
   .rename_i hc;obtain⟨rfl,rfl,rfl⟩:=hc;have Z:=F.2.1 rfl rfl;cases st with
    |loc=>
     obtain⟨L,hL,k,rfl,hk,rfl⟩:=Z;simp only at h;split at h
     .rename_i l y m z;obtain⟨q,N,O,S⟩:=dN (Q:=Q) I J K z (show n<=L.cap-k by omega) (aq9 n) ae X.w;refine⟨_,eE g j q,?_⟩;generalize U:(if mx.isSome=ae then m else L.cap-k)=M;have c5:y<=M:=by rw[<-U];split<;>omega
      split at h
      .rename_i B;simp only[anc]at h;subst h;rw[bw B.1]at U;subst U;obtain⟨_,rfl⟩:=B;rw[show y-m=0 by omega,show m-m=0 by omega,bw rfl];exact cS.es _
      .split at h
       .rename_i B;simp only[anc]at h;subst h;rw[show y-l=0 by omega];have ho:∃a',(if M=l then aa (⟨L.c,k*H,ab⟩:Addr)else Option.map (λ(x:Addr)=>x.add (l*H)) (aa ⟨L.c,k*H,ab⟩))=aa a':=by split<;>exact⟨_,rfl⟩
        obtain⟨a',W⟩:=ho;rw[W];exact cS.fs0 _ _
       .rename_i d5;split at h
        .split at h
         .simp only[anc]at h;subst h;simp only[VR,ib,CR,fM,A];exact⟨aq9 _,λ_ e=>by omega,_,_,_,rfl⟩
         .simp at h
        .rename_i hn;simp only[anc]at h;subst h;rw[aR hn]at U;have Y:(if M=l then aa (⟨L.c,k*H,ab⟩:Addr)else Option.map (λ(x:Addr)=>x.add (l*H)) (aa ⟨L.c,k*H,ab⟩))=aa ⟨L.c,k*H+l*H,ab⟩:=by
          split
          .have:l=0:=by omega
           subst this;simp
          .simp[eo]
         rw[Y];simp only[VR,ib,CR,fM,A];refine⟨aq9 _,λ_ _=>⟨L,hL,k+l,by rw[arF],by omega,by rw[<-U];congr 1;omega⟩,_,_,_,rfl⟩
     .
      cases mx with
      |some _=>simp at h
      |none=>
       simp only at h;split at h
       .rename_i l y m z;split at h
        .rename_i c9;simp only[anc]at h;subst h;obtain⟨_,_,bY,a8,c6⟩:=hS.br b L hL;rw[A]at a8;cases a8;obtain⟨-,us,rest,-,hA,b7,d7,-,-⟩:=c6;have d6:cs.length<=L.cap*H:=by rw[<-b7,ara,<-hA.1];omega
         have d:(cs.length-k*H) / H<=L.cap-k:=by
          refine Nat.div_le_of_le_mul ?_;rw[Nat.mul_sub,as9 H L.cap,as9 H k];omega
         obtain⟨q,N,O,S⟩:=dN (Q:=Q) I J K z d c9.1 ae X.w;refine⟨_,eE g j q,?_⟩;simp only[Option.isSome_none,arq,if_false,arN,eo];rw[aR (by omega)];simp only[VR,ib,CR,fM,A];refine⟨aq9 _,λ_ _=>⟨L,hL,k+l,by rw[arF],by omega,by congr 1;omega⟩,_,_,_,rfl⟩
        .simp at h
       .simp at h
    |nil=>
     obtain⟨rfl,rfl,rfl⟩:=Z;simp only at h;split at h
     .rename_i r z;obtain⟨l,y,m⟩:=r;simp only[anc]at h;subst h;obtain⟨q,N,O,S⟩:=dN (Q:=Q) I J K z (aq9 0) (aq9 0) ae X.w;refine⟨_,eE g j q,?_⟩;have:l=0/\y=0/\m=0:=by omega
      obtain⟨rfl,rfl,rfl⟩:=this;simp;exact cS.aw
     .simp at h
    |es=>
     obtain⟨rfl,rfl,a,rfl⟩:=Z;simp only at h;split at h
     .rename_i r z;obtain⟨l,y,m⟩:=r;simp only[anc]at h;subst h;obtain⟨q,N,O,S⟩:=dN (Q:=Q) I J K z (aq9 0) (aq9 0) ae X.w;refine⟨_,eE g j q,?_⟩;have:l=0/\y=0/\m=0:=by omega
      obtain⟨rfl,rfl,rfl⟩:=this;simp;exact cS.es _
     .simp at h
   .simp at h
  .simp at h
 .simp at h
end
section
variable{Q:Program}{σ:Nat->FuncId}{X:Wd}
theorem Ly{t:TypeId}(A:Q.underlying t=aa .string){x:V}{u:Value}(B:VR σ X x u){lo hi:Option V}{d b:Option Value}(g:OR X σ lo d)(j:OR X σ hi b)
  {v:V} (h:v5 x lo hi=aa v) (w:World):∃r,(Instr.sliceAt t u d b ab).run Q w=.ok r w/\VR σ X v r:=by
 unfold v5 at h;split at h
 .rename_i s;have:=VR.str B;subst this;split at h
  .rename_i l z m y;simp only[anc]at h;subst h;obtain⟨q,_⟩:=dN (Q:=Q) (mx:=ab) (mx':=ab) g j trivial y (aq9 _) (aq9 _) ag w;exact⟨.string (s.extract l z),by simp[Instr.sliceAt,Instr.slice,aW A,q],VR.mkStr _⟩
  .simp at h
 .simp at h
theorem Lx(hS:SR Q σ X){t e:TypeId}{n sz:Nat}(j:Q.underlying t=aa (.array n e))(F:dF Q e sz=ae){x:V}{u:Value}(s:VR σ X x u)
  {lo hi mx:Option V} {A z mx':Option Value} (H:OR X σ lo A) (I:OR X σ hi z) (J:OR X σ mx mx') {v:V} (h:mI X.H n sz x lo hi mx=aa v) :
  ∃r,(Instr.sliceAt t u A z mx').run Q X.w=.ok r X.w/\VR σ X v r:=by
 have run:∀(a:Addr) l q m,(Instr.sliceBounds ag n n A z mx').run Q X.w=.ok (l,q,m) X.w->
   (Instr.sliceAt t (.pointer (aa a)) A z mx').run Q X.w=.ok (.slice (aa (if m=l then a else a.add (l*sz))) (q-l) (m-l)) X.w:=by
  intro a l q m y;simp[Instr.sliceAt,aW j,Instr.sureAddr,y,dj F]
 have mm:∀{l q m:Nat},bM n n lo hi mx=aa (l,q,m)->(if mx.isSome=ae then m else n)=m:=by
  intro l q m y;split
  .rfl
  .rename_i Y;cases mx with
   |some _=>simp at Y| none=>unfold bM at y;cases hi<;>cases lo<;>simp[arH]at y<;>omega
 unfold mI at h;split at h
 .rename_i b d ep;obtain⟨L,S,s⟩:=s;split at h
  .rename_i cs fl E;rw[E]at s;simp only at s;subst s;split at h
   .rename_i l q m y;obtain⟨B,K,M,N⟩:=dN (Q:=Q) H I J y (aq9 n) (aq9 n) ag X.w;rw[mm y]at B;split at h
    .refine⟨_,run _ _ _ _ B,?_⟩;split at h
     .rename_i g;simp only[anc]at h;subst h;rw[bw g,show q-l=0 by omega,show m-l=0 by omega];exact cS.es _
     .rename_i g;simp only[anc]at h;subst h;rw[aR g];simp only[eo,VR,ib,CR,fM,E];exact⟨L,S,by omega,rfl⟩
    .simp at h
   .simp at h
  .simp at h
 .rename_i cs d;cases (s:cS σ X.F X.w (.fp cs d) u)with
  |fp _ _ c o us W O U Z=>
   split at h
   .rename_i l q m y;obtain⟨B,K,M,N⟩:=dN (Q:=Q) H I J y (aq9 n) (aq9 n) ag X.w;rw[mm y]at B;split at h
    .refine⟨_,run _ _ _ _ B,?_⟩;split at h
     .rename_i g;simp only[anc]at h;subst h;rw[bw g,show q-l=0 by omega,show m-l=0 by omega];exact cS.es _
     .rename_i g;simp only[anc]at h;subst h;rw[aR g,eo];refine cS.fs _ _ c (o+d+l*sz) _ ((us.drop (d+l*sz)).take ((q-l)*sz)) (by omega) (by simp[W]) (λi hi=>?_) (λi u j=>?_) (λi x u s j=>?_)
      .have:=O (d+l*sz+i) (by simp at hi;omega);rwa[show o+(d+l*sz+i)=o+d+l*sz+i by omega]at this
      .rw[arX]at j;split at j
       .rw[arC]at j;have:=U _ u j;rwa[show o+(d+l*sz+i)=o+d+l*sz+i by omega]at this
       .simp at j
      .rw[arX]at j s;split at j
       .rename_i hi;rw[bw hi]at s;rw[arC]at j s;exact Z _ x u s j
       .simp at j
    .simp at h
   .simp at h
 .simp at h
theorem zH{t:TypeId}{l:Array Field}(I:Q.underlying t=aa (.struct l)){i:Nat}{f:Field}(E:l[i]?=aa f)(j:(Q.info? f.type).any (λi=>i.size != 0)=ae)
  {x:V} {u:Value} (g:VR σ X x u) {v:V} (h:mX f.offset x=aa v) (w:World):∃r,(Instr.fieldAt t u i).run Q w=.ok r w/\VR σ X v r:=by
 have run:∀a:Addr,(Instr.fieldAt t (.pointer (aa a)) i).run Q w=.ok (.pointer (aa (a.add f.offset))) w:=by
  intro a;cases hi:Q.info? f.type with
  |none=>simp[hi]at j
  |some J=>
   simp[hi]at j;simp[Instr.fieldAt,aW I,E,Instr.sureAddr,fieldPlace,Go.sizeOf,typeInfo,hi,j]
 unfold mX at h;split at h
 .rename_i b o K;simp only[anc]at h;subst h;obtain⟨L,m,g⟩:=g;split at g
  .rename_i d;subst g;exact⟨_,run _,L,m,by rw[d,eo]⟩
  .rename_i s cs M e d;obtain⟨q,y,a,rfl⟩:=g;refine⟨_,run _,L,m,?_⟩;rw[d];refine⟨q,λB=>?_,_,rfl⟩;have:=y B;simp only[Value.pointer.injEq,anc]at this;rw[this,eo]
  .exact g.elim
 .rename_i cs o;simp only[anc]at h;subst h;cases (g:cS σ X.F X.w (.fp cs o) u)with
  |fp _ _ c o' us F z A H=>
   refine⟨_,run _,?_⟩;rw[eo,Nat.add_assoc];exact cS.fp cs _ c o' us F z A H
 .simp at h
theorem zN{t e:TypeId}{sz:Nat}{q:Option Nat}(I:dF Q e sz=ae)
  (H:(q=ab/\Q.underlying t=aa (.slice e))\/∃n,q=aa n/\Q.underlying t=aa (.array n e)) {x i:V} {u j:Value} (m:VR σ X x u) (hi:VR σ X i j)
  {v:V} (h:bg X.H sz q x i=aa v):∃r,(Instr.indexAt t u j).run Q X.w=.ok r X.w/\VR σ X v r:=by
 unfold bg at h;split at h
 .simp at h
 rename_i k hk;obtain⟨S,rfl⟩:=il hi hk;split at h
 .rename_i N;have z:q=ab->∀(a:Addr) (l c:Nat),k<l->(Instr.indexAt t (.slice (aa a) l c) (.int S k)).run Q X.w=.ok (.pointer (aa (a.add (k.toNat*sz)))) X.w:=by
   intro J a l c g;rcases H with⟨_,H⟩|⟨n,A,_⟩
   .simp[Instr.indexAt,asIntOf,aW H,N,g,dj I]
   .rw[J]at A;simp at A
  have y:∀n,q=aa n->∀(a:Addr),k<n->(Instr.indexAt t (.pointer (aa a)) (.int S k)).run Q X.w=.ok (.pointer (aa (a.add (k.toNat*sz)))) X.w:=by
   intro n J a g;rcases H with⟨A,_⟩|⟨n',A,H⟩
   .rw[J]at A;simp at A
   .rw[J]at A;simp only[anc]at A;subst A;simp[Instr.indexAt,asIntOf,aW H,Instr.sureAddr,N,g,dj I]
  split at h
  .rename_i b o l c W s;split at h
   .rename_i g;simp only[VR,ib,CR,fM]at m;split at h
    .rename_i d;rw[d]at m;obtain⟨L,E,_,rfl⟩:=m;simp only[anc]at h;subst h;exact⟨_,z rfl _ _ _ g,L,E,by rw[d,eo]⟩
    .rename_i s' cs Y U d;rw[d]at m;split at h
     .rename_i F;simp only[anc]at h;subst h;obtain⟨L,E,kq,_,_,rfl⟩:=m.2.1 F.1 F.2;exact⟨_,z rfl _ _ _ g,L,E,by rw[d,eo];exact⟨m.1,λ_=>rfl,_,rfl⟩⟩
     .simp at h
    .simp at h
   .simp at h
  .rename_i cs l;split at h
   .rename_i g;simp only[anc]at h;subst h;cases (m:cS σ X.F X.w (.fs cs l) u)with
    |fs _ _ c o cap us O B K F M=>
     refine⟨_,z rfl _ _ _ g,?_⟩;rw[eo];exact cS.fp cs _ c o us B K F M
    |fs0 a cap=>simp at g;omega
   .simp at h
  .rename_i n b o W;split at h
   .rename_i g;simp only[anc]at h;subst h;obtain⟨L,E,m⟩:=m;split at m
    .rename_i d;subst m;exact⟨_,y n rfl _ g,L,E,by rw[d,eo]⟩
    .rename_i s cs Y U d;obtain⟨Z,h3,a,rfl⟩:=m;refine⟨_,y n rfl _ g,L,E,?_⟩;rw[d];refine⟨Z,λhe=>?_,_,rfl⟩;have:=h3 he;simp only[Value.pointer.injEq,anc]at this;rw[this,eo]
    .exact m.elim
   .simp at h
  .rename_i n cs o;split at h
   .rename_i g;simp only[anc]at h;subst h;cases (m:cS σ X.F X.w (.fp cs o) u)with
    |fp _ _ c o' us B K F M=>
     refine⟨_,y n rfl _ g,?_⟩;rw[eo,Nat.add_assoc];exact cS.fp cs _ c o' us B K F M
   .simp at h
  .simp at h
 .simp at h
theorem sN{t:TypeId}{n:Option Nat}(y:sM Q t n=ae){xs:List C}{us:List Value}(m:A2 (CR σ X) xs us)(b:Nat){v:V}(d:bf n (xs.drop b)=aa v)(w:World) :
  ∃u,(part t us.toArray b).run Q w=.ok u w/\VR σ X v u:=by
 obtain⟨q,s⟩:=BJ y w;cases n with
 |none=>
  cases g:xs.drop b with
  |nil=>rw[g]at d;simp[bf]at d
  |cons x cs=>
   rw[g]at d;simp only[bf,anc]at d;subst d;obtain⟨u,z,l⟩:=(m.drop b).get (i:=0) (x:=x) (by rw[g];rfl);have j:us[b]?=aa u:=by simpa[arC]using z
   exact⟨u,by simp[part,q,j],l⟩
 |some n=>
  simp only[bf]at d;split at d
  .simp only[anc]at d;subst d;exact⟨.agg ((us.drop b).take n).toArray,by simp[part,q,dj (s n rfl),asP],_,rfl,(m.drop b).take n⟩
  .simp at d
theorem KJ{t:TypeId}{b:Array Field}(q:Q.underlying t=aa (.struct b)){i:Nat}{f:Field}(l:b[i]?=aa f){n:Option Nat}(m:sM Q f.type n=ae)
  {x:V} {u:Value} (s:VR σ X x u) {v:V} (h:rG f.offset n x=aa v) (w:World):∃r,(Instr.field t u i).run Q w=.ok r w/\VR σ X v r:=by
 unfold rG at h;split at h
 .obtain⟨us,rfl,d⟩:=s;obtain⟨r,g,j⟩:=sN m d f.offset h w;exact⟨r,by simp[Instr.field,aW q,l,asAgg,g],j⟩
 .simp at h
theorem YZ{t e:TypeId}{len sz:Nat}(y:Q.underlying t=aa (.array len e))(b:dF Q e sz=ae){n:Option Nat}(s:sM Q e n=ae)
  {x i:V} {u j:Value} (z:VR σ X x u) (hi:VR σ X i j) {v:V} (h:Be len sz n x i=aa v) (w:World):∃r,(Instr.index t u j).run Q w=.ok r w/\VR σ X v r:=by
 unfold Be at h;split at h
 .rename_i xs k q;obtain⟨A,rfl⟩:=il hi q;split at h
  .rename_i m;obtain⟨us,rfl,d⟩:=z;obtain⟨r,g,l⟩:=sN s d _ h w;exact⟨r,by simp[Instr.index,asIntOf,aW y,m,dj b,g],l⟩
  .simp at h
 .simp at h
theorem Y0{t:TypeId}(m:Q.underlying t=aa .string){x i:V}{u j:Value}(q:VR σ X x u)(hi:VR σ X i j){v:V}(h:ud x i=aa v)(w:World) :
  ∃r,(Instr.index t u j).run Q w=.ok r w/\VR σ X v r:=by
 unfold ud at h;split at h
 .rename_i s k l;obtain⟨y,rfl⟩:=il hi l;have:=VR.str q;subst this;split at h
  .rename_i d;simp only[aq5]at h;obtain⟨b,g,rfl⟩:=h;exact⟨_,by simp[Instr.index,asIntOf,aW m,d,g],VR.mkInt _ _⟩
  .simp at h
 .simp at h
end
section
variable{Q:Program}{σ:Nat->FuncId}{X:Wd}
theorem A2.bR{α β:Type}{R:α->β->Prop}{cs xs:List α}{us d:List β}(h:A2 R cs us)(b:A2 R xs d)(off:Nat):A2 R (bR cs off xs) (bR us off d):=by
 unfold Km.bR;rw[b.len];exact((h.take off).append b).append (h.drop _)
theorem yq{α:Type}(cs:List α)(b:Nat)(xs:List α)(h:b+xs.length<=cs.length):(bR cs b xs).length=cs.length:=by
 simp[bR];omega
theorem xK(d:Nat):∀(g:List Value) (k:Nat) (b:List Value),d+k+g.length<=b.length->
  ((g.zipIdx k).foldl (λ(cs:Array Value) p=>cs.setIfInBounds (d+p.2) p.1) b.toArray)=(bR b (d+k) g).toArray
 |[],k,b,_=>by simp[bR]
 |v::g,k,b,h=>by
  simp only[List.zipIdx_cons,asU];have j:b.toArray.setIfInBounds (d+k) v=(b.set (d+k) v).toArray:=by simp
  rw[j,xK d g (k+1) _ (by simp at h ⊢;omega)]
  congr 1
  unfold bR;simp only[ar0]at h ⊢;rw[List.take_set,List.drop_set_of_lt (by omega),show d+(k+1)=d+k+1 by omega,show d+k+1+g.length=d+k+(g.length+1) by omega];rw[atK (by omega)];have l:(List.take (d+k) b).length=d+k:=by simp;omega
  have e:(List.take (d+k) b++[b[d+k]]).set (d+k) v=List.take (d+k) b++[v]:=by
   rw[List.set_append,aR (by omega),l];simp
  rw[e];simp
theorem oz{x:V}{u:Value}(b:VR σ X x u){xs:List C}(h:x.cells?=aa xs):∃us,u.cells=us.toArray/\A2 (CR σ X) xs us:=by
 unfold V.cells? at h;split at h
 .rename_i x;simp only[anc]at h;subst h;have d:=CR.one σ b;refine⟨[u],?_,A2.cons b A2.nil⟩;cases u<;>simp_all [Value.cells,Value.oneCell']
 .simp only[anc]at h;subst h;obtain⟨us,rfl,h⟩:=b;exact⟨us,rfl,h⟩
 .simp at h
theorem mY{a:Act}{aF:T}(z:RR σ X aF a.tmps){place:Nat->Option (Nat × Nat)}:∀{qs:List (Nat × Nat × Arg)} {ps:List (Nat × Operand)},
  A2 (λ(q:Nat × Nat × Arg) (p:Nat × Operand)=>place p.1=aa (q.1,q.2.1)/\mA σ q.2.2 p.2=ae) qs ps->∀{cs cs':List C} {us:List Value},A2 (CR σ X) cs us->
  fv aF cs qs=aa cs'->∃d,Instr.fill place us.toArray (ps.map λp=>(p.1,a.eval p.2))=aa d.toArray/\A2 (CR σ X) cs' d
 |[],[],_,cs,cs',us,h,b=>by
  simp only[fv,anc]at b;subst b;exact⟨us,rfl,h⟩
 |[],_::_,g,_,_,_,_,_=>by have:=g.len;simp at this
 |_::_,[],g,_,_,_,_,_=>by have:=g.len;simp at this
 |(l,n,x)::qs,(i,y)::ps,g,cs,cs',us,h,b=>by
  obtain⟨⟨u,v⟩,m⟩:=g.of_cons;simp only at u v;simp only[fv]at b;split at b
  .rename_i xs s;split at b
   .rename_i I;obtain⟨H,F,j⟩:=oz (bV z v) s;obtain⟨d,A,B⟩:=mY z m (h.bR j l) b;refine⟨d,?_,B⟩;have J:=j.len;have E:=h.len;simp only[List.map_cons,Instr.fill,u,F];rw[aR (by simp;omega)];rw[<-A]
    congr 1
    have:=xK l H 0 us (by omega);simp only[Nat.add_zero]at this;rw[<-this];simp[<-Array.foldl_toList]
   .simp at b
  .simp at b
theorem eV{t:TypeId}{zs:List FC}(h:kD Q t zs=ae)(w:World):∃z us,(zeroValue t).run Q w=.ok z w/\z.cells=us.toArray/\A2 (CR σ X) (zs.map .f) us/\
  ∃i,Q.info? t=aa i/\i.zero=aa z:=by
 unfold kD at h;cases hi:Q.info? t with
 |none=>simp[hi]at h
 |some i=>
  simp only[hi,Option.any_some]at h;split at h
  .rename_i z d;refine⟨z,z.cells.toList,by simp[zeroValue,typeInfo,hi,d],by simp,A2.map ((eM h).kH λx u b=>z9 b),i,rfl,d⟩
  .simp at h
end
section
variable{Q:Program}{σ:Nat->FuncId}{X:Wd}
theorem lF{b:CK}{t:TypeId}(h:K6 Q b t=ae):(b=.int/\∃j,Q.underlying t=aa (.int j))\/(b=.str/\Q.underlying t=aa .string)\/(b=.bool/\Q.underlying t=aa .bool):=by
 unfold K6 at h;split at h
 .exact .inl ⟨rfl,_,by assumption⟩
 .exact .inr (.inl ⟨rfl,by assumption⟩)
 .exact .inr (.inr ⟨rfl,by assumption⟩)
 .simp at h
theorem rD{l:CK}{d:TypeDesc}(m:(l=.int/\∃j,d=.int j)\/(l=.str/\d=.string)\/(l=.bool/\d=.bool)){F:Nat->Nat->Prop}{w:World}{x y:FC}{u v:Value}
  (q:cS σ F w x u) (s:cS σ F w y v) {b:Bool} (h:eqK l x y=aa b):Instr.sameNow d u v=aa b:=by
 unfold eqK at h;split at h
 .cases q;cases s;rcases m with⟨_,j,rfl⟩|⟨g,_⟩|⟨g,_⟩
  .simpa[Instr.sameNow]using h
  .cases g
  .cases g
 .cases q;cases s;rcases m with⟨g,_⟩|⟨_,rfl⟩|⟨g,_⟩
  .cases g
  .simpa[Instr.sameNow]using h
  .cases g
 .cases q;cases s;rcases m with⟨g,_⟩|⟨g,_⟩|⟨_,rfl⟩
  .cases g
  .cases g
  .simpa[Instr.sameNow]using h
 .simp at h
theorem uE{l:CK}{d:TypeDesc}(q:(l=.int/\∃j,d=.int j)\/(l=.str/\d=.string)\/(l=.bool/\d=.bool)){F:Nat->Nat->Prop}{w:World}{k:FC}{B:Value}(v:cS σ F w k B) :
  ∀{R:C->Value->Prop} {y:List (FC × C)} {b:List MapEntry},A2 (λe m=>cS σ F w e.1 m.key/\R e.2 m.val) y b->∀{r:Option C} (i:Nat),ie l k y=aa r->
  match r with
  |none=>Instr.findNow d B b i=aa ab| some x=>∃j u,Instr.findNow d B b i=aa (aa (j,u))/\R x u
 |_,[],[],_,r,i,h=>by
  simp only[ie,anc]at h;subst h;rfl
 |_,[],_::_,g,_,_,_=>by have:=g.len;simp at this
 |_,_::_,[],g,_,_,_=>by have:=g.len;simp at this
 |_,e::y,m::b,g,r,i,h=>by
  obtain⟨⟨z,E⟩,A⟩:=g.of_cons;simp only[ie]at h;split at h
  .rename_i s;simp only[anc]at h;subst h;exact⟨i,m.val,by simp[Instr.findNow,rD q v z s],E⟩
  .rename_i s;have:=uE q v A (i+1) h;cases r with
   |none=>simpa[Instr.findNow,rD q v z s]using this| some x=>obtain⟨j,u,H,I⟩:=this;exact⟨j,u,by simp[Instr.findNow,rD q v z s,H],I⟩
  .simp at h
theorem gR{l:CK}{t:TypeId}(h:K6 Q l t=ae){k:FC}{F:Nat->Nat->Prop}{q:World}{g:Value}(m:cS σ F q k g)(hi:isKey l k=ae)(b:Bool)(w:World) :
  (Instr.checkKey b 10000 t g).run Q w=.ok () w:=by
 have:∀n,(Instr.checkKey b (n+1) t g).run Q w=.ok () w:=by
  intro n;rcases lF h with⟨rfl,j,d⟩|⟨rfl,d⟩|⟨rfl,d⟩<;>cases m<;>simp_all [isKey,Instr.checkKey,aW d]
 exact this 9999
theorem zY{z:FC}{r:Option C}{u:Value}{ok:Bool}(b:ok=(lW z).isSome)(h:ib σ X ((r.map mV).getD (zV ((lW z).getD z))) u):VR σ X (Y' z r) (if ok=ae then .tuple #[u,.bool r.isSome]else u):=by
 unfold Y';cases d:lW z with
 |none=>rw[d]at h b;subst b;exact VR.of1 σ h| some g=>rw[d]at h b;subst b;exact⟨[u,.bool r.isSome],rfl,A2.cons h (A2.cons (cS.bool _) A2.nil)⟩
theorem K3(hS:SR Q σ X){t kt e:TypeId}{J:CK}(Y:Q.underlying t=aa (.map kt e))(K:K6 Q J kt=ae){z:FC}{ok:Bool}(H:ok=(lW z).isSome)(hz:kD Q e (qg ((lW z).getD z))=ae)
  (l:(Q.info? e).any (λi=>i.zero.any λu=>if AM ((lW z).getD z)then ai' u else aj3 u)=ae) {m k:V} {um uk:Value} (hm:VR σ X m um) (s:VR σ X k uk) {v:V} (h:eO X.H J z m k=aa v) :
  ∃u,(Instr.lookup t um uk ok).run Q X.w=.ok u X.w/\VR σ X v u:=by
 obtain⟨I,zs,M,A,B,i0,U,W⟩:=eV (σ:=σ) (X:=X) hz X.w;have N:ib σ X (zV ((lW z).getD z)) I:=by
  simp only[U,Option.any_some,W]at l;generalize (lW z).getD z=z0 at *;cases O:AM z0 with
  |true=>
   rw[alB O];simp only[O,if_true]at l;cases I with
   |agg cs=>exact⟨zs,by simp only[Value.cells]at A;rw[A],B⟩
   |_=>simp[ai']at l
  |false=>
   obtain⟨e1,e2⟩:=alC O;rw[e1];rw[e2]at B;simp only[O,arq,if_false]at l;obtain⟨u,Z,a8⟩:=B.get (i:=0) (x:=.f z0) rfl;have hl:=B.len;have a_:zs=[u]:=by
    match zs,hl,Z with
    |[y],_,h=>simp at h;rw[h]
   subst a_;cases I with
   |agg cs=>simp[aj3]at l| _=>simp only[Value.cells]at A;have:=congrArg Array.toList A;simp at this;subst this;exact a8
 unfold eO at h;split at h
 .rename_i kc;split at h
  .rename_i q;simp only[anc]at h;subst h;cases (hm:cS σ X.F X.w .nD um);refine⟨if ok=ae then .tuple #[I,.bool ag]else I,?_,zY (r:=ab) H N⟩;rcases lF K with⟨_,j,g⟩|⟨_,g⟩|⟨_,g⟩ <;>
    simp[Instr.lookup,aW Y,gR K s q,Instr.findKey,aW g,Instr.findNow,M]
  .simp at h
 .rename_i b kc;split at h
  .rename_i es hb;split at h
   .rename_i q;simp only[aq5]at h;obtain⟨r,hr,rfl⟩:=h;obtain⟨L,hL,_,rfl⟩:=hm;obtain⟨_,_,bY,F,S⟩:=hS.br b L hL;rw[hb]at F;simp only[anc]at F;subst F;obtain⟨b7,h1,h2,_⟩:=S;have go:∀d,Q.underlying kt=aa d->((J=.int/\∃j,d=.int j)\/(J=.str/\d=.string)\/(J=.bool/\d=.bool))->∃u,(Instr.lookup t (.map (aa L.c)) uk ok).run Q X.w=.ok u X.w/\VR σ X (Y' z r) u:=by
     intro d g hd;have h3:=uE (R:=λc u=>ib σ X (mV c) u) hd s h2 0 hr;cases r with
     |none=>
      refine⟨if ok=ae then .tuple #[I,.bool ag]else I,?_,zY (r:=ab) H N⟩;simp[Instr.lookup,aW Y,getObj,Sem.run,h1,gR K s q,Instr.findKey,aW g,h3,M]
     |some x=>
      obtain⟨j,u,E,h5⟩:=h3;refine⟨if ok=ae then .tuple #[u,.bool ae]else u,?_,zY (r:=aa x) H h5⟩;simp[Instr.lookup,aW Y,getObj,Sem.run,h1,gR K s q,Instr.findKey,aW g,E]
    rcases lF K with⟨E,j,g⟩|⟨E,g⟩|⟨E,g⟩
    .exact go _ g (.inl ⟨E,j,rfl⟩)
    .exact go _ g (.inr (.inl ⟨E,rfl⟩))
    .exact go _ g (.inr (.inr ⟨E,rfl⟩))
   .simp at h
  .simp at h
 .simp at h
end
section
variable{Q:Program}{σ:Nat->FuncId}{X:Wd}
theorem er{s:Sem Value}{u:Value}{w w':World}(h:s.run Q w=.ok u w'):(do pure (Next.value (<-s)):Sem Next).run Q w=.ok (.value u) w':=by simp[h]
theorem qk{a:Act}{aF:T}(b:RR σ X aF a.tmps){x:Option Arg}{y:Option Operand}(h:mO σ x y=ae):OR X σ (x.map (·.ev aF)) (y.map a.eval):=by
 rcases an2 b h with⟨rfl,rfl⟩|⟨g,j,rfl,rfl,d⟩
 .trivial
 .exact d
theorem gM{t:TypeId}{p:TypeId->Bool}(h:(me Q t).any p=ae):∃e,Q.underlying t=aa (.slice e)/\p e=ae:=by
 unfold me at h;split at h
 .exact⟨_,by assumption,by simpa using h⟩
 .simp at h
theorem kB{x:C}{u:Value}(b:CR σ X x u){l:Nat}(h:aV X.H x=aa l):∃a c,u=.slice a l c:=by
 unfold aV at h;split at h<;>try simp only[anc,reduceCtorEq]at h
 .simp only[CR,fM]at b;split at h
  .rename_i d;rw[d]at b;obtain⟨L,_,_,rfl⟩:=b;simp only[anc]at h;subst h;exact⟨_,_,rfl⟩
  .rename_i s cs j e st d;rw[d]at b;split at h
   .rename_i g;have:=b.2.1 g.1 g.2;simp only[anc]at h;subst h;cases st with
    |loc=>obtain⟨L,_,k,_,_,rfl⟩:=this;exact⟨_,_,rfl⟩
    |nil=>obtain⟨_,rfl,rfl⟩:=this;exact⟨_,_,rfl⟩
    |es=>obtain⟨_,rfl,a,rfl⟩:=this;exact⟨_,_,rfl⟩
   .simp at h
  .simp at h
 .subst h;cases (b:cS σ X.F X.w .aw u);exact⟨_,_,rfl⟩
 .subst h;cases (b:cS σ X.F X.w .es u);exact⟨_,_,rfl⟩
 .subst h;cases (b:cS σ X.F X.w (.fs _ _) u)<;>exact⟨_,_,rfl⟩
theorem lL(K:SR Q σ X){sz:Nat}{x:C}{u:Value}(y:CR σ X x u){l:Nat}(m:aV X.H x=aa l){cs:List C}(h:cA X.H sz x=aa cs) :
  ∃us,(Builtin.firstCells sz l u).run Q X.w=.ok us.toArray X.w/\A2 (CR σ X) cs us/\cs.length=l*sz:=by
 have row:∀(c o:Nat) (us:List Value) (cap:Nat),us.length=l*sz->(∀(i:Nat) u,us[i]?=aa u->X.w.cell? ⟨c,o+i,ab⟩=aa u)->
   (Builtin.firstCells sz l (.slice (aa ⟨c,o,ab⟩) l cap)).run Q X.w=.ok us.toArray X.w:=by
  intro c o us cap g F;have:=run_loadCells_list (P:=Q) X.w ⟨c,o,ab⟩ us (λj v O=>by rw[eo];exact F j v O);rw[g]at this;simpa[Builtin.firstCells]using this
 unfold cA at h;split at h<;>try simp only[reduceCtorEq]at h
 .rename_i b o I cap U s;simp only[CR,fM]at y;simp only[aV]at m;split at h
  .rename_i cs' N E;rw[E]at y m;simp only[anc]at m;subst m;obtain⟨L,J,_,rfl⟩:=y;split at h
   .rename_i q;simp only[anc]at h;subst h;obtain⟨_,_,bY,d,z⟩:=K.br b L J;rw[E]at d;simp only[anc]at d;subst d;obtain⟨us,H,B,_⟩:=z;have:=B.len;refine⟨(us.drop o).take (I*sz),row _ _ _ _ (by simp;omega) (λi u g=>?_),(B.drop o).take _,by simp;omega⟩;rw[ec H];rw[arX]at g;split at g
    .rw[arC]at g;exact g
    .simp at g
   .simp at h
  .rename_i Y cs' N e st E;rw[E]at y m;split at h
   .rename_i F;obtain⟨rfl,rfl,q⟩:=F;simp only[and_self,if_true,anc]at m;subst m;simp only[anc]at h;subst h;have A:=y.2.1 rfl rfl;cases st with
    |loc=>
     obtain⟨L,J,k,_,_,rfl⟩:=A;obtain⟨_,_,bY,d,z⟩:=K.br b L J;rw[E]at d;simp only[anc]at d;subst d;obtain⟨_,us,rest,H,B,_⟩:=z;have:=B.len;refine⟨(us.drop o).take (I*sz),row _ _ _ _ (by simp;omega) (λi u g=>?_),(B.drop o).take _,by simp;omega⟩;rw[ec H];rw[arX]at g;split at g
     .rw[arC]at g;rw[aq1 (aq4.1 g).1];exact g
     .simp at g
    |nil=>
     obtain⟨rfl,rfl,rfl⟩:=A;exact⟨[],by simp[Builtin.firstCells],by simpa using A2.nil,by simp⟩
    |es=>
     obtain⟨rfl,rfl,a,rfl⟩:=A;exact⟨[],by simp[Builtin.firstCells,loadCells,loadCellsFrom],by simpa using A2.nil,by simp⟩
   .simp at h
  .simp at h
 .simp only[anc]at h;subst h;simp only[aV,anc]at m;subst m;cases (y:cS σ X.F X.w .aw u);exact⟨[],by simp[Builtin.firstCells],A2.nil,by simp⟩
 .simp only[anc]at h;subst h;simp only[aV,anc]at m;subst m;cases (y:cS σ X.F X.w .es u);exact⟨[],by simp[Builtin.firstCells,loadCells,loadCellsFrom],A2.nil,by simp⟩
 .rename_i cs' I;simp only[aV,anc]at m;subst m;split at h
  .rename_i q;simp only[anc]at h;subst h;cases (y:cS σ X.F X.w (.fs cs' I) u)with
   |fs _ _ c o cap us M S W F H=>
    exact⟨us,row _ _ _ _ (by omega) F,A2.map ⟨by omega,H⟩,by simp;omega⟩
   |fs0 a cap=>exact⟨[],by simp[Builtin.firstCells,loadCells,loadCellsFrom],A2.nil,by simp⟩
  .simp at h
theorem aeX{v:V}{u:Value}(h:VR σ X v u){c:C}(l:ta v=aa c):fM σ X c u:=by
 unfold ta at l;split at l
 .simp at l
 .simp at l
 .rename_i x q m;simp only[anc]at l;subst l;cases x with
  |cl f j=>exact absurd rfl (q f j)| bm f j=>exact absurd rfl (m f j)| mi b=>exact h| f y=>exact h| ptr a b c=>exact h| sl a b c d e g=>exact h| yl b=>exact h| mp b=>exact h| it b=>exact h
 .simp at l
theorem xe{xs:List V}{us:List Value}(h:A2 (VR σ X) xs us){cs:List C}(b:aX ta xs=aa cs):A2 (fM σ X) cs us:=by
 induction xs generalizing us cs with
 |nil=>
  simp only[aX,anc]at b;subst b
  match us,h.len with
  |[],_=>exact A2.nil
 |cons x xs m=>
  match us,h with
  |u::us,h=>
   obtain⟨g,j⟩:=h.of_cons;simp only[aX]at b;split at b
   .simp at b
   .rename_i y l;split at b
    .simp at b
    .rename_i ys d;simp only[anc]at b;subst b;exact A2.cons (aeX g l) (m j d)
  |[],h=>have:=h.len;simp at this
theorem dM{d:Operand->Value}{o:Oper}{c:Call}{b:Builtin}(j:o.op=.call c)(g:c.callee=.builtin b){r:Result Next}{w:World}
  (h:∀cs,(builtin b c.argTypes o.type cs (c.args.map d)).run Q w=r):(execOp d o).run Q w=r:=by
 simp only[execOp,j,resolve,g,Sem.run_bind,Sem.run_pure,Result.andThen_ok,invoke];exact h _
theorem sZ{α:Type}{a:Array α}{x:α}(h:a.toList=[x]):a=#[x]:=by
 apply Array.ext';simp[h]
theorem aeT{α:Type}{a:Array α}{x y:α}(h:a.toList=[x,y]):a=#[x,y]:=by
 apply Array.ext';simp[h]
theorem K5{c:Call}{x:Arg}(h:dX Q σ c (.len x)=ae):∃y t e,c.callee=.builtin .len/\c.args=#[y]/\c.argTypes=#[t]/\mA σ x y=ae/\Q.underlying t=aa (.slice e):=by
 simp only[dX]at h;split at h
 .rename_i y t b d g;simp only[aq3]at h;have:=h.2;split at this
  .exact⟨y,t,_,b,sZ d,sZ g,h.1,by assumption⟩
  .simp at this
 .simp at h
theorem z6{c:Call}{x:Arg}(h:dX Q σ c (.lens x)=ae):∃y t,c.callee=.builtin .len/\c.args=#[y]/\c.argTypes=#[t]/\mA σ x y=ae/\Q.underlying t=aa .string:=by
 simp only[dX]at h;split at h
 .rename_i y t b d g;simp only[aq3]at h;have:=h.2;split at this
  .exact⟨y,t,b,sZ d,sZ g,h.1,by assumption⟩
  .simp at this
 .simp at h
theorem z5{c:Call}{n:Nat}(h:dX Q σ c (.te n)=ae):∃y t e,c.callee=.builtin .len/\c.args=#[y]/\c.argTypes=#[t]/\Q.underlying t=aa (.array n e):=by
 simp only[dX]at h;split at h
 .rename_i y t b d g;split at h
  .rename_i m e j;simp only[decide_eq_true_eq]at h;subst h;exact⟨y,t,e,b,sZ d,sZ g,j⟩
  .simp at h
 .simp at h
theorem z7{c:Call}{lo:Bool}{xs:List Arg}(h:dX Q σ c (.fu lo xs)=ae):c.callee=.builtin (if lo then .min else .max)/\mAs σ xs c.args=ae:=by
 simp only[dX]at h;split at h
 .rename_i b;exact⟨b,h⟩
 .rename_i b;exact⟨b,h⟩
 .simp at h
theorem Zf{lo:Bool}{x y z:V}{u v:Value}(b:VR σ X x u)(d:VR σ X y v)(h:uB lo x y=aa z)(w:World):∃r,(if lo then Builtin.min2 u v else Builtin.max2 u v).run Q w=.ok r w/\VR σ X z r:=by
 unfold uB at h;split at h
 .simp only[anc]at h;subst h;have b:=VR.int b;have d:=VR.int d;subst b;subst d;cases lo
  .exact⟨_,by simp[Builtin.max2],VR.mkInt _ _⟩
  .exact⟨_,by simp[Builtin.min2],VR.mkInt _ _⟩
 .simp at h
theorem xY{lo:Bool}(w:World):∀{ys:List V} {d:List Value} {x z:V} {u:Value},VR σ X x u->A2 (VR σ X) ys d->qu lo x ys=aa z->∃r,(d.foldlM (λu v=>if lo then Builtin.min2 u v else Builtin.max2 u v) u).run Q w=.ok r w/\VR σ X z r
 |[],d,x,z,u,g,b,h=>by
  have:d=[]:=ark b.len.symm;subst this;simp only[qu,anc]at h;subst h;exact⟨u,rfl,g⟩
 |y::ys,[],x,z,u,g,b,h=>by have:=b.len;simp at this
 |y::ys,v::d,x,z,u,g,b,h=>by
  obtain⟨A,b⟩:=b.of_cons;simp only[qu]at h;split at h
  .rename_i q B;obtain⟨E,j,l⟩:=Zf (Q:=Q) g A B w;obtain⟨r,m,s⟩:=xY w l b h;exact⟨r,by rw[List.foldlM_cons,Sem.run_bind,j];exact m,s⟩
  .simp at h
theorem K4{c:Call}{x:Arg}(h:dX Q σ c (.cap x)=ae):∃y t e,c.callee=.builtin .cap/\c.args=#[y]/\c.argTypes=#[t]/\mA σ x y=ae/\Q.underlying t=aa (.slice e):=by
 simp only[dX]at h;split at h
 .rename_i y t g j l;simp only[aq3]at h;obtain⟨m,d⟩:=h;split at d
  .rename_i e b;exact⟨y,t,e,g,sZ j,sZ l,m,b⟩
  .simp at d
 .simp at h
theorem Z'{x:C}{u:Value}(d:CR σ X x u){n:Nat}(h:kz X.H x=aa n):∃a l,u=.slice a l n:=by
 cases x with
 |sl b o l c m sz=>
  simp only[kz]at h;simp only[CR,fM]at d;split at h
  .rename_i g;rw[g]at d;obtain⟨L,_,_,rfl⟩:=d;simp only[anc]at h;subst h;exact⟨_,_,rfl⟩
  .rename_i g;rw[g]at d;split at h
   .rename_i j;have:=d.2.1 j.1 j.2;simp only[anc]at h;subst h;obtain⟨_,_,rfl⟩:=this;exact⟨_,_,rfl⟩
   .simp at h
  .rename_i g;rw[g]at d;split at h
   .rename_i j;have:=d.2.1 j.1 j.2;simp only[anc]at h;subst h;obtain⟨_,_,a,rfl⟩:=this;exact⟨_,_,rfl⟩
   .simp at h
  .simp at h
 |f y=>
  cases y<;>simp only[kz,anc,reduceCtorEq]at h
  .subst h;cases (d:cS σ X.F X.w .aw u);exact⟨_,_,rfl⟩
  .subst h;cases (d:cS σ X.F X.w .es u);exact⟨_,_,rfl⟩
 |_=>simp[kz]at h
theorem Bm(v:SR Q σ X){m:Nat}{L:Loc}(u:X.cE m=aa L){e:FC × C}(x:X.H[m]?=aa (.map [e])):∃d:MapEntry,X.w.heap[L.c]?=aa (.map #[d] 1)/\cS σ X.F X.w e.1 d.key/\ib σ X (mV e.2) d.val/\d.born=0:=by
 obtain⟨_,_,bY,g,l⟩:=v.br m L u;rw[x]at g;cases g;obtain⟨j,q,b,s⟩:=l
 match j,b with
 |[d],b=>exact⟨d,q,b.of_cons.1.1,b.of_cons.1.2,s 0 d rfl⟩| [],b=>have:=b.len;simp at this| _::_::_,b=>have:=b.len;simp at this
theorem KF(q:SR Q σ X){x:V}{u:Value}(K:VR σ X x u){v:V}(h:ld X.H x=aa v):∃r,(Instr.entry u).run Q X.w=.ok r X.w/\VR σ X v r:=by
 unfold ld at h;split at h
 .rename_i b;obtain⟨L,H,_,rfl⟩:=K;split at h
  .rename_i m s I;split at h
   .rename_i e J;simp only[anc]at h;subst h;obtain⟨_,_,bY,d,j⟩:=q.br b L H;rw[I]at d;cases d;obtain⟨M,N,st,E,_,F,l⟩:=j;simp only[if_true]at l;obtain⟨rfl,rfl⟩:=l;obtain⟨g,y,z,A,B⟩:=Bm q E J;refine⟨.tuple #[g.key,g.val],?_,[g.key,g.val],rfl,A2.cons z (A2.cons A A2.nil)⟩;simp[Instr.entry,getObj,Sem.run,F,y,B,Result.andThen]
   .simp at h
  .simp at h
 .simp at h
theorem xm:∀{cs:List C} {us:List Value} {bs:List UInt8},A2 (CR σ X) cs us->aX (λc=>match c with|C.f (.int .u8 n)=>aa (UInt8.ofNat n.toNat)|_=>ab) cs=aa bs->
  ∃g:List Int,us=g.map (Value.int .u8)/\bs=g.map λn=>UInt8.ofNat n.toNat
 |[],us,bs,h,b=>by
  simp only[aX,anc]at b;subst b
  match us,h.len with
  |[],_=>exact⟨[],rfl,rfl⟩
 |c::cs,[],bs,h,b=>by have:=h.len;simp at this
 |c::cs,u::us,bs,h,b=>by
  obtain⟨l,m⟩:=h.of_cons;simp only[aX]at b;split at b
  .simp at b
  .rename_i y d;split at b
   .simp at b
   .rename_i ys j;simp only[anc]at b;subst b;obtain⟨g,rfl,rfl⟩:=xm m j;split at d
    .rename_i n;simp only[anc]at d;subst d;cases (l:cS σ X.F X.w (.int .u8 n) u);exact⟨n::g,rfl,rfl⟩
    .simp at d
theorem foldl_push:∀(b:List Int) (s:ByteArray),b.foldl (λ(r:ByteArray) n=>r.push (UInt8.ofNat n.toNat)) s=⟨s.data++(b.map λn=>UInt8.ofNat n.toNat).toArray⟩
 |[],s=>by simp
 |n::b,s=>by
  rw[asU,foldl_push b]
  congr 1
  simp[ByteArray.push]
theorem YH(y:SR Q σ X){x:V}{u:Value}(q:VR σ X x u){v:V}(h:ql X.H x=aa v):∃r,(Conv.bytesToString u).run Q X.w=.ok r X.w/\VR σ X v r:=by
 unfold ql at h;split at h
 .rename_i x;split at h
  .rename_i l m;split at h
   .rename_i cs j;simp only[aq5]at h;obtain⟨bs,z,rfl⟩:=h;obtain⟨us,g,s,A⟩:=lL y q m j;obtain⟨d,c,rfl⟩:=kB q m;obtain⟨b,rfl,rfl⟩:=xm s z;refine⟨.string (b.foldl (λ(r:ByteArray) n=>r.push (UInt8.ofNat n.toNat)) ByteArray.empty),?_,?_⟩
    .cases d with
     |none=>
      simp only[Builtin.firstCells,Sem.run_pure,Result.ok.injEq,and_true]at g;have:b=[]:=by
       have:=congrArg Array.toList g;simpa using this.symm
      subst this;simp only[Conv.bytesToString,List.foldl_nil,List.map_nil,Sem.run_pure]
     |some d=>exact run_bytesToString X.w d l c b (by simpa[Builtin.firstCells]using g)
    .rw[foldl_push];rw[show(ByteArray.empty.data++(List.map (λn:Int=>UInt8.ofNat n.toNat) b).toArray)=(List.map (λn:Int=>UInt8.ofNat n.toNat) b).toArray from Array.empty_append];exact VR.mkStr _
   .simp at h
  .simp at h
 .simp at h
theorem ahn(hS:SR Q σ X){a:Act}{aF:T}(H:RR σ X aF a.tmps){o:Oper}{op:dn}(A:dV Q σ o op=ae)(hc:cls op=.p\/cls op=.r)(d6:op.fsl=ag){v:V}{H':aj}
  (h:bG aF X.H op=aa (v,H')):H'=X.H/\∃u,(execOp a.eval o).run Q X.w=.ok (.value u) X.w/\VR σ X v u:=by
 cases op<;>first|(simp only[cls,reduceCtorEq,or_self]at hc;done)|(simp[dn.fsl]at d6;done)|clear d6
 case cP x=>
  simp only[bG,anc,aq8]at h;obtain⟨rfl,rfl⟩:=h;refine⟨rfl,?_⟩;simp only[dV]at A;split at A
  .rename_i y E;exact⟨_,by simp[execOp,E],bV H A⟩
  .rename_i y E;exact⟨_,by simp[execOp,E],bV H A⟩
  .simp at A
 case pick c x y=>
  simp only[dV]at A;split at A
  .rename_i c' x' y' E;simp only[aq3]at A;simp only[bG]at h;have b_:=bV H A.1.1;split at h
   .rename_i b Z;rw[Z]at b_;have b_:=VR.bool b_;simp only[anc,aq8]at h;obtain⟨rfl,rfl⟩:=h;cases b
    .exact⟨rfl,_,by simp[execOp,E,b_,asBool],bV H A.2⟩
    .exact⟨rfl,_,by simp[execOp,E,b_,asBool],bV H A.1.2⟩
   .simp at h
  .simp at A
 case build zs qs=>
  simp only[dV]at A;split at A
  .rename_i t ps E;simp only[aq3]at A;simp only[bG,aq5,aq8]at h;obtain⟨cs,a_,rfl,rfl⟩:=h;obtain⟨z,us,h_,i6,i7,_⟩:=eV (σ:=σ) (X:=X) A.1 X.w;refine⟨rfl,?_⟩;have Z:=A.2;unfold Zb at Z;split at Z
   .rename_i fs K;split at Z
    .rename_i pl j8;obtain⟨c6,N,h6⟩:=mY (place:=(pl.toArray[·]?)) H ((eM Z).kH λq p W=>by
      simp only[aq3,decide_eq_true_eq]at W;exact⟨by simpa using W.1,W.2⟩) i7 a_
     refine⟨.agg c6.toArray,?_,c6,rfl,h6⟩;have hp:=run_places (P:=Q) X.w fs.toList pl j8;simp only[execOp,E];refine er ?_;simp[Instr.build,h_,aW K,Array.mapM_eq_mapM_toList,hp,i6];simp at N;simp[N]
    .simp at Z
   .rename_i n e K;split at Z
    .rename_i i8 hi;obtain⟨c6,N,h6⟩:=mY (place:=λi=>aa (i*i8.size,i8.size)) H ((eM Z).kH λq p W=>by
      simp only[aq3,beq_iff_eq]at W;exact⟨by rw[W.1.2,W.1.1],W.2⟩) i7 a_
     refine⟨.agg c6.toArray,?_,c6,rfl,h6⟩;simp only[execOp,E];refine er ?_;simp[Instr.build,h_,aW K,Go.sizeOf,typeInfo,hi,i6,N]
    .simp at Z
   .simp at Z
  .simp at A
 case load k x=>
  simp only[dV]at A;split at A
  .rename_i t y E;simp only[aq3]at A;simp only[bG,aq5,aq8]at h;obtain⟨v',F,rfl,rfl⟩:=h;obtain⟨u,J,M⟩:=ajO hS A.1 (bV H A.2) F;exact⟨rfl,u,by simp only[execOp,E];exact er J,M⟩
  .simp at A
 case bB x=>
  simp only[dV]at A;split at A
  .rename_i y E;have B:=bV H A;simp only[bG]at h;have d7:∀ad,a.eval y=.pointer (aa ad)->(execOp a.eval o).run Q X.w=.ok (.value (a.eval y)) X.w:=by
    intro ad b7;simp[execOp,E,b7]
   split at h
   .rename_i b d5 e Z;simp only[anc,aq8]at h;obtain⟨rfl,rfl⟩:=h;rw[Z]at B;have c_:=B;obtain⟨L,hL,B⟩:=B;split at B
    .exact⟨rfl,_,d7 _ B,c_⟩
    .obtain⟨_,_,ad,b7⟩:=B;exact⟨rfl,_,d7 _ b7,c_⟩
    .exact B.elim
   .rename_i cs d5 Z;simp only[anc,aq8]at h;obtain⟨rfl,rfl⟩:=h;rw[Z]at B;have c_:=B;have:∃ad,a.eval y=.pointer (aa ad):=by
     generalize a.eval y=u at B;cases (B:cS σ X.F X.w (.fp cs d5) u);exact⟨_,rfl⟩
    obtain⟨ad,b7⟩:=this;exact⟨rfl,_,d7 _ b7,c_⟩
   .simp at h
  .simp at A
 case bin op x y=>
  simp only[dV]at A;split at A
  .rename_i i_ t x' y' yt E;simp only[aq3,decide_eq_true_eq]at A;obtain⟨⟨rfl,B⟩,S⟩:=A;simp only[bG,aq5,aq8]at h;obtain⟨v',F,rfl,rfl⟩:=h;have B:=bV H B;have S:=bV H S;refine⟨rfl,?_⟩;have guard:∀op,(∀xs,a.eval x'≠.agg xs)->a.eval x'≠.nilIface->(eqGuard op t x' y' (a.eval x') (a.eval y')).run Q X.w=.ok () X.w:=by
    intro op J M;cases op<;>simp[eqGuard]<;>(generalize a.eval x'=ux at *;cases ux<;>simp at J M ⊢)
   unfold bL at F;split at F
   .rename_i k n k' m J M;rw[J]at B;rw[M]at S;have B:=VR.int B;have S:=VR.int S;split at F
    .simp at F
    .rename_i A;simp only[anc]at F;subst F;exact⟨_,by simp only[execOp,E];refine er ?_;rw[Sem.run_bind,guard _ (by simp[B]) (by simp[B])];simp[B,S,binOp,Op.shift,A],VR.mkInt _ _⟩
   .rename_i k n k' m J M;rw[J]at B;rw[M]at S;have B:=VR.int B;have S:=VR.int S;split at F
    .simp at F
    .rename_i A;simp only[anc]at F;subst F;exact⟨_,by simp only[execOp,E];refine er ?_;rw[Sem.run_bind,guard _ (by simp[B]) (by simp[B])];simp[B,S,binOp,Op.shift,A],VR.mkInt _ _⟩
   .rename_i k n k' m _ _ J M;rw[J]at B;rw[M]at S;have B:=VR.int B;have S:=VR.int S;split at F
    .rename_i hk;subst hk;obtain⟨u,Y,O,N⟩:=aeV (Q:=Q) (σ:=σ) (X:=X) F X.w;exact⟨u,by simp only[execOp,E];refine er ?_;rw[Sem.run_bind,guard _ (by simp[B]) (by simp[B])];simp[B,S,N,Y],O⟩
    .simp at F
   .rename_i s1 s2 J M;rw[J]at B;rw[M]at S;have B:=VR.str B;have S:=VR.str S;obtain⟨u,Y,O⟩:=aeW (Q:=Q) (σ:=σ) (X:=X) F X.w t;exact⟨u,by simp only[execOp,E];refine er ?_;rw[Sem.run_bind,guard _ (by simp[B]) (by simp[B])];simp[B,S,Y],O⟩
   .simp at F
  .simp at A
 case eq neg k x y=>
  simp only[dV]at A;split at A
  .rename_i i_ t x' y' yt E;simp only[aq3,decide_eq_true_eq]at A;obtain⟨⟨⟨rfl,B⟩,S⟩,hk⟩:=A;simp only[bG,aq5,aq8]at h;obtain⟨b,F,rfl,rfl⟩:=h;refine⟨rfl,_,?_,VR.rO _⟩;simp only[execOp,E];exact er (ajt hk (bV H B) (bV H S) F neg X.w)
  .simp at A
 case un op x=>
  simp only[dV]at A;split at A
  .rename_i i_ t y E;simp only[aq3,decide_eq_true_eq]at A;obtain⟨rfl,B⟩:=A;simp only[bG,aq5,aq8]at h;obtain⟨v',F,rfl,rfl⟩:=h;have B:=bV H B;refine⟨rfl,?_⟩;unfold unV at F;split at F
   .rename_i k n J;rw[J]at B;have B:=VR.int B;simp only[anc]at F;subst F;exact⟨_,by simp[execOp,E,B,Op.unary,Op.intArith],VR.mkInt _ _⟩
   .rename_i b J;rw[J]at B;have B:=VR.bool B;simp only[anc]at F;subst F;exact⟨_,by simp[execOp,E,B,Op.unary],VR.rO _⟩
   .simp at F
  .simp at A
 case gG k x=>
  simp only[dV]at A;split at A
  .rename_i s d y E;simp only[aq3]at A;obtain⟨⟨B,hs⟩,hd⟩:=A;have B:=bV H B;simp only[bG]at h;split at h
   .rename_i q n J;rw[J]at B;have B:=VR.int B;simp only[anc,aq8]at h;obtain⟨rfl,rfl⟩:=h;split at hd
    .rename_i k' K;simp only[decide_eq_true_eq]at hd;subst hd;obtain⟨ds,j4⟩:=Option.isSome_iff_exists.1 hs;exact⟨rfl,_,by simp only[execOp,E];refine er ?_;simp[convert,aW j4,aW K,B,Conv.intToInt],VR.mkInt _ _⟩
    .simp at hd
   .simp at h
  .simp at A
 case zB x=>
  simp only[dV]at A;split at A
  .rename_i s d y E;simp only[aq3]at A;obtain⟨B,hd⟩:=A;have B:=bV H B;simp only[bG]at h;split at h
   .rename_i q J;rw[J]at B;have B:=VR.str B;simp only[anc,aq8]at h;obtain⟨rfl,rfl⟩:=h;split at hd
    .rename_i d_ e_;exact⟨rfl,_,by simp only[execOp,E];refine er ?_;simp[convert,aW d_,aW e_,B],VR.mkStr _⟩
    .simp at hd
   .simp at h
  .simp at A
 case im f xs=>
  simp only[dV]at A;split at A
  .rename_i g fst a8 E;simp only[aq3,beq_iff_eq]at A;obtain⟨⟨I,rfl⟩,B⟩:=A;simp only[bG,aq5,aq8]at h;obtain⟨cs,a_,rfl,rfl⟩:=h;have:=xe (mr H B) a_;have f_:fst=#[]:=by simpa using I
   exact⟨rfl,.func (.func (σ f)) #[] (a8.map a.eval),by simp only[execOp,E,Instr.makeFunc,f_];exact er (by simp),(a8.map a.eval).toList,congrArg _ Array.toArray_toList.symm,this⟩
  .simp at A
 case slice sz x lo hi mx=>
  simp only[dV]at A;split at A
  .rename_i t y i9 g_ mx' E;simp only[aq3,decide_eq_true_eq]at A;obtain⟨⟨⟨⟨⟨B,J⟩,M⟩,Y⟩,he⟩,hz⟩:=A;obtain⟨e,K,U⟩:=gM he;simp only[bG,aq5,aq8]at h;obtain⟨v',F,rfl,rfl⟩:=h;obtain⟨r,O,N⟩:=uR hS K U (bV H B) (qk H J) (qk H M) (qk H Y) F;exact⟨rfl,r,by simp only[execOp,E];exact er O,N⟩
  .simp at A
 case pe n sz x lo hi mx=>
  simp only[dV]at A;split at A
  .rename_i t y i9 g_ mx' E;simp only[aq3,decide_eq_true_eq]at A;obtain⟨⟨⟨⟨⟨B,J⟩,M⟩,Y⟩,he⟩,hz⟩:=A;split at he
   .rename_i n' e K;simp only[aq3,beq_iff_eq]at he;obtain⟨rfl,U⟩:=he;simp only[bG,aq5,aq8]at h;obtain⟨v',F,rfl,rfl⟩:=h;obtain⟨r,O,N⟩:=Lx hS K U (bV H B) (qk H J) (qk H M) (qk H Y) F;exact⟨rfl,r,by simp only[execOp,E];exact er O,N⟩
   .simp at he
  .simp at A
 case qy x lo hi=>
  simp only[dV]at A;split at A
  .rename_i t y i9 g_ E;simp only[aq3]at A;obtain⟨⟨⟨B,J⟩,M⟩,he⟩:=A;split at he
   .rename_i K;simp only[bG,aq5,aq8]at h;obtain⟨v',F,rfl,rfl⟩:=h;obtain⟨r,O,N⟩:=Ly K (bV H B) (qk H J) (qk H M) F X.w;exact⟨rfl,r,by simp only[execOp,E,Option.map_none];exact er O,N⟩
   .simp at he
  .simp at A
 case aO d5 x=>
  simp only[dV]at A;split at A
  .rename_i t y i E;simp only[aq3]at A;obtain⟨B,I⟩:=A;split at I
   .rename_i fs K;split at I
    .rename_i f d8;simp only[aq3,beq_iff_eq]at I;obtain⟨rfl,hz⟩:=I;simp only[bG,aq5,aq8]at h;obtain⟨v',F,rfl,rfl⟩:=h;obtain⟨r,O,N⟩:=zH K d8 hz (bV H B) F X.w;exact⟨rfl,r,by simp only[execOp,E];exact er O,N⟩
    .simp at I
   .simp at I
  .simp at A
 case field d5 n x=>
  simp only[dV]at A;split at A
  .rename_i t y i E;simp only[aq3]at A;obtain⟨B,I⟩:=A;split at I
   .rename_i fs K;split at I
    .rename_i f d8;simp only[aq3,beq_iff_eq]at I;obtain⟨rfl,hz⟩:=I;simp only[bG,aq5,aq8]at h;obtain⟨v',F,rfl,rfl⟩:=h;obtain⟨r,O,N⟩:=KJ K d8 hz (bV H B) F X.w;exact⟨rfl,r,by simp only[execOp,E];exact er O,N⟩
    .simp at I
   .simp at I
  .simp at A
 case bu sz f8 x i=>
  simp only[dV]at A;split at A
  .rename_i t y j E;simp only[aq3]at A;obtain⟨⟨B,hi⟩,I⟩:=A;simp only[bG,aq5,aq8]at h;obtain⟨v',F,rfl,rfl⟩:=h;have:∃e,dF Q e sz=ae/\((f8=ab/\Q.underlying t=aa (.slice e))\/∃n,f8=aa n/\Q.underlying t=aa (.array n e)):=by
    split at I
    .rename_i e K;exact⟨e,I,.inl ⟨rfl,K⟩⟩
    .rename_i n e n' K;simp only[aq3,beq_iff_eq]at I;obtain⟨rfl,U⟩:=I;exact⟨e,U,.inr ⟨_,rfl,K⟩⟩
    .simp at I
   obtain⟨e,U,K⟩:=this;obtain⟨r,O,N⟩:=zN U K (bV H B) (bV H hi) F;exact⟨rfl,r,by simp only[execOp,E];exact er O,N⟩
  .simp at A
 case idxs x i=>
  simp only[dV]at A;split at A
  .rename_i t y j E;simp only[aq3]at A;obtain⟨⟨B,hi⟩,I⟩:=A;simp only[bG,aq5,aq8]at h;obtain⟨v',F,rfl,rfl⟩:=h;split at I
   .rename_i K;obtain⟨r,O,N⟩:=Y0 K (bV H B) (bV H hi) F X.w;exact⟨rfl,r,by simp only[execOp,E];exact er O,N⟩
   .simp at I
  .simp at A
 case xN n sz k x i=>
  simp only[dV]at A;split at A
  .rename_i t y j E;simp only[aq3]at A;obtain⟨⟨B,hi⟩,I⟩:=A;simp only[bG,aq5,aq8]at h;obtain⟨v',F,rfl,rfl⟩:=h;split at I
   .rename_i n' e K;simp only[aq3,beq_iff_eq]at I;obtain⟨⟨rfl,U⟩,hk⟩:=I;obtain⟨r,O,N⟩:=YZ K U hk (bV H B) (bV H hi) F X.w;exact⟨rfl,r,by simp only[execOp,E];exact er O,N⟩
   .simp at I
  .simp at A
 case lookup ck z m k=>
  simp only[dV]at A;split at A
  .rename_i t m' k' ok E;simp only[aq3,beq_iff_eq]at A;obtain⟨⟨⟨J,M⟩,j7⟩,I⟩:=A;simp only[bG,aq5,aq8]at h;obtain⟨v',F,rfl,rfl⟩:=h;split at I
   .rename_i kt e K;simp only[aq3]at I;obtain⟨u,O,N⟩:=K3 hS K I.1.1 j7 I.1.2 I.2 (bV H J) (bV H M) F;exact⟨rfl,u,by simp only[execOp,E];exact er O,N⟩
   .simp at I
  .simp at A
 case extract x i=>
  simp only[dV]at A;split at A
  .rename_i y j E;simp only[aq3,beq_iff_eq]at A;obtain⟨B,rfl⟩:=A;have B:=bV H B;simp only[bG]at h;split at h
   .rename_i vs j_;rw[j_]at B;simp only[aq5,aq8]at h;obtain⟨v',F,rfl,rfl⟩:=h;obtain⟨us,c9,M⟩:=B;obtain⟨u,K,k_⟩:=M.get F;exact⟨rfl,u,by simp only[execOp,E];refine er ?_;simp[Instr.extract,c9,K],VR.of1 σ k_⟩
   .simp at h
  .simp at A
 case te n=>
  simp only[dV]at A;split at A
  .rename_i c E;obtain⟨y,t,e,J,M,Y,K⟩:=z5 A;simp only[bG,anc,aq8]at h;obtain⟨rfl,rfl⟩:=h;exact⟨rfl,_,dM E J (λcs=>by simp[builtin,M,Y,Builtin.len_,aW K,goInt]),VR.mkInt _ _⟩
  .simp at A
 case lens x=>
  simp only[dV]at A;split at A
  .rename_i c E;obtain⟨y,t,J,M,Y,B,K⟩:=z6 A;have B:=bV H B;simp only[bG]at h;split at h
   .rename_i s hs;rw[hs]at B;have B:=VR.str B;simp only[anc,aq8]at h;obtain⟨rfl,rfl⟩:=h;exact⟨rfl,_,dM E J (λcs=>by simp[builtin,M,Y,Builtin.len_,aW K,B,goInt]),VR.mkInt _ _⟩
   .simp at h
  .simp at A
 case len x=>
  simp only[dV]at A;split at A
  .rename_i c E;obtain⟨y,t,e,J,M,Y,B,K⟩:=K5 A;have B:=bV H B;simp only[bG]at h;split at h
   .rename_i z hz;rw[hz]at B;split at h
    .rename_i n hn;simp only[anc,aq8]at h;obtain⟨rfl,rfl⟩:=h;obtain⟨ad,cp,d9⟩:=kB B hn;exact⟨rfl,_,dM E J (λcs=>by simp[builtin,M,Y,Builtin.len_,aW K,d9,goInt]),VR.mkInt _ _⟩
    .simp at h
   .simp at h
  .simp at A
 case fu lo xs=>
  simp only[dV]at A;split at A
  .rename_i c E;obtain⟨J,M⟩:=z7 A;have hA:=mr H M;simp only[bG,aq5,aq8]at h;obtain⟨v',F,rfl,rfl⟩:=h;refine⟨rfl,?_⟩;unfold vF at F;split at F
   .simp at F
   .rename_i x ys l_;rw[l_]at hA
    match c9:(c.args.map a.eval).toList,hA with
    |[],hA=>have:=hA.len;simp at this
    |u::us,hA=>
     obtain⟨B,hA⟩:=hA.of_cons;obtain⟨r,g1,g2⟩:=xY (Q:=Q) (lo:=lo) X.w B hA F;refine⟨r,dM E J (λcs=>?_),g2⟩;cases lo
     .simp only[arq,if_false]at g1 ⊢;have g1:(us.foldlM Builtin.max2 u).run Q X.w=.ok r X.w:=g1;have c5:List.map a.eval c.args.toList=u::us:=by simpa using c9
      simp[builtin,Builtin.max_,c5,g1]
     .simp only[if_true]at g1 ⊢;have g1:(us.foldlM Builtin.min2 u).run Q X.w=.ok r X.w:=g1;have c5:List.map a.eval c.args.toList=u::us:=by simpa using c9
      simp[builtin,Builtin.min_,c5,g1]
  .simp at A
 case cap x=>
  simp only[dV]at A;split at A
  .rename_i c E;obtain⟨y,t,e,J,M,Y,B,K⟩:=K4 A;have B:=bV H B;simp only[bG]at h;split at h
   .rename_i z hz;rw[hz]at B;split at h
    .rename_i n hn;simp only[anc,aq8]at h;obtain⟨rfl,rfl⟩:=h;obtain⟨ad,l,d9⟩:=Z' B hn;exact⟨rfl,_,dM E J (λcs=>by simp[builtin,M,Y,Builtin.cap_,aW K,d9,goInt]),VR.mkInt _ _⟩
    .simp at h
   .simp at h
  .simp at A
 case entry x=>
  simp only[dV]at A;split at A
  .rename_i y E;simp only[bG,aq5,aq8]at h;obtain⟨v',F,rfl,rfl⟩:=h;obtain⟨r,g1,g2⟩:=KF hS (bV H A) F;exact⟨rfl,r,by simp only[execOp,E];exact er g1,g2⟩
  .simp at A
 case x7 f xs=>
  simp only[dV]at A;split at A
  .rename_i g fst a8 E;simp only[aq3,beq_iff_eq]at A;obtain⟨⟨I,rfl⟩,B⟩:=A;simp only[bG,aq5,aq8]at h;obtain⟨cs,a_,rfl,rfl⟩:=h;have:=xe (mr H B) a_;have f9:a8=#[]:=by simpa using I
   exact⟨rfl,.func (.func (σ f)) (fst.map a.eval) #[],by simp only[execOp,E,Instr.makeFunc,f9];exact er (by simp),(fst.map a.eval).toList,by rw[Array.toArray_toList],this⟩
  .simp at A
 case call f args h'=>cases h'<;>simp[cls]at hc
 case xA x=>
  simp only[dV]at A;split at A
  .rename_i s d y E;simp only[aq3]at A;obtain⟨B,hd⟩:=A;have B:=bV H B;split at hd
   .rename_i e d_ e_;simp only[aq3]at hd;have j9:Q.underlying e=aa (.int .u8):=by
     have:=hd.1;unfold anQ at this;split at this
     .assumption
     .simp at this
    simp only[bG,aq5,aq8]at h;obtain⟨v',F,rfl,rfl⟩:=h;obtain⟨u,O,N⟩:=YH hS B F;refine⟨rfl,u,?_,N⟩;simp only[execOp,E];refine er ?_;simp only[convert,Sem.run_bind,aW d_,aW e_,Result.andThen_ok];have:∃ad l c,a.eval y=.slice ad l c:=by
     unfold ql at F;split at F
     .rename_i z hz;rw[hz]at B;split at F
      .rename_i l hl;obtain⟨ad,c,h⟩:=kB B hl;exact⟨_,_,_,h⟩
      .simp at F
     .simp at F
    obtain⟨ad,l,c,h6⟩:=this;rw[h6]at O ⊢;simp only[Sem.run_bind,aW j9,Result.andThen_ok,O]
   .simp at hd
  .simp at A
end
section
variable{Q:Program}{σ:Nat->FuncId}{X:Wd}
theorem SR.lt(d:SR Q σ X){b:Nat}{L:Loc}(h:X.cE b=aa L):b<X.H.length:=by
 obtain⟨_,_,bY,hb,_⟩:=d.br b L h;exact(aq4.1 hb).1
theorem SR.pU(b:SR Q σ X):X.cE X.H.length=ab:=by
 cases h:X.cE X.H.length with
 |none=>rfl| some L=>have:=SR.lt b h;omega
theorem Ext.one(y:SR Q σ X){X':Wd}(b0:Nat)(v:X'.B=X.B)(s:∀c i,X'.F c i↔X.F c i)
  (u:∀k,k<X.w.heap.size->(∀L,X.cE b0=aa L->k≠L.c)->X'.w.heap[k]?=X.w.heap[k]?)
  (m:∀L i,X.cE b0=aa L->X.F L.c i->X'.w.cell? ⟨L.c,i,ab⟩=X.w.cell? ⟨L.c,i,ab⟩) (j:b0<X.H.length->lO X X' b0)
  (x:∀b,b≠b0->b<X.H.length->X'.H[b]?=X.H[b]?) (d:∀b,b≠b0->X'.cE b=X.cE b)
  (q:∀L,X'.cE b0=aa L->(∃L0,X.cE b0=aa L0/\L0.c=L.c)\/X.w.heap.size<=L.c) (E:X.w.heap.size<=X'.w.heap.size) (ho:X'.w.os=X.w.os) (H:X'.w.tape=X.w.tape)
  (hu:X'.w.output=X.w.output):Ext X.H.length X X' where
 B:=v
 F:=λc i h=>(s c i).2 h
 ov:=λc i h=>.inl ((s c i).1 h)
 fw:=λc i h=>by
  by_cases hc:∃L,X.cE b0=aa L/\c=L.c
  .obtain⟨L,g,rfl⟩:=hc;exact m L i g h
  .exact World.cell?_of_block (u c (y.fb c i h) λL g e=>hc ⟨L,g,e⟩)
 bE:=λb hb=>by
  by_cases h:b=b0
  .subst h;exact j hb
  .intro bY l;refine⟨bY,(x b h hb).trans l,?_⟩;have:∀L,X.cE b=aa L->X'.cE b=aa L:=λL g=>(d b h).trans g;cases bY<;>simp_all
 ue:=λb L hb=>by
  by_cases h:b=b0
  .subst h;rcases q L hb with⟨L0,h1,h2⟩|h1
   .exact .inl ⟨b,L0,h1,h2⟩
   .exact .inr h1
  .rw[d b h]at hb;exact .inl ⟨b,L,hb,rfl⟩
 size:=E
 os:=ho
 tape:=H
 output:=hu
 frame:=λk z A=>u k z λL g e=>A b0 L g e.symm
theorem SR.grow(d:SR Q σ X)(bY:cH):SR Q σ { X with H:=X.H++[bY] }/\Ext X.H.length X { X with H:=X.H++[bY] }:=by
 have g:Ext X.H.length X { X with H:=X.H++[bY] }:=Ext.one d X.H.length rfl (λ_ _=>Iff.rfl) (λ_ _ _=>rfl) (λ_ _ _ _=>rfl) (λh=>by omega)
  (λb _ h=>by simp[aq1 h]) (λ_ _=>rfl) (λL h=>by rw[SR.pU d]at h;simp at h) (aq9 _) rfl rfl rfl
 refine⟨⟨λb L hb=>?_,d.inj,d.fb⟩,g⟩;obtain⟨h1,h2,blk',h3,j⟩:=d.br b L hb;exact⟨h1,h2,blk',by rw[aq1 (SR.lt d hb)];exact h3,BR.ext Q σ g rfl (λ_ h=>h) j⟩
structure dZ(w w':World)(o:Obj):Prop where
 heap:w'.heap=w.heap.push o
 os:w'.os=w.os
 tape:w'.tape=w.tape
 output:w'.output=w.output
theorem dZ.alloc(w:World)(o:Obj):dZ w (w.alloc o) o:=⟨rfl,rfl,rfl,rfl⟩
theorem dZ.yZ{w w':World}{o:Obj}(h:dZ w w' o){k:Nat}(b:k<w.heap.size):w'.heap[k]?=w.heap[k]?:=by
 rw[h.heap,Array.getElem?_push,aR (by omega)]
theorem dZ.new{w w':World}{o:Obj}(h:dZ w w' o):w'.heap[w.heap.size]?=aa o:=by
 rw[h.heap];simp
theorem dZ.size{w w':World}{o:Obj}(h:dZ w w' o):w'.heap.size=w.heap.size+1:=by
 rw[h.heap];simp
theorem SR.fill(g:SR Q σ X)(x:X.B<=X.w.heap.size){n:Nat}{bY:cH}(y:X.H[n]?=aa bY)(u:X.cE n=ab){w':World}{o:Obj}(d:dZ X.w w' o)(cap:Nat)
  (l:Ext X.H.length X { X with cE:=λb=>if b=n then aa ⟨X.w.heap.size,cap⟩else X.cE b,w:=w' }->BR Q σ { X with cE:=λb=>if b=n then aa ⟨X.w.heap.size,cap⟩else X.cE b,w:=w' } bY ⟨X.w.heap.size,cap⟩) :
  SR Q σ { X with cE:=λb=>if b=n then aa ⟨X.w.heap.size,cap⟩else X.cE b,w:=w' }/\Ext X.H.length X { X with cE:=λb=>if b=n then aa ⟨X.w.heap.size,cap⟩else X.cE b,w:=w' }:=by
 have m:Ext X.H.length X { X with cE:=λb=>if b=n then aa ⟨X.w.heap.size,cap⟩else X.cE b,w:=w' }:=
  Ext.one g n rfl (λ_ _=>Iff.rfl) (λk h _=>d.yZ h) (λL i s _=>by rw[u]at s;simp at s)
   (λ_ q j=>⟨q,j,by
    cases q<;>simp[u]⟩)
   (λ_ _ _=>rfl) (λb h=>by simp[h]) (λL h=>by simp at h;subst h;exact .inr (aq9 _)) (by rw[d.size];omega) d.os d.tape d.output
 refine⟨SR.step Q σ g m n (λ_ _=>rfl) (λb h=>by simp[h]) (λb L _ hb=>d.yZ (g.br b L hb).2.1) (λ_ _ _ _ _ h=>h) (λL h=>?_) (λc i h=>by rw[d.size];have:=g.fb c i h;omega),m⟩;simp at h;subst h;refine⟨x,by simp[d.size],⟨bY,y,l m⟩,λb v _ hb=>?_⟩;have:=(g.br b v hb).2.1;simp;omega
theorem SR.new(d:SR Q σ X)(l:X.B<=X.w.heap.size)(bY:cH){w':World}{o:Obj}(g:dZ X.w w' o)(cap:Nat)
  (b:∀X',Ext X.H.length X X'->X'.w=w'->X'.F=X.F->X'.H=X.H++[bY]->BR Q σ X' bY ⟨X.w.heap.size,cap⟩) :
  ∃X',X'.w=w'/\X'.H=X.H++[bY]/\SR Q σ X'/\Ext X.H.length X X'/\X'.cE X.H.length=aa ⟨X.w.heap.size,cap⟩/\X'.B<=X'.w.heap.size:=by
 obtain⟨h1,h2⟩:=SR.grow d bY;have m:(X.H++[bY])[X.H.length]?=aa bY:=by simp
 obtain⟨h3,j⟩:=SR.fill h1 l m (SR.pU d) g cap (λq=>b _ (h2.trans (q.mono (by simp))) rfl rfl rfl);exact⟨_,rfl,rfl,h3,h2.trans (j.mono (by simp)),by simp,by simp[g.size];omega⟩
theorem SR.ag1(m:SR Q σ X){b:Nat}{bY blk':cH}{L:Loc}(hb:X.H[b]?=aa bY)(l:X.cE b=aa L){w':World}(x:w'.heap.size=X.w.heap.size)
  (y:∀k,k≠L.c->w'.heap[k]?=X.w.heap[k]?) (z:∀i,X.F L.c i->w'.cell? ⟨L.c,i,ab⟩=X.w.cell? ⟨L.c,i,ab⟩) (ho:w'.os=X.w.os) (A:w'.tape=X.w.tape) (hu:w'.output=X.w.output)
  (j:lO X { X with H:=X.H.set b blk',w:=w' } b)
  (s:Ext X.H.length X { X with H:=X.H.set b blk',w:=w' }->BR Q σ { X with H:=X.H.set b blk',w:=w' } blk' L) :
  SR Q σ { X with H:=X.H.set b blk',w:=w' }/\Ext X.H.length X { X with H:=X.H.set b blk',w:=w' }:=by
 have u:b<X.H.length:=(aq4.1 hb).1;have v:Ext X.H.length X { X with H:=X.H.set b blk',w:=w' }:=
  Ext.one m b rfl (λ_ _=>Iff.rfl) (λk _ h=>y k (h L l)) (λd i h=>by rw[l]at h;cases h;exact z i) (λ_=>j)
   (λq h _=>by simp[aq0 (Ne.symm h)]) (λ_ _=>rfl) (λd h=>.inl ⟨d,h,rfl⟩) (Nat.le_of_eq x.symm) ho A hu
 refine⟨SR.step Q σ m v b (λq h=>by simp[aq0 (Ne.symm h)]) (λ_ _=>rfl) (λq d h g=>y _ λe=>h (m.inj q b d L g l e)) (λ_ _ _ _ _ h=>h)
  (λd h=>?_) (λc i h=>by rw[x];exact m.fb c i h),v⟩
 change X.cE b=aa d at h;rw[l]at h;cases h;obtain⟨h1,h2,_⟩:=m.br b L l;exact⟨h1,by show L.c<w'.heap.size;omega,⟨blk',by simp[u],s v⟩,λq d h g e=>h (m.inj q b d L g l e)⟩
theorem iv{w:World}{c:Nat}{us:List Value}(h:rowAt w c us):∀(d:List Value) (b:Nat),b+d.length<=us.length->
  (w.setCells c b d).heap.size=w.heap.size/\(∀k,k≠c->(w.setCells c b d).heap[k]?=w.heap[k]?)/\(w.setCells c b d).os=w.os/\(w.setCells c b d).tape=w.tape/\
  (w.setCells c b d).output=w.output/\rowAt (w.setCells c b d) c (bR us b d)
 |[],b,_=>⟨rfl,λ_ _=>rfl,rfl,rfl,rfl,by simpa[World.setCells,bR]using h⟩
 |v::d,b,l=>by
  simp only[ar0]at l;have g:rowAt (w.setCell ⟨c,b,ab⟩ v) c (us.set b v):=by
   obtain⟨e,q,g,j⟩:=h;refine⟨e,q,?_,by simpa using j⟩;simp[World.setCell,Array.getElem?_modify,g]
  obtain⟨j,s,u,x,y,z⟩:=iv g d (b+1) (by simp;omega);simp only[World.setCells];refine⟨by rw[j];simp,λk m=>(s k m).trans ?_,u,x,y,?_⟩
  .simp only[World.setCell,Array.getElem?_modify];rw[aR (by simpa using Ne.symm m)]
  .have:bR (us.set b v) (b+1) d=bR us b (v::d):=by
    unfold bR;simp only[ar0];rw[List.take_set,List.drop_set_of_lt (by omega),show b+1+d.length=b+(d.length+1) by omega];rw[atK (by omega)];have l:(List.take b us).length=b:=by simp;omega
    have e:(List.take b us++[us[b]]).set b v=List.take b us++[v]:=by
     rw[List.set_append,aR (by omega),l];simp
    rw[e];simp
   rw[<-this];exact z
theorem qd{w:World}{c:Nat}{us:List Value}(h:rowAt w c us)(d:List Value)(b:Nat)(m:b+d.length<=us.length)(g:∀v∈d,v.oneCell'=ae) :
  (storeCells ⟨c,b,ab⟩ d).run Q w=.ok () (w.setCells c b d):=by
 have:=run_storeCells_cells (P:=Q) c b d 0 w (λj l=>by rw[ec h];simp;omega) (λj l=>zK h (by omega)) g;simpa using this
theorem yp{α:Type}(us:List α)(b:Nat)(d:List α)(h:b+d.length<=us.length)(i:Nat)(hi:i<b):(bR us b d)[i]?=us[i]?:=by
 unfold bR;rw[aq1 (by simp;omega),aq1 (by simp;omega),arX];simp[hi]
end
section
variable{Q:Program}{σ:Nat->FuncId}{X:Wd}
def gF(Q:Program)(σ:Nat->FuncId)(X:Wd)(v:V)(b:aj)(s:Sem Next):Prop:=
 ∃u X',(s.run Q X.w=.ok (.value u) X'.w\/(s.run Q X.w=.ok .skip X'.w/\u=undef))/\X'.H=b/\SR Q σ X'/\VR σ X' v u/\Ext X.H.length X X'/\X'.B<=X'.w.heap.size
theorem gF.aoi(d:X.B<=X.w.heap.size)(g:SR Q σ X){v:V}{b:aj}{s:Sem Next}(h:b=X.H/\∃u,s.run Q X.w=.ok (.value u) X.w/\VR σ X v u):gF Q σ X v b s:=by
 obtain⟨rfl,u,h1,h2⟩:=h;exact⟨u,X,.inl h1,rfl,g,h2,Ext.refl _ _,d⟩
theorem ky{w w':World}{us:List Value}{e:TypeId}(h:dZ w w' (.cells us.toArray e)):rowAt w' w.heap.size us:=⟨e,(0,0),h.new,λi _=>by simp⟩
theorem Aj(b:SR Q σ X)(g:X.B<=X.w.heap.size){cs:List C}{us:List Value}(h:A2 (CR σ X) cs us)(e:TypeId) :
  ∃X',X'.w=X.w.alloc (.cells us.toArray e)/\X'.H=X.H++[.box cs 0]/\SR Q σ X'/\Ext X.H.length X X'/\X'.cE X.H.length=aa ⟨X.w.heap.size,0⟩/\X'.B<=X'.w.heap.size:=
 SR.new b g (.box cs 0) (dZ.alloc _ _) 0 λX' m l j _=>⟨us,by rw[l];exact ky (dZ.alloc _ _),A2.ext' σ m h,λi _ d=>by
  rw[j]at d;have:=b.fb _ _ d;simp at this⟩
theorem rQ(u:SR Q σ X)(q:X.B<=X.w.heap.size){cs:List C}{us:List Value}(h:A2 (CR σ X) cs us)(e:TypeId){s:Sem Next}
  (v:s.run Q X.w=.ok (.value (.pointer (aa ⟨X.w.heap.size,0,ab⟩))) (X.w.alloc (.cells us.toArray e))):gF Q σ X (.c (.ptr X.H.length 0 0)) (X.H++[.box cs 0]) s:=by
 obtain⟨X',d,b,g,j,l,m⟩:=Aj u q h e;refine⟨_,X',.inl (by rw[d];exact v),b,g,?_,j,m⟩;exact⟨_,l,by rw[b];simp⟩
theorem Yj(m:SR Q σ X)(l:X.B<=X.w.heap.size){a:Act}{o:Oper}{zs:List FC}(b:dV Q σ o (.alloc zs)=ae) :
  gF Q σ X (.c (.ptr X.H.length 0 0)) (X.H++[.box (zs.map .f) 0]) (execOp a.eval o):=by
 simp only[dV]at b;split at b
 .rename_i t q;obtain⟨z,us,d,g,j,_⟩:=eV (σ:=σ) (X:=X) b X.w;refine rQ m l j t ?_;simp only[execOp,q];refine er ?_;simp[Instr.alloc,d,newVar,newRow,g]
 .simp at b
theorem ajc(m:SR Q σ X)(j:X.B<=X.w.heap.size){a:Act}{aF:T}(l:RR σ X aF a.tmps){o:Oper}{x:Arg}(b:dV Q σ o (.box x)=ae){xs:List C}(s:(x.ev aF).cells?=aa xs) :
  gF Q σ X (.c (.ptr X.H.length 0 0)) (X.H++[.box xs 0]) (execOp a.eval o):=by
 simp only[dV]at b;split at b
 .rename_i t y q;obtain⟨us,d,g⟩:=oz (bV l b) s;refine rQ m j g t ?_;simp only[execOp,q];refine er ?_;simp[Instr.box,newVar,newRow,d]
 .simp at b
theorem iS{zs:List FC}{us:List Value}(h:A2 (CR σ X) (zs.map .f) us)(n:Nat):A2 (CR σ X) ((cQ n zs).map .f) (cQ n us):=by
 induction n with
 |zero=>exact A2.nil
 |succ n b=>
  simp only[cQ,List.replicate_succ,List.flatten_cons,List.map_append]at b ⊢;exact h.append b
theorem kv{α:Type}(n:Nat)(xs:List α):(cQ n xs).length=n*xs.length:=by simp[cQ]
theorem yF{α:Type}(us:List α):∀(n i:Nat),i<n*us.length->(cQ n us)[i]?=us[i % us.length]?
 |0,i,h=>by simp at h
 |n+1,i,h=>by
  have b:cQ (n+1) us=us++cQ n us:=by simp[cQ,List.replicate_succ]
  rw[b];by_cases hi:i<us.length
  .rw[aq1 hi,Nat.mod_eq_of_lt hi]
  .have d:(n+1)*us.length=n*us.length+us.length:=by rw[arF];omega
   rw[arc (by omega),yF us n (i-us.length) (by omega)];rw[<-Nat.mod_eq_sub_mod (by omega)]
theorem hZ(us:List Value)(n:Nat)(q:0<us.length):((Array.range (n*us.length)).map λi=>us.toArray[i % us.toArray.size]!)=(cQ n us).toArray:=by
 apply Array.ext
 .simp[kv]
 .intro i g j;have l:i<n*us.length:=by simpa using g
  have b:=yF us n i l;have d:i % us.length<us.length:=Nat.mod_lt _ q;have m:i<(cQ n us).length:=by simpa using j
  rw[aq2 m,aq2 d,anc]at b;simp[b,d]
theorem J6(d:SR Q σ X)(hB:X.B<=X.w.heap.size){a:Act}{aF:T}(hR:RR σ X aF a.tmps){o:Oper}{sz n:Nat}{zs:List FC}{ps:List (Nat × Arg)}
  (m:dV Q σ o (.bN sz zs n ps)=ae) {v:V} {U:aj} (h:bG aF X.H (.bN sz zs n ps)=aa (v,U)):gF Q σ X v U (execOp a.eval o):=by
 simp only[dV]at m;split at m
 .rename_i t l qs f;simp only[aq3,beq_iff_eq,decide_eq_true_eq]at m;obtain⟨⟨⟨⟨rfl,Y⟩,B⟩,a8⟩,r⟩:=m;obtain⟨e,hu,B⟩:=gM B;simp only[aq3,decide_eq_true_eq]at B;obtain⟨⟨u,hz⟩,a_⟩:=B;obtain⟨z,us,O,S,x,_⟩:=eV (σ:=σ) (X:=X) hz X.w;have N:us.length=sz:=by have:=x.len;simp at this;omega
  simp only[bG]at h;split at h
  .
   rename_i Z;subst Z;split at h
   .rename_i s;simp only[anc,aq8]at h;obtain⟨rfl,rfl⟩:=h;have j:qs.toList=[]:=by
     have:=(eM r).len;simp only[List.isEmpty_iff]at s;rw[s]at this;exact ark this.symm
    have j:qs=#[]:=by apply Array.ext';simpa using j
    obtain⟨X',F,A,H,I,W,J⟩:∃X':Wd,X'.w=X.w.alloc (.cells #[] e)/\X'.H=X.H/\SR Q σ X'/\Ext X.H.length X X'/\True/\X'.B<=X'.w.heap.size:=by
     have hx:Ext X.H.length X { X with w:=X.w.alloc (.cells #[] e) }:=Ext.one d X.H.length rfl (λ_ _=>Iff.rfl) (λk hk _=>(dZ.alloc _ _).yZ hk)
      (λL i h=>by rw[SR.pU d]at h;simp at h) (λh=>by omega) (λ_ _ _=>rfl) (λ_ _=>rfl) (λL h=>by rw[SR.pU d]at h;simp at h) (by simp) rfl rfl rfl
     refine⟨{ X with w:=X.w.alloc (.cells #[] e) },rfl,rfl,SR.step Q σ d hx X.H.length (λ_ _=>rfl) (λ_ _=>rfl) (λb L _ hb=>(dZ.alloc _ _).yZ (d.br b L hb).2.1)
      (λ_ _ _ _ _ h=>h) (λL h=>by rw[SR.pU d]at h;simp at h) (λc i h=>?_),hx,trivial,?_⟩
     .have:=d.fb c i h;simp;omega
     .simp;omega
    refine⟨.slice (aa ⟨X.w.heap.size,0,ab⟩) 0 0,X',.inl ?_,A,H,cS.es _,I,J⟩;rw[F];simp only[execOp,f];refine er ?_;simp[Instr.buildSlice,aW hu,dj u,j,Instr.fill,newRow,show Array.range 0=(#[]:Array Nat) from rfl]
   .simp at h
  .rename_i Z;simp only[aq5,aq8]at h;obtain⟨cs,K,rfl,rfl⟩:=h;obtain⟨b7,W,J⟩:=mY (place:=λi=>aa (i*sz,sz)) (ps:=qs.toList) hR (qs:=ps.map λp=>(p.1*sz,sz,p.2)) (A2.map ((eM r).kH λq p g=>by
    simp only[aq3,beq_iff_eq]at g;exact⟨by rw[g.1],g.2⟩)) (iS x l) K
   obtain⟨X',F,A,H,I,h7,h8⟩:=Aj d hB J e;refine⟨.slice (aa ⟨X.w.heap.size,0,ab⟩) l l,X',.inl ?_,A,H,?_,I,h8⟩
   .rw[F];simp only[execOp,f];refine er ?_;have M:l*sz≠0:=by
     intro E;rcases atz.1 E with E|E<;>omega
    have y:=hZ us l (by omega);rw[N]at y;simp only[Instr.buildSlice,Sem.run_bind,aW hu,dj u,Result.andThen_ok,aR (show¬ l*sz>2 ^ 24 by omega),Sem.run_ite,aR M,O,Sem.run_pure,S];simp only[Array.toList_map];rw[y];simp[W,newRow]
   .simp only[VR,ib,CR,fM,A];simp;exact⟨_,h7,rfl⟩
 .simp at m
theorem A5:∀{cs:List C} {b:List FC},fcL cs=aa b->cs=b.map .f
 |[],b,h=>by simp[fcL]at h;subst h;rfl
 |c::cs,b,h=>by
  cases c with
  |f x=>
   simp only[fcL,aq5]at h;obtain⟨g,d,rfl⟩:=h;rw[A5 d];rfl
  |_=>simp[fcL]at h
theorem tZ(y:SR Q σ X)(hB:X.B<=X.w.heap.size){a:Act}{aF:T}(hR:RR σ X aF a.tmps){o:Oper}{sz n:Nat}{zs:List FC}{ps:List (Nat × Arg)}
  (K:dV Q σ o (.jr sz zs n ps)=ae) {v:V} {H H':aj} (h:bG aF H (.jr sz zs n ps)=aa (v,H')) :
  H'=H/\∃u X',(execOp a.eval o).run Q X.w=.ok (.value u) X'.w/\X'.H=X.H/\SR Q σ X'/\VR σ X' v u/\Ext X.H.length X X'/\X'.B<=X'.w.heap.size/\X'.cE=X.cE:=by
 simp only[dV]at K;split at K
 .rename_i t j qs ho;simp only[aq3,beq_iff_eq,decide_eq_true_eq]at K;obtain⟨⟨⟨⟨rfl,b_⟩,U⟩,c5⟩,hq⟩:=K;obtain⟨e,M,U⟩:=gM U;simp only[aq3,decide_eq_true_eq]at U;obtain⟨⟨f,hz⟩,c6⟩:=U;obtain⟨z,us,a_,b7,O,_⟩:=eV (σ:=σ) (X:=X) hz X.w;have r:us.length=sz:=by have:=O.len;simp at this;omega
  simp only[bG,aq5,arH,aq8]at h;obtain⟨fs,⟨cs,Y,l⟩,rfl,rfl⟩:=h;split at l
  .simp at l
  rename_i hn;have E:=A5 l;obtain⟨d,h5,h6⟩:=mY (place:=λi=>aa (i*sz,sz)) (ps:=qs.toList) hR (qs:=ps.map λp=>(p.1*sz,sz,p.2)) (A2.map ((eM hq).kH λq p m=>by
   simp only[aq3,beq_iff_eq]at m;exact⟨by rw[m.1],m.2⟩)) (iS O j) Y
  have g:dZ X.w (X.w.alloc (.cells d.toArray e)) (.cells d.toArray e):=dZ.alloc _ _;obtain⟨w',s⟩:=aQ (X.w.alloc (.cells d.toArray e));rw[<-s]at g;have I:∀c i,X.F c i->w'.cell? ⟨c,i,ab⟩=X.w.cell? ⟨c,i,ab⟩:=λc i h=>World.cell?_of_block (g.yZ (y.fb c i h));have hx:Ext X.H.length X { X with w:=w',F:=λc i=>X.F c i\/(c=X.w.heap.size/\i<d.length) }:={
   B:=rfl
   F:=λc i h=>.inl h
   ov:=λc i h=>h.elim .inl λh=>.inr (.inl (by rw[h.1];exact aq9 _))
   fw:=I
   bE:=λb _ bY A=>⟨bY,A,by cases bY<;>simp⟩
   ue:=λb L h=>.inl ⟨b,L,h,rfl⟩
   size:=by show _<=w'.heap.size;rw[g.size];omega
   os:=g.os
   tape:=g.tape
   output:=g.output
   frame:=λk hk _=>g.yZ hk }
  refine⟨rfl,.slice (aa ⟨X.w.heap.size,0,ab⟩) j j,{ X with w:=w',F:=λc i=>X.F c i\/(c=X.w.heap.size/\i<d.length) },?_,rfl,?_,?_,hx,?_,rfl⟩
  .simp only[execOp,ho];refine er ?_;have Z:j*sz≠0:=by
    intro W;rcases atz.1 W with W|W<;>omega
   have S:=hZ us j (by omega);rw[r]at S;simp only[Instr.buildSlice,Sem.run_bind,aW M,dj f,Result.andThen_ok,aR (show¬ j*sz>2 ^ 24 by omega),Sem.run_ite,aR Z,a_,Sem.run_pure,b7];simp only[Array.toList_map];rw[S];simp[h5,newRow,s]
  .exact SR.step Q σ y hx X.H.length (λ_ _=>rfl) (λ_ _=>rfl) (λb L _ A=>g.yZ (y.br b L A).2.1)
    (λb L _ A i h=>h.elim id λh=>by have:=(y.br b L A).2.1;omega) (λL h=>by change X.cE X.H.length=aa L at h;rw[SR.pU y]at h;simp at h)
    (λc i h=>by
     show c<w'.heap.size;rw[g.size];rcases h with h|h
     .have:=y.fb c i h;omega
     .omega)
  .have J:d.length=fs.length:=by have:=h6.len;rw[E]at this;simp at this;omega
   refine cS.fs fs j X.w.heap.size 0 j d (aq9 _) J (λi hi=>.inr ⟨rfl,by omega⟩) (λi u M=>?_) λi x u a8 M=>?_
   .show w'.cell? _=_;rw[ec (show rowAt w' X.w.heap.size d by rw[s];exact ky (dZ.alloc _ _)),Nat.zero_add];exact M
   .obtain⟨u',N,hr⟩:=h6.get (i:=i) (x:=.f x) (by rw[E,asf,a8];rfl);rw[M]at N;cases N;exact cS.mono (λc i h=>.inl h) I hr
  .show X.B<=w'.heap.size;rw[g.size];omega
 .simp at K
end
section
variable{Q:Program}{σ:Nat->FuncId}{X:Wd}
theorem yo{α:Type}(us rest:List α)(b:Nat)(d:List α)(h:b+d.length<=us.length):bR (us++rest) b d=bR us b d++rest:=by
 unfold bR;rw[List.take_append_of_le_length (by omega),List.drop_append_of_le_length (by omega)];simp
theorem A2.one{cs:List C}{us:List Value}(h:A2 (CR σ X) cs us):∀v∈us,v.oneCell'=ae:=by
 intro v d;obtain⟨i,hi⟩:=asl d;have b:i<cs.length:=by rw[h.len];exact(aq4.1 hi).1
 exact CR.one σ (h.2 i _ v (aq2 b) hi)
theorem yS(B:SR Q σ X){b:Nat}{cs:List C}{m:Nat}{L:Loc}(s:X.H[b]?=aa (.box cs m))(A:X.cE b=aa L){xs:List C}{l:List Value}(x:A2 (CR σ X) xs l){d:Nat}
  (K:m<=d) (Y:d+xs.length<=cs.length):∃X',(storeCells ⟨L.c,d,ab⟩ l).run Q X.w=.ok () X'.w/\X'.H=X.H.set b (.box (bR cs d xs) m)/\SR Q σ X'/\Ext X.H.length X X'/\
   (∀b,X'.cE b=X.cE b)/\X'.w.heap.size=X.w.heap.size/\X'.B=X.B:=by
 obtain⟨_,_,bY,j,u⟩:=B.br b L A;rw[s]at j;simp only[anc]at j;subst j;obtain⟨us,v,y,z⟩:=u;have N:=x.len;have M:=y.len;obtain⟨E,O,S,U,W,F⟩:=iv v l d (by omega);obtain⟨H,I⟩:=SR.ag1 B (blk':=.box (bR cs d xs) m) s A E O (λi J=>by
   rw[ec F,ec v];have:i<d:=by
    rcases arI i d with h|h
    .exact h
    .exact absurd J (z i (by omega))
   exact yp us d l (by omega) i this) S U W
  (λbY g=>⟨.box (bR cs d xs) m,by simp[(aq4.1 s).1],by rw[s]at g;simp only[anc]at g;subst g;exact λL h=>h⟩)
  (λq=>⟨bR us d l,F,A2.bR (A2.ext' σ q y) (A2.ext' σ q x) d,z⟩)
 exact⟨_,qd v l d (by omega) (A2.one x),rfl,H,I,λ_=>rfl,E,rfl⟩
theorem yT(F:SR Q σ X){b:Nat}{sz:Nat}{cs:List C}{m s:Nat}{L:Loc}(u:X.H[b]?=aa (.cK sz cs m s .loc))(E:X.cE b=aa L){xs:List C}{l:List Value}(y:A2 (CR σ X) xs l){d:Nat}
  (S:m<=d) (U:d+xs.length<=cs.length):∃X',(storeCells ⟨L.c,d,ab⟩ l).run Q X.w=.ok () X'.w/\X'.H=X.H.set b (.cK sz (bR cs d xs) m s .loc)/\SR Q σ X'/\Ext X.H.length X X'/\
   (∀b,X'.cE b=X.cE b)/\X'.w.heap.size=X.w.heap.size/\X'.B=X.B:=by
 obtain⟨_,_,bY,j,v⟩:=F.br b L E;rw[u]at j;simp only[anc]at j;subst j;obtain⟨Y,us,rest,x,A,K,M,N,B⟩:=v;have a:=y.len;have Z:=A.len;obtain⟨H,c,e,f,k,z⟩:=iv x l d (by simp;omega);rw[yo _ _ _ _ (by omega)]at z;have W:=yq us d l (by omega);obtain⟨I,J⟩:=SR.ag1 F (blk':=.cK sz (bR cs d xs) m s .loc) u E H c (λi O=>by
   rw[ec z,ec x];have:i<d:=by
    rcases arI i d with h|h
    .exact h
    .exact absurd O (B i (by omega))
   rw[aq1 (by omega),aq1 (by omega)];exact yp us d l (by omega) i this) e f k
  (λbY g=>⟨.cK sz (bR cs d xs) m s .loc,by simp[(aq4.1 u).1],by rw[u]at g;simp only[anc]at g;subst g;exact⟨rfl,.inl ⟨rfl,rfl,λL h=>h⟩⟩⟩)
  (λq=>⟨rfl,bR us d l,rest,z,A2.bR (A2.ext' σ q A) (A2.ext' σ q y) d,by simp only[ara]at K ⊢;omega,M,by rw[yq cs d xs U];exact N,B⟩)
 exact⟨_,qd x l d (by simp;omega) (A2.one y),rfl,I,J,λ_=>rfl,H,rfl⟩
theorem aag(F:SR Q σ X){x:C}{u:Value}(d:CR σ X x u){xs:List C}{H:List Value}(m:A2 (CR σ X) xs H){B:aj}(h:dC X.H x xs=aa B) :
  ∃c g X',u=.pointer (aa ⟨c,g,ab⟩)/\(storeCells ⟨c,g,ab⟩ H).run Q X.w=.ok () X'.w/\X'.H=B/\SR Q σ X'/\Ext X.H.length X X'/\X'.w.heap.size=X.w.heap.size/\X'.B=X.B:=by
 unfold dC at h;split at h
 .rename_i b g J;obtain⟨L,E,d⟩:=d;split at h
  .rename_i cs I l;rw[l]at d;simp only at d;subst d;split at h
   .rename_i j;simp only[anc]at h;subst h;obtain⟨X',q,s,v,y,_,z,A⟩:=yS F l E m j.1 j.2;exact⟨_,_,X',rfl,q,s,v,y,z,A⟩
   .simp at h
  .rename_i sz cs I e l;rw[l]at d;split at h
   .rename_i j;have d:=d.2.1 j.1;subst d;simp only[anc]at h;subst h;obtain⟨X',q,s,v,y,_,z,A⟩:=yT F l E m j.2.1 j.2.2;exact⟨_,_,X',rfl,q,s,v,y,z,A⟩
   .simp at h
  .simp at h
 .simp at h
theorem aai(F:SR Q σ X)(Z:X.B<=X.w.heap.size){a:Act}{aF:T}(s:RR σ X aF a.tmps){o:Oper}{n:Nat}{x y:Arg}(b:dV Q σ o (.store n x y)=ae){v:V}{q:aj}
  (h:bG aF X.H (.store n x y)=aa (v,q)):gF Q σ X v q (execOp a.eval o):=by
 simp only[dV]at b;split at b
 .rename_i t O S I;simp only[aq3]at b;obtain⟨⟨H,g⟩,m⟩:=b;have g:=bV s g;have m:=bV s m;simp only[bG]at h;split at h
  .rename_i p xs J l;rw[J]at g;split at h
   .rename_i u;simp only[aq5,aq8]at h;obtain⟨U,j,rfl,rfl⟩:=h;obtain⟨e,L,d⟩:=oz m l;obtain⟨c,N,X',K,z,A,B,E,W,Y⟩:=aag F g d j;refine⟨undef,X',.inr ⟨?_,rfl⟩,A,B,trivial,E,by omega⟩;have M:=d.len;simp only[execOp,I,Sem.run_bind];have:(Instr.storeAt t (a.eval O) (a.eval S)).run Q X.w=.ok () X'.w:=by
     rw[K];simp[Instr.storeAt,Instr.sureAddr,storeVar,dj H,L];rw[bw (by omega)];exact z
    simp[this]
   .simp at h
  .simp at h
 .simp at b
end
end Km
