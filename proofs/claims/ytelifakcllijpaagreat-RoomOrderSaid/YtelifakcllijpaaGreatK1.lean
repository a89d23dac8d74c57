/-
  Our own small machine for Go code by value, held BU the model: part 1. No program in R6.
-/
import GoSem.Step
import GoSem.Dispatch
import GoSem.Machine.Exec
import Derived.Calls
import Derived.Laws.World
import Derived.Laws.Cells
import Derived.Laws.IdiomCopy
import Derived.Below
import Derived.Laws.Slices
import Derived.Laws.Strings
import Derived.Laws.StructEq
import Derived.Laws.BytesString
import Derived.Laws.Tables
import Derived.Laws.AppendOwn
open Option renaming some->aa,none->ab
open Bool renaming true->ae,false->ag
open Option.some renaming injEq->AT
open Bool renaming false_eq_true->agH, and_eq_true->IS
open List renaming getElem?_eq_some_iff->OF, getElem?_eq_getElem->By, getElem?_append_left->AI, getElem?_append_right->agj, getElem?_drop->ahk, getElem?_map->ahp, all_eq_true->agJ, getElem?_of_mem->ahI, extract_eq_take_drop->ahY, take_of_length_le->agw, length_append->aft, foldl_cons->aid, length_cons->agP, take_succ_eq_append_getElem->aiJ, getElem?_set_ne->sh, replicate_succ->ail, getElem?_toArray->aic
open Nat renaming le_refl->agn, le_trans->agK, lt_of_lt_of_le->ahz, add_mul->agS, mul_eq_zero->aiz
open Option renaming bind_eq_some_iff->agR, map_eq_some_iff->IT, bind_eq_bind->aiO, bind_some->ag8, map_some->ag1
open Prod.mk renaming injEq->agk
set_option linter.unusedVariables false
set_option linter.constructorNameAsVariable false
set_option linter.unusedSimpArgs false
set_option linter.unusedSectionVars false
set_option maxRecDepth 100000
namespace Km
open Go
theorem ap{P:Prop}(h:P:=by omega):P:=h
theorem bv{P:Prop}(h:P:=by simp):P:=h
theorem ce{P:Prop}(h:P:=by decide):P:=h
theorem ge{P:Prop}(h:P:=by simp;omega):P:=h
theorem aI.{u}{α:Sort u}(a:α):∃b,b=a:=⟨a,rfl⟩
theorem ct.{u}{c:Prop}{h:Decidable c}(b:¬c){α:Sort u}{t e:α}:(ite c t e)=e:=if_neg b
theorem bZ.{u}{c:Prop}{h:Decidable c}(hc:c){α:Sort u}{t e:α}:(ite c t e)=t:=if_pos hc
inductive FC where
 |bool (b:Bool)
 |int (k:IntKind) (n:Int)
 |str (s:ByteArray)
 |ye|aJ|es|vX|rQ|zy
 |fp (cs:List FC) (off:Nat)
 |fs (cs:List FC) (len:Nat)
 |fn (f:Nat) (KU:List FC)
 deriving Inhabited
inductive C where
 |f (x:FC)
 |ptr (b off ep:Nat)
 |sl (b off len cap ep sz:Nat)
 |cl (f:Nat) (KU:List C)
 |yl (b:Nat)
 |mp (b:Nat)
 |it (b:Nat)
 |bm (f:Nat) (first:List C)
 |mi (b:Nat)
 deriving Inhabited
inductive V where
 |top
 |c (x:C)
 |a (xs:List C)
 |t (xs:List V)
 deriving Inhabited
def zm:Nat:=1000000007
def mV:C->V
 | .cl f cs=>if f=zm then .a cs else .c (.cl f cs)| x=>.c x
def oR:V->Option C
 | .c (.cl f cs)=>if f=zm then ab else aa (.cl f cs)| .c x=>aa x| .a cs=>aa (.cl zm cs)| _=>ab
def zV:FC->V
 | .fn f zs=>if f=zm then .a (zs.map .f)else .c (.f (.fn f zs))| z=>.c (.f z)
def ve:FC->List FC
 | .fn f zs=>if f=zm then zs else [.fn f zs]| z=>[z]
def HO:FC->Bool
 | .fn f _=>decide (f=zm)| _=>ag
theorem Q_{v:V}{c:C}(h:oR v=aa c):mV c=v:=by
 cases v with
 |c x=>
  cases x<;>simp only[oR,AT]at h
  case cl f cs=>
   split at h
   .cases h
   .rename_i b;simp only[AT]at h;subst h;simp only[mV,ct b]
  all_goals (subst h;rfl)
 |a cs=>simp only[oR,AT]at h;subst h;simp[mV]| _=>simp[oR]at h
theorem ZN{z:FC}(h:HO z=ae):zV z=.a ((ve z).map .f):=by
 cases z<;>simp only[HO,decide_eq_true_eq,reduceCtorEq,agH]at h;simp only[zV,ve,bZ h]
theorem ZO{z:FC}(h:HO z=ag):zV z=.c (.f z)/\ve z=[z]:=by
 cases z<;>simp only[HO,decide_eq_false_iff_not]at h
 case fn f zs=>simp only[zV,ve,ct h,and_self]
 all_goals exact⟨rfl,rfl⟩
inductive Os where|loc|nil|es
 deriving DecidableEq,Inhabited
inductive P where
 |h
 |o (p:P)
 |i (p:P)
 deriving DecidableEq,Inhabited
def P.toNat:P->Nat
 | .h=>0| .o p=>2*p.toNat+1| .i p=>2*p.toNat+2
inductive T where
 |e
 |n (l:T) (v:V) (r:T)
 deriving Inhabited
def T.get:T->P->V
 | .e,_=>.top| .n _ v _,.h=>v| .n l _ _,.o p=>l.get p| .n _ _ r,.i p=>r.get p
def T.set:T->P->V->T
 | .e,.h,w=>.n .e w .e| .e,.o p,w=>.n (T.set .e p w) .top .e| .e,.i p,w=>.n .e .top (T.set .e p w)| .n l _ r,.h,w=>.n l w r| .n l v r,.o p,w=>.n (l.set p w) v r| .n l v r,.i p,w=>.n l v (r.set p w)
inductive Arg where
 |r (n:P)
 |k (v:V)
 deriving Inhabited
inductive CK where|bool|int|str
 deriving DecidableEq,Inhabited
inductive MX where
 |bool|ptr|sl|fn|Z5
 |st (ks:List CK)
 deriving Inhabited
inductive dW where
 |iV (x:Arg)
 |pre (o:Os) (sz:Nat)
 |pick (c a b:Arg)
 |alloc (zs:List FC)
 |box (x:Arg)
 |build (zs:List FC) (parts:List (Nat × Nat × Arg))
 |ft (sz:Nat) (zs:List FC) (len:Nat) (parts:List (Nat × Arg))
 |load (n:Option Nat) (x:Arg)
 |store (n:Nat) (x y:Arg)
 |nq (x:Arg)
 |bin (op:BinOp) (x y:Arg)
 |eq (neg:Bool) (k:MX) (x y:Arg)
 |un (op:UnOp) (x:Arg)
 |Qo (k:IntKind) (x:Arg)
 |Gm (x:Arg)
 |DL (x:Arg)
 |Tw (x:Arg)
 |zx (f:Nat) (KU:List Arg)
 |oS
 |lookup (ck:CK) (zero:FC) (m k:Arg)
 |pO (ck:CK) (m k v:Arg)
 |fI (sz bytes:Nat) (zs:List FC) (l c:Arg)
 |slice (sz:Nat) (x:Arg) (lo hi mx:Option Arg)
 |tH (n sz:Nat) (x:Arg) (lo hi mx:Option Arg)
 |vQ (x:Arg) (lo hi:Option Arg)
 |mj (off:Nat) (x:Arg)
 |field (off:Nat) (n:Option Nat) (x:Arg)
 |eZ (sz:Nat) (arr:Option Nat) (x i:Arg)
 |idxs (x i:Arg)
 |D3 (len sz:Nat) (n:Option Nat) (x i:Arg)
 |range (x:Arg)
 |next (x:Arg)
 |extract (x:Arg) (i:Nat)
 |call (f:Nat) (args:List Arg) (h:Bool)
 |jc (x:Arg) (args:List Arg) (h:Bool)
 |len (x:Arg)
 |qZ (n:Nat)
 |lens (x:Arg)
 |cap (x:Arg)
 |append (sz bytes:Nat) (x y:Arg)
 |copy (sz:Nat) (x y:Arg)
 |tj (lo:Bool) (xs:List Arg)
 |rD (sz bytes:Nat) (zs:List FC) (x n:Arg)
 |clear (sz:Nat) (zs:List FC) (x:Arg)
 |mq (x:Arg)
 |pS (x:Arg)
 |entry (x:Arg)
 |zw (f:Nat) (xs:List Arg)
 |yT (sz:Nat) (x hi mx:Arg)
 |kY (sz:Nat) (zs:List FC) (len:Nat) (parts:List (Nat × Arg))
 |recover
 |defer (x:Arg) (args:List Arg)
 |bad
 deriving Inhabited
def dW.Z4:dW->Bool
 | .kY ..=>ae| _=>ag
structure ba where
 dst:Option P
 op:dW
 g:Option (P × Bool):=ab
 deriving Inhabited
inductive aE where
 |skip
 |region (ops:List ba) (oW:List (Nat × Nat))
 |seq (a b:aE)
 |cond (c:Arg) (a b:aE)
 |block (id:Nat) (a:aE)
 |loop (a:aE)
 |oE (f:Arg) (ps:List P) (assign body:aE)
 |exit (id:Nat)
 |ret
 |bad
 |scope (a:aE)
 |label (l:Nat)
 |goto (l:Nat)
 deriving Inhabited
inductive dt where|ready|busy|done|exhausted
 deriving DecidableEq,Inhabited
inductive bO where
 |box (cs:List C) (fl:Nat)
 |dj (sz:Nat) (cs:List C) (fl ep:Nat) (st:Os)
 |map (es:List (FC × C))
 |it (s:ByteArray) (pos:Nat)
 |Ff (m since:Nat) (done:Bool)
 |dQ (open_:Bool)
 |lp (fn:Nat) (tmps:T) (ps:List P) (assign body:aE) (st:dt) (pending:Option aE) (dQ:Nat)
 deriving Inhabited
abbrev an:=List bO
inductive gX where
 |dY (b:Nat)
 |fn (f:Nat) (args:List V)
 deriving Inhabited
inductive ku where
 |tmp (t:P)
 |cell (t:P) (n:Option Nat)
 deriving Inhabited
structure aM where
 ps:List P
 results:List ku
 body:aE
 deriving Inhabited
def Arg.ev(aN:T):Arg->V
 | .r n=>aN.get n| .k v=>v
def V.int(k:IntKind)(n:Int):V:=.c (.f (.int k n))
def V.bool(b:Bool):V:=.c (.f (.bool b))
def aA(H:an):C->Option (List C)
 | .ptr b d g=>match H[b]? with
  |some (.box cs _)=>aa (cs.drop d)| some (.dj _ cs _ e .loc)=>if g=e then aa (cs.drop d)else ab| _=>ab
 | .f (.fp cs d)=>aa ((cs.drop d).map .f)| _=>ab
def aW:Option Nat->List C->Option V
 |none,c::_=>aa (.c c)| none,[]=>ab| some n,cs=>if n<=cs.length then aa (.a (cs.take n))else ab
def aV(H:an)(n:Option Nat):V->Option V
 | .c x=>(aA H x).bind (aW n)| _=>ab
def V.cells? : V->Option (List C)
 | .c x=>aa [x]| .a xs=>aa xs| _=>ab
def over{α:Type}(cs:List α)(b:Nat)(xs:List α):List α:=cs.take b++xs++cs.drop (b+xs.length)
def cY(H:an)(x:C)(xs:List C):Option an:=
 match x with
 | .ptr b d g=>match H[b]? with
  |some (.box cs fl)=>if fl<=d/\d+xs.length<=cs.length then aa (H.set b (.box (over cs d xs) fl))else ab| some (.dj sz cs fl e .loc)=>if g=e/\fl<=d/\d+xs.length<=cs.length then aa (H.set b (.dj sz (over cs d xs) fl e .loc))else ab| _=>ab
 |_=>ab
def bh(H:an):C->Option Nat
 | .sl b _ l _ d sz=>match H[b]? with
  |some (.box _ _)=>aa l| some (.dj s _ _ e _)=>if d=e/\sz=s then aa l else ab| _=>ab
 | .f .aJ=>aa 0| .f .es=>aa 0| .f (.fs _ l)=>aa l| _=>ab
def dg(H:an)(sz:Nat):C->Option (List C)
 | .sl b o l _ d s=>match H[b]? with
  |some (.box cs _)=>if o+l*sz<=cs.length then aa ((cs.drop o).take (l*sz))else ab| some (.dj g cs _ e _)=>if d=e/\s=g/\o+l*sz<=cs.length then aa ((cs.drop o).take (l*sz))else ab| _=>ab
 | .f .aJ=>aa []| .f .es=>aa []| .f (.fs cs l)=>if cs.length=l*sz then aa (cs.map .f)else ab| _=>ab
def bu{α β:Type}(g:α->Option β):List α->Option (List β)
 |[]=>aa []
 |x::xs=>match g x with
  |none=>ab
  |some y=>match bu g xs with
   |none=>ab| some ys=>aa (y::ys)
def fh:Nat->an->C->Option FC
 |_,_,.f x=>aa x| 0,_,_=>ab
 |n+1,H,.ptr b j _=>match H[b]? with
  |some (.box cs _)=>(bu (fh n H) cs).map (.fp · j)| _=>ab
 |n+1,H,.sl b o l _ g sz=>match H[b]? with
  |some (.box cs _)=>if o+l*sz<=cs.length then(bu (fh n H) ((cs.drop o).take (l*sz))).map (.fs · l)else ab| some (.dj s cs _ e .loc)=>if g=e/\sz=s/\o+l*sz<=cs.length then(bu (fh n H) ((cs.drop o).take (l*sz))).map (.fs · l)else ab| some (.dj s _ _ e .nil)=>if g=e/\sz=s then aa .aJ else ab| some (.dj s _ _ e .es)=>if g=e/\sz=s then aa .es else ab| _=>ab
 |n+1,H,.cl f d=>(bu (fh n H) d).map (.fn f)| _+1,_,_=>ab
def dq(n:Nat)(H:an):V->Option V
 | .c x=>(fh n H x).map λy=>.c (.f y)
 | .a xs=>(bu (fh n H) xs).map λys=>.a (ys.map .f)
 |_=>ab
def jh(n:Nat)(H:an):V->Option V
 | .t b=>(bu (dq n H) b).map .t| v=>dq n H v
def ef:Nat->C->an->an
 |_,.f _,H=>H| 0,_,H=>H
 |n+1,.ptr b _ _,H=>match H[b]? with
  |some (.box cs fl)=>cs.foldl (λH x=>ef n x H) (H.set b (.box cs (Nat.max fl cs.length)))
  |_=>H
 |n+1,.sl b o l _ _ sz,H=>match H[b]? with
  |some (.box cs fl)=>((cs.drop o).take (l*sz)).foldl (λH x=>ef n x H) (H.set b (.box cs (Nat.max fl (o+l*sz))))
  |some (.dj s cs fl e st)=>((cs.drop o).take (l*sz)).foldl (λH x=>ef n x H) (H.set b (.dj s cs (Nat.max fl (o+l*sz)) e st))
  |_=>H
 |n+1,.cl _ d,H=>d.foldl (λH x=>ef n x H) H
 |_+1,_,H=>H
def Um(n:Nat)(H:an):V->an
 | .c x=>ef n x H| .a xs=>xs.foldl (λH x=>ef n x H) H
 |_=>H
def sF(op:BinOp)(k:IntKind)(x y:Int):Option V:=
 match op with
 | .add=>aa (.int k (k.wrap (x+y)))| .sub=>aa (.int k (k.wrap (x-y)))| .mul=>aa (.int k (k.wrap (x*y)))| .quo=>if y=0 then ab else aa (.int k (k.wrap (x.tdiv y)))| .rem=>if y=0 then ab else aa (.int k (x.tmod y))| .and=>aa (.int k (k.wrap (BitVec.ofInt k.bits x &&& BitVec.ofInt k.bits y).toNat))| .or=>aa (.int k (k.wrap (BitVec.ofInt k.bits x ||| BitVec.ofInt k.bits y).toNat))| .xor=>aa (.int k (k.wrap (BitVec.ofInt k.bits x ^^^ BitVec.ofInt k.bits y).toNat))| .andNot=>aa (.int k (k.wrap (BitVec.ofInt k.bits x &&& ~~~ (BitVec.ofInt k.bits y)).toNat))| .eql=>aa (.bool (x == y))| .neq=>aa (.bool (x != y))| .lss=>aa (.bool (decide (x<y)))| .leq=>aa (.bool (decide (x<=y)))| .gtr=>aa (.bool (decide (x>y)))| .geq=>aa (.bool (decide (x≥y)))| _=>ab
def Yt(op:BinOp)(x y:ByteArray):Option V:=
 match op with
 | .add=>if((x.size+y.size:Nat):Int)>IntKind.i64.max then ab else aa (.c (.f (.str (x++y))))| .eql=>aa (.bool (x.toList == y.toList))| .neq=>aa (.bool !(x.toList == y.toList))| .lss=>aa (.bool (Op.bytesLess x.toList y.toList))| .leq=>aa (.bool (Op.bytesLess x.toList y.toList||x.toList == y.toList))| .gtr=>aa (.bool !(Op.bytesLess x.toList y.toList||x.toList == y.toList))| .geq=>aa (.bool !(Op.bytesLess x.toList y.toList))| _=>ab
def QA:CK->C->C->Option Bool
 | .bool,.f (.bool a),.f (.bool b)=>aa (a == b)| .int,.f (.int k a),.f (.int k' b)=>if k=k' then aa (a == b)else ab| .str,.f (.str a),.f (.str b)=>aa (a == b)| _,_,_=>ab
def vw:List CK->List C->List C->Option Bool
 |[],[],[]=>aa ae
 |k::d,x::xs,y::ys=>match QA k x y,vw d xs ys with
  |some a,aa b=>aa (a&&b)| _,_=>ab
 |_,_,_=>ab
def isNil(H:an):MX->C->Option Bool
 | .ptr,.f .ye=>aa ae| .ptr,.f (.fp _ _)=>aa ag| .ptr,.ptr _ _ _=>aa ag| .sl,.f .aJ=>aa ae| .sl,.f .es=>aa ag| .sl,.f (.fs _ _)=>aa ag
 | .sl,.sl b _ _ _ d sz=>match H[b]? with
  |some (.box _ _)=>aa ag| some (.dj s _ _ e st)=>if d=e/\sz=s then aa (st == .nil)else ab| _=>ab
 | .fn,.f .vX=>aa ae| .fn,.f (.fn _ _)=>aa ag| .fn,.cl _ _=>aa ag| .fn,.bm _ _=>aa ag| .Z5,.f .rQ=>aa ae| _,_=>ab
def MZ(H:an):MX->V->V->Option Bool
 | .bool,.c x,.c y=>QA .bool x y| .st b,.a xs,.a ys=>vw b xs ys| .ptr,.c x,.c (.f .ye)=>isNil H .ptr x| .sl,.c x,.c (.f .aJ)=>isNil H .sl x| .fn,.c x,.c (.f .vX)=>isNil H .fn x| .Z5,.c x,.c (.f .rQ)=>isNil H .Z5 x| _,_,_=>ab
def cT(op:BinOp)(x y:V):Option V:=
 match op,x,y with
 | .shl,.c (.f (.int k a)),.c (.f (.int _ b))=>if b<0 then ab else aa (.int k (k.wrap (a*2 ^ (min b.toNat k.bits))))| .shr,.c (.f (.int k a)),.c (.f (.int _ b))=>if b<0 then ab else aa (.int k (a.fdiv (2 ^ (min b.toNat k.bits))))| op,.c (.f (.int k a)),.c (.f (.int k' b))=>if k=k' then sF op k a b else ab| op,.c (.f (.str a)),.c (.f (.str b))=>Yt op a b| _,_,_=>ab
def SF(op:UnOp)(x:V):Option V:=
 match op,x with
 | .neg,.c (.f (.int k n))=>aa (.int k (k.wrap (0-n)))| .not,.c (.f (.bool b))=>aa (.bool !b)| _,_=>ab
def fG:V->Option Int
 | .c (.f (.int _ n))=>aa n| _=>ab
def Dx(x:V)(y:Nat):Option Nat:=
 match fG x with
 |some i=>if 0<=i/\i<=y then aa i.toNat else ab| none=>ab
def cz(len cap:Nat)(lo hi mx:Option V):Option (Nat × Nat × Nat):=do
 let m <-match mx with
  |some v=>Dx v cap| none=>aa cap
 let h <-match hi,mx with
  |some v,_=>Dx v m| none,ab=>aa len| none,aa _=>ab
 let l <-match lo with
  |some v=>Dx v h| none=>aa 0
 pure (l,h,m)
def cu(H:an)(sz:Nat)(x:V)(lo hi mx:Option V):Option V:=
 match x with
 | .c (.f .aJ)=>match cz 0 0 lo hi mx with
  |some _=>aa (.c (.f .aJ))| none=>ab
 | .c (.f .es)=>match cz 0 0 lo hi mx with
  |some _=>aa (.c (.f .es))| none=>ab
 | .c (.f (.fs cs n))=>match cz n n lo hi mx with
  |some (l,h,m)=>
   if mx.isSome/\m=l then aa (.c (.f .es))else
   aa (.c (.f (.fs ((cs.drop (l*sz)).take ((h-l)*sz)) (h-l))))
  |none=>ab
 | .c (.sl b o n cap d s)=>match H[b]? with
  |some (.box _ _)=>match cz n cap lo hi mx with
   |some (l,h,m)=>if m=l then aa (.c (.f .es))else aa (.c (.sl b (o+l*sz) (h-l) (m-l) d s))| none=>ab
  |some (.dj g cs _ e st)=>
   if d=e/\s=sz/\g=sz then
    match st with
    | .loc=>match cz n n lo hi mx with
     |some (l,h,m)=>
      if mx.isSome/\m=l then aa (.c (.f .es))
      else if l=h/\0<l then aa (.c (.f (.fs [] 0)))
      else if mx.isSome then(if 0<l then aa (.c (.sl b 0 0 0 d (g+1)))else ab)
      else aa (.c (.sl b (o+l*sz) (h-l) 0 d s))
     |none=>match mx with
      |some _=>ab
      |none=>match cz n ((cs.length-o) / sz) lo hi ab with
       |some (l,h,_)=>if n<=(cs.length-o) / sz/\l<h then aa (.c (.sl b (o+l*sz) (h-l) 0 d s))else ab| none=>ab
    | .nil=>match cz 0 0 lo hi mx with
     |some _=>aa (.c (.f .aJ))| none=>ab
    | .es=>match cz 0 0 lo hi mx with
     |some _=>aa (.c (.f .es))| none=>ab
   else ab
  |_=>ab
 |_=>ab
def CO(x:V)(lo hi:Option V):Option V:=
 match x with
 | .c (.f (.str s))=>match cz s.size s.size lo hi ab with
  |some (l,h,_)=>aa (.c (.f (.str (s.extract l h))))| none=>ab
 |_=>ab
def pY(H:an)(n sz:Nat)(x:V)(lo hi mx:Option V):Option V:=
 match x with
 | .c (.ptr b d _)=>match H[b]? with
  |some (.box cs _)=>match cz n n lo hi mx with
   |some (l,h,m)=>if d+n*sz<=cs.length then(if m=l then aa (.c (.f .es))else aa (.c (.sl b (d+l*sz) (h-l) (m-l) 0 sz)))else ab| none=>ab
  |_=>ab
 | .c (.f (.fp cs d))=>match cz n n lo hi mx with
   |some (l,h,m)=>if d+n*sz<=cs.length then(if m=l then aa (.c (.f .es))else aa (.c (.f (.fs ((cs.drop (d+l*sz)).take ((h-l)*sz)) (h-l)))))else ab| none=>ab
 |_=>ab
def bG(H:an)(sz:Nat)(g:Option Nat)(x i:V):Option V:=
 match fG i with
 |none=>ab
 |some i=>
  if 0<=i then
   match g,x with
   |none,.c (.sl b o l _ d s)=>if i<l then
     (match H[b]? with
      |some (.box _ _)=>aa (.c (.ptr b (o+i.toNat*sz) d))| some (.dj j _ _ e .loc)=>if d=e/\s=j then aa (.c (.ptr b (o+i.toNat*sz) d))else ab
      |_=>ab)else ab
   |none,.c (.f (.fs cs l))=>if i<l then aa (.c (.f (.fp cs (i.toNat*sz))))else ab| some n,.c (.ptr b o d)=>if i<n then aa (.c (.ptr b (o+i.toNat*sz) d))else ab| some n,.c (.f (.fp cs o))=>if i<n then aa (.c (.f (.fp cs (o+i.toNat*sz))))else ab| _,_=>ab
  else ab
def qA(d:Nat):V->Option V
 | .c (.ptr b o g)=>aa (.c (.ptr b (o+d) g))| .c (.f (.fp cs o))=>aa (.c (.f (.fp cs (o+d))))| _=>ab
def pH(b:Nat)(n:Option Nat):V->Option V
 | .a xs=>aW n (xs.drop b)| _=>ab
def IJ(x i:V):Option V:=
 match x,fG i with
 | .c (.f (.str s)),aa i=>if 0<=i then(s[i.toNat]?).map λb=>.int .u8 b.toNat else ab
 |_,_=>ab
def II(len sz:Nat)(n:Option Nat)(x i:V):Option V:=
 match x,fG i with
 | .a xs,aa i=>if 0<=i/\i<len then aW n (xs.drop (i.toNat*sz))else ab| _,_=>ab
def Vx(H:an):V->Option (V × an)
 | .c (.it b)=>match H[b]? with
  |some (.it s d)=>
   if d<s.size then
    let r:=Utf8.decode s d
    aa (.t [.bool ae,.int .i64 d,.int .i32 r.1],H.set b (.it s (d+r.2)))
   else aa (.t [.bool ag],H)
  |_=>ab
 |_=>ab
def cD(need bytes:Nat):Bool:=decide ((2*need+768)*bytes<=2 ^ 48)&&decide (need<2 ^ 48)
def dG(H:an)(sz:Nat):V->Option (Nat × List C)
 | .c (.f (.str s))=>if sz=1 then aa (s.size,s.toList.map λb=>.f (.int .u8 b.toNat))else ab
 | .c x=>match bh H x,dg H sz x with
  |some l,aa cs=>aa (l,cs)| _,_=>ab
 |_=>ab
def bT(H:an)(sz bytes:Nat)(x y:V):Option (V × an):=
 match dG H sz y with
 |none=>ab
 |some (m,ys)=>
  if sz=0 then ab else
  match x with
  | .c (.f .aJ)=>if m=0 then aa (.c (.f .aJ),H)else
    if cD m bytes then aa (.c (.sl H.length 0 m 0 0 sz),H++[.dj sz ys 0 0 .loc])else ab
  | .c (.f .es)=>if m=0 then aa (.c (.f .es),H)else
    if cD m bytes then aa (.c (.sl H.length 0 m 0 0 sz),H++[.dj sz ys 0 0 .loc])else ab
  | .c (.sl b o l cap d s)=>match H[b]? with
   |some (.box cs fl)=>
    if l+m<=cap then
     if fl<=o+l*sz/\o+l*sz+ys.length<=cs.length then aa (.c (.sl b o (l+m) cap d s),H.set b (.box (over cs (o+l*sz) ys) fl))else ab
    else if cD (l+m) bytes/\o+l*sz<=cs.length then aa (.c (.sl H.length 0 (l+m) 0 0 sz),H++[.dj sz ((cs.drop o).take (l*sz)++ys) 0 0 .loc])else ab
   |some (.dj g cs fl e st)=>
    if d=e/\g=sz/\s=sz then
     if m=0 then aa (x,H)
     else if o=0/\l*sz=cs.length/\fl<=cs.length then
      if cD (l+m) bytes then aa (.c (.sl b 0 (l+m) 0 (d+1) sz),H.set b (.dj sz (cs++ys) fl (e+1) .loc))else ab
     else if st=.loc/\fl<=o+l*sz/\o+l*sz+ys.length<=cs.length then
      aa (.c (.sl b o (l+m) 0 d sz),H.set b (.dj sz (over cs (o+l*sz) ys) fl e .loc))
     else ab
    else ab
   |_=>ab
  |_=>ab
def copyV(H:an)(sz:Nat)(x y:V):Option (V × an):=
 match dG H sz y,x with
 |some _,.c (.f .aJ)=>aa (.int .i64 0,H)| some _,.c (.f .es)=>aa (.int .i64 0,H)
 |some (m,ys),.c (.sl b o l _ d g)=>
  let n:=Nat.min m l
  match H[b]? with
  |some (.box cs fl)=>if fl<=o/\o+n*sz<=cs.length then aa (.int .i64 n,H.set b (.box (over cs o (ys.take (n*sz))) fl))else ab| some (.dj s cs fl e .loc)=>if d=e/\g=s/\s=sz/\fl<=o/\o+n*sz<=cs.length then aa (.int .i64 n,H.set b (.dj s (over cs o (ys.take (n*sz))) fl e .loc))else ab| _=>ab
 |_,_=>ab
def vr(H:an):V->Option V
 | .c x=>match bh H x with
  |some _=>match dg H 1 x with
   |some cs=>(bu (λc=>match c with|C.f (.int .u8 n)=>aa (UInt8.ofNat n.toNat)|_=>ab) cs).map λl=>.c (.f (.str ⟨l.toArray⟩))
   |none=>ab
  |none=>ab
 |_=>ab
def ik(aN:T)(cs:List C):List (Nat × Nat × Arg)->Option (List C)
 |[]=>aa cs
 |(b,n,x)::rest=>match (x.ev aN).cells? with
  |some xs=>if xs.length=n/\b+xs.length<=cs.length then ik aN (over cs b xs) rest else ab| none=>ab
def fm(aN:T)(xs:List Arg):List V:=xs.map (·.ev aN)
def sH:V->Option C
 | .c (.cl _ _)=>ab| .c (.bm _ _)=>ab| .c x=>aa x| _=>ab
def dJ{α:Type}(n:Nat)(xs:List α):List α:=(List.replicate n xs).flatten
def ZY:CK->FC->FC->Option Bool
 | .int,.int k a,.int k' b=>if k=k' then aa (a == b)else ab| .str,.str a,.str b=>aa (a == b)| .bool,.bool a,.bool b=>aa (a == b)| _,_,_=>ab
def nk(b:CK)(k:FC):List (FC × C)->Option (Option C)
 |[]=>aa ab
 |e::d=>match ZY b k e.1 with
  |some ae=>aa (aa e.2)| some ag=>nk b k d| none=>ab
def pR(b:CK)(k:FC)(v:C):List (FC × C)->Option (List (FC × C))
 |[]=>aa [(k,v)]
 |e::d=>match ZY b k e.1 with
  |some ae=>aa ((k,v)::d)| some ag=>(pR b k v d).map (e::·)| none=>ab
def isKey:CK->FC->Bool
 | .int,.int _ _=>ae| .str,.str _=>ae| .bool,.bool _=>ae| _,_=>ag
def pL:FC->Option FC
 | .fp [z] 77=>aa z| _=>ab
def SB(z:FC)(r:Option C):V:=match pL z with
 |some z0=>.t [(r.map mV).getD (zV z0),.c (.f (.bool r.isSome))]| none=>(r.map mV).getD (zV z)
def gC(H:an)(d:CK)(z:FC):V->V->Option V
 | .c (.f .zy),.c (.f k)=>if isKey d k then aa (SB z ab)else ab
 | .c (.mp b),.c (.f k)=>match H[b]? with
  |some (.map g)=>if isKey d k then(nk d k g).map (SB z)else ab| _=>ab
 |_,_=>ab
def nU(H:an):C->Option Nat
 | .sl b _ _ c d sz=>match H[b]? with
  |some (.box _ _)=>aa c| some (.dj s _ _ e .nil)=>if d=e/\sz=s then aa 0 else ab| some (.dj s _ _ e .es)=>if d=e/\sz=s then aa 0 else ab| _=>ab
 | .f .aJ=>aa 0| .f .es=>aa 0| _=>ab
def A0(lo:Bool)(x y:V):Option V:=
 match x,y with
 | .c (.f (.int k a)),.c (.f (.int _ b))=>aa (.int k (if lo then(if b<a then b else a)else(if b>a then b else a)))| _,_=>ab
def vH(lo:Bool):V->List V->Option V
 |x,[]=>aa x
 |x,y::ys=>match A0 lo x y with
  |some z=>vH lo z ys| none=>ab
def Cm(lo:Bool):List V->Option V
 |[]=>ab| x::xs=>vH lo x xs
def ng(H:an)(sz:Nat)(zs:List FC)(x:V):Option an:=
 match x with
 | .c y=>match bh H y with
  |some 0=>aa H
  |some l=>
   if zs.length=sz then
    match y with
    | .sl b o _ _ d s=>match H[b]? with
     |some (.box _ _)=>cY H (.ptr b o d) ((dJ l zs).map .f)| some (.dj g _ _ e .loc)=>if d=e/\s=g then cY H (.ptr b o d) ((dJ l zs).map .f)else ab| _=>ab
    |_=>ab
   else ab
  |none=>ab
 |_=>ab
def Dr(H:an)(sz bytes:Nat)(zs:List FC)(x n:V):Option (V × an):=
 match fG n with
 |some n=>
  if 0<=n/\zs.length=sz then
   match x with
   | .c (.f .aJ)=>if n.toNat=0 then aa (.c (.f .aJ),H)else
     if cD n.toNat bytes then aa (.c (.sl H.length 0 n.toNat 0 0 sz),H++[.dj sz ((dJ n.toNat zs).map .f) 0 0 .loc])else ab
   | .c (.f .es)=>if n.toNat=0 then aa (.c (.f .es),H)else
     if cD n.toNat bytes then aa (.c (.sl H.length 0 n.toNat 0 0 sz),H++[.dj sz ((dJ n.toNat zs).map .f) 0 0 .loc])else ab
   |_=>ab
  else ab
 |none=>ab
def fcC:C->Option FC
 | .f x=>aa x| _=>ab
def Bl(H:an)(sz:Nat)(x hi mx:V):Option (V × an):=
 match cu H sz x ab (aa hi) (aa mx)with
 |some v=>aa (v,H)
 |none=>match x with
  | .c (.sl b o n _ g s)=>match H[b]? with
   |some (.dj d cs fl e .loc)=>
    if g=e/\s=sz/\d=sz/\o=0 then
     match Dx hi n,Dx mx n with
     |some i,aa j=>
      if i=j/\0<i/\i*sz<=cs.length then
       match bu fcC (cs.take (i*sz))with
       |some ys=>aa (.c (.f (.fs ys i)),H.set b (.dj d cs (Nat.max fl (i*sz)) e .loc))| none=>ab
      else ab
     |_,_=>ab
    else ab
   |_=>ab
  |_=>ab
def Cp(H:an):V->Option (V × an)
 | .c (.mi b)=>match H[b]? with
  |some (.Ff m d done)=>match H[m]? with
   |some (.map [])=>if done then ab else aa (.t [.bool ag],H)| some (.map [e])=>if done then aa (.t [.bool ag],H)else if d=1 then aa (.t [.bool ae,.c (.f e.1),mV e.2],H.set b (.Ff m 1 ae))else ab| _=>ab
  |_=>ab
 |_=>ab
def ot(H:an):V->Option V
 | .c (.mi b)=>match H[b]? with
  |some (.Ff m _ ae)=>match H[m]? with
   |some (.map [e])=>aa (.t [.c (.f e.1),mV e.2])| _=>ab
  |_=>ab
 |_=>ab
def wO(H:an):V->Option (V × an)
 | .c (.mp b)=>match H[b]? with
  |some (.map d)=>if d.length<=1 then aa (.c (.mi H.length),H++[.Ff b d.length ag])else ab| _=>ab
 |_=>ab
def Vl:List C->Option (List FC)
 |[]=>aa []| .f x::xs=>(Vl xs).map (x::·)| _::_=>ab
def cm(aN:T)(H:an):dW->Option (V × an)
 | .iV x=>aa (x.ev aN,H)| .pre o sz=>if o=.loc\/sz=0 then ab else aa (.c (.sl H.length 0 0 0 0 sz),H++[.dj sz [] 0 0 o])
 | .pick c a b=>match c.ev aN with
  | .c (.f (.bool v))=>aa ((if v then a else b).ev aN,H)| _=>ab
 | .alloc zs=>aa (.c (.ptr H.length 0 0),H++[.box (zs.map .f) 0])
 | .box x=>match (x.ev aN).cells? with
  |some xs=>aa (.c (.ptr H.length 0 0),H++[.box xs 0])| none=>ab
 | .build zs ps=>(ik aN (zs.map .f) ps).map λcs=>(.a cs,H)
 | .ft sz zs n ps=>
  if n=0 then(if ps.isEmpty then aa (.c (.f .es),H)else ab)else
  (ik aN ((dJ n zs).map .f) (ps.map λp=>(p.1*sz,sz,p.2))).map λcs=>(.c (.sl H.length 0 n n 0 sz),H++[.box cs 0])
 | .load n x=>(aV H n (x.ev aN)).map (·,H)
 | .store n x y=>match x.ev aN,(y.ev aN).cells? with
  | .c p,aa xs=>if xs.length=n then(cY H p xs).map (.top,·)else ab| _,_=>ab
 | .nq x=>match x.ev aN with
  | .c (.ptr b o e)=>aa (.c (.ptr b o e),H)| .c (.f (.fp cs o))=>aa (.c (.f (.fp cs o)),H)| _=>ab
 | .bin op x y=>(cT op (x.ev aN) (y.ev aN)).map (·,H)| .eq neg k x y=>(MZ H k (x.ev aN) (y.ev aN)).map λb=>(.bool (if neg then !b else b),H)
 | .un op x=>(SF op (x.ev aN)).map (·,H)
 | .Qo k x=>match x.ev aN with
  | .c (.f (.int _ n))=>aa (.int k (k.wrap n),H)| _=>ab
 | .Gm x=>match x.ev aN with
  | .c (.f (.str s))=>aa (.c (.f (.str s)),H)| _=>ab
 | .DL x=>(vr H (x.ev aN)).map (·,H)
 | .Tw x=>match x.ev aN with
  | .c (.f (.str s))=>if s.size<2 ^ 48 then aa (.c (.sl H.length 0 s.size 0 0 1),H++[.dj 1 (s.toList.map λb=>.f (.int .u8 b.toNat)) 0 0 .loc])else ab
  |_=>ab
 | .zx f g=>(bu sH (fm aN g)).map λxs=>(.c (.cl f xs),H)
 | .oS=>aa (.c (.mp H.length),H++[.map []])| .lookup j z m k=>(gC H j z (m.ev aN) (k.ev aN)).map (·,H)
 | .pO j m k v=>match m.ev aN,k.ev aN,oR (v.ev aN)with
  | .c (.mp b),.c (.f k),aa v=>match H[b]? with
   |some (.map u)=>if isKey j k then(pR j k v u).map λu=>(.top,H.set b (.map u))else ab
   |_=>ab
  |_,_,_=>ab
 | .fI sz bytes zs l c=>match fG (l.ev aN),fG (c.ev aN)with
  |some l,aa c=>
   if 0<=l/\l<=c/\cD c.toNat bytes=ae/\zs.length=sz then
    (if c=0 then aa (.c (.f .es),H)else
    aa (.c (.sl H.length 0 l.toNat c.toNat 0 sz),H++[.box ((dJ c.toNat zs).map .f) 0]))
   else ab
  |_,_=>ab
 | .slice sz x lo hi mx=>(cu H sz (x.ev aN) (lo.map (·.ev aN)) (hi.map (·.ev aN)) (mx.map (·.ev aN))).map (·,H)| .tH n sz x lo hi mx=>(pY H n sz (x.ev aN) (lo.map (·.ev aN)) (hi.map (·.ev aN)) (mx.map (·.ev aN))).map (·,H)| .vQ x lo hi=>(CO (x.ev aN) (lo.map (·.ev aN)) (hi.map (·.ev aN))).map (·,H)| .mj d x=>(qA d (x.ev aN)).map (·,H)| .field d n x=>(pH d n (x.ev aN)).map (·,H)| .eZ sz q x i=>(bG H sz q (x.ev aN) (i.ev aN)).map (·,H)| .idxs x i=>(IJ (x.ev aN) (i.ev aN)).map (·,H)| .D3 len sz n x i=>(II len sz n (x.ev aN) (i.ev aN)).map (·,H)
 | .range x=>match x.ev aN with
  | .c (.f (.str s))=>aa (.c (.it H.length),H++[.it s 0])| _=>ab
 | .next x=>Vx H (x.ev aN)
 | .extract x i=>match x.ev aN with
  | .t B=>(B[i]?).map (·,H)| _=>ab
 | .qZ n=>aa (.int .i64 n,H)
 | .lens x=>match x.ev aN with
  | .c (.f (.str s))=>aa (.int .i64 (s.size:Nat),H)| _=>ab
 | .len x=>match x.ev aN with
  | .c y=>match bh H y with
   |some n=>aa (.int .i64 (n:Nat),H)| none=>ab
  |_=>ab
 | .append sz bytes x y=>bT H sz bytes (x.ev aN) (y.ev aN)| .copy sz x y=>copyV H sz (x.ev aN) (y.ev aN)| .tj lo xs=>(Cm lo (fm aN xs)).map (·,H)| .clear sz zs x=>(ng H sz zs (x.ev aN)).map (.t [],·)| .rD sz bytes zs x n=>Dr H sz bytes zs (x.ev aN) (n.ev aN)| .mq x=>wO H (x.ev aN)| .pS x=>Cp H (x.ev aN)| .entry x=>(ot H (x.ev aN)).map (·,H)| .kY sz zs n ps=>((ik aN ((dJ n zs).map .f) (ps.map λp=>(p.1*sz,sz,p.2))).bind λcs=>if n=0 then ab else Vl cs).map λA=>(.c (.f (.fs A n)),H)
 | .yT sz x hi mx=>Bl H sz (x.ev aN) (hi.ev aN) (mx.ev aN)| .zw f xs=>(bu sH (fm aN xs)).map λxs=>(.c (.bm f xs),H)
 | .cap x=>match x.ev aN with
  | .c y=>match nU H y with
   |some n=>aa (.int .i64 (n:Nat),H)| none=>ab
  |_=>ab
 |_=>ab
inductive Callee where
 |fn (f:Nat)
 |yield (b:Nat)
abbrev ey:=Callee->List V->an->Option (V × an)
def deep:Nat:=64
def il(call:ey)(c:Nat)(args:List V)(H:an):Option (V × an):=
 match bu (dq deep H) args with
 |none=>ab
 |some b=>match call (.fn c) b []with
  |none=>ab
  |some (r,H')=>match jh deep H' r with
   |none=>ab| some r'=>aa (r',args.foldl (Um deep) H)
def cr:V->List V->Option (Callee × List V)
 | .c (.f (.fn f d)),args=>aa (.fn f,args++d.map λx=>.c (.f x))
 | .c (.cl f d),args=>aa (.fn f,args++d.map .c)| .c (.yl b),args=>aa (.yield b,args)| .c (.bm f first),args=>aa (.fn f,first.map .c++args)
 |_,_=>ab
def lO(call:ey)(h:Bool)(c:Nat)(args:List V)(H:an):Option (V × an):=
 if h then call (.fn c) args H else il call c args H
structure St where
 aN:T
 defs:List gX
 heap:an
def nS(aN:T)(d:Option P)(v:V):T:=
 match d with
 |some d=>aN.set d v| none=>aN
def jE(call:ey)(s:St)(op:dW):Option (V × St):=
 match op with
 | .call f args h=>(lO call h f (fm s.aN args) s.heap).map λr=>(r.1,{ s with heap:=r.2 })
 | .jc x args _=>match cr (x.ev s.aN) (fm s.aN args)with
  |some (c,args)=>(call c args s.heap).map λr=>(r.1,{ s with heap:=r.2 })
  |none=>ab
 | .recover=>aa (.c (.f .rQ),s)
 | .defer x args=>match cr (x.ev s.aN) (fm s.aN args)with
  |some (.fn f,args)=>aa (.top,{ s with defs:=.fn f args::s.defs })
  |_=>ab
 |op=>(cm s.aN s.heap op).map λr=>(r.1,{ s with heap:=r.2 })
def jJ{α:Type}(f:α->α->Bool):List α->List α->Bool
 |[],[]=>ae| x::xs,y::ys=>f x y&&jJ f xs ys| _,_=>ag
def FC.beq:Nat->FC->FC->Bool
 |_,.bool a,.bool b=>a == b| _,.int j a,.int k b=>decide (j=k)&&a == b| _,.str a,.str b=>decide (a=b)| _,.ye,.ye|_,.aJ,.aJ|_,.es,.es|_,.vX,.vX|_,.rQ,.rQ|_,.zy,.zy=>ae| n+1,.fp xs o,.fp ys o'=>o == o'&&jJ (FC.beq n) xs ys| n+1,.fs xs l,.fs ys d=>l == d&&jJ (FC.beq n) xs ys| n+1,.fn f xs,.fn g ys=>f == g&&jJ (FC.beq n) xs ys| _,_,_=>ag
def C.beq:C->C->Bool
 | .f a,.f b=>FC.beq 64 a b| .ptr a b c,.ptr a' j l=>a == a'&&b == j&&c == l| .sl a b c d e g,.sl a' j l d' m g'=>a == a'&&b == j&&c == l&&d == d'&&e == m&&g == g'| .mp a,.mp b=>a == b| _,_=>ag
def V.beq:V->V->Bool
 | .c x,.c y=>x.beq y| .a xs,.a ys=>xs.length == ys.length&&(xs.zip ys).all λp=>p.1.beq p.2
 |_,_=>ag
def wanted(aN:T):Option (P × Bool)->Option Bool
 |none=>aa ae
 |some (r,w)=>match aN.get r with
  | .c (.f (.bool b))=>aa (b == w)| .t []=>aa ag| _=>ab
def jF(call:ey)(s:St)(o:ba):Option St:=
 match wanted s.aN o.g with
 |some ae=>match jE call s o.op with
  |some (v,b)=>aa { b with aN:=nS b.aN o.dst v }
  |none=>ab
 |some ag=>aa { s with aN:=nS s.aN o.dst (.t []) }
 |none=>ab
def iS(call:ey):List ba->St->Option St
 |[],s=>aa s
 |o::os,s=>match jF call s o with
  |some b=>iS call os b| none=>ab
def fT(call:ey):List ba->St->Option (List St)
 |[],s=>aa [s]
 |o::os,s=>match jF call s o with
  |some b=>match fT call os b with
   |some ss=>aa (s::ss)| none=>ab
  |none=>ab
def sameAt(ops:List ba)(ss:List St)(c:Nat × Nat):Bool:=
 match ops[c.1]?,ss[c.1]?,ss[c.2]? with
 |some o,aa s,aa b=>match wanted s.aN o.g with
  |some ag=>ae
  |_=>match cm s.aN s.heap o.op,cm s.aN b.heap o.op with
   |some (v,_),aa (d,_)=>v.beq d| _,_=>ag
 |_,_,_=>ag
def kr(call:ey)(ops:List ba)(b:List (Nat × Nat))(s:St):Option St:=
 match b with
 |[]=>iS call ops s
 |_=>match fT call ops s with
  |some ss=>if b.all (sameAt ops ss)then ss.getLast? else ab| none=>ab
def dW.fJ:dW->Bool
 | .defer _ _| .recover=>ag| _=>ae
inductive dU where
 |code (c:aE)
 |inBlock (id:Nat)
 |inLoop (c:aE)
 |mh (b:Nat)
 |qX
 |inScope (a:aE)
def exitTo(id:Nat):List dU->Option (List dU)
 |[]=>ab| .inBlock b::k=>if b == id then aa k else exitTo id k| _::k=>exitTo id k
def findLabel:aE->Nat->Option aE
 | .seq a b,l=>match findLabel a l with
  |some rest=>aa (.seq rest b)| none=>findLabel b l
 | .label d,l=>if d == l then aa .skip else ab| _,_=>ab
def gotoIn(l:Nat):List dU->Option (List dU)
 |[]=>ab
 | .inScope body::k=>match findLabel body l with
  |some rest=>aa (.code rest::.inScope body::k)| none=>gotoIn l k
 |_::k=>gotoIn l k
def C.gR(n:Nat):C->Bool
 | .f _=>ae| .ptr b _ _=>decide (b<n)| .sl b _ _ _ _ _=>decide (b<n)| .cl _ _=>ag| .yl b=>decide (b<n)| .mp b=>decide (b<n)| .it b=>decide (b<n)| .mi b=>decide (b<n)| .bm _ _=>ag
def C.under(n:Nat):C->Bool
 | .cl _ d=>d.all (·.gR n)| .f _=>ae| .ptr b _ _=>decide (b<n)| .sl b _ _ _ _ _=>decide (b<n)| .yl b=>decide (b<n)| .mp b=>decide (b<n)| .it b=>decide (b<n)| .mi b=>decide (b<n)| .bm _ first=>first.all (·.gR n)
def run(call:ey)(fn:Nat):Nat->Option Nat->List dU->St->Option (Option aE × St)
 |0,_,_,_=>ab
 |m+1,j,q,s=>
  match q with
  |[]=>aa (ab,s)| .inBlock _::k=>run call fn m j k s| .inLoop c::k=>run call fn m j (.code c::.inLoop c::k) s
  | .mh b::k=>match s.heap[b]? with
   |some (.lp f tmps ps as bd st pending d)=>
    if st=.busy then ab else
    let s:={ s with heap:=s.heap.set b (.lp f tmps ps as bd .exhausted pending d) }
    match pending with
    |none=>run call fn m j k s| some .ret=>run call fn m j (.code .ret::k) s| some (.exit id)=>run call fn m j (.code (.exit id)::k) s| some _=>ab
   |_=>ab
  | .qX::k=>match j with
   |none=>ab
   |some b=>match s.heap[b]? with
    |some (.lp f tmps ps as bd .ready pending d)=>run call fn m j k { s with heap:=s.heap.set b (.lp f tmps ps as bd .busy pending d) }
    |_=>ab
  | .code .skip::k=>run call fn m j k s| .inScope _::k=>run call fn m j k s| .code (.label _)::k=>run call fn m j k s| .code (.scope a)::k=>run call fn m j (.code a::.inScope a::k) s
  | .code (.goto l)::k=>match gotoIn l k with
   |some k=>run call fn m j k s| none=>ab
  | .code .bad::_=>ab| .code .ret::_=>aa (aa .ret,s)
  | .code (.exit id)::k=>match exitTo id k with
   |some k=>run call fn m j k s| none=>if j.isSome then aa (aa (.exit id),s)else ab
  | .code (.seq a b)::k=>run call fn m j (.code a::.code b::k) s| .code (.block id a)::k=>run call fn m j (.code a::.inBlock id::k) s| .code (.loop a)::k=>run call fn m j (.code a::.inLoop a::k) s
  | .code (.cond c a b)::k=>match c.ev s.aN with
   | .c (.f (.bool v))=>run call fn m j (.code (if v then a else b)::k) s| _=>ab
  | .code (.region ops u)::k=>
   if j.isSome&&!ops.all (·.op.fJ)then ab else
   match kr call ops u s with
   |some s=>run call fn m j k s| none=>ab
  | .code (.oE f ps as bd)::k=>
   if j.isSome then ab else
   let d:=s.heap.length
   let H:=s.heap++[.dQ ae,.lp fn s.aN ps as bd .ready ab d]
   match cr (f.ev s.aN) [.c (.yl (d+1))]with
   |some (.fn g,args)=>match call (.fn g) args H with
    |some (_,H)=>run call fn m j (.mh (d+1)::k) { aN:=s.aN,defs:=.dY d::s.defs,heap:=H }| none=>ab
   |_=>ab
def uF:Nat:=1000000000
def fR(call:ey):List gX->an->Option an
 |[],H=>aa H
 | .dY b::d,H=>match H[b]? with
  |some (.dQ ae)=>fR call d (H.set b (.dQ ag))| _=>ab
 | .fn f args::d,H=>if f=uF then ab else match call (.fn f) args H with
  |some (_,H)=>fR call d H| none=>ab
def cC(aN:T)(H:an):ku->Option V
 | .tmp t=>match aN.get t with
  | .t _=>ab| v=>aa v
 | .cell t n=>aV H n (aN.get t)
def results(aN:T)(H:an)(b:List ku):Option V:=
 match bu (cC aN H) b with
 |some [v]=>aa v| some d=>aa (.t d)| none=>ab
def dm:List P->List V->T->T
 |p::ps,v::b,aN=>dm ps b (aN.set p v)| _,_,aN=>aN
def iP(tab:Nat->Option aM)(g:Nat->List V->an->Option (Option (V × an)))(m:Nat):Nat->ey
 |0,_,_,_=>ab
 |d+1,.fn f,args,H=>
  match g f args H with
  |some r=>r
  |none=>match tab f with
   |none=>ab
   |some q=>if args.length=q.ps.length then match run (iP tab g m d) f m ab [.code q.body] ⟨dm q.ps args .e,[],H⟩with
    |some (_,s)=>match fR (iP tab g m d) s.defs s.heap with
     |some H=>(results s.aN H q.results).map (·,H)| none=>ab
    |none=>ab
    else ab
 |d+1,.yield b,args,H=>
  match H[b]? with
  |some (.lp f tmps ps as bd _ _ _)=>
   if args.length=ps.length then
    match run (iP tab g m d) f m (aa b) [.code as,.qX,.code bd] ⟨dm ps args tmps,[],H⟩with
    |some (j,s)=>
     if s.defs.isEmpty then
      match s.heap[b]? with
      |some (.lp x l v as' u _ _ d')=>aa (.bool j.isNone,s.heap.set b (.lp x l v as' u (if j.isNone then .ready else .done) j d'))| _=>ab
     else ab
    |none=>ab
   else ab
  |_=>ab
section
variable(Q:Program)(σ:Nat->FuncId)
def Ze:Value->Bool
 | .agg _| .tuple _=>ag| _=>ae
def Yn:Value->Bool
 | .agg _=>ae| _=>ag
def mK1:FC->Value->Bool
 | .bool a,.bool b=>a == b| .int j a,.int k b=>decide (j=k)&&decide (a=b)| .str a,.string b=>decide (a=b)| .ye,.pointer ab=>ae| .aJ,.slice ab 0 0=>ae| .vX,.nilFunc=>ae| .rQ,.nilIface=>ae| .zy,.map ab=>ae| _,_=>ag
def iy{α β:Type}(f:α->β->Bool):List α->List β->Bool
 |[],[]=>ae| x::xs,y::ys=>f x y&&iy f xs ys| _,_=>ag
def mK:V->Value->Bool
 | .c (.f x),v=>mK1 x v| .a xs,.agg us=>iy (λx u=>match x with|C.f x=>mK1 x u|_=>ag) xs us.toList
 | .top,.tuple us=>us.isEmpty| _,_=>ag
def mA:Arg->Operand->Bool
 | .r p,.tmp t=>p.toNat == t| .k v,.const u=>mK v u| .k (.c (.f (.fn f []))),.func g=>σ f == g| _,_=>ag
def SC(xs:List Arg)(ys:Array Operand):Bool:=iy (mA σ) xs ys.toList
def mO:Option Arg->Option Operand->Bool
 |none,ab=>ae| some x,aa y=>mA σ x y| _,_=>ag
def eB(t:TypeId)(n:Nat):Bool:=(Q.info? t).any λi=>i.size == n
def qd(t:TypeId)(n:Nat):Bool:=(Q.info? t).any λi=>i.bytes == n
def nX(t:TypeId)(zs:List FC):Bool:=(Q.info? t).any λi=>match i.zero with
 |some z=>iy mK1 zs z.cells.toList| none=>ag
def yZ(t:TypeId)(n:Option Nat):Bool:=match Q.underlying t,n with
 |some (.struct _),aa n|some (.array _ _),aa n=>eB Q t n| some (.struct _),ab|some (.array _ _),ab=>ag| some _,ab=>ae| _,_=>ag
def jX:Nat->TypeId->Option (List CK)
 |0,_=>ab
 |d+1,t=>match Q.underlying t with
  |some .bool=>if eB Q t 1 then aa [.bool]else ab| some (.int _)=>if eB Q t 1 then aa [.int]else ab| some .string=>if eB Q t 1 then aa [.str]else ab
  |some (.struct fs)=>if Q.stoodInHeld t then ab else match sQ (jX d) 0 fs.toList with
   |some ks=>if eB Q t ks.length then aa ks else ab| none=>ab
  |_=>ab
 where
 sQ (rec:TypeId->Option (List CK)) (off:Nat):List Field->Option (List CK)
  |[]=>aa []
  |f::fs=>if f.name≠ "_"/\f.offset=off then match rec f.type with
    |some ks=>match sQ rec (off+ks.length) fs with
     |some r=>aa (ks++r)| none=>ab
    |none=>ab
   else ab
def vD:Operand->Bool
 | .const _=>ae| _=>ag
def mEq(k:MX)(t:TypeId)(x y:Operand):Bool:=match Q.underlying t,k with
 |some .bool,.bool|some (.pointer _),.ptr|some (.slice _),.sl|some (.func _ _ _),.fn=>ae| some (.interface _),.Z5=>vD x||vD y| some (.struct _),.st b=>decide (jX Q 20 t=aa b)&&!Q.eqGuardType Q.depth t| _,_=>ag
def pF(t:TypeId):Option TypeId:=match Q.underlying t with
 |some (.slice e)=>aa e| _=>ab
def acC(t:TypeId):Bool:=match Q.underlying t with
 |some (.int .u8)=>ae| _=>ag
def fo(c:Call):dW->Bool
 | .len x=>match c.callee,c.args.toList,c.argTypes.toList with
  | .builtin .len,[y],[t]=>mA σ x y&&(match Q.underlying t with|some (.slice _)=>ae|_=>ag)
  |_,_,_=>ag
 | .lens x=>match c.callee,c.args.toList,c.argTypes.toList with
  | .builtin .len,[y],[t]=>mA σ x y&&(match Q.underlying t with|some .string=>ae|_=>ag)
  |_,_,_=>ag
 | .qZ n=>match c.callee,c.args.toList,c.argTypes.toList with
  | .builtin .len,[_],[t]=>(match Q.underlying t with|some (.array m _)=>decide (n=m)|_=>ag)
  |_,_,_=>ag
 | .append sz bytes x y=>match c.callee,c.args.toList,c.argTypes.toList with
  | .builtin .append,[u,v],[t,b]=>mA σ x u&&mA σ y v&&(pF Q t).any (λe=>eB Q e sz&&qd Q e bytes&&decide (0<sz)&&(Q.info? e).any (λi=>i.zero.any λz=>decide (z.cells.size=sz)))
    && (match Q.underlying b with|some .string=>ae|some (.slice _)=>ae|_=>ag)
  |_,_,_=>ag
 | .rD sz bytes zs x y=>match c.callee,c.args.toList,c.argTypes.toList with
  | .builtin .append,[u,v],[t,b]=>mA σ x u&&mA σ y v&&(pF Q t).any (λe=>eB Q e sz&&qd Q e bytes&&decide (0<sz)&&nX Q e zs)
    && (match Q.underlying b with|some (.int _)=>ae|_=>ag)
  |_,_,_=>ag
 | .copy sz x y=>match c.callee,c.args.toList,c.argTypes.toList with
  | .builtin .copy,[u,v],[t,_]=>mA σ x u&&mA σ y v&&(pF Q t).any (λe=>eB Q e sz)
  |_,_,_=>ag
 | .tj lo xs=>match c.callee,lo with
  | .builtin .max,ag| .builtin .min,ae=>SC σ xs c.args| _,_=>ag
 | .cap x=>match c.callee,c.args.toList,c.argTypes.toList with
  | .builtin .cap,[y],[t]=>mA σ x y&&(match Q.underlying t with|some (.slice _)=>ae|_=>ag)
  |_,_,_=>ag
 | .clear sz zs x=>match c.callee,c.args.toList,c.argTypes.toList with
  | .builtin .clear,[y],[t]=>mA σ x y&&(pF Q t).any (λe=>eB Q e sz&&nX Q e zs)
  |_,_,_=>ag
 | .recover=>match c.callee with
  | .builtin .recover=>ae| _=>ag
 | .call f xs _=>match c.callee with
  | .value (.func g)=>σ f == g&&SC σ xs c.args| _=>ag
 | .jc x xs _=>match c.callee with
  | .value y=>mA σ x y&&SC σ xs c.args| _=>ag
 |_=>ag
def Mi(b:CK)(t:TypeId):Bool:=match Q.underlying t,b with
 |some (.int _),.int|some .string,.str|some .bool,.bool=>ae| _,_=>ag
def Q9(t:TypeId)(qs:List (Nat × Nat × Arg))(ps:List (Nat × Operand)):Bool:=match Q.underlying t with
 |some (.struct b)=>match b.toList.mapM (λf=>(Q.info? f.type).map λi=>(f.offset,i.size))with
  |some d=>iy (λ(q:Nat × Nat × Arg) (p:Nat × Operand)=>decide (d[p.1]?=aa (q.1,q.2.1))&&mA σ q.2.2 p.2) qs ps
  |none=>ag
 |some (.array _ e)=>match Q.info? e with
  |some i=>iy (λ(q:Nat × Nat × Arg) (p:Nat × Operand)=>i.size == q.2.1&&q.1 == p.1*q.2.1&&mA σ q.2.2 p.2) qs ps
  |none=>ag
 |_=>ag
def fk(o:Oper)(a:dW):Bool:=match a with
 | .bad=>ae| .iV y=>(match o.op with| .move x| .assign x=>mA σ y x|_=>ag)
 | .pre .nil sz=>(match o.op with| .move (.const (.slice ab 0 0))| .assign (.const (.slice ab 0 0))=>decide (0<sz)|_=>ag)
 | .pick M A J=>(match o.op with| .pick c x y=>mA σ M c&&mA σ A x&&mA σ J y|_=>ag)
 | .alloc zs=>(match o.op with| .alloc t=>nX Q t zs|_=>ag)
 | .box y=>(match o.op with| .box _ x=>mA σ y x|_=>ag)
 | .build zs qs=>(match o.op with| .build t ps=>nX Q t zs&&Q9 Q σ t qs ps.toList|_=>ag)
 | .ft sz zs F qs=>(match o.op with| .buildSlice t n ps=>n == F&&decide (n*sz<=2 ^ 24)&&(pF Q t).any (λe=>eB Q e sz&&nX Q e zs&&decide (zs.length=sz))&&decide (0<sz)&&iy (λ(q:Nat × Arg) (p:Nat × Operand)=>q.1 == p.1&&mA σ q.2 p.2) qs ps.toList|_=>ag)
 | .kY sz zs F qs=>(match o.op with| .buildSlice t n ps=>n == F&&decide (n*sz<=2 ^ 24)&&(pF Q t).any (λe=>eB Q e sz&&nX Q e zs&&decide (zs.length=sz))&&decide (0<sz)&&iy (λ(q:Nat × Arg) (p:Nat × Operand)=>q.1 == p.1&&mA σ q.2 p.2) qs ps.toList|_=>ag)
 | .load n y=>(match o.op with| .load t x=>yZ Q t n&&mA σ y x|_=>ag)
 | .store n A J=>(match o.op with| .store t x y=>eB Q t n&&mA σ A x&&mA σ J y|_=>ag)
 | .nq y=>(match o.op with| .nilCheck x=>mA σ y x|_=>ag)
 | .bin I A J=>(match o.op with| .binOp op t x y _=>decide (op=I)&&mA σ A x&&mA σ J y|_=>ag)
 | .eq neg k A J=>(match o.op with| .binOp op t x y _=>decide (op=if neg then .neq else .eql)&&mA σ A x&&mA σ J y&&mEq Q k t x y|_=>ag)
 | .un I y=>(match o.op with| .unOp op _ x=>decide (op=I)&&mA σ y x|_=>ag)
 | .Qo k y=>(match o.op with| .convert s d x=>mA σ y x&&(Q.underlying s).isSome&&(match Q.underlying d with|some (.int k')=>decide (k=k')|_=>ag)|_=>ag)
 | .Gm y=>(match o.op with| .convert s d x=>mA σ y x&&(match Q.underlying s,Q.underlying d with|some .string,aa .string=>ae|_,_=>ag)|_=>ag)
 | .DL y=>(match o.op with| .convert s d x=>mA σ y x&&(match Q.underlying s,Q.underlying d with|some (.slice e),aa .string=>acC Q e&&eB Q e 1|_,_=>ag)|_=>ag)
 | .zx g ys=>(match o.op with| .makeFunc (.func f) fst B=>fst.isEmpty&&σ g == f&&SC σ ys B|_=>ag)
 | .oS=>(match o.op with| .makeMap _ ab=>ae|_=>ag)
 | .fI sz bytes zs U M=>(match o.op with| .makeSlice t l c=>mA σ U l&&mA σ M c&&(pF Q t).any (λe=>eB Q e sz&&qd Q e bytes&&nX Q e zs)&&decide (0<sz)|_=>ag)
 | .slice sz y E b mx'=>(match o.op with| .slice t x lo hi mx=>mA σ y x&&mO σ E lo&&mO σ b hi&&mO σ mx' mx&&(pF Q t).any (λe=>eB Q e sz)&&decide (0<sz)|_=>ag)
 | .yT sz y b mx'=>(match o.op with| .slice t x ab (aa hi) (aa mx)=>mA σ y x&&mA σ b hi&&mA σ mx' mx&&(pF Q t).any (λe=>eB Q e sz)&&decide (0<sz)|_=>ag)
 | .vQ y E b=>(match o.op with| .slice t x lo hi ab=>mA σ y x&&mO σ E lo&&mO σ b hi&&(match Q.underlying t with|some .string=>ae|_=>ag)|_=>ag)
 | .tH n sz y E b mx'=>(match o.op with| .slice t x lo hi mx=>mA σ y x&&mO σ E lo&&mO σ b hi&&mO σ mx' mx&&(match Q.underlying t with|some (.array F e)=>n == F&&eB Q e sz|_=>ag)&&decide (0<sz)|_=>ag)
 | .mj H y=>(match o.op with| .fieldAddr t x i=>mA σ y x&&(match Q.underlying t with|some (.struct O)=>(match O[i]? with|some f=>f.offset == H&&(Q.info? f.type).any (λi=>i.size != 0)|none=>ag)|_=>ag)|_=>ag)
 | .field H n y=>(match o.op with| .field t x i=>mA σ y x&&(match Q.underlying t with|some (.struct O)=>(match O[i]? with|some f=>f.offset == H&&yZ Q f.type n|none=>ag)|_=>ag)|_=>ag)
 | .eZ sz L A K=>(match o.op with| .indexAddr t x i=>mA σ A x&&mA σ K i&&(match Q.underlying t,L with|some (.slice e),ab=>eB Q e sz|some (.array n e),aa F=>n == F&&eB Q e sz|_,_=>ag)|_=>ag)
 | .idxs A K=>(match o.op with| .index t x i=>mA σ A x&&mA σ K i&&(match Q.underlying t with|some .string=>ae|_=>ag)|_=>ag)
 | .D3 n sz k A K=>(match o.op with| .index t x i=>mA σ A x&&mA σ K i&&(match Q.underlying t with|some (.array F e)=>n == F&&eB Q e sz&&yZ Q e k|_=>ag)|_=>ag)
 | .lookup N z S k'=>(match o.op with| .lookup t m k ok=>mA σ S m&&mA σ k' k&&(ok ==(pL z).isSome)&&(match Q.underlying t with|some (.map kt e)=>Mi Q N kt&&nX Q e (ve ((pL z).getD z))&&(Q.info? e).any (λi=>i.zero.any λu=>if HO ((pL z).getD z)then Yn u else Ze u)|_=>ag)|_=>ag)
 | .pO N S k' W=>(match o.op with| .mapUpdate t m k v=>mA σ S m&&mA σ k' k&&mA σ W v&&(match Q.underlying t with|some (.map kt _)=>Mi Q N kt|_=>ag)|_=>ag)
 | .range y=>(match o.op with| .range t x=>mA σ y x&&(match Q.underlying t with|some .string=>ae|_=>ag)|_=>ag)
 | .next y=>(match o.op with| .next x ae=>mA σ y x|_=>ag)
 | .extract y j=>(match o.op with| .extract x i=>mA σ y x&&i == j|_=>ag)
 | .defer x xs=>(match o.op with| .defer c=>(match c.callee with| .value y=>mA σ x y&&SC σ xs c.args|_=>ag)|_=>ag)
 | .len x=>(match o.op with| .call c=>fo Q σ c (.len x)|_=>ag)
 | .lens x=>(match o.op with| .call c=>fo Q σ c (.lens x)|_=>ag)
 | .qZ n=>(match o.op with| .call c=>fo Q σ c (.qZ n)|_=>ag)
 | .append sz bytes x y=>(match o.op with| .call c=>fo Q σ c (.append sz bytes x y)|_=>ag)
 | .tj lo xs=>(match o.op with| .call c=>fo Q σ c (.tj lo xs)|_=>ag)
 | .rD sz bytes zs x y=>(match o.op with| .call c=>fo Q σ c (.rD sz bytes zs x y)|_=>ag)
 | .cap x=>(match o.op with| .call c=>fo Q σ c (.cap x)|_=>ag)
 | .clear sz zs x=>(match o.op with| .call c=>fo Q σ c (.clear sz zs x)|_=>ag)
 | .mq y=>(match o.op with| .range t x=>mA σ y x&&(match Q.underlying t with|some (.map _ _)=>ae|_=>ag)|_=>ag)
 | .pS y=>(match o.op with| .next x ag=>mA σ y x|_=>ag)
 | .entry y=>(match o.op with| .entry x=>mA σ y x|_=>ag)
 | .zw g ys=>(match o.op with| .makeFunc (.func f) fst B=>B.isEmpty&&σ g == f&&SC σ ys fst|_=>ag)
 | .recover=>(match o.op with| .call c=>fo Q σ c (.recover)|_=>ag)
 | .call f xs h=>(match o.op with| .call c=>fo Q σ c (.call f xs h)|_=>ag)
 | .jc x xs h=>(match o.op with| .call c=>fo Q σ c (.jc x xs h)|_=>ag)
 |_=>ag
inductive Sz where|p|r|a|c|w
 deriving DecidableEq
def cls:dW->Sz
 | .iV _| .pick .. | .build .. | .un .. | .Qo .. | .Gm _| .zx .. | .vQ .. | .mj .. | .field .. | .idxs .. | .D3 .. | .extract .. | .tj .. | .zw .. | .nq _| .bin .. | .qZ _| .lens _| .kY ..=>.p| .load .. | .eq .. | .len _| .slice .. | .tH .. | .eZ .. | .lookup .. | .DL _| .cap _| .entry _=>.r| .alloc _| .box _| .oS=>.a| .ft .. | .fI ..=>.a| .call _ _ ag=>.c| _=>.w
def Arg.rd:Arg->List P
 | .r p=>[p]| .k _=>[]
def Zc:Option Arg->List P
 |some x=>x.rd| none=>[]
def dW.rd:dW->List P
 | .iV x| .box x| .load _ x| .nq x| .un _ x| .Qo _ x| .Gm x| .DL x| .Tw x| .mj _ x| .field _ _ x| .range x| .next x| .extract x _| .len x| .lens x| .cap x| .clear _ _ x| .mq x| .pS x| .entry x=>x.rd| .pre _ _| .alloc _| .oS| .recover| .qZ _| .bad=>[]| .pick c a b=>c.rd++a.rd++b.rd| .build _ ps=>ps.flatMap λp=>p.2.2.rd
 | .ft _ _ _ ps| .kY _ _ _ ps=>ps.flatMap λp=>p.2.rd
 | .store _ x y| .bin _ x y| .eq _ _ x y| .eZ _ _ x y| .idxs x y| .D3 _ _ _ x y| .append _ _ x y| .copy _ x y| .rD _ _ _ x y| .lookup _ _ x y| .fI _ _ _ x y=>x.rd++y.rd| .pO _ x y z| .yT _ x y z=>x.rd++y.rd++z.rd| .zx _ xs| .call _ xs _| .tj _ xs| .zw _ xs=>xs.flatMap Arg.rd| .jc x xs _| .defer x xs=>x.rd++xs.flatMap Arg.rd| .slice _ x a b c| .tH _ _ x a b c=>x.rd++Zc a++Zc b++Zc c| .vQ x a b=>x.rd++Zc a++Zc b
def ba.rd(o:ba):List P:=(match o.g with|some (p,_)=>[p]|none=>[])++o.op.rd
def ba.apart(x y:ba):Bool:=
 (match x.dst with|some d=>!y.rd.contains d&&y.dst != aa d|none=>ae)&&(match y.dst with|some d=>!x.rd.contains d|none=>ae)
def xv(x y:ba):Bool:=
 match cls x.op,cls y.op with
 | .p,_|_,.p=>ae| .r,.w| .w,.r=>ae| .w,_|_,.w=>ag| _,_=>ae
def rN(b:List Nat)(o:Oper):Nat:=o.after.toList.foldl (λs e=>if Region.binds .any e then s ||| 2 ^ e.on ||| b.getD e.on 0 else s) 0
def eL:List Oper->List Nat->List Nat
 |[],b=>b| o::os,b=>eL os (b++[rN b o])
def C0(b:List Nat)(i j:Nat):Bool:=(b.getD j 0).testBit i
def oK(aos:List ba):List Nat:=(List.range aos.length).filter λj=>match aos[j]? with
 |some y=>decide (cls y.op=.w)| none=>ag
def phase(aos:List ba)(i:Nat):Nat:=i+((aos.drop i).takeWhile λy=>decide (cls y.op≠.w)).length
def Ee(b:List Nat)(aos:List ba)(i e:Nat):Bool:=
 (oK aos).all λj=>if j<e then !C0 b i j else !C0 b j i
def TD(b:List Nat)(aos:List ba)(j:Nat):Bool:=match aos[j]? with
 |some y=>(match y.op with| .alloc _=>ae|_=>ag)&&(oK aos).any λe=>decide (e<j)&&!C0 b e j
 |none=>ag
def nJ(b:List Nat)(aos:List ba):Nat:=((List.range aos.length).find? (TD b aos)).getD aos.length
def Iw(b:List Nat)(aos:List ba)(j:Nat):Bool:=match aos[j]? with
 |some y=>y.g.isNone&&(match y.op with| .alloc _=>ae|_=>ag)&&(match y.dst with
  |some p=>(List.range aos.length).all λi=>match aos[i]? with
   |some z=>!z.rd.contains p||(oK aos).all λe=>!decide (e<j)||C0 b e i
   |none=>ae
  |none=>ag)
 |none=>ae
def Rz(ops:List Oper)(aos:List ba)(d:List (Nat × Nat)):Bool:=
 let b:=eL ops []
 let n:=aos.length
 ((ops.zip (List.range n)).all λo=>o.1.after.toList.all λe=>!Region.binds .any e||decide (e.on<o.2)) &&
 ((List.range n).all λj=>(List.range j).all λi=>C0 b i j||(match aos[i]?,aos[j]? with
  |some x,aa y=>x.apart y&&(xv x y||(decide (j=nJ b aos)&&decide (cls x.op=.w)))
  |_,_=>ag)) &&
 Iw b aos (nJ b aos) &&
 ((List.range n).all λi=>match aos[i]? with
  |some x=>if cls x.op=.r then(oK aos++[n]).all λe=>e == phase aos i||!Ee b aos i e||d.contains (i,e)else ae
  |none=>ag)
variable(Q:Program)(σ:Nat->FuncId)
def nN(n:Nat)(ops:Array Oper)(o:Oper)(a:ba):Bool:=
 fk Q σ o a.op &&
 (match o.dst,a.dst with|some d,aa p=>p.toNat == d&&decide (d<n)|none,ab=>ae|_,_=>ag) &&
 (match o.guard,a.g with
  |some (j,w),aa (p,w')=>w == w'&&(match (ops[j]?).bind (·.dst)with|some d=>p.toNat == d&&decide (d<n)|none=>ag)
  |none,ab=>ae
  |_,_=>ag)
def mY:aE->Bool
 | .seq a b=>mY a&&mY b| .bad=>ag| _=>ae
def cJ(n:Nat):Code->aE->Bool
 |_,.bad=>ae| .skip,.skip=>ae| .region _ ops g,.region aos j=>iy (nN Q σ n ops) ops.toList aos&&(!g||Rz ops.toList aos j)| .seq a b,.seq a' d=>cJ n a a'&&cJ n b d| .cond c a b,.cond v a' d=>mA σ v c&&cJ n a a'&&cJ n b d| .block i a,.block m a'=>i == m&&cJ n a a'| .loop a,.loop a'=>cJ n a a'| .rangeFunc f ps a b,.oE x u a' d=>mA σ x f&&iy (λp (q:P)=>q.toNat == p&&decide (p<n)) ps.toList u&&cJ n a a'&&cJ n b d
 | .exit i,.exit m=>i == m| .scope a,.scope a'=>cJ n a a'&&mY a'| .label l,.label s=>l == s| .goto l,.goto s=>l == s| .ret,.ret=>ae| _,_=>ag
def zv(n:Nat):ResultVar->ku->Bool
 | .tmp t,.tmp p=>p.toNat == t&&decide (t<n)| .cell t b,.cell p k=>p.toNat == t&&decide (t<n)&&yZ Q b k| _,_=>ag
def AW(f:Func)(a:aM):Bool:=
 f.name != "runtime.NumGoroutine" &&
 (match f.body with|some b=>cJ Q σ f.ntmps b a.body|none=>ag) &&
 iy (zv Q f.ntmps) f.results.toList a.results &&
 decide (a.ps.map P.toNat=List.range a.ps.length)
end
section
def A2{α β:Type}(R:α->β->Prop)(xs:List α)(ys:List β):Prop:=
 xs.length=ys.length/\∀(i:Nat) x y,xs[i]?=aa x->ys[i]?=aa y->R x y
section A2
variable{α β:Type}{R S:α->β->Prop}{xs xs':List α}{ys ys':List β}
theorem A2.len(h:A2 R xs ys):xs.length=ys.length:=h.1
theorem A2.nil:A2 R [] []:=⟨rfl,bv⟩
theorem A2.mono(h:A2 R xs ys)(d:∀x y,x∈xs->R x y->S x y):A2 S xs ys:=
 ⟨h.1,λi x y b hy=>d x y (List.mem_of_getElem? b) (h.2 i x y b hy)⟩
theorem A2.get(h:A2 R xs ys){i:Nat}{x:α}(b:xs[i]?=aa x):∃y,ys[i]?=aa y/\R x y:=by
 have hi:i<xs.length:=(OF.1 b).1;have hy:i<ys.length:=h.1▸hi;exact⟨ys[i],By hy,h.2 i x _ b (By hy)⟩
theorem A2.cons{x:α}{y:β}(g:R x y)(h:A2 R xs ys):A2 R (x::xs) (y::ys):=
 ⟨by simp[h.1],λi a b d hb=>by
  cases i with
  |zero=>simp at d hb;subst d;subst hb;exact g
  |succ i=>simp at d hb;exact h.2 i a b d hb⟩
theorem A2.of_cons{x:α}{y:β}(h:A2 R (x::xs) (y::ys)):R x y/\A2 R xs ys:=
 ⟨h.2 0 x y rfl rfl,by simpa using h.1,λi a b d hb=>h.2 (i+1) a b (by simpa using d) (by simpa using hb)⟩
theorem A2.append(h:A2 R xs ys)(g:A2 R xs' ys'):A2 R (xs++xs') (ys++ys'):=
 ⟨by simp[h.1,g.1],λi a b d hb=>by
  by_cases hi:i<xs.length
  .rw[AI hi]at d;rw[AI (h.1▸hi)]at hb;exact h.2 i a b d hb
  .rw[agj ap]at d;rw[agj (by have:=h.1;omega),<-h.1]at hb;exact g.2 _ a b d hb⟩
theorem A2.take(h:A2 R xs ys)(n:Nat):A2 R (xs.take n) (ys.take n):=
 ⟨by simp[h.1],λi a b d hb=>by
  rw[List.getElem?_take]at d hb;split at d
  .rename_i hi;simp only[hi,if_true]at hb;exact h.2 i a b d hb
  .simp at d⟩
theorem A2.drop(h:A2 R xs ys)(n:Nat):A2 R (xs.drop n) (ys.drop n):=
 ⟨by simp[h.1],λi a b d hb=>by
  rw[ahk]at d hb;exact h.2 _ a b d hb⟩
theorem A2.map{l:Type}{g:l->α}{zs:List l}(h:A2 (λz y=>R (g z) y) zs ys):A2 R (zs.map g) ys:=
 ⟨by simpa using h.1,λi a b d hb=>by
  rw[ahp]at d;cases j:zs[i]? with
  |none=>rw[j]at d;simp at d
  |some z=>rw[j]at d;simp at d;subst d;exact h.2 i z b j hb⟩
theorem A2.nZ(h:A2 R xs ys)(b:∀x y,R x y->S x y):A2 S xs ys:=h.mono λx y _=>b x y
end A2
inductive dC(σ:Nat->FuncId)(F:Nat->Nat->Prop)(w:World):FC->Value->Prop
 |bool (b:Bool):dC σ F w (.bool b) (.bool b)
 |int (k:IntKind) (n:Int):dC σ F w (.int k n) (.int k n)
 |str (s:ByteArray):dC σ F w (.str s) (.string s)
 |ye:dC σ F w .ye (.pointer ab)
 |aJ:dC σ F w .aJ (.slice ab 0 0)
 |es (a:Addr):dC σ F w .es (.slice (aa a) 0 0)
 |vX:dC σ F w .vX .nilFunc
 |rQ:dC σ F w .rQ .nilIface
 |zy:dC σ F w .zy (.map ab)
 |fp (cs:List FC) (off c o:Nat) (us:List Value) (hl:us.length=cs.length) (hF:∀i,i<cs.length->F c (o+i))
   (hc:∀(i:Nat) u,us[i]?=aa u->w.cell? ⟨c,o+i,ab⟩=aa u) (hr:∀(i:Nat) x u,cs[i]?=aa x->us[i]?=aa u->dC σ F w x u) :
   dC σ F w (.fp cs off) (.pointer (aa ⟨c,o+off,ab⟩))
 |fs (cs:List FC) (l c o cap:Nat) (us:List Value) (af6:l<=cap) (hl:us.length=cs.length) (hF:∀i,i<cs.length->F c (o+i))
   (hc:∀(i:Nat) u,us[i]?=aa u->w.cell? ⟨c,o+i,ab⟩=aa u) (hr:∀(i:Nat) x u,cs[i]?=aa x->us[i]?=aa u->dC σ F w x u) :
   dC σ F w (.fs cs l) (.slice (aa ⟨c,o,ab⟩) l cap)
 |Vn (a:Addr) (cap:Nat):dC σ F w (.fs [] 0) (.slice (aa a) 0 cap)
 |fn (f:Nat) (KU:List FC) (us:List Value) (hl:us.length=KU.length) (hr:∀(i:Nat) x u,KU[i]?=aa x->us[i]?=aa u->dC σ F w x u) :
   dC σ F w (.fn f KU) (.func (.func (σ f)) #[] us.toArray)
theorem dC.mono{σ:Nat->FuncId}{F m:Nat->Nat->Prop}{w w':World}(q:∀c i,F c i->m c i)
  (y:∀c i,F c i->w'.cell? ⟨c,i,ab⟩=w.cell? ⟨c,i,ab⟩) {x:FC} {v:Value} (h:dC σ F w x v):dC σ m w' x v:=by
 induction h with
 |fp cs off c o us hl b hc s j=>
  refine .fp cs off c o us hl (λi hi=>q _ _ (b i hi)) (λi u hu=>?_) j
  grind
 |fs cs l c o cap us g hl b hc s j=>
  refine .fs cs l c o cap us g hl (λi hi=>q _ _ (b i hi)) (λi u hu=>?_) j
  grind
 |fn f d us hl s j=>exact .fn f d us hl j| _=>constructor
theorem dC.one{σ:Nat->FuncId}{F:Nat->Nat->Prop}{w:World}{x:FC}{v:Value}(h:dC σ F w x v):v.oneCell'=ae:=by
 cases h<;>rfl
structure Loc where
 c:Nat
 cap:Nat
structure Wd where
 di:Nat->Option Loc
 F:Nat->Nat->Prop
 H:an
 w:World
 B:Nat
variable(σ:Nat->FuncId)
def iL(X:Wd):C->Value->Prop
 | .f x,v=>dC σ X.F X.w x v
 | .ptr b j g,v=>∃L,X.di b=aa L/\match X.H[b]? with
  |some (.box _ _)=>v=.pointer (aa ⟨L.c,j,ab⟩)| some (.dj _ _ _ e .loc)=>g<=e/\(g=e->v=.pointer (aa ⟨L.c,j,ab⟩))/\∃a,v=.pointer (aa a)| _=>False
 | .sl b o l cap g sz,v=>match X.H[b]? with
  |some (.box _ _)=>∃L,X.di b=aa L/\l<=cap/\v=.slice (aa ⟨L.c,o,ab⟩) l cap
  |some (.dj s _ _ e st)=>g<=e/\(g=e->sz=s->match st with
    | .loc=>∃L,X.di b=aa L/\∃k,o=k*s/\k+l<=L.cap/\v=.slice (aa ⟨L.c,o,ab⟩) l (L.cap-k)| .nil=>o=0/\l=0/\v=.slice ab 0 0
    | .es=>o=0/\l=0/\∃a,v=.slice (aa a) 0 0)/\∃a n c,v=.slice a n c
  |_=>False
 | .cl _ _,_=>False| .yl b,v=>∃L,X.di b=aa L/\(∃f t p a u s q d,X.H[b]?=aa (.lp f t p a u s q d))/\v=.func (.yield L.c) #[] #[]| .mp b,v=>∃L,X.di b=aa L/\(∃y,X.H[b]?=aa (.map y))/\v=.map (aa L.c)| .it b,v=>∃L,X.di b=aa L/\(∃s p,X.H[b]?=aa (.it s p))/\v=.pointer (aa ⟨L.c,0,ab⟩)| .mi b,v=>∃L,X.di b=aa L/\(∃m s d,X.H[b]?=aa (.Ff m s d))/\v=.pointer (aa ⟨L.c,0,ab⟩)| .bm _ _,_=>False
def CR(X:Wd):C->Value->Prop
 | .cl f b,v=>∃us,v=.func (.func (σ f)) #[] us.toArray/\A2 (iL σ X) b us| .bm f first,v=>∃us,v=.func (.func (σ f)) us.toArray #[]/\A2 (iL σ X) first us
 |x,v=>iL σ X x v
theorem iL.one{X:Wd}{x:C}{v:Value}(h:iL σ X x v):v.oneCell'=ae:=by
 cases x with
 |f x=>exact dC.one h
 |ptr b off g=>
  obtain⟨L,_,h⟩:=h;split at h
  .subst h;rfl
  .obtain⟨_,_,a,rfl⟩:=h;rfl
  .simp_all
 |sl b o l cap g sz=>
  simp only[iL]at h;split at h
  .obtain⟨L,_,_,rfl⟩:=h;rfl
  .obtain⟨_,_,a,n,c,rfl⟩:=h;rfl
  .simp_all
 |cl f d=>exact h.elim| yl b=>obtain⟨L,_,_,rfl⟩:=h;rfl
 |mp b=>obtain⟨L,_,_,rfl⟩:=h;rfl
 |it b=>obtain⟨L,_,_,rfl⟩:=h;rfl
 |mi b=>obtain⟨L,_,_,rfl⟩:=h;rfl
 |bm f first=>exact h.elim
theorem CR.one{X:Wd}{x:C}{v:Value}(h:CR σ X x v):v.oneCell'=ae:=by
 cases x with
 |cl f j=>obtain⟨us,rfl,_⟩:=h;rfl
 |bm f first=>obtain⟨us,rfl,_⟩:=h;rfl
 |mi b=>exact iL.one σ (x:=.mi b) h| f y=>exact iL.one σ (x:=.f y) h| ptr a b c=>exact iL.one σ (x:=.ptr a b c) h| sl a b c d e g=>exact iL.one σ (x:=.sl a b c d e g) h| yl b=>exact iL.one σ (x:=.yl b) h| mp b=>exact iL.one σ (x:=.mp b) h| it b=>exact iL.one σ (x:=.it b) h
theorem CR.SD{X:Wd}{x:C}{v:Value}(h:iL σ X x v):CR σ X x v:=by
 cases x with
 |cl f b=>exact h.elim| bm f first=>exact h.elim
 |_=>exact h
def jO(X:Wd):V->Value->Prop
 | .top,_=>True| .c x,v=>CR σ X x v| .a xs,v=>∃us,v=.agg us.toArray/\A2 (CR σ X) xs us| .t _,_=>False
def VR(X:Wd):V->Value->Prop
 | .t b,v=>∃us,v=.tuple us.toArray/\A2 (jO σ X) b us| x,v=>jO σ X x v
theorem VR.SD{X:Wd}{x:V}{v:Value}(h:jO σ X x v):VR σ X x v:=by
 cases x with
 |t b=>exact h.elim| _=>exact h
def rowAt(w:World)(c:Nat)(us:List Value):Prop:=
 ∃e b,w.heap[c]?=aa (.cells us.toArray e b)/\∀i,i<=us.length->¬(b.1<=i/\i<b.2)
def oO(X X':Wd)(b:Nat):Prop:=
 ∀cP,X.H[b]?=aa cP->∃blk',X'.H[b]?=aa blk'/\match cP,blk' with
  | .box _ _,.box _ _=>∀L,X.di b=aa L->X'.di b=aa L| .dj s _ _ e st,.dj g _ _ j st'=>s=g/\((e=j/\st=st'/\∀L,X.di b=aa L->X'.di b=aa L)\/(e<j/\st'=.loc/\∃L,X'.di b=aa L))| .map _,.map _=>∀L,X.di b=aa L->X'.di b=aa L| .it _ _,.it _ _=>∀L,X.di b=aa L->X'.di b=aa L| .dQ _,.dQ _=>∀L,X.di b=aa L->X'.di b=aa L| .Ff m s _,.Ff u g _=>(m=u/\s=g)/\∀L,X.di b=aa L->X'.di b=aa L| .lp f t p a c _ _ d,.lp q x v a' l _ _ d'=>(f=q/\t=x/\p=v/\a=a'/\c=l/\d=d')/\∀L,X.di b=aa L->X'.di b=aa L| _,_=>False
structure Ext(N:Nat)(X X':Wd):Prop where
 B:X'.B=X.B
 F:∀c i,X.F c i->X'.F c i
 sy:∀c i,X'.F c i->X.F c i\/X.w.heap.size<=c\/∃b L,X.di b=aa L/\L.c=c
 fw:∀c i,X.F c i->X'.w.cell? ⟨c,i,ab⟩=X.w.cell? ⟨c,i,ab⟩
 bH:∀b,b<N->oO X X' b
 AH:∀b L,X'.di b=aa L->(∃b0 L0,X.di b0=aa L0/\L0.c=L.c)\/X.w.heap.size<=L.c
 size:X.w.heap.size<=X'.w.heap.size
 os:X'.w.os=X.w.os
 tape:X'.w.tape=X.w.tape
 output:X'.w.output=X.w.output
 frame:∀k,k<X.w.heap.size->(∀b L,X.di b=aa L->L.c≠k)->X'.w.heap[k]?=X.w.heap[k]?
structure sx(N:Nat)(X X':Wd):Prop where
 F:∀c i,X.F c i->X'.F c i
 fw:∀c i,X.F c i->X'.w.cell? ⟨c,i,ab⟩=X.w.cell? ⟨c,i,ab⟩
 bH:∀b,b<N->oO X X' b
theorem Ext.W{N:Nat}{X X':Wd}(h:Ext N X X'):sx N X X':=⟨h.F,h.fw,h.bH⟩
theorem oO.refl(X:Wd)(b:Nat):oO X X b:=λcP h=>⟨cP,h,by cases cP<;>simp⟩
theorem oO.trans{X Y Z:Wd}{b:Nat}(h:oO X Y b)(k:oO Y Z b):oO X Z b:=by
 intro cP hb;obtain⟨blk',j,h1⟩:=h cP hb;obtain⟨d,g,h2⟩:=k blk' j;refine⟨d,g,?_⟩
 grind
theorem Ext.refl(N:Nat)(X:Wd):Ext N X X:=
 ⟨rfl,λ_ _ h=>h,λ_ _ h=>.inl h,λ_ _ _=>rfl,λb _=>oO.refl X b,λb L h=>.inl ⟨b,L,h,rfl⟩,agn _,rfl,rfl,rfl,λ_ _ _=>rfl⟩
theorem Ext.trans{N:Nat}{X Y Z:Wd}(h:Ext N X Y)(k:Ext N Y Z):Ext N X Z where
 B:=k.B.trans h.B
 F:=λc i d=>k.F c i (h.F c i d)
 sy:=λc i d=>by
  rcases k.sy c i d with h1|h1|⟨b,L,hb,rfl⟩
  .exact h.sy c i h1
  .exact .inr (.inl (agK h.size h1))
  .rcases h.AH b L hb with⟨b0,L0,h0,h1⟩|h1
   .grind
   .omega
 fw:=λc i d=>(k.fw c i (h.F c i d)).trans (h.fw c i d)
 bH:=λb hb=>(h.bH b hb).trans (k.bH b hb)
 AH:=λb L hb=>by
  rcases k.AH b L hb with⟨b0,L0,h0,h1⟩|h1
  .rcases h.AH b0 L0 h0 with⟨b1,m,h2,h3⟩|h2
   .grind
   .omega
  .exact .inr (agK h.size h1)
 size:=agK h.size k.size
 os:=k.os.trans h.os
 tape:=k.tape.trans h.tape
 output:=k.output.trans h.output
 frame:=λj g l=>by
  rw[k.frame j (ahz g h.size) (λb L hb hc=>?_)]
  .exact h.frame j g l
  .rcases h.AH b L hb with⟨b0,L0,h0,h1⟩|h1
   .grind
   .omega
theorem Ext.mono{N M:Nat}{X Y:Wd}(h:Ext N X Y)(d:M<=N):Ext M X Y:=
 {h with bH:=λb hb=>h.bH b (ahz hb d) }
theorem iL.under{X:Wd}{x:C}{v:Value}(h:iL σ X x v):x.gR X.H.length=ae:=by
 have lt:∀(b:Nat) cP,X.H[b]?=aa cP->b<X.H.length:=λb cP hb=>(OF.1 hb).1;cases x with
 |f x=>rfl
 |ptr b off j=>
  obtain⟨L,_,h⟩:=h;split at h
  .rename_i hb;simpa[C.gR]using lt _ _ hb
  .rename_i hb;simpa[C.gR]using lt _ _ hb
  .simp_all
 |sl b o l cap j sz=>
  simp only[iL]at h;split at h
  .rename_i hb;simpa[C.gR]using lt _ _ hb
  .rename_i hb;simpa[C.gR]using lt _ _ hb
  .simp_all
 |cl f g=>exact h.elim| yl b=>obtain⟨L,_,⟨f,t,p,a,u,s,q,d,hb⟩,rfl⟩:=h;simpa[C.gR]using lt _ _ hb
 |mp b=>obtain⟨L,_,⟨es,hb⟩,rfl⟩:=h;simpa[C.gR]using lt _ _ hb
 |it b=>obtain⟨L,_,⟨s,p,hb⟩,rfl⟩:=h;simpa[C.gR]using lt _ _ hb
 |mi b=>obtain⟨L,_,⟨m,s,d,hb⟩,rfl⟩:=h;simpa[C.gR]using lt _ _ hb
 |bm f first=>exact h.elim
theorem iL.sP{N:Nat}{X X':Wd}(u:sx N X X'){x:C}{v:Value}(hu:x.gR N=ae)(h:iL σ X x v):iL σ X' x v:=by
 cases x with
 |f x=>exact dC.mono u.F u.fw h
 |ptr b off E=>
  obtain⟨L,j,h⟩:=h;have y:=u.bH b (by simpa[C.gR]using hu);split at h
  .rename_i cs fl hb;obtain⟨blk',g,h1⟩:=y _ hb;cases blk'<;>simp only at h1;exact⟨L,h1 L j,by rw[g];exact h⟩
  .rename_i s cs fl e hb;obtain⟨blk',g,h1⟩:=y _ hb;cases blk'<;>simp only at h1;obtain⟨rfl,⟨rfl,rfl,h2⟩|⟨h2,rfl,B,z⟩⟩:=h1
   .exact⟨L,h2 L j,by rw[g];exact h⟩
   .exact⟨B,z,by rw[g];exact⟨ap,λh3=>by omega,h.2.2⟩⟩
  .simp_all
 |sl b o l cap E sz=>
  simp only[iL]at h ⊢;have y:=u.bH b (by simpa[C.gR]using hu);split at h
  .rename_i cs fl hb;obtain⟨L,j,h⟩:=h;obtain⟨blk',g,h1⟩:=y _ hb
   grind
  .rename_i s cs fl e st hb;obtain⟨blk',g,h1⟩:=y _ hb
   grind
  .simp_all
 |cl f A=>exact h.elim
 |yl b=>
  obtain⟨L,j,⟨f,t,p,a,F,s,q,d,hb⟩,rfl⟩:=h;obtain⟨blk',g,h1⟩:=u.bH b (by simpa[C.gR]using hu) _ hb;cases blk'<;>simp only at h1;exact⟨L,h1.2 L j,⟨_,_,_,_,_,_,_,_,g⟩,rfl⟩
 |mp b=>
  obtain⟨L,j,⟨es,hb⟩,rfl⟩:=h;obtain⟨blk',g,h1⟩:=u.bH b (by simpa[C.gR]using hu) _ hb;cases blk'<;>simp only at h1;exact⟨L,h1 L j,⟨_,g⟩,rfl⟩
 |it b=>
  obtain⟨L,j,⟨s,p,hb⟩,rfl⟩:=h;obtain⟨blk',g,h1⟩:=u.bH b (by simpa[C.gR]using hu) _ hb;cases blk'<;>simp only at h1;exact⟨L,h1 L j,⟨_,_,g⟩,rfl⟩
 |mi b=>
  obtain⟨L,j,⟨m,s,d,hb⟩,rfl⟩:=h;obtain⟨blk',g,h1⟩:=u.bH b (by simpa[C.gR]using hu) _ hb;cases blk'<;>simp only at h1;exact⟨L,h1.2 L j,⟨_,_,_,g⟩,rfl⟩
 |bm f first=>exact h.elim
theorem CR.sP{N:Nat}{X X':Wd}(j:sx N X X'){x:C}{v:Value}(hu:x.under N=ae)(h:CR σ X x v):CR σ X' x v:=by
 cases x with
 |cl f m=>
  obtain⟨us,rfl,h⟩:=h;refine⟨us,rfl,h.mono λy u hy l=>iL.sP σ j ?_ l⟩;exact agJ.1 hu y hy
 |bm f first=>
  obtain⟨us,rfl,h⟩:=h;refine⟨us,rfl,h.mono λy u hy l=>iL.sP σ j ?_ l⟩;exact agJ.1 hu y hy
 |mi b=>exact iL.sP σ j (x:=.mi b) hu h| f y=>exact iL.sP σ j (x:=.f y) hu h| ptr a b c=>exact iL.sP σ j (x:=.ptr a b c) hu h| sl a b c d e g=>exact iL.sP σ j (x:=.sl a b c d e g) hu h| yl b=>exact iL.sP σ j (x:=.yl b) hu h| mp b=>exact iL.sP σ j (x:=.mp b) hu h| it b=>exact iL.sP σ j (x:=.it b) hu h
end
section
variable(Q:Program)(σ:Nat->FuncId)
theorem CR.under{X:Wd}{x:C}{v:Value}(h:CR σ X x v):x.under X.H.length=ae:=by
 cases x with
 |cl f j=>
  obtain⟨us,rfl,h⟩:=h;simp only[C.under,agJ];intro y hy;obtain⟨i,hi⟩:=ahI hy;obtain⟨u,_,hu⟩:=h.get hi;exact iL.under σ hu
 |bm f j=>
  obtain⟨us,rfl,h⟩:=h;simp only[C.under,agJ];intro y hy;obtain⟨i,hi⟩:=ahI hy;obtain⟨u,_,hu⟩:=h.get hi;exact iL.under σ hu
 |mi b=>exact iL.under σ (x:=.mi b) h| f y=>rfl| ptr a b c=>exact iL.under σ (x:=.ptr a b c) h| sl a b c d e g=>exact iL.under σ (x:=.sl a b c d e g) h| yl b=>exact iL.under σ (x:=.yl b) h| mp b=>exact iL.under σ (x:=.mp b) h| it b=>exact iL.under σ (x:=.it b) h
theorem CR.fE{X X':Wd}(b:sx X.H.length X X'){x:C}{v:Value}(h:CR σ X x v):CR σ X' x v:=CR.sP σ b (CR.under σ h) h
theorem A2.fE{X X':Wd}(b:sx X.H.length X X'){xs:List C}{us:List Value}(h:A2 (CR σ X) xs us):A2 (CR σ X') xs us:=
 h.nZ λ_ _ h=>CR.fE σ b h
theorem jO.fE{X X':Wd}(b:sx X.H.length X X'){x:V}{v:Value}(h:jO σ X x v):jO σ X' x v:=by
 cases x with
 |top=>trivial| c x=>exact CR.fE σ b h| a xs=>obtain⟨us,rfl,h⟩:=h;exact⟨us,rfl,A2.fE σ b h⟩
 |t d=>exact h.elim
theorem VR.fE{X X':Wd}(b:sx X.H.length X X'){x:V}{v:Value}(h:VR σ X x v):VR σ X' x v:=by
 cases x with
 |t d=>obtain⟨us,rfl,h⟩:=h;exact⟨us,rfl,h.nZ λ_ _ h=>jO.fE σ b h⟩
 |top=>trivial| c x=>exact jO.fE σ (x:=.c x) b h| a xs=>exact jO.fE σ (x:=.a xs) b h
def RR(X:Wd)(aN:T)(tmps:Array Value):Prop:=∀p,VR σ X (aN.get p) (tmps.getD p.toNat undef)
theorem RR.fE{X X':Wd}(b:sx X.H.length X X'){aN:T}{tmps:Array Value}(h:RR σ X aN tmps):RR σ X' aN tmps:=λp=>VR.fE σ b (h p)
theorem CR.ext'{X X':Wd}(b:Ext X.H.length X X'){x:C}{v:Value}(h:CR σ X x v):CR σ X' x v:=CR.fE σ b.W h
theorem A2.ext'{X X':Wd}(b:Ext X.H.length X X'){xs:List C}{us:List Value}(h:A2 (CR σ X) xs us):A2 (CR σ X') xs us:=A2.fE σ b.W h
theorem jO.ext'{X X':Wd}(b:Ext X.H.length X X'){x:V}{v:Value}(h:jO σ X x v):jO σ X' x v:=jO.fE σ b.W h
theorem VR.ext'{X X':Wd}(b:Ext X.H.length X X'){x:V}{v:Value}(h:VR σ X x v):VR σ X' x v:=VR.fE σ b.W h
theorem RR.ext'{X X':Wd}(b:Ext X.H.length X X'){aN:T}{tmps:Array Value}(h:RR σ X aN tmps):RR σ X' aN tmps:=RR.fE σ b.W h
theorem T.sT(t:T)(p q:P)(v:V):(t.set p v).get q=if p=q then v else t.get q:=by
 induction t generalizing p q with
 |e=>
  induction p generalizing q with
  |h=>cases q<;>simp[T.set,T.get]
  |o p b=>cases q<;>simp[T.set,T.get,b]
  |i p b=>cases q<;>simp[T.set,T.get,b]
 |n l j r d g=>cases p<;>cases q<;>simp[T.set,T.get,d,g]
theorem P.toNat_inj{p q:P}(h:p.toNat=q.toNat):p=q:=by
 induction p generalizing q with
 |h=>cases q<;>simp[P.toNat]at h ⊢
 |o p b=>
  cases q with
  |h=>simp[P.toNat]at h| o q=>simp only[P.toNat]at h;rw[b (q:=q) ap]
  |i q=>simp[P.toNat]at h;omega
 |i p b=>
  cases q with
  |h=>simp[P.toNat]at h| o q=>simp[P.toNat]at h;omega| i q=>simp only[P.toNat]at h;rw[b (q:=q) ap]
theorem RR.set{X:Wd}{aN:T}{tmps:Array Value}(h:RR σ X aN tmps){p:P}(g:p.toNat<tmps.size){v:V}{u:Value}(j:VR σ X v u) :
  RR σ X (aN.set p v) (tmps.setIfInBounds p.toNat u):=by
 intro q;rw[T.sT];by_cases d:p=q
 .simp_all
 .have b:p.toNat≠q.toNat:=λe=>d (P.toNat_inj e);simpa[d,Array.getD_eq_getD_getElem?,Array.getElem?_setIfInBounds_ne b]using h q
def dt.of:dt->LoopState
 | .ready=>.ready| .busy=>.busy| .done=>.done| .exhausted=>.exhausted
def AX(n:Nat):Option aE->Option Code->Prop
 |none,ab=>True| some a,aa c=>cJ Q σ n c a=ae| _,_=>False
def BR(X:Wd):bO->Loc->Prop
 | .box cs fl,L=>∃us,rowAt X.w L.c us/\A2 (CR σ X) cs us/\∀i,fl<=i->¬ X.F L.c i| .dj sz cs fl _ st,L=>st=.loc/\∃us rest,rowAt X.w L.c (us++rest)/\A2 (CR σ X) cs us/\(us++rest).length=L.cap*sz/\0<sz/\(∃n,cs.length=n*sz)/\∀i,fl<=i->¬ X.F L.c i| .map x,L=>∃g:List MapEntry,X.w.heap[L.c]?=aa (.map g.toArray g.length)/\A2 (λe m=>dC σ X.F X.w e.1 m.key/\jO σ X (mV e.2) m.val) x g/\∀(i:Nat) m,g[i]?=aa m->m.born=i
 | .Ff m j done,L=>∃(B:Loc) (z:Array Nat) (st:Nat),X.di m=aa B/\(∃x,X.H[m]?=aa (.map x))/\X.w.heap[L.c]?=aa (.mapIter (aa B.c) j z st)/\(if done then z=#[0]/\st=1 else z=#[])| .it s y,L=>X.w.heap[L.c]?=aa (.stringIter s y)| .dQ b,L=>X.w.heap[L.c]?=aa (.deferred (if b then aa []else ab))
 | .lp f tmps ps as bd st u d,L=>∃(n:Nat) (us:Array Value) (v:Array Tmp) (as' l:Code) (pend':Option Code) (A:Loc),
   X.w.heap[L.c]?=aa (.loop { state:=st.of,pending:=pend',fn:=σ f,tmps:=us,params:=v,assign:=as',body:=l,defers:=A.c })/\
   n<=us.size/\RR σ X tmps us/\iy (λp (q:P)=>q.toNat == p&&decide (p<n)) v.toList ps=ae/\cJ Q σ n as' as=ae/\cJ Q σ n l bd=ae/\AX Q σ n u pend'/\X.di d=aa A/\∃o,X.H[d]?=aa (.dQ o)
theorem BR.sP{X X':Wd}(g:sx X.H.length X X'){cP:bO}{L:Loc}(l:X'.w.heap[L.c]?=X.w.heap[L.c]?)(F:∀i,X'.F L.c i->X.F L.c i)(h:BR Q σ X cP L):BR Q σ X' cP L:=by
 cases cP with
 |box cs fl=>
  obtain⟨us,⟨e,fr,h1,h2⟩,h3,h4⟩:=h;exact⟨us,⟨e,fr,l.trans h1,h2⟩,A2.fE σ g h3,λi hi x=>h4 i hi (F i x)⟩
 |dj sz cs fl J st=>
  obtain⟨y,us,rest,⟨e,fr,h1,h2⟩,h3,h4,h5,h6,h7⟩:=h;exact⟨y,us,rest,⟨e,fr,l.trans h1,h2⟩,A2.fE σ g h3,h4,h5,h6,λi hi x=>h7 i hi (F i x)⟩
 |map es=>
  obtain⟨u,h1,h2,h3⟩:=h;exact⟨u,l.trans h1,h2.nZ λ_ _ h=>⟨dC.mono g.F g.fw h.1,jO.fE σ g h.2⟩,h3⟩
 |Ff m A done=>
  obtain⟨E,I,st,h1,⟨es,h2⟩,h3,h4⟩:=h;obtain⟨blk',j,h5⟩:=g.bH m (OF.1 h2).1 _ h2;cases blk'<;>simp only at h5;exact⟨E,I,st,h5 E h1,⟨_,j⟩,l.trans h3,h4⟩
 |it s pos=>exact l.trans h| dQ b=>exact l.trans h
 |lp f tmps ps as bd st H d=>
  obtain⟨n,us,z,as',v,pend',B,h1,h2,h3,h4,h5,h6,h7,h8,o,h9⟩:=h;have hd:d<X.H.length:=(OF.1 h9).1;obtain⟨blk',j,q⟩:=g.bH d hd _ h9;cases blk'<;>simp only at q;exact⟨n,us,z,as',v,pend',B,l.trans h1,h2,RR.fE σ g h3,h4,h5,h6,h7,q B h8,_,j⟩
theorem BR.ext{X X':Wd}(g:Ext X.H.length X X'){cP:bO}{L:Loc}(d:X'.w.heap[L.c]?=X.w.heap[L.c]?)(b:∀i,X'.F L.c i->X.F L.c i)(h:BR Q σ X cP L):BR Q σ X' cP L:=BR.sP Q σ g.W d b h
structure SR(X:Wd):Prop where
 br:∀b L,X.di b=aa L->X.B<=L.c/\L.c<X.w.heap.size/\∃cP,X.H[b]?=aa cP/\BR Q σ X cP L
 inj:∀b b' L L',X.di b=aa L->X.di b'=aa L'->L.c=L'.c->b=b'
 fb:∀c i,X.F c i->c<X.w.heap.size
theorem SR.step{X X':Wd}(s:SR Q σ X)(q:Ext X.H.length X X')(b0:Nat)(x:∀b,b≠b0->X'.H[b]?=X.H[b]?)(d:∀b,b≠b0->X'.di b=X.di b)
  (y:∀b L,b≠b0->X.di b=aa L->X'.w.heap[L.c]?=X.w.heap[L.c]?) (v:∀b L,b≠b0->X.di b=aa L->∀i,X'.F L.c i->X.F L.c i)
  (h0:∀L,X'.di b0=aa L->X.B<=L.c/\L.c<X'.w.heap.size/\(∃cP,X'.H[b0]?=aa cP/\BR Q σ X' cP L)/\∀b j,b≠b0->X.di b=aa j->j.c≠L.c)
  (m:∀c i,X'.F c i->c<X'.w.heap.size):SR Q σ X' where
 br:=λb L hb=>by
  rw[q.B];by_cases h:b=b0
  .simp_all
  .rw[d b h]at hb;obtain⟨h1,h2,cP,h3,h4⟩:=s.br b L hb;exact⟨h1,ahz h2 q.size,cP,(x b h).trans h3,BR.ext Q σ q (y b L h hb) (v b L h hb) h4⟩
 fb:=λc i h=>m c i h
 inj:=λb l L j hb g hc=>by
  by_cases h:b=b0<;>by_cases u:l=b0
  .omega
  .grind
  .grind
  .rw[d b h]at hb;rw[d l u]at g;exact s.inj b l L j hb g hc
end
section
variable{Q:Program}{σ:Nat->FuncId}{X:Wd}
theorem bI{t:TypeId}{d:TypeDesc}(h:Q.underlying t=aa d)(w:World):(underlying t).run Q w=.ok d w:=by
 simp[underlying,h]
theorem dS{t:TypeId}{n:Nat}(h:eB Q t n=ae)(w:World):(Go.sizeOf t).run Q w=.ok n w:=by
 unfold eB at h;cases hi:Q.info? t with
 |none=>simp[hi]at h| some i=>simp[hi]at h;simp[Go.sizeOf,typeInfo,hi,h]
theorem CI{t:TypeId}{n:Nat}(h:qd Q t n=ae)(w:World):∃i,(typeInfo t).run Q w=.ok i w/\i.bytes=n:=by
 unfold qd at h;cases hi:Q.info? t with
 |none=>simp[hi]at h| some i=>simp[hi]at h;exact⟨i,by simp[typeInfo,hi],h⟩
theorem I8{t:TypeId}{n:Option Nat}(h:yZ Q t n=ae)(w:World):(isAgg t).run Q w=.ok n.isSome w/\∀k,n=aa k->eB Q t k=ae:=by
 unfold yZ at h;cases b:Q.underlying t with
 |none=>simp[b]at h
 |some d=>
  cases d<;>cases n<;>simp_all [isAgg,bI b]
theorem fK(c o k:Nat):(⟨c,o,ab⟩:Addr).add k=⟨c,o+k,ab⟩:=by unfold Addr.add;split<;>simp_all
theorem fC{w:World}{c:Nat}{us:List Value}(h:rowAt w c us)(i:Nat):w.cell? ⟨c,i,ab⟩=us[i]?:=by
 obtain⟨e,b,h,_⟩:=h;simp[World.cell?,h]
theorem Gx{w:World}{c:Nat}{us:List Value}(h:rowAt w c us){i:Nat}(hi:i<us.length):w.frozen? ⟨c,i,ab⟩=ag:=by
 obtain⟨e,d,h,b⟩:=h;have:=b i (Nat.le_of_lt hi);simp only[World.frozen?,h];simp_all
theorem xu(B:SR Q σ X){x:C}{v:Value}(g:CR σ X x v){cs:List C}(h:aA X.H x=aa cs) :
  ∃c o us,v=.pointer (aa ⟨c,o,ab⟩)/\(∀(i:Nat) u,us[i]?=aa u->X.w.cell? ⟨c,o+i,ab⟩=aa u)/\A2 (CR σ X) cs us:=by
 cases x with
 |ptr b d H=>
  obtain⟨L,A,g⟩:=g;obtain⟨_,_,cP,y,l⟩:=B.br b L A;simp only[aA,y]at h;rw[y]at g;cases cP with
  |box cs' fl=>
   simp only[AT]at h;subst h;subst g;obtain⟨us,m,q,_⟩:=l;exact⟨L.c,d,us.drop d,rfl,λi u j=>by rw[fC m];rw[ahk]at j;exact j,q.drop d⟩
  |dj s cs' fl e st=>
   cases st<;>simp only at h g
   .split at h
    .rename_i E;simp only[AT]at h;subst h;obtain⟨_,g,_⟩:=g;have g:=g E;subst g;obtain⟨_,us,rest,m,q,_⟩:=l;refine⟨L.c,d,us.drop d,rfl,λi u j=>?_,q.drop d⟩;rw[fC m];rw[ahk]at j
     grind
    .simp_all
   all_goals exact g.elim
  |_=>simp at h
 |f x=>
  cases x with
  |fp cs' d=>
   simp only[aA,AT]at h;subst h;cases g with
   |fp _ _ c o us F I J m=>
    refine⟨c,o+d,us.drop d,rfl,λi u j=>?_,A2.map ⟨by simp[F],λi x u z j=>?_⟩⟩
    .grind
    .rw[ahk]at z j;exact m _ x u z j
  |_=>simp[aA]at h
 |_=>simp[aA]at h
theorem E8{t:TypeId}{n:Option Nat}(y:yZ Q t n=ae){c o:Nat}{us:List Value}{cs:List C}{w:World}
  (q:∀(i:Nat) u,us[i]?=aa u->w.cell? ⟨c,o+i,ab⟩=aa u) (d:A2 (CR σ X) cs us) {v:V} (b:aW n cs=aa v) :
  ∃u,(loadVar t ⟨c,o,ab⟩).run Q w=.ok u w/\VR σ X v u:=by
 obtain⟨l,m⟩:=I8 y w;cases n with
 |none=>
  cases cs with
  |nil=>simp[aW]at b
  |cons x cs=>
   simp only[aW,AT]at b;subst b;obtain⟨u,z,g⟩:=d.get (i:=0) (x:=x) rfl;have:=q 0 u z;simp only[Nat.add_zero]at this;exact⟨u,by simp[loadVar,l,this],g⟩
 |some n=>
  simp only[aW]at b;split at b
  .rename_i B;simp only[AT]at b;subst b;have s:(us.take n).length=n:=by have:=d.len;simp;omega
   have:=run_loadCells_list (P:=Q) w ⟨c,o,ab⟩ (us.take n) (λj v A=>by
    rw[fK]
    grind)
   rw[s]at this;refine⟨.agg (us.take n).toArray,?_,⟨us.take n,rfl,d.take n⟩⟩;simp[loadVar,l,dS (m n rfl),this]
  .simp at b
theorem Y4(q:SR Q σ X){t:TypeId}{n:Option Nat}(s:yZ Q t n=ae){x:V}{p:Value}(y:VR σ X x p){v:V}(h:aV X.H n x=aa v) :
  ∃u,(Instr.loadAt t p).run Q X.w=.ok u X.w/\VR σ X v u:=by
 cases x with
 |c x=>
  simp only[aV,agR]at h;obtain⟨cs,b,d⟩:=h;obtain⟨c,o,us,rfl,g,j⟩:=xu q y b;obtain⟨u,l,m⟩:=E8 s g j d;exact⟨u,by simp[Instr.loadAt,Instr.sureAddr,l],m⟩
 |_=>simp[aV]at h
end
section
variable{Q:Program}{σ:Nat->FuncId}{X:Wd}
theorem VR.int{k:IntKind}{n:Int}{u:Value}(h:VR σ X (.c (.f (.int k n))) u):u=.int k n:=by cases (h:dC σ X.F X.w (.int k n) u);rfl
theorem VR.bool{b:Bool}{u:Value}(h:VR σ X (.c (.f (.bool b))) u):u=.bool b:=by cases (h:dC σ X.F X.w (.bool b) u);rfl
theorem VR.str{s:ByteArray}{u:Value}(h:VR σ X (.c (.f (.str s))) u):u=.string s:=by cases (h:dC σ X.F X.w (.str s) u);rfl
theorem VR.mkInt(k:IntKind)(n:Int):VR σ X (V.int k n) (.int k n):=dC.int k n
theorem VR.xW(b:Bool):VR σ X (V.bool b) (.bool b):=dC.bool b
theorem VR.mkStr(s:ByteArray):VR σ X (.c (.f (.str s))) (.string s):=dC.str s
theorem gn{α β:Type}{f:α->β->Bool}:∀{xs:List α} {ys:List β},iy f xs ys=ae->A2 (λx y=>f x y=ae) xs ys
 |[],[],_=>A2.nil
 |x::xs,y::ys,h=>by
  simp only[iy,IS]at h;exact A2.cons h.1 (gn h.2)
 |[],_::_,h=>by simp[iy]at h
 |_::_,[],h=>by simp[iy]at h
theorem GZ{F:Nat->Nat->Prop}{w:World}{x:FC}{u:Value}(h:mK1 x u=ae):dC σ F w x u:=by
 unfold mK1 at h;split at h
 .simp only[beq_iff_eq]at h;subst h;exact .bool _
 .simp only[IS,decide_eq_true_eq]at h;obtain⟨rfl,rfl⟩:=h;exact .int _ _
 .simp only[decide_eq_true_eq]at h;subst h;exact .str _
 .exact .ye
 .exact .aJ
 .exact .vX
 .exact .rQ
 .exact .zy
 .simp at h
theorem acI{x:V}{u:Value}(h:mK x u=ae):VR σ X x u:=by
 unfold mK at h;split at h
 .exact GZ h
 .refine⟨_,bv,(gn h).nZ λy w b=>?_⟩;split at b
  .exact GZ b
  .simp at b
 .trivial
 .simp at h
theorem cK{a:Act}{aN:T}(b:RR σ X aN a.tmps){x:Arg}{y:Operand}(h:mA σ x y=ae):VR σ X (x.ev aN) (a.eval y):=by
 unfold mA at h;split at h
 .rename_i p t;simp only[beq_iff_eq]at h;subst h;exact b p
 .exact acI h
 .simp only[beq_iff_eq]at h;subst h;exact dC.fn _ [] [] rfl bv
 .simp at h
theorem pM{a:Act}{aN:T}(j:RR σ X aN a.tmps){xs:List Arg}{ys:Array Operand}(h:SC σ xs ys=ae):A2 (VR σ X) (fm aN xs) (ys.map a.eval).toList:=by
 have:=(gn h).nZ λx y b=>cK j b;refine⟨by simpa[fm]using this.len,λi v u g d=>?_⟩;simp only[fm,ahp,IT]at g;simp only[Array.toList_map,ahp,IT]at d;obtain⟨x,l,rfl⟩:=g;obtain⟨y,m,rfl⟩:=d;exact this.2 i x y l m
theorem acJ{a:Act}{aN:T}(g:RR σ X aN a.tmps){x:Option Arg}{y:Option Operand}(h:mO σ x y=ae) :
  (x=ab/\y=ab)\/∃b d,x=aa b/\y=aa d/\VR σ X (b.ev aN) (a.eval d):=by
 unfold mO at h;split at h
 .simp
 .exact .inr ⟨_,_,rfl,rfl,cK g h⟩
 .simp at h
theorem Ti{op:BinOp}{k:IntKind}{x y:Int}{v:V}(h:sF op k x y=aa v)(w:World) :
  ∃u,(binOp op 0 (.int k x) (.int k y)).run Q w=.ok u w/\VR σ X v u/\∀t,binOp op t (.int k x) (.int k y)=binOp op 0 (.int k x) (.int k y):=by
 unfold sF at h;split at h<;>(try split at h)<;>(try simp only[AT,reduceCtorEq]at h)<;>(try subst h)
 all_goals first
  |(refine⟨_,?_,VR.mkInt _ _,λ_=>by simp[binOp]⟩;simp[binOp,Op.intArith,Op.intBits];done)
  |(refine⟨_,?_,VR.xW _,λ_=>by simp[binOp]⟩;simp[binOp,Op.intCmp];done)
  |(rename_i b;refine⟨_,?_,VR.mkInt _ _,λ_=>by simp[binOp]⟩;simp[binOp,Op.intDiv,b];done)
theorem Tj{op:BinOp}{x y:ByteArray}{v:V}(h:Yt op x y=aa v)(w:World)(t:TypeId) :
  ∃u,(binOp op t (.string x) (.string y)).run Q w=.ok u w/\VR σ X v u:=by
 unfold Yt at h;split at h<;>(try split at h)<;>(try simp only[AT,reduceCtorEq]at h)<;>(try subst h)
 all_goals first
  |exact⟨_,by simp[binOp,Op.stringOp],VR.xW _⟩
  |(rename_i b;exact⟨_,by simp only[binOp,Op.stringOp];rw[ct b];rfl,VR.mkStr _⟩)
  |skip
end
section
variable{Q:Program}{σ:Nat->FuncId}{X:Wd}
theorem wE:∀{d:List CK} {xs ys:List C} {b:Bool},vw d xs ys=aa b->xs.length=d.length/\ys.length=d.length
 |[],[],[],_,_=>⟨rfl,rfl⟩
 |k::d,x::xs,y::ys,b,h=>by
  simp only[vw]at h;split at h
  .rename_i g;have:=wE g;simp[this]
  .simp at h
 |[],_::_,_,_,h=>by simp[vw]at h
 |[],[],_::_,_,h=>by simp[vw]at h
 |_::_,[],_,_,h=>by simp[vw]at h
 |_::_,_::_,[],_,h=>by simp[vw]at h
theorem xE:∀{d g:List CK} {xs ys:List C} {b:Bool},vw (d++g) xs ys=aa b->
  ∃b1 j,vw d (xs.take d.length) (ys.take d.length)=aa b1/\vw g (xs.drop d.length) (ys.drop d.length)=aa j/\b=(b1&&j)
 |[],g,xs,ys,b,h=>⟨ae,b,rfl,by simpa using h,bv⟩
 |k::d,g,[],ys,b,h=>by simp[vw]at h
 |k::d,g,x::xs,[],b,h=>by simp[vw]at h
 |k::d,g,x::xs,y::ys,b,h=>by
  simp only[List.cons_append,vw]at h;split at h
  .rename_i a c q s;simp only[AT]at h;obtain⟨b1,j,l,m,rfl⟩:=xE s;refine⟨a&&b1,j,?_,by simpa using m,by rw[<-h,Bool.and_assoc]⟩;simp[vw,q,l]
  .simp at h
def CKv:CK->Value->Value->Bool->Prop
 | .bool,u,v,b=>∃p q,u=.bool p/\v=.bool q/\b=(p == q)| .int,u,v,b=>∃j p q,u=.int j p/\v=.int j q/\b=(p == q)| .str,u,v,b=>∃p q,u=.string p/\v=.string q/\b=(p == q)
theorem wF{k:CK}{x y:C}{b:Bool}(h:QA k x y=aa b){u v:Value}(d:CR σ X x u)(g:CR σ X y v):CKv k u v b:=by
 unfold QA at h;split at h
 .simp only[AT]at h;exact⟨_,_,VR.bool (σ:=σ) (X:=X) d,VR.bool (σ:=σ) (X:=X) g,h.symm⟩
 .split at h
  .rename_i j;subst j;simp only[AT]at h;exact⟨_,_,_,VR.int (σ:=σ) (X:=X) d,VR.int (σ:=σ) (X:=X) g,h.symm⟩
  .simp at h
 .simp only[AT]at h;exact⟨_,_,VR.str (σ:=σ) (X:=X) d,VR.str (σ:=σ) (X:=X) g,h.symm⟩
 .simp at h
theorem EI:∀(d:Nat) (t:TypeId) (W:List CK),jX Q d t=aa W->∀(D:Nat),d<=D->∀(us Z:List Value) (g:Nat) (xs ys:List C) (b:Bool) (w:World),
  vw W xs ys=aa b->A2 (CR σ X) xs ((us.drop g).take W.length)->A2 (CR σ X) ys ((Z.drop g).take W.length)->
  ∃a c,(part t us.toArray g).run Q w=.ok a w/\(part t Z.toArray g).run Q w=.ok c w/\(Op.equalIn D t a c).run Q w=.ok b w
 |0,_,_,h,_,_,_,_,_,_,_,_,_,_,_,_=>by simp[jX]at h
 |d+1,t,W,h,0,hD,_,_,_,_,_,_,_,_,_,_=>by omega
 |d+1,t,W,h,D+1,hD,us,Z,g,xs,ys,b,w,U,hx,hy=>by
  have hl:=wE U;have s:∀(k:CK),W=[k]->(∀J,Q.underlying t=aa J->(match J with| .struct _| .array _ _=>False|_=>True))->(∃J,Q.underlying t=aa J)->
    ∃x y u v,xs=[x]/\ys=[y]/\QA k x y=aa b/\CR σ X x u/\CR σ X y v/\(part t us.toArray g).run Q w=.ok u w/\(part t Z.toArray g).run Q w=.ok v w:=by
   intro k F b_ m;subst F;obtain⟨J,m⟩:=m;have b_:=b_ J m
   match xs,ys,hl with
   |[x],[y],_=>
    simp only[vw]at U;split at U
    .rename_i a c ha hc;simp only[AT]at hc U;subst hc;simp at U;subst U;obtain⟨u,h_,i6⟩:=hx.get (i:=0) (x:=x) rfl;obtain⟨v,i7,i8⟩:=hy.get (i:=0) (x:=y) rfl;have e1:us[g]?=aa u:=by simpa[List.getElem?_take,ahk]using h_
     have e2:Z[g]?=aa v:=by simpa[List.getElem?_take,ahk]using i7
     have a_:(isAgg t).run Q w=.ok ag w:=by
      cases J<;>simp_all [isAgg,bI m]
     exact⟨x,y,u,v,rfl,rfl,ha,i6,i8,by simp[part,a_,e1],by simp[part,a_,e2]⟩
    .simp_all
  unfold jX at h;split at h
  .rename_i m;split at h
   .simp only[AT]at h;obtain⟨x,y,u,v,rfl,rfl,E,h1,h2,N,h4⟩:=s .bool h.symm (λJ z=>by rw[m]at z;cases z;trivial) ⟨_,m⟩;obtain⟨p,q,rfl,rfl,rfl⟩:=wF E h1 h2;exact⟨_,_,N,h4,run_equalIn_bool' w D t _ _ m⟩
   .simp at h
  .rename_i j m;split at h
   .simp only[AT]at h;obtain⟨x,y,u,v,rfl,rfl,E,h1,h2,N,h4⟩:=s .int h.symm (λJ z=>by rw[m]at z;cases z;trivial) ⟨_,m⟩;obtain⟨j',p,q,rfl,rfl,rfl⟩:=wF E h1 h2;exact⟨_,_,N,h4,run_equalIn_int w D t _ _ _ _ m⟩
   .simp at h
  .rename_i m;split at h
   .simp only[AT]at h;obtain⟨x,y,u,v,rfl,rfl,E,h1,h2,N,h4⟩:=s .str h.symm (λJ z=>by rw[m]at z;cases z;trivial) ⟨_,m⟩;obtain⟨p,q,rfl,rfl,rfl⟩:=wF E h1 h2;exact⟨_,_,N,h4,by rw[run_equalIn_string w D t _ _ m,beq_toListBytes]⟩
   .simp at h
  .rename_i fs m;split at h
   .simp at h
   .rename_i g_;split at h
    .rename_i Y hf;split at h
     .rename_i c9;simp only[AT]at h;subst h;have M:(isAgg t).run Q w=.ok ae w:=by simp[isAgg,bI m]
      have S:Q.underlying t=aa (.struct (Q.fieldsOf t)):=by simp[Program.fieldsOf,m]
      have f_:Q.fieldsOf t=fs:=by rw[m]at S;simpa using S.symm
      refine⟨.agg ((us.drop g).take Y.length).toArray,.agg ((Z.drop g).take Y.length).toArray,?_,?_,?_⟩
      .simp[part,M,dS c9,ahY]
      .simp[part,M,dS c9,ahY]
      .rw[run_equalIn_struct w D t _ _ S (by simpa using g_),f_];have key:∀(l:List Field) (k:Nat) (K:List CK) (b2:Bool),jX.sQ (jX Q d) k l=aa K->∀(A B:List Value) (H I:List C),
         vw K (H.drop k) (I.drop k)=aa b2->A2 (CR σ X) H A->A2 (CR σ X) I B->(Op.eqFields D A.toArray B.toArray l).run Q w=.ok b2 w:=by
        intro l;induction l with
        |nil=>
         intro k K b2 F A B H I E _ _;simp only[jX.sQ,AT]at F;subst F;have:=wE E;simp only[List.length_nil,List.length_eq_zero_iff]at this;rw[this.1,this.2]at E;simp only[vw,AT]at E;subst E;rfl
        |cons f l ih=>
         intro k K b2 F A B H I E c_ d9;simp only[jX.sQ]at F;split at F
         .rename_i O;obtain⟨hn,ho⟩:=O;subst ho;split at F
          .rename_i L N;split at F
           .rename_i r hr;simp only[AT]at F;subst F;obtain⟨b1,b3,d_,e_,rfl⟩:=xE E;obtain⟨a,c,h5,h6,h7⟩:=EI d f.type L N D ap A B f.offset _ _ b1 w d_ (by have:=(c_.drop f.offset).take L.length;simpa using this) (by have:=(d9.drop f.offset).take L.length;simpa using this);have i9:=ih (f.offset+L.length) r b3 hr A B H I (by simpa[List.drop_drop]using e_) c_ d9;simp only[Op.eqFields,hn,ne_eq,not_false_eq_true,if_true,Sem.run_bind,h5,h6,h7,Result.andThen_ok];cases b1<;>simp[i9]
           .simp_all
          .simp_all
         .simp_all
       exact key fs.toList 0 Y b hf _ _ xs ys (by simpa using U) hx hy
     .simp_all
    .simp_all
  .simp at h
def aey:MX->Value->Bool->Prop
 | .ptr,u,b=>∃a,u=.pointer a/\b=a.isNone| .sl,u,b=>∃a n c,u=.slice a n c/\b=a.isNone| .fn,u,b=>(u=.nilFunc/\b=ae)\/∃f p q,u=.func f p q/\b=ag| .Z5,u,b=>u=.nilIface/\b=ae| _,_,_=>False
theorem sX{k:MX}{x:C}{u:Value}(d:CR σ X x u){b:Bool}(h:isNil X.H k x=aa b):aey k u b:=by
 unfold isNil at h;split at h<;>try simp only[AT,reduceCtorEq]at h
 .cases (d:dC σ X.F X.w .ye u);subst h;exact⟨_,rfl,rfl⟩
 .cases (d:dC σ X.F X.w (.fp _ _) u);subst h;exact⟨_,rfl,rfl⟩
 .obtain⟨L,_,d⟩:=d;subst h;split at d
  .subst d;exact⟨_,rfl,rfl⟩
  .obtain⟨_,_,a,rfl⟩:=d;exact⟨_,rfl,rfl⟩
  .simp_all
 .cases (d:dC σ X.F X.w .aJ u);subst h;exact⟨_,_,_,rfl,rfl⟩
 .cases (d:dC σ X.F X.w .es u);subst h;exact⟨_,_,_,rfl,rfl⟩
 .cases (d:dC σ X.F X.w (.fs _ _) u)<;>(subst h;exact⟨_,_,_,rfl,rfl⟩)
 .rename_i m o l c q sz;simp only[CR,iL]at d;split at h
  .rename_i g;rw[g]at d;obtain⟨L,_,_,rfl⟩:=d;simp only[AT]at h;subst h;exact⟨_,_,_,rfl,rfl⟩
  .rename_i s cs fl e st g;rw[g]at d;split at h
   .rename_i j;have:=d.2.1 j.1 j.2;simp only[AT]at h;subst h;cases st with
    |loc=>obtain⟨L,_,k,_,_,rfl⟩:=this;exact⟨_,_,_,rfl,rfl⟩
    |nil=>obtain⟨_,_,rfl⟩:=this;exact⟨_,_,_,rfl,rfl⟩
    |es=>obtain⟨_,_,a,rfl⟩:=this;exact⟨_,_,_,rfl,rfl⟩
   .simp at h
  .simp at h
 .cases (d:dC σ X.F X.w .vX u);subst h;exact .inl ⟨rfl,rfl⟩
 .cases (d:dC σ X.F X.w (.fn _ _) u);subst h;exact .inr ⟨_,_,_,rfl,rfl⟩
 .obtain⟨us,rfl,_⟩:=d;subst h;exact .inr ⟨_,_,_,rfl,rfl⟩
 .obtain⟨us,rfl,_⟩:=d;subst h;exact .inr ⟨_,_,_,rfl,rfl⟩
 .cases (d:dC σ X.F X.w .rQ u);subst h;exact⟨rfl,rfl⟩
theorem EH{d:Nat}{t:TypeId}{b:List CK}(h:jX Q d t=aa b):eB Q t b.length=ae:=by
 cases d with
 |zero=>simp[jX]at h
 |succ d=>
  unfold jX at h
  grind
theorem Qz{t e:TypeId}(b:Q.underlying t=aa (.pointer e))(D:Nat)(a:Option Addr)(w:World):(Op.equalIn (D+1) t (.pointer a) (.pointer ab)).run Q w=.ok a.isNone w:=by
 cases a<;>simp[Op.equalIn,bI b]
theorem TH{t e:TypeId}(b:Q.underlying t=aa (.slice e))(D:Nat)(a:Option Addr)(n c:Nat)(w:World):(Op.equalIn (D+1) t (.slice a n c) (.slice ab 0 0)).run Q w=.ok a.isNone w:=by
 cases a<;>simp[Op.equalIn,bI b]
theorem TF{t:TypeId}{p r:Array TypeId}{v:Bool}(b:Q.underlying t=aa (.func p r v))(D:Nat)(w:World):(Op.equalIn (D+1) t .nilFunc .nilFunc).run Q w=.ok ae w:=by
 simp[Op.equalIn,bI b]
theorem TE{t:TypeId}{p r:Array TypeId}{v:Bool}(b:Q.underlying t=aa (.func p r v))(D:Nat)(f:Fn)(x y:Array Value)(w:World):(Op.equalIn (D+1) t (.func f x y) .nilFunc).run Q w=.ok ag w:=by
 simp[Op.equalIn,bI b]
theorem TG{t:TypeId}{d:Array (String × TypeId)}(b:Q.underlying t=aa (.interface d))(D:Nat)(w:World):(Op.equalIn (D+1) t .nilIface .nilIface).run Q w=.ok ae w:=by
 simp[Op.equalIn,bI b]
theorem LN{t:TypeId}{x y:Operand}(b:(vD x||vD y)=ae)(op:BinOp)(w:World):(eqGuard op t x y .nilIface .nilIface).run Q w=.ok () w:=by
 simp only[Bool.or_eq_true]at b;rcases b with b|b
 .cases x<;>simp only[vD,agH]at b;cases op<;>rfl
 .cases y<;>simp only[vD,agH]at b;cases x<;>cases op<;>rfl
theorem YJ{k:MX}{t:TypeId}{x y:Operand}(v:mEq Q k t x y=ae){L M:V}{l d:Value}(s:VR σ X L l)(u:VR σ X M d){b:Bool}
  (h:MZ X.H k L M=aa b) (neg:Bool) (w:World) :
  (do eqGuard (if neg then .neq else .eql) t x y l d;binOp (if neg then .neq else .eql) t l d).run Q w=.ok (.bool (if neg then !b else b)) w:=by
 have g:(binOp .eql t l d=do pure (.bool (<-Op.equal t l d)))->(binOp .neq t l d=do pure (.bool (!(<-Op.equal t l d))))->
   (∀op,(eqGuard op t x y l d).run Q w=.ok () w)->(Op.equalIn 10000 t l d).run Q w=.ok b w->
   (do eqGuard (if neg then .neq else .eql) t x y l d;binOp (if neg then .neq else .eql) t l d).run Q w=.ok (.bool (if neg then !b else b)) w:=by
  intro B E z N;cases neg
  .simp only[agH,if_false,Sem.run_bind,z,Result.andThen_ok,B,Op.equal,Op.maxDepth,N,Sem.run_pure]
  .simp only[if_true,Sem.run_bind,z,Result.andThen_ok,E,Op.equal,Op.maxDepth,N,Sem.run_pure]
 unfold mEq at v;unfold MZ at h;split at v
 .rename_i j;split at h<;>try simp only[reduceCtorEq]at *
  obtain⟨p,q,rfl,rfl,rfl⟩:=wF h s u;exact g rfl rfl (λop=>by cases op<;>rfl) (run_equalIn_bool' w 9999 t _ _ j)
 .rename_i j;split at h<;>try simp only[reduceCtorEq]at *
  obtain⟨a,rfl,rfl⟩:=sX s h;cases (u:dC σ X.F X.w .ye d);exact g rfl rfl (λop=>by cases op<;>rfl) (Qz j 9999 a w)
 .rename_i j;split at h<;>try simp only[reduceCtorEq]at *
  obtain⟨a,n,c,rfl,rfl⟩:=sX s h;cases (u:dC σ X.F X.w .aJ d);exact g rfl rfl (λop=>by cases op<;>rfl) (TH j 9999 a n c w)
 .rename_i j;split at h<;>try simp only[reduceCtorEq]at *
  cases (u:dC σ X.F X.w .vX d);rcases sX s h with⟨rfl,rfl⟩|⟨f,p,q,rfl,rfl⟩
  .exact g rfl rfl (λop=>by cases op<;>rfl) (TF j 9999 w)
  .exact g rfl rfl (λop=>by cases op<;>rfl) (TE j 9999 f p q w)
 .rename_i j;split at h<;>try simp only[reduceCtorEq]at *
  cases (u:dC σ X.F X.w .rQ d);obtain⟨rfl,rfl⟩:=sX s h;refine g rfl rfl (λop=>?_) ?_
  .have K:(vD x||vD y)=ae:=v;exact LN K op w
  .exact TG j 9999 w
 .rename_i e F j;obtain⟨xs,ys,rfl,rfl,h⟩:∃xs ys,L=.a xs/\M=.a ys/\vw F xs ys=aa b:=by
   grind
  simp only[IS,decide_eq_true_eq,Bool.not_eq_true']at v;obtain⟨W,U⟩:=v;obtain⟨us,rfl,O⟩:=s;obtain⟨H,rfl,S⟩:=u;have i:=wE h;have A:=EH W;have m:(isAgg t).run Q w=.ok ae w:=by simp[isAgg,bI j]
  have Y:us.take F.length=us:=agw (by have:=O.len;omega);have Z:H.take F.length=H:=agw (by have:=S.len;omega);obtain⟨a,c,B,E,z⟩:=EI 20 t F W 10000 ap us H 0 _ _ b w h (by simpa[Y]using O) (by simpa[Z]using S);have I:a=.agg us.toArray:=by
   simp[part,m,dS A,ahY,Y]at B;exact B.symm
  have J:c=.agg H.toArray:=by
   simp[part,m,dS A,ahY,Z]at E;exact E.symm
  subst I;subst J;cases neg
  .simp only[agH,if_false,Sem.run_bind,run_eqGuard_agg w _ t x y _ _ U,Result.andThen_ok,run_eql_struct,z]
  .simp only[if_true,Sem.run_bind,run_eqGuard_agg w _ t x y _ _ U,Result.andThen_ok,run_neq_struct,z]
 .simp at v
end
section
variable{Q:Program}{σ:Nat->FuncId}{X:Wd}
theorem lI{x:V}{u:Value}(h:VR σ X x u){i:Int}(hi:fG x=aa i):∃k,u=.int k i:=by
 unfold fG at hi;split at hi
 .simp only[AT]at hi;subst hi;exact⟨_,VR.int h⟩
 .simp at hi
theorem uA{x:V}{u:Value}(h:VR σ X x u){y i:Nat}(b:Dx x y=aa i){g:Nat}(q:y<=g)(d:BoundsCode)(w:World) :
  i<=y/\(Instr.sliceBound u g d).run Q w=.ok i w:=by
 unfold Dx at b;split at b
 .rename_i j l;obtain⟨k,rfl⟩:=lI h l;split at b
  .rename_i m;simp only[AT]at b;subst b;refine⟨ap,?_⟩;have:0<=j/\j<=(g:Int):=by omega
   simp[Instr.sliceBound,asIntOf,this]
  .simp at b
 .simp at b
def OR(X:Wd)(σ:Nat->FuncId):Option V->Option Value->Prop
 |none,ab=>True| some x,aa u=>VR σ X x u| _,_=>False
theorem eQ{lo hi mx:Option V}{d j mx':Option Value}(v:OR X σ lo d)(A:OR X σ hi j)(F:OR X σ mx mx'){len c l h m:Nat}
  (b:cz len c lo hi mx=aa (l,h,m)) {cap:Nat} (J:c<=cap) (O:len<=c) (s:Bool) (w:World) :
  (Instr.sliceBounds s len cap d j mx').run Q w=.ok (l,h,if mx.isSome then m else cap) w/\l<=h/\h<=m/\m<=c:=by
 unfold cz at b;cases mx with
 |some z=>
  cases mx'<;>simp only[OR]at F;rename_i U;simp only[aiO,agR]at b;obtain⟨S,M,b⟩:=b;obtain⟨N,E⟩:=uA (Q:=Q) F M J (if s then .slice3Acap else .slice3Alen) w;cases hi with
  |none=>simp at b
  |some y=>
   cases j<;>simp only[OR]at A;simp only[ag8,agR]at b;obtain⟨L,H,b⟩:=b;obtain⟨I,g⟩:=uA (Q:=Q) A H (agn _) .slice3B w;cases lo with
   |none=>
    cases d<;>simp only[OR]at v;simp at b;obtain⟨rfl,rfl,rfl⟩:=b;simp[Instr.sliceBounds,E,g];omega
   |some x=>
    cases d<;>simp only[OR]at v;simp only[agR]at b;obtain⟨K,q,b⟩:=b;obtain⟨B,u⟩:=uA (Q:=Q) v q (agn _) .slice3C w;simp at b;obtain⟨rfl,rfl,rfl⟩:=b;simp[Instr.sliceBounds,E,g,u];omega
 |none=>
  cases mx'<;>simp only[OR]at F;cases hi with
  |none=>
   cases j<;>simp only[OR]at A;cases lo with
   |none=>
    cases d<;>simp only[OR]at v;simp at b;obtain⟨rfl,rfl,rfl⟩:=b;simp[Instr.sliceBounds];omega
   |some x=>
    cases d<;>simp only[OR]at v;simp only[aiO,ag8,agR]at b;obtain⟨K,q,b⟩:=b;obtain⟨B,u⟩:=uA (Q:=Q) v q (agn _) .sliceB w;simp at b;obtain⟨rfl,rfl,rfl⟩:=b;simp[Instr.sliceBounds,u];omega
  |some y=>
   cases j<;>simp only[OR]at A;simp only[aiO,ag8,agR]at b;obtain⟨L,H,b⟩:=b;obtain⟨I,g⟩:=uA (Q:=Q) A H J (if s then .sliceAcap else .sliceAlen) w;cases lo with
   |none=>
    cases d<;>simp only[OR]at v;simp at b;obtain⟨rfl,rfl,rfl⟩:=b;simp[Instr.sliceBounds,g];omega
   |some x=>
    cases d<;>simp only[OR]at v;simp only[agR]at b;obtain⟨K,q,b⟩:=b;obtain⟨B,u⟩:=uA (Q:=Q) v q (agn _) .sliceB w;simp at b;obtain⟨rfl,rfl,rfl⟩:=b;simp[Instr.sliceBounds,g,u];omega
theorem fZ{t e:TypeId}{sz:Nat}(g:Q.underlying t=aa (.slice e))(b:eB Q e sz=ae){a:Option Addr}{len cap:Nat}{lo hi mx:Option Value}{l h m:Nat}{w:World}
  (d:(Instr.sliceBounds ae len cap lo hi mx).run Q w=.ok (l,h,m) w) :
  (Instr.sliceAt t (.slice a len cap) lo hi mx).run Q w=.ok (.slice (if m=l then a else a.map (·.add (l*sz))) (h-l) (m-l)) w:=by
 simp[Instr.sliceAt,Instr.slice,bI g,d,dS b]
theorem Bm(hS:SR Q σ X){t e:TypeId}{sz:Nat}(F:Q.underlying t=aa (.slice e))(g:eB Q e sz=ae){x:V}{u:Value}(K:VR σ X x u)
  {lo hi mx:Option V} {c_ b_ mx':Option Value} (H:OR X σ lo c_) (I:OR X σ hi b_) (J:OR X σ mx mx') {v:V} (h:cu X.H sz x lo hi mx=aa v) :
  ∃r,(Instr.sliceAt t u c_ b_ mx').run Q X.w=.ok r X.w/\VR σ X v r:=by
 unfold cu at h;split at h
 .
  split at h
  .rename_i r y;obtain⟨l,q,m⟩:=r;simp only[AT]at h;subst h;cases (K:dC σ X.F X.w .aJ u);obtain⟨j,N,O,S⟩:=eQ (Q:=Q) H I J y (agn 0) (agn 0) ae X.w;refine⟨_,fZ F g j,?_⟩;have:l=0/\q=0/\m=0:=by omega
   obtain⟨rfl,rfl,rfl⟩:=this;simp;exact dC.aJ
  .simp at h
 .split at h
  .rename_i r y;obtain⟨l,q,m⟩:=r;simp only[AT]at h;subst h;cases (K:dC σ X.F X.w .es u);obtain⟨j,N,O,S⟩:=eQ (Q:=Q) H I J y (agn 0) (agn 0) ae X.w;refine⟨_,fZ F g j,?_⟩;have:l=0/\q=0/\m=0:=by omega
   obtain⟨rfl,rfl,rfl⟩:=this;simp;exact dC.es _
  .simp at h
 .
  rename_i cs n;split at h
  .rename_i l q m y;have f_:(∃(c o cap:Nat) (us:List Value),n<=cap/\us.length=cs.length/\(∀i,i<cs.length->X.F c (o+i))/\(∀(i:Nat) u,us[i]?=aa u->X.w.cell? ⟨c,o+i,ab⟩=aa u)/\
     (∀(i:Nat) x u,cs[i]?=aa x->us[i]?=aa u->dC σ X.F X.w x u)/\u=.slice (aa ⟨c,o,ab⟩) n cap)\/(cs=[]/\n=0/\∃a cap,u=.slice (aa a) 0 cap):=by
    cases (K:dC σ X.F X.w (.fs cs n) u)with
    |fs _ _ c o cap us d hl hF hc hr=>exact .inl ⟨c,o,cap,us,d,hl,hF,hc,hr,rfl⟩| Vn a cap=>exact .inr ⟨rfl,rfl,a,cap,rfl⟩
   rcases f_ with⟨c,o,cap,us,d,hl,hF,hc,hr,rfl⟩|⟨rfl,rfl,a,cap,rfl⟩
   .obtain⟨j,N,O,S⟩:=eQ (Q:=Q) H I J y d (agn n) ae X.w;split at h
    .rename_i A;simp only[AT]at h;subst h;rw[bZ A.1]at j;obtain⟨_,rfl⟩:=A;refine⟨_,fZ F g j,?_⟩;rw[show q-m=0 by omega,show m-m=0 by omega,bZ rfl];exact dC.es _
    .simp only[AT]at h;subst h;refine⟨_,fZ F g j,?_⟩;generalize U:(if mx.isSome=ae then m else cap)=M;have d9:q<=M:=by rw[<-U];split<;>omega
     by_cases B:M=l
     .rw[bZ B,show q-l=0 by omega];simp;exact dC.Vn _ _
     .rw[ct B];simp only[ag1,fK];refine dC.fs _ _ c (o+l*sz) _ ((us.drop (l*sz)).take ((q-l)*sz)) ap (by simp[hl]) (λi hi=>?_) (λi u F=>?_) (λi x u K F=>?_)
      .have:=hF (l*sz+i) (by simp at hi;omega);rwa[show o+(l*sz+i)=o+l*sz+i by omega]at this
      .grind
      .grind
   .obtain⟨j,N,O,S⟩:=eQ (Q:=Q) H I J y (Nat.zero_le cap) (agn 0) ae X.w;have:l=0/\q=0/\m=0:=by omega
    obtain⟨rfl,rfl,rfl⟩:=this;refine⟨_,fZ F g j,?_⟩;split at h
    .rename_i A;simp only[AT]at h;subst h;simp[A.1];exact dC.es _
    .simp only[AT]at h;subst h;have ho:∀M,∃a',(if M=0 then aa a else Option.map (λ(x:Addr)=>x.add (0*sz)) (aa a))=aa a':=by intro M;split<;>exact⟨_,rfl⟩
     obtain⟨a',W⟩:=ho (if mx.isSome=ae then 0 else cap);rw[W];simp;exact dC.Vn _ _
  .simp at h
 .
  rename_i b o n cap ep s;simp only[VR,jO,CR,iL]at K;split at h
  .rename_i z;rw[z]at K;obtain⟨L,hL,d,rfl⟩:=K;split at h
   .rename_i l q m y;obtain⟨j,N,O,S⟩:=eQ (Q:=Q) H I J y (agn cap) d ae X.w;have hm:(if mx.isSome=ae then m else cap)=m:=by
     split
     .rfl
     .rename_i hn;cases mx with
      |some _=>simp at hn| none=>unfold cz at y;cases hi<;>cases lo<;>simp[agR]at y<;>omega
    rw[hm]at j;refine⟨_,fZ F g j,?_⟩;split at h
    .rename_i B;simp only[AT]at h;subst h;rw[bZ B,show q-l=0 by omega,show m-l=0 by omega];exact dC.es _
    .rename_i B;simp only[AT]at h;subst h;rw[ct B];simp only[ag1,fK,VR,jO,CR,iL,z]
     grind
   .simp at h
  .rename_i E cs fl e st z;rw[z]at K;split at h
   .rename_i hc;obtain⟨rfl,rfl,rfl⟩:=hc;have Z:=K.2.1 rfl rfl;cases st with
    |loc=>
     obtain⟨L,hL,k,rfl,hk,rfl⟩:=Z;simp only at h;split at h
     .rename_i l q m y;obtain⟨j,N,O,S⟩:=eQ (Q:=Q) H I J y (show n<=L.cap-k by omega) (agn n) ae X.w;refine⟨_,fZ F g j,?_⟩;generalize U:(if mx.isSome=ae then m else L.cap-k)=M;have d9:q<=M:=by rw[<-U];split<;>omega
      split at h
      .rename_i A;simp only[AT]at h;subst h;rw[bZ A.1]at U;subst U;obtain⟨_,rfl⟩:=A;rw[show q-m=0 by omega,show m-m=0 by omega,bZ rfl];exact dC.es _
      .split at h
       .rename_i A;simp only[AT]at h;subst h;rw[show q-l=0 by omega];have ho:∃a',(if M=l then aa (⟨L.c,k*E,ab⟩:Addr)else Option.map (λ(x:Addr)=>x.add (l*E)) (aa ⟨L.c,k*E,ab⟩))=aa a':=by split<;>exact⟨_,rfl⟩
        obtain⟨a',W⟩:=ho;rw[W];exact dC.Vn _ _
       .rename_i g_;split at h
        .split at h
         .simp only[AT]at h;subst h;simp only[VR,jO,CR,iL,z];simp
         .simp_all
        .rename_i hn;simp only[AT]at h;subst h;rw[ct hn]at U;have Y:(if M=l then aa (⟨L.c,k*E,ab⟩:Addr)else Option.map (λ(x:Addr)=>x.add (l*E)) (aa ⟨L.c,k*E,ab⟩))=aa ⟨L.c,k*E+l*E,ab⟩:=by
          split
          .grind
          .simp[fK]
         rw[Y];simp only[VR,jO,CR,iL,z];refine⟨agn _,λ_ _=>⟨L,hL,k+l,by rw[agS],ap,by rw[<-U];congr 1;omega⟩,_,_,_,rfl⟩
     .
      cases mx with
      |some _=>simp at h
      |none=>
       simp only at h;split at h
       .rename_i l q m y;split at h
        .rename_i e_;simp only[AT]at h;subst h;obtain⟨_,_,cP,a_,d_⟩:=hS.br b L hL;rw[z]at a_;cases a_;obtain⟨-,us,rest,-,hA,c9,i6,-,-⟩:=d_;have h_:cs.length<=L.cap*E:=by rw[<-c9,aft,<-hA.1];omega
         have d:(cs.length-k*E) / E<=L.cap-k:=by
          refine Nat.div_le_of_le_mul ?_;rw[Nat.mul_sub,Nat.mul_comm E L.cap,Nat.mul_comm E k];omega
         obtain⟨j,N,O,S⟩:=eQ (Q:=Q) H I J y d e_.1 ae X.w;refine⟨_,fZ F g j,?_⟩;simp only[Option.isSome_none,agH,if_false,ag1,fK];rw[ct ap];simp only[VR,jO,CR,iL,z]
         grind
        .simp_all
       .simp_all
    |nil=>
     obtain⟨rfl,rfl,rfl⟩:=Z;simp only at h;split at h
     .rename_i r y;obtain⟨l,q,m⟩:=r;simp only[AT]at h;subst h;obtain⟨j,N,O,S⟩:=eQ (Q:=Q) H I J y (agn 0) (agn 0) ae X.w;refine⟨_,fZ F g j,?_⟩;have:l=0/\q=0/\m=0:=by omega
      obtain⟨rfl,rfl,rfl⟩:=this;simp;exact dC.aJ
     .simp_all
    |es=>
     obtain⟨rfl,rfl,a,rfl⟩:=Z;simp only at h;split at h
     .rename_i r y;obtain⟨l,q,m⟩:=r;simp only[AT]at h;subst h;obtain⟨j,N,O,S⟩:=eQ (Q:=Q) H I J y (agn 0) (agn 0) ae X.w;refine⟨_,fZ F g j,?_⟩;have:l=0/\q=0/\m=0:=by omega
      obtain⟨rfl,rfl,rfl⟩:=this;simp;exact dC.es _
     .simp_all
   .simp at h
  .simp at h
 .simp at h
end
section
variable{Q:Program}{σ:Nat->FuncId}{X:Wd}
theorem MN{t:TypeId}(A:Q.underlying t=aa .string){x:V}{u:Value}(B:VR σ X x u){lo hi:Option V}{d b:Option Value}(g:OR X σ lo d)(j:OR X σ hi b)
  {v:V} (h:CO x lo hi=aa v) (w:World):∃r,(Instr.sliceAt t u d b ab).run Q w=.ok r w/\VR σ X v r:=by
 unfold CO at h;split at h
 .rename_i s;have:=VR.str B;subst this;split at h
  .rename_i l z m y;simp only[AT]at h;subst h;obtain⟨q,_⟩:=eQ (Q:=Q) (mx:=ab) (mx':=ab) g j trivial y (agn _) (agn _) ag w;exact⟨.string (s.extract l z),by simp[Instr.sliceAt,Instr.slice,bI A,q],VR.mkStr _⟩
  .simp at h
 .simp at h
theorem ML(Z:SR Q σ X){t e:TypeId}{n sz:Nat}(F:Q.underlying t=aa (.array n e))(E:eB Q e sz=ae){x:V}{u:Value}(z:VR σ X x u)
  {lo hi mx:Option V} {y s mx':Option Value} (H:OR X σ lo y) (I:OR X σ hi s) (J:OR X σ mx mx') {v:V} (h:pY X.H n sz x lo hi mx=aa v) :
  ∃r,(Instr.sliceAt t u y s mx').run Q X.w=.ok r X.w/\VR σ X v r:=by
 have run:∀(a:Addr) l j m,(Instr.sliceBounds ag n n y s mx').run Q X.w=.ok (l,j,m) X.w->
   (Instr.sliceAt t (.pointer (aa a)) y s mx').run Q X.w=.ok (.slice (aa (if m=l then a else a.add (l*sz))) (j-l) (m-l)) X.w:=by
  intro a l j m q;simp[Instr.sliceAt,bI F,Instr.sureAddr,q,dS E]
 have mm:∀{l j m:Nat},cz n n lo hi mx=aa (l,j,m)->(if mx.isSome=ae then m else n)=m:=by
  intro l j m q;split
  .rfl
  .rename_i U;cases mx with
   |some _=>simp at U| none=>unfold cz at q;cases hi<;>cases lo<;>simp[agR]at q<;>omega
 unfold pY at h;split at h
 .rename_i b g W;obtain⟨L,Y,z⟩:=z;split at h
  .rename_i cs fl B;rw[B]at z;simp only at z;subst z;split at h
   .rename_i l j m q;obtain⟨A,K,M,N⟩:=eQ (Q:=Q) H I J q (agn n) (agn n) ag X.w;rw[mm q]at A;split at h
    .refine⟨_,run _ _ _ _ A,?_⟩;split at h
     .rename_i d;simp only[AT]at h;subst h;rw[bZ d,show j-l=0 by omega,show m-l=0 by omega];exact dC.es _
     .rename_i d;simp only[AT]at h;subst h;rw[ct d];simp only[fK,VR,jO,CR,iL,B]
      grind
    .simp_all
   .simp at h
  .simp at h
 .rename_i cs g;cases (z:dC σ X.F X.w (.fp cs g) u)with
  |fp _ _ c o us S O hc hr=>
   split at h
   .rename_i l j m q;obtain⟨A,K,M,N⟩:=eQ (Q:=Q) H I J q (agn n) (agn n) ag X.w;rw[mm q]at A;split at h
    .refine⟨_,run _ _ _ _ A,?_⟩;split at h
     .rename_i d;simp only[AT]at h;subst h;rw[bZ d,show j-l=0 by omega,show m-l=0 by omega];exact dC.es _
     .rename_i d;simp only[AT]at h;subst h;rw[ct d,fK];refine dC.fs _ _ c (o+g+l*sz) _ ((us.drop (g+l*sz)).take ((j-l)*sz)) ap (by simp[S]) (λi hi=>?_) (λi u F=>?_) (λi x u z F=>?_)
      .have:=O (g+l*sz+i) (by simp at hi;omega);rwa[show o+(g+l*sz+i)=o+g+l*sz+i by omega]at this
      .grind
      .grind
    .simp_all
   .simp at h
 .simp at h
theorem Gw{t:TypeId}{l:Array Field}(I:Q.underlying t=aa (.struct l)){i:Nat}{f:Field}(E:l[i]?=aa f)(j:(Q.info? f.type).any (λi=>i.size != 0)=ae)
  {x:V} {u:Value} (g:VR σ X x u) {v:V} (h:qA f.offset x=aa v) (w:World):∃r,(Instr.fieldAt t u i).run Q w=.ok r w/\VR σ X v r:=by
 have run:∀a:Addr,(Instr.fieldAt t (.pointer (aa a)) i).run Q w=.ok (.pointer (aa (a.add f.offset))) w:=by
  intro a;cases hi:Q.info? f.type with
  |none=>simp[hi]at j
  |some J=>
   simp[hi]at j;simp[Instr.fieldAt,bI I,E,Instr.sureAddr,fieldPlace,Go.sizeOf,typeInfo,hi,j]
 unfold qA at h;split at h
 .rename_i b o K;simp only[AT]at h;subst h;obtain⟨L,m,g⟩:=g;split at g
  .rename_i d;subst g;exact⟨_,run _,L,m,by rw[d,fK]⟩
  .rename_i s cs fl e d;obtain⟨q,y,a,rfl⟩:=g;refine⟨_,run _,L,m,?_⟩;rw[d];refine⟨q,λB=>?_,_,rfl⟩;have:=y B;simp only[Value.pointer.injEq,AT]at this;rw[this,fK]
  .simp_all
 .rename_i cs o;simp only[AT]at h;subst h;cases (g:dC σ X.F X.w (.fp cs o) u)with
  |fp _ _ c o' us F z A H=>
   refine⟨_,run _,?_⟩;rw[fK,Nat.add_assoc];exact dC.fp cs _ c o' us F z A H
 .simp at h
theorem GC{t e:TypeId}{sz:Nat}{q:Option Nat}(I:eB Q e sz=ae)
  (F:(q=ab/\Q.underlying t=aa (.slice e))\/∃n,q=aa n/\Q.underlying t=aa (.array n e)) {x i:V} {u j:Value} (m:VR σ X x u) (hi:VR σ X i j)
  {v:V} (h:bG X.H sz q x i=aa v):∃r,(Instr.indexAt t u j).run Q X.w=.ok r X.w/\VR σ X v r:=by
 unfold bG at h;split at h
 .simp at h
 rename_i k hk;obtain⟨S,rfl⟩:=lI hi hk;split at h
 .rename_i M;have z:q=ab->∀(a:Addr) (l c:Nat),k<l->(Instr.indexAt t (.slice (aa a) l c) (.int S k)).run Q X.w=.ok (.pointer (aa (a.add (k.toNat*sz)))) X.w:=by
   intro N a l c g;rcases F with⟨_,F⟩|⟨n,H,_⟩
   .simp[Instr.indexAt,asIntOf,bI F,M,g,dS I]
   .simp_all
  have y:∀n,q=aa n->∀(a:Addr),k<n->(Instr.indexAt t (.pointer (aa a)) (.int S k)).run Q X.w=.ok (.pointer (aa (a.add (k.toNat*sz)))) X.w:=by
   intro n N a g;rcases F with⟨H,_⟩|⟨n',H,F⟩
   .simp_all
   .rw[N]at H;simp only[AT]at H;subst H;simp[Instr.indexAt,asIntOf,bI F,Instr.sureAddr,M,g,dS I]
  split at h
  .rename_i b o l c W s;split at h
   .rename_i g;simp only[VR,jO,CR,iL]at m;split at h
    .rename_i d;rw[d]at m;obtain⟨L,B,_,rfl⟩:=m;simp only[AT]at h;subst h;exact⟨_,z rfl _ _ _ g,L,B,by rw[d,fK]⟩
    .rename_i s' cs fl U d;rw[d]at m;split at h
     .rename_i E;simp only[AT]at h;subst h;obtain⟨L,B,kq,_,_,rfl⟩:=m.2.1 E.1 E.2;exact⟨_,z rfl _ _ _ g,L,B,by rw[d,fK];exact⟨m.1,λ_=>rfl,_,rfl⟩⟩
     .simp_all
    .simp_all
   .simp at h
  .rename_i cs l;split at h
   .rename_i g;simp only[AT]at h;subst h;cases (m:dC σ X.F X.w (.fs cs l) u)with
    |fs _ _ c o cap us O A J E K=>
     refine⟨_,z rfl _ _ _ g,?_⟩;rw[fK];exact dC.fp cs _ c o us A J E K
    |Vn a cap=>simp at g;omega
   .simp at h
  .rename_i n b o W;split at h
   .rename_i g;simp only[AT]at h;subst h;obtain⟨L,B,m⟩:=m;split at m
    .rename_i d;subst m;exact⟨_,y n rfl _ g,L,B,by rw[d,fK]⟩
    .rename_i s cs fl U d;obtain⟨Y,Z,a,rfl⟩:=m;refine⟨_,y n rfl _ g,L,B,?_⟩;rw[d];refine⟨Y,λhe=>?_,_,rfl⟩;have:=Z he;simp only[Value.pointer.injEq,AT]at this;rw[this,fK]
    .simp_all
   .simp at h
  .rename_i n cs o;split at h
   .rename_i g;simp only[AT]at h;subst h;cases (m:dC σ X.F X.w (.fp cs o) u)with
    |fp _ _ c o' us A J E K=>
     refine⟨_,y n rfl _ g,?_⟩;rw[fK,Nat.add_assoc];exact dC.fp cs _ c o' us A J E K
   .simp at h
  .simp at h
 .simp at h
theorem zc{t:TypeId}{n:Option Nat}(y:yZ Q t n=ae){xs:List C}{us:List Value}(m:A2 (CR σ X) xs us)(b:Nat){v:V}(d:aW n (xs.drop b)=aa v)(w:World) :
  ∃u,(part t us.toArray b).run Q w=.ok u w/\VR σ X v u:=by
 obtain⟨q,s⟩:=I8 y w;cases n with
 |none=>
  cases g:xs.drop b with
  |nil=>rw[g]at d;simp[aW]at d
  |cons x cs=>
   rw[g]at d;simp only[aW,AT]at d;subst d;obtain⟨u,z,l⟩:=(m.drop b).get (i:=0) (x:=x) (by rw[g];rfl);have j:us[b]?=aa u:=by simpa[ahk]using z
   exact⟨u,by simp[part,q,j],l⟩
 |some n=>
  simp only[aW]at d;split at d
  .simp only[AT]at d;subst d;exact⟨.agg ((us.drop b).take n).toArray,by simp[part,q,dS (s n rfl),ahY],_,rfl,(m.drop b).take n⟩
  .simp at d
theorem LA{t:TypeId}{b:Array Field}(q:Q.underlying t=aa (.struct b)){i:Nat}{f:Field}(l:b[i]?=aa f){n:Option Nat}(m:yZ Q f.type n=ae)
  {x:V} {u:Value} (s:VR σ X x u) {v:V} (h:pH f.offset n x=aa v) (w:World):∃r,(Instr.field t u i).run Q w=.ok r w/\VR σ X v r:=by
 unfold pH at h;split at h
 .obtain⟨us,rfl,d⟩:=s;obtain⟨r,g,j⟩:=zc m d f.offset h w;exact⟨r,by simp[Instr.field,bI q,l,asAgg,g],j⟩
 .simp at h
theorem QU{t e:TypeId}{len sz:Nat}(y:Q.underlying t=aa (.array len e))(b:eB Q e sz=ae){n:Option Nat}(s:yZ Q e n=ae)
  {x i:V} {u j:Value} (z:VR σ X x u) (hi:VR σ X i j) {v:V} (h:II len sz n x i=aa v) (w:World):∃r,(Instr.index t u j).run Q w=.ok r w/\VR σ X v r:=by
 unfold II at h;split at h
 .rename_i xs k q;obtain⟨A,rfl⟩:=lI hi q;split at h
  .rename_i m;obtain⟨us,rfl,d⟩:=z;obtain⟨r,g,l⟩:=zc s d _ h w;exact⟨r,by simp[Instr.index,asIntOf,bI y,m,dS b,g],l⟩
  .simp at h
 .simp at h
theorem QV{t:TypeId}(m:Q.underlying t=aa .string){x i:V}{u j:Value}(q:VR σ X x u)(hi:VR σ X i j){v:V}(h:IJ x i=aa v)(w:World) :
  ∃r,(Instr.index t u j).run Q w=.ok r w/\VR σ X v r:=by
 unfold IJ at h;split at h
 .rename_i s k l;obtain⟨y,rfl⟩:=lI hi l;have:=VR.str q;subst this;split at h
  .rename_i d;simp only[IT]at h;obtain⟨b,g,rfl⟩:=h;exact⟨_,by simp[Instr.index,asIntOf,bI m,d,g],VR.mkInt _ _⟩
  .simp at h
 .simp at h
end
section
variable{Q:Program}{σ:Nat->FuncId}{X:Wd}
theorem A2.over{α β:Type}{R:α->β->Prop}{cs xs:List α}{us d:List β}(h:A2 R cs us)(b:A2 R xs d)(off:Nat):A2 R (over cs off xs) (over us off d):=by
 unfold Km.over;rw[b.len];exact((h.take off).append b).append (h.drop _)
theorem Eu{α:Type}(cs:List α)(b:Nat)(xs:List α)(h:b+xs.length<=cs.length):(over cs b xs).length=cs.length:=by
 simp[over];omega
theorem DX(d:Nat):∀(g:List Value) (k:Nat) (b:List Value),d+k+g.length<=b.length->
  ((g.zipIdx k).foldl (λ(cs:Array Value) p=>cs.setIfInBounds (d+p.2) p.1) b.toArray)=(over b (d+k) g).toArray
 |[],k,b,_=>by simp[over]
 |v::g,k,b,h=>by
  simp only[List.zipIdx_cons,aid];have j:b.toArray.setIfInBounds (d+k) v=(b.set (d+k) v).toArray:=by simp
  rw[j,DX d g (k+1) _ (by simp at h ⊢;omega)]
  congr 1
  unfold over;simp only[agP]at h ⊢;rw[List.take_set,List.drop_set_of_lt ap,show d+(k+1)=d+k+1 by omega,show d+k+1+g.length=d+k+(g.length+1) by omega];rw[aiJ ap];have l:(List.take (d+k) b).length=d+k:=by simp;omega
  have e:(List.take (d+k) b++[b[d+k]]).set (d+k) v=List.take (d+k) b++[v]:=by
   rw[List.set_append,ct ap,l];simp
  simp_all
theorem sI{x:V}{u:Value}(b:VR σ X x u){xs:List C}(h:x.cells?=aa xs):∃us,u.cells=us.toArray/\A2 (CR σ X) xs us:=by
 unfold V.cells? at h;split at h
 .rename_i x;simp only[AT]at h;subst h;have d:=CR.one σ b;refine⟨[u],?_,A2.cons b A2.nil⟩;cases u<;>simp_all [Value.cells,Value.oneCell']
 .simp only[AT]at h;subst h;obtain⟨us,rfl,h⟩:=b;exact⟨us,rfl,h⟩
 .simp at h
theorem qB{a:Act}{aN:T}(z:RR σ X aN a.tmps){place:Nat->Option (Nat × Nat)}:∀{qs:List (Nat × Nat × Arg)} {ps:List (Nat × Operand)},
  A2 (λ(q:Nat × Nat × Arg) (p:Nat × Operand)=>place p.1=aa (q.1,q.2.1)/\mA σ q.2.2 p.2=ae) qs ps->∀{cs cs':List C} {us:List Value},A2 (CR σ X) cs us->
  ik aN cs qs=aa cs'->∃b,Instr.fill place us.toArray (ps.map λp=>(p.1,a.eval p.2))=aa b.toArray/\A2 (CR σ X) cs' b
 |[],[],_,cs,cs',us,h,d=>by
  simp only[ik,AT]at d;subst d;exact⟨us,rfl,h⟩
 |[],_::_,g,_,_,_,_,_=>by have:=g.len;simp at this
 |_::_,[],g,_,_,_,_,_=>by have:=g.len;simp at this
 |(l,n,x)::qs,(i,y)::ps,g,cs,cs',us,h,d=>by
  obtain⟨⟨u,v⟩,m⟩:=g.of_cons;simp only at u v;simp only[ik]at d;split at d
  .rename_i xs s;split at d
   .rename_i I;obtain⟨H,F,j⟩:=sI (cK z v) s;obtain⟨b,A,B⟩:=qB z m (h.over j l) d;refine⟨b,?_,B⟩;have J:=j.len;have E:=h.len;simp only[List.map_cons,Instr.fill,u,F];rw[ct ge];rw[<-A]
    congr 1
    have:=DX l H 0 us ap;simp_all
   .simp_all
  .simp at d
theorem gH{t:TypeId}{zs:List FC}(h:nX Q t zs=ae)(w:World):∃z us,(zeroValue t).run Q w=.ok z w/\z.cells=us.toArray/\A2 (CR σ X) (zs.map .f) us/\
  ∃i,Q.info? t=aa i/\i.zero=aa z:=by
 unfold nX at h;cases hi:Q.info? t with
 |none=>simp[hi]at h
 |some i=>
  simp only[hi,Option.any_some]at h;split at h
  .rename_i z d;refine⟨z,z.cells.toList,by simp[zeroValue,typeInfo,hi,d],bv,A2.map ((gn h).nZ λx u b=>GZ b),i,rfl,d⟩
  .simp at h
end
section
variable{Q:Program}{σ:Nat->FuncId}{X:Wd}
theorem oA{b:CK}{t:TypeId}(h:Mi Q b t=ae):(b=.int/\∃j,Q.underlying t=aa (.int j))\/(b=.str/\Q.underlying t=aa .string)\/(b=.bool/\Q.underlying t=aa .bool):=by
 unfold Mi at h
 grind
theorem xD{l:CK}{d:TypeDesc}(m:(l=.int/\∃j,d=.int j)\/(l=.str/\d=.string)\/(l=.bool/\d=.bool)){F:Nat->Nat->Prop}{w:World}{x y:FC}{u v:Value}
  (q:dC σ F w x u) (s:dC σ F w y v) {b:Bool} (h:ZY l x y=aa b):Instr.sameNow d u v=aa b:=by
 unfold ZY at h;split at h
 .cases q;cases s;rcases m with⟨_,j,rfl⟩|⟨g,_⟩|⟨g,_⟩
  .assumption
  .cases g
  .cases g
 .cases q;cases s;rcases m with⟨g,_⟩|⟨_,rfl⟩|⟨g,_⟩
  .cases g
  .assumption
  .cases g
 .cases q;cases s;rcases m with⟨g,_⟩|⟨g,_⟩|⟨_,rfl⟩
  .cases g
  .cases g
  .assumption
 .simp at h
theorem A5{l:CK}{d:TypeDesc}(q:(l=.int/\∃j,d=.int j)\/(l=.str/\d=.string)\/(l=.bool/\d=.bool)){F:Nat->Nat->Prop}{w:World}{k:FC}{B:Value}(v:dC σ F w k B) :
  ∀{R:C->Value->Prop} {y:List (FC × C)} {b:List MapEntry},A2 (λe m=>dC σ F w e.1 m.key/\R e.2 m.val) y b->∀{r:Option C} (i:Nat),nk l k y=aa r->
  match r with
  |none=>Instr.findNow d B b i=aa ab| some x=>∃j u,Instr.findNow d B b i=aa (aa (j,u))/\R x u
 |_,[],[],_,r,i,h=>by
  simp only[nk,AT]at h;subst h;rfl
 |_,[],_::_,g,_,_,_=>by have:=g.len;simp at this
 |_,_::_,[],g,_,_,_=>by have:=g.len;simp at this
 |_,e::y,m::b,g,r,i,h=>by
  obtain⟨⟨z,E⟩,A⟩:=g.of_cons;simp only[nk]at h;split at h
  .rename_i s;simp only[AT]at h;subst h;exact⟨i,m.val,by simp[Instr.findNow,xD q v z s],E⟩
  .rename_i s;have:=A5 q v A (i+1) h;cases r with
   |none=>simpa[Instr.findNow,xD q v z s]using this| some x=>obtain⟨j,u,H,I⟩:=this;exact⟨j,u,by simp[Instr.findNow,xD q v z s,H],I⟩
  .simp at h
theorem kz{l:CK}{t:TypeId}(h:Mi Q l t=ae){k:FC}{F:Nat->Nat->Prop}{q:World}{g:Value}(m:dC σ F q k g)(hi:isKey l k=ae)(b:Bool)(w:World) :
  (Instr.checkKey b 10000 t g).run Q w=.ok () w:=by
 have:∀n,(Instr.checkKey b (n+1) t g).run Q w=.ok () w:=by
  intro n;rcases oA h with⟨rfl,j,d⟩|⟨rfl,d⟩|⟨rfl,d⟩<;>cases m<;>simp_all [isKey,Instr.checkKey,bI d]
 simp_all
theorem GQ{z:FC}{r:Option C}{u:Value}{ok:Bool}(b:ok=(pL z).isSome)(h:jO σ X ((r.map mV).getD (zV ((pL z).getD z))) u):VR σ X (SB z r) (if ok=ae then .tuple #[u,.bool r.isSome]else u):=by
 unfold SB;cases d:pL z with
 |none=>rw[d]at h b;subst b;exact VR.SD σ h| some z0=>rw[d]at h b;subst b;exact⟨[u,.bool r.isSome],rfl,A2.cons h (A2.cons (dC.bool _) A2.nil)⟩
theorem Mf(hS:SR Q σ X){t kt e:TypeId}{I:CK}(Y:Q.underlying t=aa (.map kt e))(J:Mi Q I kt=ae){z:FC}{ok:Bool}(F:ok=(pL z).isSome)(hz:nX Q e (ve ((pL z).getD z))=ae)
  (l:(Q.info? e).any (λi=>i.zero.any λu=>if HO ((pL z).getD z)then Yn u else Ze u)=ae) {m k:V} {um uk:Value} (hm:VR σ X m um) (s:VR σ X k uk) {v:V} (h:gC X.H I z m k=aa v) :
  ∃u,(Instr.lookup t um uk ok).run Q X.w=.ok u X.w/\VR σ X v u:=by
 obtain⟨H,zs,K,A,B,i0,U,W⟩:=gH (σ:=σ) (X:=X) hz X.w;have M:jO σ X (zV ((pL z).getD z)) H:=by
  simp only[U,Option.any_some,W]at l;generalize (pL z).getD z=z0 at *;cases O:HO z0 with
  |true=>
   rw[ZN O];simp only[O,if_true]at l;cases H with
   |agg cs=>exact⟨zs,by simp only[Value.cells]at A;rw[A],B⟩
   |_=>simp[Yn]at l
  |false=>
   obtain⟨e1,e2⟩:=ZO O;rw[e1];rw[e2]at B;simp only[O,agH,if_false]at l;obtain⟨u,Z,a_⟩:=B.get (i:=0) (x:=.f z0) rfl;have hl:=B.len;have b_:zs=[u]:=by
    match zs,hl,Z with
    |[y],_,h=>simp at h;rw[h]
   subst b_;cases H with
   |agg cs=>simp[Ze]at l| _=>simp only[Value.cells]at A;have:=congrArg Array.toList A;simp at this;subst this;exact a_
 unfold gC at h;split at h
 .rename_i kc;split at h
  .rename_i q;simp only[AT]at h;subst h;cases (hm:dC σ X.F X.w .zy um);refine⟨if ok=ae then .tuple #[H,.bool ag]else H,?_,GQ (r:=ab) F M⟩;rcases oA J with⟨_,j,g⟩|⟨_,g⟩|⟨_,g⟩ <;>
    simp[Instr.lookup,bI Y,kz J s q,Instr.findKey,bI g,Instr.findNow,K]
  .simp at h
 .rename_i b kc;split at h
  .rename_i es hb;split at h
   .rename_i q;simp only[IT]at h;obtain⟨r,hr,rfl⟩:=h;obtain⟨L,hL,_,rfl⟩:=hm;obtain⟨_,_,cP,E,S⟩:=hS.br b L hL;rw[hb]at E;simp only[AT]at E;subst E;obtain⟨c9,h1,h2,_⟩:=S;have go:∀d,Q.underlying kt=aa d->((I=.int/\∃j,d=.int j)\/(I=.str/\d=.string)\/(I=.bool/\d=.bool))->∃u,(Instr.lookup t (.map (aa L.c)) uk ok).run Q X.w=.ok u X.w/\VR σ X (SB z r) u:=by
     intro d g hd;have h3:=A5 (R:=λc u=>jO σ X (mV c) u) hd s h2 0 hr;cases r with
     |none=>
      refine⟨if ok=ae then .tuple #[H,.bool ag]else H,?_,GQ (r:=ab) F M⟩;simp[Instr.lookup,bI Y,getObj,Sem.run,h1,kz J s q,Instr.findKey,bI g,h3,K]
     |some x=>
      obtain⟨j,u,N,h5⟩:=h3;refine⟨if ok=ae then .tuple #[u,.bool ae]else u,?_,GQ (r:=aa x) F h5⟩;simp[Instr.lookup,bI Y,getObj,Sem.run,h1,kz J s q,Instr.findKey,bI g,N]
    rcases oA J with⟨N,j,g⟩|⟨N,g⟩|⟨N,g⟩
    .simp_all
    .simp_all
    .simp_all
   .simp at h
  .simp at h
 .simp at h
end
section
variable{Q:Program}{σ:Nat->FuncId}{X:Wd}
theorem fL{s:Sem Value}{u:Value}{w w':World}(h:s.run Q w=.ok u w'):(do pure (Next.value (<-s)):Sem Next).run Q w=.ok (.value u) w':=by simp[h]
theorem vp{a:Act}{aN:T}(b:RR σ X aN a.tmps){x:Option Arg}{y:Option Operand}(h:mO σ x y=ae):OR X σ (x.map (·.ev aN)) (y.map a.eval):=by
 rcases acJ b h with⟨rfl,rfl⟩|⟨g,j,rfl,rfl,d⟩
 .trivial
 .exact d
theorem kh{t:TypeId}{p:TypeId->Bool}(h:(pF Q t).any p=ae):∃e,Q.underlying t=aa (.slice e)/\p e=ae:=by
 unfold pF at h
 grind
theorem mv{x:C}{u:Value}(b:CR σ X x u){l:Nat}(h:bh X.H x=aa l):∃a c,u=.slice a l c:=by
 unfold bh at h;split at h<;>try simp only[AT,reduceCtorEq]at h
 .simp only[CR,iL]at b
  grind
 .subst h;cases (b:dC σ X.F X.w .aJ u);exact⟨_,_,rfl⟩
 .subst h;cases (b:dC σ X.F X.w .es u);exact⟨_,_,rfl⟩
 .subst h;cases (b:dC σ X.F X.w (.fs _ _) u)<;>exact⟨_,_,rfl⟩
theorem oH(K:SR Q σ X){sz:Nat}{x:C}{u:Value}(q:CR σ X x u){l:Nat}(g:bh X.H x=aa l){cs:List C}(h:dg X.H sz x=aa cs) :
  ∃us,(Builtin.firstCells sz l u).run Q X.w=.ok us.toArray X.w/\A2 (CR σ X) cs us/\cs.length=l*sz:=by
 have row:∀(c o:Nat) (us:List Value) (cap:Nat),us.length=l*sz->(∀(i:Nat) u,us[i]?=aa u->X.w.cell? ⟨c,o+i,ab⟩=aa u)->
   (Builtin.firstCells sz l (.slice (aa ⟨c,o,ab⟩) l cap)).run Q X.w=.ok us.toArray X.w:=by
  intro c o us cap J E;have:=run_loadCells_list (P:=Q) X.w ⟨c,o,ab⟩ us (λj v N=>by rw[fK];exact E j v N);rw[J]at this
  assumption
 unfold dg at h;split at h<;>try simp only[reduceCtorEq]at h
 .rename_i b o H cap S s;simp only[CR,iL]at q;simp only[bh]at g;split at h
  .rename_i cs' fl B;rw[B]at q g;simp only[AT]at g;subst g;obtain⟨L,I,_,rfl⟩:=q;split at h
   .rename_i m;simp only[AT]at h;subst h;obtain⟨_,_,cP,d,y⟩:=K.br b L I;rw[B]at d;simp only[AT]at d;subst d;obtain⟨us,F,A,_⟩:=y;have:=A.len;refine⟨(us.drop o).take (H*sz),row _ _ _ _ ge (λi u J=>?_),(A.drop o).take _,ge⟩;rw[fC F]
    grind
   .simp at h
  .rename_i W cs' fl e st B;rw[B]at q g;split at h
   .rename_i E;obtain⟨rfl,rfl,m⟩:=E;simp only[and_self,if_true,AT]at g;subst g;simp only[AT]at h;subst h;have z:=q.2.1 rfl rfl;cases st with
    |loc=>
     obtain⟨L,I,k,_,_,rfl⟩:=z;obtain⟨_,_,cP,d,y⟩:=K.br b L I;rw[B]at d;simp only[AT]at d;subst d;obtain⟨_,us,rest,F,A,_⟩:=y;have:=A.len;refine⟨(us.drop o).take (H*sz),row _ _ _ _ ge (λi u J=>?_),(A.drop o).take _,ge⟩;rw[fC F]
     grind
    |nil=>
     obtain⟨rfl,rfl,rfl⟩:=z;exact⟨[],by simp[Builtin.firstCells],by simpa using A2.nil,bv⟩
    |es=>
     obtain⟨rfl,rfl,a,rfl⟩:=z;exact⟨[],by simp[Builtin.firstCells,loadCells,loadCellsFrom],by simpa using A2.nil,bv⟩
   .simp at h
  .simp at h
 .simp only[AT]at h;subst h;simp only[bh,AT]at g;subst g;cases (q:dC σ X.F X.w .aJ u);exact⟨[],by simp[Builtin.firstCells],A2.nil,bv⟩
 .simp only[AT]at h;subst h;simp only[bh,AT]at g;subst g;cases (q:dC σ X.F X.w .es u);exact⟨[],by simp[Builtin.firstCells,loadCells,loadCellsFrom],A2.nil,bv⟩
 .rename_i cs' H;simp only[bh,AT]at g;subst g;split at h
  .rename_i m;simp only[AT]at h;subst h;cases (q:dC σ X.F X.w (.fs cs' H) u)with
   |fs _ _ c o cap us M O U E F=>
    exact⟨us,row _ _ _ _ ap E,A2.map ⟨ap,F⟩,ge⟩
   |Vn a cap=>exact⟨[],by simp[Builtin.firstCells,loadCells,loadCellsFrom],A2.nil,bv⟩
  .simp at h
theorem Tn{v:V}{u:Value}(h:VR σ X v u){c:C}(l:sH v=aa c):iL σ X c u:=by
 unfold sH at l;split at l
 .simp at l
 .simp at l
 .rename_i x q m;simp only[AT]at l;subst l;cases x with
  |cl f j=>exact absurd rfl (q f j)| bm f j=>exact absurd rfl (m f j)| mi b=>exact h| f y=>exact h| ptr a b c=>exact h| sl a b c d e g=>exact h| yl b=>exact h| mp b=>exact h| it b=>exact h
 .simp at l
theorem Ds{xs:List V}{us:List Value}(h:A2 (VR σ X) xs us){cs:List C}(b:bu sH xs=aa cs):A2 (iL σ X) cs us:=by
 induction xs generalizing us cs with
 |nil=>
  simp only[bu,AT]at b;subst b
  match us,h.len with
  |[],_=>exact A2.nil
 |cons x xs m=>
  match us,h with
  |u::us,h=>
   obtain⟨g,j⟩:=h.of_cons;simp only[bu]at b;split at b
   .simp_all
   .rename_i y l;split at b
    .simp_all
    .rename_i ys d;simp only[AT]at b;subst b;exact A2.cons (Tn g l) (m j d)
  |[],h=>have:=h.len;simp at this
theorem eM{d:Operand->Value}{o:Oper}{c:Call}{b:Builtin}(j:o.op=.call c)(g:c.callee=.builtin b){r:Result Next}{w:World}
  (h:∀cs,(builtin b c.argTypes o.type cs (c.args.map d)).run Q w=r):(execOp d o).run Q w=r:=by
 simp only[execOp,j,resolve,g,Sem.run_bind,Sem.run_pure,Result.andThen_ok,invoke];exact h _
theorem Dt{α:Type}{a:Array α}{x:α}(h:a.toList=[x]):a=#[x]:=by
 grind
theorem Te{α:Type}{a:Array α}{x y:α}(h:a.toList=[x,y]):a=#[x,y]:=by
 grind
theorem Mh{c:Call}{x:Arg}(h:fo Q σ c (.len x)=ae):∃y t e,c.callee=.builtin .len/\c.args=#[y]/\c.argTypes=#[t]/\mA σ x y=ae/\Q.underlying t=aa (.slice e):=by
 simp only[fo]at h;split at h
 .rename_i y t b d g;simp only[IS]at h;have:=h.2;split at this
  .exact⟨y,t,_,b,Dt d,Dt g,h.1,by assumption⟩
  .simp_all
 .simp at h
theorem GX{c:Call}{x:Arg}(h:fo Q σ c (.lens x)=ae):∃y t,c.callee=.builtin .len/\c.args=#[y]/\c.argTypes=#[t]/\mA σ x y=ae/\Q.underlying t=aa .string:=by
 simp only[fo]at h;split at h
 .rename_i y t b d g;simp only[IS]at h;have:=h.2;split at this
  .exact⟨y,t,b,Dt d,Dt g,h.1,by assumption⟩
  .simp_all
 .simp at h
theorem GW{c:Call}{n:Nat}(h:fo Q σ c (.qZ n)=ae):∃y t e,c.callee=.builtin .len/\c.args=#[y]/\c.argTypes=#[t]/\Q.underlying t=aa (.array n e):=by
 simp only[fo]at h;split at h
 .rename_i y t b d g;split at h
  .rename_i m e j;simp only[decide_eq_true_eq]at h;subst h;exact⟨y,t,e,b,Dt d,Dt g,j⟩
  .simp at h
 .simp at h
theorem GY{c:Call}{lo:Bool}{xs:List Arg}(h:fo Q σ c (.tj lo xs)=ae):c.callee=.builtin (if lo then .min else .max)/\SC σ xs c.args=ae:=by
 simp only[fo]at h
 grind
theorem Rg{lo:Bool}{x y z:V}{u v:Value}(b:VR σ X x u)(d:VR σ X y v)(h:A0 lo x y=aa z)(w:World):∃r,(if lo then Builtin.min2 u v else Builtin.max2 u v).run Q w=.ok r w/\VR σ X z r:=by
 unfold A0 at h;split at h
 .simp only[AT]at h;subst h;have b:=VR.int b;have d:=VR.int d;subst b;subst d;cases lo
  .exact⟨_,by simp[Builtin.max2],VR.mkInt _ _⟩
  .exact⟨_,by simp[Builtin.min2],VR.mkInt _ _⟩
 .simp at h
theorem Ed{lo:Bool}(w:World):∀{ys:List V} {d:List Value} {x z:V} {u:Value},VR σ X x u->A2 (VR σ X) ys d->vH lo x ys=aa z->∃r,(d.foldlM (λu v=>if lo then Builtin.min2 u v else Builtin.max2 u v) u).run Q w=.ok r w/\VR σ X z r
 |[],d,x,z,u,g,b,h=>by
  have:d=[]:=List.eq_nil_of_length_eq_zero b.len.symm;subst this;simp only[vH,AT]at h;subst h;simp_all
 |y::ys,[],x,z,u,g,b,h=>by have:=b.len;simp at this
 |y::ys,v::d,x,z,u,g,b,h=>by
  obtain⟨l,b⟩:=b.of_cons;simp only[vH]at h;split at h
  .rename_i q m;obtain⟨E,s,j⟩:=Rg (Q:=Q) g l m w;obtain⟨r,A,B⟩:=Ed w j b h;simp_all
  .simp at h
theorem Mg{c:Call}{x:Arg}(h:fo Q σ c (.cap x)=ae):∃y t e,c.callee=.builtin .cap/\c.args=#[y]/\c.argTypes=#[t]/\mA σ x y=ae/\Q.underlying t=aa (.slice e):=by
 simp only[fo]at h;split at h
 .rename_i y t g j l;simp only[IS]at h;obtain⟨m,d⟩:=h;split at d
  .rename_i e b;exact⟨y,t,e,g,Dt j,Dt l,m,b⟩
  .simp at d
 .simp at h
theorem R8{x:C}{u:Value}(d:CR σ X x u){n:Nat}(h:nU X.H x=aa n):∃a l,u=.slice a l n:=by
 cases x with
 |sl b o l c g sz=>
  simp only[nU]at h;simp only[CR,iL]at d
  grind
 |f y=>
  cases y<;>simp only[nU,AT,reduceCtorEq]at h
  .subst h;cases (d:dC σ X.F X.w .aJ u);exact⟨_,_,rfl⟩
  .subst h;cases (d:dC σ X.F X.w .es u);exact⟨_,_,rfl⟩
 |_=>simp[nU]at h
theorem I1(v:SR Q σ X){m:Nat}{L:Loc}(u:X.di m=aa L){e:FC × C}(x:X.H[m]?=aa (.map [e])):∃d:MapEntry,X.w.heap[L.c]?=aa (.map #[d] 1)/\dC σ X.F X.w e.1 d.key/\jO σ X (mV e.2) d.val/\d.born=0:=by
 obtain⟨_,_,cP,g,l⟩:=v.br m L u;rw[x]at g;cases g;obtain⟨j,q,b,s⟩:=l
 match j,b with
 |[d],b=>exact⟨d,q,b.of_cons.1.1,b.of_cons.1.2,s 0 d rfl⟩| [],b=>have:=b.len;simp at this| _::_::_,b=>have:=b.len;simp at this
theorem Lw(q:SR Q σ X){x:V}{u:Value}(K:VR σ X x u){v:V}(h:ot X.H x=aa v):∃r,(Instr.entry u).run Q X.w=.ok r X.w/\VR σ X v r:=by
 unfold ot at h;split at h
 .rename_i b;obtain⟨L,H,_,rfl⟩:=K;split at h
  .rename_i m s I;split at h
   .rename_i e J;simp only[AT]at h;subst h;obtain⟨_,_,cP,d,j⟩:=q.br b L H;rw[I]at d;cases d;obtain⟨M,N,st,E,_,F,l⟩:=j;simp only[if_true]at l;obtain⟨rfl,rfl⟩:=l;obtain⟨g,y,z,A,B⟩:=I1 q E J;refine⟨.tuple #[g.key,g.val],?_,[g.key,g.val],rfl,A2.cons z (A2.cons A A2.nil)⟩;simp[Instr.entry,getObj,Sem.run,F,y,B,Result.andThen]
   .simp at h
  .simp at h
 .simp at h
theorem Dy:∀{cs:List C} {us:List Value} {bs:List UInt8},A2 (CR σ X) cs us->bu (λc=>match c with|C.f (.int .u8 n)=>aa (UInt8.ofNat n.toNat)|_=>ab) cs=aa bs->
  ∃d:List Int,us=d.map (Value.int .u8)/\bs=d.map λn=>UInt8.ofNat n.toNat
 |[],us,bs,h,b=>by
  simp only[bu,AT]at b;subst b
  match us,h.len with
  |[],_=>exact⟨[],rfl,rfl⟩
 |c::cs,[],bs,h,b=>by have:=h.len;simp at this
 |c::cs,u::us,bs,h,b=>by
  obtain⟨l,m⟩:=h.of_cons;simp only[bu]at b;split at b
  .simp at b
  .rename_i y g;split at b
   .simp_all
   .rename_i ys j;simp only[AT]at b;subst b;obtain⟨d,rfl,rfl⟩:=Dy m j;split at g
    .rename_i n;simp only[AT]at g;subst g;cases (l:dC σ X.F X.w (.int .u8 n) u);exact⟨n::d,rfl,rfl⟩
    .simp_all
theorem foldl_push:∀(b:List Int) (s:ByteArray),b.foldl (λ(r:ByteArray) n=>r.push (UInt8.ofNat n.toNat)) s=⟨s.data++(b.map λn=>UInt8.ofNat n.toNat).toArray⟩
 |[],s=>by simp
 |n::b,s=>by
  rw[aid,foldl_push b];simp
theorem Qn(y:SR Q σ X){x:V}{u:Value}(q:VR σ X x u){v:V}(h:vr X.H x=aa v):∃r,(Conv.bytesToString u).run Q X.w=.ok r X.w/\VR σ X v r:=by
 unfold vr at h;split at h
 .rename_i x;split at h
  .rename_i l m;split at h
   .rename_i cs g;simp only[IT]at h;obtain⟨bs,z,rfl⟩:=h;obtain⟨us,j,s,A⟩:=oH y q m g;obtain⟨d,c,rfl⟩:=mv q m;obtain⟨b,rfl,rfl⟩:=Dy s z;refine⟨.string (b.foldl (λ(r:ByteArray) n=>r.push (UInt8.ofNat n.toNat)) ByteArray.empty),?_,?_⟩
    .cases d with
     |none=>
      simp only[Builtin.firstCells,Sem.run_pure,Result.ok.injEq,and_true]at j;have:b=[]:=by
       simp_all
      subst this;rfl
     |some d=>exact run_bytesToString X.w d l c b (by simpa[Builtin.firstCells]using j)
    .rw[foldl_push];rw[show(ByteArray.empty.data++(List.map (λn:Int=>UInt8.ofNat n.toNat) b).toArray)=(List.map (λn:Int=>UInt8.ofNat n.toNat) b).toArray from Array.empty_append];exact VR.mkStr _
   .simp at h
  .simp at h
 .simp at h
theorem VC(hS:SR Q σ X){a:Act}{aN:T}(H:RR σ X aN a.tmps){o:Oper}{op:dW}(A:fk Q σ o op=ae)(hc:cls op=.p\/cls op=.r)(f_:op.Z4=ag){v:V}{H':an}
  (h:cm aN X.H op=aa (v,H')):H'=X.H/\∃u,(execOp a.eval o).run Q X.w=.ok (.value u) X.w/\VR σ X v u:=by
 cases op<;>first|(simp only[cls,reduceCtorEq,or_self]at hc;done)|(simp[dW.Z4]at f_;done)|clear f_
 case iV x=>
  simp only[cm,AT,agk]at h;obtain⟨rfl,rfl⟩:=h;refine⟨rfl,?_⟩;simp only[fk]at A;split at A
  .rename_i y E;exact⟨_,by simp[execOp,E],cK H A⟩
  .rename_i y E;exact⟨_,by simp[execOp,E],cK H A⟩
  .simp at A
 case pick c x y=>
  simp only[fk]at A;split at A
  .rename_i c' x' y' E;simp only[IS]at A;simp only[cm]at h;have c9:=cK H A.1.1;split at h
   .rename_i b hb;rw[hb]at c9;have c9:=VR.bool c9;simp only[AT,agk]at h;obtain⟨rfl,rfl⟩:=h;cases b
    .exact⟨rfl,_,by simp[execOp,E,c9,asBool],cK H A.2⟩
    .exact⟨rfl,_,by simp[execOp,E,c9,asBool],cK H A.1.2⟩
   .simp at h
  .simp at A
 case build zs qs=>
  simp only[fk]at A;split at A
  .rename_i t ps E;simp only[IS]at A;simp only[cm,IT,agk]at h;obtain⟨cs,b_,rfl,rfl⟩:=h;obtain⟨z,us,j6,j7,j8,_⟩:=gH (σ:=σ) (X:=X) A.1 X.w;refine⟨rfl,?_⟩;have hb:=A.2;unfold Q9 at hb;split at hb
   .rename_i fs J;split at hb
    .rename_i pl n8;obtain⟨d9,O,h6⟩:=qB (place:=(pl.toArray[·]?)) H ((gn hb).nZ λq p U=>by
      simp only[IS,decide_eq_true_eq]at U;exact⟨by simpa using U.1,U.2⟩) j8 b_
     refine⟨.agg d9.toArray,?_,d9,rfl,h6⟩;have hp:=run_places (P:=Q) X.w fs.toList pl n8;simp only[execOp,E];refine fL ?_;simp[Instr.build,j6,bI J,Array.mapM_eq_mapM_toList,hp,j7];simp_all
    .simp_all
   .rename_i n e J;split at hb
    .rename_i j9 hi;obtain⟨d9,O,h6⟩:=qB (place:=λi=>aa (i*j9.size,j9.size)) H ((gn hb).nZ λq p U=>by
      simp only[IS,beq_iff_eq]at U;exact⟨by rw[U.1.2,U.1.1],U.2⟩) j8 b_
     refine⟨.agg d9.toArray,?_,d9,rfl,h6⟩;simp only[execOp,E];refine fL ?_;simp[Instr.build,j6,bI J,Go.sizeOf,typeInfo,hi,j7,O]
    .simp_all
   .simp_all
  .simp at A
 case load k x=>
  simp only[fk]at A;split at A
  .rename_i t y E;simp only[IS]at A;simp only[cm,IT,agk]at h;obtain⟨Z,F,rfl,rfl⟩:=h;obtain⟨u,I,K⟩:=Y4 hS A.1 (cK H A.2) F;exact⟨rfl,u,by simp only[execOp,E];exact fL I,K⟩
  .simp at A
 case nq x=>
  simp only[fk]at A;split at A
  .rename_i y E;have B:=cK H A;simp only[cm]at h;have q_:∀ad,a.eval y=.pointer (aa ad)->(execOp a.eval o).run Q X.w=.ok (.value (a.eval y)) X.w:=by
    intro ad l_;simp[execOp,E,l_]
   split at h
   .rename_i b e_ e hb;simp only[AT,agk]at h;obtain⟨rfl,rfl⟩:=h;rw[hb]at B;have p9:=B;obtain⟨L,hL,B⟩:=B
    grind
   .rename_i cs e_ hb;simp only[AT,agk]at h;obtain⟨rfl,rfl⟩:=h;rw[hb]at B;have p9:=B;have:∃ad,a.eval y=.pointer (aa ad):=by
     generalize a.eval y=u at B;cases (B:dC σ X.F X.w (.fp cs e_) u);exact⟨_,rfl⟩
    grind
   .simp at h
  .simp at A
 case bin op x y=>
  simp only[fk]at A;split at A
  .rename_i k_ t x' y' yt E;simp only[IS,decide_eq_true_eq]at A;obtain⟨⟨rfl,B⟩,S⟩:=A;simp only[cm,IT,agk]at h;obtain⟨Z,F,rfl,rfl⟩:=h;have B:=cK H B;have S:=cK H S;refine⟨rfl,?_⟩;have guard:∀op,(∀xs,a.eval x'≠.agg xs)->a.eval x'≠.nilIface->(eqGuard op t x' y' (a.eval x') (a.eval y')).run Q X.w=.ok () X.w:=by
    intro op I K;cases op<;>simp[eqGuard]<;>(generalize a.eval x'=ux at *;cases ux<;>simp at I K ⊢)
   unfold cT at F;split at F
   .rename_i k n k' m I K;rw[I]at B;rw[K]at S;have B:=VR.int B;have S:=VR.int S;split at F
    .simp_all
    .rename_i A;simp only[AT]at F;subst F;exact⟨_,by simp only[execOp,E];refine fL ?_;rw[Sem.run_bind,guard _ (by simp[B]) (by simp[B])];simp[B,S,binOp,Op.shift,A],VR.mkInt _ _⟩
   .rename_i k n k' m I K;rw[I]at B;rw[K]at S;have B:=VR.int B;have S:=VR.int S;split at F
    .simp_all
    .rename_i A;simp only[AT]at F;subst F;exact⟨_,by simp only[execOp,E];refine fL ?_;rw[Sem.run_bind,guard _ (by simp[B]) (by simp[B])];simp[B,S,binOp,Op.shift,A],VR.mkInt _ _⟩
   .rename_i k n k' m _ _ I K;rw[I]at B;rw[K]at S;have B:=VR.int B;have S:=VR.int S;split at F
    .rename_i hk;subst hk;obtain⟨u,W,N,O⟩:=Ti (Q:=Q) (σ:=σ) (X:=X) F X.w;exact⟨u,by simp only[execOp,E];refine fL ?_;rw[Sem.run_bind,guard _ (by simp[B]) (by simp[B])];simp[B,S,O,W],N⟩
    .simp_all
   .rename_i s1 s2 I K;rw[I]at B;rw[K]at S;have B:=VR.str B;have S:=VR.str S;obtain⟨u,W,N⟩:=Tj (Q:=Q) (σ:=σ) (X:=X) F X.w t;exact⟨u,by simp only[execOp,E];refine fL ?_;rw[Sem.run_bind,guard _ (by simp[B]) (by simp[B])];simp[B,S,W],N⟩
   .simp_all
  .simp at A
 case eq neg k x y=>
  simp only[fk]at A;split at A
  .rename_i k_ t x' y' yt E;simp only[IS,decide_eq_true_eq]at A;obtain⟨⟨⟨rfl,B⟩,S⟩,hk⟩:=A;simp only[cm,IT,agk]at h;obtain⟨b,F,rfl,rfl⟩:=h;refine⟨rfl,_,?_,VR.xW _⟩;simp only[execOp,E];exact fL (YJ hk (cK H B) (cK H S) F neg X.w)
  .simp at A
 case un op x=>
  simp only[fk]at A;split at A
  .rename_i k_ t y E;simp only[IS,decide_eq_true_eq]at A;obtain⟨rfl,B⟩:=A;simp only[cm,IT,agk]at h;obtain⟨Z,F,rfl,rfl⟩:=h;have B:=cK H B;refine⟨rfl,?_⟩;unfold SF at F;split at F
   .rename_i k n I;rw[I]at B;have B:=VR.int B;simp only[AT]at F;subst F;exact⟨_,by simp[execOp,E,B,Op.unary,Op.intArith],VR.mkInt _ _⟩
   .rename_i b I;rw[I]at B;have B:=VR.bool B;simp only[AT]at F;subst F;exact⟨_,by simp[execOp,E,B,Op.unary],VR.xW _⟩
   .simp_all
  .simp at A
 case Qo k x=>
  simp only[fk]at A;split at A
  .rename_i s d y E;simp only[IS]at A;obtain⟨⟨B,hs⟩,hd⟩:=A;have B:=cK H B;simp only[cm]at h;split at h
   .rename_i q n I;rw[I]at B;have B:=VR.int B;simp only[AT,agk]at h;obtain⟨rfl,rfl⟩:=h;split at hd
    .rename_i k' J;simp only[decide_eq_true_eq]at hd;subst hd;obtain⟨ds,m9⟩:=Option.isSome_iff_exists.1 hs;exact⟨rfl,_,by simp only[execOp,E];refine fL ?_;simp[convert,bI m9,bI J,B,Conv.intToInt],VR.mkInt _ _⟩
    .simp_all
   .simp at h
  .simp at A
 case Gm x=>
  simp only[fk]at A;split at A
  .rename_i s d y E;simp only[IS]at A;obtain⟨B,hd⟩:=A;have B:=cK H B;simp only[cm]at h;split at h
   .rename_i q I;rw[I]at B;have B:=VR.str B;simp only[AT,agk]at h;obtain⟨rfl,rfl⟩:=h;split at hd
    .rename_i i6 i7;exact⟨rfl,_,by simp only[execOp,E];refine fL ?_;simp[convert,bI i6,bI i7,B],VR.mkStr _⟩
    .simp_all
   .simp at h
  .simp at A
 case zx f xs=>
  simp only[fk]at A;split at A
  .rename_i g fst a_ E;simp only[IS,beq_iff_eq]at A;obtain⟨⟨M,rfl⟩,B⟩:=A;simp only[cm,IT,agk]at h;obtain⟨cs,b_,rfl,rfl⟩:=h;have:=Ds (pM H B) b_;have i_:fst=#[]:=by simpa using M
   exact⟨rfl,.func (.func (σ f)) #[] (a_.map a.eval),by simp only[execOp,E,Instr.makeFunc,i_];exact fL bv,(a_.map a.eval).toList,congrArg _ Array.toArray_toList.symm,this⟩
  .simp at A
 case slice sz x lo hi mx=>
  simp only[fk]at A;split at A
  .rename_i t y j_ j5 mx' E;simp only[IS,decide_eq_true_eq]at A;obtain⟨⟨⟨⟨⟨B,I⟩,K⟩,W⟩,he⟩,hz⟩:=A;obtain⟨e,J,Y⟩:=kh he;simp only[cm,IT,agk]at h;obtain⟨Z,F,rfl,rfl⟩:=h;obtain⟨r,N,O⟩:=Bm hS J Y (cK H B) (vp H I) (vp H K) (vp H W) F;exact⟨rfl,r,by simp only[execOp,E];exact fL N,O⟩
  .simp at A
 case tH n sz x lo hi mx=>
  simp only[fk]at A;split at A
  .rename_i t y j_ j5 mx' E;simp only[IS,decide_eq_true_eq]at A;obtain⟨⟨⟨⟨⟨B,I⟩,K⟩,W⟩,he⟩,hz⟩:=A;split at he
   .rename_i n' e J;simp only[IS,beq_iff_eq]at he;obtain⟨rfl,Y⟩:=he;simp only[cm,IT,agk]at h;obtain⟨Z,F,rfl,rfl⟩:=h;obtain⟨r,N,O⟩:=ML hS J Y (cK H B) (vp H I) (vp H K) (vp H W) F;exact⟨rfl,r,by simp only[execOp,E];exact fL N,O⟩
   .simp_all
  .simp at A
 case vQ x lo hi=>
  simp only[fk]at A;split at A
  .rename_i t y j_ j5 E;simp only[IS]at A;obtain⟨⟨⟨B,I⟩,K⟩,he⟩:=A;split at he
   .rename_i J;simp only[cm,IT,agk]at h;obtain⟨Z,F,rfl,rfl⟩:=h;obtain⟨r,N,O⟩:=MN J (cK H B) (vp H I) (vp H K) F X.w;exact⟨rfl,r,by simp only[execOp,E,Option.map_none];exact fL N,O⟩
   .simp_all
  .simp at A
 case mj e_ x=>
  simp only[fk]at A;split at A
  .rename_i t y i E;simp only[IS]at A;obtain⟨B,M⟩:=A;split at M
   .rename_i fs J;split at M
    .rename_i f g_;simp only[IS,beq_iff_eq]at M;obtain⟨rfl,hz⟩:=M;simp only[cm,IT,agk]at h;obtain⟨Z,F,rfl,rfl⟩:=h;obtain⟨r,N,O⟩:=Gw J g_ hz (cK H B) F X.w;exact⟨rfl,r,by simp only[execOp,E];exact fL N,O⟩
    .simp_all
   .simp_all
  .simp at A
 case field e_ n x=>
  simp only[fk]at A;split at A
  .rename_i t y i E;simp only[IS]at A;obtain⟨B,M⟩:=A;split at M
   .rename_i fs J;split at M
    .rename_i f g_;simp only[IS,beq_iff_eq]at M;obtain⟨rfl,hz⟩:=M;simp only[cm,IT,agk]at h;obtain⟨Z,F,rfl,rfl⟩:=h;obtain⟨r,N,O⟩:=LA J g_ hz (cK H B) F X.w;exact⟨rfl,r,by simp only[execOp,E];exact fL N,O⟩
    .simp_all
   .simp_all
  .simp at A
 case eZ sz i8 x i=>
  simp only[fk]at A;split at A
  .rename_i t y j E;simp only[IS]at A;obtain⟨⟨B,hi⟩,M⟩:=A;simp only[cm,IT,agk]at h;obtain⟨Z,F,rfl,rfl⟩:=h;have:∃e,eB Q e sz=ae/\((i8=ab/\Q.underlying t=aa (.slice e))\/∃n,i8=aa n/\Q.underlying t=aa (.array n e)):=by
    grind
   obtain⟨e,Y,J⟩:=this;obtain⟨r,N,O⟩:=GC Y J (cK H B) (cK H hi) F;exact⟨rfl,r,by simp only[execOp,E];exact fL N,O⟩
  .simp at A
 case idxs x i=>
  simp only[fk]at A;split at A
  .rename_i t y j E;simp only[IS]at A;obtain⟨⟨B,hi⟩,M⟩:=A;simp only[cm,IT,agk]at h;obtain⟨Z,F,rfl,rfl⟩:=h;split at M
   .rename_i J;obtain⟨r,N,O⟩:=QV J (cK H B) (cK H hi) F X.w;exact⟨rfl,r,by simp only[execOp,E];exact fL N,O⟩
   .simp_all
  .simp at A
 case D3 n sz k x i=>
  simp only[fk]at A;split at A
  .rename_i t y j E;simp only[IS]at A;obtain⟨⟨B,hi⟩,M⟩:=A;simp only[cm,IT,agk]at h;obtain⟨Z,F,rfl,rfl⟩:=h;split at M
   .rename_i n' e J;simp only[IS,beq_iff_eq]at M;obtain⟨⟨rfl,Y⟩,hk⟩:=M;obtain⟨r,N,O⟩:=QU J Y hk (cK H B) (cK H hi) F X.w;exact⟨rfl,r,by simp only[execOp,E];exact fL N,O⟩
   .simp_all
  .simp at A
 case lookup ck z m k=>
  simp only[fk]at A;split at A
  .rename_i t m' k' ok E;simp only[IS,beq_iff_eq]at A;obtain⟨⟨⟨I,K⟩,m_⟩,M⟩:=A;simp only[cm,IT,agk]at h;obtain⟨Z,F,rfl,rfl⟩:=h;split at M
   .rename_i kt e J;simp only[IS]at M;obtain⟨u,N,O⟩:=Mf hS J M.1.1 m_ M.1.2 M.2 (cK H I) (cK H K) F;exact⟨rfl,u,by simp only[execOp,E];exact fL N,O⟩
   .simp_all
  .simp at A
 case extract x i=>
  simp only[fk]at A;split at A
  .rename_i y j E;simp only[IS,beq_iff_eq]at A;obtain⟨B,rfl⟩:=A;have B:=cK H B;simp only[cm]at h;split at h
   .rename_i vs n_;rw[n_]at B;simp only[IT,agk]at h;obtain⟨Z,F,rfl,rfl⟩:=h;obtain⟨us,d_,K⟩:=B;obtain⟨u,J,o_⟩:=K.get F;exact⟨rfl,u,by simp only[execOp,E];refine fL ?_;simp[Instr.extract,d_,J],VR.SD σ o_⟩
   .simp at h
  .simp at A
 case qZ n=>
  simp only[fk]at A;split at A
  .rename_i c E;obtain⟨y,t,e,I,K,W,J⟩:=GW A;simp only[cm,AT,agk]at h;obtain⟨rfl,rfl⟩:=h;exact⟨rfl,_,eM E I (λcs=>by simp[builtin,K,W,Builtin.len_,bI J,goInt]),VR.mkInt _ _⟩
  .simp at A
 case lens x=>
  simp only[fk]at A;split at A
  .rename_i c E;obtain⟨y,t,I,K,W,B,J⟩:=GX A;have B:=cK H B;simp only[cm]at h;split at h
   .rename_i s hs;rw[hs]at B;have B:=VR.str B;simp only[AT,agk]at h;obtain⟨rfl,rfl⟩:=h;exact⟨rfl,_,eM E I (λcs=>by simp[builtin,K,W,Builtin.len_,bI J,B,goInt]),VR.mkInt _ _⟩
   .simp at h
  .simp at A
 case len x=>
  simp only[fk]at A;split at A
  .rename_i c E;obtain⟨y,t,e,I,K,W,B,J⟩:=Mh A;have B:=cK H B;simp only[cm]at h;split at h
   .rename_i z hz;rw[hz]at B;split at h
    .rename_i n hn;simp only[AT,agk]at h;obtain⟨rfl,rfl⟩:=h;obtain⟨ad,cp,h_⟩:=mv B hn;exact⟨rfl,_,eM E I (λcs=>by simp[builtin,K,W,Builtin.len_,bI J,h_,goInt]),VR.mkInt _ _⟩
    .simp_all
   .simp at h
  .simp at A
 case tj lo xs=>
  simp only[fk]at A;split at A
  .rename_i c E;obtain⟨I,K⟩:=GY A;have hA:=pM H K;simp only[cm,IT,agk]at h;obtain⟨Z,F,rfl,rfl⟩:=h;refine⟨rfl,?_⟩;unfold Cm at F;split at F
   .simp_all
   .rename_i x ys p_;rw[p_]at hA
    match d_:(c.args.map a.eval).toList,hA with
    |[],hA=>have:=hA.len;simp at this
    |u::us,hA=>
     obtain⟨B,hA⟩:=hA.of_cons;obtain⟨r,g1,g2⟩:=Ed (Q:=Q) (lo:=lo) X.w B hA F;refine⟨r,eM E I (λcs=>?_),g2⟩;cases lo
     .simp only[agH,if_false]at g1 ⊢;have g1:(us.foldlM Builtin.max2 u).run Q X.w=.ok r X.w:=g1;have c_:List.map a.eval c.args.toList=u::us:=by simpa using d_
      simp[builtin,Builtin.max_,c_,g1]
     .simp only[if_true]at g1 ⊢;have g1:(us.foldlM Builtin.min2 u).run Q X.w=.ok r X.w:=g1;have c_:List.map a.eval c.args.toList=u::us:=by simpa using d_
      simp[builtin,Builtin.min_,c_,g1]
  .simp at A
 case cap x=>
  simp only[fk]at A;split at A
  .rename_i c E;obtain⟨y,t,e,I,K,W,B,J⟩:=Mg A;have B:=cK H B;simp only[cm]at h;split at h
   .rename_i z hz;rw[hz]at B;split at h
    .rename_i n hn;simp only[AT,agk]at h;obtain⟨rfl,rfl⟩:=h;obtain⟨ad,l,h_⟩:=R8 B hn;exact⟨rfl,_,eM E I (λcs=>by simp[builtin,K,W,Builtin.cap_,bI J,h_,goInt]),VR.mkInt _ _⟩
    .simp_all
   .simp at h
  .simp at A
 case entry x=>
  simp only[fk]at A;split at A
  .rename_i y E;simp only[cm,IT,agk]at h;obtain⟨Z,F,rfl,rfl⟩:=h;obtain⟨r,g1,g2⟩:=Lw hS (cK H A) F;exact⟨rfl,r,by simp only[execOp,E];exact fL g1,g2⟩
  .simp at A
 case zw f xs=>
  simp only[fk]at A;split at A
  .rename_i g fst a_ E;simp only[IS,beq_iff_eq]at A;obtain⟨⟨M,rfl⟩,B⟩:=A;simp only[cm,IT,agk]at h;obtain⟨cs,b_,rfl,rfl⟩:=h;have:=Ds (pM H B) b_;have i9:a_=#[]:=by simpa using M
   exact⟨rfl,.func (.func (σ f)) (fst.map a.eval) #[],by simp only[execOp,E,Instr.makeFunc,i9];exact fL bv,(fst.map a.eval).toList,by rw[Array.toArray_toList],this⟩
  .simp at A
 case call f args h'=>cases h'<;>simp[cls]at hc
 case DL x=>
  simp only[fk]at A;split at A
  .rename_i s d y E;simp only[IS]at A;obtain⟨B,hd⟩:=A;have B:=cK H B;split at hd
   .rename_i e i6 i7;simp only[IS]at hd;have n9:Q.underlying e=aa (.int .u8):=by
     have:=hd.1;unfold acC at this;split at this
     .assumption
     .simp_all
    simp only[cm,IT,agk]at h;obtain⟨Z,F,rfl,rfl⟩:=h;obtain⟨u,N,O⟩:=Qn hS B F;refine⟨rfl,u,?_,O⟩;simp only[execOp,E];refine fL ?_;simp only[convert,Sem.run_bind,bI i6,bI i7,Result.andThen_ok];have:∃ad l c,a.eval y=.slice ad l c:=by
     unfold vr at F;split at F
     .rename_i z hz;rw[hz]at B;split at F
      .rename_i l hl;obtain⟨ad,c,h⟩:=mv B hl;exact⟨_,_,_,h⟩
      .simp_all
     .simp_all
    obtain⟨ad,l,c,h6⟩:=this;rw[h6]at N ⊢;simp only[Sem.run_bind,bI n9,Result.andThen_ok,N]
   .simp_all
  .simp at A
end
section
variable{Q:Program}{σ:Nat->FuncId}{X:Wd}
theorem SR.lt(d:SR Q σ X){b:Nat}{L:Loc}(h:X.di b=aa L):b<X.H.length:=by
 obtain⟨_,_,cP,hb,_⟩:=d.br b L h
 grind
theorem SR.uS(b:SR Q σ X):X.di X.H.length=ab:=by
 cases h:X.di X.H.length with
 |none=>rfl| some L=>have:=SR.lt b h;omega
theorem Ext.one(x:SR Q σ X){X':Wd}(b0:Nat)(s:X'.B=X.B)(m:∀c i,X'.F c i↔X.F c i)
  (q:∀k,k<X.w.heap.size->(∀L,X.di b0=aa L->k≠L.c)->X'.w.heap[k]?=X.w.heap[k]?)
  (u:∀L i,X.di b0=aa L->X.F L.c i->X'.w.cell? ⟨L.c,i,ab⟩=X.w.cell? ⟨L.c,i,ab⟩) (l:b0<X.H.length->oO X X' b0)
  (v:∀b,b≠b0->b<X.H.length->X'.H[b]?=X.H[b]?) (j:∀b,b≠b0->X'.di b=X.di b)
  (A:∀L,X'.di b0=aa L->(∃L0,X.di b0=aa L0/\L0.c=L.c)\/X.w.heap.size<=L.c) (E:X.w.heap.size<=X'.w.heap.size) (ho:X'.w.os=X.w.os) (H:X'.w.tape=X.w.tape)
  (hu:X'.w.output=X.w.output):Ext X.H.length X X' where
 B:=s
 F:=λc i h=>(m c i).2 h
 sy:=λc i h=>.inl ((m c i).1 h)
 fw:=λc i h=>by
  by_cases hc:∃L,X.di b0=aa L/\c=L.c
  .grind
  .exact World.cell?_of_block (q c (x.fb c i h) λL d e=>hc ⟨L,d,e⟩)
 bH:=λb hb=>by
  by_cases h:b=b0
  .simp_all
  .intro cP g;refine⟨cP,(v b h hb).trans g,?_⟩;have:∀L,X.di b=aa L->X'.di b=aa L:=λL d=>(j b h).trans d;cases cP<;>simp_all
 AH:=λb L hb=>by
  grind
 size:=E
 os:=ho
 tape:=H
 output:=hu
 frame:=λk y z=>q k y λL d e=>z b0 L d e.symm
theorem SR.grow(d:SR Q σ X)(cP:bO):SR Q σ { X with H:=X.H++[cP] }/\Ext X.H.length X { X with H:=X.H++[cP] }:=by
 have g:Ext X.H.length X { X with H:=X.H++[cP] }:=Ext.one d X.H.length rfl (λ_ _=>Iff.rfl) (λ_ _ _=>rfl) (λ_ _ _ _=>rfl) (λh=>by omega)
  (λb _ h=>by simp[AI h]) (λ_ _=>rfl) (λL h=>by rw[SR.uS d]at h;simp at h) (agn _) rfl rfl rfl
 refine⟨⟨λb L hb=>?_,d.inj,d.fb⟩,g⟩;obtain⟨h1,h2,blk',h3,h4⟩:=d.br b L hb;exact⟨h1,h2,blk',by rw[AI (SR.lt d hb)];exact h3,BR.ext Q σ g rfl (λ_ h=>h) h4⟩
structure fA(w w':World)(o:Obj):Prop where
 heap:w'.heap=w.heap.push o
 os:w'.os=w.os
 tape:w'.tape=w.tape
 output:w'.output=w.output
theorem fA.alloc(w:World)(o:Obj):fA w (w.alloc o) o:=⟨rfl,rfl,rfl,rfl⟩
theorem fA.Fg{w w':World}{o:Obj}(h:fA w w' o){k:Nat}(b:k<w.heap.size):w'.heap[k]?=w.heap[k]?:=by
 rw[h.heap,Array.getElem?_push,ct ap]
theorem fA.new{w w':World}{o:Obj}(h:fA w w' o):w'.heap[w.heap.size]?=aa o:=by
 rw[h.heap];simp
theorem fA.size{w w':World}{o:Obj}(h:fA w w' o):w'.heap.size=w.heap.size+1:=by
 rw[h.heap];simp
theorem SR.fill(g:SR Q σ X)(x:X.B<=X.w.heap.size){n:Nat}{cP:bO}(y:X.H[n]?=aa cP)(u:X.di n=ab){w':World}{o:Obj}(d:fA X.w w' o)(cap:Nat)
  (l:Ext X.H.length X { X with di:=λb=>if b=n then aa ⟨X.w.heap.size,cap⟩else X.di b,w:=w' }->BR Q σ { X with di:=λb=>if b=n then aa ⟨X.w.heap.size,cap⟩else X.di b,w:=w' } cP ⟨X.w.heap.size,cap⟩) :
  SR Q σ { X with di:=λb=>if b=n then aa ⟨X.w.heap.size,cap⟩else X.di b,w:=w' }/\Ext X.H.length X { X with di:=λb=>if b=n then aa ⟨X.w.heap.size,cap⟩else X.di b,w:=w' }:=by
 have m:Ext X.H.length X { X with di:=λb=>if b=n then aa ⟨X.w.heap.size,cap⟩else X.di b,w:=w' }:=
  Ext.one g n rfl (λ_ _=>Iff.rfl) (λk h _=>d.Fg h) (λL i s _=>by rw[u]at s;simp at s)
   (λ_ q j=>⟨q,j,by
    cases q<;>simp[u]⟩)
   (λ_ _ _=>rfl) (λb h=>by simp[h]) (λL h=>by simp at h;subst h;exact .inr (agn _)) (by rw[d.size];omega) d.os d.tape d.output
 refine⟨SR.step Q σ g m n (λ_ _=>rfl) (λb h=>by simp[h]) (λb L _ hb=>d.Fg (g.br b L hb).2.1) (λ_ _ _ _ _ h=>h) (λL h=>?_) (λc i h=>by rw[d.size];have:=g.fb c i h;omega),m⟩;simp at h;subst h;refine⟨x,by simp[d.size],⟨cP,y,l m⟩,λb v _ hb=>?_⟩;have:=(g.br b v hb).2.1
 grind
theorem SR.new(d:SR Q σ X)(j:X.B<=X.w.heap.size)(cP:bO){w':World}{o:Obj}(g:fA X.w w' o)(cap:Nat)
  (b:∀X',Ext X.H.length X X'->X'.w=w'->X'.F=X.F->X'.H=X.H++[cP]->BR Q σ X' cP ⟨X.w.heap.size,cap⟩) :
  ∃X',X'.w=w'/\X'.H=X.H++[cP]/\SR Q σ X'/\Ext X.H.length X X'/\X'.di X.H.length=aa ⟨X.w.heap.size,cap⟩/\X'.B<=X'.w.heap.size:=by
 obtain⟨h1,h2⟩:=SR.grow d cP;have l:(X.H++[cP])[X.H.length]?=aa cP:=by simp
 obtain⟨h3,h4⟩:=SR.fill h1 j l (SR.uS d) g cap (λm=>b _ (h2.trans (m.mono bv)) rfl rfl rfl);exact⟨_,rfl,rfl,h3,h2.trans (h4.mono bv),bv,by simp[g.size];omega⟩
theorem SR.turn(m:SR Q σ X){b:Nat}{cP blk':bO}{L:Loc}(hb:X.H[b]?=aa cP)(l:X.di b=aa L){w':World}(x:w'.heap.size=X.w.heap.size)
  (y:∀k,k≠L.c->w'.heap[k]?=X.w.heap[k]?) (z:∀i,X.F L.c i->w'.cell? ⟨L.c,i,ab⟩=X.w.cell? ⟨L.c,i,ab⟩) (ho:w'.os=X.w.os) (A:w'.tape=X.w.tape) (hu:w'.output=X.w.output)
  (j:oO X { X with H:=X.H.set b blk',w:=w' } b)
  (s:Ext X.H.length X { X with H:=X.H.set b blk',w:=w' }->BR Q σ { X with H:=X.H.set b blk',w:=w' } blk' L) :
  SR Q σ { X with H:=X.H.set b blk',w:=w' }/\Ext X.H.length X { X with H:=X.H.set b blk',w:=w' }:=by
 have u:b<X.H.length:=(OF.1 hb).1;have v:Ext X.H.length X { X with H:=X.H.set b blk',w:=w' }:=
  Ext.one m b rfl (λ_ _=>Iff.rfl) (λk _ h=>y k (h L l)) (λd i h=>by rw[l]at h;cases h;exact z i) (λ_=>j)
   (λq h _=>by simp[sh (Ne.symm h)]) (λ_ _=>rfl) (λd h=>.inl ⟨d,h,rfl⟩) (Nat.le_of_eq x.symm) ho A hu
 refine⟨SR.step Q σ m v b (λq h=>by simp[sh (Ne.symm h)]) (λ_ _=>rfl) (λq d h g=>y _ λe=>h (m.inj q b d L g l e)) (λ_ _ _ _ _ h=>h)
  (λd h=>?_) (λc i h=>by rw[x];exact m.fb c i h),v⟩
 change X.di b=aa d at h;rw[l]at h;cases h;obtain⟨h1,h2,_⟩:=m.br b L l;exact⟨h1,by show L.c<w'.heap.size;omega,⟨blk',by simp[u],s v⟩,λq d h g e=>h (m.inj q b d L g l e)⟩
theorem lS{w:World}{c:Nat}{us:List Value}(h:rowAt w c us):∀(d:List Value) (b:Nat),b+d.length<=us.length->
  (w.setCells c b d).heap.size=w.heap.size/\(∀k,k≠c->(w.setCells c b d).heap[k]?=w.heap[k]?)/\(w.setCells c b d).os=w.os/\(w.setCells c b d).tape=w.tape/\
  (w.setCells c b d).output=w.output/\rowAt (w.setCells c b d) c (over us b d)
 |[],b,_=>⟨rfl,λ_ _=>rfl,rfl,rfl,rfl,by simpa[World.setCells,over]using h⟩
 |v::d,b,l=>by
  simp only[agP]at l;have g:rowAt (w.setCell ⟨c,b,ab⟩ v) c (us.set b v):=by
   obtain⟨e,q,g,j⟩:=h;refine⟨e,q,?_,by simpa using j⟩;simp[World.setCell,Array.getElem?_modify,g]
  obtain⟨j,s,u,x,y,z⟩:=lS g d (b+1) ge;simp only[World.setCells];refine⟨by rw[j];simp,λk m=>(s k m).trans ?_,u,x,y,?_⟩
  .simp only[World.setCell,Array.getElem?_modify];rw[ct (by simpa using Ne.symm m)]
  .have:over (us.set b v) (b+1) d=over us b (v::d):=by
    unfold over;simp only[agP];rw[List.take_set,List.drop_set_of_lt ap,show b+1+d.length=b+(d.length+1) by omega];rw[aiJ ap];have l:(List.take b us).length=b:=by simp;omega
    have e:(List.take b us++[us[b]]).set b v=List.take b us++[v]:=by
     rw[List.set_append,ct ap,l];simp
    simp_all
   simp_all
theorem uY{w:World}{c:Nat}{us:List Value}(h:rowAt w c us)(d:List Value)(b:Nat)(m:b+d.length<=us.length)(g:∀v∈d,v.oneCell'=ae) :
  (storeCells ⟨c,b,ab⟩ d).run Q w=.ok () (w.setCells c b d):=by
 have:=run_storeCells_cells (P:=Q) c b d 0 w (λj l=>by rw[fC h];simp;omega) (λj l=>Gx h ap) g;omega
theorem Et{α:Type}(us:List α)(b:Nat)(d:List α)(h:b+d.length<=us.length)(i:Nat)(hi:i<b):(over us b d)[i]?=us[i]?:=by
 unfold over
 grind
end
section
variable{Q:Program}{σ:Nat->FuncId}{X:Wd}
def jN(Q:Program)(σ:Nat->FuncId)(X:Wd)(v:V)(H':an)(s:Sem Next):Prop:=
 ∃u X',(s.run Q X.w=.ok (.value u) X'.w\/(s.run Q X.w=.ok .skip X'.w/\u=undef))/\X'.H=H'/\SR Q σ X'/\VR σ X' v u/\Ext X.H.length X X'/\X'.B<=X'.w.heap.size
theorem jN.acQ(b:X.B<=X.w.heap.size)(d:SR Q σ X){v:V}{H':an}{s:Sem Next}(h:H'=X.H/\∃u,s.run Q X.w=.ok (.value u) X.w/\VR σ X v u):jN Q σ X v H' s:=by
 obtain⟨rfl,u,h1,h2⟩:=h;exact⟨u,X,.inl h1,rfl,d,h2,Ext.refl _ _,b⟩
theorem qO{w w':World}{us:List Value}{e:TypeId}(h:fA w w' (.cells us.toArray e)):rowAt w' w.heap.size us:=⟨e,(0,0),h.new,λi _=>by simp⟩
theorem G7(b:SR Q σ X)(g:X.B<=X.w.heap.size){cs:List C}{us:List Value}(h:A2 (CR σ X) cs us)(e:TypeId) :
  ∃X',X'.w=X.w.alloc (.cells us.toArray e)/\X'.H=X.H++[.box cs 0]/\SR Q σ X'/\Ext X.H.length X X'/\X'.di X.H.length=aa ⟨X.w.heap.size,0⟩/\X'.B<=X'.w.heap.size:=
 SR.new b g (.box cs 0) (fA.alloc _ _) 0 λX' m l j _=>⟨us,by rw[l];exact qO (fA.alloc _ _),A2.ext' σ m h,λi _ d=>by
  rw[j]at d;have:=b.fb _ _ d;simp at this⟩
theorem yc(u:SR Q σ X)(q:X.B<=X.w.heap.size){cs:List C}{us:List Value}(h:A2 (CR σ X) cs us)(e:TypeId){s:Sem Next}
  (v:s.run Q X.w=.ok (.value (.pointer (aa ⟨X.w.heap.size,0,ab⟩))) (X.w.alloc (.cells us.toArray e))):jN Q σ X (.c (.ptr X.H.length 0 0)) (X.H++[.box cs 0]) s:=by
 obtain⟨X',d,b,g,j,l,m⟩:=G7 u q h e;refine⟨_,X',.inl (by rw[d];exact v),b,g,?_,j,m⟩;exact⟨_,l,by rw[b];simp⟩
theorem P3(m:SR Q σ X)(l:X.B<=X.w.heap.size){a:Act}{o:Oper}{zs:List FC}(b:fk Q σ o (.alloc zs)=ae) :
  jN Q σ X (.c (.ptr X.H.length 0 0)) (X.H++[.box (zs.map .f) 0]) (execOp a.eval o):=by
 simp only[fk]at b;split at b
 .rename_i t q;obtain⟨z,us,d,g,j,_⟩:=gH (σ:=σ) (X:=X) b X.w;refine yc m l j t ?_;simp only[execOp,q];refine fL ?_;simp[Instr.alloc,d,newVar,newRow,g]
 .simp at b
theorem Yu(m:SR Q σ X)(j:X.B<=X.w.heap.size){a:Act}{aN:T}(l:RR σ X aN a.tmps){o:Oper}{x:Arg}(b:fk Q σ o (.box x)=ae){xs:List C}(s:(x.ev aN).cells?=aa xs) :
  jN Q σ X (.c (.ptr X.H.length 0 0)) (X.H++[.box xs 0]) (execOp a.eval o):=by
 simp only[fk]at b;split at b
 .rename_i t y q;obtain⟨us,d,g⟩:=sI (cK l b) s;refine yc m j g t ?_;simp only[execOp,q];refine fL ?_;simp[Instr.box,newVar,newRow,d]
 .simp at b
theorem mz{zs:List FC}{us:List Value}(h:A2 (CR σ X) (zs.map .f) us)(n:Nat):A2 (CR σ X) ((dJ n zs).map .f) (dJ n us):=by
 induction n with
 |zero=>exact A2.nil
 |succ n b=>
  simp only[dJ,ail,List.flatten_cons,List.map_append]at b ⊢;exact h.append b
theorem nT{α:Type}(n:Nat)(xs:List α):(dJ n xs).length=n*xs.length:=by simp[dJ]
theorem EO{α:Type}(us:List α):∀(n i:Nat),i<n*us.length->(dJ n us)[i]?=us[i % us.length]?
 |0,i,h=>by simp at h
 |n+1,i,h=>by
  have b:dJ (n+1) us=us++dJ n us:=by simp[dJ,ail]
  rw[b];by_cases hi:i<us.length
  .rw[AI hi,Nat.mod_eq_of_lt hi]
  .have d:(n+1)*us.length=n*us.length+us.length:=by rw[agS];omega
   rw[agj ap,EO us n (i-us.length) ap];rw[<-Nat.mod_eq_sub_mod ap]
theorem kQ(us:List Value)(n:Nat)(l:0<us.length):((Array.range (n*us.length)).map λi=>us.toArray[i % us.toArray.size]!)=(dJ n us).toArray:=by
 apply Array.ext
 .simp[nT]
 .intro i b g;have d:i<n*us.length:=by simpa using b
  have j:=EO us n i d
  grind
theorem KM(d:SR Q σ X)(hB:X.B<=X.w.heap.size){a:Act}{aN:T}(hR:RR σ X aN a.tmps){o:Oper}{sz n:Nat}{zs:List FC}{ps:List (Nat × Arg)}
  (m:fk Q σ o (.ft sz zs n ps)=ae) {v:V} {H':an} (h:cm aN X.H (.ft sz zs n ps)=aa (v,H')):jN Q σ X v H' (execOp a.eval o):=by
 simp only[fk]at m;split at m
 .rename_i t l qs Y;simp only[IS,beq_iff_eq,decide_eq_true_eq]at m;obtain⟨⟨⟨⟨rfl,U⟩,A⟩,f⟩,Z⟩:=m;obtain⟨e,r,A⟩:=kh A;simp only[IS,decide_eq_true_eq]at A;obtain⟨⟨s,hz⟩,b_⟩:=A;obtain⟨z,us,N,O,u,_⟩:=gH (σ:=σ) (X:=X) hz X.w;have M:us.length=sz:=by have:=u.len;simp at this;omega
  simp only[cm]at h;split at h
  .
   rename_i W;subst W;split at h
   .rename_i a_;simp only[AT,agk]at h;obtain⟨rfl,rfl⟩:=h;have j:qs.toList=[]:=by
     have:=(gn Z).len
     grind
    have j:qs=#[]:=by apply Array.ext';simpa using j
    obtain⟨X',E,y,F,H,S,I⟩:∃X':Wd,X'.w=X.w.alloc (.cells #[] e)/\X'.H=X.H/\SR Q σ X'/\Ext X.H.length X X'/\True/\X'.B<=X'.w.heap.size:=by
     have hx:Ext X.H.length X { X with w:=X.w.alloc (.cells #[] e) }:=Ext.one d X.H.length rfl (λ_ _=>Iff.rfl) (λk hk _=>(fA.alloc _ _).Fg hk)
      (λL i h=>by rw[SR.uS d]at h;simp at h) (λh=>by omega) (λ_ _ _=>rfl) (λ_ _=>rfl) (λL h=>by rw[SR.uS d]at h;simp at h) bv rfl rfl rfl
     refine⟨{ X with w:=X.w.alloc (.cells #[] e) },rfl,rfl,SR.step Q σ d hx X.H.length (λ_ _=>rfl) (λ_ _=>rfl) (λb L _ hb=>(fA.alloc _ _).Fg (d.br b L hb).2.1)
      (λ_ _ _ _ _ h=>h) (λL h=>by rw[SR.uS d]at h;simp at h) (λc i h=>?_),hx,trivial,?_⟩
     .have:=d.fb c i h;simp;omega
     .simp;omega
    refine⟨.slice (aa ⟨X.w.heap.size,0,ab⟩) 0 0,X',.inl ?_,y,F,dC.es _,H,I⟩;rw[E];simp only[execOp,Y];refine fL ?_;simp[Instr.buildSlice,bI r,dS s,j,Instr.fill,newRow,show Array.range 0=(#[]:Array Nat) from rfl]
   .simp at h
  .rename_i W;simp only[IT,agk]at h;obtain⟨cs,J,rfl,rfl⟩:=h;obtain⟨c9,S,I⟩:=qB (place:=λi=>aa (i*sz,sz)) (ps:=qs.toList) hR (qs:=ps.map λp=>(p.1*sz,sz,p.2)) (A2.map ((gn Z).nZ λq p g=>by
    simp only[IS,beq_iff_eq]at g;exact⟨by rw[g.1],g.2⟩)) (mz u l) J
   obtain⟨X',E,y,F,H,h7,h8⟩:=G7 d hB I e;refine⟨.slice (aa ⟨X.w.heap.size,0,ab⟩) l l,X',.inl ?_,y,F,?_,H,h8⟩
   .rw[E];simp only[execOp,Y];refine fL ?_;have K:l*sz≠0:=by
     intro B;rcases aiz.1 B with B|B<;>omega
    have x:=kQ us l ap;rw[M]at x;simp only[Instr.buildSlice,Sem.run_bind,bI r,dS s,Result.andThen_ok,ct (show¬ l*sz>2 ^ 24 by omega),Sem.run_ite,ct K,N,Sem.run_pure,O];simp only[Array.toList_map];rw[x];simp[S,newRow]
   .simp only[VR,jO,CR,iL,y];simp_all
 .simp at m
theorem Iy:∀{cs:List C} {b:List FC},Vl cs=aa b->cs=b.map .f
 |[],b,h=>by simp[Vl]at h;subst h;rfl
 |c::cs,b,h=>by
  cases c with
  |f x=>
   simp only[Vl,IT]at h;obtain⟨g,d,rfl⟩:=h;rw[Iy d];rfl
  |_=>simp[Vl]at h
theorem AD(s:SR Q σ X)(hB:X.B<=X.w.heap.size){a:Act}{aN:T}(hR:RR σ X aN a.tmps){o:Oper}{sz n:Nat}{zs:List FC}{ps:List (Nat × Arg)}
  (J:fk Q σ o (.kY sz zs n ps)=ae) {v:V} {H H':an} (h:cm aN H (.kY sz zs n ps)=aa (v,H')) :
  H'=H/\∃u X',(execOp a.eval o).run Q X.w=.ok (.value u) X'.w/\X'.H=X.H/\SR Q σ X'/\VR σ X' v u/\Ext X.H.length X X'/\X'.B<=X'.w.heap.size/\X'.di=X.di:=by
 simp only[fk]at J;split at J
 .rename_i t j qs ho;simp only[IS,beq_iff_eq,decide_eq_true_eq]at J;obtain⟨⟨⟨⟨rfl,c_⟩,S⟩,d9⟩,hq⟩:=J;obtain⟨e,U,S⟩:=kh S;simp only[IS,decide_eq_true_eq]at S;obtain⟨⟨f,hz⟩,d_⟩:=S;obtain⟨z,us,b_,c9,N,_⟩:=gH (σ:=σ) (X:=X) hz X.w;have r:us.length=sz:=by have:=N.len;simp at this;omega
  simp only[cm,IT,agR,agk]at h;obtain⟨fs,⟨cs,Y,l⟩,rfl,rfl⟩:=h;split at l
  .simp at l
  rename_i hn;have A:=Iy l;obtain⟨d,h5,h6⟩:=qB (place:=λi=>aa (i*sz,sz)) (ps:=qs.toList) hR (qs:=ps.map λp=>(p.1*sz,sz,p.2)) (A2.map ((gn hq).nZ λq p m=>by
   simp only[IS,beq_iff_eq]at m;exact⟨by rw[m.1],m.2⟩)) (mz N j) Y
  have g:fA X.w (X.w.alloc (.cells d.toArray e)) (.cells d.toArray e):=fA.alloc _ _;obtain⟨w',M⟩:=aI (X.w.alloc (.cells d.toArray e));rw[<-M]at g;have E:∀c i,X.F c i->w'.cell? ⟨c,i,ab⟩=X.w.cell? ⟨c,i,ab⟩:=λc i h=>World.cell?_of_block (g.Fg (s.fb c i h));have hx:Ext X.H.length X { X with w:=w',F:=λc i=>X.F c i\/(c=X.w.heap.size/\i<d.length) }:={
   B:=rfl
   F:=λc i h=>.inl h
   sy:=λc i h=>h.elim .inl λh=>.inr (.inl (by rw[h.1];exact agn _))
   fw:=E
   bH:=λb _ cP y=>⟨cP,y,by cases cP<;>simp⟩
   AH:=λb L h=>.inl ⟨b,L,h,rfl⟩
   size:=by show _<=w'.heap.size;rw[g.size];omega
   os:=g.os
   tape:=g.tape
   output:=g.output
   frame:=λk hk _=>g.Fg hk }
  refine⟨rfl,.slice (aa ⟨X.w.heap.size,0,ab⟩) j j,{ X with w:=w',F:=λc i=>X.F c i\/(c=X.w.heap.size/\i<d.length) },?_,rfl,?_,?_,hx,?_,rfl⟩
  .simp only[execOp,ho];refine fL ?_;have Z:j*sz≠0:=by
    intro W;rcases aiz.1 W with W|W<;>omega
   have O:=kQ us j ap;rw[r]at O;simp only[Instr.buildSlice,Sem.run_bind,bI U,dS f,Result.andThen_ok,ct (show¬ j*sz>2 ^ 24 by omega),Sem.run_ite,ct Z,b_,Sem.run_pure,c9];simp only[Array.toList_map];rw[O];simp[h5,newRow,M]
  .exact SR.step Q σ s hx X.H.length (λ_ _=>rfl) (λ_ _=>rfl) (λb L _ y=>g.Fg (s.br b L y).2.1)
    (λb L _ y i h=>h.elim id λh=>by have:=(s.br b L y).2.1;omega) (λL h=>by change X.di X.H.length=aa L at h;rw[SR.uS s]at h;simp at h)
    (λc i h=>by
     show c<w'.heap.size;rw[g.size];rcases h with h|h
     .have:=s.fb c i h;omega
     .omega)
  .have I:d.length=fs.length:=by have:=h6.len;rw[A]at this;simp at this;omega
   refine dC.fs fs j X.w.heap.size 0 j d (agn _) I (λi hi=>.inr ⟨rfl,ap⟩) (λi u U=>?_) λi x u a_ U=>?_
   .simp_all
   .obtain⟨u',K,hr⟩:=h6.get (i:=i) (x:=.f x) (by rw[A,ahp,a_];rfl);rw[U]at K;cases K;exact dC.mono (λc i h=>.inl h) E hr
  .show X.B<=w'.heap.size;rw[g.size];omega
 .simp at J
end
section
variable{Q:Program}{σ:Nat->FuncId}{X:Wd}
theorem Es{α:Type}(us rest:List α)(b:Nat)(d:List α)(h:b+d.length<=us.length):over (us++rest) b d=over us b d++rest:=by
 unfold over
 grind
theorem A2.one{cs:List C}{us:List Value}(h:A2 (CR σ X) cs us):∀v∈us,v.oneCell'=ae:=by
 intro v d;obtain⟨i,hi⟩:=ahI d;have b:i<cs.length:=by rw[h.len];exact(OF.1 hi).1
 exact CR.one σ (h.2 i _ v (By b) hi)
theorem Fa(z:SR Q σ X){b:Nat}{cs:List C}{fl:Nat}{L:Loc}(q:X.H[b]?=aa (.box cs fl))(y:X.di b=aa L){xs:List C}{l:List Value}(v:A2 (CR σ X) xs l){d:Nat}
  (I:fl<=d) (W:d+xs.length<=cs.length):∃X',(storeCells ⟨L.c,d,ab⟩ l).run Q X.w=.ok () X'.w/\X'.H=X.H.set b (.box (over cs d xs) fl)/\SR Q σ X'/\Ext X.H.length X X'/\
   (∀b,X'.di b=X.di b)/\X'.w.heap.size=X.w.heap.size/\X'.B=X.B:=by
 obtain⟨_,_,cP,j,s⟩:=z.br b L y;rw[q]at j;simp only[AT]at j;subst j;obtain⟨us,u,x,E⟩:=s;have K:=v.len;have J:=x.len;obtain⟨A,M,N,O,S,B⟩:=lS u l d ap;obtain⟨F,H⟩:=SR.turn z (blk':=.box (over cs d xs) fl) q y A M (λi U=>by
   rw[fC B,fC u];have:i<d:=by
    grind
   exact Et us d l ap i this) N O S
  (λcP g=>⟨.box (over cs d xs) fl,by simp[(OF.1 q).1],by rw[q]at g;simp only[AT]at g;subst g;exact λL h=>h⟩)
  (λm=>⟨over us d l,B,A2.over (A2.ext' σ m x) (A2.ext' σ m v) d,E⟩)
 exact⟨_,uY u l d ap (A2.one v),rfl,F,H,λ_=>rfl,A,rfl⟩
theorem Fb(B:SR Q σ X){b:Nat}{sz:Nat}{cs:List C}{fl q:Nat}{L:Loc}(s:X.H[b]?=aa (.dj sz cs fl q .loc))(A:X.di b=aa L){xs:List C}{l:List Value}(x:A2 (CR σ X) xs l){d:Nat}
  (N:fl<=d) (O:d+xs.length<=cs.length):∃X',(storeCells ⟨L.c,d,ab⟩ l).run Q X.w=.ok () X'.w/\X'.H=X.H.set b (.dj sz (over cs d xs) fl q .loc)/\SR Q σ X'/\Ext X.H.length X X'/\
   (∀b,X'.di b=X.di b)/\X'.w.heap.size=X.w.heap.size/\X'.B=X.B:=by
 obtain⟨_,_,cP,j,u⟩:=B.br b L A;rw[s]at j;simp only[AT]at j;subst j;obtain⟨U,us,rest,v,z,J,K,M,F⟩:=u;have Y:=x.len;have W:=z.len;obtain⟨E,Z,a,c,e,y⟩:=lS v l d ge;rw[Es _ _ _ _ ap]at y;have S:=Eu us d l ap;obtain⟨H,I⟩:=SR.turn B (blk':=.dj sz (over cs d xs) fl q .loc) s A E Z (λi f=>by
   rw[fC y,fC v];have:i<d:=by
    grind
   rw[AI ap,AI ap];exact Et us d l ap i this) a c e
  (λcP g=>⟨.dj sz (over cs d xs) fl q .loc,by simp[(OF.1 s).1],by rw[s]at g;simp only[AT]at g;subst g;exact⟨rfl,.inl ⟨rfl,rfl,λL h=>h⟩⟩⟩)
  (λm=>⟨rfl,over us d l,rest,y,A2.over (A2.ext' σ m z) (A2.ext' σ m x) d,by simp only[aft]at J ⊢;omega,K,by rw[Eu cs d xs O];exact M,F⟩)
 exact⟨_,uY v l d ge (A2.one x),rfl,H,I,λ_=>rfl,E,rfl⟩
theorem Sf(s:SR Q σ X){x:C}{u:Value}(d:CR σ X x u){xs:List C}{v:List Value}(m:A2 (CR σ X) xs v){H':an}(h:cY X.H x xs=aa H') :
  ∃c g X',u=.pointer (aa ⟨c,g,ab⟩)/\(storeCells ⟨c,g,ab⟩ v).run Q X.w=.ok () X'.w/\X'.H=H'/\SR Q σ X'/\Ext X.H.length X X'/\X'.w.heap.size=X.w.heap.size/\X'.B=X.B:=by
 unfold cY at h;split at h
 .rename_i b g H;obtain⟨L,q,d⟩:=d;split at h
  .rename_i cs fl l;rw[l]at d;simp only at d;subst d;split at h
   .rename_i j;simp only[AT]at h;subst h;obtain⟨X',y,z,A,B,_,E,F⟩:=Fa s l q m j.1 j.2
    grind
   .simp at h
  .rename_i sz cs fl e l;rw[l]at d;split at h
   .rename_i j;have d:=d.2.1 j.1;subst d;simp only[AT]at h;subst h;obtain⟨X',y,z,A,B,_,E,F⟩:=Fb s l q m j.2.1 j.2.2
    grind
   .simp at h
  .simp at h
 .simp at h
theorem Si(B:SR Q σ X)(Y:X.B<=X.w.heap.size){a:Act}{aN:T}(q:RR σ X aN a.tmps){o:Oper}{n:Nat}{x y:Arg}(b:fk Q σ o (.store n x y)=ae){v:V}{H':an}
  (h:cm aN X.H (.store n x y)=aa (v,H')):jN Q σ X v H' (execOp a.eval o):=by
 simp only[fk]at b;split at b
 .rename_i t M N F;simp only[IS]at b;obtain⟨⟨E,g⟩,m⟩:=b;have g:=cK q g;have m:=cK q m;simp only[cm]at h;split at h
  .rename_i p xs H l;rw[H]at g;split at h
   .rename_i s;simp only[IT,agk]at h;obtain⟨O,j,rfl,rfl⟩:=h;obtain⟨Z,J,d⟩:=sI m l;obtain⟨c,L,X',I,S,u,z,A,U,W⟩:=Sf B g d j;refine⟨undef,X',.inr ⟨?_,rfl⟩,u,z,trivial,A,ap⟩;have K:=d.len;simp only[execOp,F,Sem.run_bind];have:(Instr.storeAt t (a.eval M) (a.eval N)).run Q X.w=.ok () X'.w:=by
     rw[I];simp[Instr.storeAt,Instr.sureAddr,storeVar,dS E,J];simp_all
    simp_all
   .simp at h
  .simp at h
 .simp at b
end
section
variable{Q:Program}{σ:Nat->FuncId}{X:Wd}
theorem AF(n:Nat):∀(r c:Nat),Builtin.growBy n r c<=Nat.max c (n+(n+768) / 4)
 |0,c=>by simp[Builtin.growBy];exact Nat.le_max_left _ _
 |r+1,c=>by
  simp only[Builtin.growBy];split
  .grind
  .rename_i h;refine agK (AF n r _) ?_
   grind
theorem yd{need cap:Nat}(h:cap<need):Builtin.nextslicecap need cap<=2*need+768:=by
 unfold Builtin.nextslicecap;split
 .omega
 .split
  .omega
  .refine agK (AF need 4 cap) ?_
   grind
theorem Di(K:SR Q σ X){sz:Nat}{y:V}{u:Value}(v:VR σ X y u){m:Nat}{ys:List C}(h:dG X.H sz y=aa (m,ys)) :
  ∃F,(Builtin.lenOf u).run Q X.w=.ok m X.w/\(Builtin.firstCells sz m u).run Q X.w=.ok F.toArray X.w/\A2 (CR σ X) ys F/\ys.length=m*sz:=by
 unfold dG at h;split at h
 .rename_i s;have:=VR.str v;subst this;split at h
  case isFalse=>simp at h
  rename_i q;subst q;simp only[AT,agk]at h;obtain⟨rfl,rfl⟩:=h;have g:s.extract 0 s.size=s:=ByteArray.extract_zero_size;refine⟨s.data.toList.map λb=>.int .u8 b.toNat,by simp[Builtin.lenOf],?_,?_,?_⟩
  .simp only[Builtin.firstCells,g,Sem.run_pure]
   congr 1
   grind
  .rw[ByteArray.toList_eq];exact⟨bv,λi x u E B=>by
    simp only[ahp,IT]at E B;obtain⟨c,L,rfl⟩:=E;obtain⟨d,z,rfl⟩:=B;rw[L]at z;cases z;exact dC.int _ _⟩
  .rw[ByteArray.toList_eq];simp only[List.length_map,Array.length_toList,Nat.mul_one];rfl
 .rename_i x M;split at h
  .rename_i l cs A j;simp only[AT,agk]at h;obtain⟨rfl,rfl⟩:=h;obtain⟨us,H,I,J⟩:=oH K v A j;obtain⟨a,c,rfl⟩:=mv v A;exact⟨us,by simp[Builtin.lenOf],H,I,J⟩
  .simp at h
 .simp at h
structure abp(Q:Program)(t t' e:TypeId)(sz bytes:Nat):Prop where
 hu:Q.underlying t=aa (.slice e)
 hu':∃d,Q.underlying t'=aa d/\(∀k,d≠.int k)
 vW:eB Q e sz=ae
 hby:qd Q e bytes=ae
 pos:0<sz
 zero:∃i z,Q.info? e=aa i/\i.zero=aa z/\z.cells.size=sz
def uW(base:Option Addr)(k:Nat)(b:List Value):Sem Unit:=match base with
 |some a=>storeCells (a.add k) b| none=>pure ()
theorem mu{t N e:TypeId}{sz bytes:Nat}(j:abp Q t N e sz bytes)(U:TypeId){base:Option Addr}{l cap m:Nat}{u:Value}{g:List Value}{w:World}
  (O:(Builtin.lenOf u).run Q w=.ok m w) (X:(Builtin.firstCells sz m u).run Q w=.ok g.toArray w) :
  (l+m<=cap->(Builtin.append_ #[t,N] U #[.slice base l cap,u]).run Q w =
   ((uW base (l*sz) g).run Q w).andThen λ_ w'=>.ok (.slice base (l+m) cap) w')/\
  (¬ l+m<=cap->cD (l+m) bytes=ae->∀os g:List Value,(Builtin.firstCells sz l (.slice base l cap)).run Q w.drew=.ok os.toArray w.drew->(Builtin.firstCells sz m u).run Q w.drew=.ok g.toArray w.drew->
   ∃nc rest w',l+m<=nc/\(Builtin.append_ #[t,N] U #[.slice base l cap,u]).run Q w=.ok (.slice (aa ⟨w.heap.size,0,ab⟩) (l+m) nc) w'/\
    fA w w' (.cells (os++g++rest).toArray e)/\rest.length=(nc-(l+m))*sz):=by
 obtain⟨d,S,a⟩:=j.hu';obtain⟨i,z,hi,c,y⟩:=j.zero;obtain⟨q,s,B⟩:=CI j.hby w;have A:((d matches .int _):Bool)=ag:=by
  simp
 constructor
 .intro H;simp only[Builtin.append_,aic];simp[bI j.hu,bI S,dS j.vW,A,O,H,X];cases base<;>simp[uW]
 .intro F b os g Y Z;unfold cD at b;simp only[IS,decide_eq_true_eq]at b;have v:q=i:=by
   simp[typeInfo,hi]at s;exact s.symm
  subst v;have I:¬ (Builtin.nextslicecap (l+m) cap*q.bytes>2 ^ 48):=by
   rw[B];have:=yd (need:=l+m) (cap:=cap) ap;have:=Nat.mul_le_mul_right bytes this;omega
  let nc:=(Question.appendCap (l+m) cap e).cut (w.tape w.drawn (.appendCap (l+m) cap e))
  have J:l+m<=nc:=by simp[nc,Question.cut]
  refine⟨nc,dJ (nc-(l+m)) z.cells.toList,w.drew.alloc (.cells (os++g++dJ (nc-(l+m)) z.cells.toList).toArray e),J,?_,⟨rfl,rfl,rfl,rfl⟩,by rw[nT];simp[y]⟩;have E:(choose (.appendCap (l+m) cap e)).run Q w=.ok nc w.drew:=by
   rfl
  have L:Builtin.zeroCells z.cells (nc-(l+m))=(dJ (nc-(l+m)) z.cells.toList).toArray:=by
   have:=kQ z.cells.toList (nc-(l+m)) (by simp[y];exact j.pos)
   assumption
  have x:¬ (((l+m:Nat):Int)>IntKind.i64.max):=by
   have:IntKind.i64.max=9223372036854775807:=by decide
   omega
  have M:∀w',(zeroValue e).run Q w'=.ok z w':=λw'=>by simp[zeroValue,typeInfo,hi,c]
  have K:∀w',(typeInfo e).run Q w'=.ok q w':=λw'=>by simp[typeInfo,hi]
  simp only[Builtin.append_,Sem.run_bind,bI j.hu,bI S,dS j.vW,A,Result.andThen_ok,Sem.run_pure,agH,if_false,O,ct F,Sem.run_ite,K,x,false_and,I,E,run_askRoom,Y,
   Bool.not_false,if_true,Z,M,L,newRow,run_newObj,aic,List.getElem?_cons_zero,List.getElem?_cons_succ]
  have W:os.toArray++g.toArray++(dJ (nc-(l+m)) z.cells.toList).toArray=(os++g++dJ (nc-(l+m)) z.cells.toList).toArray:=by simp
  rw[W];rfl
theorem SR.drew(b:SR Q σ X):SR Q σ { X with w:=X.w.drew }/\Ext X.H.length X { X with w:=X.w.drew }:=by
 have d:Ext X.H.length X { X with w:=X.w.drew }:=Ext.one b X.H.length rfl (λ_ _=>Iff.rfl) (λ_ _ _=>rfl) (λ_ _ _ _=>rfl) (λh=>by omega)
  (λ_ _ _=>rfl) (λ_ _=>rfl) (λL h=>.inl ⟨L,h,rfl⟩) (agn _) rfl rfl rfl
 exact⟨SR.step Q σ b d X.H.length (λ_ _=>rfl) (λ_ _=>rfl) (λ_ _ _ _=>rfl) (λ_ _ _ _ _ h=>h) (λL h=>by
  change X.di X.H.length=aa L at h;rw[SR.uS b]at h;simp at h) b.fb,d⟩
theorem Rn(l:SR Q σ X)(A:X.B<=X.w.heap.size){sz:Nat}(d:0<sz){cs:List C}{us rest:List Value}(h:A2 (CR σ X) cs us){n nc:Nat}(q:cs.length=n*sz)(F:rest.length=(nc-n)*sz)(E:n<=nc)
  {e:TypeId} {w':World} (s:fA X.w w' (.cells (us++rest).toArray e)) :
  ∃X',X'.w=w'/\X'.H=X.H++[.dj sz cs 0 0 .loc]/\SR Q σ X'/\Ext X.H.length X X'/\VR σ X' (.c (.sl X.H.length 0 n 0 0 sz)) (.slice (aa ⟨X.w.heap.size,0,ab⟩) n nc)/\X'.B<=X'.w.heap.size:=by
 obtain⟨X',u,j,v,x,y,z⟩:=SR.new l A (.dj sz cs 0 0 .loc) s nc λX' H g B _=>⟨rfl,us,rest,by rw[g];exact qO s,A2.ext' σ H h,by
  have:=h.len;rw[aft,F,<-this,q,<-agS];congr 1;show n+(nc-n)=nc;omega,d,⟨n,q⟩,λi _ m=>by rw[B]at m;have:=l.fb _ _ m;simp at this⟩
 refine⟨X',u,j,v,x,?_,z⟩;have b:X'.H[X.H.length]?=aa (.dj sz cs 0 0 .loc):=by rw[j];simp
 simp only[VR,jO,CR,iL,b];exact⟨agn _,λ_ _=>⟨_,y,0,ap,by show 0+n<=nc;omega,bv⟩,_,_,_,rfl⟩
theorem Cc(q:SR Q σ X)(O:X.B<=X.w.heap.size){b sz:Nat}{x cs:List C}{fl u:Nat}{st:Os}(F:X.H[b]?=aa (.dj sz x fl u st)){ys:List C}{us B rest:List Value}(I:A2 (CR σ X) cs us)(K:A2 (CR σ X) ys B)
  (A:0<sz) {n nc:Nat} (J:cs.length+ys.length=n*sz) (W:rest.length=(nc-n)*sz) (U:n<=nc) {e:TypeId} {w':World} (j:fA X.w w' (.cells (us++B++rest).toArray e)) :
  ∃X',X'.w=w'/\X'.H=X.H.set b (.dj sz (cs++ys) fl (u+1) .loc)/\SR Q σ X'/\Ext X.H.length X X'/\VR σ X' (.c (.sl b 0 n 0 (u+1) sz)) (.slice (aa ⟨X.w.heap.size,0,ab⟩) n nc)/\X'.B<=X'.w.heap.size:=by
 have z:b<X.H.length:=(OF.1 F).1
 let X':Wd:={ X with H:=X.H.set b (.dj sz (cs++ys) fl (u+1) .loc),di:=λk=>if k=b then aa ⟨X.w.heap.size,nc⟩else X.di k,w:=w' }
 have g:X'.H[b]?=aa (.dj sz (cs++ys) fl (u+1) .loc):=by simp[X',z]
 have l:X'.di b=aa ⟨X.w.heap.size,nc⟩:=by simp[X']
 have v:Ext X.H.length X X':=Ext.one q b rfl (λ_ _=>Iff.rfl) (λk S _=>j.Fg S) (λL i Y y=>World.cell?_of_block (j.Fg (q.fb _ _ y)))
  (λ_ cP d=>⟨_,g,by rw[F]at d;simp only[AT]at d;subst d;exact⟨rfl,.inr ⟨ap,rfl,_,l⟩⟩⟩)
  (λm h _=>by simp[X',sh (Ne.symm h)]) (λm h=>by simp[X',h]) (λL h=>by rw[l]at h;simp only[AT]at h;subst h;exact .inr (agn _)) (by show X.w.heap.size<=w'.heap.size;rw[j.size];omega) j.os j.tape j.output
 refine⟨X',rfl,rfl,SR.step Q σ q v b (λm h=>by simp[X',sh (Ne.symm h)]) (λm h=>by simp[X',h]) (λm L _ s=>j.Fg (q.br m L s).2.1) (λ_ _ _ _ _ h=>h) (λL h=>?_) (λc i h=>?_),v,?_,?_⟩
 .rw[l]at h;simp only[AT]at h;subst h;refine⟨O,by show X.w.heap.size<w'.heap.size;rw[j.size];omega,⟨_,g,rfl,us++B,rest,qO j,(A2.ext' σ v I).append (A2.ext' σ v K),?_,A,⟨n,by simpa using J⟩,λi _ y=>?_⟩,λm E _ s=>?_⟩
  .have M:=I.len;have N:=K.len;rw[aft,aft,W,<-M,<-N,J,<-agS];congr 1;show n+(nc-n)=nc;omega
  .have:=q.fb _ _ y;simp at this
  .have:=(q.br m E s).2.1;show E.c≠X.w.heap.size;omega
 .have:=q.fb c i h;show c<w'.heap.size;rw[j.size];omega
 .simp only[VR,jO,CR,iL,g];exact⟨agn _,λ_ _=>⟨_,l,0,ap,by show 0+n<=nc;omega,bv⟩,_,_,_,rfl⟩
 .show X.B<=w'.heap.size;rw[j.size];omega
end
end Km
