/-
  Our own small machine for Go code by value, held tN the model: part 1. No program in Gw.
-/
import GoSem.Step
import GoSem.Dispatch
import GoSem.Machine.Exec
import Derived.Calls
import Derived.Laws.World
import Derived.Laws.Cells
import Derived.Laws.IdiomCopy
import Derived.Below
import Derived.Laws.Slices
import Derived.Laws.Strings
import Derived.Laws.StructEq
import Derived.Laws.BytesString
import Derived.Laws.Tables
import Derived.Laws.AppendOwn
open Option renaming some → aa,none → ab
open Bool renaming true → ae,false → ag
open Option.some renaming injEq → At
open Bool renaming false_eq_true → avk, and_eq_true → If
open List renaming getElem?_eq_some_iff → BY, getElem?_eq_getElem → By, getElem?_append_left → AT, getElem?_append_right → IS, getElem?_take → avI, getElem?_drop → avt, getElem?_map → avR, all_eq_true → avz, getElem?_of_mem → av2, extract_eq_take_drop → aww, take_of_length_le → avj, length_append → api, foldl_cons → awA, length_cons → avB, eq_nil_of_length_eq_zero → avm, getElem?_set_ne → AI
open Nat renaming le_refl → aft, le_trans → avv, lt_of_lt_of_le → avJ, add_zero → awL, add_mul → avM, mul_eq_zero → aw5, lt_or_ge → avT
open Option renaming bind_eq_some_iff → avy, map_eq_some_iff → IT, bind_eq_bind → axh, bind_some → avS, map_some → avY
open Prod.mk renaming injEq → OF
set_option linter.unusedVariables false
set_option linter.constructorNameAsVariable false
set_option linter.unusedSimpArgs false
set_option linter.unusedSectionVars false
set_option maxRecDepth 100000
namespace Km
open Go
theorem aJ.{u}{α:Sort u}(a:α):∃ b,b=a:=⟨a,rfl⟩
theorem aY.{u}{c:Prop}{h:Decidable c}(b:¬c){α:Sort u}{t e:α}:(ite c t e)=e:=if_neg b
theorem bf.{u}{c:Prop}{h:Decidable c}(hc:c){α:Sort u}{t e:α}:(ite c t e)=t:=if_pos hc
inductive FC where
 | bool (b:Bool)
 | int (k:IntKind) (n:Int)
 | str (s:ByteArray)
 | ov | az | es | i' | mN | xf
 | fp (cs:List FC) (off:Nat)
 | fs (cs:List FC) (len:Nat)
 | fn (f:Nat) (PV:List FC)
 deriving Inhabited
inductive C where
 | f (x:FC)
 | ptr (b off ep:Nat)
 | sl (b off len cap ep sz:Nat)
 | cl (f:Nat) (PV:List C)
 | yl (b:Nat)
 | mp (b:Nat)
 | it (b:Nat)
 | bm (f:Nat) (first:List C)
 | mi (b:Nat)
 deriving Inhabited
inductive V where
 | top
 | c (x:C)
 | a (xs:List C)
 | t (xs:List V)
 deriving Inhabited
def DA:Nat:=1000000007
def mV:C→V
 | .cl f cs=>if f=DA then .a cs else .c (.cl f cs)| x=>.c x
def qo:V→Option C
 | .c (.cl f cs)=>if f=DA then ab else aa (.cl f cs)| .c x=>aa x| .a cs=>aa (.cl DA cs)| _=>ab
def zV:FC→V
 | .fn f zs=>if f=DA then .a (zs.map .f)else .c (.f (.fn f zs))| z=>.c (.f z)
def sW:FC→List FC
 | .fn f zs=>if f=DA then zs else [.fn f zs]| z=>[z]
def EY:FC→Bool
 | .fn f _=>decide (f=DA)| _=>ag
theorem adF{v:V}{c:C}(h:qo v=aa c):mV c=v:=by
 cases v with
 | c x=>
  cases x<;>simp only [qo,At]at h
  case cl f cs=>
   split at h
   ·cases h
   ·rename_i b;simp only [At]at h;subst h;simp only [mV,aY b]
  all_goals (subst h;rfl)
 | a cs=>simp only [qo,At]at h;subst h;simp [mV]| _=>simp [qo]at h
theorem ap_{z:FC}(h:EY z=ae):zV z=.a ((sW z).map .f):=by
 cases z<;>simp only [EY,decide_eq_true_eq,reduceCtorEq,avk]at h;simp only [zV,sW,bf h]
theorem aqa{z:FC}(h:EY z=ag):zV z=.c (.f z)∧sW z=[z]:=by
 cases z<;>simp only [EY,decide_eq_false_iff_not]at h
 case fn f zs=>simp only [zV,sW,aY h,and_self]
 all_goals exact⟨rfl,rfl⟩
inductive Os where | loc | nil | es
 deriving DecidableEq,Inhabited
inductive P where
 | h
 | o (p:P)
 | i (p:P)
 deriving DecidableEq,Inhabited
def P.toNat:P→Nat
 | .h=>0| .o p=>2*p.toNat+1| .i p=>2*p.toNat+2
inductive T where
 | e
 | n (l:T) (v:V) (r:T)
 deriving Inhabited
def T.get:T→P→V
 | .e,_=>.top| .n _ v _,.h=>v| .n l _ _,.o p=>l.get p| .n _ _ r,.i p=>r.get p
def T.set:T→P→V→T
 | .e,.h,w=>.n .e w .e| .e,.o p,w=>.n (T.set .e p w) .top .e| .e,.i p,w=>.n .e .top (T.set .e p w)| .n l _ r,.h,w=>.n l w r| .n l v r,.o p,w=>.n (l.set p w) v r| .n l v r,.i p,w=>.n l v (r.set p w)
inductive Arg where
 | r (n:P)
 | k (v:V)
 deriving Inhabited
inductive CK where | bool | int | str
 deriving DecidableEq,Inhabited
inductive Fj where
 | bool | ptr | sl | fn | ifc
 | st (ks:List CK)
 deriving Inhabited
inductive cW where
 | aZ (x:Arg)
 | pre (o:Os) (sz:Nat)
 | pick (c a b:Arg)
 | alloc (zs:List FC)
 | box (x:Arg)
 | build (zs:List FC) (parts:List (Nat × Nat × Arg))
 | bK (sz:Nat) (zs:List FC) (len:Nat) (parts:List (Nat × Arg))
 | load (n:Option Nat) (x:Arg)
 | store (n:Nat) (x y:Arg)
 | bR (x:Arg)
 | bin (op:BinOp) (x y:Arg)
 | eq (neg:Bool) (k:Fj) (x y:Arg)
 | un (op:UnOp) (x:Arg)
 | fT (k:IntKind) (x:Arg)
 | wU (x:Arg)
 | wT (x:Arg)
 | DK (x:Arg)
 | fR (f:Nat) (PV:List Arg)
 | jQ
 | lookup (ck:CK) (zero:FC) (m k:Arg)
 | jg (ck:CK) (m k v:Arg)
 | dX (sz bytes:Nat) (zs:List FC) (l c:Arg)
 | slice (sz:Nat) (x:Arg) (lo hi mx:Option Arg)
 | nB (n sz:Nat) (x:Arg) (lo hi mx:Option Arg)
 | oK (x:Arg) (lo hi:Option Arg)
 | aO (off:Nat) (x:Arg)
 | field (off:Nat) (n:Option Nat) (x:Arg)
 | bE (sz:Nat) (arr:Option Nat) (x i:Arg)
 | idxs (x i:Arg)
 | wW (len sz:Nat) (n:Option Nat) (x i:Arg)
 | range (x:Arg)
 | next (x:Arg)
 | extract (x:Arg) (i:Nat)
 | call (f:Nat) (args:List Arg) (h:Bool)
 | cj (x:Arg) (args:List Arg) (h:Bool)
 | len (x:Arg)
 | ou (n:Nat)
 | lens (x:Arg)
 | cap (x:Arg)
 | append (sz bytes:Nat) (x y:Arg)
 | copy (sz:Nat) (x y:Arg)
 | gQ (lo:Bool) (xs:List Arg)
 | lO (sz bytes:Nat) (zs:List FC) (x n:Arg)
 | clear (sz:Nat) (zs:List FC) (x:Arg)
 | kE (x:Arg)
 | oI (x:Arg)
 | entry (x:Arg)
 | nq (f:Nat) (xs:List Arg)
 | wg (sz:Nat) (x hi mx:Arg)
 | fP (sz:Nat) (zs:List FC) (len:Nat) (parts:List (Nat × Arg))
 | recover
 | defer (x:Arg) (args:List Arg)
 | bad
 deriving Inhabited
def cW.fsl:cW→Bool
 | .fP ..=>ae| _=>ag
structure aS where
 dst:Option P
 op:cW
 g:Option (P × Bool):=ab
 deriving Inhabited
inductive aG where
 | skip
 | region (ops:List aS) (iD:List (Nat × Nat))
 | seq (a b:aG)
 | cond (c:Arg) (a b:aG)
 | block (id:Nat) (a:aG)
 | loop (a:aG)
 | fo (f:Arg) (ps:List P) (assign body:aG)
 | exit (id:Nat)
 | ret
 | bad
 | scope (a:aG)
 | label (l:Nat)
 | goto (l:Nat)
 deriving Inhabited
inductive ej where | ready | busy | done | exhausted
 deriving DecidableEq,Inhabited
inductive bw where
 | box (cs:List C) (fl:Nat)
 | cf (sz:Nat) (cs:List C) (fl ep:Nat) (st:Os)
 | map (es:List (FC × C))
 | it (s:ByteArray) (pos:Nat)
 | wN (m since:Nat) (done:Bool)
 | eH (open_:Bool)
 | lp (fn:Nat) (tmps:T) (ps:List P) (assign body:aG) (st:ej) (pending:Option aG) (eH:Nat)
 deriving Inhabited
abbrev aj:=List bw
inductive dQ where
 | gZ (b:Nat)
 | fn (f:Nat) (args:List V)
 deriving Inhabited
inductive gH where
 | tmp (t:P)
 | cell (t:P) (n:Option Nat)
 deriving Inhabited
structure aL where
 ps:List P
 results:List gH
 body:aG
 deriving Inhabited
def Arg.ev(aD:T):Arg→V
 | .r n=>aD.get n| .k v=>v
def V.int(k:IntKind)(n:Int):V:=.c (.f (.int k n))
def V.bool(b:Bool):V:=.c (.f (.bool b))
def aE(H:aj):C→Option (List C)
 | .ptr b off ep=>match H[b]? with
  | some (.box cs _)=>aa (cs.drop off)| some (.cf _ cs _ e .loc)=>if ep=e then aa (cs.drop off)else ab| _=>ab
 | .f (.fp cs off)=>aa ((cs.drop off).map .f)| _=>ab
def aV:Option Nat→List C→Option V
 | none,c::_=>aa (.c c)| none,[]=>ab| some n,cs=>if n≤cs.length then aa (.a (cs.take n))else ab
def aR(H:aj)(n:Option Nat):V→Option V
 | .c x=>(aE H x).bind (aV n)| _=>ab
def V.cells? : V→Option (List C)
 | .c x=>aa [x]| .a xs=>aa xs| _=>ab
def over{α:Type}(cs:List α)(off:Nat)(xs:List α):List α:=cs.take off++xs++cs.drop (off+xs.length)
def cX(H:aj)(x:C)(xs:List C):Option aj:=
 match x with
 | .ptr b off ep=>match H[b]? with
  | some (.box cs fl)=>if fl≤off∧off+xs.length≤cs.length then aa (H.set b (.box (over cs off xs) fl))else ab| some (.cf sz cs fl e .loc)=>if ep=e∧fl≤off∧off+xs.length≤cs.length then aa (H.set b (.cf sz (over cs off xs) fl e .loc))else ab| _=>ab
 | _=>ab
def bu(H:aj):C→Option Nat
 | .sl b _ l _ ep sz=>match H[b]? with
  | some (.box _ _)=>aa l| some (.cf s _ _ e _)=>if ep=e∧sz=s then aa l else ab| _=>ab
 | .f .az=>aa 0| .f .es=>aa 0| .f (.fs _ l)=>aa l| _=>ab
def cP(H:aj)(sz:Nat):C→Option (List C)
 | .sl b o l _ ep s=>match H[b]? with
  | some (.box cs _)=>if o+l*sz≤cs.length then aa ((cs.drop o).take (l*sz))else ab| some (.cf s' cs _ e _)=>if ep=e∧s=s'∧o+l*sz≤cs.length then aa ((cs.drop o).take (l*sz))else ab| _=>ab
 | .f .az=>aa []| .f .es=>aa []| .f (.fs cs l)=>if cs.length=l*sz then aa (cs.map .f)else ab| _=>ab
def bj{α β:Type}(g:α→Option β):List α→Option (List β)
 | []=>aa []
 | x::xs=>match g x with
  | none=>ab
  | some y=>match bj g xs with
   | none=>ab| some ys=>aa (y::ys)
def ey:Nat→aj→C→Option FC
 | _,_,.f x=>aa x| 0,_,_=>ab
 | n+1,H,.ptr b off _=>match H[b]? with
  | some (.box cs _)=>(bj (ey n H) cs).map (.fp · off)| _=>ab
 | n+1,H,.sl b o l _ ep sz=>match H[b]? with
  | some (.box cs _)=>if o+l*sz≤cs.length then(bj (ey n H) ((cs.drop o).take (l*sz))).map (.fs · l)else ab| some (.cf s cs _ e .loc)=>if ep=e∧sz=s∧o+l*sz≤cs.length then(bj (ey n H) ((cs.drop o).take (l*sz))).map (.fs · l)else ab| some (.cf s _ _ e .nil)=>if ep=e∧sz=s then aa .az else ab| some (.cf s _ _ e .es)=>if ep=e∧sz=s then aa .es else ab| _=>ab
 | n+1,H,.cl f d=>(bj (ey n H) d).map (.fn f)| _+1,_,_=>ab
def cD(n:Nat)(H:aj):V→Option V
 | .c x=>(ey n H x).map fun y=>.c (.f y)
 | .a xs=>(bj (ey n H) xs).map fun ys=>.a (ys.map .f)
 | _=>ab
def iU(n:Nat)(H:aj):V→Option V
 | .t b=>(bj (cD n H) b).map .t| v=>cD n H v
def gF:Nat→C→aj→aj
 | _,.f _,H=>H| 0,_,H=>H
 | n+1,.ptr b _ _,H=>match H[b]? with
  | some (.box cs fl)=>cs.foldl (fun H x=>gF n x H) (H.set b (.box cs (Nat.max fl cs.length)))
  | _=>H
 | n+1,.sl b o l _ _ sz,H=>match H[b]? with
  | some (.box cs fl)=>((cs.drop o).take (l*sz)).foldl (fun H x=>gF n x H) (H.set b (.box cs (Nat.max fl (o+l*sz))))
  | some (.cf s cs fl e g)=>((cs.drop o).take (l*sz)).foldl (fun H x=>gF n x H) (H.set b (.cf s cs (Nat.max fl (o+l*sz)) e g))
  | _=>H
 | n+1,.cl _ d,H=>d.foldl (fun H x=>gF n x H) H
 | _+1,_,H=>H
def mkV(n:Nat)(H:aj):V→aj
 | .c x=>gF n x H| .a xs=>xs.foldl (fun H x=>gF n x H) H
 | _=>H
def oi(op:BinOp)(k:IntKind)(x y:Int):Option V:=
 match op with
 | .add=>aa (.int k (k.wrap (x+y)))| .sub=>aa (.int k (k.wrap (x-y)))| .mul=>aa (.int k (k.wrap (x*y)))| .quo=>if y=0 then ab else aa (.int k (k.wrap (x.tdiv y)))| .rem=>if y=0 then ab else aa (.int k (x.tmod y))| .and=>aa (.int k (k.wrap (BitVec.ofInt k.bits x &&& BitVec.ofInt k.bits y).toNat))| .or=>aa (.int k (k.wrap (BitVec.ofInt k.bits x ||| BitVec.ofInt k.bits y).toNat))| .xor=>aa (.int k (k.wrap (BitVec.ofInt k.bits x ^^^ BitVec.ofInt k.bits y).toNat))| .andNot=>aa (.int k (k.wrap (BitVec.ofInt k.bits x &&& ~~~ (BitVec.ofInt k.bits y)).toNat))| .eql=>aa (.bool (x == y))| .neq=>aa (.bool (x != y))| .lss=>aa (.bool (decide (x<y)))| .leq=>aa (.bool (decide (x≤y)))| .gtr=>aa (.bool (decide (x>y)))| .geq=>aa (.bool (decide (x≥y)))| _=>ab
def aoD(op:BinOp)(x y:ByteArray):Option V:=
 match op with
 | .add=>if((x.size+y.size:Nat):Int)>IntKind.i64.max then ab else aa (.c (.f (.str (x++y))))| .eql=>aa (.bool (x.toList == y.toList))| .neq=>aa (.bool !(x.toList == y.toList))| .lss=>aa (.bool (Op.bytesLess x.toList y.toList))| .leq=>aa (.bool (Op.bytesLess x.toList y.toList||x.toList == y.toList))| .gtr=>aa (.bool !(Op.bytesLess x.toList y.toList||x.toList == y.toList))| .geq=>aa (.bool !(Op.bytesLess x.toList y.toList))| _=>ab
def Qm:CK→C→C→Option Bool
 | .bool,.f (.bool a),.f (.bool b)=>aa (a == b)| .int,.f (.int k a),.f (.int k' b)=>if k=k' then aa (a == b)else ab| .str,.f (.str a),.f (.str b)=>aa (a == b)| _,_,_=>ab
def rF:List CK→List C→List C→Option Bool
 | [],[],[]=>aa ae
 | k::d,x::xs,y::ys=>match Qm k x y,rF d xs ys with
  | some a,aa b=>aa (a&&b)| _,_=>ab
 | _,_,_=>ab
def isNil(H:aj):Fj→C→Option Bool
 | .ptr,.f .ov=>aa ae| .ptr,.f (.fp _ _)=>aa ag| .ptr,.ptr _ _ _=>aa ag| .sl,.f .az=>aa ae| .sl,.f .es=>aa ag| .sl,.f (.fs _ _)=>aa ag
 | .sl,.sl b _ _ _ ep sz=>match H[b]? with
  | some (.box _ _)=>aa ag| some (.cf s _ _ e d)=>if ep=e∧sz=s then aa (d == .nil)else ab| _=>ab
 | .fn,.f .i'=>aa ae| .fn,.f (.fn _ _)=>aa ag| .fn,.cl _ _=>aa ag| .fn,.bm _ _=>aa ag| .ifc,.f .mN=>aa ae| _,_=>ab
def DN(H:aj):Fj→V→V→Option Bool
 | .bool,.c x,.c y=>Qm .bool x y| .st b,.a xs,.a ys=>rF b xs ys| .ptr,.c x,.c (.f .ov)=>isNil H .ptr x| .sl,.c x,.c (.f .az)=>isNil H .sl x| .fn,.c x,.c (.f .i')=>isNil H .fn x| .ifc,.c x,.c (.f .mN)=>isNil H .ifc x| _,_,_=>ab
def dq(op:BinOp)(x y:V):Option V:=
 match op,x,y with
 | .shl,.c (.f (.int k a)),.c (.f (.int _ b))=>if b<0 then ab else aa (.int k (k.wrap (a*2 ^ (min b.toNat k.bits))))| .shr,.c (.f (.int k a)),.c (.f (.int _ b))=>if b<0 then ab else aa (.int k (a.fdiv (2 ^ (min b.toNat k.bits))))| op,.c (.f (.int k a)),.c (.f (.int k' b))=>if k=k' then oi op k a b else ab| op,.c (.f (.str a)),.c (.f (.str b))=>aoD op a b| _,_,_=>ab
def unV(op:UnOp)(x:V):Option V:=
 match op,x with
 | .neg,.c (.f (.int k n))=>aa (.int k (k.wrap (0-n)))| .not,.c (.f (.bool b))=>aa (.bool !b)| _,_=>ab
def ir:V→Option Int
 | .c (.f (.int _ n))=>aa n| _=>ab
def Bk(x:V)(y:Nat):Option Nat:=
 match ir x with
 | some i=>if 0≤i∧i≤y then aa i.toNat else ab| none=>ab
def bW(len cap:Nat)(lo hi mx:Option V):Option (Nat × Nat × Nat):=do
 let m ←match mx with
  | some v=>Bk v cap| none=>aa cap
 let h ←match hi,mx with
  | some v,_=>Bk v m| none,ab=>aa len| none,aa _=>ab
 let l ←match lo with
  | some v=>Bk v h| none=>aa 0
 pure (l,h,m)
def dW(H:aj)(sz:Nat)(x:V)(lo hi mx:Option V):Option V:=
 match x with
 | .c (.f .az)=>match bW 0 0 lo hi mx with
  | some _=>aa (.c (.f .az))| none=>ab
 | .c (.f .es)=>match bW 0 0 lo hi mx with
  | some _=>aa (.c (.f .es))| none=>ab
 | .c (.f (.fs cs n))=>match bW n n lo hi mx with
  | some (l,h,m)=>
   if mx.isSome∧m=l then aa (.c (.f .es))else
   aa (.c (.f (.fs ((cs.drop (l*sz)).take ((h-l)*sz)) (h-l))))
  | none=>ab
 | .c (.sl b o n cap ep s)=>match H[b]? with
  | some (.box _ _)=>match bW n cap lo hi mx with
   | some (l,h,m)=>if m=l then aa (.c (.f .es))else aa (.c (.sl b (o+l*sz) (h-l) (m-l) ep s))| none=>ab
  | some (.cf s' cs _ e d)=>
   if ep=e∧s=sz∧s'=sz then
    match d with
    | .loc=>match bW n n lo hi mx with
     | some (l,h,m)=>
      if mx.isSome∧m=l then aa (.c (.f .es))
      else if l=h∧0<l then aa (.c (.f (.fs [] 0)))
      else if mx.isSome then(if 0<l then aa (.c (.sl b 0 0 0 ep (s'+1)))else ab)
      else aa (.c (.sl b (o+l*sz) (h-l) 0 ep s))
     | none=>match mx with
      | some _=>ab
      | none=>match bW n ((cs.length-o) / sz) lo hi ab with
       | some (l,h,_)=>if n≤(cs.length-o) / sz∧l<h then aa (.c (.sl b (o+l*sz) (h-l) 0 ep s))else ab| none=>ab
    | .nil=>match bW 0 0 lo hi mx with
     | some _=>aa (.c (.f .az))| none=>ab
    | .es=>match bW 0 0 lo hi mx with
     | some _=>aa (.c (.f .es))| none=>ab
   else ab
  | _=>ab
 | _=>ab
def wj(x:V)(lo hi:Option V):Option V:=
 match x with
 | .c (.f (.str s))=>match bW s.size s.size lo hi ab with
  | some (l,h,_)=>aa (.c (.f (.str (s.extract l h))))| none=>ab
 | _=>ab
def kH(H:aj)(n sz:Nat)(x:V)(lo hi mx:Option V):Option V:=
 match x with
 | .c (.ptr b off _)=>match H[b]? with
  | some (.box cs _)=>match bW n n lo hi mx with
   | some (l,h,m)=>if off+n*sz≤cs.length then(if m=l then aa (.c (.f .es))else aa (.c (.sl b (off+l*sz) (h-l) (m-l) 0 sz)))else ab| none=>ab
  | _=>ab
 | .c (.f (.fp cs off))=>match bW n n lo hi mx with
   | some (l,h,m)=>if off+n*sz≤cs.length then(if m=l then aa (.c (.f .es))else aa (.c (.f (.fs ((cs.drop (off+l*sz)).take ((h-l)*sz)) (h-l)))))else ab| none=>ab
 | _=>ab
def bH(H:aj)(sz:Nat)(d:Option Nat)(x i:V):Option V:=
 match ir i with
 | none=>ab
 | some i=>
  if 0≤i then
   match d,x with
   | none,.c (.sl b o l _ ep s)=>if i<l then
     (match H[b]? with
      | some (.box _ _)=>aa (.c (.ptr b (o+i.toNat*sz) ep))| some (.cf s' _ _ e .loc)=>if ep=e∧s=s' then aa (.c (.ptr b (o+i.toNat*sz) ep))else ab
      | _=>ab)else ab
   | none,.c (.f (.fs cs l))=>if i<l then aa (.c (.f (.fp cs (i.toNat*sz))))else ab| some n,.c (.ptr b o ep)=>if i<n then aa (.c (.ptr b (o+i.toNat*sz) ep))else ab| some n,.c (.f (.fp cs o))=>if i<n then aa (.c (.f (.fp cs (o+i.toNat*sz))))else ab| _,_=>ab
  else ab
def jq(off:Nat):V→Option V
 | .c (.ptr b o ep)=>aa (.c (.ptr b (o+off) ep))| .c (.f (.fp cs o))=>aa (.c (.f (.fp cs (o+off))))| _=>ab
def iX(off:Nat)(n:Option Nat):V→Option V
 | .a xs=>aV n (xs.drop off)| _=>ab
def BL(x i:V):Option V:=
 match x,ir i with
 | .c (.f (.str s)),aa i=>if 0≤i then(s[i.toNat]?).map fun b=>.int .u8 b.toNat else ab
 | _,_=>ab
def BK(len sz:Nat)(n:Option Nat)(x i:V):Option V:=
 match x,ir i with
 | .a xs,aa i=>if 0≤i∧i<len then aV n (xs.drop (i.toNat*sz))else ab| _,_=>ab
def Gg(H:aj):V→Option (V × aj)
 | .c (.it b)=>match H[b]? with
  | some (.it s pos)=>
   if pos<s.size then
    let r:=Utf8.decode s pos
    aa (.t [.bool ae,.int .i64 pos,.int .i32 r.1],H.set b (.it s (pos+r.2)))
   else aa (.t [.bool ag],H)
  | _=>ab
 | _=>ab
def bV(need bytes:Nat):Bool:=decide ((2*need+768)*bytes≤2 ^ 48)&&decide (need<2 ^ 48)
def cU(H:aj)(sz:Nat):V→Option (Nat × List C)
 | .c (.f (.str s))=>if sz=1 then aa (s.size,s.toList.map fun b=>.f (.int .u8 b.toNat))else ab
 | .c x=>match bu H x,cP H sz x with
  | some l,aa cs=>aa (l,cs)| _,_=>ab
 | _=>ab
def cH(H:aj)(sz bytes:Nat)(x y:V):Option (V × aj):=
 match cU H sz y with
 | none=>ab
 | some (m,ys)=>
  if sz=0 then ab else
  match x with
  | .c (.f .az)=>if m=0 then aa (.c (.f .az),H)else
    if bV m bytes then aa (.c (.sl H.length 0 m 0 0 sz),H++[.cf sz ys 0 0 .loc])else ab
  | .c (.f .es)=>if m=0 then aa (.c (.f .es),H)else
    if bV m bytes then aa (.c (.sl H.length 0 m 0 0 sz),H++[.cf sz ys 0 0 .loc])else ab
  | .c (.sl b o l cap ep s)=>match H[b]? with
   | some (.box cs fl)=>
    if l+m≤cap then
     if fl≤o+l*sz∧o+l*sz+ys.length≤cs.length then aa (.c (.sl b o (l+m) cap ep s),H.set b (.box (over cs (o+l*sz) ys) fl))else ab
    else if bV (l+m) bytes∧o+l*sz≤cs.length then aa (.c (.sl H.length 0 (l+m) 0 0 sz),H++[.cf sz ((cs.drop o).take (l*sz)++ys) 0 0 .loc])else ab
   | some (.cf s' cs fl e d)=>
    if ep=e∧s'=sz∧s=sz then
     if m=0 then aa (x,H)
     else if o=0∧l*sz=cs.length∧fl≤cs.length then
      if bV (l+m) bytes then aa (.c (.sl b 0 (l+m) 0 (ep+1) sz),H.set b (.cf sz (cs++ys) fl (e+1) .loc))else ab
     else if d=.loc∧fl≤o+l*sz∧o+l*sz+ys.length≤cs.length then
      aa (.c (.sl b o (l+m) 0 ep sz),H.set b (.cf sz (over cs (o+l*sz) ys) fl e .loc))
     else ab
    else ab
   | _=>ab
  | _=>ab
def copyV(H:aj)(sz:Nat)(x y:V):Option (V × aj):=
 match cU H sz y,x with
 | some _,.c (.f .az)=>aa (.int .i64 0,H)| some _,.c (.f .es)=>aa (.int .i64 0,H)
 | some (m,ys),.c (.sl b o l _ ep s')=>
  let n:=Nat.min m l
  match H[b]? with
  | some (.box cs fl)=>if fl≤o∧o+n*sz≤cs.length then aa (.int .i64 n,H.set b (.box (over cs o (ys.take (n*sz))) fl))else ab| some (.cf s cs fl e .loc)=>if ep=e∧s'=s∧s=sz∧fl≤o∧o+n*sz≤cs.length then aa (.int .i64 n,H.set b (.cf s (over cs o (ys.take (n*sz))) fl e .loc))else ab| _=>ab
 | _,_=>ab
def oF(H:aj):V→Option V
 | .c x=>match bu H x with
  | some _=>match cP H 1 x with
   | some cs=>(bj (fun c=>match c with | C.f (.int .u8 n)=>aa (UInt8.ofNat n.toNat) | _=>ab) cs).map fun l=>.c (.f (.str ⟨l.toArray⟩))
   | none=>ab
  | none=>ab
 | _=>ab
def dK(aD:T)(cs:List C):List (Nat × Nat × Arg)→Option (List C)
 | []=>aa cs
 | (off,n,x)::rest=>match (x.ev aD).cells? with
  | some xs=>if xs.length=n∧off+xs.length≤cs.length then dK aD (over cs off xs) rest else ab| none=>ab
def dC(aD:T)(xs:List Arg):List V:=xs.map (·.ev aD)
def mU:V→Option C
 | .c (.cl _ _)=>ab| .c (.bm _ _)=>ab| .c x=>aa x| _=>ab
def cF{α:Type}(n:Nat)(xs:List α):List α:=(List.replicate n xs).flatten
def eqK:CK→FC→FC→Option Bool
 | .int,.int k a,.int k' b=>if k=k' then aa (a == b)else ab| .str,.str a,.str b=>aa (a == b)| .bool,.bool a,.bool b=>aa (a == b)| _,_,_=>ab
def ns(b:CK)(k:FC):List (FC × C)→Option (Option C)
 | []=>aa ab
 | e::d=>match eqK b k e.1 with
  | some ae=>aa (aa e.2)| some ag=>ns b k d| none=>ab
def qX(b:CK)(k:FC)(v:C):List (FC × C)→Option (List (FC × C))
 | []=>aa [(k,v)]
 | e::d=>match eqK b k e.1 with
  | some ae=>aa ((k,v)::d)| some ag=>(qX b k v d).map (e::·)| none=>ab
def isKey:CK→FC→Bool
 | .int,.int _ _=>ae| .str,.str _=>ae| .bool,.bool _=>ae| _,_=>ag
def sH:FC→Option FC
 | .fp [z] 77=>aa z| _=>ab
def lkR(z:FC)(r:Option C):V:=match sH z with
 | some b=>.t [(r.map mV).getD (zV b),.c (.f (.bool r.isSome))]| none=>(r.map mV).getD (zV z)
def gb(H:aj)(d:CK)(z:FC):V→V→Option V
 | .c (.f .xf),.c (.f k)=>if isKey d k then aa (lkR z ab)else ab
 | .c (.mp b),.c (.f k)=>match H[b]? with
  | some (.map g)=>if isKey d k then(ns d k g).map (lkR z)else ab| _=>ab
 | _,_=>ab
def jh(H:aj):C→Option Nat
 | .sl b _ _ c ep sz=>match H[b]? with
  | some (.box _ _)=>aa c| some (.cf s _ _ e .nil)=>if ep=e∧sz=s then aa 0 else ab| some (.cf s _ _ e .es)=>if ep=e∧sz=s then aa 0 else ab| _=>ab
 | .f .az=>aa 0| .f .es=>aa 0| _=>ab
def yH(lo:Bool)(x y:V):Option V:=
 match x,y with
 | .c (.f (.int k a)),.c (.f (.int _ b))=>aa (.int k (if lo then(if b<a then b else a)else(if b>a then b else a)))| _,_=>ab
def tj(lo:Bool):V→List V→Option V
 | x,[]=>aa x
 | x,y::ys=>match yH lo x y with
  | some z=>tj lo z ys| none=>ab
def xc(lo:Bool):List V→Option V
 | []=>ab| x::xs=>tj lo x xs
def oU(H:aj)(sz:Nat)(zs:List FC)(x:V):Option aj:=
 match x with
 | .c y=>match bu H y with
  | some 0=>aa H
  | some l=>
   if zs.length=sz then
    match y with
    | .sl b o _ _ ep s=>match H[b]? with
     | some (.box _ _)=>cX H (.ptr b o ep) ((cF l zs).map .f)| some (.cf s' _ _ e .loc)=>if ep=e∧s=s' then cX H (.ptr b o ep) ((cF l zs).map .f)else ab| _=>ab
    | _=>ab
   else ab
  | none=>ab
 | _=>ab
def uK(H:aj)(sz bytes:Nat)(zs:List FC)(x n:V):Option (V × aj):=
 match ir n with
 | some n=>
  if 0≤n∧zs.length=sz then
   match x with
   | .c (.f .az)=>if n.toNat=0 then aa (.c (.f .az),H)else
     if bV n.toNat bytes then aa (.c (.sl H.length 0 n.toNat 0 0 sz),H++[.cf sz ((cF n.toNat zs).map .f) 0 0 .loc])else ab
   | .c (.f .es)=>if n.toNat=0 then aa (.c (.f .es),H)else
     if bV n.toNat bytes then aa (.c (.sl H.length 0 n.toNat 0 0 sz),H++[.cf sz ((cF n.toNat zs).map .f) 0 0 .loc])else ab
   | _=>ab
  else ab
 | none=>ab
def fcC:C→Option FC
 | .f x=>aa x| _=>ab
def CM(H:aj)(sz:Nat)(x hi mx:V):Option (V × aj):=
 match dW H sz x ab (aa hi) (aa mx)with
 | some v=>aa (v,H)
 | none=>match x with
  | .c (.sl b o n _ ep s)=>match H[b]? with
   | some (.cf s' cs fl e .loc)=>
    if ep=e∧s=sz∧s'=sz∧o=0 then
     match Bk hi n,Bk mx n with
     | some i,aa j=>
      if i=j∧0<i∧i*sz≤cs.length then
       match bj fcC (cs.take (i*sz))with
       | some ys=>aa (.c (.f (.fs ys i)),H.set b (.cf s' cs (Nat.max fl (i*sz)) e .loc))| none=>ab
      else ab
     | _,_=>ab
    else ab
   | _=>ab
  | _=>ab
def Aa(H:aj):V→Option (V × aj)
 | .c (.mi b)=>match H[b]? with
  | some (.wN m d done)=>match H[m]? with
   | some (.map [])=>if done then ab else aa (.t [.bool ag],H)| some (.map [e])=>if done then aa (.t [.bool ag],H)else if d=1 then aa (.t [.bool ae,.c (.f e.1),mV e.2],H.set b (.wN m 1 ae))else ab| _=>ab
  | _=>ab
 | _=>ab
def lQ(H:aj):V→Option V
 | .c (.mi b)=>match H[b]? with
  | some (.wN m _ ae)=>match H[m]? with
   | some (.map [e])=>aa (.t [.c (.f e.1),mV e.2])| _=>ab
  | _=>ab
 | _=>ab
def ue(H:aj):V→Option (V × aj)
 | .c (.mp b)=>match H[b]? with
  | some (.map d)=>if d.length≤1 then aa (.c (.mi H.length),H++[.wN b d.length ag])else ab| _=>ab
 | _=>ab
def fcL:List C→Option (List FC)
 | []=>aa []| .f x::xs=>(fcL xs).map (x::·)| _::_=>ab
def bq(aD:T)(H:aj):cW→Option (V × aj)
 | .aZ x=>aa (x.ev aD,H)| .pre o sz=>if o=.loc∨sz=0 then ab else aa (.c (.sl H.length 0 0 0 0 sz),H++[.cf sz [] 0 0 o])
 | .pick c a b=>match c.ev aD with
  | .c (.f (.bool v))=>aa ((if v then a else b).ev aD,H)| _=>ab
 | .alloc zs=>aa (.c (.ptr H.length 0 0),H++[.box (zs.map .f) 0])
 | .box x=>match (x.ev aD).cells? with
  | some xs=>aa (.c (.ptr H.length 0 0),H++[.box xs 0])| none=>ab
 | .build zs ps=>(dK aD (zs.map .f) ps).map fun cs=>(.a cs,H)
 | .bK sz zs n ps=>
  if n=0 then(if ps.isEmpty then aa (.c (.f .es),H)else ab)else
  (dK aD ((cF n zs).map .f) (ps.map fun p=>(p.1*sz,sz,p.2))).map fun cs=>(.c (.sl H.length 0 n n 0 sz),H++[.box cs 0])
 | .load n x=>(aR H n (x.ev aD)).map (·,H)
 | .store n x y=>match x.ev aD,(y.ev aD).cells? with
  | .c p,aa xs=>if xs.length=n then(cX H p xs).map (.top,·)else ab| _,_=>ab
 | .bR x=>match x.ev aD with
  | .c (.ptr b o e)=>aa (.c (.ptr b o e),H)| .c (.f (.fp cs o))=>aa (.c (.f (.fp cs o)),H)| _=>ab
 | .bin op x y=>(dq op (x.ev aD) (y.ev aD)).map (·,H)| .eq neg k x y=>(DN H k (x.ev aD) (y.ev aD)).map fun b=>(.bool (if neg then !b else b),H)
 | .un op x=>(unV op (x.ev aD)).map (·,H)
 | .fT k x=>match x.ev aD with
  | .c (.f (.int _ n))=>aa (.int k (k.wrap n),H)| _=>ab
 | .wU x=>match x.ev aD with
  | .c (.f (.str s))=>aa (.c (.f (.str s)),H)| _=>ab
 | .wT x=>(oF H (x.ev aD)).map (·,H)
 | .DK x=>match x.ev aD with
  | .c (.f (.str s))=>if s.size<2 ^ 48 then aa (.c (.sl H.length 0 s.size 0 0 1),H++[.cf 1 (s.toList.map fun b=>.f (.int .u8 b.toNat)) 0 0 .loc])else ab
  | _=>ab
 | .fR f d=>(bj mU (dC aD d)).map fun xs=>(.c (.cl f xs),H)
 | .jQ=>aa (.c (.mp H.length),H++[.map []])| .lookup g z m k=>(gb H g z (m.ev aD) (k.ev aD)).map (·,H)
 | .jg g m k v=>match m.ev aD,k.ev aD,qo (v.ev aD)with
  | .c (.mp b),.c (.f k),aa v=>match H[b]? with
   | some (.map q)=>if isKey g k then(qX g k v q).map fun q=>(.top,H.set b (.map q))else ab
   | _=>ab
  | _,_,_=>ab
 | .dX sz bytes zs l c=>match ir (l.ev aD),ir (c.ev aD)with
  | some l,aa c=>
   if 0≤l∧l≤c∧bV c.toNat bytes=ae∧zs.length=sz then
    (if c=0 then aa (.c (.f .es),H)else
    aa (.c (.sl H.length 0 l.toNat c.toNat 0 sz),H++[.box ((cF c.toNat zs).map .f) 0]))
   else ab
  | _,_=>ab
 | .slice sz x lo hi mx=>(dW H sz (x.ev aD) (lo.map (·.ev aD)) (hi.map (·.ev aD)) (mx.map (·.ev aD))).map (·,H)| .nB n sz x lo hi mx=>(kH H n sz (x.ev aD) (lo.map (·.ev aD)) (hi.map (·.ev aD)) (mx.map (·.ev aD))).map (·,H)| .oK x lo hi=>(wj (x.ev aD) (lo.map (·.ev aD)) (hi.map (·.ev aD))).map (·,H)| .aO off x=>(jq off (x.ev aD)).map (·,H)| .field off n x=>(iX off n (x.ev aD)).map (·,H)| .bE sz j x i=>(bH H sz j (x.ev aD) (i.ev aD)).map (·,H)| .idxs x i=>(BL (x.ev aD) (i.ev aD)).map (·,H)| .wW len sz n x i=>(BK len sz n (x.ev aD) (i.ev aD)).map (·,H)
 | .range x=>match x.ev aD with
  | .c (.f (.str s))=>aa (.c (.it H.length),H++[.it s 0])| _=>ab
 | .next x=>Gg H (x.ev aD)
 | .extract x i=>match x.ev aD with
  | .t A=>(A[i]?).map (·,H)| _=>ab
 | .ou n=>aa (.int .i64 n,H)
 | .lens x=>match x.ev aD with
  | .c (.f (.str s))=>aa (.int .i64 (s.size:Nat),H)| _=>ab
 | .len x=>match x.ev aD with
  | .c y=>match bu H y with
   | some n=>aa (.int .i64 (n:Nat),H)| none=>ab
  | _=>ab
 | .append sz bytes x y=>cH H sz bytes (x.ev aD) (y.ev aD)| .copy sz x y=>copyV H sz (x.ev aD) (y.ev aD)| .gQ lo xs=>(xc lo (dC aD xs)).map (·,H)| .clear sz zs x=>(oU H sz zs (x.ev aD)).map (.t [],·)| .lO sz bytes zs x n=>uK H sz bytes zs (x.ev aD) (n.ev aD)| .kE x=>ue H (x.ev aD)| .oI x=>Aa H (x.ev aD)| .entry x=>(lQ H (x.ev aD)).map (·,H)| .fP sz zs n ps=>((dK aD ((cF n zs).map .f) (ps.map fun p=>(p.1*sz,sz,p.2))).bind fun cs=>if n=0 then ab else fcL cs).map fun u=>(.c (.f (.fs u n)),H)
 | .wg sz x hi mx=>CM H sz (x.ev aD) (hi.ev aD) (mx.ev aD)| .nq f xs=>(bj mU (dC aD xs)).map fun xs=>(.c (.bm f xs),H)
 | .cap x=>match x.ev aD with
  | .c y=>match jh H y with
   | some n=>aa (.int .i64 (n:Nat),H)| none=>ab
  | _=>ab
 | _=>ab
inductive Callee where
 | fn (f:Nat)
 | yield (b:Nat)
abbrev cR:=Callee→List V→aj→Option (V × aj)
def deep:Nat:=64
def ez(call:cR)(c:Nat)(args:List V)(H:aj):Option (V × aj):=
 match bj (cD deep H) args with
 | none=>ab
 | some b=>match call (.fn c) b []with
  | none=>ab
  | some (r,H')=>match iU deep H' r with
   | none=>ab| some r'=>aa (r',args.foldl (mkV deep) H)
def bX:V→List V→Option (Callee × List V)
 | .c (.f (.fn f d)),args=>aa (.fn f,args++d.map fun x=>.c (.f x))
 | .c (.cl f d),args=>aa (.fn f,args++d.map .c)| .c (.yl b),args=>aa (.yield b,args)| .c (.bm f first),args=>aa (.fn f,first.map .c++args)
 | _,_=>ab
def gT(call:cR)(h:Bool)(c:Nat)(args:List V)(H:aj):Option (V × aj):=
 if h then call (.fn c) args H else ez call c args H
structure St where
 aD:T
 defs:List dQ
 heap:aj
def jS(aD:T)(d:Option P)(v:V):T:=
 match d with
 | some d=>aD.set d v| none=>aD
def eU(call:cR)(s:St)(op:cW):Option (V × St):=
 match op with
 | .call f args h=>(gT call h f (dC s.aD args) s.heap).map fun r=>(r.1,{ s with heap:=r.2 })
 | .cj x args _=>match bX (x.ev s.aD) (dC s.aD args)with
  | some (c,args)=>(call c args s.heap).map fun r=>(r.1,{ s with heap:=r.2 })
  | none=>ab
 | .recover=>aa (.c (.f .mN),s)
 | .defer x args=>match bX (x.ev s.aD) (dC s.aD args)with
  | some (.fn f,args)=>aa (.top,{ s with defs:=.fn f args::s.defs })
  | _=>ab
 | op=>(bq s.aD s.heap op).map fun r=>(r.1,{ s with heap:=r.2 })
def jJ{α:Type}(f:α→α→Bool):List α→List α→Bool
 | [],[]=>ae| x::xs,y::ys=>f x y&&jJ f xs ys| _,_=>ag
def FC.beq:Nat→FC→FC→Bool
 | _,.bool a,.bool b=>a == b| _,.int j a,.int k b=>decide (j=k)&&a == b| _,.str a,.str b=>decide (a=b)| _,.ov,.ov | _,.az,.az | _,.es,.es | _,.i',.i' | _,.mN,.mN | _,.xf,.xf=>ae| n+1,.fp xs o,.fp ys o'=>o == o'&&jJ (FC.beq n) xs ys| n+1,.fs xs l,.fs ys l'=>l == l'&&jJ (FC.beq n) xs ys| n+1,.fn f xs,.fn g ys=>f == g&&jJ (FC.beq n) xs ys| _,_,_=>ag
def C.beq:C→C→Bool
 | .f a,.f b=>FC.beq 64 a b| .ptr a b c,.ptr a' j l=>a == a'&&b == j&&c == l| .sl a b c d e g,.sl a' j l m q g'=>a == a'&&b == j&&c == l&&d == m&&e == q&&g == g'| .mp a,.mp b=>a == b| _,_=>ag
def V.beq:V→V→Bool
 | .c x,.c y=>x.beq y| .a xs,.a ys=>xs.length == ys.length&&(xs.zip ys).all fun p=>p.1.beq p.2
 | _,_=>ag
def wanted(aD:T):Option (P × Bool)→Option Bool
 | none=>aa ae
 | some (r,w)=>match aD.get r with
  | .c (.f (.bool b))=>aa (b == w)| .t []=>aa ag| _=>ab
def fL(call:cR)(s:St)(o:aS):Option St:=
 match wanted s.aD o.g with
 | some ae=>match eU call s o.op with
  | some (v,s')=>aa { s' with aD:=jS s'.aD o.dst v }
  | none=>ab
 | some ag=>aa { s with aD:=jS s.aD o.dst (.t []) }
 | none=>ab
def fG(call:cR):List aS→St→Option St
 | [],s=>aa s
 | o::os,s=>match fL call s o with
  | some s'=>fG call os s'| none=>ab
def eb(call:cR):List aS→St→Option (List St)
 | [],s=>aa [s]
 | o::os,s=>match fL call s o with
  | some s'=>match eb call os s' with
   | some ss=>aa (s::ss)| none=>ab
  | none=>ab
def sameAt(ops:List aS)(ss:List St)(c:Nat × Nat):Bool:=
 match ops[c.1]?,ss[c.1]?,ss[c.2]? with
 | some o,aa s,aa s'=>match wanted s.aD o.g with
  | some ag=>ae
  | _=>match bq s.aD s.heap o.op,bq s.aD s'.heap o.op with
   | some (v,_),aa (b,_)=>v.beq b| _,_=>ag
 | _,_,_=>ag
def gk(call:cR)(ops:List aS)(b:List (Nat × Nat))(s:St):Option St:=
 match b with
 | []=>fG call ops s
 | _=>match eb call ops s with
  | some ss=>if b.all (sameAt ops ss)then ss.getLast? else ab| none=>ab
def cW.dZ:cW→Bool
 | .defer _ _ | .recover=>ag| _=>ae
inductive da where
 | code (c:aG)
 | inBlock (id:Nat)
 | inLoop (c:aG)
 | je (b:Nat)
 | mT
 | inScope (a:aG)
def exitTo(id:Nat):List da→Option (List da)
 | []=>ab| .inBlock b::k=>if b == id then aa k else exitTo id k| _::k=>exitTo id k
def findLabel:aG→Nat→Option aG
 | .seq a b,l=>match findLabel a l with
  | some rest=>aa (.seq rest b)| none=>findLabel b l
 | .label l',l=>if l' == l then aa .skip else ab| _,_=>ab
def gotoIn(l:Nat):List da→Option (List da)
 | []=>ab
 | .inScope body::k=>match findLabel body l with
  | some rest=>aa (.code rest::.inScope body::k)| none=>gotoIn l k
 | _::k=>gotoIn l k
def C.eZ(n:Nat):C→Bool
 | .f _=>ae| .ptr b _ _=>decide (b<n)| .sl b _ _ _ _ _=>decide (b<n)| .cl _ _=>ag| .yl b=>decide (b<n)| .mp b=>decide (b<n)| .it b=>decide (b<n)| .mi b=>decide (b<n)| .bm _ _=>ag
def C.under(n:Nat):C→Bool
 | .cl _ d=>d.all (·.eZ n)| .f _=>ae| .ptr b _ _=>decide (b<n)| .sl b _ _ _ _ _=>decide (b<n)| .yl b=>decide (b<n)| .mp b=>decide (b<n)| .it b=>decide (b<n)| .mi b=>decide (b<n)| .bm _ first=>first.all (·.eZ n)
def run(call:cR)(fn:Nat):Nat→Option Nat→List da→St→Option (Option aG × St)
 | 0,_,_,_=>ab
 | m+1,j,q,s=>
  match q with
  | []=>aa (ab,s)| .inBlock _::k=>run call fn m j k s| .inLoop c::k=>run call fn m j (.code c::.inLoop c::k) s
  | .je b::k=>match s.heap[b]? with
   | some (.lp f tmps ps as bd x pending d)=>
    if x=.busy then ab else
    let s:={ s with heap:=s.heap.set b (.lp f tmps ps as bd .exhausted pending d) }
    match pending with
    | none=>run call fn m j k s| some .ret=>run call fn m j (.code .ret::k) s| some (.exit id)=>run call fn m j (.code (.exit id)::k) s| some _=>ab
   | _=>ab
  | .mT::k=>match j with
   | none=>ab
   | some b=>match s.heap[b]? with
    | some (.lp f tmps ps as bd .ready pending d)=>run call fn m j k { s with heap:=s.heap.set b (.lp f tmps ps as bd .busy pending d) }
    | _=>ab
  | .code .skip::k=>run call fn m j k s| .inScope _::k=>run call fn m j k s| .code (.label _)::k=>run call fn m j k s| .code (.scope a)::k=>run call fn m j (.code a::.inScope a::k) s
  | .code (.goto l)::k=>match gotoIn l k with
   | some k=>run call fn m j k s| none=>ab
  | .code .bad::_=>ab| .code .ret::_=>aa (aa .ret,s)
  | .code (.exit id)::k=>match exitTo id k with
   | some k=>run call fn m j k s| none=>if j.isSome then aa (aa (.exit id),s)else ab
  | .code (.seq a b)::k=>run call fn m j (.code a::.code b::k) s| .code (.block id a)::k=>run call fn m j (.code a::.inBlock id::k) s| .code (.loop a)::k=>run call fn m j (.code a::.inLoop a::k) s
  | .code (.cond c a b)::k=>match c.ev s.aD with
   | .c (.f (.bool v))=>run call fn m j (.code (if v then a else b)::k) s| _=>ab
  | .code (.region ops u)::k=>
   if j.isSome&&!ops.all (·.op.dZ)then ab else
   match gk call ops u s with
   | some s=>run call fn m j k s| none=>ab
  | .code (.fo f ps as bd)::k=>
   if j.isSome then ab else
   let d:=s.heap.length
   let H:=s.heap++[.eH ae,.lp fn s.aD ps as bd .ready ab d]
   match bX (f.ev s.aD) [.c (.yl (d+1))]with
   | some (.fn g,args)=>match call (.fn g) args H with
    | some (_,H)=>run call fn m j (.je (d+1)::k) { aD:=s.aD,defs:=.gZ d::s.defs,heap:=H }| none=>ab
   | _=>ab
def fv:Nat:=1000000000
def dL(call:cR):List dQ→aj→Option aj
 | [],H=>aa H
 | .gZ b::ds,H=>match H[b]? with
  | some (.eH ae)=>dL call ds (H.set b (.eH ag))| _=>ab
 | .fn f args::ds,H=>if f=fv then ab else match call (.fn f) args H with
  | some (_,H)=>dL call ds H| none=>ab
def cA(aD:T)(H:aj):gH→Option V
 | .tmp t=>match aD.get t with
  | .t _=>ab| v=>aa v
 | .cell t n=>aR H n (aD.get t)
def results(aD:T)(H:aj)(b:List gH):Option V:=
 match bj (cA aD H) b with
 | some [v]=>aa v| some d=>aa (.t d)| none=>ab
def cN:List P→List V→T→T
 | p::ps,v::b,aD=>cN ps b (aD.set p v)| _,_,aD=>aD
def eG(tab:Nat→Option aL)(g:Nat→List V→aj→Option (Option (V × aj)))(m:Nat):Nat→cR
 | 0,_,_,_=>ab
 | d+1,.fn f,args,H=>
  match g f args H with
  | some r=>r
  | none=>match tab f with
   | none=>ab
   | some af=>if args.length=af.ps.length then match run (eG tab g m d) f m ab [.code af.body] ⟨cN af.ps args .e,[],H⟩with
    | some (_,s)=>match dL (eG tab g m d) s.defs s.heap with
     | some H=>(results s.aD H af.results).map (·,H)| none=>ab
    | none=>ab
    else ab
 | d+1,.yield b,args,H=>
  match H[b]? with
  | some (.lp f tmps ps as bd _ _ _)=>
   if args.length=ps.length then
    match run (eG tab g m d) f m (aa b) [.code as,.mT,.code bd] ⟨cN ps args tmps,[],H⟩with
    | some (j,s)=>
     if s.defs.isEmpty then
      match s.heap[b]? with
      | some (.lp x l u as' q _ _ v)=>aa (.bool j.isNone,s.heap.set b (.lp x l u as' q (if j.isNone then .ready else .done) j v))| _=>ab
     else ab
    | none=>ab
   else ab
  | _=>ab
section
variable(Q:Program)(σ:Nat→FuncId)
def apq:Value→Bool
 | .agg _ | .tuple _=>ag| _=>ae
def aox:Value→Bool
 | .agg _=>ae| _=>ag
def mK1:FC→Value→Bool
 | .bool a,.bool b=>a == b| .int j a,.int k b=>decide (j=k)&&decide (a=b)| .str a,.string b=>decide (a=b)| .ov,.pointer ab=>ae| .az,.slice ab 0 0=>ae| .i',.nilFunc=>ae| .mN,.nilIface=>ae| .xf,.map ab=>ae| _,_=>ag
def ft{α β:Type}(f:α→β→Bool):List α→List β→Bool
 | [],[]=>ae| x::xs,y::ys=>f x y&&ft f xs ys| _,_=>ag
def mK:V→Value→Bool
 | .c (.f x),v=>mK1 x v| .a xs,.agg us=>ft (fun x u=>match x with | C.f x=>mK1 x u | _=>ag) xs us.toList
 | .top,.tuple us=>us.isEmpty| _,_=>ag
def mA:Arg→Operand→Bool
 | .r p,.tmp t=>p.toNat == t| .k v,.const u=>mK v u| .k (.c (.f (.fn f []))),.func g=>σ f == g| _,_=>ag
def mAs(xs:List Arg)(ys:Array Operand):Bool:=ft (mA σ) xs ys.toList
def mO:Option Arg→Option Operand→Bool
 | none,ab=>ae| some x,aa y=>mA σ x y| _,_=>ag
def dE(t:TypeId)(n:Nat):Bool:=(Q.info? t).any fun i=>i.size == n
def nE(t:TypeId)(n:Nat):Bool:=(Q.info? t).any fun i=>i.bytes == n
def lH(t:TypeId)(zs:List FC):Bool:=(Q.info? t).any fun i=>match i.zero with
 | some z=>ft mK1 zs z.cells.toList| none=>ag
def wB(t:TypeId)(n:Option Nat):Bool:=match Q.underlying t,n with
 | some (.struct _),aa n | some (.array _ _),aa n=>dE Q t n| some (.struct _),ab | some (.array _ _),ab=>ag| some _,ab=>ae| _,_=>ag
def iw:Nat→TypeId→Option (List CK)
 | 0,_=>ab
 | d+1,t=>match Q.underlying t with
  | some .bool=>if dE Q t 1 then aa [.bool]else ab| some (.int _)=>if dE Q t 1 then aa [.int]else ab| some .string=>if dE Q t 1 then aa [.str]else ab
  | some (.struct fs)=>if Q.stoodInHeld t then ab else match qA (iw d) 0 fs.toList with
   | some ks=>if dE Q t ks.length then aa ks else ab| none=>ab
  | _=>ab
 where
 qA (rec:TypeId→Option (List CK)) (off:Nat):List Field→Option (List CK)
  | []=>aa []
  | f::fs=>if f.name≠ "_"∧f.offset=off then match rec f.type with
    | some ks=>match qA rec (off+ks.length) fs with
     | some r=>aa (ks++r)| none=>ab
    | none=>ab
   else ab
def th:Operand→Bool
 | .const _=>ae| _=>ag
def mEq(k:Fj)(t:TypeId)(x y:Operand):Bool:=match Q.underlying t,k with
 | some .bool,.bool | some (.pointer _),.ptr | some (.slice _),.sl | some (.func _ _ _),.fn=>ae| some (.interface _),.ifc=>th x||th y| some (.struct _),.st b=>decide (iw Q 20 t=aa b)&&!Q.eqGuardType Q.depth t| _,_=>ag
def mY(t:TypeId):Option TypeId:=match Q.underlying t with
 | some (.slice e)=>aa e| _=>ab
def asf(t:TypeId):Bool:=match Q.underlying t with
 | some (.int .u8)=>ae| _=>ag
def ef(c:Call):cW→Bool
 | .len x=>match c.callee,c.args.toList,c.argTypes.toList with
  | .builtin .len,[y],[t]=>mA σ x y&&(match Q.underlying t with | some (.slice _)=>ae | _=>ag)
  | _,_,_=>ag
 | .lens x=>match c.callee,c.args.toList,c.argTypes.toList with
  | .builtin .len,[y],[t]=>mA σ x y&&(match Q.underlying t with | some .string=>ae | _=>ag)
  | _,_,_=>ag
 | .ou n=>match c.callee,c.args.toList,c.argTypes.toList with
  | .builtin .len,[_],[t]=>(match Q.underlying t with | some (.array m _)=>decide (n=m) | _=>ag)
  | _,_,_=>ag
 | .append sz bytes x y=>match c.callee,c.args.toList,c.argTypes.toList with
  | .builtin .append,[u,v],[t,b]=>mA σ x u&&mA σ y v&&(mY Q t).any (fun e=>dE Q e sz&&nE Q e bytes&&decide (0<sz)&&(Q.info? e).any (fun i=>i.zero.any fun z=>decide (z.cells.size=sz)))
    && (match Q.underlying b with | some .string=>ae | some (.slice _)=>ae | _=>ag)
  | _,_,_=>ag
 | .lO sz bytes zs x y=>match c.callee,c.args.toList,c.argTypes.toList with
  | .builtin .append,[u,v],[t,b]=>mA σ x u&&mA σ y v&&(mY Q t).any (fun e=>dE Q e sz&&nE Q e bytes&&decide (0<sz)&&lH Q e zs)
    && (match Q.underlying b with | some (.int _)=>ae | _=>ag)
  | _,_,_=>ag
 | .copy sz x y=>match c.callee,c.args.toList,c.argTypes.toList with
  | .builtin .copy,[u,v],[t,_]=>mA σ x u&&mA σ y v&&(mY Q t).any (fun e=>dE Q e sz)
  | _,_,_=>ag
 | .gQ lo xs=>match c.callee,lo with
  | .builtin .max,ag | .builtin .min,ae=>mAs σ xs c.args| _,_=>ag
 | .cap x=>match c.callee,c.args.toList,c.argTypes.toList with
  | .builtin .cap,[y],[t]=>mA σ x y&&(match Q.underlying t with | some (.slice _)=>ae | _=>ag)
  | _,_,_=>ag
 | .clear sz zs x=>match c.callee,c.args.toList,c.argTypes.toList with
  | .builtin .clear,[y],[t]=>mA σ x y&&(mY Q t).any (fun e=>dE Q e sz&&lH Q e zs)
  | _,_,_=>ag
 | .recover=>match c.callee with
  | .builtin .recover=>ae| _=>ag
 | .call f xs _=>match c.callee with
  | .value (.func g)=>σ f == g&&mAs σ xs c.args| _=>ag
 | .cj x xs _=>match c.callee with
  | .value y=>mA σ x y&&mAs σ xs c.args| _=>ag
 | _=>ag
def QO(b:CK)(t:TypeId):Bool:=match Q.underlying t,b with
 | some (.int _),.int | some .string,.str | some .bool,.bool=>ae| _,_=>ag
def adE(t:TypeId)(qs:List (Nat × Nat × Arg))(ps:List (Nat × Operand)):Bool:=match Q.underlying t with
 | some (.struct b)=>match b.toList.mapM (fun f=>(Q.info? f.type).map fun i=>(f.offset,i.size))with
  | some d=>ft (fun(q:Nat × Nat × Arg) (p:Nat × Operand)=>decide (d[p.1]?=aa (q.1,q.2.1))&&mA σ q.2.2 p.2) qs ps
  | none=>ag
 | some (.array _ e)=>match Q.info? e with
  | some i=>ft (fun(q:Nat × Nat × Arg) (p:Nat × Operand)=>i.size == q.2.1&&q.1 == p.1*q.2.1&&mA σ q.2.2 p.2) qs ps
  | none=>ag
 | _=>ag
def dU(o:Oper)(a:cW):Bool:=match a with
 | .bad=>ae| .aZ y=>(match o.op with | .move x | .assign x=>mA σ y x | _=>ag)
 | .pre .nil sz=>(match o.op with | .move (.const (.slice ab 0 0)) | .assign (.const (.slice ab 0 0))=>decide (0<sz) | _=>ag)
 | .pick L A I=>(match o.op with | .pick c x y=>mA σ L c&&mA σ A x&&mA σ I y | _=>ag)
 | .alloc zs=>(match o.op with | .alloc t=>lH Q t zs | _=>ag)
 | .box y=>(match o.op with | .box _ x=>mA σ y x | _=>ag)
 | .build zs qs=>(match o.op with | .build t ps=>lH Q t zs&&adE Q σ t qs ps.toList | _=>ag)
 | .bK sz zs F qs=>(match o.op with | .buildSlice t n ps=>n == F&&decide (n*sz≤2 ^ 24)&&(mY Q t).any (fun e=>dE Q e sz&&lH Q e zs&&decide (zs.length=sz))&&decide (0<sz)&&ft (fun(q:Nat × Arg) (p:Nat × Operand)=>q.1 == p.1&&mA σ q.2 p.2) qs ps.toList | _=>ag)
 | .fP sz zs F qs=>(match o.op with | .buildSlice t n ps=>n == F&&decide (n*sz≤2 ^ 24)&&(mY Q t).any (fun e=>dE Q e sz&&lH Q e zs&&decide (zs.length=sz))&&decide (0<sz)&&ft (fun(q:Nat × Arg) (p:Nat × Operand)=>q.1 == p.1&&mA σ q.2 p.2) qs ps.toList | _=>ag)
 | .load n y=>(match o.op with | .load t x=>wB Q t n&&mA σ y x | _=>ag)
 | .store n A I=>(match o.op with | .store t x y=>dE Q t n&&mA σ A x&&mA σ I y | _=>ag)
 | .bR y=>(match o.op with | .nilCheck x=>mA σ y x | _=>ag)
 | .bin H A I=>(match o.op with | .binOp op t x y _=>decide (op=H)&&mA σ A x&&mA σ I y | _=>ag)
 | .eq neg k A I=>(match o.op with | .binOp op t x y _=>decide (op=if neg then .neq else .eql)&&mA σ A x&&mA σ I y&&mEq Q k t x y | _=>ag)
 | .un H y=>(match o.op with | .unOp op _ x=>decide (op=H)&&mA σ y x | _=>ag)
 | .fT k y=>(match o.op with | .convert s d x=>mA σ y x&&(Q.underlying s).isSome&&(match Q.underlying d with | some (.int k')=>decide (k=k') | _=>ag) | _=>ag)
 | .wU y=>(match o.op with | .convert s d x=>mA σ y x&&(match Q.underlying s,Q.underlying d with | some .string,aa .string=>ae | _,_=>ag) | _=>ag)
 | .wT y=>(match o.op with | .convert s d x=>mA σ y x&&(match Q.underlying s,Q.underlying d with | some (.slice e),aa .string=>asf Q e&&dE Q e 1 | _,_=>ag) | _=>ag)
 | .fR g ys=>(match o.op with | .makeFunc (.func f) fst B=>fst.isEmpty&&σ g == f&&mAs σ ys B | _=>ag)
 | .jQ=>(match o.op with | .makeMap _ ab=>ae | _=>ag)
 | .dX sz bytes zs l' L=>(match o.op with | .makeSlice t l c=>mA σ l' l&&mA σ L c&&(mY Q t).any (fun e=>dE Q e sz&&nE Q e bytes&&lH Q e zs)&&decide (0<sz) | _=>ag)
 | .slice sz y E b mx'=>(match o.op with | .slice t x lo hi mx=>mA σ y x&&mO σ E lo&&mO σ b hi&&mO σ mx' mx&&(mY Q t).any (fun e=>dE Q e sz)&&decide (0<sz) | _=>ag)
 | .wg sz y b mx'=>(match o.op with | .slice t x ab (aa hi) (aa mx)=>mA σ y x&&mA σ b hi&&mA σ mx' mx&&(mY Q t).any (fun e=>dE Q e sz)&&decide (0<sz) | _=>ag)
 | .oK y E b=>(match o.op with | .slice t x lo hi ab=>mA σ y x&&mO σ E lo&&mO σ b hi&&(match Q.underlying t with | some .string=>ae | _=>ag) | _=>ag)
 | .nB n sz y E b mx'=>(match o.op with | .slice t x lo hi mx=>mA σ y x&&mO σ E lo&&mO σ b hi&&mO σ mx' mx&&(match Q.underlying t with | some (.array F e)=>n == F&&dE Q e sz | _=>ag)&&decide (0<sz) | _=>ag)
 | .aO off y=>(match o.op with | .fieldAddr t x i=>mA σ y x&&(match Q.underlying t with | some (.struct N)=>(match N[i]? with | some f=>f.offset == off&&(Q.info? f.type).any (fun i=>i.size != 0) | none=>ag) | _=>ag) | _=>ag)
 | .field off n y=>(match o.op with | .field t x i=>mA σ y x&&(match Q.underlying t with | some (.struct N)=>(match N[i]? with | some f=>f.offset == off&&wB Q f.type n | none=>ag) | _=>ag) | _=>ag)
 | .bE sz K A J=>(match o.op with | .indexAddr t x i=>mA σ A x&&mA σ J i&&(match Q.underlying t,K with | some (.slice e),ab=>dE Q e sz | some (.array n e),aa F=>n == F&&dE Q e sz | _,_=>ag) | _=>ag)
 | .idxs A J=>(match o.op with | .index t x i=>mA σ A x&&mA σ J i&&(match Q.underlying t with | some .string=>ae | _=>ag) | _=>ag)
 | .wW n sz k A J=>(match o.op with | .index t x i=>mA σ A x&&mA σ J i&&(match Q.underlying t with | some (.array F e)=>n == F&&dE Q e sz&&wB Q e k | _=>ag) | _=>ag)
 | .lookup M z O k'=>(match o.op with | .lookup t m k ok=>mA σ O m&&mA σ k' k&&(ok ==(sH z).isSome)&&(match Q.underlying t with | some (.map kt e)=>QO Q M kt&&lH Q e (sW ((sH z).getD z))&&(Q.info? e).any (fun i=>i.zero.any fun u=>if EY ((sH z).getD z)then aox u else apq u) | _=>ag) | _=>ag)
 | .jg M O k' S=>(match o.op with | .mapUpdate t m k v=>mA σ O m&&mA σ k' k&&mA σ S v&&(match Q.underlying t with | some (.map kt _)=>QO Q M kt | _=>ag) | _=>ag)
 | .range y=>(match o.op with | .range t x=>mA σ y x&&(match Q.underlying t with | some .string=>ae | _=>ag) | _=>ag)
 | .next y=>(match o.op with | .next x ae=>mA σ y x | _=>ag)
 | .extract y j=>(match o.op with | .extract x i=>mA σ y x&&i == j | _=>ag)
 | .defer x xs=>(match o.op with | .defer c=>(match c.callee with | .value y=>mA σ x y&&mAs σ xs c.args | _=>ag) | _=>ag)
 | .len x=>(match o.op with | .call c=>ef Q σ c (.len x) | _=>ag)
 | .lens x=>(match o.op with | .call c=>ef Q σ c (.lens x) | _=>ag)
 | .ou n=>(match o.op with | .call c=>ef Q σ c (.ou n) | _=>ag)
 | .append sz bytes x y=>(match o.op with | .call c=>ef Q σ c (.append sz bytes x y) | _=>ag)
 | .gQ lo xs=>(match o.op with | .call c=>ef Q σ c (.gQ lo xs) | _=>ag)
 | .lO sz bytes zs x y=>(match o.op with | .call c=>ef Q σ c (.lO sz bytes zs x y) | _=>ag)
 | .cap x=>(match o.op with | .call c=>ef Q σ c (.cap x) | _=>ag)
 | .clear sz zs x=>(match o.op with | .call c=>ef Q σ c (.clear sz zs x) | _=>ag)
 | .kE y=>(match o.op with | .range t x=>mA σ y x&&(match Q.underlying t with | some (.map _ _)=>ae | _=>ag) | _=>ag)
 | .oI y=>(match o.op with | .next x ag=>mA σ y x | _=>ag)
 | .entry y=>(match o.op with | .entry x=>mA σ y x | _=>ag)
 | .nq g ys=>(match o.op with | .makeFunc (.func f) fst B=>B.isEmpty&&σ g == f&&mAs σ ys fst | _=>ag)
 | .recover=>(match o.op with | .call c=>ef Q σ c (.recover) | _=>ag)
 | .call f xs h=>(match o.op with | .call c=>ef Q σ c (.call f xs h) | _=>ag)
 | .cj x xs h=>(match o.op with | .call c=>ef Q σ c (.cj x xs h) | _=>ag)
 | _=>ag
inductive Cls where | p | r | a | c | w
 deriving DecidableEq
def cls:cW→Cls
 | .aZ _ | .pick .. | .build .. | .un .. | .fT .. | .wU _ | .fR .. | .oK .. | .aO .. | .field .. | .idxs .. | .wW .. | .extract .. | .gQ .. | .nq .. | .bR _ | .bin .. | .ou _ | .lens _ | .fP ..=>.p| .load .. | .eq .. | .len _ | .slice .. | .nB .. | .bE .. | .lookup .. | .wT _ | .cap _ | .entry _=>.r| .alloc _ | .box _ | .jQ=>.a| .bK .. | .dX ..=>.a| .call _ _ ag=>.c| _=>.w
def Arg.rd:Arg→List P
 | .r p=>[p]| .k _=>[]
def oRd:Option Arg→List P
 | some x=>x.rd| none=>[]
def cW.rd:cW→List P
 | .aZ x | .box x | .load _ x | .bR x | .un _ x | .fT _ x | .wU x | .wT x | .DK x | .aO _ x | .field _ _ x | .range x | .next x | .extract x _ | .len x | .lens x | .cap x | .clear _ _ x | .kE x | .oI x | .entry x=>x.rd| .pre _ _ | .alloc _ | .jQ | .recover | .ou _ | .bad=>[]| .pick c a b=>c.rd++a.rd++b.rd| .build _ ps=>ps.flatMap fun p=>p.2.2.rd
 | .bK _ _ _ ps | .fP _ _ _ ps=>ps.flatMap fun p=>p.2.rd
 | .store _ x y | .bin _ x y | .eq _ _ x y | .bE _ _ x y | .idxs x y | .wW _ _ _ x y | .append _ _ x y | .copy _ x y | .lO _ _ _ x y | .lookup _ _ x y | .dX _ _ _ x y=>x.rd++y.rd| .jg _ x y z | .wg _ x y z=>x.rd++y.rd++z.rd| .fR _ xs | .call _ xs _ | .gQ _ xs | .nq _ xs=>xs.flatMap Arg.rd| .cj x xs _ | .defer x xs=>x.rd++xs.flatMap Arg.rd| .slice _ x a b c | .nB _ _ x a b c=>x.rd++oRd a++oRd b++oRd c| .oK x a b=>x.rd++oRd a++oRd b
def aS.rd(o:aS):List P:=(match o.g with | some (p,_)=>[p] | none=>[])++o.op.rd
def aS.apart(x y:aS):Bool:=
 (match x.dst with | some d=>!y.rd.contains d&&y.dst != aa d | none=>ae)&&(match y.dst with | some d=>!x.rd.contains d | none=>ae)
def uQ(x y:aS):Bool:=
 match cls x.op,cls y.op with
 | .p,_ | _,.p=>ae| .r,.w | .w,.r=>ae| .w,_ | _,.w=>ag| _,_=>ae
def nj(acc:List Nat)(o:Oper):Nat:=o.after.toList.foldl (fun s e=>if Region.binds .any e then s ||| 2 ^ e.on ||| acc.getD e.on 0 else s) 0
def dD:List Oper→List Nat→List Nat
 | [],acc=>acc| o::os,acc=>dD os (acc++[nj acc o])
def AA(b:List Nat)(i j:Nat):Bool:=(b.getD j 0).testBit i
def my(aos:List aS):List Nat:=(List.range aos.length).filter fun j=>match aos[j]? with
 | some y=>decide (cls y.op=.w)| none=>ag
def phase(aos:List aS)(i:Nat):Nat:=i+((aos.drop i).takeWhile fun y=>decide (cls y.op≠.w)).length
def B4(b:List Nat)(aos:List aS)(i e:Nat):Bool:=
 (my aos).all fun j=>if j<e then !AA b i j else !AA b j i
def ajR(b:List Nat)(aos:List aS)(j:Nat):Bool:=match aos[j]? with
 | some y=>(match y.op with | .alloc _=>ae | _=>ag)&&(my aos).any fun e=>decide (e<j)&&!AA b e j
 | none=>ag
def kS(b:List Nat)(aos:List aS):Nat:=((List.range aos.length).find? (ajR b aos)).getD aos.length
def FF(b:List Nat)(aos:List aS)(j:Nat):Bool:=match aos[j]? with
 | some y=>y.g.isNone&&(match y.op with | .alloc _=>ae | _=>ag)&&(match y.dst with
  | some p=>(List.range aos.length).all fun i=>match aos[i]? with
   | some z=>!z.rd.contains p||(my aos).all fun e=>!decide (e<j)||AA b e i
   | none=>ae
  | none=>ag)
 | none=>ae
def adX(ops:List Oper)(aos:List aS)(d:List (Nat × Nat)):Bool:=
 let b:=dD ops []
 let n:=aos.length
 ((ops.zip (List.range n)).all fun o=>o.1.after.toList.all fun e=>!Region.binds .any e||decide (e.on<o.2)) &&
 ((List.range n).all fun j=>(List.range j).all fun i=>AA b i j||(match aos[i]?,aos[j]? with
  | some x,aa y=>x.apart y&&(uQ x y||(decide (j=kS b aos)&&decide (cls x.op=.w)))
  | _,_=>ag)) &&
 FF b aos (kS b aos) &&
 ((List.range n).all fun i=>match aos[i]? with
  | some x=>if cls x.op=.r then(my aos++[n]).all fun e=>e == phase aos i||!B4 b aos i e||d.contains (i,e)else ae
  | none=>ag)
variable(Q:Program)(σ:Nat→FuncId)
def lk(n:Nat)(ops:Array Oper)(o:Oper)(a:aS):Bool:=
 dU Q σ o a.op &&
 (match o.dst,a.dst with | some d,aa p=>p.toNat == d&&decide (d<n) | none,ab=>ae | _,_=>ag) &&
 (match o.guard,a.g with
  | some (j,w),aa (p,w')=>w == w'&&(match (ops[j]?).bind (·.dst)with | some d=>p.toNat == d&&decide (d<n) | none=>ag)
  | none,ab=>ae
  | _,_=>ag)
def ko:aG→Bool
 | .seq a b=>ko a&&ko b| .bad=>ag| _=>ae
def bT(n:Nat):Code→aG→Bool
 | _,.bad=>ae| .skip,.skip=>ae| .region _ ops g,.region aos j=>ft (lk Q σ n ops) ops.toList aos&&(!g||adX ops.toList aos j)| .seq a b,.seq a' d=>bT n a a'&&bT n b d| .cond c a b,.cond u a' d=>mA σ u c&&bT n a a'&&bT n b d| .block i a,.block m a'=>i == m&&bT n a a'| .loop a,.loop a'=>bT n a a'| .rangeFunc f ps a b,.fo v s a' d=>mA σ v f&&ft (fun p (q:P)=>q.toNat == p&&decide (p<n)) ps.toList s&&bT n a a'&&bT n b d
 | .exit i,.exit m=>i == m| .scope a,.scope a'=>bT n a a'&&ko a'| .label l,.label l'=>l == l'| .goto l,.goto l'=>l == l'| .ret,.ret=>ae| _,_=>ag
def xa(n:Nat):ResultVar→gH→Bool
 | .tmp t,.tmp p=>p.toNat == t&&decide (t<n)| .cell t b,.cell p k=>p.toNat == t&&decide (t<n)&&wB Q b k| _,_=>ag
def yD(f:Func)(a:aL):Bool:=
 f.name != "runtime.NumGoroutine" &&
 (match f.body with | some b=>bT Q σ f.ntmps b a.body | none=>ag) &&
 ft (xa Q f.ntmps) f.results.toList a.results &&
 decide (a.ps.map P.toNat=List.range a.ps.length)
end
section
def A2{α β:Type}(R:α→β→Prop)(xs:List α)(ys:List β):Prop:=
 xs.length=ys.length∧∀(i:Nat) x y,xs[i]?=aa x→ys[i]?=aa y→R x y
section A2
variable{α β:Type}{R S:α→β→Prop}{xs xs':List α}{ys ys':List β}
theorem A2.len(h:A2 R xs ys):xs.length=ys.length:=h.1
theorem A2.nil:A2 R [] []:=⟨rfl,by simp⟩
theorem A2.mono(h:A2 R xs ys)(d:∀ x y,x ∈ xs→R x y→S x y):A2 S xs ys:=
 ⟨h.1,fun i x y b hy=>d x y (List.mem_of_getElem? b) (h.2 i x y b hy)⟩
theorem A2.get(h:A2 R xs ys){i:Nat}{x:α}(b:xs[i]?=aa x):∃ y,ys[i]?=aa y∧R x y:=by
 have hi:i<xs.length:=(BY.1 b).1;have hy:i<ys.length:=h.1▸hi;exact⟨ys[i],By hy,h.2 i x _ b (By hy)⟩
theorem A2.cons{x:α}{y:β}(j:R x y)(h:A2 R xs ys):A2 R (x::xs) (y::ys):=
 ⟨by simp [h.1],fun i a b d g=>by
  cases i with
  | zero=>simp at d g;subst d;subst g;exact j
  | succ i=>simp at d g;exact h.2 i a b d g⟩
theorem A2.of_cons{x:α}{y:β}(h:A2 R (x::xs) (y::ys)):R x y∧A2 R xs ys:=
 ⟨h.2 0 x y rfl rfl,by simpa using h.1,fun i a b d g=>h.2 (i+1) a b (by simpa using d) (by simpa using g)⟩
theorem A2.append(h:A2 R xs ys)(j:A2 R xs' ys'):A2 R (xs++xs') (ys++ys'):=
 ⟨by simp [h.1,j.1],fun i a b d g=>by
  by_cases hi:i<xs.length
  ·rw [AT hi]at d;rw [AT (h.1▸hi)]at g;exact h.2 i a b d g
  ·rw [IS (by omega)]at d;rw [IS (by have:=h.1;omega),←h.1]at g;exact j.2 _ a b d g⟩
theorem A2.take(h:A2 R xs ys)(n:Nat):A2 R (xs.take n) (ys.take n):=
 ⟨by simp [h.1],fun i a b d g=>by
  rw [avI]at d g;split at d
  ·rename_i hi;simp only [hi,if_true]at g;exact h.2 i a b d g
  ·simp at d⟩
theorem A2.drop(h:A2 R xs ys)(n:Nat):A2 R (xs.drop n) (ys.drop n):=
 ⟨by simp [h.1],fun i a b d g=>by
  rw [avt]at d g;exact h.2 _ a b d g⟩
theorem A2.map{l:Type}{g:l→α}{zs:List l}(h:A2 (fun z y=>R (g z) y) zs ys):A2 R (zs.map g) ys:=
 ⟨by simpa using h.1,fun i a b d m=>by
  rw [avR]at d;cases j:zs[i]? with
  | none=>rw [j]at d;simp at d
  | some z=>rw [j]at d;simp at d;subst d;exact h.2 i z b j m⟩
theorem A2.lJ(h:A2 R xs ys)(b:∀ x y,R x y→S x y):A2 S xs ys:=h.mono fun x y _=>b x y
end A2
inductive cS(σ:Nat→FuncId)(F:Nat→Nat→Prop)(w:World):FC→Value→Prop
 | bool (b:Bool):cS σ F w (.bool b) (.bool b)
 | int (k:IntKind) (n:Int):cS σ F w (.int k n) (.int k n)
 | str (s:ByteArray):cS σ F w (.str s) (.string s)
 | ov:cS σ F w .ov (.pointer ab)
 | az:cS σ F w .az (.slice ab 0 0)
 | es (a:Addr):cS σ F w .es (.slice (aa a) 0 0)
 | i':cS σ F w .i' .nilFunc
 | mN:cS σ F w .mN .nilIface
 | xf:cS σ F w .xf (.map ab)
 | fp (cs:List FC) (off c o:Nat) (us:List Value) (hl:us.length=cs.length) (hF:∀ i,i<cs.length→F c (o+i))
   (hc:∀(i:Nat) u,us[i]?=aa u→w.cell? ⟨c,o+i,ab⟩=aa u) (hr:∀(i:Nat) x u,cs[i]?=aa x→us[i]?=aa u→cS σ F w x u) :
   cS σ F w (.fp cs off) (.pointer (aa ⟨c,o+off,ab⟩))
 | fs (cs:List FC) (l c o cap:Nat) (us:List Value) (DV:l≤cap) (hl:us.length=cs.length) (hF:∀ i,i<cs.length→F c (o+i))
   (hc:∀(i:Nat) u,us[i]?=aa u→w.cell? ⟨c,o+i,ab⟩=aa u) (hr:∀(i:Nat) x u,cs[i]?=aa x→us[i]?=aa u→cS σ F w x u) :
   cS σ F w (.fs cs l) (.slice (aa ⟨c,o,ab⟩) l cap)
 | fs0 (a:Addr) (cap:Nat):cS σ F w (.fs [] 0) (.slice (aa a) 0 cap)
 | fn (f:Nat) (PV:List FC) (us:List Value) (hl:us.length=PV.length) (hr:∀(i:Nat) x u,PV[i]?=aa x→us[i]?=aa u→cS σ F w x u) :
   cS σ F w (.fn f PV) (.func (.func (σ f)) #[] us.toArray)
theorem cS.mono{σ:Nat→FuncId}{F q:Nat→Nat→Prop}{w w':World}(s:∀ c i,F c i→q c i)
  (y:∀ c i,F c i→w'.cell? ⟨c,i,ab⟩=w.cell? ⟨c,i,ab⟩) {x:FC} {v:Value} (h:cS σ F w x v):cS σ q w' x v:=by
 induction h with
 | fp cs off c o us d b hc hr m=>
  refine .fp cs off c o us d (fun i hi=>s _ _ (b i hi)) (fun i u hu=>?_) m;rw [y c (o+i) (b i (by rw [←d];exact(BY.1 hu).1))];exact hc i u hu
 | fs cs l c o cap us j d b hc hr m=>
  refine .fs cs l c o cap us j d (fun i hi=>s _ _ (b i hi)) (fun i u hu=>?_) m;rw [y c (o+i) (b i (by rw [←d];exact(BY.1 hu).1))];exact hc i u hu
 | fn f g us d hr m=>exact .fn f g us d m| _=>constructor
theorem cS.one{σ:Nat→FuncId}{F:Nat→Nat→Prop}{w:World}{x:FC}{v:Value}(h:cS σ F w x v):v.oneCell'=ae:=by
 cases h<;>rfl
structure Loc where
 c:Nat
 cap:Nat
structure Wd where
 cB:Nat→Option Loc
 F:Nat→Nat→Prop
 H:aj
 w:World
 B:Nat
variable(σ:Nat→FuncId)
def fq(X:Wd):C→Value→Prop
 | .f x,v=>cS σ X.F X.w x v
 | .ptr b off ep,v=>∃ L,X.cB b=aa L∧match X.H[b]? with
  | some (.box _ _)=>v=.pointer (aa ⟨L.c,off,ab⟩)| some (.cf _ _ _ e .loc)=>ep≤e∧(ep=e→v=.pointer (aa ⟨L.c,off,ab⟩))∧∃ a,v=.pointer (aa a)| _=>False
 | .sl b o l cap ep sz,v=>match X.H[b]? with
  | some (.box _ _)=>∃ L,X.cB b=aa L∧l≤cap∧v=.slice (aa ⟨L.c,o,ab⟩) l cap
  | some (.cf s _ _ e u)=>ep≤e∧(ep=e→sz=s→match u with
    | .loc=>∃ L,X.cB b=aa L∧∃ k,o=k*s∧k+l≤L.cap∧v=.slice (aa ⟨L.c,o,ab⟩) l (L.cap-k)| .nil=>o=0∧l=0∧v=.slice ab 0 0
    | .es=>o=0∧l=0∧∃ a,v=.slice (aa a) 0 0)∧∃ a n c,v=.slice a n c
  | _=>False
 | .cl _ _,_=>False| .yl b,v=>∃ L,X.cB b=aa L∧(∃ f t p a g s q d,X.H[b]?=aa (.lp f t p a g s q d))∧v=.func (.yield L.c) #[] #[]| .mp b,v=>∃ L,X.cB b=aa L∧(∃ j,X.H[b]?=aa (.map j))∧v=.map (aa L.c)| .it b,v=>∃ L,X.cB b=aa L∧(∃ s p,X.H[b]?=aa (.it s p))∧v=.pointer (aa ⟨L.c,0,ab⟩)| .mi b,v=>∃ L,X.cB b=aa L∧(∃ m s d,X.H[b]?=aa (.wN m s d))∧v=.pointer (aa ⟨L.c,0,ab⟩)| .bm _ _,_=>False
def CR(X:Wd):C→Value→Prop
 | .cl f b,v=>∃ us,v=.func (.func (σ f)) #[] us.toArray∧A2 (fq σ X) b us| .bm f first,v=>∃ us,v=.func (.func (σ f)) us.toArray #[]∧A2 (fq σ X) first us
 | x,v=>fq σ X x v
theorem fq.one{X:Wd}{x:C}{v:Value}(h:fq σ X x v):v.oneCell'=ae:=by
 cases x with
 | f x=>exact cS.one h
 | ptr b off ep=>
  obtain⟨L,_,h⟩:=h;split at h
  ·subst h;rfl
  ·obtain⟨_,_,a,rfl⟩:=h;rfl
  ·exact h.elim
 | sl b o l cap ep sz=>
  simp only [fq]at h;split at h
  ·obtain⟨L,_,_,rfl⟩:=h;rfl
  ·obtain⟨_,_,a,n,c,rfl⟩:=h;rfl
  ·exact h.elim
 | cl f d=>exact h.elim| yl b=>obtain⟨L,_,_,rfl⟩:=h;rfl
 | mp b=>obtain⟨L,_,_,rfl⟩:=h;rfl
 | it b=>obtain⟨L,_,_,rfl⟩:=h;rfl
 | mi b=>obtain⟨L,_,_,rfl⟩:=h;rfl
 | bm f first=>exact h.elim
theorem CR.one{X:Wd}{x:C}{v:Value}(h:CR σ X x v):v.oneCell'=ae:=by
 cases x with
 | cl f j=>obtain⟨us,rfl,_⟩:=h;rfl
 | bm f first=>obtain⟨us,rfl,_⟩:=h;rfl
 | mi b=>exact fq.one σ (x:=.mi b) h| f y=>exact fq.one σ (x:=.f y) h| ptr a b c=>exact fq.one σ (x:=.ptr a b c) h| sl a b c d e g=>exact fq.one σ (x:=.sl a b c d e g) h| yl b=>exact fq.one σ (x:=.yl b) h| mp b=>exact fq.one σ (x:=.mp b) h| it b=>exact fq.one σ (x:=.it b) h
theorem CR.of1{X:Wd}{x:C}{v:Value}(h:fq σ X x v):CR σ X x v:=by
 cases x with
 | cl f b=>exact h.elim| bm f first=>exact h.elim
 | _=>exact h
def ic(X:Wd):V→Value→Prop
 | .top,_=>True| .c x,v=>CR σ X x v| .a xs,v=>∃ us,v=.agg us.toArray∧A2 (CR σ X) xs us| .t _,_=>False
def VR(X:Wd):V→Value→Prop
 | .t b,v=>∃ us,v=.tuple us.toArray∧A2 (ic σ X) b us| x,v=>ic σ X x v
theorem VR.of1{X:Wd}{x:V}{v:Value}(h:ic σ X x v):VR σ X x v:=by
 cases x with
 | t b=>exact h.elim| _=>exact h
def rowAt(w:World)(c:Nat)(us:List Value):Prop:=
 ∃ e b,w.heap[c]?=aa (.cells us.toArray e b)∧∀ i,i≤us.length→¬(b.1≤i∧i<b.2)
def mz(X X':Wd)(b:Nat):Prop:=
 ∀ bp,X.H[b]?=aa bp→∃ blk',X'.H[b]?=aa blk'∧match bp,blk' with
  | .box _ _,.box _ _=>∀ L,X.cB b=aa L→X'.cB b=aa L| .cf s _ _ e y,.cf s' _ _ j g=>s=s'∧((e=j∧y=g∧∀ L,X.cB b=aa L→X'.cB b=aa L)∨(e<j∧g=.loc∧∃ L,X'.cB b=aa L))| .map _,.map _=>∀ L,X.cB b=aa L→X'.cB b=aa L| .it _ _,.it _ _=>∀ L,X.cB b=aa L→X'.cB b=aa L| .eH _,.eH _=>∀ L,X.cB b=aa L→X'.cB b=aa L| .wN m s _,.wN v s' _=>(m=v∧s=s')∧∀ L,X.cB b=aa L→X'.cB b=aa L| .lp f t p a c _ _ d,.lp u z x a' l _ _ q=>(f=u∧t=z∧p=x∧a=a'∧c=l∧d=q)∧∀ L,X.cB b=aa L→X'.cB b=aa L| _,_=>False
structure Ext(N:Nat)(X X':Wd):Prop where
 B:X'.B=X.B
 F:∀ c i,X.F c i→X'.F c i
 qe:∀ c i,X'.F c i→X.F c i∨X.w.heap.size≤c∨∃ b L,X.cB b=aa L∧L.c=c
 fw:∀ c i,X.F c i→X'.w.cell? ⟨c,i,ab⟩=X.w.cell? ⟨c,i,ab⟩
 cO:∀ b,b<N→mz X X' b
 yz:∀ b L,X'.cB b=aa L→(∃ b0 L0,X.cB b0=aa L0∧L0.c=L.c)∨X.w.heap.size≤L.c
 size:X.w.heap.size≤X'.w.heap.size
 os:X'.w.os=X.w.os
 tape:X'.w.tape=X.w.tape
 output:X'.w.output=X.w.output
 frame:∀ k,k<X.w.heap.size→(∀ b L,X.cB b=aa L→L.c≠k)→X'.w.heap[k]?=X.w.heap[k]?
structure qd(N:Nat)(X X':Wd):Prop where
 F:∀ c i,X.F c i→X'.F c i
 fw:∀ c i,X.F c i→X'.w.cell? ⟨c,i,ab⟩=X.w.cell? ⟨c,i,ab⟩
 cO:∀ b,b<N→mz X X' b
theorem Ext.W{N:Nat}{X X':Wd}(h:Ext N X X'):qd N X X':=⟨h.F,h.fw,h.cO⟩
theorem mz.refl(X:Wd)(b:Nat):mz X X b:=fun bp h=>⟨bp,h,by cases bp<;>simp⟩
theorem mz.trans{X Y Z:Wd}{b:Nat}(h:mz X Y b)(k:mz Y Z b):mz X Z b:=by
 intro bp s;obtain⟨blk',m,h1⟩:=h bp s;obtain⟨g,j,h2⟩:=k blk' m;refine⟨g,j,?_⟩;cases bp<;>cases blk'<;>simp only at h1<;>cases g<;>simp only at h2 ⊢
 case box=>exact fun L d=>h2 L (h1 L d)
 case map=>exact fun L d=>h2 L (h1 L d)
 case it=>exact fun L d=>h2 L (h1 L d)
 case eH=>exact fun L d=>h2 L (h1 L d)
 case wN=>
  obtain⟨⟨rfl,rfl⟩,h1⟩:=h1;obtain⟨⟨rfl,rfl⟩,h2⟩:=h2;exact⟨⟨rfl,rfl⟩,fun L d=>h2 L (h1 L d)⟩
 case lp=>
  obtain⟨⟨rfl,rfl,rfl,rfl,rfl,rfl⟩,h1⟩:=h1;obtain⟨⟨rfl,rfl,rfl,rfl,rfl,rfl⟩,h2⟩:=h2;exact⟨⟨rfl,rfl,rfl,rfl,rfl,rfl⟩,fun L d=>h2 L (h1 L d)⟩
 case cf=>
  obtain⟨rfl,h1⟩:=h1;obtain⟨rfl,h2⟩:=h2;refine⟨rfl,?_⟩;rcases h1 with⟨rfl,rfl,h1⟩ | ⟨h1,rfl,L,d⟩
  ·rcases h2 with⟨rfl,rfl,h2⟩ | ⟨h2,rfl,L,d⟩
   ·exact .inl ⟨rfl,rfl,fun L d=>h2 L (h1 L d)⟩
   ·exact .inr ⟨h2,rfl,L,d⟩
  ·rcases h2 with⟨rfl,rfl,h2⟩ | ⟨h2,rfl,q,l⟩
   ·exact .inr ⟨h1,rfl,L,h2 L d⟩
   ·exact .inr ⟨by omega,rfl,q,l⟩
theorem Ext.refl(N:Nat)(X:Wd):Ext N X X:=
 ⟨rfl,fun _ _ h=>h,fun _ _ h=>.inl h,fun _ _ _=>rfl,fun b _=>mz.refl X b,fun b L h=>.inl ⟨b,L,h,rfl⟩,aft _,rfl,rfl,rfl,fun _ _ _=>rfl⟩
theorem Ext.trans{N:Nat}{X Y Z:Wd}(h:Ext N X Y)(k:Ext N Y Z):Ext N X Z where
 B:=k.B.trans h.B
 F:=fun c i g=>k.F c i (h.F c i g)
 qe:=fun c i g=>by
  rcases k.qe c i g with h1 | h1 | ⟨b,L,d,rfl⟩
  ·exact h.qe c i h1
  ·exact .inr (.inl (avv h.size h1))
  ·rcases h.yz b L d with⟨b0,l,h0,h1⟩ | h1
   ·exact .inr (.inr ⟨b0,l,h0,h1⟩)
   ·exact .inr (.inl h1)
 fw:=fun c i g=>(k.fw c i (h.F c i g)).trans (h.fw c i g)
 cO:=fun b d=>(h.cO b d).trans (k.cO b d)
 yz:=fun b L d=>by
  rcases k.yz b L d with⟨b0,l,h0,h1⟩ | h1
  ·rcases h.yz b0 l h0 with⟨b1,s,h2,h3⟩ | h2
   ·exact .inl ⟨b1,s,h2,h3.trans h1⟩
   ·exact .inr (h1▸h2)
  ·exact .inr (avv h.size h1)
 size:=avv h.size k.size
 os:=k.os.trans h.os
 tape:=k.tape.trans h.tape
 output:=k.output.trans h.output
 frame:=fun j m q=>by
  rw [k.frame j (avJ m h.size) (fun b L d hc=>?_)]
  ·exact h.frame j m q
  ·rcases h.yz b L d with⟨b0,l,h0,h1⟩ | h1
   ·exact q b0 l h0 (h1.trans hc)
   ·omega
theorem Ext.mono{N M:Nat}{X Y:Wd}(h:Ext N X Y)(g:M≤N):Ext M X Y:=
 {h with cO:=fun b d=>h.cO b (avJ d g) }
theorem fq.under{X:Wd}{x:C}{v:Value}(h:fq σ X x v):x.eZ X.H.length=ae:=by
 have lt:∀(b:Nat) bp,X.H[b]?=aa bp→b<X.H.length:=fun b bp g=>(BY.1 g).1;cases x with
 | f x=>rfl
 | ptr b off ep=>
  obtain⟨L,_,h⟩:=h;split at h
  ·rename_i g;simpa [C.eZ]using lt _ _ g
  ·rename_i g;simpa [C.eZ]using lt _ _ g
  ·exact h.elim
 | sl b o l cap ep sz=>
  simp only [fq]at h;split at h
  ·rename_i g;simpa [C.eZ]using lt _ _ g
  ·rename_i g;simpa [C.eZ]using lt _ _ g
  ·exact h.elim
 | cl f j=>exact h.elim| yl b=>obtain⟨L,_,⟨f,t,p,a,u,s,q,d,g⟩,rfl⟩:=h;simpa [C.eZ]using lt _ _ g
 | mp b=>obtain⟨L,_,⟨es,g⟩,rfl⟩:=h;simpa [C.eZ]using lt _ _ g
 | it b=>obtain⟨L,_,⟨s,p,g⟩,rfl⟩:=h;simpa [C.eZ]using lt _ _ g
 | mi b=>obtain⟨L,_,⟨m,s,d,g⟩,rfl⟩:=h;simpa [C.eZ]using lt _ _ g
 | bm f first=>exact h.elim
theorem fq.qy{N:Nat}{X X':Wd}(y:qd N X X'){x:C}{v:Value}(hu:x.eZ N=ae)(h:fq σ X x v):fq σ X' x v:=by
 cases x with
 | f x=>exact cS.mono y.F y.fw h
 | ptr b off ep=>
  obtain⟨L,u,h⟩:=h;have A:=y.cO b (by simpa [C.eZ]using hu);split at h
  ·rename_i cs fl j;obtain⟨blk',g,h1⟩:=A _ j;cases blk'<;>simp only at h1;exact⟨L,h1 L u,by rw [g];exact h⟩
  ·rename_i s cs fl e j;obtain⟨blk',g,h1⟩:=A _ j;cases blk'<;>simp only at h1;obtain⟨rfl,⟨rfl,rfl,h2⟩ | ⟨h2,rfl,B,z⟩⟩:=h1
   ·exact⟨L,h2 L u,by rw [g];exact h⟩
   ·exact⟨B,z,by rw [g];exact⟨by omega,fun h3=>by omega,h.2.2⟩⟩
  ·exact h.elim
 | sl b o l cap ep sz=>
  simp only [fq]at h ⊢;have A:=y.cO b (by simpa [C.eZ]using hu);split at h
  ·rename_i cs fl j;obtain⟨L,u,h⟩:=h;obtain⟨blk',g,h1⟩:=A _ j;cases blk'<;>simp only at h1;rw [g];exact⟨L,h1 L u,h⟩
  ·rename_i s cs fl e st j;obtain⟨blk',g,h1⟩:=A _ j;cases blk'<;>simp only at h1;rw [g];obtain⟨rfl,⟨rfl,rfl,h2⟩ | ⟨h2,rfl,B,z⟩⟩:=h1
   ·refine⟨h.1,fun h3 h4=>?_,h.2.2⟩;have h5:=h.2.1 h3 h4;cases st with
    | loc=>obtain⟨L,u,h6⟩:=h5;exact⟨L,h2 L u,h6⟩
    | nil=>exact h5| es=>exact h5
   ·exact⟨by omega,fun h3=>by omega,h.2.2⟩
  ·exact h.elim
 | cl f E=>exact h.elim
 | yl b=>
  obtain⟨L,u,⟨f,t,p,a,F,s,q,d,j⟩,rfl⟩:=h;obtain⟨blk',g,h1⟩:=y.cO b (by simpa [C.eZ]using hu) _ j;cases blk'<;>simp only at h1;exact⟨L,h1.2 L u,⟨_,_,_,_,_,_,_,_,g⟩,rfl⟩
 | mp b=>
  obtain⟨L,u,⟨es,j⟩,rfl⟩:=h;obtain⟨blk',g,h1⟩:=y.cO b (by simpa [C.eZ]using hu) _ j;cases blk'<;>simp only at h1;exact⟨L,h1 L u,⟨_,g⟩,rfl⟩
 | it b=>
  obtain⟨L,u,⟨s,p,j⟩,rfl⟩:=h;obtain⟨blk',g,h1⟩:=y.cO b (by simpa [C.eZ]using hu) _ j;cases blk'<;>simp only at h1;exact⟨L,h1 L u,⟨_,_,g⟩,rfl⟩
 | mi b=>
  obtain⟨L,u,⟨m,s,d,j⟩,rfl⟩:=h;obtain⟨blk',g,h1⟩:=y.cO b (by simpa [C.eZ]using hu) _ j;cases blk'<;>simp only at h1;exact⟨L,h1.2 L u,⟨_,_,_,g⟩,rfl⟩
 | bm f first=>exact h.elim
theorem CR.qy{N:Nat}{X X':Wd}(j:qd N X X'){x:C}{v:Value}(hu:x.under N=ae)(h:CR σ X x v):CR σ X' x v:=by
 cases x with
 | cl f m=>
  obtain⟨us,rfl,h⟩:=h;refine⟨us,rfl,h.mono fun y u hy l=>fq.qy σ j ?_ l⟩;exact avz.1 hu y hy
 | bm f first=>
  obtain⟨us,rfl,h⟩:=h;refine⟨us,rfl,h.mono fun y u hy l=>fq.qy σ j ?_ l⟩;exact avz.1 hu y hy
 | mi b=>exact fq.qy σ j (x:=.mi b) hu h| f y=>exact fq.qy σ j (x:=.f y) hu h| ptr a b c=>exact fq.qy σ j (x:=.ptr a b c) hu h| sl a b c d e g=>exact fq.qy σ j (x:=.sl a b c d e g) hu h| yl b=>exact fq.qy σ j (x:=.yl b) hu h| mp b=>exact fq.qy σ j (x:=.mp b) hu h| it b=>exact fq.qy σ j (x:=.it b) hu h
end
section
variable(Q:Program)(σ:Nat→FuncId)
theorem CR.under{X:Wd}{x:C}{v:Value}(h:CR σ X x v):x.under X.H.length=ae:=by
 cases x with
 | cl f j=>
  obtain⟨us,rfl,h⟩:=h;simp only [C.under,avz];intro y hy;obtain⟨i,hi⟩:=av2 hy;obtain⟨u,_,hu⟩:=h.get hi;exact fq.under σ hu
 | bm f j=>
  obtain⟨us,rfl,h⟩:=h;simp only [C.under,avz];intro y hy;obtain⟨i,hi⟩:=av2 hy;obtain⟨u,_,hu⟩:=h.get hi;exact fq.under σ hu
 | mi b=>exact fq.under σ (x:=.mi b) h| f y=>rfl| ptr a b c=>exact fq.under σ (x:=.ptr a b c) h| sl a b c d e g=>exact fq.under σ (x:=.sl a b c d e g) h| yl b=>exact fq.under σ (x:=.yl b) h| mp b=>exact fq.under σ (x:=.mp b) h| it b=>exact fq.under σ (x:=.it b) h
theorem CR.eg{X X':Wd}(b:qd X.H.length X X'){x:C}{v:Value}(h:CR σ X x v):CR σ X' x v:=CR.qy σ b (CR.under σ h) h
theorem A2.eg{X X':Wd}(b:qd X.H.length X X'){xs:List C}{us:List Value}(h:A2 (CR σ X) xs us):A2 (CR σ X') xs us:=
 h.lJ fun _ _ h=>CR.eg σ b h
theorem ic.eg{X X':Wd}(b:qd X.H.length X X'){x:V}{v:Value}(h:ic σ X x v):ic σ X' x v:=by
 cases x with
 | top=>trivial| c x=>exact CR.eg σ b h| a xs=>obtain⟨us,rfl,h⟩:=h;exact⟨us,rfl,A2.eg σ b h⟩
 | t d=>exact h.elim
theorem VR.eg{X X':Wd}(b:qd X.H.length X X'){x:V}{v:Value}(h:VR σ X x v):VR σ X' x v:=by
 cases x with
 | t d=>obtain⟨us,rfl,h⟩:=h;exact⟨us,rfl,h.lJ fun _ _ h=>ic.eg σ b h⟩
 | top=>trivial| c x=>exact ic.eg σ (x:=.c x) b h| a xs=>exact ic.eg σ (x:=.a xs) b h
def RR(X:Wd)(aD:T)(tmps:Array Value):Prop:=∀ p,VR σ X (aD.get p) (tmps.getD p.toNat undef)
theorem RR.eg{X X':Wd}(b:qd X.H.length X X'){aD:T}{tmps:Array Value}(h:RR σ X aD tmps):RR σ X' aD tmps:=fun p=>VR.eg σ b (h p)
theorem CR.ext'{X X':Wd}(b:Ext X.H.length X X'){x:C}{v:Value}(h:CR σ X x v):CR σ X' x v:=CR.eg σ b.W h
theorem A2.ext'{X X':Wd}(b:Ext X.H.length X X'){xs:List C}{us:List Value}(h:A2 (CR σ X) xs us):A2 (CR σ X') xs us:=A2.eg σ b.W h
theorem ic.ext'{X X':Wd}(b:Ext X.H.length X X'){x:V}{v:Value}(h:ic σ X x v):ic σ X' x v:=ic.eg σ b.W h
theorem VR.ext'{X X':Wd}(b:Ext X.H.length X X'){x:V}{v:Value}(h:VR σ X x v):VR σ X' x v:=VR.eg σ b.W h
theorem RR.ext'{X X':Wd}(b:Ext X.H.length X X'){aD:T}{tmps:Array Value}(h:RR σ X aD tmps):RR σ X' aD tmps:=RR.eg σ b.W h
theorem T.qB(t:T)(p q:P)(v:V):(t.set p v).get q=if p=q then v else t.get q:=by
 induction t generalizing p q with
 | e=>
  induction p generalizing q with
  | h=>cases q<;>simp [T.set,T.get]
  | o p b=>cases q<;>simp [T.set,T.get,b]
  | i p b=>cases q<;>simp [T.set,T.get,b]
 | n l j r d g=>cases p<;>cases q<;>simp [T.set,T.get,d,g]
theorem P.toNat_inj{p q:P}(h:p.toNat=q.toNat):p=q:=by
 induction p generalizing q with
 | h=>cases q<;>simp [P.toNat]at h ⊢
 | o p b=>
  cases q with
  | h=>simp [P.toNat]at h| o q=>simp only [P.toNat]at h;rw [b (q:=q) (by omega)]
  | i q=>simp [P.toNat]at h;omega
 | i p b=>
  cases q with
  | h=>simp [P.toNat]at h| o q=>simp [P.toNat]at h;omega| i q=>simp only [P.toNat]at h;rw [b (q:=q) (by omega)]
theorem RR.set{X:Wd}{aD:T}{tmps:Array Value}(h:RR σ X aD tmps){p:P}(g:p.toNat<tmps.size){v:V}{u:Value}(j:VR σ X v u) :
  RR σ X (aD.set p v) (tmps.setIfInBounds p.toNat u):=by
 intro q;rw [T.qB];by_cases d:p=q
 ·subst d;simpa [g]using j
 ·have b:p.toNat≠q.toNat:=fun e=>d (P.toNat_inj e);simpa [d,Array.getD_eq_getD_getElem?,Array.getElem?_setIfInBounds_ne b]using h q
def ej.of:ej→LoopState
 | .ready=>.ready| .busy=>.busy| .done=>.done| .exhausted=>.exhausted
def yE(n:Nat):Option aG→Option Code→Prop
 | none,ab=>True| some a,aa c=>bT Q σ n c a=ae| _,_=>False
def BR(X:Wd):bw→Loc→Prop
 | .box cs fl,L=>∃ us,rowAt X.w L.c us∧A2 (CR σ X) cs us∧∀ i,fl≤i→¬ X.F L.c i| .cf sz cs fl _ l,L=>l=.loc∧∃ us rest,rowAt X.w L.c (us++rest)∧A2 (CR σ X) cs us∧(us++rest).length=L.cap*sz∧0<sz∧(∃ n,cs.length=n*sz)∧∀ i,fl≤i→¬ X.F L.c i| .map y,L=>∃ g:List MapEntry,X.w.heap[L.c]?=aa (.map g.toArray g.length)∧A2 (fun e m=>cS σ X.F X.w e.1 m.key∧ic σ X (mV e.2) m.val) y g∧∀(i:Nat) m,g[i]?=aa m→m.born=i
 | .wN m j done,L=>∃(B:Loc) (z:Array Nat) (l:Nat),X.cB m=aa B∧(∃ y,X.H[m]?=aa (.map y))∧X.w.heap[L.c]?=aa (.mapIter (aa B.c) j z l)∧(if done then z=#[0]∧l=1 else z=#[])| .it s pos,L=>X.w.heap[L.c]?=aa (.stringIter s pos)| .eH b,L=>X.w.heap[L.c]?=aa (.deferred (if b then aa []else ab))
 | .lp f tmps ps as bd l v d,L=>∃(n:Nat) (us:Array Value) (x:Array Tmp) (as' u:Code) (pend':Option Code) (A:Loc),
   X.w.heap[L.c]?=aa (.loop { state:=l.of,pending:=pend',fn:=σ f,tmps:=us,params:=x,assign:=as',body:=u,defers:=A.c }) ∧
   n≤us.size∧RR σ X tmps us∧ft (fun p (q:P)=>q.toNat == p&&decide (p<n)) x.toList ps=ae∧bT Q σ n as' as=ae∧bT Q σ n u bd=ae∧yE Q σ n v pend'∧X.cB d=aa A∧∃ o,X.H[d]?=aa (.eH o)
theorem BR.qy{X X':Wd}(g:qd X.H.length X X'){bp:bw}{L:Loc}(l:X'.w.heap[L.c]?=X.w.heap[L.c]?)(F:∀ i,X'.F L.c i→X.F L.c i)(h:BR Q σ X bp L):BR Q σ X' bp L:=by
 cases bp with
 | box cs fl=>
  obtain⟨us,⟨e,fr,h1,h2⟩,h3,h4⟩:=h;exact⟨us,⟨e,fr,l.trans h1,h2⟩,A2.eg σ g h3,fun i hi x=>h4 i hi (F i x)⟩
 | cf sz cs fl ep st=>
  obtain⟨y,us,rest,⟨e,fr,h1,h2⟩,h3,h4,h5,h6,h7⟩:=h;exact⟨y,us,rest,⟨e,fr,l.trans h1,h2⟩,A2.eg σ g h3,h4,h5,h6,fun i hi x=>h7 i hi (F i x)⟩
 | map es=>
  obtain⟨u,h1,h2,h3⟩:=h;exact⟨u,l.trans h1,h2.lJ fun _ _ h=>⟨cS.mono g.F g.fw h.1,ic.eg σ g h.2⟩,h3⟩
 | wN m A done=>
  obtain⟨E,J,st,h1,⟨es,h2⟩,h3,h4⟩:=h;obtain⟨blk',j,h5⟩:=g.cO m (BY.1 h2).1 _ h2;cases blk'<;>simp only at h5;exact⟨E,J,st,h5 E h1,⟨_,j⟩,l.trans h3,h4⟩
 | it s pos=>exact l.trans h| eH b=>exact l.trans h
 | lp f tmps ps as bd st H d=>
  obtain⟨n,us,z,as',v,pend',B,h1,h2,h3,h4,h5,h6,h7,h8,o,h9⟩:=h;have I:d<X.H.length:=(BY.1 h9).1;obtain⟨blk',j,q⟩:=g.cO d I _ h9;cases blk'<;>simp only at q;exact⟨n,us,z,as',v,pend',B,l.trans h1,h2,RR.eg σ g h3,h4,h5,h6,h7,q B h8,_,j⟩
theorem BR.ext{X X':Wd}(g:Ext X.H.length X X'){bp:bw}{L:Loc}(d:X'.w.heap[L.c]?=X.w.heap[L.c]?)(b:∀ i,X'.F L.c i→X.F L.c i)(h:BR Q σ X bp L):BR Q σ X' bp L:=BR.qy Q σ g.W d b h
structure SR(X:Wd):Prop where
 br:∀ b L,X.cB b=aa L→X.B≤L.c∧L.c<X.w.heap.size∧∃ bp,X.H[b]?=aa bp∧BR Q σ X bp L
 inj:∀ b b' L L',X.cB b=aa L→X.cB b'=aa L'→L.c=L'.c→b=b'
 fb:∀ c i,X.F c i→c<X.w.heap.size
theorem SR.step{X X':Wd}(v:SR Q σ X)(u:Ext X.H.length X X')(b0:Nat)(y:∀ b,b≠b0→X'.H[b]?=X.H[b]?)(d:∀ b,b≠b0→X'.cB b=X.cB b)
  (z:∀ b L,b≠b0→X.cB b=aa L→X'.w.heap[L.c]?=X.w.heap[L.c]?) (x:∀ b L,b≠b0→X.cB b=aa L→∀ i,X'.F L.c i→X.F L.c i)
  (h0:∀ L,X'.cB b0=aa L→X.B≤L.c∧L.c<X'.w.heap.size∧(∃ bp,X'.H[b0]?=aa bp∧BR Q σ X' bp L)∧∀ b l,b≠b0→X.cB b=aa l→l.c≠L.c)
  (s:∀ c i,X'.F c i→c<X'.w.heap.size):SR Q σ X' where
 br:=fun b L g=>by
  rw [u.B];by_cases h:b=b0
  ·subst h;obtain⟨h1,h2,h3,_⟩:=h0 L g;exact⟨h1,h2,h3⟩
  ·rw [d b h]at g;obtain⟨h1,h2,bp,h3,h4⟩:=v.br b L g;exact⟨h1,avJ h2 u.size,bp,(y b h).trans h3,BR.ext Q σ u (z b L h g) (x b L h g) h4⟩
 fb:=fun c i h=>s c i h
 inj:=fun b m L l g j hc=>by
  by_cases h:b=b0<;>by_cases q:m=b0
  ·rw [h,q]
  ·subst h;rw [d m q]at j;exact absurd hc.symm ((h0 L g).2.2.2 m l q j)
  ·subst q;rw [d b h]at g;exact absurd hc ((h0 l j).2.2.2 b L h g)
  ·rw [d b h]at g;rw [d m q]at j;exact v.inj b m L l g j hc
end
section
variable{Q:Program}{σ:Nat→FuncId}{X:Wd}
theorem bc{t:TypeId}{d:TypeDesc}(h:Q.underlying t=aa d)(w:World):(underlying t).run Q w=.ok d w:=by
 simp [underlying,h]
theorem di{t:TypeId}{n:Nat}(h:dE Q t n=ae)(w:World):(Go.sizeOf t).run Q w=.ok n w:=by
 unfold dE at h;cases hi:Q.info? t with
 | none=>simp [hi]at h| some i=>simp [hi]at h;simp [Go.sizeOf,typeInfo,hi,h]
theorem Am{t:TypeId}{n:Nat}(h:nE Q t n=ae)(w:World):∃ i,(typeInfo t).run Q w=.ok i w∧i.bytes=n:=by
 unfold nE at h;cases hi:Q.info? t with
 | none=>simp [hi]at h| some i=>simp [hi]at h;exact⟨i,by simp [typeInfo,hi],h⟩
theorem Gq{t:TypeId}{n:Option Nat}(h:wB Q t n=ae)(w:World):(isAgg t).run Q w=.ok n.isSome w∧∀ k,n=aa k→dE Q t k=ae:=by
 unfold wB at h;cases b:Q.underlying t with
 | none=>simp [b]at h
 | some d=>
  cases d<;>cases n<;>simp_all [isAgg,bc b]
theorem ek(c o k:Nat):(⟨c,o,ab⟩:Addr).add k=⟨c,o+k,ab⟩:=by unfold Addr.add;split<;>simp_all
theorem dy{w:World}{c:Nat}{us:List Value}(h:rowAt w c us)(i:Nat):w.cell? ⟨c,i,ab⟩=us[i]?:=by
 obtain⟨e,b,h,_⟩:=h;simp [World.cell?,h]
theorem DS{w:World}{c:Nat}{us:List Value}(h:rowAt w c us){i:Nat}(hi:i<us.length):w.frozen? ⟨c,i,ab⟩=ag:=by
 obtain⟨e,d,h,b⟩:=h;have:=b i (Nat.le_of_lt hi);simp only [World.frozen?,h];simp only [Bool.and_eq_false_iff,decide_eq_false_iff_not];omega
theorem uN(A:SR Q σ X){x:C}{v:Value}(g:CR σ X x v){cs:List C}(h:aE X.H x=aa cs) :
  ∃ c o us,v=.pointer (aa ⟨c,o,ab⟩)∧(∀(i:Nat) u,us[i]?=aa u→X.w.cell? ⟨c,o+i,ab⟩=aa u)∧A2 (CR σ X) cs us:=by
 cases x with
 | ptr b off ep=>
  obtain⟨L,z,g⟩:=g;obtain⟨_,_,bp,q,j⟩:=A.br b L z;simp only [aE,q]at h;rw [q]at g;cases bp with
  | box cs' fl=>
   simp only [At]at h;subst h;subst g;obtain⟨us,l,m,_⟩:=j;exact⟨L.c,off,us.drop off,rfl,fun i u d=>by rw [dy l];rw [avt]at d;exact d,m.drop off⟩
  | cf s cs' fl e H=>
   cases H<;>simp only at h g
   ·split at h
    ·rename_i E;simp only [At]at h;subst h;obtain⟨_,g,_⟩:=g;have g:=g E;subst g;obtain⟨_,us,rest,l,m,_⟩:=j;refine⟨L.c,off,us.drop off,rfl,fun i u d=>?_,m.drop off⟩;rw [dy l];rw [avt]at d;rw [AT (BY.1 d).1];exact d
    ·simp at h
   all_goals exact g.elim
  | _=>simp at h
 | f x=>
  cases x with
  | fp cs' off=>
   simp only [aE,At]at h;subst h;cases g with
   | fp _ _ c o us F I B l=>
    refine⟨c,o+off,us.drop off,rfl,fun i u d=>?_,A2.map ⟨by simp [F],fun i x u y d=>?_⟩⟩
    ·rw [avt]at d;have:=B _ u d;rwa [show o+(off+i)=o+off+i by omega]at this
    ·rw [avt]at y d;exact l _ x u y d
  | _=>simp [aE]at h
 | _=>simp [aE]at h
theorem C0{t:TypeId}{n:Option Nat}(z:wB Q t n=ae){c o:Nat}{us:List Value}{cs:List C}{w:World}
  (q:∀(i:Nat) u,us[i]?=aa u→w.cell? ⟨c,o+i,ab⟩=aa u) (g:A2 (CR σ X) cs us) {v:V} (b:aV n cs=aa v) :
  ∃ u,(loadVar t ⟨c,o,ab⟩).run Q w=.ok u w∧VR σ X v u:=by
 obtain⟨m,s⟩:=Gq z w;cases n with
 | none=>
  cases cs with
  | nil=>simp [aV]at b
  | cons x cs=>
   simp only [aV,At]at b;subst b;obtain⟨u,A,l⟩:=g.get (i:=0) (x:=x) rfl;have:=q 0 u A;simp only [awL]at this;exact⟨u,by simp [loadVar,m,this],l⟩
 | some n=>
  simp only [aV]at b;split at b
  ·rename_i B;simp only [At]at b;subst b;have y:(us.take n).length=n:=by have:=g.len;simp;omega
   have:=run_loadCells_list (P:=Q) w ⟨c,o,ab⟩ (us.take n) (fun j v d=>by
    rw [ek];rw [avI]at d;split at d
    ·exact q j v d
    ·simp at d)
   rw [y]at this;refine⟨.agg (us.take n).toArray,?_,⟨us.take n,rfl,g.take n⟩⟩;simp [loadVar,m,di (s n rfl),this]
  ·simp at b
theorem apc(q:SR Q σ X){t:TypeId}{n:Option Nat}(s:wB Q t n=ae){x:V}{p:Value}(y:VR σ X x p){v:V}(h:aR X.H n x=aa v) :
  ∃ u,(Instr.loadAt t p).run Q X.w=.ok u X.w∧VR σ X v u:=by
 cases x with
 | c x=>
  simp only [aR,avy]at h;obtain⟨cs,b,d⟩:=h;obtain⟨c,o,us,rfl,g,j⟩:=uN q y b;obtain⟨u,l,m⟩:=C0 s g j d;exact⟨u,by simp [Instr.loadAt,Instr.sureAddr,l],m⟩
 | _=>simp [aR]at h
end
section
variable{Q:Program}{σ:Nat→FuncId}{X:Wd}
theorem VR.int{k:IntKind}{n:Int}{u:Value}(h:VR σ X (.c (.f (.int k n))) u):u=.int k n:=by cases (h:cS σ X.F X.w (.int k n) u);rfl
theorem VR.bool{b:Bool}{u:Value}(h:VR σ X (.c (.f (.bool b))) u):u=.bool b:=by cases (h:cS σ X.F X.w (.bool b) u);rfl
theorem VR.str{s:ByteArray}{u:Value}(h:VR σ X (.c (.f (.str s))) u):u=.string s:=by cases (h:cS σ X.F X.w (.str s) u);rfl
theorem VR.mkInt(k:IntKind)(n:Int):VR σ X (V.int k n) (.int k n):=cS.int k n
theorem VR.vz(b:Bool):VR σ X (V.bool b) (.bool b):=cS.bool b
theorem VR.mkStr(s:ByteArray):VR σ X (.c (.f (.str s))) (.string s):=cS.str s
theorem eI{α β:Type}{f:α→β→Bool}:∀ {xs:List α} {ys:List β},ft f xs ys=ae→A2 (fun x y=>f x y=ae) xs ys
 | [],[],_=>A2.nil
 | x::xs,y::ys,h=>by
  simp only [ft,If]at h;exact A2.cons h.1 (eI h.2)
 | [],_::_,h=>by simp [ft]at h
 | _::_,[],h=>by simp [ft]at h
theorem Eb{F:Nat→Nat→Prop}{w:World}{x:FC}{u:Value}(h:mK1 x u=ae):cS σ F w x u:=by
 unfold mK1 at h;split at h
 ·simp only [beq_iff_eq]at h;subst h;exact .bool _
 ·simp only [If,decide_eq_true_eq]at h;obtain⟨rfl,rfl⟩:=h;exact .int _ _
 ·simp only [decide_eq_true_eq]at h;subst h;exact .str _
 ·exact .ov
 ·exact .az
 ·exact .i'
 ·exact .mN
 ·exact .xf
 ·simp at h
theorem asn{x:V}{u:Value}(h:mK x u=ae):VR σ X x u:=by
 unfold mK at h;split at h
 ·exact Eb h
 ·refine⟨_,by simp,(eI h).lJ fun y w b=>?_⟩;split at b
  ·exact Eb b
  ·simp at b
 ·trivial
 ·simp at h
theorem bU{a:Act}{aD:T}(b:RR σ X aD a.tmps){x:Arg}{y:Operand}(h:mA σ x y=ae):VR σ X (x.ev aD) (a.eval y):=by
 unfold mA at h;split at h
 ·rename_i p t;simp only [beq_iff_eq]at h;subst h;exact b p
 ·exact asn h
 ·simp only [beq_iff_eq]at h;subst h;exact cS.fn _ [] [] rfl (by simp)
 ·simp at h
theorem ni{a:Act}{aD:T}(j:RR σ X aD a.tmps){xs:List Arg}{ys:Array Operand}(h:mAs σ xs ys=ae):A2 (VR σ X) (dC aD xs) (ys.map a.eval).toList:=by
 have:=(eI h).lJ fun x y b=>bU j b;refine⟨by simpa [dC]using this.len,fun i v u g d=>?_⟩;simp only [dC,avR,IT]at g;simp only [Array.toList_map,avR,IT]at d;obtain⟨x,l,rfl⟩:=g;obtain⟨y,m,rfl⟩:=d;exact this.2 i x y l m
theorem aso{a:Act}{aD:T}(g:RR σ X aD a.tmps){x:Option Arg}{y:Option Operand}(h:mO σ x y=ae) :
  (x=ab∧y=ab)∨∃ b d,x=aa b∧y=aa d∧VR σ X (b.ev aD) (a.eval d):=by
 unfold mO at h;split at h
 ·exact .inl ⟨rfl,rfl⟩
 ·exact .inr ⟨_,_,rfl,rfl,bU g h⟩
 ·simp at h
theorem ajE{op:BinOp}{k:IntKind}{x y:Int}{v:V}(h:oi op k x y=aa v)(w:World) :
  ∃ u,(binOp op 0 (.int k x) (.int k y)).run Q w=.ok u w∧VR σ X v u∧∀ t,binOp op t (.int k x) (.int k y)=binOp op 0 (.int k x) (.int k y):=by
 unfold oi at h;split at h<;>(try split at h)<;>(try simp only [At,reduceCtorEq]at h)<;>(try subst h)
 all_goals first
  | (refine⟨_,?_,VR.mkInt _ _,fun _=>by simp [binOp]⟩;simp [binOp,Op.intArith,Op.intBits];done)
  | (refine⟨_,?_,VR.vz _,fun _=>by simp [binOp]⟩;simp [binOp,Op.intCmp];done)
  | (rename_i b;refine⟨_,?_,VR.mkInt _ _,fun _=>by simp [binOp]⟩;simp [binOp,Op.intDiv,b];done)
theorem ajG{op:BinOp}{x y:ByteArray}{v:V}(h:aoD op x y=aa v)(w:World)(t:TypeId) :
  ∃ u,(binOp op t (.string x) (.string y)).run Q w=.ok u w∧VR σ X v u:=by
 unfold aoD at h;split at h<;>(try split at h)<;>(try simp only [At,reduceCtorEq]at h)<;>(try subst h)
 all_goals first
  | exact⟨_,by simp [binOp,Op.stringOp],VR.vz _⟩
  | (rename_i b;exact⟨_,by simp only [binOp,Op.stringOp];rw [aY b];rfl,VR.mkStr _⟩)
  | skip
end
section
variable{Q:Program}{σ:Nat→FuncId}{X:Wd}
theorem tR:∀ {d:List CK} {xs ys:List C} {b:Bool},rF d xs ys=aa b→xs.length=d.length∧ys.length=d.length
 | [],[],[],_,_=>⟨rfl,rfl⟩
 | k::d,x::xs,y::ys,b,h=>by
  simp only [rF]at h;split at h
  ·rename_i g;have:=tR g;simp [this]
  ·simp at h
 | [],_::_,_,_,h=>by simp [rF]at h
 | [],[],_::_,_,h=>by simp [rF]at h
 | _::_,[],_,_,h=>by simp [rF]at h
 | _::_,_::_,[],_,h=>by simp [rF]at h
theorem uX:∀ {d g:List CK} {xs ys:List C} {b:Bool},rF (d++g) xs ys=aa b →
  ∃ b1 j,rF d (xs.take d.length) (ys.take d.length)=aa b1∧rF g (xs.drop d.length) (ys.drop d.length)=aa j∧b=(b1&&j)
 | [],g,xs,ys,b,h=>⟨ae,b,rfl,by simpa using h,by simp⟩
 | k::d,g,[],ys,b,h=>by simp [rF]at h
 | k::d,g,x::xs,[],b,h=>by simp [rF]at h
 | k::d,g,x::xs,y::ys,b,h=>by
  simp only [List.cons_append,rF]at h;split at h
  ·rename_i a c q s;simp only [At]at h;obtain⟨b1,j,l,m,rfl⟩:=uX s;refine⟨a&&b1,j,?_,by simpa using m,by rw [←h,Bool.and_assoc]⟩;simp [rF,q,l]
  ·simp at h
def CKv:CK→Value→Value→Bool→Prop
 | .bool,u,v,b=>∃ p q,u=.bool p∧v=.bool q∧b=(p == q)| .int,u,v,b=>∃ j p q,u=.int j p∧v=.int j q∧b=(p == q)| .str,u,v,b=>∃ p q,u=.string p∧v=.string q∧b=(p == q)
theorem tS{k:CK}{x y:C}{b:Bool}(h:Qm k x y=aa b){u v:Value}(d:CR σ X x u)(g:CR σ X y v):CKv k u v b:=by
 unfold Qm at h;split at h
 ·simp only [At]at h;exact⟨_,_,VR.bool (σ:=σ) (X:=X) d,VR.bool (σ:=σ) (X:=X) g,h.symm⟩
 ·split at h
  ·rename_i j;subst j;simp only [At]at h;exact⟨_,_,_,VR.int (σ:=σ) (X:=X) d,VR.int (σ:=σ) (X:=X) g,h.symm⟩
  ·simp at h
 ·simp only [At]at h;exact⟨_,_,VR.str (σ:=σ) (X:=X) d,VR.str (σ:=σ) (X:=X) g,h.symm⟩
 ·simp at h
theorem Co:∀(d:Nat) (t:TypeId) (S:List CK),iw Q d t=aa S→∀(D:Nat),d≤D→∀(us W:List Value) (off:Nat) (xs ys:List C) (b:Bool) (w:World),
  rF S xs ys=aa b→A2 (CR σ X) xs ((us.drop off).take S.length)→A2 (CR σ X) ys ((W.drop off).take S.length) →
  ∃ a c,(part t us.toArray off).run Q w=.ok a w∧(part t W.toArray off).run Q w=.ok c w∧(Op.equalIn D t a c).run Q w=.ok b w
 | 0,_,_,h,_,_,_,_,_,_,_,_,_,_,_,_=>by simp [iw]at h
 | d+1,t,S,h,0,hD,_,_,_,_,_,_,_,_,_,_=>by omega
 | d+1,t,S,h,D+1,hD,us,W,off,xs,ys,b,w,L,hx,hy=>by
  have hl:=tR L;have m:∀(k:CK),S=[k]→(∀ td,Q.underlying t=aa td→(match td with | .struct _ | .array _ _=>False | _=>True))→(∃ td,Q.underlying t=aa td) →
    ∃ x y u v,xs=[x]∧ys=[y]∧Qm k x y=aa b∧CR σ X x u∧CR σ X y v∧(part t us.toArray off).run Q w=.ok u w∧(part t W.toArray off).run Q w=.ok v w:=by
   intro k z a_ g;subst z;obtain⟨td,g⟩:=g;have a_:=a_ td g
   match xs,ys,hl with
   | [x],[y],_=>
    simp only [rF]at L;split at L
    ·rename_i a c ha hc;simp only [At]at hc L;subst hc;simp at L;subst L;obtain⟨u,f8,f_⟩:=hx.get (i:=0) (x:=x) rfl;obtain⟨v,g_,h_⟩:=hy.get (i:=0) (x:=y) rfl;have e1:us[off]?=aa u:=by simpa [avI,avt]using f8
     have e2:W[off]?=aa v:=by simpa [avI,avt]using g_
     have a8:(isAgg t).run Q w=.ok ag w:=by
      cases td<;>simp_all [isAgg,bc g]
     exact⟨x,y,u,v,rfl,rfl,ha,f_,h_,by simp [part,a8,e1],by simp [part,a8,e2]⟩
    ·simp at L
  unfold iw at h;split at h
  ·rename_i g;split at h
   ·simp only [At]at h;obtain⟨x,y,u,v,rfl,rfl,E,Y,Z,M,h4⟩:=m .bool h.symm (fun td s=>by rw [g]at s;cases s;trivial) ⟨_,g⟩;obtain⟨p,q,rfl,rfl,rfl⟩:=tS E Y Z;exact⟨_,_,M,h4,run_equalIn_bool' w D t _ _ g⟩
   ·simp at h
  ·rename_i j g;split at h
   ·simp only [At]at h;obtain⟨x,y,u,v,rfl,rfl,E,Y,Z,M,h4⟩:=m .int h.symm (fun td s=>by rw [g]at s;cases s;trivial) ⟨_,g⟩;obtain⟨j',p,q,rfl,rfl,rfl⟩:=tS E Y Z;exact⟨_,_,M,h4,run_equalIn_int w D t _ _ _ _ g⟩
   ·simp at h
  ·rename_i g;split at h
   ·simp only [At]at h;obtain⟨x,y,u,v,rfl,rfl,E,Y,Z,M,h4⟩:=m .str h.symm (fun td s=>by rw [g]at s;cases s;trivial) ⟨_,g⟩;obtain⟨p,q,rfl,rfl,rfl⟩:=tS E Y Z;exact⟨_,_,M,h4,by rw [run_equalIn_string w D t _ _ g,beq_toListBytes]⟩
   ·simp at h
  ·rename_i fs g;split at h
   ·simp at h
   ·rename_i f7;split at h
    ·rename_i U hf;split at h
     ·rename_i b9;simp only [At]at h;subst h;have K:(isAgg t).run Q w=.ok ae w:=by simp [isAgg,bc g]
      have O:Q.underlying t=aa (.struct (Q.fieldsOf t)):=by simp [Program.fieldsOf,g]
      have e_:Q.fieldsOf t=fs:=by rw [g]at O;simpa using O.symm
      refine⟨.agg ((us.drop off).take U.length).toArray,.agg ((W.drop off).take U.length).toArray,?_,?_,?_⟩
      ·simp [part,K,di b9,aww]
      ·simp [part,K,di b9,aww]
      ·rw [run_equalIn_struct w D t _ _ O (by simpa using f7),e_];have key:∀(l:List Field) (k:Nat) (I:List CK) (b2:Bool),iw.qA (iw Q d) k l=aa I→∀(A B:List Value) (F H:List C),
         rF I (F.drop k) (H.drop k)=aa b2→A2 (CR σ X) F A→A2 (CR σ X) H B→(Op.eqFields D A.toArray B.toArray l).run Q w=.ok b2 w:=by
        intro l;induction l with
        | nil=>
         intro k I b2 z A B F H E _ _;simp only [iw.qA,At]at z;subst z;have:=tR E;simp only [List.length_nil,List.length_eq_zero_iff]at this;rw [this.1,this.2]at E;simp only [rF,At]at E;subst E;simp [Op.eqFields]
        | cons f l ih=>
         intro k I b2 z A B F H E b_ c_;simp only [iw.qA]at z;split at z
         ·rename_i N;obtain⟨hn,ho⟩:=N;subst ho;split at z
          ·rename_i J M;split at z
           ·rename_i r hr;simp only [At]at z;subst z;obtain⟨b1,b3,d9,d_,rfl⟩:=uX E;obtain⟨a,c,h5,h6,h7⟩:=Co d f.type J M D (by omega) A B f.offset _ _ b1 w d9 (by have:=(b_.drop f.offset).take J.length;simpa using this) (by have:=(c_.drop f.offset).take J.length;simpa using this);have i4:=ih (f.offset+J.length) r b3 hr A B F H (by simpa [List.drop_drop]using d_) b_ c_;simp only [Op.eqFields,hn,ne_eq,not_false_eq_true,if_true,Sem.run_bind,h5,h6,h7,Result.andThen_ok];cases b1<;>simp [i4]
           ·simp at z
          ·simp at z
         ·simp at z
       exact key fs.toList 0 U b hf _ _ xs ys (by simpa using L) hx hy
     ·simp at h
    ·simp at h
  ·simp at h
def atU:Fj→Value→Bool→Prop
 | .ptr,u,b=>∃ a,u=.pointer a∧b=a.isNone| .sl,u,b=>∃ a n c,u=.slice a n c∧b=a.isNone| .fn,u,b=>(u=.nilFunc∧b=ae)∨∃ f p q,u=.func f p q∧b=ag| .ifc,u,b=>u=.nilIface∧b=ae| _,_,_=>False
theorem qR{k:Fj}{x:C}{u:Value}(d:CR σ X x u){b:Bool}(h:isNil X.H k x=aa b):atU k u b:=by
 unfold isNil at h;split at h<;>try simp only [At,reduceCtorEq]at h
 ·cases (d:cS σ X.F X.w .ov u);subst h;exact⟨_,rfl,rfl⟩
 ·cases (d:cS σ X.F X.w (.fp _ _) u);subst h;exact⟨_,rfl,rfl⟩
 ·obtain⟨L,_,d⟩:=d;subst h;split at d
  ·subst d;exact⟨_,rfl,rfl⟩
  ·obtain⟨_,_,a,rfl⟩:=d;exact⟨_,rfl,rfl⟩
  ·exact d.elim
 ·cases (d:cS σ X.F X.w .az u);subst h;exact⟨_,_,_,rfl,rfl⟩
 ·cases (d:cS σ X.F X.w .es u);subst h;exact⟨_,_,_,rfl,rfl⟩
 ·cases (d:cS σ X.F X.w (.fs _ _) u)<;>(subst h;exact⟨_,_,_,rfl,rfl⟩)
 ·rename_i q o l c ep sz;simp only [CR,fq]at d;split at h
  ·rename_i g;rw [g]at d;obtain⟨L,_,_,rfl⟩:=d;simp only [At]at h;subst h;exact⟨_,_,_,rfl,rfl⟩
  ·rename_i s cs fl e m g;rw [g]at d;split at h
   ·rename_i j;have:=d.2.1 j.1 j.2;simp only [At]at h;subst h;cases m with
    | loc=>obtain⟨L,_,k,_,_,rfl⟩:=this;exact⟨_,_,_,rfl,rfl⟩
    | nil=>obtain⟨_,_,rfl⟩:=this;exact⟨_,_,_,rfl,rfl⟩
    | es=>obtain⟨_,_,a,rfl⟩:=this;exact⟨_,_,_,rfl,rfl⟩
   ·simp at h
  ·simp at h
 ·cases (d:cS σ X.F X.w .i' u);subst h;exact .inl ⟨rfl,rfl⟩
 ·cases (d:cS σ X.F X.w (.fn _ _) u);subst h;exact .inr ⟨_,_,_,rfl,rfl⟩
 ·obtain⟨us,rfl,_⟩:=d;subst h;exact .inr ⟨_,_,_,rfl,rfl⟩
 ·obtain⟨us,rfl,_⟩:=d;subst h;exact .inr ⟨_,_,_,rfl,rfl⟩
 ·cases (d:cS σ X.F X.w .mN u);subst h;exact⟨rfl,rfl⟩
theorem Cn{d:Nat}{t:TypeId}{b:List CK}(h:iw Q d t=aa b):dE Q t b.length=ae:=by
 cases d with
 | zero=>simp [iw]at h
 | succ d=>
  unfold iw at h;split at h
  ·split at h
   ·simp only [At]at h;subst h;assumption
   ·simp at h
  ·split at h
   ·simp only [At]at h;subst h;assumption
   ·simp at h
  ·split at h
   ·simp only [At]at h;subst h;assumption
   ·simp at h
  ·split at h
   ·simp at h
   ·split at h
    ·split at h
     ·simp only [At]at h;subst h;assumption
     ·simp at h
    ·simp at h
  ·simp at h
theorem ac0{t e:TypeId}(b:Q.underlying t=aa (.pointer e))(D:Nat)(a:Option Addr)(w:World):(Op.equalIn (D+1) t (.pointer a) (.pointer ab)).run Q w=.ok a.isNone w:=by
 cases a<;>simp [Op.equalIn,bc b]
theorem ajW{t e:TypeId}(b:Q.underlying t=aa (.slice e))(D:Nat)(a:Option Addr)(n c:Nat)(w:World):(Op.equalIn (D+1) t (.slice a n c) (.slice ab 0 0)).run Q w=.ok a.isNone w:=by
 cases a<;>simp [Op.equalIn,bc b]
theorem ajU{t:TypeId}{p r:Array TypeId}{v:Bool}(b:Q.underlying t=aa (.func p r v))(D:Nat)(w:World):(Op.equalIn (D+1) t .nilFunc .nilFunc).run Q w=.ok ae w:=by
 simp [Op.equalIn,bc b]
theorem ajT{t:TypeId}{p r:Array TypeId}{v:Bool}(b:Q.underlying t=aa (.func p r v))(D:Nat)(f:Fn)(x y:Array Value)(w:World):(Op.equalIn (D+1) t (.func f x y) .nilFunc).run Q w=.ok ag w:=by
 simp [Op.equalIn,bc b]
theorem ajV{t:TypeId}{d:Array (String × TypeId)}(b:Q.underlying t=aa (.interface d))(D:Nat)(w:World):(Op.equalIn (D+1) t .nilIface .nilIface).run Q w=.ok ae w:=by
 simp [Op.equalIn,bc b]
theorem Qv{t:TypeId}{x y:Operand}(b:(th x||th y)=ae)(op:BinOp)(w:World):(eqGuard op t x y .nilIface .nilIface).run Q w=.ok () w:=by
 simp only [Bool.or_eq_true]at b;rcases b with b | b
 ·cases x<;>simp only [th,avk]at b;cases op<;>rfl
 ·cases y<;>simp only [th,avk]at b;cases x<;>cases op<;>rfl
theorem aoP{k:Fj}{t:TypeId}{x y:Operand}(v:mEq Q k t x y=ae){H I:V}{l d:Value}(s:VR σ X H l)(u:VR σ X I d){b:Bool}
  (h:DN X.H k H I=aa b) (neg:Bool) (w:World) :
  (do eqGuard (if neg then .neq else .eql) t x y l d;binOp (if neg then .neq else .eql) t l d).run Q w=.ok (.bool (if neg then !b else b)) w:=by
 have g:(binOp .eql t l d=do pure (.bool (←Op.equal t l d)))→(binOp .neq t l d=do pure (.bool (!(←Op.equal t l d)))) →
   (∀ op,(eqGuard op t x y l d).run Q w=.ok () w)→(Op.equalIn 10000 t l d).run Q w=.ok b w →
   (do eqGuard (if neg then .neq else .eql) t x y l d;binOp (if neg then .neq else .eql) t l d).run Q w=.ok (.bool (if neg then !b else b)) w:=by
  intro B E z N;cases neg
  ·simp only [avk,if_false,Sem.run_bind,z,Result.andThen_ok,B,Op.equal,Op.maxDepth,N,Sem.run_pure]
  ·simp only [if_true,Sem.run_bind,z,Result.andThen_ok,E,Op.equal,Op.maxDepth,N,Sem.run_pure]
 unfold mEq at v;unfold DN at h;split at v
 ·rename_i j;split at h<;>try simp only [reduceCtorEq]at *
  obtain⟨p,q,rfl,rfl,rfl⟩:=tS h s u;exact g rfl rfl (fun op=>by cases op<;>rfl) (run_equalIn_bool' w 9999 t _ _ j)
 ·rename_i j;split at h<;>try simp only [reduceCtorEq]at *
  obtain⟨a,rfl,rfl⟩:=qR s h;cases (u:cS σ X.F X.w .ov d);exact g rfl rfl (fun op=>by cases op<;>rfl) (ac0 j 9999 a w)
 ·rename_i j;split at h<;>try simp only [reduceCtorEq]at *
  obtain⟨a,n,c,rfl,rfl⟩:=qR s h;cases (u:cS σ X.F X.w .az d);exact g rfl rfl (fun op=>by cases op<;>rfl) (ajW j 9999 a n c w)
 ·rename_i j;split at h<;>try simp only [reduceCtorEq]at *
  cases (u:cS σ X.F X.w .i' d);rcases qR s h with⟨rfl,rfl⟩ | ⟨f,p,q,rfl,rfl⟩
  ·exact g rfl rfl (fun op=>by cases op<;>rfl) (ajU j 9999 w)
  ·exact g rfl rfl (fun op=>by cases op<;>rfl) (ajT j 9999 f p q w)
 ·rename_i j;split at h<;>try simp only [reduceCtorEq]at *
  cases (u:cS σ X.F X.w .mN d);obtain⟨rfl,rfl⟩:=qR s h;refine g rfl rfl (fun op=>?_) ?_
  ·have M:(th x||th y)=ae:=v;exact Qv M op w
  ·exact ajV j 9999 w
 ·rename_i e F j;obtain⟨xs,ys,rfl,rfl,h⟩:∃ xs ys,H=.a xs∧I=.a ys∧rF F xs ys=aa b:=by
   cases H<;>cases I<;>first | exact⟨_,_,rfl,rfl,h⟩ | simp at h
  simp only [If,decide_eq_true_eq,Bool.not_eq_true']at v;obtain⟨W,U⟩:=v;obtain⟨us,rfl,O⟩:=s;obtain⟨J,rfl,S⟩:=u;have i:=tR h;have A:=Cn W;have m:(isAgg t).run Q w=.ok ae w:=by simp [isAgg,bc j]
  have Y:us.take F.length=us:=avj (by have:=O.len;omega);have Z:J.take F.length=J:=avj (by have:=S.len;omega);obtain⟨a,c,B,E,z⟩:=Co 20 t F W 10000 (by omega) us J 0 _ _ b w h (by simpa [Y]using O) (by simpa [Z]using S);have K:a=.agg us.toArray:=by
   simp [part,m,di A,aww,Y]at B;exact B.symm
  have L:c=.agg J.toArray:=by
   simp [part,m,di A,aww,Z]at E;exact E.symm
  subst K;subst L;cases neg
  ·simp only [avk,if_false,Sem.run_bind,run_eqGuard_agg w _ t x y _ _ U,Result.andThen_ok,run_eql_struct,z]
  ·simp only [if_true,Sem.run_bind,run_eqGuard_agg w _ t x y _ _ U,Result.andThen_ok,run_neq_struct,z]
 ·simp at v
end
section
variable{Q:Program}{σ:Nat→FuncId}{X:Wd}
theorem js{x:V}{u:Value}(h:VR σ X x u){i:Int}(hi:ir x=aa i):∃ k,u=.int k i:=by
 unfold ir at hi;split at hi
 ·simp only [At]at hi;subst hi;exact⟨_,VR.int h⟩
 ·simp at hi
theorem rZ{x:V}{u:Value}(h:VR σ X x u){y i:Nat}(b:Bk x y=aa i){g:Nat}(q:y≤g)(d:BoundsCode)(w:World) :
  i≤y∧(Instr.sliceBound u g d).run Q w=.ok i w:=by
 unfold Bk at b;split at b
 ·rename_i j l;obtain⟨k,rfl⟩:=js h l;split at b
  ·rename_i m;simp only [At]at b;subst b;refine⟨by omega,?_⟩;have:0≤j∧j≤(g:Int):=by omega
   simp [Instr.sliceBound,asIntOf,this]
  ·simp at b
 ·simp at b
def OR(X:Wd)(σ:Nat→FuncId):Option V→Option Value→Prop
 | none,ab=>True| some x,aa u=>VR σ X x u| _,_=>False
theorem dN{lo hi mx:Option V}{d j mx':Option Value}(v:OR X σ lo d)(A:OR X σ hi j)(F:OR X σ mx mx'){len c l h m:Nat}
  (b:bW len c lo hi mx=aa (l,h,m)) {cap:Nat} (J:c≤cap) (M:len≤c) (s:Bool) (w:World) :
  (Instr.sliceBounds s len cap d j mx').run Q w=.ok (l,h,if mx.isSome then m else cap) w∧l≤h∧h≤m∧m≤c:=by
 unfold bW at b;cases mx with
 | some z=>
  cases mx'<;>simp only [OR]at F;rename_i O;simp only [axh,avy]at b;obtain⟨N,K,b⟩:=b;obtain⟨L,E⟩:=rZ (Q:=Q) F K J (if s then .slice3Acap else .slice3Alen) w;cases hi with
  | none=>simp at b
  | some y=>
   cases j<;>simp only [OR]at A;simp only [avS,avy]at b;obtain⟨h0,H,b⟩:=b;obtain⟨I,g⟩:=rZ (Q:=Q) A H (aft _) .slice3B w;cases lo with
   | none=>
    cases d<;>simp only [OR]at v;simp at b;obtain⟨rfl,rfl,rfl⟩:=b;simp [Instr.sliceBounds,E,g];omega
   | some x=>
    cases d<;>simp only [OR]at v;simp only [avy]at b;obtain⟨l0,q,b⟩:=b;obtain⟨B,u⟩:=rZ (Q:=Q) v q (aft _) .slice3C w;simp at b;obtain⟨rfl,rfl,rfl⟩:=b;simp [Instr.sliceBounds,E,g,u];omega
 | none=>
  cases mx'<;>simp only [OR]at F;cases hi with
  | none=>
   cases j<;>simp only [OR]at A;cases lo with
   | none=>
    cases d<;>simp only [OR]at v;simp at b;obtain⟨rfl,rfl,rfl⟩:=b;simp [Instr.sliceBounds];omega
   | some x=>
    cases d<;>simp only [OR]at v;simp only [axh,avS,avy]at b;obtain⟨l0,q,b⟩:=b;obtain⟨B,u⟩:=rZ (Q:=Q) v q (aft _) .sliceB w;simp at b;obtain⟨rfl,rfl,rfl⟩:=b;simp [Instr.sliceBounds,u];omega
  | some y=>
   cases j<;>simp only [OR]at A;simp only [axh,avS,avy]at b;obtain⟨h0,H,b⟩:=b;obtain⟨I,g⟩:=rZ (Q:=Q) A H J (if s then .sliceAcap else .sliceAlen) w;cases lo with
   | none=>
    cases d<;>simp only [OR]at v;simp at b;obtain⟨rfl,rfl,rfl⟩:=b;simp [Instr.sliceBounds,g];omega
   | some x=>
    cases d<;>simp only [OR]at v;simp only [avy]at b;obtain⟨l0,q,b⟩:=b;obtain⟨B,u⟩:=rZ (Q:=Q) v q (aft _) .sliceB w;simp at b;obtain⟨rfl,rfl,rfl⟩:=b;simp [Instr.sliceBounds,g,u];omega
theorem eC{t e:TypeId}{sz:Nat}(g:Q.underlying t=aa (.slice e))(b:dE Q e sz=ae){a:Option Addr}{len cap:Nat}{lo hi mx:Option Value}{l h m:Nat}{w:World}
  (d:(Instr.sliceBounds ae len cap lo hi mx).run Q w=.ok (l,h,m) w) :
  (Instr.sliceAt t (.slice a len cap) lo hi mx).run Q w=.ok (.slice (if m=l then a else a.map (·.add (l*sz))) (h-l) (m-l)) w:=by
 simp [Instr.sliceAt,Instr.slice,bc g,d,di b]
theorem yW(hS:SR Q σ X){t e:TypeId}{sz:Nat}(g:Q.underlying t=aa (.slice e))(j:dE Q e sz=ae){x:V}{u:Value}(F:VR σ X x u)
  {lo hi mx:Option V} {b_ a_ mx':Option Value} (H:OR X σ lo b_) (I:OR X σ hi a_) (J:OR X σ mx mx') {v:V} (h:dW X.H sz x lo hi mx=aa v) :
  ∃ r,(Instr.sliceAt t u b_ a_ mx').run Q X.w=.ok r X.w∧VR σ X v r:=by
 unfold dW at h;split at h
 ·
  split at h
  ·rename_i r z;obtain⟨l,y,m⟩:=r;simp only [At]at h;subst h;cases (F:cS σ X.F X.w .az u);obtain⟨q,K,N,O⟩:=dN (Q:=Q) H I J z (aft 0) (aft 0) ae X.w;refine⟨_,eC g j q,?_⟩;have:l=0∧y=0∧m=0:=by omega
   obtain⟨rfl,rfl,rfl⟩:=this;simp;exact cS.az
  ·simp at h
 ·split at h
  ·rename_i r z;obtain⟨l,y,m⟩:=r;simp only [At]at h;subst h;cases (F:cS σ X.F X.w .es u);obtain⟨q,K,N,O⟩:=dN (Q:=Q) H I J z (aft 0) (aft 0) ae X.w;refine⟨_,eC g j q,?_⟩;have:l=0∧y=0∧m=0:=by omega
   obtain⟨rfl,rfl,rfl⟩:=this;simp;exact cS.es _
  ·simp at h
 ·
  rename_i cs n;split at h
  ·rename_i l y m z;have e_:(∃(c o cap:Nat) (us:List Value),n≤cap∧us.length=cs.length∧(∀ i,i<cs.length→X.F c (o+i))∧(∀(i:Nat) u,us[i]?=aa u→X.w.cell? ⟨c,o+i,ab⟩=aa u) ∧
     (∀(i:Nat) x u,cs[i]?=aa x→us[i]?=aa u→cS σ X.F X.w x u)∧u=.slice (aa ⟨c,o,ab⟩) n cap)∨(cs=[]∧n=0∧∃ a cap,u=.slice (aa a) 0 cap):=by
    cases (F:cS σ X.F X.w (.fs cs n) u)with
    | fs _ _ c o cap us d hl hF hc hr=>exact .inl ⟨c,o,cap,us,d,hl,hF,hc,hr,rfl⟩| fs0 a cap=>exact .inr ⟨rfl,rfl,a,cap,rfl⟩
   rcases e_ with⟨c,o,cap,us,d,hl,hF,hc,hr,rfl⟩ | ⟨rfl,rfl,a,cap,rfl⟩
   ·obtain⟨q,K,N,O⟩:=dN (Q:=Q) H I J z d (aft n) ae X.w;split at h
    ·rename_i B;simp only [At]at h;subst h;rw [bf B.1]at q;obtain⟨_,rfl⟩:=B;refine⟨_,eC g j q,?_⟩;rw [show y-m=0 by omega,show m-m=0 by omega,bf rfl];exact cS.es _
    ·simp only [At]at h;subst h;refine⟨_,eC g j q,?_⟩;generalize S:(if mx.isSome=ae then m else cap)=M;have c_:y≤M:=by rw [←S];split<;>omega
     by_cases E:M=l
     ·rw [bf E,show y-l=0 by omega];simp;exact cS.fs0 _ _
     ·rw [aY E];simp only [avY,ek];refine cS.fs _ _ c (o+l*sz) _ ((us.drop (l*sz)).take ((y-l)*sz)) (by omega) (by simp [hl]) (fun i hi=>?_) (fun i u g=>?_) (fun i x u F g=>?_)
      ·have:=hF (l*sz+i) (by simp at hi;omega);rwa [show o+(l*sz+i)=o+l*sz+i by omega]at this
      ·rw [avI]at g;split at g
       ·rw [avt]at g;have:=hc _ u g;rwa [show o+(l*sz+i)=o+l*sz+i by omega]at this
       ·simp at g
      ·rw [avI]at g F;split at g
       ·rename_i hi;rw [bf hi]at F;rw [avt]at g F;exact hr _ x u F g
       ·simp at g
   ·obtain⟨q,K,N,O⟩:=dN (Q:=Q) H I J z (Nat.zero_le cap) (aft 0) ae X.w;have:l=0∧y=0∧m=0:=by omega
    obtain⟨rfl,rfl,rfl⟩:=this;refine⟨_,eC g j q,?_⟩;split at h
    ·rename_i B;simp only [At]at h;subst h;simp [B.1];exact cS.es _
    ·simp only [At]at h;subst h;have ho:∀ M,∃ a',(if M=0 then aa a else Option.map (fun(x:Addr)=>x.add (0*sz)) (aa a))=aa a':=by intro M;split<;>exact⟨_,rfl⟩
     obtain⟨a',U⟩:=ho (if mx.isSome=ae then 0 else cap);rw [U];simp;exact cS.fs0 _ _
  ·simp at h
 ·
  rename_i b o n cap ep s;simp only [VR,ic,CR,fq]at F;split at h
  ·rename_i A;rw [A]at F;obtain⟨L,Z,d,rfl⟩:=F;split at h
   ·rename_i l y m z;obtain⟨q,K,N,O⟩:=dN (Q:=Q) H I J z (aft cap) d ae X.w;have hm:(if mx.isSome=ae then m else cap)=m:=by
     split
     ·rfl
     ·rename_i hn;cases mx with
      | some _=>simp at hn| none=>unfold bW at z;cases hi<;>cases lo<;>simp [avy]at z<;>omega
    rw [hm]at q;refine⟨_,eC g j q,?_⟩;split at h
    ·rename_i E;simp only [At]at h;subst h;rw [bf E,show y-l=0 by omega,show m-l=0 by omega];exact cS.es _
    ·rename_i E;simp only [At]at h;subst h;rw [aY E];simp only [avY,ek,VR,ic,CR,fq,A];exact⟨L,Z,by omega,rfl⟩
   ·simp at h
  ·rename_i s' cs fl e st A;rw [A]at F;split at h
   ·rename_i hc;obtain⟨rfl,rfl,rfl⟩:=hc;have Y:=F.2.1 rfl rfl;cases st with
    | loc=>
     obtain⟨L,Z,k,rfl,hk,rfl⟩:=Y;simp only at h;split at h
     ·rename_i l y m z;obtain⟨q,K,N,O⟩:=dN (Q:=Q) H I J z (show n≤L.cap-k by omega) (aft n) ae X.w;refine⟨_,eC g j q,?_⟩;generalize S:(if mx.isSome=ae then m else L.cap-k)=M;have c_:y≤M:=by rw [←S];split<;>omega
      split at h
      ·rename_i B;simp only [At]at h;subst h;rw [bf B.1]at S;subst S;obtain⟨_,rfl⟩:=B;rw [show y-m=0 by omega,show m-m=0 by omega,bf rfl];exact cS.es _
      ·split at h
       ·rename_i B;simp only [At]at h;subst h;rw [show y-l=0 by omega];have ho:∃ a',(if M=l then aa (⟨L.c,k*s',ab⟩:Addr)else Option.map (fun(x:Addr)=>x.add (l*s')) (aa ⟨L.c,k*s',ab⟩))=aa a':=by split<;>exact⟨_,rfl⟩
        obtain⟨a',U⟩:=ho;rw [U];exact cS.fs0 _ _
       ·rename_i f7;split at h
        ·split at h
         ·simp only [At]at h;subst h;simp only [VR,ic,CR,fq,A];exact⟨aft _,fun _ e=>by omega,_,_,_,rfl⟩
         ·simp at h
        ·rename_i hn;simp only [At]at h;subst h;rw [aY hn]at S;have W:(if M=l then aa (⟨L.c,k*s',ab⟩:Addr)else Option.map (fun(x:Addr)=>x.add (l*s')) (aa ⟨L.c,k*s',ab⟩))=aa ⟨L.c,k*s'+l*s',ab⟩:=by
          split
          ·have:l=0:=by omega
           subst this;simp
          ·simp [ek]
         rw [W];simp only [VR,ic,CR,fq,A];refine⟨aft _,fun _ _=>⟨L,Z,k+l,by rw [avM],by omega,by rw [←S];congr 1;omega⟩,_,_,_,rfl⟩
     ·
      cases mx with
      | some _=>simp at h
      | none=>
       simp only at h;split at h
       ·rename_i l y m z;split at h
        ·rename_i d_;simp only [At]at h;subst h;obtain⟨_,_,bp,a8,d9⟩:=hS.br b L Z;rw [A]at a8;cases a8;obtain⟨-,us,rest,-,hA,b9,f_,-,-⟩:=d9;have f8:cs.length≤L.cap*s':=by rw [←b9,api,←hA.1];omega
         have d:(cs.length-k*s') / s'≤L.cap-k:=by
          refine Nat.div_le_of_le_mul ?_;rw [Nat.mul_sub,Nat.mul_comm s' L.cap,Nat.mul_comm s' k];omega
         obtain⟨q,K,N,O⟩:=dN (Q:=Q) H I J z d d_.1 ae X.w;refine⟨_,eC g j q,?_⟩;simp only [Option.isSome_none,avk,if_false,avY,ek];rw [aY (by omega)];simp only [VR,ic,CR,fq,A];refine⟨aft _,fun _ _=>⟨L,Z,k+l,by rw [avM],by omega,by congr 1;omega⟩,_,_,_,rfl⟩
        ·simp at h
       ·simp at h
    | nil=>
     obtain⟨rfl,rfl,rfl⟩:=Y;simp only at h;split at h
     ·rename_i r z;obtain⟨l,y,m⟩:=r;simp only [At]at h;subst h;obtain⟨q,K,N,O⟩:=dN (Q:=Q) H I J z (aft 0) (aft 0) ae X.w;refine⟨_,eC g j q,?_⟩;have:l=0∧y=0∧m=0:=by omega
      obtain⟨rfl,rfl,rfl⟩:=this;simp;exact cS.az
     ·simp at h
    | es=>
     obtain⟨rfl,rfl,a,rfl⟩:=Y;simp only at h;split at h
     ·rename_i r z;obtain⟨l,y,m⟩:=r;simp only [At]at h;subst h;obtain⟨q,K,N,O⟩:=dN (Q:=Q) H I J z (aft 0) (aft 0) ae X.w;refine⟨_,eC g j q,?_⟩;have:l=0∧y=0∧m=0:=by omega
      obtain⟨rfl,rfl,rfl⟩:=this;simp;exact cS.es _
     ·simp at h
   ·simp at h
  ·simp at h
 ·simp at h
end
section
variable{Q:Program}{σ:Nat→FuncId}{X:Wd}
theorem Rp{t:TypeId}(A:Q.underlying t=aa .string){x:V}{u:Value}(B:VR σ X x u){lo hi:Option V}{d b:Option Value}(g:OR X σ lo d)(j:OR X σ hi b)
  {v:V} (h:wj x lo hi=aa v) (w:World):∃ r,(Instr.sliceAt t u d b ab).run Q w=.ok r w∧VR σ X v r:=by
 unfold wj at h;split at h
 ·rename_i s;have:=VR.str B;subst this;split at h
  ·rename_i l z m y;simp only [At]at h;subst h;obtain⟨q,_⟩:=dN (Q:=Q) (mx:=ab) (mx':=ab) g j trivial y (aft _) (aft _) ag w;exact⟨.string (s.extract l z),by simp [Instr.sliceAt,Instr.slice,bc A,q],VR.mkStr _⟩
  ·simp at h
 ·simp at h
theorem Rn(Z:SR Q σ X){t e:TypeId}{n sz:Nat}(g:Q.underlying t=aa (.array n e))(E:dE Q e sz=ae){x:V}{u:Value}(q:VR σ X x u)
  {lo hi mx:Option V} {z y mx':Option Value} (F:OR X σ lo z) (H:OR X σ hi y) (I:OR X σ mx mx') {v:V} (h:kH X.H n sz x lo hi mx=aa v) :
  ∃ r,(Instr.sliceAt t u z y mx').run Q X.w=.ok r X.w∧VR σ X v r:=by
 have run:∀(a:Addr) l j m,(Instr.sliceBounds ag n n z y mx').run Q X.w=.ok (l,j,m) X.w →
   (Instr.sliceAt t (.pointer (aa a)) z y mx').run Q X.w=.ok (.slice (aa (if m=l then a else a.add (l*sz))) (j-l) (m-l)) X.w:=by
  intro a l j m s;simp [Instr.sliceAt,bc g,Instr.sureAddr,s,di E]
 have mm:∀ {l j m:Nat},bW n n lo hi mx=aa (l,j,m)→(if mx.isSome=ae then m else n)=m:=by
  intro l j m s;split
  ·rfl
  ·rename_i W;cases mx with
   | some _=>simp at W| none=>unfold bW at s;cases hi<;>cases lo<;>simp [avy]at s<;>omega
 unfold kH at h;split at h
 ·rename_i b off ep;obtain⟨L,O,q⟩:=q;split at h
  ·rename_i cs fl B;rw [B]at q;simp only at q;subst q;split at h
   ·rename_i l j m s;obtain⟨A,J,K,M⟩:=dN (Q:=Q) F H I s (aft n) (aft n) ag X.w;rw [mm s]at A;split at h
    ·refine⟨_,run _ _ _ _ A,?_⟩;split at h
     ·rename_i d;simp only [At]at h;subst h;rw [bf d,show j-l=0 by omega,show m-l=0 by omega];exact cS.es _
     ·rename_i d;simp only [At]at h;subst h;rw [aY d];simp only [ek,VR,ic,CR,fq,B];exact⟨L,O,by omega,rfl⟩
    ·simp at h
   ·simp at h
  ·simp at h
 ·rename_i cs off;cases (q:cS σ X.F X.w (.fp cs off) u)with
  | fp _ _ c o us U N S Y=>
   split at h
   ·rename_i l j m s;obtain⟨A,J,K,M⟩:=dN (Q:=Q) F H I s (aft n) (aft n) ag X.w;rw [mm s]at A;split at h
    ·refine⟨_,run _ _ _ _ A,?_⟩;split at h
     ·rename_i d;simp only [At]at h;subst h;rw [bf d,show j-l=0 by omega,show m-l=0 by omega];exact cS.es _
     ·rename_i d;simp only [At]at h;subst h;rw [aY d,ek];refine cS.fs _ _ c (o+off+l*sz) _ ((us.drop (off+l*sz)).take ((j-l)*sz)) (by omega) (by simp [U]) (fun i hi=>?_) (fun i u g=>?_) (fun i x u q g=>?_)
      ·have:=N (off+l*sz+i) (by simp at hi;omega);rwa [show o+(off+l*sz+i)=o+off+l*sz+i by omega]at this
      ·rw [avI]at g;split at g
       ·rw [avt]at g;have:=S _ u g;rwa [show o+(off+l*sz+i)=o+off+l*sz+i by omega]at this
       ·simp at g
      ·rw [avI]at g q;split at g
       ·rename_i hi;rw [bf hi]at q;rw [avt]at g q;exact Y _ x u q g
       ·simp at g
    ·simp at h
   ·simp at h
 ·simp at h
theorem DP{t:TypeId}{l:Array Field}(I:Q.underlying t=aa (.struct l)){i:Nat}{f:Field}(E:l[i]?=aa f)(j:(Q.info? f.type).any (fun i=>i.size != 0)=ae)
  {x:V} {u:Value} (g:VR σ X x u) {v:V} (h:jq f.offset x=aa v) (w:World):∃ r,(Instr.fieldAt t u i).run Q w=.ok r w∧VR σ X v r:=by
 have run:∀ a:Addr,(Instr.fieldAt t (.pointer (aa a)) i).run Q w=.ok (.pointer (aa (a.add f.offset))) w:=by
  intro a;cases hi:Q.info? f.type with
  | none=>simp [hi]at j
  | some J=>
   simp [hi]at j;simp [Instr.fieldAt,bc I,E,Instr.sureAddr,fieldPlace,Go.sizeOf,typeInfo,hi,j]
 unfold jq at h;split at h
 ·rename_i b o ep;simp only [At]at h;subst h;obtain⟨L,m,g⟩:=g;split at g
  ·rename_i d;subst g;exact⟨_,run _,L,m,by rw [d,ek]⟩
  ·rename_i s cs fl e d;obtain⟨q,y,a,rfl⟩:=g;refine⟨_,run _,L,m,?_⟩;rw [d];refine⟨q,fun B=>?_,_,rfl⟩;have:=y B;simp only [Value.pointer.injEq,At]at this;rw [this,ek]
  ·exact g.elim
 ·rename_i cs o;simp only [At]at h;subst h;cases (g:cS σ X.F X.w (.fp cs o) u)with
  | fp _ _ c o' us F z A H=>
   refine⟨_,run _,?_⟩;rw [ek,Nat.add_assoc];exact cS.fp cs _ c o' us F z A H
 ·simp at h
theorem DY{t e:TypeId}{sz:Nat}{q:Option Nat}(I:dE Q e sz=ae)
  (H:(q=ab∧Q.underlying t=aa (.slice e))∨∃ n,q=aa n∧Q.underlying t=aa (.array n e)) {x i:V} {u j:Value} (m:VR σ X x u) (hi:VR σ X i j)
  {v:V} (h:bH X.H sz q x i=aa v):∃ r,(Instr.indexAt t u j).run Q X.w=.ok r X.w∧VR σ X v r:=by
 unfold bH at h;split at h
 ·simp at h
 rename_i k Z;obtain⟨O,rfl⟩:=js hi Z;split at h
 ·rename_i h0;have z:q=ab→∀(a:Addr) (l c:Nat),k<l→(Instr.indexAt t (.slice (aa a) l c) (.int O k)).run Q X.w=.ok (.pointer (aa (a.add (k.toNat*sz)))) X.w:=by
   intro J a l c g;rcases H with⟨_,H⟩ | ⟨n,A,_⟩
   ·simp [Instr.indexAt,asIntOf,bc H,h0,g,di I]
   ·rw [J]at A;simp at A
  have y:∀ n,q=aa n→∀(a:Addr),k<n→(Instr.indexAt t (.pointer (aa a)) (.int O k)).run Q X.w=.ok (.pointer (aa (a.add (k.toNat*sz)))) X.w:=by
   intro n J a g;rcases H with⟨A,_⟩ | ⟨n',A,H⟩
   ·rw [J]at A;simp at A
   ·rw [J]at A;simp only [At]at A;subst A;simp [Instr.indexAt,asIntOf,bc H,Instr.sureAddr,h0,g,di I]
  split at h
  ·rename_i b o l c ep s;split at h
   ·rename_i g;simp only [VR,ic,CR,fq]at m;split at h
    ·rename_i d;rw [d]at m;obtain⟨L,E,_,rfl⟩:=m;simp only [At]at h;subst h;exact⟨_,z rfl _ _ _ g,L,E,by rw [d,ek]⟩
    ·rename_i s' cs fl S d;rw [d]at m;split at h
     ·rename_i F;simp only [At]at h;subst h;obtain⟨L,E,kq,_,_,rfl⟩:=m.2.1 F.1 F.2;exact⟨_,z rfl _ _ _ g,L,E,by rw [d,ek];exact⟨m.1,fun _=>rfl,_,rfl⟩⟩
     ·simp at h
    ·simp at h
   ·simp at h
  ·rename_i cs l;split at h
   ·rename_i g;simp only [At]at h;subst h;cases (m:cS σ X.F X.w (.fs cs l) u)with
    | fs _ _ c o cap us N B K F M=>
     refine⟨_,z rfl _ _ _ g,?_⟩;rw [ek];exact cS.fp cs _ c o us B K F M
    | fs0 a cap=>simp at g;omega
   ·simp at h
  ·rename_i n b o ep;split at h
   ·rename_i g;simp only [At]at h;subst h;obtain⟨L,E,m⟩:=m;split at m
    ·rename_i d;subst m;exact⟨_,y n rfl _ g,L,E,by rw [d,ek]⟩
    ·rename_i s cs fl S d;obtain⟨U,W,a,rfl⟩:=m;refine⟨_,y n rfl _ g,L,E,?_⟩;rw [d];refine⟨U,fun Y=>?_,_,rfl⟩;have:=W Y;simp only [Value.pointer.injEq,At]at this;rw [this,ek]
    ·exact m.elim
   ·simp at h
  ·rename_i n cs o;split at h
   ·rename_i g;simp only [At]at h;subst h;cases (m:cS σ X.F X.w (.fp cs o) u)with
    | fp _ _ c o' us B K F M=>
     refine⟨_,y n rfl _ g,?_⟩;rw [ek,Nat.add_assoc];exact cS.fp cs _ c o' us B K F M
   ·simp at h
  ·simp at h
 ·simp at h
theorem wE{t:TypeId}{n:Option Nat}(s:wB Q t n=ae){xs:List C}{us:List Value}(l:A2 (CR σ X) xs us)(off:Nat){v:V}(b:aV n (xs.drop off)=aa v)(w:World) :
  ∃ u,(part t us.toArray off).run Q w=.ok u w∧VR σ X v u:=by
 obtain⟨m,q⟩:=Gq s w;cases n with
 | none=>
  cases d:xs.drop off with
  | nil=>rw [d]at b;simp [aV]at b
  | cons x cs=>
   rw [d]at b;simp only [aV,At]at b;subst b;obtain⟨u,y,j⟩:=(l.drop off).get (i:=0) (x:=x) (by rw [d];rfl);have g:us[off]?=aa u:=by simpa [avt]using y
   exact⟨u,by simp [part,m,g],j⟩
 | some n=>
  simp only [aV]at b;split at b
  ·simp only [At]at b;subst b;exact⟨.agg ((us.drop off).take n).toArray,by simp [part,m,di (q n rfl),aww],_,rfl,(l.drop off).take n⟩
  ·simp at b
theorem Qn{t:TypeId}{b:Array Field}(q:Q.underlying t=aa (.struct b)){i:Nat}{f:Field}(l:b[i]?=aa f){n:Option Nat}(m:wB Q f.type n=ae)
  {x:V} {u:Value} (s:VR σ X x u) {v:V} (h:iX f.offset n x=aa v) (w:World):∃ r,(Instr.field t u i).run Q w=.ok r w∧VR σ X v r:=by
 unfold iX at h;split at h
 ·obtain⟨us,rfl,d⟩:=s;obtain⟨r,g,j⟩:=wE m d f.offset h w;exact⟨r,by simp [Instr.field,bc q,l,asAgg,g],j⟩
 ·simp at h
theorem adf{t e:TypeId}{len sz:Nat}(y:Q.underlying t=aa (.array len e))(b:dE Q e sz=ae){n:Option Nat}(s:wB Q e n=ae)
  {x i:V} {u j:Value} (z:VR σ X x u) (hi:VR σ X i j) {v:V} (h:BK len sz n x i=aa v) (w:World):∃ r,(Instr.index t u j).run Q w=.ok r w∧VR σ X v r:=by
 unfold BK at h;split at h
 ·rename_i xs k q;obtain⟨A,rfl⟩:=js hi q;split at h
  ·rename_i m;obtain⟨us,rfl,d⟩:=z;obtain⟨r,g,l⟩:=wE s d _ h w;exact⟨r,by simp [Instr.index,asIntOf,bc y,m,di b,g],l⟩
  ·simp at h
 ·simp at h
theorem adg{t:TypeId}(l:Q.underlying t=aa .string){x i:V}{u j:Value}(m:VR σ X x u)(hi:VR σ X i j){v:V}(h:BL x i=aa v)(w:World) :
  ∃ r,(Instr.index t u j).run Q w=.ok r w∧VR σ X v r:=by
 unfold BL at h;split at h
 ·rename_i s k g;obtain⟨q,rfl⟩:=js hi g;have:=VR.str m;subst this;split at h
  ·rename_i h0;simp only [IT]at h;obtain⟨b,d,rfl⟩:=h;exact⟨_,by simp [Instr.index,asIntOf,bc l,h0,d],VR.mkInt _ _⟩
  ·simp at h
 ·simp at h
end
section
variable{Q:Program}{σ:Nat→FuncId}{X:Wd}
theorem A2.over{α β:Type}{R:α→β→Prop}{cs xs:List α}{us d:List β}(h:A2 R cs us)(b:A2 R xs d)(off:Nat):A2 R (over cs off xs) (over us off d):=by
 unfold Km.over;rw [b.len];exact((h.take off).append b).append (h.drop _)
theorem Cd{α:Type}(cs:List α)(off:Nat)(xs:List α)(h:off+xs.length≤cs.length):(over cs off xs).length=cs.length:=by
 simp [over];omega
theorem BG(off:Nat):∀(d:List Value) (k:Nat) (b:List Value),off+k+d.length≤b.length →
  ((d.zipIdx k).foldl (fun(cs:Array Value) p=>cs.setIfInBounds (off+p.2) p.1) b.toArray)=(over b (off+k) d).toArray
 | [],k,b,_=>by simp [over]
 | v::d,k,b,h=>by
  simp only [List.zipIdx_cons,awA];have g:b.toArray.setIfInBounds (off+k) v=(b.set (off+k) v).toArray:=by simp
  rw [g,BG off d (k+1) _ (by simp at h ⊢;omega)]
  congr 1
  unfold over;simp only [avB]at h ⊢;rw [List.take_set,List.drop_set_of_lt (by omega),show off+(k+1)=off+k+1 by omega,show off+k+1+d.length=off+k+(d.length+1) by omega];rw [List.take_succ_eq_append_getElem (by omega)];have j:(List.take (off+k) b).length=off+k:=by simp;omega
  have e:(List.take (off+k) b++[b[off+k]]).set (off+k) v=List.take (off+k) b++[v]:=by
   rw [List.set_append,aY (by omega),j];simp
  rw [e];simp
theorem qp{x:V}{u:Value}(b:VR σ X x u){xs:List C}(h:x.cells?=aa xs):∃ us,u.cells=us.toArray∧A2 (CR σ X) xs us:=by
 unfold V.cells? at h;split at h
 ·rename_i x;simp only [At]at h;subst h;have d:=CR.one σ b;refine⟨[u],?_,A2.cons b A2.nil⟩;cases u<;>simp_all [Value.cells,Value.oneCell']
 ·simp only [At]at h;subst h;obtain⟨us,rfl,h⟩:=b;exact⟨us,rfl,h⟩
 ·simp at h
theorem nR{a:Act}{aD:T}(v:RR σ X aD a.tmps){place:Nat→Option (Nat × Nat)}:∀ {qs:List (Nat × Nat × Arg)} {ps:List (Nat × Operand)},
  A2 (fun(q:Nat × Nat × Arg) (p:Nat × Operand)=>place p.1=aa (q.1,q.2.1)∧mA σ q.2.2 p.2=ae) qs ps→∀ {cs cs':List C} {us:List Value},A2 (CR σ X) cs us →
  dK aD cs qs=aa cs'→∃ d,Instr.fill place us.toArray (ps.map fun p=>(p.1,a.eval p.2))=aa d.toArray∧A2 (CR σ X) cs' d
 | [],[],_,cs,cs',us,h,b=>by
  simp only [dK,At]at b;subst b;exact⟨us,rfl,h⟩
 | [],_::_,g,_,_,_,_,_=>by have:=g.len;simp at this
 | _::_,[],g,_,_,_,_,_=>by have:=g.len;simp at this
 | (off,n,x)::qs,(i,y)::ps,g,cs,cs',us,h,b=>by
  obtain⟨⟨s,u⟩,l⟩:=g.of_cons;simp only at s u;simp only [dK]at b;split at b
  ·rename_i xs m;split at b
   ·rename_i H;obtain⟨F,E,j⟩:=qp (bU v u) m;obtain⟨d,z,A⟩:=nR v l (h.over j off) b;refine⟨d,?_,A⟩;have I:=j.len;have B:=h.len;simp only [List.map_cons,Instr.fill,s,E];rw [aY (by simp;omega)];rw [←z]
    congr 1
    have:=BG off F 0 us (by omega);simp only [awL]at this;rw [←this];simp [←Array.foldl_toList]
   ·simp at b
  ·simp at b
theorem eT{t:TypeId}{zs:List FC}(h:lH Q t zs=ae)(w:World):∃ z us,(zeroValue t).run Q w=.ok z w∧z.cells=us.toArray∧A2 (CR σ X) (zs.map .f) us ∧
  ∃ i,Q.info? t=aa i∧i.zero=aa z:=by
 unfold lH at h;cases hi:Q.info? t with
 | none=>simp [hi]at h
 | some i=>
  simp only [hi,Option.any_some]at h;split at h
  ·rename_i z d;refine⟨z,z.cells.toList,by simp [zeroValue,typeInfo,hi,d],by simp,A2.map ((eI h).lJ fun x u b=>Eb b),i,rfl,d⟩
  ·simp at h
end
section
variable{Q:Program}{σ:Nat→FuncId}{X:Wd}
theorem me{b:CK}{t:TypeId}(h:QO Q b t=ae):(b=.int∧∃ j,Q.underlying t=aa (.int j))∨(b=.str∧Q.underlying t=aa .string)∨(b=.bool∧Q.underlying t=aa .bool):=by
 unfold QO at h;split at h
 ·exact .inl ⟨rfl,_,by assumption⟩
 ·exact .inr (.inl ⟨rfl,by assumption⟩)
 ·exact .inr (.inr ⟨rfl,by assumption⟩)
 ·simp at h
theorem uW{l:CK}{d:TypeDesc}(m:(l=.int∧∃ j,d=.int j)∨(l=.str∧d=.string)∨(l=.bool∧d=.bool)){F:Nat→Nat→Prop}{w:World}{x y:FC}{u v:Value}
  (q:cS σ F w x u) (s:cS σ F w y v) {b:Bool} (h:eqK l x y=aa b):Instr.sameNow d u v=aa b:=by
 unfold eqK at h;split at h
 ·cases q;cases s;rcases m with⟨_,j,rfl⟩ | ⟨g,_⟩ | ⟨g,_⟩
  ·simpa [Instr.sameNow]using h
  ·cases g
  ·cases g
 ·cases q;cases s;rcases m with⟨g,_⟩ | ⟨_,rfl⟩ | ⟨g,_⟩
  ·cases g
  ·simpa [Instr.sameNow]using h
  ·cases g
 ·cases q;cases s;rcases m with⟨g,_⟩ | ⟨g,_⟩ | ⟨_,rfl⟩
  ·cases g
  ·cases g
  ·simpa [Instr.sameNow]using h
 ·simp at h
theorem yJ{l:CK}{d:TypeDesc}(q:(l=.int∧∃ j,d=.int j)∨(l=.str∧d=.string)∨(l=.bool∧d=.bool)){F:Nat→Nat→Prop}{w:World}{k:FC}{B:Value}(v:cS σ F w k B) :
  ∀ {R:C→Value→Prop} {y:List (FC × C)} {b:List MapEntry},A2 (fun e m=>cS σ F w e.1 m.key∧R e.2 m.val) y b→∀ {r:Option C} (i:Nat),ns l k y=aa r →
  match r with
  | none=>Instr.findNow d B b i=aa ab| some x=>∃ j u,Instr.findNow d B b i=aa (aa (j,u))∧R x u
 | _,[],[],_,r,i,h=>by
  simp only [ns,At]at h;subst h;rfl
 | _,[],_::_,g,_,_,_=>by have:=g.len;simp at this
 | _,_::_,[],g,_,_,_=>by have:=g.len;simp at this
 | _,e::y,m::b,g,r,i,h=>by
  obtain⟨⟨z,E⟩,A⟩:=g.of_cons;simp only [ns]at h;split at h
  ·rename_i s;simp only [At]at h;subst h;exact⟨i,m.val,by simp [Instr.findNow,uW q v z s],E⟩
  ·rename_i s;have:=yJ q v A (i+1) h;cases r with
   | none=>simpa [Instr.findNow,uW q v z s]using this| some x=>obtain⟨j,u,H,I⟩:=this;exact⟨j,u,by simp [Instr.findNow,uW q v z s,H],I⟩
  ·simp at h
theorem iK{l:CK}{t:TypeId}(h:QO Q l t=ae){k:FC}{F:Nat→Nat→Prop}{q:World}{g:Value}(m:cS σ F q k g)(hi:isKey l k=ae)(b:Bool)(w:World) :
  (Instr.checkKey b 10000 t g).run Q w=.ok () w:=by
 have:∀ n,(Instr.checkKey b (n+1) t g).run Q w=.ok () w:=by
  intro n;rcases me h with⟨rfl,j,d⟩ | ⟨rfl,d⟩ | ⟨rfl,d⟩<;>cases m<;>simp_all [isKey,Instr.checkKey,bc d]
 exact this 9999
theorem D4{z:FC}{r:Option C}{u:Value}{ok:Bool}(b:ok=(sH z).isSome)(h:ic σ X ((r.map mV).getD (zV ((sH z).getD z))) u):VR σ X (lkR z r) (if ok=ae then .tuple #[u,.bool r.isSome]else u):=by
 unfold lkR;cases d:sH z with
 | none=>rw [d]at h b;subst b;exact VR.of1 σ h| some g=>rw [d]at h b;subst b;exact⟨[u,.bool r.isSome],rfl,A2.cons h (A2.cons (cS.bool _) A2.nil)⟩
theorem QL(hS:SR Q σ X){t kt e:TypeId}{J:CK}(Y:Q.underlying t=aa (.map kt e))(K:QO Q J kt=ae){z:FC}{ok:Bool}(H:ok=(sH z).isSome)(hz:lH Q e (sW ((sH z).getD z))=ae)
  (l:(Q.info? e).any (fun i=>i.zero.any fun u=>if EY ((sH z).getD z)then aox u else apq u)=ae) {m k:V} {um uk:Value} (hm:VR σ X m um) (s:VR σ X k uk) {v:V} (h:gb X.H J z m k=aa v) :
  ∃ u,(Instr.lookup t um uk ok).run Q X.w=.ok u X.w∧VR σ X v u:=by
 obtain⟨I,zs,M,A,B,i0,U,W⟩:=eT (σ:=σ) (X:=X) hz X.w;have N:ic σ X (zV ((sH z).getD z)) I:=by
  simp only [U,Option.any_some,W]at l;generalize (sH z).getD z=z0 at *;cases O:EY z0 with
  | true=>
   rw [ap_ O];simp only [O,if_true]at l;cases I with
   | agg cs=>exact⟨zs,by simp only [Value.cells]at A;rw [A],B⟩
   | _=>simp [aox]at l
  | false=>
   obtain⟨e1,e2⟩:=aqa O;rw [e1];rw [e2]at B;simp only [O,avk,if_false]at l;obtain⟨u,Z,a8⟩:=B.get (i:=0) (x:=.f z0) rfl;have hl:=B.len;have a_:zs=[u]:=by
    match zs,hl,Z with
    | [y],_,h=>simp at h;rw [h]
   subst a_;cases I with
   | agg cs=>simp [apq]at l| _=>simp only [Value.cells]at A;have:=congrArg Array.toList A;simp at this;subst this;exact a8
 unfold gb at h;split at h
 ·rename_i kc;split at h
  ·rename_i q;simp only [At]at h;subst h;cases (hm:cS σ X.F X.w .xf um);refine⟨if ok=ae then .tuple #[I,.bool ag]else I,?_,D4 (r:=ab) H N⟩;rcases me K with⟨_,j,g⟩ | ⟨_,g⟩ | ⟨_,g⟩ <;>
    simp [Instr.lookup,bc Y,iK K s q,Instr.findKey,bc g,Instr.findNow,M]
  ·simp at h
 ·rename_i b kc;split at h
  ·rename_i es hb;split at h
   ·rename_i q;simp only [IT]at h;obtain⟨r,hr,rfl⟩:=h;obtain⟨L,hL,_,rfl⟩:=hm;obtain⟨_,_,bp,F,S⟩:=hS.br b L hL;rw [hb]at F;simp only [At]at F;subst F;obtain⟨b9,h1,h2,_⟩:=S;have go:∀ d,Q.underlying kt=aa d→((J=.int∧∃ j,d=.int j)∨(J=.str∧d=.string)∨(J=.bool∧d=.bool))→∃ u,(Instr.lookup t (.map (aa L.c)) uk ok).run Q X.w=.ok u X.w∧VR σ X (lkR z r) u:=by
     intro d g hd;have h3:=yJ (R:=fun c u=>ic σ X (mV c) u) hd s h2 0 hr;cases r with
     | none=>
      refine⟨if ok=ae then .tuple #[I,.bool ag]else I,?_,D4 (r:=ab) H N⟩;simp [Instr.lookup,bc Y,getObj,Sem.run,h1,iK K s q,Instr.findKey,bc g,h3,M]
     | some x=>
      obtain⟨j,u,E,h5⟩:=h3;refine⟨if ok=ae then .tuple #[u,.bool ae]else u,?_,D4 (r:=aa x) H h5⟩;simp [Instr.lookup,bc Y,getObj,Sem.run,h1,iK K s q,Instr.findKey,bc g,E]
    rcases me K with⟨E,j,g⟩ | ⟨E,g⟩ | ⟨E,g⟩
    ·exact go _ g (.inl ⟨E,j,rfl⟩)
    ·exact go _ g (.inr (.inl ⟨E,rfl⟩))
    ·exact go _ g (.inr (.inr ⟨E,rfl⟩))
   ·simp at h
  ·simp at h
 ·simp at h
end
section
variable{Q:Program}{σ:Nat→FuncId}{X:Wd}
theorem en{s:Sem Value}{u:Value}{w w':World}(h:s.run Q w=.ok u w'):(do pure (Next.value (←s)):Sem Next).run Q w=.ok (.value u) w':=by simp [h]
theorem sY{a:Act}{aD:T}(b:RR σ X aD a.tmps){x:Option Arg}{y:Option Operand}(h:mO σ x y=ae):OR X σ (x.map (·.ev aD)) (y.map a.eval):=by
 rcases aso b h with⟨rfl,rfl⟩ | ⟨g,j,rfl,rfl,d⟩
 ·trivial
 ·exact d
theorem iE{t:TypeId}{p:TypeId→Bool}(h:(mY Q t).any p=ae):∃ e,Q.underlying t=aa (.slice e)∧p e=ae:=by
 unfold mY at h;split at h
 ·exact⟨_,by assumption,by simpa using h⟩
 ·simp at h
theorem iQ{x:C}{u:Value}(b:CR σ X x u){l:Nat}(h:bu X.H x=aa l):∃ a c,u=.slice a l c:=by
 unfold bu at h;split at h<;>try simp only [At,reduceCtorEq]at h
 ·simp only [CR,fq]at b;split at h
  ·rename_i d;rw [d]at b;obtain⟨L,_,_,rfl⟩:=b;simp only [At]at h;subst h;exact⟨_,_,rfl⟩
  ·rename_i s cs fl e j d;rw [d]at b;split at h
   ·rename_i g;have:=b.2.1 g.1 g.2;simp only [At]at h;subst h;cases j with
    | loc=>obtain⟨L,_,k,_,_,rfl⟩:=this;exact⟨_,_,rfl⟩
    | nil=>obtain⟨_,rfl,rfl⟩:=this;exact⟨_,_,rfl⟩
    | es=>obtain⟨_,rfl,a,rfl⟩:=this;exact⟨_,_,rfl⟩
   ·simp at h
  ·simp at h
 ·subst h;cases (b:cS σ X.F X.w .az u);exact⟨_,_,rfl⟩
 ·subst h;cases (b:cS σ X.F X.w .es u);exact⟨_,_,rfl⟩
 ·subst h;cases (b:cS σ X.F X.w (.fs _ _) u)<;>exact⟨_,_,rfl⟩
theorem mu(J:SR Q σ X){sz:Nat}{x:C}{u:Value}(y:CR σ X x u){l:Nat}(m:bu X.H x=aa l){cs:List C}(h:cP X.H sz x=aa cs) :
  ∃ us,(Builtin.firstCells sz l u).run Q X.w=.ok us.toArray X.w∧A2 (CR σ X) cs us∧cs.length=l*sz:=by
 have row:∀(c o:Nat) (us:List Value) (cap:Nat),us.length=l*sz→(∀(i:Nat) u,us[i]?=aa u→X.w.cell? ⟨c,o+i,ab⟩=aa u) →
   (Builtin.firstCells sz l (.slice (aa ⟨c,o,ab⟩) l cap)).run Q X.w=.ok us.toArray X.w:=by
  intro c o us cap g F;have:=run_loadCells_list (P:=Q) X.w ⟨c,o,ab⟩ us (fun j v M=>by rw [ek];exact F j v M);rw [g]at this;simpa [Builtin.firstCells]using this
 unfold cP at h;split at h<;>try simp only [reduceCtorEq]at h
 ·rename_i b o l' cap ep s;simp only [CR,fq]at y;simp only [bu]at m;split at h
  ·rename_i cs' fl E;rw [E]at y m;simp only [At]at m;subst m;obtain⟨L,I,_,rfl⟩:=y;split at h
   ·rename_i q;simp only [At]at h;subst h;obtain⟨_,_,bp,d,z⟩:=J.br b L I;rw [E]at d;simp only [At]at d;subst d;obtain⟨us,H,B,_⟩:=z;have:=B.len;refine⟨(us.drop o).take (l'*sz),row _ _ _ _ (by simp;omega) (fun i u g=>?_),(B.drop o).take _,by simp;omega⟩;rw [dy H];rw [avI]at g;split at g
    ·rw [avt]at g;exact g
    ·simp at g
   ·simp at h
  ·rename_i s' cs' fl e O E;rw [E]at y m;split at h
   ·rename_i F;obtain⟨rfl,rfl,q⟩:=F;simp only [and_self,if_true,At]at m;subst m;simp only [At]at h;subst h;have A:=y.2.1 rfl rfl;cases O with
    | loc=>
     obtain⟨L,I,k,_,_,rfl⟩:=A;obtain⟨_,_,bp,d,z⟩:=J.br b L I;rw [E]at d;simp only [At]at d;subst d;obtain⟨_,us,rest,H,B,_⟩:=z;have:=B.len;refine⟨(us.drop o).take (l'*sz),row _ _ _ _ (by simp;omega) (fun i u g=>?_),(B.drop o).take _,by simp;omega⟩;rw [dy H];rw [avI]at g;split at g
     ·rw [avt]at g;rw [AT (BY.1 g).1];exact g
     ·simp at g
    | nil=>
     obtain⟨rfl,rfl,rfl⟩:=A;exact⟨[],by simp [Builtin.firstCells],by simpa using A2.nil,by simp⟩
    | es=>
     obtain⟨rfl,rfl,a,rfl⟩:=A;exact⟨[],by simp [Builtin.firstCells,loadCells,loadCellsFrom],by simpa using A2.nil,by simp⟩
   ·simp at h
  ·simp at h
 ·simp only [At]at h;subst h;simp only [bu,At]at m;subst m;cases (y:cS σ X.F X.w .az u);exact⟨[],by simp [Builtin.firstCells],A2.nil,by simp⟩
 ·simp only [At]at h;subst h;simp only [bu,At]at m;subst m;cases (y:cS σ X.F X.w .es u);exact⟨[],by simp [Builtin.firstCells,loadCells,loadCellsFrom],A2.nil,by simp⟩
 ·rename_i cs' l';simp only [bu,At]at m;subst m;split at h
  ·rename_i q;simp only [At]at h;subst h;cases (y:cS σ X.F X.w (.fs cs' l') u)with
   | fs _ _ c o cap us K N S F H=>
    exact⟨us,row _ _ _ _ (by omega) F,A2.map ⟨by omega,H⟩,by simp;omega⟩
   | fs0 a cap=>exact⟨[],by simp [Builtin.firstCells,loadCells,loadCellsFrom],A2.nil,by simp⟩
  ·simp at h
theorem ajI{v:V}{u:Value}(h:VR σ X v u){c:C}(l:mU v=aa c):fq σ X c u:=by
 unfold mU at l;split at l
 ·simp at l
 ·simp at l
 ·rename_i x q m;simp only [At]at l;subst l;cases x with
  | cl f j=>exact absurd rfl (q f j)| bm f j=>exact absurd rfl (m f j)| mi b=>exact h| f y=>exact h| ptr a b c=>exact h| sl a b c d e g=>exact h| yl b=>exact h| mp b=>exact h| it b=>exact h
 ·simp at l
theorem Bh{xs:List V}{us:List Value}(h:A2 (VR σ X) xs us){cs:List C}(b:bj mU xs=aa cs):A2 (fq σ X) cs us:=by
 induction xs generalizing us cs with
 | nil=>
  simp only [bj,At]at b;subst b
  match us,h.len with
  | [],_=>exact A2.nil
 | cons x xs m=>
  match us,h with
  | u::us,h=>
   obtain⟨g,j⟩:=h.of_cons;simp only [bj]at b;split at b
   ·simp at b
   ·rename_i y l;split at b
    ·simp at b
    ·rename_i ys d;simp only [At]at b;subst b;exact A2.cons (ajI g l) (m j d)
  | [],h=>have:=h.len;simp at this
theorem dA{d:Operand→Value}{o:Oper}{c:Call}{b:Builtin}(j:o.op=.call c)(g:c.callee=.builtin b){r:Result Next}{w:World}
  (h:∀ cs,(builtin b c.argTypes o.type cs (c.args.map d)).run Q w=r):(execOp d o).run Q w=r:=by
 simp only [execOp,j,resolve,g,Sem.run_bind,Sem.run_pure,Result.andThen_ok,invoke];exact h _
theorem wQ{α:Type}{a:Array α}{x:α}(h:a.toList=[x]):a=#[x]:=by
 apply Array.ext';simp [h]
theorem ajD{α:Type}{a:Array α}{x y:α}(h:a.toList=[x,y]):a=#[x,y]:=by
 apply Array.ext';simp [h]
theorem QN{c:Call}{x:Arg}(h:ef Q σ c (.len x)=ae):∃ y t e,c.callee=.builtin .len∧c.args=#[y]∧c.argTypes=#[t]∧mA σ x y=ae∧Q.underlying t=aa (.slice e):=by
 simp only [ef]at h;split at h
 ·rename_i y t b d g;simp only [If]at h;have:=h.2;split at this
  ·exact⟨y,t,_,b,wQ d,wQ g,h.1,by assumption⟩
  ·simp at this
 ·simp at h
theorem D_{c:Call}{x:Arg}(h:ef Q σ c (.lens x)=ae):∃ y t,c.callee=.builtin .len∧c.args=#[y]∧c.argTypes=#[t]∧mA σ x y=ae∧Q.underlying t=aa .string:=by
 simp only [ef]at h;split at h
 ·rename_i y t b d g;simp only [If]at h;have:=h.2;split at this
  ·exact⟨y,t,b,wQ d,wQ g,h.1,by assumption⟩
  ·simp at this
 ·simp at h
theorem D9{c:Call}{n:Nat}(h:ef Q σ c (.ou n)=ae):∃ y t e,c.callee=.builtin .len∧c.args=#[y]∧c.argTypes=#[t]∧Q.underlying t=aa (.array n e):=by
 simp only [ef]at h;split at h
 ·rename_i y t b d g;split at h
  ·rename_i m e j;simp only [decide_eq_true_eq]at h;subst h;exact⟨y,t,e,b,wQ d,wQ g,j⟩
  ·simp at h
 ·simp at h
theorem Ea{c:Call}{lo:Bool}{xs:List Arg}(h:ef Q σ c (.gQ lo xs)=ae):c.callee=.builtin (if lo then .min else .max)∧mAs σ xs c.args=ae:=by
 simp only [ef]at h;split at h
 ·rename_i b;exact⟨b,h⟩
 ·rename_i b;exact⟨b,h⟩
 ·simp at h
theorem adH{lo:Bool}{x y z:V}{u v:Value}(b:VR σ X x u)(d:VR σ X y v)(h:yH lo x y=aa z)(w:World):∃ r,(if lo then Builtin.min2 u v else Builtin.max2 u v).run Q w=.ok r w∧VR σ X z r:=by
 unfold yH at h;split at h
 ·simp only [At]at h;subst h;have b:=VR.int b;have d:=VR.int d;subst b;subst d;cases lo
  ·exact⟨_,by simp [Builtin.max2],VR.mkInt _ _⟩
  ·exact⟨_,by simp [Builtin.min2],VR.mkInt _ _⟩
 ·simp at h
theorem B3{lo:Bool}(w:World):∀ {ys:List V} {d:List Value} {x z:V} {u:Value},VR σ X x u→A2 (VR σ X) ys d→tj lo x ys=aa z→∃ r,(d.foldlM (fun u v=>if lo then Builtin.min2 u v else Builtin.max2 u v) u).run Q w=.ok r w∧VR σ X z r
 | [],d,x,z,u,g,b,h=>by
  have:d=[]:=avm b.len.symm;subst this;simp only [tj,At]at h;subst h;exact⟨u,rfl,g⟩
 | y::ys,[],x,z,u,g,b,h=>by have:=b.len;simp at this
 | y::ys,v::d,x,z,u,g,b,h=>by
  obtain⟨A,b⟩:=b.of_cons;simp only [tj]at h;split at h
  ·rename_i q B;obtain⟨E,j,l⟩:=adH (Q:=Q) g A B w;obtain⟨r,m,s⟩:=B3 w l b h;exact⟨r,by rw [List.foldlM_cons,Sem.run_bind,j];exact m,s⟩
  ·simp at h
theorem QM{c:Call}{x:Arg}(h:ef Q σ c (.cap x)=ae):∃ y t e,c.callee=.builtin .cap∧c.args=#[y]∧c.argTypes=#[t]∧mA σ x y=ae∧Q.underlying t=aa (.slice e):=by
 simp only [ef]at h;split at h
 ·rename_i y t g j l;simp only [If]at h;obtain⟨m,d⟩:=h;split at d
  ·rename_i e b;exact⟨y,t,e,g,wQ j,wQ l,m,b⟩
  ·simp at d
 ·simp at h
theorem aew{x:C}{u:Value}(d:CR σ X x u){n:Nat}(h:jh X.H x=aa n):∃ a l,u=.slice a l n:=by
 cases x with
 | sl b o l c ep sz=>
  simp only [jh]at h;simp only [CR,fq]at d;split at h
  ·rename_i g;rw [g]at d;obtain⟨L,_,_,rfl⟩:=d;simp only [At]at h;subst h;exact⟨_,_,rfl⟩
  ·rename_i g;rw [g]at d;split at h
   ·rename_i j;have:=d.2.1 j.1 j.2;simp only [At]at h;subst h;obtain⟨_,_,rfl⟩:=this;exact⟨_,_,rfl⟩
   ·simp at h
  ·rename_i g;rw [g]at d;split at h
   ·rename_i j;have:=d.2.1 j.1 j.2;simp only [At]at h;subst h;obtain⟨_,_,a,rfl⟩:=this;exact⟨_,_,rfl⟩
   ·simp at h
  ·simp at h
 | f y=>
  cases y<;>simp only [jh,At,reduceCtorEq]at h
  ·subst h;cases (d:cS σ X.F X.w .az u);exact⟨_,_,rfl⟩
  ·subst h;cases (d:cS σ X.F X.w .es u);exact⟨_,_,rfl⟩
 | _=>simp [jh]at h
theorem Gc(v:SR Q σ X){m:Nat}{L:Loc}(u:X.cB m=aa L){e:FC × C}(x:X.H[m]?=aa (.map [e])):∃ d:MapEntry,X.w.heap[L.c]?=aa (.map #[d] 1)∧cS σ X.F X.w e.1 d.key∧ic σ X (mV e.2) d.val∧d.born=0:=by
 obtain⟨_,_,bp,g,l⟩:=v.br m L u;rw [x]at g;cases g;obtain⟨j,q,b,s⟩:=l
 match j,b with
 | [d],b=>exact⟨d,q,b.of_cons.1.1,b.of_cons.1.2,s 0 d rfl⟩| [],b=>have:=b.len;simp at this| _::_::_,b=>have:=b.len;simp at this
theorem Qk(q:SR Q σ X){x:V}{u:Value}(K:VR σ X x u){v:V}(h:lQ X.H x=aa v):∃ r,(Instr.entry u).run Q X.w=.ok r X.w∧VR σ X v r:=by
 unfold lQ at h;split at h
 ·rename_i b;obtain⟨L,H,_,rfl⟩:=K;split at h
  ·rename_i m s I;split at h
   ·rename_i e J;simp only [At]at h;subst h;obtain⟨_,_,bp,d,j⟩:=q.br b L H;rw [I]at d;cases d;obtain⟨M,N,O,E,_,F,l⟩:=j;simp only [if_true]at l;obtain⟨rfl,rfl⟩:=l;obtain⟨g,y,z,A,B⟩:=Gc q E J;refine⟨.tuple #[g.key,g.val],?_,[g.key,g.val],rfl,A2.cons z (A2.cons A A2.nil)⟩;simp [Instr.entry,getObj,Sem.run,F,y,B,Result.andThen]
   ·simp at h
  ·simp at h
 ·simp at h
theorem Bl:∀ {cs:List C} {us:List Value} {d:List UInt8},A2 (CR σ X) cs us→bj (fun c=>match c with | C.f (.int .u8 n)=>aa (UInt8.ofNat n.toNat) | _=>ab) cs=aa d →
  ∃ j:List Int,us=j.map (Value.int .u8)∧d=j.map fun n=>UInt8.ofNat n.toNat
 | [],us,d,h,b=>by
  simp only [bj,At]at b;subst b
  match us,h.len with
  | [],_=>exact⟨[],rfl,rfl⟩
 | c::cs,[],d,h,b=>by have:=h.len;simp at this
 | c::cs,u::us,d,h,b=>by
  obtain⟨m,q⟩:=h.of_cons;simp only [bj]at b;split at b
  ·simp at b
  ·rename_i y g;split at b
   ·simp at b
   ·rename_i ys l;simp only [At]at b;subst b;obtain⟨j,rfl,rfl⟩:=Bl q l;split at g
    ·rename_i n;simp only [At]at g;subst g;cases (m:cS σ X.F X.w (.int .u8 n) u);exact⟨n::j,rfl,rfl⟩
    ·simp at g
theorem foldl_push:∀(b:List Int) (s:ByteArray),b.foldl (fun(r:ByteArray) n=>r.push (UInt8.ofNat n.toNat)) s=⟨s.data++(b.map fun n=>UInt8.ofNat n.toNat).toArray⟩
 | [],s=>by simp
 | n::b,s=>by
  rw [awA,foldl_push b]
  congr 1
  simp [ByteArray.push]
theorem acP(y:SR Q σ X){x:V}{u:Value}(q:VR σ X x u){v:V}(h:oF X.H x=aa v):∃ r,(Conv.bytesToString u).run Q X.w=.ok r X.w∧VR σ X v r:=by
 unfold oF at h;split at h
 ·rename_i x;split at h
  ·rename_i l m;split at h
   ·rename_i cs j;simp only [IT]at h;obtain⟨A,z,rfl⟩:=h;obtain⟨us,g,s,B⟩:=mu y q m j;obtain⟨d,c,rfl⟩:=iQ q m;obtain⟨b,rfl,rfl⟩:=Bl s z;refine⟨.string (b.foldl (fun(r:ByteArray) n=>r.push (UInt8.ofNat n.toNat)) ByteArray.empty),?_,?_⟩
    ·cases d with
     | none=>
      simp only [Builtin.firstCells,Sem.run_pure,Result.ok.injEq,and_true]at g;have:b=[]:=by
       have:=congrArg Array.toList g;simpa using this.symm
      subst this;simp only [Conv.bytesToString,List.foldl_nil,List.map_nil,Sem.run_pure]
     | some d=>exact run_bytesToString X.w d l c b (by simpa [Builtin.firstCells]using g)
    ·rw [foldl_push];rw [show(ByteArray.empty.data++(List.map (fun n:Int=>UInt8.ofNat n.toNat) b).toArray)=(List.map (fun n:Int=>UInt8.ofNat n.toNat) b).toArray from Array.empty_append];exact VR.mkStr _
   ·simp at h
  ·simp at h
 ·simp at h
theorem amm(hS:SR Q σ X){a:Act}{aD:T}(H:RR σ X aD a.tmps){o:Oper}{op:cW}(A:dU Q σ o op=ae)(hc:cls op=.p∨cls op=.r)(f7:op.fsl=ag){v:V}{H':aj}
  (h:bq aD X.H op=aa (v,H')):H'=X.H∧∃ u,(execOp a.eval o).run Q X.w=.ok (.value u) X.w∧VR σ X v u:=by
 cases op<;>first | (simp only [cls,reduceCtorEq,or_self]at hc;done) | (simp [cW.fsl]at f7;done) | clear f7
 case aZ x=>
  simp only [bq,At,OF]at h;obtain⟨rfl,rfl⟩:=h;refine⟨rfl,?_⟩;simp only [dU]at A;split at A
  ·rename_i y E;exact⟨_,by simp [execOp,E],bU H A⟩
  ·rename_i y E;exact⟨_,by simp [execOp,E],bU H A⟩
  ·simp at A
 case pick c x y=>
  simp only [dU]at A;split at A
  ·rename_i c' x' y' E;simp only [If]at A;simp only [bq]at h;have b_:=bU H A.1.1;split at h
   ·rename_i b Z;rw [Z]at b_;have b_:=VR.bool b_;simp only [At,OF]at h;obtain⟨rfl,rfl⟩:=h;cases b
    ·exact⟨rfl,_,by simp [execOp,E,b_,asBool],bU H A.2⟩
    ·exact⟨rfl,_,by simp [execOp,E,b_,asBool],bU H A.1.2⟩
   ·simp at h
  ·simp at A
 case build zs qs=>
  simp only [dU]at A;split at A
  ·rename_i t ps E;simp only [If]at A;simp only [bq,IT,OF]at h;obtain⟨cs,a_,rfl,rfl⟩:=h;obtain⟨z,us,i9,i_,j4,_⟩:=eT (σ:=σ) (X:=X) A.1 X.w;refine⟨rfl,?_⟩;have Z:=A.2;unfold adE at Z;split at Z
   ·rename_i fs K;split at Z
    ·rename_i pl j_;obtain⟨d9,N,h6⟩:=nR (place:=(pl.toArray[·]?)) H ((eI Z).lJ fun q p W=>by
      simp only [If,decide_eq_true_eq]at W;exact⟨by simpa using W.1,W.2⟩) j4 a_
     refine⟨.agg d9.toArray,?_,d9,rfl,h6⟩;have hp:=run_places (P:=Q) X.w fs.toList pl j_;simp only [execOp,E];refine en ?_;simp [Instr.build,i9,bc K,Array.mapM_eq_mapM_toList,hp,i_];simp at N;simp [N]
    ·simp at Z
   ·rename_i n e K;split at Z
    ·rename_i j5 hi;obtain⟨d9,N,h6⟩:=nR (place:=fun i=>aa (i*j5.size,j5.size)) H ((eI Z).lJ fun q p W=>by
      simp only [If,beq_iff_eq]at W;exact⟨by rw [W.1.2,W.1.1],W.2⟩) j4 a_
     refine⟨.agg d9.toArray,?_,d9,rfl,h6⟩;simp only [execOp,E];refine en ?_;simp [Instr.build,i9,bc K,Go.sizeOf,typeInfo,hi,i_,N]
    ·simp at Z
   ·simp at Z
  ·simp at A
 case load k x=>
  simp only [dU]at A;split at A
  ·rename_i t y E;simp only [If]at A;simp only [bq,IT,OF]at h;obtain⟨v',F,rfl,rfl⟩:=h;obtain⟨u,J,M⟩:=apc hS A.1 (bU H A.2) F;exact⟨rfl,u,by simp only [execOp,E];exact en J,M⟩
  ·simp at A
 case bR x=>
  simp only [dU]at A;split at A
  ·rename_i y E;have B:=bU H A;simp only [bq]at h;have f8:∀ ad,a.eval y=.pointer (aa ad)→(execOp a.eval o).run Q X.w=.ok (.value (a.eval y)) X.w:=by
    intro ad b9;simp [execOp,E,b9]
   split at h
   ·rename_i b off e Z;simp only [At,OF]at h;obtain⟨rfl,rfl⟩:=h;rw [Z]at B;have e_:=B;obtain⟨L,hL,B⟩:=B;split at B
    ·exact⟨rfl,_,f8 _ B,e_⟩
    ·obtain⟨_,_,ad,b9⟩:=B;exact⟨rfl,_,f8 _ b9,e_⟩
    ·exact B.elim
   ·rename_i cs off Z;simp only [At,OF]at h;obtain⟨rfl,rfl⟩:=h;rw [Z]at B;have e_:=B;have:∃ ad,a.eval y=.pointer (aa ad):=by
     generalize a.eval y=u at B;cases (B:cS σ X.F X.w (.fp cs off) u);exact⟨_,rfl⟩
    obtain⟨ad,b9⟩:=this;exact⟨rfl,_,f8 _ b9,e_⟩
   ·simp at h
  ·simp at A
 case bin op x y=>
  simp only [dU]at A;split at A
  ·rename_i j7 t x' y' yt E;simp only [If,decide_eq_true_eq]at A;obtain⟨⟨rfl,B⟩,S⟩:=A;simp only [bq,IT,OF]at h;obtain⟨v',F,rfl,rfl⟩:=h;have B:=bU H B;have S:=bU H S;refine⟨rfl,?_⟩;have guard:∀ op,(∀ xs,a.eval x'≠.agg xs)→a.eval x'≠.nilIface→(eqGuard op t x' y' (a.eval x') (a.eval y')).run Q X.w=.ok () X.w:=by
    intro op J M;cases op<;>simp [eqGuard]<;>(generalize a.eval x'=ux at *;cases ux<;>simp at J M ⊢)
   unfold dq at F;split at F
   ·rename_i k n k' m J M;rw [J]at B;rw [M]at S;have B:=VR.int B;have S:=VR.int S;split at F
    ·simp at F
    ·rename_i A;simp only [At]at F;subst F;exact⟨_,by simp only [execOp,E];refine en ?_;rw [Sem.run_bind,guard _ (by simp [B]) (by simp [B])];simp [B,S,binOp,Op.shift,A],VR.mkInt _ _⟩
   ·rename_i k n k' m J M;rw [J]at B;rw [M]at S;have B:=VR.int B;have S:=VR.int S;split at F
    ·simp at F
    ·rename_i A;simp only [At]at F;subst F;exact⟨_,by simp only [execOp,E];refine en ?_;rw [Sem.run_bind,guard _ (by simp [B]) (by simp [B])];simp [B,S,binOp,Op.shift,A],VR.mkInt _ _⟩
   ·rename_i k n k' m _ _ J M;rw [J]at B;rw [M]at S;have B:=VR.int B;have S:=VR.int S;split at F
    ·rename_i hk;subst hk;obtain⟨u,Y,O,N⟩:=ajE (Q:=Q) (σ:=σ) (X:=X) F X.w;exact⟨u,by simp only [execOp,E];refine en ?_;rw [Sem.run_bind,guard _ (by simp [B]) (by simp [B])];simp [B,S,N,Y],O⟩
    ·simp at F
   ·rename_i s1 s2 J M;rw [J]at B;rw [M]at S;have B:=VR.str B;have S:=VR.str S;obtain⟨u,Y,O⟩:=ajG (Q:=Q) (σ:=σ) (X:=X) F X.w t;exact⟨u,by simp only [execOp,E];refine en ?_;rw [Sem.run_bind,guard _ (by simp [B]) (by simp [B])];simp [B,S,Y],O⟩
   ·simp at F
  ·simp at A
 case eq neg k x y=>
  simp only [dU]at A;split at A
  ·rename_i j7 t x' y' yt E;simp only [If,decide_eq_true_eq]at A;obtain⟨⟨⟨rfl,B⟩,S⟩,hk⟩:=A;simp only [bq,IT,OF]at h;obtain⟨b,F,rfl,rfl⟩:=h;refine⟨rfl,_,?_,VR.vz _⟩;simp only [execOp,E];exact en (aoP hk (bU H B) (bU H S) F neg X.w)
  ·simp at A
 case un op x=>
  simp only [dU]at A;split at A
  ·rename_i j7 t y E;simp only [If,decide_eq_true_eq]at A;obtain⟨rfl,B⟩:=A;simp only [bq,IT,OF]at h;obtain⟨v',F,rfl,rfl⟩:=h;have B:=bU H B;refine⟨rfl,?_⟩;unfold unV at F;split at F
   ·rename_i k n J;rw [J]at B;have B:=VR.int B;simp only [At]at F;subst F;exact⟨_,by simp [execOp,E,B,Op.unary,Op.intArith],VR.mkInt _ _⟩
   ·rename_i b J;rw [J]at B;have B:=VR.bool B;simp only [At]at F;subst F;exact⟨_,by simp [execOp,E,B,Op.unary],VR.vz _⟩
   ·simp at F
  ·simp at A
 case fT k x=>
  simp only [dU]at A;split at A
  ·rename_i s d y E;simp only [If]at A;obtain⟨⟨B,hs⟩,hd⟩:=A;have B:=bU H B;simp only [bq]at h;split at h
   ·rename_i q n J;rw [J]at B;have B:=VR.int B;simp only [At,OF]at h;obtain⟨rfl,rfl⟩:=h;split at hd
    ·rename_i k' K;simp only [decide_eq_true_eq]at hd;subst hd;obtain⟨ds,j8⟩:=Option.isSome_iff_exists.1 hs;exact⟨rfl,_,by simp only [execOp,E];refine en ?_;simp [convert,bc j8,bc K,B,Conv.intToInt],VR.mkInt _ _⟩
    ·simp at hd
   ·simp at h
  ·simp at A
 case wU x=>
  simp only [dU]at A;split at A
  ·rename_i s d y E;simp only [If]at A;obtain⟨B,hd⟩:=A;have B:=bU H B;simp only [bq]at h;split at h
   ·rename_i q J;rw [J]at B;have B:=VR.str B;simp only [At,OF]at h;obtain⟨rfl,rfl⟩:=h;split at hd
    ·rename_i h_ i4;exact⟨rfl,_,by simp only [execOp,E];refine en ?_;simp [convert,bc h_,bc i4,B],VR.mkStr _⟩
    ·simp at hd
   ·simp at h
  ·simp at A
 case fR f xs=>
  simp only [dU]at A;split at A
  ·rename_i g fst a8 E;simp only [If,beq_iff_eq]at A;obtain⟨⟨I,rfl⟩,B⟩:=A;simp only [bq,IT,OF]at h;obtain⟨cs,a_,rfl,rfl⟩:=h;have:=Bh (ni H B) a_;have i7:fst=#[]:=by simpa using I
   exact⟨rfl,.func (.func (σ f)) #[] (a8.map a.eval),by simp only [execOp,E,Instr.makeFunc,i7];exact en (by simp),(a8.map a.eval).toList,congrArg _ Array.toArray_toList.symm,this⟩
  ·simp at A
 case slice sz x lo hi mx=>
  simp only [dU]at A;split at A
  ·rename_i t y j6 i8 mx' E;simp only [If,decide_eq_true_eq]at A;obtain⟨⟨⟨⟨⟨B,J⟩,M⟩,Y⟩,he⟩,hz⟩:=A;obtain⟨e,K,U⟩:=iE he;simp only [bq,IT,OF]at h;obtain⟨v',F,rfl,rfl⟩:=h;obtain⟨r,O,N⟩:=yW hS K U (bU H B) (sY H J) (sY H M) (sY H Y) F;exact⟨rfl,r,by simp only [execOp,E];exact en O,N⟩
  ·simp at A
 case nB n sz x lo hi mx=>
  simp only [dU]at A;split at A
  ·rename_i t y j6 i8 mx' E;simp only [If,decide_eq_true_eq]at A;obtain⟨⟨⟨⟨⟨B,J⟩,M⟩,Y⟩,he⟩,hz⟩:=A;split at he
   ·rename_i n' e K;simp only [If,beq_iff_eq]at he;obtain⟨rfl,U⟩:=he;simp only [bq,IT,OF]at h;obtain⟨v',F,rfl,rfl⟩:=h;obtain⟨r,O,N⟩:=Rn hS K U (bU H B) (sY H J) (sY H M) (sY H Y) F;exact⟨rfl,r,by simp only [execOp,E];exact en O,N⟩
   ·simp at he
  ·simp at A
 case oK x lo hi=>
  simp only [dU]at A;split at A
  ·rename_i t y j6 i8 E;simp only [If]at A;obtain⟨⟨⟨B,J⟩,M⟩,he⟩:=A;split at he
   ·rename_i K;simp only [bq,IT,OF]at h;obtain⟨v',F,rfl,rfl⟩:=h;obtain⟨r,O,N⟩:=Rp K (bU H B) (sY H J) (sY H M) F X.w;exact⟨rfl,r,by simp only [execOp,E,Option.map_none];exact en O,N⟩
   ·simp at he
  ·simp at A
 case aO off x=>
  simp only [dU]at A;split at A
  ·rename_i t y i E;simp only [If]at A;obtain⟨B,I⟩:=A;split at I
   ·rename_i fs K;split at I
    ·rename_i f f_;simp only [If,beq_iff_eq]at I;obtain⟨rfl,hz⟩:=I;simp only [bq,IT,OF]at h;obtain⟨v',F,rfl,rfl⟩:=h;obtain⟨r,O,N⟩:=DP K f_ hz (bU H B) F X.w;exact⟨rfl,r,by simp only [execOp,E];exact en O,N⟩
    ·simp at I
   ·simp at I
  ·simp at A
 case field off n x=>
  simp only [dU]at A;split at A
  ·rename_i t y i E;simp only [If]at A;obtain⟨B,I⟩:=A;split at I
   ·rename_i fs K;split at I
    ·rename_i f f_;simp only [If,beq_iff_eq]at I;obtain⟨rfl,hz⟩:=I;simp only [bq,IT,OF]at h;obtain⟨v',F,rfl,rfl⟩:=h;obtain⟨r,O,N⟩:=Qn K f_ hz (bU H B) F X.w;exact⟨rfl,r,by simp only [execOp,E];exact en O,N⟩
    ·simp at I
   ·simp at I
  ·simp at A
 case bE sz i5 x i=>
  simp only [dU]at A;split at A
  ·rename_i t y j E;simp only [If]at A;obtain⟨⟨B,hi⟩,I⟩:=A;simp only [bq,IT,OF]at h;obtain⟨v',F,rfl,rfl⟩:=h;have:∃ e,dE Q e sz=ae∧((i5=ab∧Q.underlying t=aa (.slice e))∨∃ n,i5=aa n∧Q.underlying t=aa (.array n e)):=by
    split at I
    ·rename_i e K;exact⟨e,I,.inl ⟨rfl,K⟩⟩
    ·rename_i n e n' K;simp only [If,beq_iff_eq]at I;obtain⟨rfl,U⟩:=I;exact⟨e,U,.inr ⟨_,rfl,K⟩⟩
    ·simp at I
   obtain⟨e,U,K⟩:=this;obtain⟨r,O,N⟩:=DY U K (bU H B) (bU H hi) F;exact⟨rfl,r,by simp only [execOp,E];exact en O,N⟩
  ·simp at A
 case idxs x i=>
  simp only [dU]at A;split at A
  ·rename_i t y j E;simp only [If]at A;obtain⟨⟨B,hi⟩,I⟩:=A;simp only [bq,IT,OF]at h;obtain⟨v',F,rfl,rfl⟩:=h;split at I
   ·rename_i K;obtain⟨r,O,N⟩:=adg K (bU H B) (bU H hi) F X.w;exact⟨rfl,r,by simp only [execOp,E];exact en O,N⟩
   ·simp at I
  ·simp at A
 case wW n sz k x i=>
  simp only [dU]at A;split at A
  ·rename_i t y j E;simp only [If]at A;obtain⟨⟨B,hi⟩,I⟩:=A;simp only [bq,IT,OF]at h;obtain⟨v',F,rfl,rfl⟩:=h;split at I
   ·rename_i n' e K;simp only [If,beq_iff_eq]at I;obtain⟨⟨rfl,U⟩,hk⟩:=I;obtain⟨r,O,N⟩:=adf K U hk (bU H B) (bU H hi) F X.w;exact⟨rfl,r,by simp only [execOp,E];exact en O,N⟩
   ·simp at I
  ·simp at A
 case lookup ck z m k=>
  simp only [dU]at A;split at A
  ·rename_i t m' k' ok E;simp only [If,beq_iff_eq]at A;obtain⟨⟨⟨J,M⟩,j9⟩,I⟩:=A;simp only [bq,IT,OF]at h;obtain⟨v',F,rfl,rfl⟩:=h;split at I
   ·rename_i kt e K;simp only [If]at I;obtain⟨u,O,N⟩:=QL hS K I.1.1 j9 I.1.2 I.2 (bU H J) (bU H M) F;exact⟨rfl,u,by simp only [execOp,E];exact en O,N⟩
   ·simp at I
  ·simp at A
 case extract x i=>
  simp only [dU]at A;split at A
  ·rename_i y j E;simp only [If,beq_iff_eq]at A;obtain⟨B,rfl⟩:=A;have B:=bU H B;simp only [bq]at h;split at h
   ·rename_i vs l_;rw [l_]at B;simp only [IT,OF]at h;obtain⟨v',F,rfl,rfl⟩:=h;obtain⟨us,d_,M⟩:=B;obtain⟨u,K,m4⟩:=M.get F;exact⟨rfl,u,by simp only [execOp,E];refine en ?_;simp [Instr.extract,d_,K],VR.of1 σ m4⟩
   ·simp at h
  ·simp at A
 case ou n=>
  simp only [dU]at A;split at A
  ·rename_i c E;obtain⟨y,t,e,J,M,Y,K⟩:=D9 A;simp only [bq,At,OF]at h;obtain⟨rfl,rfl⟩:=h;exact⟨rfl,_,dA E J (fun cs=>by simp [builtin,M,Y,Builtin.len_,bc K,goInt]),VR.mkInt _ _⟩
  ·simp at A
 case lens x=>
  simp only [dU]at A;split at A
  ·rename_i c E;obtain⟨y,t,J,M,Y,B,K⟩:=D_ A;have B:=bU H B;simp only [bq]at h;split at h
   ·rename_i s hs;rw [hs]at B;have B:=VR.str B;simp only [At,OF]at h;obtain⟨rfl,rfl⟩:=h;exact⟨rfl,_,dA E J (fun cs=>by simp [builtin,M,Y,Builtin.len_,bc K,B,goInt]),VR.mkInt _ _⟩
   ·simp at h
  ·simp at A
 case len x=>
  simp only [dU]at A;split at A
  ·rename_i c E;obtain⟨y,t,e,J,M,Y,B,K⟩:=QN A;have B:=bU H B;simp only [bq]at h;split at h
   ·rename_i z hz;rw [hz]at B;split at h
    ·rename_i n hn;simp only [At,OF]at h;obtain⟨rfl,rfl⟩:=h;obtain⟨ad,cp,g_⟩:=iQ B hn;exact⟨rfl,_,dA E J (fun cs=>by simp [builtin,M,Y,Builtin.len_,bc K,g_,goInt]),VR.mkInt _ _⟩
    ·simp at h
   ·simp at h
  ·simp at A
 case gQ lo xs=>
  simp only [dU]at A;split at A
  ·rename_i c E;obtain⟨J,M⟩:=Ea A;have hA:=ni H M;simp only [bq,IT,OF]at h;obtain⟨v',F,rfl,rfl⟩:=h;refine⟨rfl,?_⟩;unfold xc at F;split at F
   ·simp at F
   ·rename_i x ys m9;rw [m9]at hA
    match d_:(c.args.map a.eval).toList,hA with
    | [],hA=>have:=hA.len;simp at this
    | u::us,hA=>
     obtain⟨B,hA⟩:=hA.of_cons;obtain⟨r,g1,g2⟩:=B3 (Q:=Q) (lo:=lo) X.w B hA F;refine⟨r,dA E J (fun cs=>?_),g2⟩;cases lo
     ·simp only [avk,if_false]at g1 ⊢;have g1:(us.foldlM Builtin.max2 u).run Q X.w=.ok r X.w:=g1;have c_:List.map a.eval c.args.toList=u::us:=by simpa using d_
      simp [builtin,Builtin.max_,c_,g1]
     ·simp only [if_true]at g1 ⊢;have g1:(us.foldlM Builtin.min2 u).run Q X.w=.ok r X.w:=g1;have c_:List.map a.eval c.args.toList=u::us:=by simpa using d_
      simp [builtin,Builtin.min_,c_,g1]
  ·simp at A
 case cap x=>
  simp only [dU]at A;split at A
  ·rename_i c E;obtain⟨y,t,e,J,M,Y,B,K⟩:=QM A;have B:=bU H B;simp only [bq]at h;split at h
   ·rename_i z hz;rw [hz]at B;split at h
    ·rename_i n hn;simp only [At,OF]at h;obtain⟨rfl,rfl⟩:=h;obtain⟨ad,l,g_⟩:=aew B hn;exact⟨rfl,_,dA E J (fun cs=>by simp [builtin,M,Y,Builtin.cap_,bc K,g_,goInt]),VR.mkInt _ _⟩
    ·simp at h
   ·simp at h
  ·simp at A
 case entry x=>
  simp only [dU]at A;split at A
  ·rename_i y E;simp only [bq,IT,OF]at h;obtain⟨v',F,rfl,rfl⟩:=h;obtain⟨r,g1,g2⟩:=Qk hS (bU H A) F;exact⟨rfl,r,by simp only [execOp,E];exact en g1,g2⟩
  ·simp at A
 case nq f xs=>
  simp only [dU]at A;split at A
  ·rename_i g fst a8 E;simp only [If,beq_iff_eq]at A;obtain⟨⟨I,rfl⟩,B⟩:=A;simp only [bq,IT,OF]at h;obtain⟨cs,a_,rfl,rfl⟩:=h;have:=Bh (ni H B) a_;have i6:a8=#[]:=by simpa using I
   exact⟨rfl,.func (.func (σ f)) (fst.map a.eval) #[],by simp only [execOp,E,Instr.makeFunc,i6];exact en (by simp),(fst.map a.eval).toList,by rw [Array.toArray_toList],this⟩
  ·simp at A
 case call f args h'=>cases h'<;>simp [cls]at hc
 case wT x=>
  simp only [dU]at A;split at A
  ·rename_i s d y E;simp only [If]at A;obtain⟨B,hd⟩:=A;have B:=bU H B;split at hd
   ·rename_i e h_ i4;simp only [If]at hd;have k_:Q.underlying e=aa (.int .u8):=by
     have:=hd.1;unfold asf at this;split at this
     ·assumption
     ·simp at this
    simp only [bq,IT,OF]at h;obtain⟨v',F,rfl,rfl⟩:=h;obtain⟨u,O,N⟩:=acP hS B F;refine⟨rfl,u,?_,N⟩;simp only [execOp,E];refine en ?_;simp only [convert,Sem.run_bind,bc h_,bc i4,Result.andThen_ok];have:∃ ad l c,a.eval y=.slice ad l c:=by
     unfold oF at F;split at F
     ·rename_i z hz;rw [hz]at B;split at F
      ·rename_i l hl;obtain⟨ad,c,h⟩:=iQ B hl;exact⟨_,_,_,h⟩
      ·simp at F
     ·simp at F
    obtain⟨ad,l,c,h6⟩:=this;rw [h6]at O ⊢;simp only [Sem.run_bind,bc k_,Result.andThen_ok,O]
   ·simp at hd
  ·simp at A
end
section
variable{Q:Program}{σ:Nat→FuncId}{X:Wd}
theorem SR.lt(d:SR Q σ X){b:Nat}{L:Loc}(h:X.cB b=aa L):b<X.H.length:=by
 obtain⟨_,_,bp,g,_⟩:=d.br b L h;exact(BY.1 g).1
theorem SR.sO(b:SR Q σ X):X.cB X.H.length=ab:=by
 cases h:X.cB X.H.length with
 | none=>rfl| some L=>have:=SR.lt b h;omega
theorem Ext.one(A:SR Q σ X){X':Wd}(b0:Nat)(y:X'.B=X.B)(v:∀ c i,X'.F c i↔X.F c i)
  (x:∀ k,k<X.w.heap.size→(∀ L,X.cB b0=aa L→k≠L.c)→X'.w.heap[k]?=X.w.heap[k]?)
  (s:∀ L i,X.cB b0=aa L→X.F L.c i→X'.w.cell? ⟨L.c,i,ab⟩=X.w.cell? ⟨L.c,i,ab⟩) (j:b0<X.H.length→mz X X' b0)
  (z:∀ b,b≠b0→b<X.H.length→X'.H[b]?=X.H[b]?) (d:∀ b,b≠b0→X'.cB b=X.cB b)
  (u:∀ L,X'.cB b0=aa L→(∃ q,X.cB b0=aa q∧q.c=L.c)∨X.w.heap.size≤L.c) (I:X.w.heap.size≤X'.w.heap.size) (ho:X'.w.os=X.w.os) (J:X'.w.tape=X.w.tape)
  (hu:X'.w.output=X.w.output):Ext X.H.length X X' where
 B:=y
 F:=fun c i h=>(v c i).2 h
 qe:=fun c i h=>.inl ((v c i).1 h)
 fw:=fun c i h=>by
  by_cases hc:∃ L,X.cB b0=aa L∧c=L.c
  ·obtain⟨L,g,rfl⟩:=hc;exact s L i g h
  ·exact World.cell?_of_block (x c (A.fb c i h) fun L g e=>hc ⟨L,g,e⟩)
 cO:=fun b l=>by
  by_cases h:b=b0
  ·subst h;exact j l
  ·intro bp m;refine⟨bp,(z b h l).trans m,?_⟩;have:∀ L,X.cB b=aa L→X'.cB b=aa L:=fun L g=>(d b h).trans g;cases bp<;>simp_all
 yz:=fun b L l=>by
  by_cases h:b=b0
  ·subst h;rcases u L l with⟨q,h1,h2⟩ | h1
   ·exact .inl ⟨b,q,h1,h2⟩
   ·exact .inr h1
  ·rw [d b h]at l;exact .inl ⟨b,L,l,rfl⟩
 size:=I
 os:=ho
 tape:=J
 output:=hu
 frame:=fun k E H=>x k E fun L g e=>H b0 L g e.symm
theorem SR.grow(d:SR Q σ X)(bp:bw):SR Q σ { X with H:=X.H++[bp] }∧Ext X.H.length X { X with H:=X.H++[bp] }:=by
 have j:Ext X.H.length X { X with H:=X.H++[bp] }:=Ext.one d X.H.length rfl (fun _ _=>Iff.rfl) (fun _ _ _=>rfl) (fun _ _ _ _=>rfl) (fun h=>by omega)
  (fun b _ h=>by simp [AT h]) (fun _ _=>rfl) (fun L h=>by rw [SR.sO d]at h;simp at h) (aft _) rfl rfl rfl
 refine⟨⟨fun b L g=>?_,d.inj,d.fb⟩,j⟩;obtain⟨h1,h2,blk',h3,h4⟩:=d.br b L g;exact⟨h1,h2,blk',by rw [AT (SR.lt d g)];exact h3,BR.ext Q σ j rfl (fun _ h=>h) h4⟩
structure ed(w w':World)(o:Obj):Prop where
 heap:w'.heap=w.heap.push o
 os:w'.os=w.os
 tape:w'.tape=w.tape
 output:w'.output=w.output
theorem ed.alloc(w:World)(o:Obj):ed w (w.alloc o) o:=⟨rfl,rfl,rfl,rfl⟩
theorem ed.Db{w w':World}{o:Obj}(h:ed w w' o){k:Nat}(b:k<w.heap.size):w'.heap[k]?=w.heap[k]?:=by
 rw [h.heap,Array.getElem?_push,aY (by omega)]
theorem ed.new{w w':World}{o:Obj}(h:ed w w' o):w'.heap[w.heap.size]?=aa o:=by
 rw [h.heap];simp
theorem ed.size{w w':World}{o:Obj}(h:ed w w' o):w'.heap.size=w.heap.size+1:=by
 rw [h.heap];simp
theorem SR.fill(g:SR Q σ X)(x:X.B≤X.w.heap.size){n:Nat}{bp:bw}(y:X.H[n]?=aa bp)(hr:X.cB n=ab){w':World}{o:Obj}(d:ed X.w w' o)(cap:Nat)
  (m:Ext X.H.length X { X with cB:=fun b=>if b=n then aa ⟨X.w.heap.size,cap⟩else X.cB b,w:=w' }→BR Q σ { X with cB:=fun b=>if b=n then aa ⟨X.w.heap.size,cap⟩else X.cB b,w:=w' } bp ⟨X.w.heap.size,cap⟩) :
  SR Q σ { X with cB:=fun b=>if b=n then aa ⟨X.w.heap.size,cap⟩else X.cB b,w:=w' }∧Ext X.H.length X { X with cB:=fun b=>if b=n then aa ⟨X.w.heap.size,cap⟩else X.cB b,w:=w' }:=by
 have q:Ext X.H.length X { X with cB:=fun b=>if b=n then aa ⟨X.w.heap.size,cap⟩else X.cB b,w:=w' }:=
  Ext.one g n rfl (fun _ _=>Iff.rfl) (fun k h _=>d.Db h) (fun L i u _=>by rw [hr]at u;simp at u)
   (fun _ s l=>⟨s,l,by
    cases s<;>simp [hr]⟩)
   (fun _ _ _=>rfl) (fun b h=>by simp [h]) (fun L h=>by simp at h;subst h;exact .inr (aft _)) (by rw [d.size];omega) d.os d.tape d.output
 refine⟨SR.step Q σ g q n (fun _ _=>rfl) (fun b h=>by simp [h]) (fun b L _ j=>d.Db (g.br b L j).2.1) (fun _ _ _ _ _ h=>h) (fun L h=>?_) (fun c i h=>by rw [d.size];have:=g.fb c i h;omega),q⟩;simp at h;subst h;refine⟨x,by simp [d.size],⟨bp,y,m q⟩,fun b v _ j=>?_⟩;have:=(g.br b v j).2.1;simp;omega
theorem SR.new(d:SR Q σ X)(j:X.B≤X.w.heap.size)(bp:bw){w':World}{o:Obj}(g:ed X.w w' o)(cap:Nat)
  (b:∀ X',Ext X.H.length X X'→X'.w=w'→X'.F=X.F→X'.H=X.H++[bp]→BR Q σ X' bp ⟨X.w.heap.size,cap⟩) :
  ∃ X',X'.w=w'∧X'.H=X.H++[bp]∧SR Q σ X'∧Ext X.H.length X X'∧X'.cB X.H.length=aa ⟨X.w.heap.size,cap⟩∧X'.B≤X'.w.heap.size:=by
 obtain⟨h1,h2⟩:=SR.grow d bp;have l:(X.H++[bp])[X.H.length]?=aa bp:=by simp
 obtain⟨h3,h4⟩:=SR.fill h1 j l (SR.sO d) g cap (fun m=>b _ (h2.trans (m.mono (by simp))) rfl rfl rfl);exact⟨_,rfl,rfl,h3,h2.trans (h4.mono (by simp)),by simp,by simp [g.size];omega⟩
theorem SR.turn(m:SR Q σ X){b:Nat}{bp blk':bw}{L:Loc}(A:X.H[b]?=aa bp)(l:X.cB b=aa L){w':World}(x:w'.heap.size=X.w.heap.size)
  (y:∀ k,k≠L.c→w'.heap[k]?=X.w.heap[k]?) (z:∀ i,X.F L.c i→w'.cell? ⟨L.c,i,ab⟩=X.w.cell? ⟨L.c,i,ab⟩) (ho:w'.os=X.w.os) (B:w'.tape=X.w.tape) (hu:w'.output=X.w.output)
  (j:mz X { X with H:=X.H.set b blk',w:=w' } b)
  (s:Ext X.H.length X { X with H:=X.H.set b blk',w:=w' }→BR Q σ { X with H:=X.H.set b blk',w:=w' } blk' L) :
  SR Q σ { X with H:=X.H.set b blk',w:=w' }∧Ext X.H.length X { X with H:=X.H.set b blk',w:=w' }:=by
 have u:b<X.H.length:=(BY.1 A).1;have v:Ext X.H.length X { X with H:=X.H.set b blk',w:=w' }:=
  Ext.one m b rfl (fun _ _=>Iff.rfl) (fun k _ h=>y k (h L l)) (fun d i h=>by rw [l]at h;cases h;exact z i) (fun _=>j)
   (fun q h _=>by simp [AI (Ne.symm h)]) (fun _ _=>rfl) (fun d h=>.inl ⟨d,h,rfl⟩) (Nat.le_of_eq x.symm) ho B hu
 refine⟨SR.step Q σ m v b (fun q h=>by simp [AI (Ne.symm h)]) (fun _ _=>rfl) (fun q d h g=>y _ fun e=>h (m.inj q b d L g l e)) (fun _ _ _ _ _ h=>h)
  (fun d h=>?_) (fun c i h=>by rw [x];exact m.fb c i h),v⟩
 change X.cB b=aa d at h;rw [l]at h;cases h;obtain⟨h1,h2,_⟩:=m.br b L l;exact⟨h1,by show L.c<w'.heap.size;omega,⟨blk',by simp [u],s v⟩,fun q d h g e=>h (m.inj q b d L g l e)⟩
theorem eh{w:World}{c:Nat}{us:List Value}(h:rowAt w c us):∀(b:List Value) (off:Nat),off+b.length≤us.length →
  (w.setCells c off b).heap.size=w.heap.size∧(∀ k,k≠c→(w.setCells c off b).heap[k]?=w.heap[k]?)∧(w.setCells c off b).os=w.os∧(w.setCells c off b).tape=w.tape ∧
  (w.setCells c off b).output=w.output∧rowAt (w.setCells c off b) c (over us off b)
 | [],off,_=>⟨rfl,fun _ _=>rfl,rfl,rfl,rfl,by simpa [World.setCells,over]using h⟩
 | v::b,off,j=>by
  simp only [avB]at j;have d:rowAt (w.setCell ⟨c,off,ab⟩ v) c (us.set off v):=by
   obtain⟨e,m,d,g⟩:=h;refine⟨e,m,?_,by simpa using g⟩;simp [World.setCell,Array.getElem?_modify,d]
  obtain⟨g,q,s,u,x,y⟩:=eh d b (off+1) (by simp;omega);simp only [World.setCells];refine⟨by rw [g];simp,fun k l=>(q k l).trans ?_,s,u,x,?_⟩
  ·simp only [World.setCell,Array.getElem?_modify];rw [aY (by simpa using Ne.symm l)]
  ·have:over (us.set off v) (off+1) b=over us off (v::b):=by
    unfold over;simp only [avB];rw [List.take_set,List.drop_set_of_lt (by omega),show off+1+b.length=off+(b.length+1) by omega];rw [List.take_succ_eq_append_getElem (by omega)];have j:(List.take off us).length=off:=by simp;omega
    have e:(List.take off us++[us[off]]).set off v=List.take off us++[v]:=by
     rw [List.set_append,aY (by omega),j];simp
    rw [e];simp
   rw [←this];exact y
theorem sS{w:World}{c:Nat}{us:List Value}(h:rowAt w c us)(b:List Value)(off:Nat)(l:off+b.length≤us.length)(d:∀ v ∈ b,v.oneCell'=ae) :
  (storeCells ⟨c,off,ab⟩ b).run Q w=.ok () (w.setCells c off b):=by
 have:=run_storeCells_cells (P:=Q) c off b 0 w (fun j g=>by rw [dy h];simp;omega) (fun j g=>DS h (by omega)) d;simpa using this
theorem Cc{α:Type}(us:List α)(off:Nat)(b:List α)(h:off+b.length≤us.length)(i:Nat)(hi:i<off):(over us off b)[i]?=us[i]?:=by
 unfold over;rw [AT (by simp;omega),AT (by simp;omega),avI];simp [hi]
end
section
variable{Q:Program}{σ:Nat→FuncId}{X:Wd}
def il(Q:Program)(σ:Nat→FuncId)(X:Wd)(v:V)(H':aj)(s:Sem Next):Prop:=
 ∃ u X',(s.run Q X.w=.ok (.value u) X'.w∨(s.run Q X.w=.ok .skip X'.w∧u=undef))∧X'.H=H'∧SR Q σ X'∧VR σ X' v u∧Ext X.H.length X X'∧X'.B≤X'.w.heap.size
theorem il.ast(b:X.B≤X.w.heap.size)(d:SR Q σ X){v:V}{H':aj}{s:Sem Next}(h:H'=X.H∧∃ u,s.run Q X.w=.ok (.value u) X.w∧VR σ X v u):il Q σ X v H' s:=by
 obtain⟨rfl,u,h1,h2⟩:=h;exact⟨u,X,.inl h1,rfl,d,h2,Ext.refl _ _,b⟩
theorem jH{w w':World}{us:List Value}{e:TypeId}(h:ed w w' (.cells us.toArray e)):rowAt w' w.heap.size us:=⟨e,(0,0),h.new,fun i _=>by simp⟩
theorem Ei(b:SR Q σ X)(g:X.B≤X.w.heap.size){cs:List C}{us:List Value}(h:A2 (CR σ X) cs us)(e:TypeId) :
  ∃ X',X'.w=X.w.alloc (.cells us.toArray e)∧X'.H=X.H++[.box cs 0]∧SR Q σ X'∧Ext X.H.length X X'∧X'.cB X.H.length=aa ⟨X.w.heap.size,0⟩∧X'.B≤X'.w.heap.size:=
 SR.new b g (.box cs 0) (ed.alloc _ _) 0 fun X' m l j _=>⟨us,by rw [l];exact jH (ed.alloc _ _),A2.ext' σ m h,fun i _ d=>by
  rw [j]at d;have:=b.fb _ _ d;simp at this⟩
theorem vD(u:SR Q σ X)(q:X.B≤X.w.heap.size){cs:List C}{us:List Value}(h:A2 (CR σ X) cs us)(e:TypeId){s:Sem Next}
  (v:s.run Q X.w=.ok (.value (.pointer (aa ⟨X.w.heap.size,0,ab⟩))) (X.w.alloc (.cells us.toArray e))):il Q σ X (.c (.ptr X.H.length 0 0)) (X.H++[.box cs 0]) s:=by
 obtain⟨X',d,b,g,j,l,m⟩:=Ei u q h e;refine⟨_,X',.inl (by rw [d];exact v),b,g,?_,j,m⟩;exact⟨_,l,by rw [b];simp⟩
theorem acr(m:SR Q σ X)(l:X.B≤X.w.heap.size){a:Act}{o:Oper}{zs:List FC}(b:dU Q σ o (.alloc zs)=ae) :
  il Q σ X (.c (.ptr X.H.length 0 0)) (X.H++[.box (zs.map .f) 0]) (execOp a.eval o):=by
 simp only [dU]at b;split at b
 ·rename_i t q;obtain⟨z,us,d,g,j,_⟩:=eT (σ:=σ) (X:=X) b X.w;refine vD m l j t ?_;simp only [execOp,q];refine en ?_;simp [Instr.alloc,d,newVar,newRow,g]
 ·simp at b
theorem aoE(m:SR Q σ X)(j:X.B≤X.w.heap.size){a:Act}{aD:T}(l:RR σ X aD a.tmps){o:Oper}{x:Arg}(b:dU Q σ o (.box x)=ae){xs:List C}(s:(x.ev aD).cells?=aa xs) :
  il Q σ X (.c (.ptr X.H.length 0 0)) (X.H++[.box xs 0]) (execOp a.eval o):=by
 simp only [dU]at b;split at b
 ·rename_i t y q;obtain⟨us,d,g⟩:=qp (bU l b) s;refine vD m j g t ?_;simp only [execOp,q];refine en ?_;simp [Instr.box,newVar,newRow,d]
 ·simp at b
theorem jW{zs:List FC}{us:List Value}(h:A2 (CR σ X) (zs.map .f) us)(n:Nat):A2 (CR σ X) ((cF n zs).map .f) (cF n us):=by
 induction n with
 | zero=>exact A2.nil
 | succ n b=>
  simp only [cF,List.replicate_succ,List.flatten_cons,List.map_append]at b ⊢;exact h.append b
theorem lD{α:Type}(n:Nat)(xs:List α):(cF n xs).length=n*xs.length:=by simp [cF]
theorem Cw{α:Type}(us:List α):∀(n i:Nat),i<n*us.length→(cF n us)[i]?=us[i % us.length]?
 | 0,i,h=>by simp at h
 | n+1,i,h=>by
  have b:cF (n+1) us=us++cF n us:=by simp [cF,List.replicate_succ]
  rw [b];by_cases hi:i<us.length
  ·rw [AT hi,Nat.mod_eq_of_lt hi]
  ·have d:(n+1)*us.length=n*us.length+us.length:=by rw [avM];omega
   rw [IS (by omega),Cw us n (i-us.length) (by omega)];rw [←Nat.mod_eq_sub_mod (by omega)]
theorem iS(us:List Value)(n:Nat)(q:0<us.length):((Array.range (n*us.length)).map fun i=>us.toArray[i % us.toArray.size]!)=(cF n us).toArray:=by
 apply Array.ext
 ·simp [lD]
 ·intro i g j;have l:i<n*us.length:=by simpa using g
  have b:=Cw us n i l;have d:i % us.length<us.length:=Nat.mod_lt _ q;have m:i<(cF n us).length:=by simpa using j
  rw [By m,By d,At]at b;simp [b,d]
theorem PU(d:SR Q σ X)(hB:X.B≤X.w.heap.size){a:Act}{aD:T}(hR:RR σ X aD a.tmps){o:Oper}{sz n:Nat}{zs:List FC}{ps:List (Nat × Arg)}
  (m:dU Q σ o (.bK sz zs n ps)=ae) {v:V} {H':aj} (h:bq aD X.H (.bK sz zs n ps)=aa (v,H')):il Q σ X v H' (execOp a.eval o):=by
 simp only [dU]at m;split at m
 ·rename_i t l qs Y;simp only [If,beq_iff_eq,decide_eq_true_eq]at m;obtain⟨⟨⟨⟨rfl,U⟩,B⟩,f⟩,Z⟩:=m;obtain⟨e,r,B⟩:=iE B;simp only [If,decide_eq_true_eq]at B;obtain⟨⟨u,hz⟩,a8⟩:=B;obtain⟨z,us,N,O,x,_⟩:=eT (σ:=σ) (X:=X) hz X.w;have M:us.length=sz:=by have:=x.len;simp at this;omega
  simp only [bq]at h;split at h
  ·
   rename_i W;subst W;split at h
   ·rename_i s;simp only [At,OF]at h;obtain⟨rfl,rfl⟩:=h;have j:qs.toList=[]:=by
     have:=(eI Z).len;simp only [List.isEmpty_iff]at s;rw [s]at this;exact avm this.symm
    have j:qs=#[]:=by apply Array.ext';simpa using j
    obtain⟨X',E,A,F,H,S,I⟩:∃ X':Wd,X'.w=X.w.alloc (.cells #[] e)∧X'.H=X.H∧SR Q σ X'∧Ext X.H.length X X'∧True∧X'.B≤X'.w.heap.size:=by
     have hx:Ext X.H.length X { X with w:=X.w.alloc (.cells #[] e) }:=Ext.one d X.H.length rfl (fun _ _=>Iff.rfl) (fun k hk _=>(ed.alloc _ _).Db hk)
      (fun L i h=>by rw [SR.sO d]at h;simp at h) (fun h=>by omega) (fun _ _ _=>rfl) (fun _ _=>rfl) (fun L h=>by rw [SR.sO d]at h;simp at h) (by simp) rfl rfl rfl
     refine⟨{ X with w:=X.w.alloc (.cells #[] e) },rfl,rfl,SR.step Q σ d hx X.H.length (fun _ _=>rfl) (fun _ _=>rfl) (fun b L _ hb=>(ed.alloc _ _).Db (d.br b L hb).2.1)
      (fun _ _ _ _ _ h=>h) (fun L h=>by rw [SR.sO d]at h;simp at h) (fun c i h=>?_),hx,trivial,?_⟩
     ·have:=d.fb c i h;simp;omega
     ·simp;omega
    refine⟨.slice (aa ⟨X.w.heap.size,0,ab⟩) 0 0,X',.inl ?_,A,F,cS.es _,H,I⟩;rw [E];simp only [execOp,Y];refine en ?_;simp [Instr.buildSlice,bc r,di u,j,Instr.fill,newRow,show Array.range 0=(#[]:Array Nat) from rfl]
   ·simp at h
  ·rename_i W;simp only [IT,OF]at h;obtain⟨cs,J,rfl,rfl⟩:=h;obtain⟨a_,S,I⟩:=nR (place:=fun i=>aa (i*sz,sz)) (ps:=qs.toList) hR (qs:=ps.map fun p=>(p.1*sz,sz,p.2)) (A2.map ((eI Z).lJ fun q p g=>by
    simp only [If,beq_iff_eq]at g;exact⟨by rw [g.1],g.2⟩)) (jW x l) J
   obtain⟨X',E,A,F,H,h7,h8⟩:=Ei d hB I e;refine⟨.slice (aa ⟨X.w.heap.size,0,ab⟩) l l,X',.inl ?_,A,F,?_,H,h8⟩
   ·rw [E];simp only [execOp,Y];refine en ?_;have K:l*sz≠0:=by
     intro h0;rcases aw5.1 h0 with h0 | h0<;>omega
    have y:=iS us l (by omega);rw [M]at y;simp only [Instr.buildSlice,Sem.run_bind,bc r,di u,Result.andThen_ok,aY (show¬ l*sz>2 ^ 24 by omega),Sem.run_ite,aY K,N,Sem.run_pure,O];simp only [Array.toList_map];rw [y];simp [S,newRow]
   ·simp only [VR,ic,CR,fq,A];simp;exact⟨_,h7,rfl⟩
 ·simp at m
theorem FJ:∀ {cs:List C} {b:List FC},fcL cs=aa b→cs=b.map .f
 | [],b,h=>by simp [fcL]at h;subst h;rfl
 | c::cs,b,h=>by
  cases c with
  | f x=>
   simp only [fcL,IT]at h;obtain⟨g,d,rfl⟩:=h;rw [FJ d];rfl
  | _=>simp [fcL]at h
theorem yk(y:SR Q σ X)(hB:X.B≤X.w.heap.size){a:Act}{aD:T}(hR:RR σ X aD a.tmps){o:Oper}{sz n:Nat}{zs:List FC}{ps:List (Nat × Arg)}
  (K:dU Q σ o (.fP sz zs n ps)=ae) {v:V} {H H':aj} (h:bq aD H (.fP sz zs n ps)=aa (v,H')) :
  H'=H∧∃ u X',(execOp a.eval o).run Q X.w=.ok (.value u) X'.w∧X'.H=X.H∧SR Q σ X'∧VR σ X' v u∧Ext X.H.length X X'∧X'.B≤X'.w.heap.size∧X'.cB=X.cB:=by
 simp only [dU]at K;split at K
 ·rename_i t j qs ho;simp only [If,beq_iff_eq,decide_eq_true_eq]at K;obtain⟨⟨⟨⟨rfl,b9⟩,U⟩,b_⟩,hq⟩:=K;obtain⟨e,M,U⟩:=iE U;simp only [If,decide_eq_true_eq]at U;obtain⟨⟨Z,hz⟩,c_⟩:=U;obtain⟨z,us,a8,a_,O,_⟩:=eT (σ:=σ) (X:=X) hz X.w;have f:us.length=sz:=by have:=O.len;simp at this;omega
  simp only [bq,IT,avy,OF]at h;obtain⟨fs,⟨cs,W,l⟩,rfl,rfl⟩:=h;split at l
  ·simp at l
  rename_i hn;have E:=FJ l;obtain⟨d,h5,h6⟩:=nR (place:=fun i=>aa (i*sz,sz)) (ps:=qs.toList) hR (qs:=ps.map fun p=>(p.1*sz,sz,p.2)) (A2.map ((eI hq).lJ fun q p m=>by
   simp only [If,beq_iff_eq]at m;exact⟨by rw [m.1],m.2⟩)) (jW O j) W
  have g:ed X.w (X.w.alloc (.cells d.toArray e)) (.cells d.toArray e):=ed.alloc _ _;obtain⟨w',s⟩:=aJ (X.w.alloc (.cells d.toArray e));rw [←s]at g;have I:∀ c i,X.F c i→w'.cell? ⟨c,i,ab⟩=X.w.cell? ⟨c,i,ab⟩:=fun c i h=>World.cell?_of_block (g.Db (y.fb c i h));have hx:Ext X.H.length X { X with w:=w',F:=fun c i=>X.F c i∨(c=X.w.heap.size∧i<d.length) }:={
   B:=rfl
   F:=fun c i h=>.inl h
   qe:=fun c i h=>h.elim .inl fun h=>.inr (.inl (by rw [h.1];exact aft _))
   fw:=I
   cO:=fun b _ bp A=>⟨bp,A,by cases bp<;>simp⟩
   yz:=fun b L h=>.inl ⟨b,L,h,rfl⟩
   size:=by show _≤w'.heap.size;rw [g.size];omega
   os:=g.os
   tape:=g.tape
   output:=g.output
   frame:=fun k hk _=>g.Db hk }
  refine⟨rfl,.slice (aa ⟨X.w.heap.size,0,ab⟩) j j,{ X with w:=w',F:=fun c i=>X.F c i∨(c=X.w.heap.size∧i<d.length) },?_,rfl,?_,?_,hx,?_,rfl⟩
  ·simp only [execOp,ho];refine en ?_;have Y:j*sz≠0:=by
    intro h0;rcases aw5.1 h0 with h0 | h0<;>omega
   have S:=iS us j (by omega);rw [f]at S;simp only [Instr.buildSlice,Sem.run_bind,bc M,di Z,Result.andThen_ok,aY (show¬ j*sz>2 ^ 24 by omega),Sem.run_ite,aY Y,a8,Sem.run_pure,a_];simp only [Array.toList_map];rw [S];simp [h5,newRow,s]
  ·exact SR.step Q σ y hx X.H.length (fun _ _=>rfl) (fun _ _=>rfl) (fun b L _ A=>g.Db (y.br b L A).2.1)
    (fun b L _ A i h=>h.elim id fun h=>by have:=(y.br b L A).2.1;omega) (fun L h=>by change X.cB X.H.length=aa L at h;rw [SR.sO y]at h;simp at h)
    (fun c i h=>by
     show c<w'.heap.size;rw [g.size];rcases h with h | h
     ·have:=y.fb c i h;omega
     ·omega)
  ·have J:d.length=fs.length:=by have:=h6.len;rw [E]at this;simp at this;omega
   refine cS.fs fs j X.w.heap.size 0 j d (aft _) J (fun i hi=>.inr ⟨rfl,by omega⟩) (fun i u M=>?_) fun i x u r M=>?_
   ·show w'.cell? _=_;rw [dy (show rowAt w' X.w.heap.size d by rw [s];exact jH (ed.alloc _ _)),Nat.zero_add];exact M
   ·obtain⟨u',N,hr⟩:=h6.get (i:=i) (x:=.f x) (by rw [E,avR,r];rfl);rw [M]at N;cases N;exact cS.mono (fun c i h=>.inl h) I hr
  ·show X.B≤w'.heap.size;rw [g.size];omega
 ·simp at K
end
section
variable{Q:Program}{σ:Nat→FuncId}{X:Wd}
theorem Cb{α:Type}(us rest:List α)(off:Nat)(b:List α)(h:off+b.length≤us.length):over (us++rest) off b=over us off b++rest:=by
 unfold over;rw [List.take_append_of_le_length (by omega),List.drop_append_of_le_length (by omega)];simp
theorem A2.one{cs:List C}{us:List Value}(h:A2 (CR σ X) cs us):∀ v ∈ us,v.oneCell'=ae:=by
 intro v d;obtain⟨i,hi⟩:=av2 d;have b:i<cs.length:=by rw [h.len];exact(BY.1 hi).1
 exact CR.one σ (h.2 i _ v (By b) hi)
theorem C7(z:SR Q σ X){b:Nat}{cs:List C}{fl:Nat}{L:Loc}(m:X.H[b]?=aa (.box cs fl))(y:X.cB b=aa L){xs:List C}{j:List Value}(u:A2 (CR σ X) xs j){off:Nat}
  (I:fl≤off) (U:off+xs.length≤cs.length):∃ X',(storeCells ⟨L.c,off,ab⟩ j).run Q X.w=.ok () X'.w∧X'.H=X.H.set b (.box (over cs off xs) fl)∧SR Q σ X'∧Ext X.H.length X X' ∧
   (∀ b,X'.cB b=X.cB b)∧X'.w.heap.size=X.w.heap.size∧X'.B=X.B:=by
 obtain⟨_,_,bp,g,q⟩:=z.br b L y;rw [m]at g;simp only [At]at g;subst g;obtain⟨us,s,v,x⟩:=q;have K:=u.len;have J:=v.len;obtain⟨A,M,N,O,S,B⟩:=eh s j off (by omega);obtain⟨E,F⟩:=SR.turn z (blk':=.box (over cs off xs) fl) m y A M (fun i H=>by
   rw [dy B,dy s];have:i<off:=by
    rcases avT i off with h | h
    ·exact h
    ·exact absurd H (x i (by omega))
   exact Cc us off j (by omega) i this) N O S
  (fun bp d=>⟨.box (over cs off xs) fl,by simp [(BY.1 m).1],by rw [m]at d;simp only [At]at d;subst d;exact fun L h=>h⟩)
  (fun l=>⟨over us off j,B,A2.over (A2.ext' σ l v) (A2.ext' σ l u) off,x⟩)
 exact⟨_,sS s j off (by omega) (A2.one u),rfl,E,F,fun _=>rfl,A,rfl⟩
theorem C8(A:SR Q σ X){b:Nat}{sz:Nat}{cs:List C}{fl ep:Nat}{L:Loc}(m:X.H[b]?=aa (.cf sz cs fl ep .loc))(z:X.cB b=aa L){xs:List C}{j:List Value}(u:A2 (CR σ X) xs j){off:Nat}
  (M:fl≤off) (N:off+xs.length≤cs.length):∃ X',(storeCells ⟨L.c,off,ab⟩ j).run Q X.w=.ok () X'.w∧X'.H=X.H.set b (.cf sz (over cs off xs) fl ep .loc)∧SR Q σ X'∧Ext X.H.length X X' ∧
   (∀ b,X'.cB b=X.cB b)∧X'.w.heap.size=X.w.heap.size∧X'.B=X.B:=by
 obtain⟨_,_,bp,g,q⟩:=A.br b L z;rw [m]at g;simp only [At]at g;subst g;obtain⟨S,us,rest,s,x,H,I,J,y⟩:=q;have W:=u.len;have U:=x.len;obtain⟨B,Y,Z,a,c,v⟩:=eh s j off (by simp;omega);rw [Cb _ _ _ _ (by omega)]at v;have O:=Cd us off j (by omega);obtain⟨E,F⟩:=SR.turn A (blk':=.cf sz (over cs off xs) fl ep .loc) m z B Y (fun i K=>by
   rw [dy v,dy s];have:i<off:=by
    rcases avT i off with h | h
    ·exact h
    ·exact absurd K (y i (by omega))
   rw [AT (by omega),AT (by omega)];exact Cc us off j (by omega) i this) Z a c
  (fun bp d=>⟨.cf sz (over cs off xs) fl ep .loc,by simp [(BY.1 m).1],by rw [m]at d;simp only [At]at d;subst d;exact⟨rfl,.inl ⟨rfl,rfl,fun L h=>h⟩⟩⟩)
  (fun l=>⟨rfl,over us off j,rest,v,A2.over (A2.ext' σ l x) (A2.ext' σ l u) off,by simp only [api]at H ⊢;omega,I,by rw [Cd cs off xs N];exact J,y⟩)
 exact⟨_,sS s j off (by simp;omega) (A2.one u),rfl,E,F,fun _=>rfl,B,rfl⟩
theorem aeN(B:SR Q σ X){x:C}{u:Value}(d:CR σ X x u){xs:List C}{E:List Value}(l:A2 (CR σ X) xs E){H':aj}(h:cX X.H x xs=aa H') :
  ∃ c off X',u=.pointer (aa ⟨c,off,ab⟩)∧(storeCells ⟨c,off,ab⟩ E).run Q X.w=.ok () X'.w∧X'.H=H'∧SR Q σ X'∧Ext X.H.length X X'∧X'.w.heap.size=X.w.heap.size∧X'.B=X.B:=by
 unfold cX at h;split at h
 ·rename_i b off ep;obtain⟨L,A,d⟩:=d;split at h
  ·rename_i cs fl j;rw [j]at d;simp only at d;subst d;split at h
   ·rename_i g;simp only [At]at h;subst h;obtain⟨X',m,q,s,v,_,y,z⟩:=C7 B j A l g.1 g.2;exact⟨_,_,X',rfl,m,q,s,v,y,z⟩
   ·simp at h
  ·rename_i sz cs fl e j;rw [j]at d;split at h
   ·rename_i g;have d:=d.2.1 g.1;subst d;simp only [At]at h;subst h;obtain⟨X',m,q,s,v,_,y,z⟩:=C8 B j A l g.2.1 g.2.2;exact⟨_,_,X',rfl,m,q,s,v,y,z⟩
   ·simp at h
  ·simp at h
 ·simp at h
theorem aeU(E:SR Q σ X)(W:X.B≤X.w.heap.size){a:Act}{aD:T}(q:RR σ X aD a.tmps){o:Oper}{n:Nat}{x y:Arg}(b:dU Q σ o (.store n x y)=ae){v:V}{H':aj}
  (h:bq aD X.H (.store n x y)=aa (v,H')):il Q σ X v H' (execOp a.eval o):=by
 simp only [dU]at b;split at b
 ·rename_i t M N H;simp only [If]at b;obtain⟨⟨F,g⟩,m⟩:=b;have g:=bU q g;have m:=bU q m;simp only [bq]at h;split at h
  ·rename_i p xs I l;rw [I]at g;split at h
   ·rename_i s;simp only [IT,OF]at h;obtain⟨O,j,rfl,rfl⟩:=h;obtain⟨Y,K,d⟩:=qp m l;obtain⟨c,off,X',J,u,z,A,B,S,U⟩:=aeN E g d j;refine⟨undef,X',.inr ⟨?_,rfl⟩,z,A,trivial,B,by omega⟩;have L:=d.len;simp only [execOp,H,Sem.run_bind];have:(Instr.storeAt t (a.eval M) (a.eval N)).run Q X.w=.ok () X'.w:=by
     rw [J];simp [Instr.storeAt,Instr.sureAddr,storeVar,di F,K];rw [bf (by omega)];exact u
    simp [this]
   ·simp at h
  ·simp at h
 ·simp at b
end
end Km
