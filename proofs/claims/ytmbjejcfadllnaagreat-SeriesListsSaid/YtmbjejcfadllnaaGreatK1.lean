/-
  Our own small machine for Go code by value, held tq the model: part 1. No program in IW.
-/
import GoSem.Step
import GoSem.Dispatch
import GoSem.Machine.Exec
import Derived.Calls
import Derived.Laws.World
import Derived.Laws.Cells
import Derived.Laws.IdiomCopy
import Derived.Below
import Derived.Laws.Slices
import Derived.Laws.Strings
import Derived.Laws.StructEq
import Derived.Laws.BytesString
import Derived.Laws.Tables
import Derived.Laws.AppendOwn
open Option.some renaming injEq → sh
open Bool renaming false_eq_true → atN, and_eq_true → If
open List renaming getElem?_eq_some_iff → BY, getElem?_eq_getElem → AI, getElem?_append_left → AT, getElem?_append_right → avM, getElem?_take → av6, getElem?_drop → avU, getElem?_map → awx, all_eq_true → avP, getElem?_of_mem → awq, extract_eq_take_drop → awM, take_of_length_le → avS, foldl_cons → awF, length_cons → awa, take_succ_eq_append_getElem → avN, eq_nil_of_length_eq_zero → api, getElem?_set_ne → By
open Nat renaming le_refl → aft, le_trans → avV, lt_of_lt_of_le → awr, add_mul → awl, mul_eq_zero → axa, lt_or_ge → awj
open Option renaming bind_eq_some_iff → av0, map_eq_some_iff → IN, bind_eq_bind → axi, bind_some → av3, map_some → awg
open Prod.mk renaming injEq → IS
set_option linter.unusedVariables false
set_option linter.unusedSimpArgs false
set_option linter.unusedSectionVars false
set_option maxRecDepth 100000
namespace Km
open Go
section
inductive FC where
 | bool (b:Bool)
 | int (k:IntKind) (n:Int)
 | str (s:ByteArray)
 | fU | ay | es | jk | lZ | wF
 | fp (cs:List FC) (off:Nat)
 | fs (cs:List FC) (len:Nat)
 | fn (f:Nat) (NI:List FC)
 deriving Inhabited
inductive C where
 | f (x:FC)
 | ptr (b off ep:Nat)
 | sl (b off len cap ep sz:Nat)
 | cl (f:Nat) (NI:List C)
 | yl (b:Nat)
 | mp (b:Nat)
 | it (b:Nat)
 | bm (f:Nat) (first:List C)
 | mi (b:Nat)
 deriving Inhabited
inductive V where
 | top
 | c (x:C)
 | a (xs:List C)
 | t (xs:List V)
 deriving Inhabited
def NA:Nat:=1000000007
def mV:C→V
 | .cl f cs=>if f=NA then .a cs else .c (.cl f cs)
 | x=>.c x
def sH:V→Option C
 | .c (.cl f cs)=>if f=NA then none else some (.cl f cs)
 | .c x=>some x
 | .a cs=>some (.cl NA cs)
 | _=>none
def zV:FC→V
 | .fn f zs=>if f=NA then .a (zs.map .f)else .c (.f (.fn f zs))
 | z=>.c (.f z)
def sA:FC→List FC
 | .fn f zs=>if f=NA then zs else [.fn f zs]
 | z=>[z]
def G_:FC→Bool
 | .fn f _=>decide (f=NA)
 | _=>false
theorem aaZ{v:V}{c:C}(h:sH v=some c):mV c=v:=by
 cases v with
 | c x=>
  cases x<;>simp only [sH,sh]at h
  case cl f cs=>
   split at h
   ·cases h
   ·rename_i b;simp only [sh]at h;subst h;simp only [mV,if_neg b]
  all_goals (subst h;rfl)
 | a cs=>simp only [sH,sh]at h;subst h;simp [mV]
 | _=>simp [sH]at h
theorem amH{z:FC}(h:G_ z=true):zV z=.a ((sA z).map .f):=by
 cases z<;>simp only [G_,decide_eq_true_eq,reduceCtorEq,atN]at h;simp only [zV,sA,if_pos h]
theorem amI{z:FC}(h:G_ z=false):zV z=.c (.f z)∧sA z=[z]:=by
 cases z<;>simp only [G_,decide_eq_false_iff_not]at h
 case fn f zs=>simp only [zV,sA,if_neg h,and_self]
 all_goals exact⟨rfl,rfl⟩
inductive Os where | loc | nil | es
 deriving DecidableEq,Inhabited
inductive P where
 | h
 | o (p:P)
 | i (p:P)
 deriving DecidableEq,Inhabited
def P.toNat:P→Nat
 | .h=>0
 | .o p=>2*p.toNat+1
 | .i p=>2*p.toNat+2
inductive T where
 | e
 | n (l:T) (v:V) (r:T)
 deriving Inhabited
def T.get:T→P→V
 | .e,_=>.top
 | .n _ v _,.h=>v
 | .n l _ _,.o p=>l.get p
 | .n _ _ r,.i p=>r.get p
def T.set:T→P→V→T
 | .e,.h,w=>.n .e w .e
 | .e,.o p,w=>.n (T.set .e p w) .top .e
 | .e,.i p,w=>.n .e .top (T.set .e p w)
 | .n l _ r,.h,w=>.n l w r
 | .n l v r,.o p,w=>.n (l.set p w) v r
 | .n l v r,.i p,w=>.n l v (r.set p w)
inductive Arg where
 | r (n:P)
 | k (v:V)
 deriving Inhabited
inductive CK where | bool | int | str
 deriving DecidableEq,Inhabited
inductive Nr where
 | bool | ptr | sl | fn | ifc
 | st (ks:List CK)
 deriving Inhabited
inductive cK where
 | bf (x:Arg)
 | pre (o:Os) (sz:Nat)
 | pick (c a b:Arg)
 | alloc (zs:List FC)
 | box (x:Arg)
 | build (zs:List FC) (parts:List (Nat × Nat × Arg))
 | aO (sz:Nat) (zs:List FC) (len:Nat) (parts:List (Nat × Arg))
 | load (n:Option Nat) (x:Arg)
 | store (n:Nat) (x y:Arg)
 | bh (x:Arg)
 | bin (op:BinOp) (x y:Arg)
 | eq (neg:Bool) (k:Nr) (x y:Arg)
 | un (op:UnOp) (x:Arg)
 | ek (k:IntKind) (x:Arg)
 | zQ (x:Arg)
 | wq (x:Arg)
 | FU (x:Arg)
 | kh (f:Nat) (NI:List Arg)
 | jz
 | lookup (ck:CK) (zero:FC) (m k:Arg)
 | jw (ck:CK) (m k v:Arg)
 | cP (sz bytes:Nat) (zs:List FC) (l c:Arg)
 | slice (sz:Nat) (x:Arg) (lo hi mx:Option Arg)
 | ku (n sz:Nat) (x:Arg) (lo hi mx:Option Arg)
 | qG (x:Arg) (lo hi:Option Arg)
 | aw (off:Nat) (x:Arg)
 | field (off:Nat) (n:Option Nat) (x:Arg)
 | aP (sz:Nat) (arr:Option Nat) (x i:Arg)
 | idxs (x i:Arg)
 | pK (len sz:Nat) (n:Option Nat) (x i:Arg)
 | range (x:Arg)
 | next (x:Arg)
 | extract (x:Arg) (i:Nat)
 | call (f:Nat) (args:List Arg) (h:Bool)
 | bR (x:Arg) (args:List Arg) (h:Bool)
 | len (x:Arg)
 | uS (n:Nat)
 | lens (x:Arg)
 | cap (x:Arg)
 | append (sz bytes:Nat) (x y:Arg)
 | copy (sz:Nat) (x y:Arg)
 | mP (lo:Bool) (xs:List Arg)
 | sZ (sz bytes:Nat) (zs:List FC) (x n:Arg)
 | clear (sz:Nat) (zs:List FC) (x:Arg)
 | lu (x:Arg)
 | pU (x:Arg)
 | entry (x:Arg)
 | wv (f:Nat) (xs:List Arg)
 | wN (sz:Nat) (x hi mx:Arg)
 | gv (sz:Nat) (zs:List FC) (len:Nat) (parts:List (Nat × Arg))
 | recover
 | defer (x:Arg) (args:List Arg)
 | bad
 deriving Inhabited
def cK.fsl:cK→Bool
 | .gv ..=>true
 | _=>false
structure aH where
 dst:Option P
 op:cK
 g:Option (P × Bool):=none
 deriving Inhabited
inductive aq where
 | skip
 | region (ops:List aH) (gL:List (Nat × Nat))
 | seq (a b:aq)
 | cond (c:Arg) (a b:aq)
 | block (id:Nat) (a:aq)
 | loop (a:aq)
 | jQ (f:Arg) (ps:List P) (assign body:aq)
 | exit (id:Nat)
 | ret
 | bad
 | scope (a:aq)
 | label (l:Nat)
 | goto (l:Nat)
 deriving Inhabited
inductive fL where | ready | busy | done | exhausted
 deriving DecidableEq,Inhabited
inductive cU where
 | box (cs:List C) (fl:Nat)
 | bE (sz:Nat) (cs:List C) (fl ep:Nat) (st:Os)
 | map (es:List (FC × C))
 | it (s:ByteArray) (pos:Nat)
 | vV (m since:Nat) (done:Bool)
 | jM (open_:Bool)
 | lp (fn:Nat) (tmps:T) (ps:List P) (assign body:aq) (st:fL) (pending:Option aq) (jM:Nat)
 deriving Inhabited
abbrev ai:=List cU
inductive dt where
 | py (b:Nat)
 | fn (f:Nat) (args:List V)
 deriving Inhabited
inductive iq where
 | tmp (t:P)
 | cell (t:P) (n:Option Nat)
 deriving Inhabited
structure ax where
 ps:List P
 results:List iq
 body:aq
 deriving Inhabited
def Arg.ev(au:T):Arg→V
 | .r n=>au.get n
 | .k v=>v
def V.int(k:IntKind)(n:Int):V:=.c (.f (.int k n))
def V.bool(b:Bool):V:=.c (.f (.bool b))
def az(H:ai):C→Option (List C)
 | .ptr b off d=>match H[b]? with
  | some (.box cs _)=>some (cs.drop off)
  | some (.bE _ cs _ e .loc)=>if d=e then some (cs.drop off)else none
  | _=>none
 | .f (.fp cs off)=>some ((cs.drop off).map .f)
 | _=>none
def aF:Option Nat→List C→Option V
 | none,c::_=>some (.c c)
 | none,[]=>none
 | some n,cs=>if n≤cs.length then some (.a (cs.take n))else none
def aQ(H:ai)(n:Option Nat):V→Option V
 | .c x=>(az H x).bind (aF n)
 | _=>none
def V.cells? : V→Option (List C)
 | .c x=>some [x]
 | .a xs=>some xs
 | _=>none
def over{α:Type}(cs:List α)(off:Nat)(xs:List α):List α:=cs.take off++xs++cs.drop (off+xs.length)
def df(H:ai)(x:C)(xs:List C):Option ai:=
 match x with
 | .ptr b off g=>match H[b]? with
  | some (.box cs d)=>if d≤off∧off+xs.length≤cs.length then some (H.set b (.box (over cs off xs) d))else none
  | some (.bE sz cs d e .loc)=>if g=e∧d≤off∧off+xs.length≤cs.length then some (H.set b (.bE sz (over cs off xs) d e .loc))else none
  | _=>none
 | _=>none
def bA(H:ai):C→Option Nat
 | .sl b _ l _ d sz=>match H[b]? with
  | some (.box _ _)=>some l
  | some (.bE s _ _ e _)=>if d=e∧sz=s then some l else none
  | _=>none
 | .f .ay=>some 0
 | .f .es=>some 0
 | .f (.fs _ l)=>some l
 | _=>none
def cH(H:ai)(sz:Nat):C→Option (List C)
 | .sl b o l _ d s=>match H[b]? with
  | some (.box cs _)=>if o+l*sz≤cs.length then some ((cs.drop o).take (l*sz))else none
  | some (.bE s' cs _ e _)=>if d=e∧s=s'∧o+l*sz≤cs.length then some ((cs.drop o).take (l*sz))else none
  | _=>none
 | .f .ay=>some []
 | .f .es=>some []
 | .f (.fs cs l)=>if cs.length=l*sz then some (cs.map .f)else none
 | _=>none
def aU{α β:Type}(g:α→Option β):List α→Option (List β)
 | []=>some []
 | x::xs=>match g x with
  | none=>none
  | some y=>match aU g xs with
   | none=>none
   | some ys=>some (y::ys)
def cW:Nat→ai→C→Option FC
 | _,_,.f x=>some x
 | 0,_,_=>none
 | n+1,H,.ptr b off _=>match H[b]? with
  | some (.box cs _)=>(aU (cW n H) cs).map (.fp · off)
  | _=>none
 | n+1,H,.sl b o l _ g sz=>match H[b]? with
  | some (.box cs _)=>if o+l*sz≤cs.length then(aU (cW n H) ((cs.drop o).take (l*sz))).map (.fs · l)else none
  | some (.bE s cs _ e .loc)=>if g=e∧sz=s∧o+l*sz≤cs.length then(aU (cW n H) ((cs.drop o).take (l*sz))).map (.fs · l)else none
  | some (.bE s _ _ e .nil)=>if g=e∧sz=s then some .ay else none
  | some (.bE s _ _ e .es)=>if g=e∧sz=s then some .es else none
  | _=>none
 | n+1,H,.cl f d=>(aU (cW n H) d).map (.fn f)
 | _+1,_,_=>none
def bX(n:Nat)(H:ai):V→Option V
 | .c x=>(cW n H x).map fun y=>.c (.f y)
 | .a xs=>(aU (cW n H) xs).map fun ys=>.a (ys.map .f)
 | _=>none
def iN(n:Nat)(H:ai):V→Option V
 | .t b=>(aU (bX n H) b).map .t
 | v=>bX n H v
def fZ:Nat→C→ai→ai
 | _,.f _,H=>H
 | 0,_,H=>H
 | n+1,.ptr b _ _,H=>match H[b]? with
  | some (.box cs g)=>cs.foldl (fun H x=>fZ n x H) (H.set b (.box cs (Nat.max g cs.length)))
  | _=>H
 | n+1,.sl b o l _ _ sz,H=>match H[b]? with
  | some (.box cs g)=>((cs.drop o).take (l*sz)).foldl (fun H x=>fZ n x H) (H.set b (.box cs (Nat.max g (o+l*sz))))
  | some (.bE s cs g e st)=>((cs.drop o).take (l*sz)).foldl (fun H x=>fZ n x H) (H.set b (.bE s cs (Nat.max g (o+l*sz)) e st))
  | _=>H
 | n+1,.cl _ d,H=>d.foldl (fun H x=>fZ n x H) H
 | _+1,_,H=>H
def mkV(n:Nat)(H:ai):V→ai
 | .c x=>fZ n x H
 | .a xs=>xs.foldl (fun H x=>fZ n x H) H
 | _=>H
end
section
def jJ(b:BinOp)(k:IntKind)(x y:Int):Option V:=
 match b with
 | .add=>some (.int k (k.wrap (x+y)))
 | .sub=>some (.int k (k.wrap (x-y)))
 | .mul=>some (.int k (k.wrap (x*y)))
 | .quo=>if y=0 then none else some (.int k (k.wrap (x.tdiv y)))
 | .rem=>if y=0 then none else some (.int k (x.tmod y))
 | .and=>some (.int k (k.wrap (BitVec.ofInt k.bits x &&& BitVec.ofInt k.bits y).toNat))
 | .or=>some (.int k (k.wrap (BitVec.ofInt k.bits x ||| BitVec.ofInt k.bits y).toNat))
 | .xor=>some (.int k (k.wrap (BitVec.ofInt k.bits x ^^^ BitVec.ofInt k.bits y).toNat))
 | .andNot=>some (.int k (k.wrap (BitVec.ofInt k.bits x &&& ~~~ (BitVec.ofInt k.bits y)).toNat))
 | .eql=>some (.bool (x == y))
 | .neq=>some (.bool (x != y))
 | .lss=>some (.bool (decide (x<y)))
 | .leq=>some (.bool (decide (x≤y)))
 | .gtr=>some (.bool (decide (x>y)))
 | .geq=>some (.bool (decide (x≥y)))
 | _=>none
def Z_(b:BinOp)(x y:ByteArray):Option V:=
 match b with
 | .add=>if((x.size+y.size:Nat):Int)>IntKind.i64.max then none else some (.c (.f (.str (x++y))))
 | .eql=>some (.bool (x.toList == y.toList))
 | .neq=>some (.bool !(x.toList == y.toList))
 | .lss=>some (.bool (Op.bytesLess x.toList y.toList))
 | .leq=>some (.bool (Op.bytesLess x.toList y.toList||x.toList == y.toList))
 | .gtr=>some (.bool !(Op.bytesLess x.toList y.toList||x.toList == y.toList))
 | .geq=>some (.bool !(Op.bytesLess x.toList y.toList))
 | _=>none
def O9:CK→C→C→Option Bool
 | .bool,.f (.bool a),.f (.bool b)=>some (a == b)
 | .int,.f (.int k a),.f (.int k' b)=>if k=k' then some (a == b)else none
 | .str,.f (.str a),.f (.str b)=>some (a == b)
 | _,_,_=>none
def rE:List CK→List C→List C→Option Bool
 | [],[],[]=>some true
 | k::ks,x::xs,y::ys=>match O9 k x y,rE ks xs ys with
  | some a,some b=>some (a&&b)
  | _,_=>none
 | _,_,_=>none
def isNil(H:ai):Nr→C→Option Bool
 | .ptr,.f .fU=>some true
 | .ptr,.f (.fp _ _)=>some false
 | .ptr,.ptr _ _ _=>some false
 | .sl,.f .ay=>some true
 | .sl,.f .es=>some false
 | .sl,.f (.fs _ _)=>some false
 | .sl,.sl b _ _ _ d sz=>match H[b]? with
  | some (.box _ _)=>some false
  | some (.bE s _ _ e st)=>if d=e∧sz=s then some (st == .nil)else none
  | _=>none
 | .fn,.f .jk=>some true
 | .fn,.f (.fn _ _)=>some false
 | .fn,.cl _ _=>some false
 | .fn,.bm _ _=>some false
 | .ifc,.f .lZ=>some true
 | _,_=>none
def zW(H:ai):Nr→V→V→Option Bool
 | .bool,.c x,.c y=>O9 .bool x y
 | .st ks,.a xs,.a ys=>rE ks xs ys
 | .ptr,.c x,.c (.f .fU)=>isNil H .ptr x
 | .sl,.c x,.c (.f .ay)=>isNil H .sl x
 | .fn,.c x,.c (.f .jk)=>isNil H .fn x
 | .ifc,.c x,.c (.f .lZ)=>isNil H .ifc x
 | _,_,_=>none
def bJ(op:BinOp)(x y:V):Option V:=
 match op,x,y with
 | .shl,.c (.f (.int k a)),.c (.f (.int _ b))=>if b<0 then none else some (.int k (k.wrap (a*2 ^ (min b.toNat k.bits))))
 | .shr,.c (.f (.int k a)),.c (.f (.int _ b))=>if b<0 then none else some (.int k (a.fdiv (2 ^ (min b.toNat k.bits))))
 | op,.c (.f (.int k a)),.c (.f (.int k' b))=>if k=k' then jJ op k a b else none
 | op,.c (.f (.str a)),.c (.f (.str b))=>Z_ op a b
 | _,_,_=>none
def unV(d:UnOp)(x:V):Option V:=
 match d,x with
 | .neg,.c (.f (.int k n))=>some (.int k (k.wrap (0-n)))
 | .not,.c (.f (.bool b))=>some (.bool !b)
 | _,_=>none
def dk:V→Option Int
 | .c (.f (.int _ n))=>some n
 | _=>none
def DY(x:V)(y:Nat):Option Nat:=
 match dk x with
 | some i=>if 0≤i∧i≤y then some i.toNat else none
 | none=>none
def cA(len cap:Nat)(lo hi mx:Option V):Option (Nat × Nat × Nat):=do
 let m ←match mx with
  | some v=>DY v cap
  | none=>some cap
 let h ←match hi,mx with
  | some v,_=>DY v m
  | none,none=>some len
  | none,some _=>none
 let l ←match lo with
  | some v=>DY v h
  | none=>some 0
 pure (l,h,m)
def eY(H:ai)(sz:Nat)(x:V)(lo hi mx:Option V):Option V:=
 match x with
 | .c (.f .ay)=>match cA 0 0 lo hi mx with
  | some _=>some (.c (.f .ay))
  | none=>none
 | .c (.f .es)=>match cA 0 0 lo hi mx with
  | some _=>some (.c (.f .es))
  | none=>none
 | .c (.f (.fs cs n))=>match cA n n lo hi mx with
  | some (l,h,m)=>
   if mx.isSome∧m=l then some (.c (.f .es))else
   some (.c (.f (.fs ((cs.drop (l*sz)).take ((h-l)*sz)) (h-l))))
  | none=>none
 | .c (.sl b o n cap d s)=>match H[b]? with
  | some (.box _ _)=>match cA n cap lo hi mx with
   | some (l,h,m)=>if m=l then some (.c (.f .es))else some (.c (.sl b (o+l*sz) (h-l) (m-l) d s))
   | none=>none
  | some (.bE s' _ _ e st)=>
   if d=e∧s=sz∧s'=sz then
    match st with
    | .loc=>match cA n n lo hi mx with
     | some (l,h,m)=>
      if mx.isSome∧m=l then some (.c (.f .es))
      else if l=h∧0<l then some (.c (.f (.fs [] 0)))
      else if mx.isSome then none
      else some (.c (.sl b (o+l*sz) (h-l) 0 d s))
     | none=>none
    | .nil=>match cA 0 0 lo hi mx with
     | some _=>some (.c (.f .ay))
     | none=>none
    | .es=>match cA 0 0 lo hi mx with
     | some _=>some (.c (.f .es))
     | none=>none
   else none
  | _=>none
 | _=>none
def vI(x:V)(lo hi:Option V):Option V:=
 match x with
 | .c (.f (.str s))=>match cA s.size s.size lo hi none with
  | some (l,h,_)=>some (.c (.f (.str (s.extract l h))))
  | none=>none
 | _=>none
def ig(H:ai)(n sz:Nat)(x:V)(lo hi mx:Option V):Option V:=
 match x with
 | .c (.ptr b off _)=>match H[b]? with
  | some (.box cs _)=>match cA n n lo hi mx with
   | some (l,h,m)=>if off+n*sz≤cs.length then(if m=l then some (.c (.f .es))else some (.c (.sl b (off+l*sz) (h-l) (m-l) 0 sz)))else none
   | none=>none
  | _=>none
 | .c (.f (.fp cs off))=>match cA n n lo hi mx with
   | some (l,h,m)=>if off+n*sz≤cs.length then(if m=l then some (.c (.f .es))else some (.c (.f (.fs ((cs.drop (off+l*sz)).take ((h-l)*sz)) (h-l)))))else none
   | none=>none
 | _=>none
def aG(H:ai)(sz:Nat)(g:Option Nat)(x i:V):Option V:=
 match dk i with
 | none=>none
 | some i=>
  if 0≤i then
   match g,x with
   | none,.c (.sl b o l _ d s)=>if i<l then
     (match H[b]? with
      | some (.box _ _)=>some (.c (.ptr b (o+i.toNat*sz) d))
      | some (.bE s' _ _ e .loc)=>if d=e∧s=s' then some (.c (.ptr b (o+i.toNat*sz) d))else none
      | _=>none)else none
   | none,.c (.f (.fs cs l))=>if i<l then some (.c (.f (.fp cs (i.toNat*sz))))else none
   | some n,.c (.ptr b o d)=>if i<n then some (.c (.ptr b (o+i.toNat*sz) d))else none
   | some n,.c (.f (.fp cs o))=>if i<n then some (.c (.f (.fp cs (o+i.toNat*sz))))else none
   | _,_=>none
  else none
def iu(off:Nat):V→Option V
 | .c (.ptr b o d)=>some (.c (.ptr b (o+off) d))
 | .c (.f (.fp cs o))=>some (.c (.f (.fp cs (o+off))))
 | _=>none
def mE(off:Nat)(n:Option Nat):V→Option V
 | .a xs=>aF n (xs.drop off)
 | _=>none
def CM(x i:V):Option V:=
 match x,dk i with
 | .c (.f (.str s)),some i=>if 0≤i then(s[i.toNat]?).map fun b=>.int .u8 b.toNat else none
 | _,_=>none
def lR(len sz:Nat)(n:Option Nat)(x i:V):Option V:=
 match x,dk i with
 | .a xs,some i=>if 0≤i∧i<len then aF n (xs.drop (i.toNat*sz))else none
 | _,_=>none
def Ic(H:ai):V→Option (V × ai)
 | .c (.it b)=>match H[b]? with
  | some (.it s pos)=>
   if pos<s.size then
    let r:=Utf8.decode s pos
    some (.t [.bool true,.int .i64 pos,.int .i32 r.1],H.set b (.it s (pos+r.2)))
   else some (.t [.bool false],H)
  | _=>none
 | _=>none
def bI(need bytes:Nat):Bool:=decide ((2*need+768)*bytes≤2 ^ 48)&&decide (need<2 ^ 48)
def cM(H:ai)(sz:Nat):V→Option (Nat × List C)
 | .c (.f (.str s))=>if sz=1 then some (s.size,s.toList.map fun b=>.f (.int .u8 b.toNat))else none
 | .c x=>match bA H x,cH H sz x with
  | some l,some cs=>some (l,cs)
  | _,_=>none
 | _=>none
def bz(H:ai)(sz bytes:Nat)(x y:V):Option (V × ai):=
 match cM H sz y with
 | none=>none
 | some (m,ys)=>
  if sz=0 then none else
  match x with
  | .c (.f .ay)=>if m=0 then some (.c (.f .ay),H)else
    if bI m bytes then some (.c (.sl H.length 0 m 0 0 sz),H++[.bE sz ys 0 0 .loc])else none
  | .c (.f .es)=>if m=0 then some (.c (.f .es),H)else
    if bI m bytes then some (.c (.sl H.length 0 m 0 0 sz),H++[.bE sz ys 0 0 .loc])else none
  | .c (.sl b o l cap g s)=>match H[b]? with
   | some (.box cs d)=>
    if l+m≤cap then
     if d≤o+l*sz∧o+l*sz+ys.length≤cs.length then some (.c (.sl b o (l+m) cap g s),H.set b (.box (over cs (o+l*sz) ys) d))else none
    else if bI (l+m) bytes∧o+l*sz≤cs.length then some (.c (.sl H.length 0 (l+m) 0 0 sz),H++[.bE sz ((cs.drop o).take (l*sz)++ys) 0 0 .loc])else none
   | some (.bE s' cs d e st)=>
    if g=e∧s'=sz∧s=sz then
     if m=0 then some (x,H)
     else if o=0∧l*sz=cs.length∧d≤cs.length then
      if bI (l+m) bytes then some (.c (.sl b 0 (l+m) 0 (g+1) sz),H.set b (.bE sz (cs++ys) d (e+1) .loc))else none
     else if st=.loc∧d≤o+l*sz∧o+l*sz+ys.length≤cs.length then
      some (.c (.sl b o (l+m) 0 g sz),H.set b (.bE sz (over cs (o+l*sz) ys) d e .loc))
     else none
    else none
   | _=>none
  | _=>none
def copyV(H:ai)(sz:Nat)(x y:V):Option (V × ai):=
 match cM H sz y,x with
 | some _,.c (.f .ay)=>some (.int .i64 0,H)
 | some _,.c (.f .es)=>some (.int .i64 0,H)
 | some (m,ys),.c (.sl b o l _ g s')=>
  let n:=Nat.min m l
  match H[b]? with
  | some (.box cs d)=>if d≤o∧o+n*sz≤cs.length then some (.int .i64 n,H.set b (.box (over cs o (ys.take (n*sz))) d))else none
  | some (.bE s cs d e .loc)=>if g=e∧s'=s∧s=sz∧d≤o∧o+n*sz≤cs.length then some (.int .i64 n,H.set b (.bE s (over cs o (ys.take (n*sz))) d e .loc))else none
  | _=>none
 | _,_=>none
def nU(H:ai):V→Option V
 | .c x=>match bA H x with
  | some _=>match cH H 1 x with
   | some cs=>(aU (fun c=>match c with | C.f (.int .u8 n)=>some (UInt8.ofNat n.toNat) | _=>none) cs).map fun l=>.c (.f (.str ⟨l.toArray⟩))
   | none=>none
  | none=>none
 | _=>none
def dc(au:T)(cs:List C):List (Nat × Nat × Arg)→Option (List C)
 | []=>some cs
 | (off,n,x)::rest=>match (x.ev au).cells? with
  | some xs=>if xs.length=n∧off+xs.length≤cs.length then dc au (over cs off xs) rest else none
  | none=>none
def c6(au:T)(xs:List Arg):List V:=xs.map (·.ev au)
def ta:V→Option C
 | .c (.cl _ _)=>none
 | .c (.bm _ _)=>none
 | .c x=>some x
 | _=>none
def cF{α:Type}(n:Nat)(xs:List α):List α:=(List.replicate n xs).flatten
def eqK:CK→FC→FC→Option Bool
 | .int,.int k a,.int k' b=>if k=k' then some (a == b)else none
 | .str,.str a,.str b=>some (a == b)
 | .bool,.bool a,.bool b=>some (a == b)
 | _,_,_=>none
def mR(b:CK)(k:FC):List (FC × C)→Option (Option C)
 | []=>some none
 | e::d=>match eqK b k e.1 with
  | some true=>some (some e.2)
  | some false=>mR b k d
  | none=>none
def yD(b:CK)(k:FC)(v:C):List (FC × C)→Option (List (FC × C))
 | []=>some [(k,v)]
 | e::d=>match eqK b k e.1 with
  | some true=>some ((k,v)::d)
  | some false=>(yD b k v d).map (e::·)
  | none=>none
def isKey:CK→FC→Bool
 | .int,.int _ _=>true
 | .str,.str _=>true
 | .bool,.bool _=>true
 | _,_=>false
def tf:FC→Option FC
 | .fp [z] 77=>some z
 | _=>none
def lkR(z:FC)(r:Option C):V:=match tf z with
 | some z0=>.t [(r.map mV).getD (zV z0),.c (.f (.bool r.isSome))]
 | none=>(r.map mV).getD (zV z)
def fR(H:ai)(d:CK)(z:FC):V→V→Option V
 | .c (.f .wF),.c (.f k)=>if isKey d k then some (lkR z none)else none
 | .c (.mp b),.c (.f k)=>match H[b]? with
  | some (.map g)=>if isKey d k then(mR d k g).map (lkR z)else none
  | _=>none
 | _,_=>none
def lW(H:ai):C→Option Nat
 | .sl b _ _ c d sz=>match H[b]? with
  | some (.box _ _)=>some c
  | some (.bE s _ _ e .nil)=>if d=e∧sz=s then some 0 else none
  | some (.bE s _ _ e .es)=>if d=e∧sz=s then some 0 else none
  | _=>none
 | .f .ay=>some 0
 | .f .es=>some 0
 | _=>none
def H9(lo:Bool)(x y:V):Option V:=
 match x,y with
 | .c (.f (.int k a)),.c (.f (.int _ b))=>some (.int k (if lo then(if b<a then b else a)else(if b>a then b else a)))
 | _,_=>none
def yx(lo:Bool):V→List V→Option V
 | x,[]=>some x
 | x,y::ys=>match H9 lo x y with
  | some z=>yx lo z ys
  | none=>none
def Ok(lo:Bool):List V→Option V
 | []=>none
 | x::xs=>yx lo x xs
def uB(H:ai)(sz:Nat)(zs:List FC)(x:V):Option ai:=
 match x with
 | .c y=>match bA H y with
  | some 0=>some H
  | some l=>
   if zs.length=sz then
    match y with
    | .sl b o _ _ d s=>match H[b]? with
     | some (.box _ _)=>df H (.ptr b o d) ((cF l zs).map .f)
     | some (.bE s' _ _ e .loc)=>if d=e∧s=s' then df H (.ptr b o d) ((cF l zs).map .f)else none
     | _=>none
    | _=>none
   else none
  | none=>none
 | _=>none
def HB(H:ai)(sz bytes:Nat)(zs:List FC)(x n:V):Option (V × ai):=
 match dk n with
 | some n=>
  if 0≤n∧zs.length=sz then
   match x with
   | .c (.f .ay)=>if n.toNat=0 then some (.c (.f .ay),H)else
     if bI n.toNat bytes then some (.c (.sl H.length 0 n.toNat 0 0 sz),H++[.bE sz ((cF n.toNat zs).map .f) 0 0 .loc])else none
   | .c (.f .es)=>if n.toNat=0 then some (.c (.f .es),H)else
     if bI n.toNat bytes then some (.c (.sl H.length 0 n.toNat 0 0 sz),H++[.bE sz ((cF n.toNat zs).map .f) 0 0 .loc])else none
   | _=>none
  else none
 | none=>none
def fcC:C→Option FC
 | .f x=>some x
 | _=>none
def DD(H:ai)(sz:Nat)(x hi mx:V):Option (V × ai):=
 match eY H sz x none (some hi) (some mx)with
 | some v=>some (v,H)
 | none=>match x with
  | .c (.sl b o n _ d s)=>match H[b]? with
   | some (.bE s' cs g e .loc)=>
    if d=e∧s=sz∧s'=sz∧o=0 then
     match DY hi n,DY mx n with
     | some i,some j=>
      if i=j∧0<i∧i*sz≤cs.length then
       match aU fcC (cs.take (i*sz))with
       | some ys=>some (.c (.f (.fs ys i)),H.set b (.bE s' cs (Nat.max g (i*sz)) e .loc))
       | none=>none
      else none
     | _,_=>none
    else none
   | _=>none
  | _=>none
def Ap(H:ai):V→Option (V × ai)
 | .c (.mi b)=>match H[b]? with
  | some (.vV m d done)=>match H[m]? with
   | some (.map [])=>if done then none else some (.t [.bool false],H)
   | some (.map [e])=>if done then some (.t [.bool false],H)else if d=1 then some (.t [.bool true,.c (.f e.1),mV e.2],H.set b (.vV m 1 true))else none
   | _=>none
  | _=>none
 | _=>none
def kL(H:ai):V→Option V
 | .c (.mi b)=>match H[b]? with
  | some (.vV m _ true)=>match H[m]? with
   | some (.map [e])=>some (.t [.c (.f e.1),mV e.2])
   | _=>none
  | _=>none
 | _=>none
def tE(H:ai):V→Option (V × ai)
 | .c (.mp b)=>match H[b]? with
  | some (.map d)=>if d.length≤1 then some (.c (.mi H.length),H++[.vV b d.length false])else none
  | _=>none
 | _=>none
def fcL:List C→Option (List FC)
 | []=>some []
 | .f x::xs=>(fcL xs).map (x::·)
 | _::_=>none
def aZ(au:T)(H:ai):cK→Option (V × ai)
 | .bf x=>some (x.ev au,H)
 | .pre o sz=>if o=.loc∨sz=0 then none else some (.c (.sl H.length 0 0 0 0 sz),H++[.bE sz [] 0 0 o])
 | .pick c a b=>match c.ev au with
  | .c (.f (.bool v))=>some ((if v then a else b).ev au,H)
  | _=>none
 | .alloc zs=>some (.c (.ptr H.length 0 0),H++[.box (zs.map .f) 0])
 | .box x=>match (x.ev au).cells? with
  | some xs=>some (.c (.ptr H.length 0 0),H++[.box xs 0])
  | none=>none
 | .build zs ps=>(dc au (zs.map .f) ps).map fun cs=>(.a cs,H)
 | .aO sz zs n ps=>
  if n=0 then(if ps.isEmpty then some (.c (.f .es),H)else none)else
  (dc au ((cF n zs).map .f) (ps.map fun p=>(p.1*sz,sz,p.2))).map fun cs=>(.c (.sl H.length 0 n n 0 sz),H++[.box cs 0])
 | .load n x=>(aQ H n (x.ev au)).map (·,H)
 | .store n x y=>match x.ev au,(y.ev au).cells? with
  | .c p,some xs=>if xs.length=n then(df H p xs).map (.top,·)else none
  | _,_=>none
 | .bh x=>match x.ev au with
  | .c (.ptr b o e)=>some (.c (.ptr b o e),H)
  | .c (.f (.fp cs o))=>some (.c (.f (.fp cs o)),H)
  | _=>none
 | .bin u x y=>(bJ u (x.ev au) (y.ev au)).map (·,H)
 | .eq neg k x y=>(zW H k (x.ev au) (y.ev au)).map fun b=>(.bool (if neg then !b else b),H)
 | .un u x=>(unV u (x.ev au)).map (·,H)
 | .ek k x=>match x.ev au with
  | .c (.f (.int _ n))=>some (.int k (k.wrap n),H)
  | _=>none
 | .zQ x=>match x.ev au with
  | .c (.f (.str s))=>some (.c (.f (.str s)),H)
  | _=>none
 | .wq x=>(nU H (x.ev au)).map (·,H)
 | .FU x=>match x.ev au with
  | .c (.f (.str s))=>if s.size<2 ^ 48 then some (.c (.sl H.length 0 s.size 0 0 1),H++[.bE 1 (s.toList.map fun b=>.f (.int .u8 b.toNat)) 0 0 .loc])else none
  | _=>none
 | .kh f d=>(aU ta (c6 au d)).map fun xs=>(.c (.cl f xs),H)
 | .jz=>some (.c (.mp H.length),H++[.map []])
 | .lookup g z m k=>(fR H g z (m.ev au) (k.ev au)).map (·,H)
 | .jw g m k v=>match m.ev au,k.ev au,sH (v.ev au)with
  | .c (.mp b),.c (.f k),some v=>match H[b]? with
   | some (.map q)=>if isKey g k then(yD g k v q).map fun q=>(.top,H.set b (.map q))else none
   | _=>none
  | _,_,_=>none
 | .cP sz bytes zs l c=>match dk (l.ev au),dk (c.ev au)with
  | some l,some c=>
   if 0≤l∧l≤c∧bI c.toNat bytes=true∧zs.length=sz then
    (if c=0 then some (.c (.f .es),H)else
    some (.c (.sl H.length 0 l.toNat c.toNat 0 sz),H++[.box ((cF c.toNat zs).map .f) 0]))
   else none
  | _,_=>none
 | .slice sz x lo hi mx=>(eY H sz (x.ev au) (lo.map (·.ev au)) (hi.map (·.ev au)) (mx.map (·.ev au))).map (·,H)
 | .ku n sz x lo hi mx=>(ig H n sz (x.ev au) (lo.map (·.ev au)) (hi.map (·.ev au)) (mx.map (·.ev au))).map (·,H)
 | .qG x lo hi=>(vI (x.ev au) (lo.map (·.ev au)) (hi.map (·.ev au))).map (·,H)
 | .aw off x=>(iu off (x.ev au)).map (·,H)
 | .field off n x=>(mE off n (x.ev au)).map (·,H)
 | .aP sz j x i=>(aG H sz j (x.ev au) (i.ev au)).map (·,H)
 | .idxs x i=>(CM (x.ev au) (i.ev au)).map (·,H)
 | .pK len sz n x i=>(lR len sz n (x.ev au) (i.ev au)).map (·,H)
 | .range x=>match x.ev au with
  | .c (.f (.str s))=>some (.c (.it H.length),H++[.it s 0])
  | _=>none
 | .next x=>Ic H (x.ev au)
 | .extract x i=>match x.ev au with
  | .t B=>(B[i]?).map (·,H)
  | _=>none
 | .uS n=>some (.int .i64 n,H)
 | .lens x=>match x.ev au with
  | .c (.f (.str s))=>some (.int .i64 (s.size:Nat),H)
  | _=>none
 | .len x=>match x.ev au with
  | .c y=>match bA H y with
   | some n=>some (.int .i64 (n:Nat),H)
   | none=>none
  | _=>none
 | .append sz bytes x y=>bz H sz bytes (x.ev au) (y.ev au)
 | .copy sz x y=>copyV H sz (x.ev au) (y.ev au)
 | .mP lo xs=>(Ok lo (c6 au xs)).map (·,H)
 | .clear sz zs x=>(uB H sz zs (x.ev au)).map (.t [],·)
 | .sZ sz bytes zs x n=>HB H sz bytes zs (x.ev au) (n.ev au)
 | .lu x=>tE H (x.ev au)
 | .pU x=>Ap H (x.ev au)
 | .entry x=>(kL H (x.ev au)).map (·,H)
 | .gv sz zs n ps=>((dc au ((cF n zs).map .f) (ps.map fun p=>(p.1*sz,sz,p.2))).bind fun cs=>if n=0 then none else fcL cs).map fun A=>(.c (.f (.fs A n)),H)
 | .wN sz x hi mx=>DD H sz (x.ev au) (hi.ev au) (mx.ev au)
 | .wv f xs=>(aU ta (c6 au xs)).map fun xs=>(.c (.bm f xs),H)
 | .cap x=>match x.ev au with
  | .c y=>match lW H y with
   | some n=>some (.int .i64 (n:Nat),H)
   | none=>none
  | _=>none
 | _=>none
end
section
inductive Callee where
 | fn (f:Nat)
 | yield (b:Nat)
abbrev cE:=Callee→List V→ai→Option (V × ai)
def deep:Nat:=64
def dQ(call:cE)(c:Nat)(args:List V)(H:ai):Option (V × ai):=
 match aU (bX deep H) args with
 | none=>none
 | some d=>match call (.fn c) d []with
  | none=>none
  | some (r,b)=>match iN deep b r with
   | none=>none
   | some r'=>some (r',args.foldl (mkV deep) H)
def bP:V→List V→Option (Callee × List V)
 | .c (.f (.fn f d)),args=>some (.fn f,args++d.map fun x=>.c (.f x))
 | .c (.cl f d),args=>some (.fn f,args++d.map .c)
 | .c (.yl b),args=>some (.yield b,args)
 | .c (.bm f first),args=>some (.fn f,first.map .c++args)
 | _,_=>none
def fW(call:cE)(h:Bool)(c:Nat)(args:List V)(H:ai):Option (V × ai):=
 if h then call (.fn c) args H else dQ call c args H
structure St where
 au:T
 defs:List dt
 heap:ai
def je(au:T)(d:Option P)(v:V):T:=
 match d with
 | some d=>au.set d v
 | none=>au
def dZ(call:cE)(s:St)(op:cK):Option (V × St):=
 match op with
 | .call f args h=>(fW call h f (c6 s.au args) s.heap).map fun r=>(r.1,{ s with heap:=r.2 })
 | .bR x args _=>match bP (x.ev s.au) (c6 s.au args)with
  | some (c,args)=>(call c args s.heap).map fun r=>(r.1,{ s with heap:=r.2 })
  | none=>none
 | .recover=>some (.c (.f .lZ),s)
 | .defer x args=>match bP (x.ev s.au) (c6 s.au args)with
  | some (.fn f,args)=>some (.top,{ s with defs:=.fn f args::s.defs })
  | _=>none
 | op=>(aZ s.au s.heap op).map fun r=>(r.1,{ s with heap:=r.2 })
def mr{α:Type}(f:α→α→Bool):List α→List α→Bool
 | [],[]=>true
 | x::xs,y::ys=>f x y&&mr f xs ys
 | _,_=>false
def FC.beq:Nat→FC→FC→Bool
 | _,.bool a,.bool b=>a == b
 | _,.int j a,.int k b=>decide (j=k)&&a == b
 | _,.str a,.str b=>decide (a=b)
 | _,.fU,.fU | _,.ay,.ay | _,.es,.es | _,.jk,.jk | _,.lZ,.lZ | _,.wF,.wF=>true
 | n+1,.fp xs o,.fp ys o'=>o == o'&&mr (FC.beq n) xs ys
 | n+1,.fs xs l,.fs ys d=>l == d&&mr (FC.beq n) xs ys
 | n+1,.fn f xs,.fn g ys=>f == g&&mr (FC.beq n) xs ys
 | _,_,_=>false
def C.beq:C→C→Bool
 | .f a,.f b=>FC.beq 64 a b
 | .ptr a b c,.ptr a' j l=>a == a'&&b == j&&c == l
 | .sl a b c d e g,.sl a' j l m q g'=>a == a'&&b == j&&c == l&&d == m&&e == q&&g == g'
 | .mp a,.mp b=>a == b
 | _,_=>false
def V.beq:V→V→Bool
 | .c x,.c y=>x.beq y
 | .a xs,.a ys=>xs.length == ys.length&&(xs.zip ys).all fun p=>p.1.beq p.2
 | _,_=>false
def wanted(au:T):Option (P × Bool)→Option Bool
 | none=>some true
 | some (r,w)=>match au.get r with
  | .c (.f (.bool b))=>some (b == w)
  | .t []=>some false
  | _=>none
def eR(call:cE)(s:St)(o:aH):Option St:=
 match wanted s.au o.g with
 | some true=>match dZ call s o.op with
  | some (v,s')=>some { s' with au:=je s'.au o.dst v }
  | none=>none
 | some false=>some { s with au:=je s.au o.dst (.t []) }
 | none=>none
def eO(call:cE):List aH→St→Option St
 | [],s=>some s
 | o::os,s=>match eR call s o with
  | some s'=>eO call os s'
  | none=>none
def dq(call:cE):List aH→St→Option (List St)
 | [],s=>some [s]
 | o::os,s=>match eR call s o with
  | some s'=>match dq call os s' with
   | some b=>some (s::b)
   | none=>none
  | none=>none
def sameAt(ops:List aH)(b:List St)(c:Nat × Nat):Bool:=
 match ops[c.1]?,b[c.1]?,b[c.2]? with
 | some o,some s,some s'=>match wanted s.au o.g with
  | some false=>true
  | _=>match aZ s.au s.heap o.op,aZ s.au s'.heap o.op with
   | some (v,_),some (d,_)=>v.beq d
   | _,_=>false
 | _,_,_=>false
def fx(call:cE)(ops:List aH)(b:List (Nat × Nat))(s:St):Option St:=
 match b with
 | []=>eO call ops s
 | _=>match dq call ops s with
  | some d=>if b.all (sameAt ops d)then d.getLast? else none
  | none=>none
def cK.dJ:cK→Bool
 | .defer _ _ | .recover=>false
 | _=>true
inductive cm where
 | code (c:aq)
 | inBlock (id:Nat)
 | inLoop (c:aq)
 | im (b:Nat)
 | mu
 | inScope (a:aq)
def exitTo(id:Nat):List cm→Option (List cm)
 | []=>none
 | .inBlock b::k=>if b == id then some k else exitTo id k
 | _::k=>exitTo id k
def findLabel:aq→Nat→Option aq
 | .seq a b,l=>match findLabel a l with
  | some rest=>some (.seq rest b)
  | none=>findLabel b l
 | .label d,l=>if d == l then some .skip else none
 | _,_=>none
def gotoIn(l:Nat):List cm→Option (List cm)
 | []=>none
 | .inScope body::k=>match findLabel body l with
  | some rest=>some (.code rest::.inScope body::k)
  | none=>gotoIn l k
 | _::k=>gotoIn l k
def C.ed(n:Nat):C→Bool
 | .f _=>true
 | .ptr b _ _=>decide (b<n)
 | .sl b _ _ _ _ _=>decide (b<n)
 | .cl _ _=>false
 | .yl b=>decide (b<n)
 | .mp b=>decide (b<n)
 | .it b=>decide (b<n)
 | .mi b=>decide (b<n)
 | .bm _ _=>false
def C.under(n:Nat):C→Bool
 | .cl _ d=>d.all (·.ed n)
 | .f _=>true
 | .ptr b _ _=>decide (b<n)
 | .sl b _ _ _ _ _=>decide (b<n)
 | .yl b=>decide (b<n)
 | .mp b=>decide (b<n)
 | .it b=>decide (b<n)
 | .mi b=>decide (b<n)
 | .bm _ first=>first.all (·.ed n)
def run(call:cE)(fn:Nat):Nat→Option Nat→List cm→St→Option (Option aq × St)
 | 0,_,_,_=>none
 | m+1,j,q,s=>
  match q with
  | []=>some (none,s)
  | .inBlock _::k=>run call fn m j k s
  | .inLoop c::k=>run call fn m j (.code c::.inLoop c::k) s
  | .im b::k=>match s.heap[b]? with
   | some (.lp f tmps ps as bd st pending d)=>
    if st=.busy then none else
    let s:={ s with heap:=s.heap.set b (.lp f tmps ps as bd .exhausted pending d) }
    match pending with
    | none=>run call fn m j k s
    | some .ret=>run call fn m j (.code .ret::k) s
    | some (.exit id)=>run call fn m j (.code (.exit id)::k) s
    | some _=>none
   | _=>none
  | .mu::k=>match j with
   | none=>none
   | some b=>match s.heap[b]? with
    | some (.lp f tmps ps as bd .ready pending d)=>run call fn m j k { s with heap:=s.heap.set b (.lp f tmps ps as bd .busy pending d) }
    | _=>none
  | .code .skip::k=>run call fn m j k s
  | .inScope _::k=>run call fn m j k s
  | .code (.label _)::k=>run call fn m j k s
  | .code (.scope a)::k=>run call fn m j (.code a::.inScope a::k) s
  | .code (.goto l)::k=>match gotoIn l k with
   | some k=>run call fn m j k s
   | none=>none
  | .code .bad::_=>none
  | .code .ret::_=>some (some .ret,s)
  | .code (.exit id)::k=>match exitTo id k with
   | some k=>run call fn m j k s
   | none=>if j.isSome then some (some (.exit id),s)else none
  | .code (.seq a b)::k=>run call fn m j (.code a::.code b::k) s
  | .code (.block id a)::k=>run call fn m j (.code a::.inBlock id::k) s
  | .code (.loop a)::k=>run call fn m j (.code a::.inLoop a::k) s
  | .code (.cond c a b)::k=>match c.ev s.au with
   | .c (.f (.bool v))=>run call fn m j (.code (if v then a else b)::k) s
   | _=>none
  | .code (.region ops u)::k=>
   if j.isSome&&!ops.all (·.op.dJ)then none else
   match fx call ops u s with
   | some s=>run call fn m j k s
   | none=>none
  | .code (.jQ f ps as bd)::k=>
   if j.isSome then none else
   let d:=s.heap.length
   let H:=s.heap++[.jM true,.lp fn s.au ps as bd .ready none d]
   match bP (f.ev s.au) [.c (.yl (d+1))]with
   | some (.fn g,args)=>match call (.fn g) args H with
    | some (_,H)=>run call fn m j (.im (d+1)::k) { au:=s.au,defs:=.py d::s.defs,heap:=H }
    | none=>none
   | _=>none
def dD(call:cE):List dt→ai→Option ai
 | [],H=>some H
 | .py b::ds,H=>match H[b]? with
  | some (.jM true)=>dD call ds (H.set b (.jM false))
  | _=>none
 | .fn f args::ds,H=>match call (.fn f) args H with
  | some (_,H)=>dD call ds H
  | none=>none
def bG(au:T)(H:ai):iq→Option V
 | .tmp t=>match au.get t with
  | .t _=>none
  | v=>some v
 | .cell t n=>aQ H n (au.get t)
def results(au:T)(H:ai)(b:List iq):Option V:=
 match aU (bG au H) b with
 | some [v]=>some v
 | some d=>some (.t d)
 | none=>none
def cC:List P→List V→T→T
 | p::ps,v::b,au=>cC ps b (au.set p v)
 | _,_,au=>au
def dN(tab:Nat→Option ax)(g:Nat→List V→ai→Option (Option (V × ai)))(m:Nat):Nat→cE
 | 0,_,_,_=>none
 | d+1,.fn f,args,H=>
  match g f args H with
  | some r=>r
  | none=>match tab f with
   | none=>none
   | some q=>if args.length=q.ps.length then match run (dN tab g m d) f m none [.code q.body] ⟨cC q.ps args .e,[],H⟩with
    | some (_,s)=>match dD (dN tab g m d) s.defs s.heap with
     | some H=>(results s.au H q.results).map (·,H)
     | none=>none
    | none=>none
    else none
 | d+1,.yield b,args,H=>
  match H[b]? with
  | some (.lp f tmps ps as bd _ _ _)=>
   if args.length=ps.length then
    match run (dN tab g m d) f m (some b) [.code as,.mu,.code bd] ⟨cC ps args tmps,[],H⟩with
    | some (j,s)=>
     if s.defs.isEmpty then
      match s.heap[b]? with
      | some (.lp y l v as' u _ _ x)=>some (.bool j.isNone,s.heap.set b (.lp y l v as' u (if j.isNone then .ready else .done) j x))
      | _=>none
     else none
    | none=>none
   else none
  | _=>none
end
section
section
variable(Q:Program)(σ:Nat→FuncId)
def akZ:Value→Bool
 | .agg _ | .tuple _=>false
 | _=>true
def ajW:Value→Bool
 | .agg _=>true
 | _=>false
def mK1:FC→Value→Bool
 | .bool a,.bool b=>a == b
 | .int j a,.int k b=>decide (j=k)&&decide (a=b)
 | .str a,.string b=>decide (a=b)
 | .fU,.pointer none=>true
 | .ay,.slice none 0 0=>true
 | .jk,.nilFunc=>true
 | .lZ,.nilIface=>true
 | .wF,.map none=>true
 | _,_=>false
def ff{α β:Type}(f:α→β→Bool):List α→List β→Bool
 | [],[]=>true
 | x::xs,y::ys=>f x y&&ff f xs ys
 | _,_=>false
def mK:V→Value→Bool
 | .c (.f x),v=>mK1 x v
 | .a xs,.agg us=>ff (fun x u=>match x with | C.f x=>mK1 x u | _=>false) xs us.toList
 | .top,.tuple us=>us.isEmpty
 | _,_=>false
def mA:Arg→Operand→Bool
 | .r p,.tmp t=>p.toNat == t
 | .k v,.const u=>mK v u
 | .k (.c (.f (.fn f []))),.func g=>σ f == g
 | _,_=>false
def mAs(xs:List Arg)(ys:Array Operand):Bool:=ff (mA σ) xs ys.toList
def mO:Option Arg→Option Operand→Bool
 | none,none=>true
 | some x,some y=>mA σ x y
 | _,_=>false
def c7(t:TypeId)(n:Nat):Bool:=(Q.info? t).any fun i=>i.size == n
def nh(t:TypeId)(n:Nat):Bool:=(Q.info? t).any fun i=>i.bytes == n
def kz(t:TypeId)(zs:List FC):Bool:=(Q.info? t).any fun i=>match i.zero with
 | some z=>ff mK1 zs z.cells.toList
 | none=>false
def vM(t:TypeId)(n:Option Nat):Bool:=match Q.underlying t,n with
 | some (.struct _),some n | some (.array _ _),some n=>c7 Q t n
 | some (.struct _),none | some (.array _ _),none=>false
 | some _,none=>true
 | _,_=>false
def ic:Nat→TypeId→Option (List CK)
 | 0,_=>none
 | d+1,t=>match Q.underlying t with
  | some .bool=>if c7 Q t 1 then some [.bool]else none
  | some (.int _)=>if c7 Q t 1 then some [.int]else none
  | some .string=>if c7 Q t 1 then some [.str]else none
  | some (.struct fs)=>if Q.stoodInHeld t then none else match pG (ic d) 0 fs.toList with
   | some ks=>if c7 Q t ks.length then some ks else none
   | none=>none
  | _=>none
 where
 pG (rec:TypeId→Option (List CK)) (off:Nat):List Field→Option (List CK)
  | []=>some []
  | f::fs=>if f.name≠ "_"∧f.offset=off then match rec f.type with
    | some ks=>match pG rec (off+ks.length) fs with
     | some r=>some (ks++r)
     | none=>none
    | none=>none
   else none
def sK:Operand→Bool
 | .const _=>true
 | _=>false
def mEq(k:Nr)(t:TypeId)(x y:Operand):Bool:=match Q.underlying t,k with
 | some .bool,.bool | some (.pointer _),.ptr | some (.slice _),.sl | some (.func _ _ _),.fn=>true
 | some (.interface _),.ifc=>sK x||sK y
 | some (.struct _),.st ks=>decide (ic Q 20 t=some ks)&&!Q.eqGuardType Q.depth t
 | _,_=>false
def mC(t:TypeId):Option TypeId:=match Q.underlying t with
 | some (.slice e)=>some e
 | _=>none
def apm(t:TypeId):Bool:=match Q.underlying t with
 | some (.int .u8)=>true
 | _=>false
def du(c:Call):cK→Bool
 | .len x=>match c.callee,c.args.toList,c.argTypes.toList with
  | .builtin .len,[y],[t]=>mA σ x y&&(match Q.underlying t with | some (.slice _)=>true | _=>false)
  | _,_,_=>false
 | .lens x=>match c.callee,c.args.toList,c.argTypes.toList with
  | .builtin .len,[y],[t]=>mA σ x y&&(match Q.underlying t with | some .string=>true | _=>false)
  | _,_,_=>false
 | .uS n=>match c.callee,c.args.toList,c.argTypes.toList with
  | .builtin .len,[_],[t]=>(match Q.underlying t with | some (.array m _)=>decide (n=m) | _=>false)
  | _,_,_=>false
 | .append sz bytes x y=>match c.callee,c.args.toList,c.argTypes.toList with
  | .builtin .append,[u,v],[t,b]=>mA σ x u&&mA σ y v&&(mC Q t).any (fun e=>c7 Q e sz&&nh Q e bytes&&decide (0<sz)&&(Q.info? e).any (fun i=>i.zero.any fun z=>decide (z.cells.size=sz)))
    && (match Q.underlying b with | some .string=>true | some (.slice _)=>true | _=>false)
  | _,_,_=>false
 | .sZ sz bytes zs x y=>match c.callee,c.args.toList,c.argTypes.toList with
  | .builtin .append,[u,v],[t,b]=>mA σ x u&&mA σ y v&&(mC Q t).any (fun e=>c7 Q e sz&&nh Q e bytes&&decide (0<sz)&&kz Q e zs)
    && (match Q.underlying b with | some (.int _)=>true | _=>false)
  | _,_,_=>false
 | .copy sz x y=>match c.callee,c.args.toList,c.argTypes.toList with
  | .builtin .copy,[u,v],[t,_]=>mA σ x u&&mA σ y v&&(mC Q t).any (fun e=>c7 Q e sz)
  | _,_,_=>false
 | .mP lo xs=>match c.callee,lo with
  | .builtin .max,false | .builtin .min,true=>mAs σ xs c.args
  | _,_=>false
 | .cap x=>match c.callee,c.args.toList,c.argTypes.toList with
  | .builtin .cap,[y],[t]=>mA σ x y&&(match Q.underlying t with | some (.slice _)=>true | _=>false)
  | _,_,_=>false
 | .clear sz zs x=>match c.callee,c.args.toList,c.argTypes.toList with
  | .builtin .clear,[y],[t]=>mA σ x y&&(mC Q t).any (fun e=>c7 Q e sz&&kz Q e zs)
  | _,_,_=>false
 | .recover=>match c.callee with
  | .builtin .recover=>true
  | _=>false
 | .call f xs _=>match c.callee with
  | .value (.func g)=>σ f == g&&mAs σ xs c.args
  | _=>false
 | .bR x xs _=>match c.callee with
  | .value y=>mA σ x y&&mAs σ xs c.args
  | _=>false
 | _=>false
def Oh(b:CK)(t:TypeId):Bool:=match Q.underlying t,b with
 | some (.int _),.int | some .string,.str | some .bool,.bool=>true
 | _,_=>false
def aaY(t:TypeId)(qs:List (Nat × Nat × Arg))(ps:List (Nat × Operand)):Bool:=match Q.underlying t with
 | some (.struct b)=>match b.toList.mapM (fun f=>(Q.info? f.type).map fun i=>(f.offset,i.size))with
  | some d=>ff (fun(q:Nat × Nat × Arg) (p:Nat × Operand)=>decide (d[p.1]?=some (q.1,q.2.1))&&mA σ q.2.2 p.2) qs ps
  | none=>false
 | some (.array _ e)=>match Q.info? e with
  | some i=>ff (fun(q:Nat × Nat × Arg) (p:Nat × Operand)=>i.size == q.2.1&&q.1 == p.1*q.2.1&&mA σ q.2.2 p.2) qs ps
  | none=>false
 | _=>false
def dp(o:Oper)(a:cK):Bool:=match a with
 | .bad=>true
 | .bf y=>(match o.op with | .move x | .assign x=>mA σ y x | _=>false)
 | .pre .nil sz=>(match o.op with | .move (.const (.slice none 0 0)) | .assign (.const (.slice none 0 0))=>decide (0<sz) | _=>false)
 | .pick L A H=>(match o.op with | .pick c x y=>mA σ L c&&mA σ A x&&mA σ H y | _=>false)
 | .alloc zs=>(match o.op with | .alloc t=>kz Q t zs | _=>false)
 | .box y=>(match o.op with | .box _ x=>mA σ y x | _=>false)
 | .build zs qs=>(match o.op with | .build t ps=>kz Q t zs&&aaY Q σ t qs ps.toList | _=>false)
 | .aO sz zs n' qs=>(match o.op with | .buildSlice t n ps=>n == n'&&decide (n*sz≤2 ^ 24)&&(mC Q t).any (fun e=>c7 Q e sz&&kz Q e zs&&decide (zs.length=sz))&&decide (0<sz)&&ff (fun(q:Nat × Arg) (p:Nat × Operand)=>q.1 == p.1&&mA σ q.2 p.2) qs ps.toList | _=>false)
 | .gv sz zs n' qs=>(match o.op with | .buildSlice t n ps=>n == n'&&decide (n*sz≤2 ^ 24)&&(mC Q t).any (fun e=>c7 Q e sz&&kz Q e zs&&decide (zs.length=sz))&&decide (0<sz)&&ff (fun(q:Nat × Arg) (p:Nat × Operand)=>q.1 == p.1&&mA σ q.2 p.2) qs ps.toList | _=>false)
 | .load n y=>(match o.op with | .load t x=>vM Q t n&&mA σ y x | _=>false)
 | .store n A H=>(match o.op with | .store t x y=>c7 Q t n&&mA σ A x&&mA σ H y | _=>false)
 | .bh y=>(match o.op with | .nilCheck x=>mA σ y x | _=>false)
 | .bin F A H=>(match o.op with | .binOp J t x y _=>decide (J=F)&&mA σ A x&&mA σ H y | _=>false)
 | .eq neg k A H=>(match o.op with | .binOp J t x y _=>decide (J=if neg then .neq else .eql)&&mA σ A x&&mA σ H y&&mEq Q k t x y | _=>false)
 | .un F y=>(match o.op with | .unOp J _ x=>decide (J=F)&&mA σ y x | _=>false)
 | .ek k y=>(match o.op with | .convert s d x=>mA σ y x&&(Q.underlying s).isSome&&(match Q.underlying d with | some (.int k')=>decide (k=k') | _=>false) | _=>false)
 | .zQ y=>(match o.op with | .convert s d x=>mA σ y x&&(match Q.underlying s,Q.underlying d with | some .string,some .string=>true | _,_=>false) | _=>false)
 | .wq y=>(match o.op with | .convert s d x=>mA σ y x&&(match Q.underlying s,Q.underlying d with | some (.slice e),some .string=>apm Q e&&c7 Q e 1 | _,_=>false) | _=>false)
 | .kh g ys=>(match o.op with | .makeFunc (.func f) fst B=>fst.isEmpty&&σ g == f&&mAs σ ys B | _=>false)
 | .jz=>(match o.op with | .makeMap _ none=>true | _=>false)
 | .cP sz bytes zs S L=>(match o.op with | .makeSlice t l c=>mA σ S l&&mA σ L c&&(mC Q t).any (fun e=>c7 Q e sz&&nh Q e bytes&&kz Q e zs)&&decide (0<sz) | _=>false)
 | .slice sz y E b mx'=>(match o.op with | .slice t x lo hi mx=>mA σ y x&&mO σ E lo&&mO σ b hi&&mO σ mx' mx&&(mC Q t).any (fun e=>c7 Q e sz)&&decide (0<sz) | _=>false)
 | .wN sz y b mx'=>(match o.op with | .slice t x none (some hi) (some mx)=>mA σ y x&&mA σ b hi&&mA σ mx' mx&&(mC Q t).any (fun e=>c7 Q e sz)&&decide (0<sz) | _=>false)
 | .qG y E b=>(match o.op with | .slice t x lo hi none=>mA σ y x&&mO σ E lo&&mO σ b hi&&(match Q.underlying t with | some .string=>true | _=>false) | _=>false)
 | .ku n sz y E b mx'=>(match o.op with | .slice t x lo hi mx=>mA σ y x&&mO σ E lo&&mO σ b hi&&mO σ mx' mx&&(match Q.underlying t with | some (.array n' e)=>n == n'&&c7 Q e sz | _=>false)&&decide (0<sz) | _=>false)
 | .aw off y=>(match o.op with | .fieldAddr t x i=>mA σ y x&&(match Q.underlying t with | some (.struct N)=>(match N[i]? with | some f=>f.offset == off&&(Q.info? f.type).any (fun i=>i.size != 0) | none=>false) | _=>false) | _=>false)
 | .field off n y=>(match o.op with | .field t x i=>mA σ y x&&(match Q.underlying t with | some (.struct N)=>(match N[i]? with | some f=>f.offset == off&&vM Q f.type n | none=>false) | _=>false) | _=>false)
 | .aP sz K A I=>(match o.op with | .indexAddr t x i=>mA σ A x&&mA σ I i&&(match Q.underlying t,K with | some (.slice e),none=>c7 Q e sz | some (.array n e),some n'=>n == n'&&c7 Q e sz | _,_=>false) | _=>false)
 | .idxs A I=>(match o.op with | .index t x i=>mA σ A x&&mA σ I i&&(match Q.underlying t with | some .string=>true | _=>false) | _=>false)
 | .pK n sz k A I=>(match o.op with | .index t x i=>mA σ A x&&mA σ I i&&(match Q.underlying t with | some (.array n' e)=>n == n'&&c7 Q e sz&&vM Q e k | _=>false) | _=>false)
 | .lookup M z O k'=>(match o.op with | .lookup t m k U=>mA σ O m&&mA σ k' k&&(U ==(tf z).isSome)&&(match Q.underlying t with | some (.map kt e)=>Oh Q M kt&&kz Q e (sA ((tf z).getD z))&&(Q.info? e).any (fun i=>i.zero.any fun u=>if G_ ((tf z).getD z)then ajW u else akZ u) | _=>false) | _=>false)
 | .jw M O k' W=>(match o.op with | .mapUpdate t m k v=>mA σ O m&&mA σ k' k&&mA σ W v&&(match Q.underlying t with | some (.map kt _)=>Oh Q M kt | _=>false) | _=>false)
 | .range y=>(match o.op with | .range t x=>mA σ y x&&(match Q.underlying t with | some .string=>true | _=>false) | _=>false)
 | .next y=>(match o.op with | .next x true=>mA σ y x | _=>false)
 | .extract y j=>(match o.op with | .extract x i=>mA σ y x&&i == j | _=>false)
 | .defer x xs=>(match o.op with | .defer c=>(match c.callee with | .value y=>mA σ x y&&mAs σ xs c.args | _=>false) | _=>false)
 | .len x=>(match o.op with | .call c=>du Q σ c (.len x) | _=>false)
 | .lens x=>(match o.op with | .call c=>du Q σ c (.lens x) | _=>false)
 | .uS n=>(match o.op with | .call c=>du Q σ c (.uS n) | _=>false)
 | .append sz bytes x y=>(match o.op with | .call c=>du Q σ c (.append sz bytes x y) | _=>false)
 | .mP lo xs=>(match o.op with | .call c=>du Q σ c (.mP lo xs) | _=>false)
 | .sZ sz bytes zs x y=>(match o.op with | .call c=>du Q σ c (.sZ sz bytes zs x y) | _=>false)
 | .cap x=>(match o.op with | .call c=>du Q σ c (.cap x) | _=>false)
 | .clear sz zs x=>(match o.op with | .call c=>du Q σ c (.clear sz zs x) | _=>false)
 | .lu y=>(match o.op with | .range t x=>mA σ y x&&(match Q.underlying t with | some (.map _ _)=>true | _=>false) | _=>false)
 | .pU y=>(match o.op with | .next x false=>mA σ y x | _=>false)
 | .entry y=>(match o.op with | .entry x=>mA σ y x | _=>false)
 | .wv g ys=>(match o.op with | .makeFunc (.func f) fst B=>B.isEmpty&&σ g == f&&mAs σ ys fst | _=>false)
 | .recover=>(match o.op with | .call c=>du Q σ c (.recover) | _=>false)
 | .call f xs h=>(match o.op with | .call c=>du Q σ c (.call f xs h) | _=>false)
 | .bR x xs h=>(match o.op with | .call c=>du Q σ c (.bR x xs h) | _=>false)
 | _=>false
inductive Cls where | p | r | a | c | w
 deriving DecidableEq
def cls:cK→Cls
 | .bf _ | .pick .. | .build .. | .un .. | .ek .. | .zQ _ | .kh .. | .qG .. | .aw .. | .field .. | .idxs .. | .pK .. | .extract .. | .mP .. | .wv .. | .bh _ | .bin .. | .uS _ | .lens _ | .gv ..=>.p
 | .load .. | .eq .. | .len _ | .slice .. | .ku .. | .aP .. | .lookup .. | .wq _ | .cap _ | .entry _=>.r
 | .alloc _ | .box _ | .jz=>.a
 | .aO .. | .cP ..=>.a
 | .call _ _ false=>.c
 | _=>.w
def Arg.rd:Arg→List P
 | .r p=>[p]
 | .k _=>[]
def oRd:Option Arg→List P
 | some x=>x.rd
 | none=>[]
def cK.rd:cK→List P
 | .bf x | .box x | .load _ x | .bh x | .un _ x | .ek _ x | .zQ x | .wq x | .FU x | .aw _ x | .field _ _ x | .range x | .next x | .extract x _ | .len x | .lens x | .cap x | .clear _ _ x | .lu x | .pU x | .entry x=>x.rd
 | .pre _ _ | .alloc _ | .jz | .recover | .uS _ | .bad=>[]
 | .pick c a b=>c.rd++a.rd++b.rd
 | .build _ ps=>ps.flatMap fun p=>p.2.2.rd
 | .aO _ _ _ ps | .gv _ _ _ ps=>ps.flatMap fun p=>p.2.rd
 | .store _ x y | .bin _ x y | .eq _ _ x y | .aP _ _ x y | .idxs x y | .pK _ _ _ x y | .append _ _ x y | .copy _ x y | .sZ _ _ _ x y | .lookup _ _ x y | .cP _ _ _ x y=>x.rd++y.rd
 | .jw _ x y z | .wN _ x y z=>x.rd++y.rd++z.rd
 | .kh _ xs | .call _ xs _ | .mP _ xs | .wv _ xs=>xs.flatMap Arg.rd
 | .bR x xs _ | .defer x xs=>x.rd++xs.flatMap Arg.rd
 | .slice _ x a b c | .ku _ _ x a b c=>x.rd++oRd a++oRd b++oRd c
 | .qG x a b=>x.rd++oRd a++oRd b
def aH.rd(o:aH):List P:=(match o.g with | some (p,_)=>[p] | none=>[])++o.op.rd
def aH.apart(x y:aH):Bool:=
 (match x.dst with | some d=>!y.rd.contains d&&y.dst != some d | none=>true)&&(match y.dst with | some d=>!x.rd.contains d | none=>true)
def uC(x y:aH):Bool:=
 match cls x.op,cls y.op with
 | .p,_ | _,.p=>true
 | .r,.w | .w,.r=>true
 | .w,_ | _,.w=>false
 | _,_=>true
def mN(b:List Nat)(o:Oper):Nat:=o.after.toList.foldl (fun s e=>if Region.binds .any e then s ||| 2 ^ e.on ||| b.getD e.on 0 else s) 0
def db:List Oper→List Nat→List Nat
 | [],b=>b
 | o::os,b=>db os (b++[mN b o])
def A3(b:List Nat)(i j:Nat):Bool:=(b.getD j 0).testBit i
def nI(aos:List aH):List Nat:=(List.range aos.length).filter fun j=>match aos[j]? with
 | some y=>decide (cls y.op=.w)
 | none=>false
def phase(aos:List aH)(i:Nat):Nat:=i+((aos.drop i).takeWhile fun y=>decide (cls y.op≠.w)).length
def H_(b:List Nat)(aos:List aH)(i e:Nat):Bool:=
 (nI aos).all fun j=>if j<e then !A3 b i j else !A3 b j i
def af4(b:List Nat)(aos:List aH)(j:Nat):Bool:=match aos[j]? with
 | some y=>(match y.op with | .alloc _=>true | _=>false)&&(nI aos).any fun e=>decide (e<j)&&!A3 b e j
 | none=>false
def kd(b:List Nat)(aos:List aH):Nat:=((List.range aos.length).find? (af4 b aos)).getD aos.length
def HG(b:List Nat)(aos:List aH)(j:Nat):Bool:=match aos[j]? with
 | some y=>y.g.isNone&&(match y.op with | .alloc _=>true | _=>false)&&(match y.dst with
  | some p=>(List.range aos.length).all fun i=>match aos[i]? with
   | some z=>!z.rd.contains p||(nI aos).all fun e=>!decide (e<j)||A3 b e i
   | none=>true
  | none=>false)
 | none=>true
def abf(ops:List Oper)(aos:List aH)(d:List (Nat × Nat)):Bool:=
 let b:=db ops []
 let n:=aos.length
 ((ops.zip (List.range n)).all fun o=>o.1.after.toList.all fun e=>!Region.binds .any e||decide (e.on<o.2)) &&
 ((List.range n).all fun j=>(List.range j).all fun i=>A3 b i j||(match aos[i]?,aos[j]? with
  | some x,some y=>x.apart y&&(uC x y||(decide (j=kd b aos)&&decide (cls x.op=.w)))
  | _,_=>false)) &&
 HG b aos (kd b aos) &&
 ((List.range n).all fun i=>match aos[i]? with
  | some x=>if cls x.op=.r then(nI aos++[n]).all fun e=>e == phase aos i||!H_ b aos i e||d.contains (i,e)else true
  | none=>false)
variable(Q:Program)(σ:Nat→FuncId)
def kg(n:Nat)(ops:Array Oper)(o:Oper)(a:aH):Bool:=
 dp Q σ o a.op &&
 (match o.dst,a.dst with | some d,some p=>p.toNat == d&&decide (d<n) | none,none=>true | _,_=>false) &&
 (match o.guard,a.g with
  | some (j,w),some (p,w')=>w == w'&&(match (ops[j]?).bind (·.dst)with | some d=>p.toNat == d&&decide (d<n) | none=>false)
  | none,none=>true
  | _,_=>false)
def lF:aq→Bool
 | .seq a b=>lF a&&lF b
 | .bad=>false
 | _=>true
def bS(n:Nat):Code→aq→Bool
 | _,.bad=>true
 | .skip,.skip=>true
 | .region _ ops g,.region aos j=>ff (kg Q σ n ops) ops.toList aos&&(!g||abf ops.toList aos j)
 | .seq a b,.seq a' d=>bS n a a'&&bS n b d
 | .cond c a b,.cond v a' d=>mA σ v c&&bS n a a'&&bS n b d
 | .block i a,.block m a'=>i == m&&bS n a a'
 | .loop a,.loop a'=>bS n a a'
 | .rangeFunc f ps a b,.jQ x u a' d=>mA σ x f&&ff (fun p (q:P)=>q.toNat == p&&decide (p<n)) ps.toList u&&bS n a a'&&bS n b d
 | .exit i,.exit m=>i == m
 | .scope a,.scope a'=>bS n a a'&&lF a'
 | .label l,.label s=>l == s
 | .goto l,.goto s=>l == s
 | .ret,.ret=>true
 | _,_=>false
def Al(n:Nat):ResultVar→iq→Bool
 | .tmp t,.tmp p=>p.toNat == t&&decide (t<n)
 | .cell t b,.cell p k=>p.toNat == t&&decide (t<n)&&vM Q b k
 | _,_=>false
def H7(f:Func)(a:ax):Bool:=
 f.name != "runtime.NumGoroutine" &&
 (match f.body with | some b=>bS Q σ f.ntmps b a.body | none=>false) &&
 ff (Al Q f.ntmps) f.results.toList a.results &&
 decide (a.ps.map P.toNat=List.range a.ps.length)
end
end
section
def A2{α β:Type}(R:α→β→Prop)(xs:List α)(ys:List β):Prop:=
 xs.length=ys.length∧∀(i:Nat) x y,xs[i]?=some x→ys[i]?=some y→R x y
section A2
variable{α β:Type}{R S:α→β→Prop}{xs xs':List α}{ys ys':List β}
theorem A2.len(h:A2 R xs ys):xs.length=ys.length:=h.1
theorem A2.nil:A2 R [] []:=⟨rfl,by simp⟩
theorem A2.mono(h:A2 R xs ys)(d:∀ x y,x ∈ xs→R x y→S x y):A2 S xs ys:=
 ⟨h.1,fun i x y b hy=>d x y (List.mem_of_getElem? b) (h.2 i x y b hy)⟩
theorem A2.get(h:A2 R xs ys){i:Nat}{x:α}(b:xs[i]?=some x):∃ y,ys[i]?=some y∧R x y:=by
 have hi:i<xs.length:=(BY.1 b).1;have hy:i<ys.length:=h.1▸hi;exact⟨ys[i],AI hy,h.2 i x _ b (AI hy)⟩
theorem A2.cons{x:α}{y:β}(j:R x y)(h:A2 R xs ys):A2 R (x::xs) (y::ys):=
 ⟨by simp [h.1],fun i a b d g=>by
  cases i with
  | zero=>simp at d g;subst d;subst g;exact j
  | succ i=>simp at d g;exact h.2 i a b d g⟩
theorem A2.of_cons{x:α}{y:β}(h:A2 R (x::xs) (y::ys)):R x y∧A2 R xs ys:=
 ⟨h.2 0 x y rfl rfl,by simpa using h.1,fun i a b d g=>h.2 (i+1) a b (by simpa using d) (by simpa using g)⟩
theorem A2.append(h:A2 R xs ys)(j:A2 R xs' ys'):A2 R (xs++xs') (ys++ys'):=
 ⟨by simp [h.1,j.1],fun i a b d g=>by
  by_cases hi:i<xs.length
  ·rw [AT hi]at d;rw [AT (h.1▸hi)]at g;exact h.2 i a b d g
  ·rw [avM (by omega)]at d
   rw [avM (by have:=h.1;omega),←h.1]at g
   exact j.2 _ a b d g⟩
theorem A2.take(h:A2 R xs ys)(n:Nat):A2 R (xs.take n) (ys.take n):=
 ⟨by simp [h.1],fun i a b d g=>by
  rw [av6]at d g;split at d
  ·rename_i hi;simp only [hi,if_true]at g;exact h.2 i a b d g
  ·simp at d⟩
theorem A2.drop(h:A2 R xs ys)(n:Nat):A2 R (xs.drop n) (ys.drop n):=
 ⟨by simp [h.1],fun i a b d g=>by
  rw [avU]at d g
  exact h.2 _ a b d g⟩
theorem A2.map{l:Type}{g:l→α}{zs:List l}(h:A2 (fun z y=>R (g z) y) zs ys):A2 R (zs.map g) ys:=
 ⟨by simpa using h.1,fun i a b d m=>by
  rw [awx]at d
  cases j:zs[i]? with
  | none=>rw [j]at d;simp at d
  | some z=>rw [j]at d;simp at d;subst d;exact h.2 i z b j m⟩
theorem A2.kC(h:A2 R xs ys)(b:∀ x y,R x y→S x y):A2 S xs ys:=h.mono fun x y _=>b x y
end A2
inductive cD(σ:Nat→FuncId)(F:Nat→Nat→Prop)(w:World):FC→Value→Prop
 | bool (b:Bool):cD σ F w (.bool b) (.bool b)
 | int (k:IntKind) (n:Int):cD σ F w (.int k n) (.int k n)
 | str (s:ByteArray):cD σ F w (.str s) (.string s)
 | fU:cD σ F w .fU (.pointer none)
 | ay:cD σ F w .ay (.slice none 0 0)
 | es (a:Addr):cD σ F w .es (.slice (some a) 0 0)
 | jk:cD σ F w .jk .nilFunc
 | lZ:cD σ F w .lZ .nilIface
 | wF:cD σ F w .wF (.map none)
 | fp (cs:List FC) (off c o:Nat) (us:List Value) (hl:us.length=cs.length) (hF:∀ i,i<cs.length→F c (o+i))
   (hc:∀(i:Nat) u,us[i]?=some u→w.cell? ⟨c,o+i,none⟩=some u) (hr:∀(i:Nat) x u,cs[i]?=some x→us[i]?=some u→cD σ F w x u) :
   cD σ F w (.fp cs off) (.pointer (some ⟨c,o+off,none⟩))
 | fs (cs:List FC) (l c o cap:Nat) (us:List Value) (avm:l≤cap) (hl:us.length=cs.length) (hF:∀ i,i<cs.length→F c (o+i))
   (hc:∀(i:Nat) u,us[i]?=some u→w.cell? ⟨c,o+i,none⟩=some u) (hr:∀(i:Nat) x u,cs[i]?=some x→us[i]?=some u→cD σ F w x u) :
   cD σ F w (.fs cs l) (.slice (some ⟨c,o,none⟩) l cap)
 | fs0 (a:Addr) (cap:Nat):cD σ F w (.fs [] 0) (.slice (some a) 0 cap)
 | fn (f:Nat) (NI:List FC) (us:List Value) (hl:us.length=NI.length) (hr:∀(i:Nat) x u,NI[i]?=some x→us[i]?=some u→cD σ F w x u) :
   cD σ F w (.fn f NI) (.func (.func (σ f)) #[] us.toArray)
theorem cD.mono{σ:Nat→FuncId}{F q:Nat→Nat→Prop}{w w':World}(s:∀ c i,F c i→q c i)
  (y:∀ c i,F c i→w'.cell? ⟨c,i,none⟩=w.cell? ⟨c,i,none⟩) {x:FC} {v:Value} (h:cD σ F w x v):cD σ q w' x v:=by
 induction h with
 | fp cs off c o us d b hc hr m=>
  refine .fp cs off c o us d (fun i hi=>s _ _ (b i hi)) (fun i u hu=>?_) m
  rw [y c (o+i) (b i (by rw [←d];exact(BY.1 hu).1))];exact hc i u hu
 | fs cs l c o cap us j d b hc hr m=>
  refine .fs cs l c o cap us j d (fun i hi=>s _ _ (b i hi)) (fun i u hu=>?_) m
  rw [y c (o+i) (b i (by rw [←d];exact(BY.1 hu).1))];exact hc i u hu
 | fn f g us d hr m=>exact .fn f g us d m
 | _=>constructor
theorem cD.one{σ:Nat→FuncId}{F:Nat→Nat→Prop}{w:World}{x:FC}{v:Value}(h:cD σ F w x v):v.oneCell'=true:=by
 cases h<;>rfl
structure Loc where
 c:Nat
 cap:Nat
structure Wd where
 bU:Nat→Option Loc
 F:Nat→Nat→Prop
 H:ai
 w:World
 B:Nat
variable(σ:Nat→FuncId)
def fy(X:Wd):C→Value→Prop
 | .f x,v=>cD σ X.F X.w x v
 | .ptr b off g,v=>∃ L,X.bU b=some L∧match X.H[b]? with
  | some (.box _ _)=>v=.pointer (some ⟨L.c,off,none⟩)
  | some (.bE _ _ _ e .loc)=>g≤e∧(g=e→v=.pointer (some ⟨L.c,off,none⟩))∧∃ a,v=.pointer (some a)
  | _=>False
 | .sl b o l cap g sz,v=>match X.H[b]? with
  | some (.box _ _)=>∃ L,X.bU b=some L∧l≤cap∧v=.slice (some ⟨L.c,o,none⟩) l cap
  | some (.bE s _ _ e st)=>g≤e∧(g=e→sz=s→match st with
    | .loc=>∃ L,X.bU b=some L∧∃ k,o=k*s∧k+l≤L.cap∧v=.slice (some ⟨L.c,o,none⟩) l (L.cap-k)
    | .nil=>o=0∧l=0∧v=.slice none 0 0
    | .es=>o=0∧l=0∧∃ a,v=.slice (some a) 0 0)∧∃ a n c,v=.slice a n c
  | _=>False
 | .cl _ _,_=>False
 | .yl b,v=>∃ L,X.bU b=some L∧(∃ f t p a j s q d,X.H[b]?=some (.lp f t p a j s q d))∧v=.func (.yield L.c) #[] #[]
 | .mp b,v=>∃ L,X.bU b=some L∧(∃ u,X.H[b]?=some (.map u))∧v=.map (some L.c)
 | .it b,v=>∃ L,X.bU b=some L∧(∃ s p,X.H[b]?=some (.it s p))∧v=.pointer (some ⟨L.c,0,none⟩)
 | .mi b,v=>∃ L,X.bU b=some L∧(∃ m s d,X.H[b]?=some (.vV m s d))∧v=.pointer (some ⟨L.c,0,none⟩)
 | .bm _ _,_=>False
def CR(X:Wd):C→Value→Prop
 | .cl f b,v=>∃ us,v=.func (.func (σ f)) #[] us.toArray∧A2 (fy σ X) b us
 | .bm f first,v=>∃ us,v=.func (.func (σ f)) us.toArray #[]∧A2 (fy σ X) first us
 | x,v=>fy σ X x v
theorem fy.one{X:Wd}{x:C}{v:Value}(h:fy σ X x v):v.oneCell'=true:=by
 cases x with
 | f x=>exact cD.one h
 | ptr b off g=>
  obtain⟨L,_,h⟩:=h;split at h
  ·subst h;rfl
  ·obtain⟨_,_,a,rfl⟩:=h;rfl
  ·exact h.elim
 | sl b o l cap g sz=>
  simp only [fy]at h;split at h
  ·obtain⟨L,_,_,rfl⟩:=h;rfl
  ·obtain⟨_,_,a,n,c,rfl⟩:=h;rfl
  ·exact h.elim
 | cl f d=>exact h.elim
 | yl b=>obtain⟨L,_,_,rfl⟩:=h;rfl
 | mp b=>obtain⟨L,_,_,rfl⟩:=h;rfl
 | it b=>obtain⟨L,_,_,rfl⟩:=h;rfl
 | mi b=>obtain⟨L,_,_,rfl⟩:=h;rfl
 | bm f first=>exact h.elim
theorem CR.one{X:Wd}{x:C}{v:Value}(h:CR σ X x v):v.oneCell'=true:=by
 cases x with
 | cl f j=>obtain⟨us,rfl,_⟩:=h;rfl
 | bm f first=>obtain⟨us,rfl,_⟩:=h;rfl
 | mi b=>exact fy.one σ (x:=.mi b) h
 | f y=>exact fy.one σ (x:=.f y) h
 | ptr a b c=>exact fy.one σ (x:=.ptr a b c) h
 | sl a b c d e g=>exact fy.one σ (x:=.sl a b c d e g) h
 | yl b=>exact fy.one σ (x:=.yl b) h
 | mp b=>exact fy.one σ (x:=.mp b) h
 | it b=>exact fy.one σ (x:=.it b) h
theorem CR.of1{X:Wd}{x:C}{v:Value}(h:fy σ X x v):CR σ X x v:=by
 cases x with
 | cl f b=>exact h.elim
 | bm f first=>exact h.elim
 | _=>exact h
def ik(X:Wd):V→Value→Prop
 | .top,_=>True
 | .c x,v=>CR σ X x v
 | .a xs,v=>∃ us,v=.agg us.toArray∧A2 (CR σ X) xs us
 | .t _,_=>False
def VR(X:Wd):V→Value→Prop
 | .t b,v=>∃ us,v=.tuple us.toArray∧A2 (ik σ X) b us
 | x,v=>ik σ X x v
theorem VR.of1{X:Wd}{x:V}{v:Value}(h:ik σ X x v):VR σ X x v:=by
 cases x with
 | t b=>exact h.elim
 | _=>exact h
def rowAt(w:World)(c:Nat)(us:List Value):Prop:=
 ∃ e fr,w.heap[c]?=some (.cells us.toArray e fr)∧∀ i,i<us.length→¬(fr.1≤i∧i<fr.2)
def lN(X X':Wd)(b:Nat):Prop:=
 ∀ aX,X.H[b]?=some aX→∃ blk',X'.H[b]?=some blk'∧match aX,blk' with
  | .box _ _,.box _ _=>∀ L,X.bU b=some L→X'.bU b=some L
  | .bE s _ _ e st,.bE s' _ _ j g=>s=s'∧((e=j∧st=g∧∀ L,X.bU b=some L→X'.bU b=some L)∨(e<j∧g=.loc∧∃ L,X'.bU b=some L))
  | .map _,.map _=>∀ L,X.bU b=some L→X'.bU b=some L
  | .it _ _,.it _ _=>∀ L,X.bU b=some L→X'.bU b=some L
  | .jM _,.jM _=>∀ L,X.bU b=some L→X'.bU b=some L
  | .vV m s _,.vV v s' _=>(m=v∧s=s')∧∀ L,X.bU b=some L→X'.bU b=some L
  | .lp f t p a c _ _ d,.lp u y x a' l _ _ q=>(f=u∧t=y∧p=x∧a=a'∧c=l∧d=q)∧∀ L,X.bU b=some L→X'.bU b=some L
  | _,_=>False
structure Ext(N:Nat)(X X':Wd):Prop where
 B:X'.B=X.B
 F:∀ c i,X.F c i→X'.F c i
 oZ:∀ c i,X'.F c i→X.F c i∨X.w.heap.size≤c∨∃ b L,X.bU b=some L∧L.c=c
 fw:∀ c i,X.F c i→X'.w.cell? ⟨c,i,none⟩=X.w.cell? ⟨c,i,none⟩
 bN:∀ b,b<N→lN X X' b
 xV:∀ b L,X'.bU b=some L→(∃ b0 L0,X.bU b0=some L0∧L0.c=L.c)∨X.w.heap.size≤L.c
 size:X.w.heap.size≤X'.w.heap.size
 os:X'.w.os=X.w.os
 tape:X'.w.tape=X.w.tape
 output:X'.w.output=X.w.output
 frame:∀ k,k<X.w.heap.size→(∀ b L,X.bU b=some L→L.c≠k)→X'.w.heap[k]?=X.w.heap[k]?
structure oV(N:Nat)(X X':Wd):Prop where
 F:∀ c i,X.F c i→X'.F c i
 fw:∀ c i,X.F c i→X'.w.cell? ⟨c,i,none⟩=X.w.cell? ⟨c,i,none⟩
 bN:∀ b,b<N→lN X X' b
theorem Ext.W{N:Nat}{X X':Wd}(h:Ext N X X'):oV N X X':=⟨h.F,h.fw,h.bN⟩
theorem lN.refl(X:Wd)(b:Nat):lN X X b:=fun aX h=>⟨aX,h,by cases aX<;>simp⟩
theorem lN.trans{X Y Z:Wd}{b:Nat}(h:lN X Y b)(k:lN Y Z b):lN X Z b:=by
 intro aX v;obtain⟨blk',s,g⟩:=h aX v;obtain⟨l,m,d⟩:=k blk' s;refine⟨l,m,?_⟩;cases aX<;>cases blk'<;>simp only at g<;>cases l<;>simp only at d ⊢
 case box=>exact fun L j=>d L (g L j)
 case map=>exact fun L j=>d L (g L j)
 case it=>exact fun L j=>d L (g L j)
 case jM=>exact fun L j=>d L (g L j)
 case vV=>
  obtain⟨⟨rfl,rfl⟩,g⟩:=g;obtain⟨⟨rfl,rfl⟩,d⟩:=d;exact⟨⟨rfl,rfl⟩,fun L j=>d L (g L j)⟩
 case lp=>
  obtain⟨⟨rfl,rfl,rfl,rfl,rfl,rfl⟩,g⟩:=g;obtain⟨⟨rfl,rfl,rfl,rfl,rfl,rfl⟩,d⟩:=d;exact⟨⟨rfl,rfl,rfl,rfl,rfl,rfl⟩,fun L j=>d L (g L j)⟩
 case bE=>
  obtain⟨rfl,g⟩:=g;obtain⟨rfl,d⟩:=d;refine⟨rfl,?_⟩;rcases g with⟨rfl,rfl,g⟩ | ⟨g,rfl,L,j⟩
  ·rcases d with⟨rfl,rfl,d⟩ | ⟨d,rfl,L,j⟩
   ·exact .inl ⟨rfl,rfl,fun L j=>d L (g L j)⟩
   ·exact .inr ⟨d,rfl,L,j⟩
  ·rcases d with⟨rfl,rfl,d⟩ | ⟨d,rfl,u,q⟩
   ·exact .inr ⟨g,rfl,L,d L j⟩
   ·exact .inr ⟨by omega,rfl,u,q⟩
theorem Ext.refl(N:Nat)(X:Wd):Ext N X X:=
 ⟨rfl,fun _ _ h=>h,fun _ _ h=>.inl h,fun _ _ _=>rfl,fun b _=>lN.refl X b,fun b L h=>.inl ⟨b,L,h,rfl⟩,aft _,rfl,rfl,rfl,fun _ _ _=>rfl⟩
theorem Ext.trans{N:Nat}{X Y Z:Wd}(h:Ext N X Y)(k:Ext N Y Z):Ext N X Z where
 B:=k.B.trans h.B
 F:=fun c i l=>k.F c i (h.F c i l)
 oZ:=fun c i l=>by
  rcases k.oZ c i l with d | d | ⟨b,L,g,rfl⟩
  ·exact h.oZ c i d
  ·exact .inr (.inl (avV h.size d))
  ·rcases h.xV b L g with⟨b0,m,q,d⟩ | d
   ·exact .inr (.inr ⟨b0,m,q,d⟩)
   ·exact .inr (.inl d)
 fw:=fun c i l=>(k.fw c i (h.F c i l)).trans (h.fw c i l)
 bN:=fun b g=>(h.bN b g).trans (k.bN b g)
 xV:=fun b L g=>by
  rcases k.xV b L g with⟨b0,m,q,d⟩ | d
  ·rcases h.xV b0 m q with⟨b1,x,s,y⟩ | s
   ·exact .inl ⟨b1,x,s,y.trans d⟩
   ·exact .inr (d▸s)
  ·exact .inr (avV h.size d)
 size:=avV h.size k.size
 os:=k.os.trans h.os
 tape:=k.tape.trans h.tape
 output:=k.output.trans h.output
 frame:=fun j u v=>by
  rw [k.frame j (awr u h.size) (fun b L g hc=>?_)]
  ·exact h.frame j u v
  ·rcases h.xV b L g with⟨b0,m,q,d⟩ | d
   ·exact v b0 m q (d.trans hc)
   ·omega
theorem Ext.mono{N M:Nat}{X Y:Wd}(h:Ext N X Y)(g:M≤N):Ext M X Y:=
 {h with bN:=fun b d=>h.bN b (awr d g) }
theorem fy.under{X:Wd}{x:C}{v:Value}(h:fy σ X x v):x.ed X.H.length=true:=by
 have lt:∀(b:Nat) aX,X.H[b]?=some aX→b<X.H.length:=fun b aX g=>(BY.1 g).1
 cases x with
 | f x=>rfl
 | ptr b off u=>
  obtain⟨L,_,h⟩:=h;split at h
  ·rename_i g;simpa [C.ed]using lt _ _ g
  ·rename_i g;simpa [C.ed]using lt _ _ g
  ·exact h.elim
 | sl b o l cap u sz=>
  simp only [fy]at h;split at h
  ·rename_i g;simpa [C.ed]using lt _ _ g
  ·rename_i g;simpa [C.ed]using lt _ _ g
  ·exact h.elim
 | cl f j=>exact h.elim
 | yl b=>obtain⟨L,_,⟨f,t,p,a,y,s,q,d,g⟩,rfl⟩:=h;simpa [C.ed]using lt _ _ g
 | mp b=>obtain⟨L,_,⟨es,g⟩,rfl⟩:=h;simpa [C.ed]using lt _ _ g
 | it b=>obtain⟨L,_,⟨s,p,g⟩,rfl⟩:=h;simpa [C.ed]using lt _ _ g
 | mi b=>obtain⟨L,_,⟨m,s,d,g⟩,rfl⟩:=h;simpa [C.ed]using lt _ _ g
 | bm f first=>exact h.elim
theorem fy.pF{N:Nat}{X X':Wd}(z:oV N X X'){x:C}{v:Value}(hu:x.ed N=true)(h:fy σ X x v):fy σ X' x v:=by
 cases x with
 | f x=>exact cD.mono z.F z.fw h
 | ptr b off M=>
  obtain⟨L,y,h⟩:=h;have E:=z.bN b (by simpa [C.ed]using hu)
  split at h
  ·rename_i cs F u;obtain⟨blk',g,j⟩:=E _ u;cases blk'<;>simp only at j;exact⟨L,j L y,by rw [g];exact h⟩
  ·rename_i s cs F e u;obtain⟨blk',g,j⟩:=E _ u;cases blk'<;>simp only at j;obtain⟨rfl,⟨rfl,rfl,A⟩ | ⟨A,rfl,J,B⟩⟩:=j
   ·exact⟨L,A L y,by rw [g];exact h⟩
   ·exact⟨J,B,by rw [g];exact⟨by omega,fun H=>by omega,h.2.2⟩⟩
  ·exact h.elim
 | sl b o l cap M sz=>
  simp only [fy]at h ⊢;have E:=z.bN b (by simpa [C.ed]using hu)
  split at h
  ·rename_i cs F u;obtain⟨L,y,h⟩:=h;obtain⟨blk',g,j⟩:=E _ u;cases blk'<;>simp only at j;rw [g];exact⟨L,j L y,h⟩
  ·rename_i s cs F e st u;obtain⟨blk',g,j⟩:=E _ u;cases blk'<;>simp only at j;rw [g];obtain⟨rfl,⟨rfl,rfl,A⟩ | ⟨A,rfl,J,B⟩⟩:=j
   ·refine⟨h.1,fun H O=>?_,h.2.2⟩
    have I:=h.2.1 H O
    cases st with
    | loc=>obtain⟨L,y,Q⟩:=I;exact⟨L,A L y,Q⟩
    | nil=>exact I
    | es=>exact I
   ·exact⟨by omega,fun H=>by omega,h.2.2⟩
  ·exact h.elim
 | cl f K=>exact h.elim
 | yl b=>
  obtain⟨L,y,⟨f,t,p,a,S,s,q,d,u⟩,rfl⟩:=h;obtain⟨blk',g,j⟩:=z.bN b (by simpa [C.ed]using hu) _ u
  cases blk'<;>simp only at j
  exact⟨L,j.2 L y,⟨_,_,_,_,_,_,_,_,g⟩,rfl⟩
 | mp b=>
  obtain⟨L,y,⟨es,u⟩,rfl⟩:=h;obtain⟨blk',g,j⟩:=z.bN b (by simpa [C.ed]using hu) _ u
  cases blk'<;>simp only at j
  exact⟨L,j L y,⟨_,g⟩,rfl⟩
 | it b=>
  obtain⟨L,y,⟨s,p,u⟩,rfl⟩:=h;obtain⟨blk',g,j⟩:=z.bN b (by simpa [C.ed]using hu) _ u
  cases blk'<;>simp only at j
  exact⟨L,j L y,⟨_,_,g⟩,rfl⟩
 | mi b=>
  obtain⟨L,y,⟨m,s,d,u⟩,rfl⟩:=h;obtain⟨blk',g,j⟩:=z.bN b (by simpa [C.ed]using hu) _ u
  cases blk'<;>simp only at j
  exact⟨L,j.2 L y,⟨_,_,_,g⟩,rfl⟩
 | bm f first=>exact h.elim
theorem CR.pF{N:Nat}{X X':Wd}(j:oV N X X'){x:C}{v:Value}(hu:x.under N=true)(h:CR σ X x v):CR σ X' x v:=by
 cases x with
 | cl f m=>
  obtain⟨us,rfl,h⟩:=h;refine⟨us,rfl,h.mono fun y u hy l=>fy.pF σ j ?_ l⟩
  exact avP.1 hu y hy
 | bm f first=>
  obtain⟨us,rfl,h⟩:=h;refine⟨us,rfl,h.mono fun y u hy l=>fy.pF σ j ?_ l⟩
  exact avP.1 hu y hy
 | mi b=>exact fy.pF σ j (x:=.mi b) hu h
 | f y=>exact fy.pF σ j (x:=.f y) hu h
 | ptr a b c=>exact fy.pF σ j (x:=.ptr a b c) hu h
 | sl a b c d e g=>exact fy.pF σ j (x:=.sl a b c d e g) hu h
 | yl b=>exact fy.pF σ j (x:=.yl b) hu h
 | mp b=>exact fy.pF σ j (x:=.mp b) hu h
 | it b=>exact fy.pF σ j (x:=.it b) hu h
end
section
variable(Q:Program)(σ:Nat→FuncId)
theorem CR.under{X:Wd}{x:C}{v:Value}(h:CR σ X x v):x.under X.H.length=true:=by
 cases x with
 | cl f j=>
  obtain⟨us,rfl,h⟩:=h;simp only [C.under,avP];intro y hy;obtain⟨i,hi⟩:=awq hy;obtain⟨u,_,hu⟩:=h.get hi
  exact fy.under σ hu
 | bm f j=>
  obtain⟨us,rfl,h⟩:=h;simp only [C.under,avP];intro y hy;obtain⟨i,hi⟩:=awq hy;obtain⟨u,_,hu⟩:=h.get hi
  exact fy.under σ hu
 | mi b=>exact fy.under σ (x:=.mi b) h
 | f y=>rfl
 | ptr a b c=>exact fy.under σ (x:=.ptr a b c) h
 | sl a b c d e g=>exact fy.under σ (x:=.sl a b c d e g) h
 | yl b=>exact fy.under σ (x:=.yl b) h
 | mp b=>exact fy.under σ (x:=.mp b) h
 | it b=>exact fy.under σ (x:=.it b) h
theorem CR.dB{X X':Wd}(b:oV X.H.length X X'){x:C}{v:Value}(h:CR σ X x v):CR σ X' x v:=CR.pF σ b (CR.under σ h) h
theorem A2.dB{X X':Wd}(b:oV X.H.length X X'){xs:List C}{us:List Value}(h:A2 (CR σ X) xs us):A2 (CR σ X') xs us:=
 h.kC fun _ _ h=>CR.dB σ b h
theorem ik.dB{X X':Wd}(b:oV X.H.length X X'){x:V}{v:Value}(h:ik σ X x v):ik σ X' x v:=by
 cases x with
 | top=>trivial
 | c x=>exact CR.dB σ b h
 | a xs=>obtain⟨us,rfl,h⟩:=h;exact⟨us,rfl,A2.dB σ b h⟩
 | t d=>exact h.elim
theorem VR.dB{X X':Wd}(b:oV X.H.length X X'){x:V}{v:Value}(h:VR σ X x v):VR σ X' x v:=by
 cases x with
 | t d=>obtain⟨us,rfl,h⟩:=h;exact⟨us,rfl,h.kC fun _ _ h=>ik.dB σ b h⟩
 | top=>trivial
 | c x=>exact ik.dB σ (x:=.c x) b h
 | a xs=>exact ik.dB σ (x:=.a xs) b h
def RR(X:Wd)(au:T)(tmps:Array Value):Prop:=∀ p,VR σ X (au.get p) (tmps.getD p.toNat undef)
theorem RR.dB{X X':Wd}(b:oV X.H.length X X'){au:T}{tmps:Array Value}(h:RR σ X au tmps):RR σ X' au tmps:=fun p=>VR.dB σ b (h p)
theorem CR.ext'{X X':Wd}(b:Ext X.H.length X X'){x:C}{v:Value}(h:CR σ X x v):CR σ X' x v:=CR.dB σ b.W h
theorem A2.ext'{X X':Wd}(b:Ext X.H.length X X'){xs:List C}{us:List Value}(h:A2 (CR σ X) xs us):A2 (CR σ X') xs us:=A2.dB σ b.W h
theorem ik.ext'{X X':Wd}(b:Ext X.H.length X X'){x:V}{v:Value}(h:ik σ X x v):ik σ X' x v:=ik.dB σ b.W h
theorem VR.ext'{X X':Wd}(b:Ext X.H.length X X'){x:V}{v:Value}(h:VR σ X x v):VR σ X' x v:=VR.dB σ b.W h
theorem RR.ext'{X X':Wd}(b:Ext X.H.length X X'){au:T}{tmps:Array Value}(h:RR σ X au tmps):RR σ X' au tmps:=RR.dB σ b.W h
theorem T.pI(t:T)(p q:P)(v:V):(t.set p v).get q=if p=q then v else t.get q:=by
 induction t generalizing p q with
 | e=>
  induction p generalizing q with
  | h=>cases q<;>simp [T.set,T.get]
  | o p b=>cases q<;>simp [T.set,T.get,b]
  | i p b=>cases q<;>simp [T.set,T.get,b]
 | n l j r d g=>cases p<;>cases q<;>simp [T.set,T.get,d,g]
theorem P.toNat_inj{p q:P}(h:p.toNat=q.toNat):p=q:=by
 induction p generalizing q with
 | h=>cases q<;>simp [P.toNat]at h ⊢
 | o p b=>
  cases q with
  | h=>simp [P.toNat]at h
  | o q=>simp only [P.toNat]at h;rw [b (q:=q) (by omega)]
  | i q=>simp [P.toNat]at h;omega
 | i p b=>
  cases q with
  | h=>simp [P.toNat]at h
  | o q=>simp [P.toNat]at h;omega
  | i q=>simp only [P.toNat]at h;rw [b (q:=q) (by omega)]
theorem RR.set{X:Wd}{au:T}{tmps:Array Value}(h:RR σ X au tmps){p:P}(g:p.toNat<tmps.size){v:V}{u:Value}(j:VR σ X v u) :
  RR σ X (au.set p v) (tmps.setIfInBounds p.toNat u):=by
 intro q;rw [T.pI];by_cases d:p=q
 ·subst d;simpa [g]using j
 ·have b:p.toNat≠q.toNat:=fun e=>d (P.toNat_inj e)
  simpa [d,Array.getD_eq_getD_getElem?,Array.getElem?_setIfInBounds_ne b]using h q
def fL.of:fL→LoopState
 | .ready=>.ready
 | .busy=>.busy
 | .done=>.done
 | .exhausted=>.exhausted
def yu(n:Nat):Option aq→Option Code→Prop
 | none,none=>True
 | some a,some c=>bS Q σ n c a=true
 | _,_=>False
def BR(X:Wd):cU→Loc→Prop
 | .box cs y,L=>∃ us,rowAt X.w L.c us∧A2 (CR σ X) cs us∧∀ i,y≤i→¬ X.F L.c i
 | .bE sz cs y _ st,L=>st=.loc∧∃ us rest,rowAt X.w L.c (us++rest)∧A2 (CR σ X) cs us∧(us++rest).length=L.cap*sz∧0<sz∧(∃ n,cs.length=n*sz)∧∀ i,y≤i→¬ X.F L.c i
 | .map x,L=>∃ g:List MapEntry,X.w.heap[L.c]?=some (.map g.toArray g.length)∧A2 (fun e m=>cD σ X.F X.w e.1 m.key∧ik σ X (mV e.2) m.val) x g∧∀(i:Nat) m,g[i]?=some m→m.born=i
 | .vV m j done,L=>∃(B:Loc) (z:Array Nat) (st:Nat),X.bU m=some B∧(∃ x,X.H[m]?=some (.map x))∧X.w.heap[L.c]?=some (.mapIter (some B.c) j z st)∧(if done then z=#[0]∧st=1 else z=#[])
 | .it s pos,L=>X.w.heap[L.c]?=some (.stringIter s pos)
 | .jM b,L=>X.w.heap[L.c]?=some (.deferred (if b then some []else none))
 | .lp f tmps ps as bd st u d,L=>∃(n:Nat) (us:Array Value) (v:Array Tmp) (as' l:Code) (pend':Option Code) (A:Loc),
   X.w.heap[L.c]?=some (.loop { state:=st.of,pending:=pend',fn:=σ f,tmps:=us,params:=v,assign:=as',body:=l,defers:=A.c }) ∧
   n≤us.size∧RR σ X tmps us∧ff (fun p (q:P)=>q.toNat == p&&decide (p<n)) v.toList ps=true∧bS Q σ n as' as=true∧bS Q σ n l bd=true∧yu Q σ n u pend'∧X.bU d=some A∧∃ o,X.H[d]?=some (.jM o)
theorem BR.pF{X X':Wd}(q:oV X.H.length X X'){aX:cU}{L:Loc}(x:X'.w.heap[L.c]?=X.w.heap[L.c]?)(S:∀ i,X'.F L.c i→X.F L.c i)(h:BR Q σ X aX L):BR Q σ X' aX L:=by
 cases aX with
 | box cs W=>
  obtain⟨us,⟨e,fr,j,g⟩,l,u⟩:=h
  exact⟨us,⟨e,fr,x.trans j,g⟩,A2.dB σ q l,fun i hi H=>u i hi (S i H)⟩
 | bE sz cs W ep st=>
  obtain⟨I,us,rest,⟨e,fr,j,g⟩,l,u,y,E,F⟩:=h
  exact⟨I,us,rest,⟨e,fr,x.trans j,g⟩,A2.dB σ q l,u,y,E,fun i hi H=>F i hi (S i H)⟩
 | map es=>
  obtain⟨A,j,g,l⟩:=h
  exact⟨A,x.trans j,g.kC fun _ _ h=>⟨cD.mono q.F q.fw h.1,ik.dB σ q h.2⟩,l⟩
 | vV m K done=>
  obtain⟨N,sn,st,j,⟨es,g⟩,l,u⟩:=h;obtain⟨blk',v,y⟩:=q.bN m (BY.1 g).1 _ g;cases blk'<;>simp only at y
  exact⟨N,sn,st,y N j,⟨_,v⟩,x.trans l,u⟩
 | it s pos=>exact x.trans h
 | jM b=>exact x.trans h
 | lp f tmps ps as bd st U d=>
  obtain⟨n,us,J,as',B,pend',M,j,g,l,u,y,E,F,Y,o,O⟩:=h;have Z:d<X.H.length:=(BY.1 O).1;obtain⟨blk',v,z⟩:=q.bN d Z _ O;cases blk'<;>simp only at z;exact⟨n,us,J,as',B,pend',M,x.trans j,g,RR.dB σ q l,u,y,E,F,z M Y,_,v⟩
theorem BR.ext{X X':Wd}(g:Ext X.H.length X X'){aX:cU}{L:Loc}(d:X'.w.heap[L.c]?=X.w.heap[L.c]?)(b:∀ i,X'.F L.c i→X.F L.c i)(h:BR Q σ X aX L):BR Q σ X' aX L:=BR.pF Q σ g.W d b h
structure SR(X:Wd):Prop where
 br:∀ b L,X.bU b=some L→X.B≤L.c∧L.c<X.w.heap.size∧∃ aX,X.H[b]?=some aX∧BR Q σ X aX L
 inj:∀ b b' L L',X.bU b=some L→X.bU b'=some L'→L.c=L'.c→b=b'
 fb:∀ c i,X.F c i→c<X.w.heap.size
theorem SR.step{X X':Wd}(A:SR Q σ X)(z:Ext X.H.length X X')(b0:Nat)(F:∀ b,b≠b0→X'.H[b]?=X.H[b]?)(d:∀ b,b≠b0→X'.bU b=X.bU b)
  (H:∀ b L,b≠b0→X.bU b=some L→X'.w.heap[L.c]?=X.w.heap[L.c]?) (E:∀ b L,b≠b0→X.bU b=some L→∀ i,X'.F L.c i→X.F L.c i)
  (s:∀ L,X'.bU b0=some L→X.B≤L.c∧L.c<X'.w.heap.size∧(∃ aX,X'.H[b0]?=some aX∧BR Q σ X' aX L)∧∀ b l,b≠b0→X.bU b=some l→l.c≠L.c)
  (y:∀ c i,X'.F c i→c<X'.w.heap.size):SR Q σ X' where
 br:=fun b L g=>by
  rw [z.B];by_cases h:b=b0
  ·subst h;obtain⟨u,v,x,_⟩:=s L g;exact⟨u,v,x⟩
  ·rw [d b h]at g;obtain⟨u,v,aX,x,B⟩:=A.br b L g;exact⟨u,awr v z.size,aX,(F b h).trans x,BR.ext Q σ z (H b L h g) (E b L h g) B⟩
 fb:=fun c i h=>y c i h
 inj:=fun b m L l g j hc=>by
  by_cases h:b=b0<;>by_cases q:m=b0
  ·rw [h,q]
  ·subst h;rw [d m q]at j;exact absurd hc.symm ((s L g).2.2.2 m l q j)
  ·subst q;rw [d b h]at g;exact absurd hc ((s l j).2.2.2 b L h g)
  ·rw [d b h]at g;rw [d m q]at j;exact A.inj b m L l g j hc
end
section
variable{Q:Program}{σ:Nat→FuncId}{X:Wd}
theorem aR{t:TypeId}{d:TypeDesc}(h:Q.underlying t=some d)(w:World):(underlying t).run Q w=.ok d w:=by
 simp [underlying,h]
theorem cQ{t:TypeId}{n:Nat}(h:c7 Q t n=true)(w:World):(Go.sizeOf t).run Q w=.ok n w:=by
 unfold c7 at h
 cases hi:Q.info? t with
 | none=>simp [hi]at h
 | some i=>simp [hi]at h;simp [Go.sizeOf,typeInfo,hi,h]
theorem AK{t:TypeId}{n:Nat}(h:nh Q t n=true)(w:World):∃ i,(typeInfo t).run Q w=.ok i w∧i.bytes=n:=by
 unfold nh at h
 cases hi:Q.info? t with
 | none=>simp [hi]at h
 | some i=>simp [hi]at h;exact⟨i,by simp [typeInfo,hi],h⟩
theorem IK{t:TypeId}{n:Option Nat}(h:vM Q t n=true)(w:World):(isAgg t).run Q w=.ok n.isSome w∧∀ k,n=some k→c7 Q t k=true:=by
 unfold vM at h
 cases b:Q.underlying t with
 | none=>simp [b]at h
 | some d=>
  cases d<;>cases n<;>simp_all [isAgg,aR b]
theorem dL(c o k:Nat):(⟨c,o,none⟩:Addr).add k=⟨c,o+k,none⟩:=by unfold Addr.add;split<;>simp_all
theorem dA{w:World}{c:Nat}{us:List Value}(h:rowAt w c us)(i:Nat):w.cell? ⟨c,i,none⟩=us[i]?:=by
 obtain⟨e,fr,h,_⟩:=h;simp [World.cell?,h]
theorem F1{w:World}{c:Nat}{us:List Value}(h:rowAt w c us){i:Nat}(hi:i<us.length):w.frozen? ⟨c,i,none⟩=false:=by
 obtain⟨e,fr,h,b⟩:=h;have:=b i hi;simp only [World.frozen?,h];simp only [Bool.and_eq_false_iff,decide_eq_false_iff_not];omega
theorem uz(A:SR Q σ X){x:C}{v:Value}(g:CR σ X x v){cs:List C}(h:az X.H x=some cs) :
  ∃ c o us,v=.pointer (some ⟨c,o,none⟩)∧(∀(i:Nat) u,us[i]?=some u→X.w.cell? ⟨c,o+i,none⟩=some u)∧A2 (CR σ X) cs us:=by
 cases x with
 | ptr b off H=>
  obtain⟨L,z,g⟩:=g;obtain⟨_,_,aX,m,j⟩:=A.br b L z;simp only [az,m]at h;rw [m]at g
  cases aX with
  | box cs' y=>
   simp only [sh]at h;subst h;subst g;obtain⟨us,hr,l,_⟩:=j
   exact⟨L.c,off,us.drop off,rfl,fun i u d=>by rw [dA hr];rw [avU]at d;exact d,l.drop off⟩
  | bE s cs' y e st=>
   cases st<;>simp only at h g
   ·split at h
    ·rename_i E;simp only [sh]at h;subst h;obtain⟨_,g,_⟩:=g;have g:=g E;subst g;obtain⟨_,us,rest,hr,l,_⟩:=j;refine⟨L.c,off,us.drop off,rfl,fun i u d=>?_,l.drop off⟩
     rw [dA hr];rw [avU]at d;rw [AT (BY.1 d).1];exact d
    ·simp at h
   all_goals exact g.elim
  | _=>simp at h
 | f x=>
  cases x with
  | fp cs' off=>
   simp only [az,sh]at h;subst h
   cases g with
   | fp _ _ c o us F I B hr=>
    refine⟨c,o+off,us.drop off,rfl,fun i u d=>?_,A2.map ⟨by simp [F],fun i x u q d=>?_⟩⟩
    ·rw [avU]at d;have:=B _ u d;rwa [show o+(off+i)=o+off+i by omega]at this
    ·rw [avU]at q d;exact hr _ x u q d
  | _=>simp [az]at h
 | _=>simp [az]at h
theorem DK{t:TypeId}{n:Option Nat}(z:vM Q t n=true){c o:Nat}{us:List Value}{cs:List C}{w:World}
  (q:∀(i:Nat) u,us[i]?=some u→w.cell? ⟨c,o+i,none⟩=some u) (g:A2 (CR σ X) cs us) {v:V} (b:aF n cs=some v) :
  ∃ u,(loadVar t ⟨c,o,none⟩).run Q w=.ok u w∧VR σ X v u:=by
 obtain⟨m,s⟩:=IK z w
 cases n with
 | none=>
  cases cs with
  | nil=>simp [aF]at b
  | cons x cs=>
   simp only [aF,sh]at b;subst b;obtain⟨u,A,l⟩:=g.get (i:=0) (x:=x) rfl;have:=q 0 u A;simp only [Nat.add_zero]at this
   exact⟨u,by simp [loadVar,m,this],l⟩
 | some n=>
  simp only [aF]at b;split at b
  ·rename_i B;simp only [sh]at b;subst b;have y:(us.take n).length=n:=by have:=g.len;simp;omega
   have:=run_loadCells_list (P:=Q) w ⟨c,o,none⟩ (us.take n) (fun j v d=>by
    rw [dL];rw [av6]at d;split at d
    ·exact q j v d
    ·simp at d)
   rw [y]at this;refine⟨.agg (us.take n).toArray,?_,⟨us.take n,rfl,g.take n⟩⟩;simp [loadVar,m,cQ (s n rfl),this]
  ·simp at b
theorem akH(q:SR Q σ X){t:TypeId}{n:Option Nat}(s:vM Q t n=true){x:V}{p:Value}(y:VR σ X x p){v:V}(h:aQ X.H n x=some v) :
  ∃ u,(Instr.loadAt t p).run Q X.w=.ok u X.w∧VR σ X v u:=by
 cases x with
 | c x=>
  simp only [aQ,av0]at h;obtain⟨cs,b,d⟩:=h;obtain⟨c,o,us,rfl,g,j⟩:=uz q y b;obtain⟨u,l,m⟩:=DK s g j d
  exact⟨u,by simp [Instr.loadAt,Instr.sureAddr,l],m⟩
 | _=>simp [aQ]at h
end
section
variable{Q:Program}{σ:Nat→FuncId}{X:Wd}
theorem VR.int{k:IntKind}{n:Int}{u:Value}(h:VR σ X (.c (.f (.int k n))) u):u=.int k n:=by cases (h:cD σ X.F X.w (.int k n) u);rfl
theorem VR.bool{b:Bool}{u:Value}(h:VR σ X (.c (.f (.bool b))) u):u=.bool b:=by cases (h:cD σ X.F X.w (.bool b) u);rfl
theorem VR.str{s:ByteArray}{u:Value}(h:VR σ X (.c (.f (.str s))) u):u=.string s:=by cases (h:cD σ X.F X.w (.str s) u);rfl
theorem VR.mkInt(k:IntKind)(n:Int):VR σ X (V.int k n) (.int k n):=cD.int k n
theorem VR.uX(b:Bool):VR σ X (V.bool b) (.bool b):=cD.bool b
theorem VR.mkStr(s:ByteArray):VR σ X (.c (.f (.str s))) (.string s):=cD.str s
theorem dV{α β:Type}{f:α→β→Bool}:∀ {xs:List α} {ys:List β},ff f xs ys=true→A2 (fun x y=>f x y=true) xs ys
 | [],[],_=>A2.nil
 | x::xs,y::ys,h=>by
  simp only [ff,If]at h
  exact A2.cons h.1 (dV h.2)
 | [],_::_,h=>by simp [ff]at h
 | _::_,[],h=>by simp [ff]at h
theorem Gg{F:Nat→Nat→Prop}{w:World}{x:FC}{u:Value}(h:mK1 x u=true):cD σ F w x u:=by
 unfold mK1 at h;split at h
 ·simp only [beq_iff_eq]at h;subst h;exact .bool _
 ·simp only [If,decide_eq_true_eq]at h;obtain⟨rfl,rfl⟩:=h;exact .int _ _
 ·simp only [decide_eq_true_eq]at h;subst h;exact .str _
 ·exact .fU
 ·exact .ay
 ·exact .jk
 ·exact .lZ
 ·exact .wF
 ·simp at h
theorem apw{x:V}{u:Value}(h:mK x u=true):VR σ X x u:=by
 unfold mK at h;split at h
 ·exact Gg h
 ·refine⟨_,by simp,(dV h).kC fun y w b=>?_⟩
  split at b
  ·exact Gg b
  ·simp at b
 ·trivial
 ·simp at h
theorem bF{a:Act}{au:T}(b:RR σ X au a.tmps){x:Arg}{y:Operand}(h:mA σ x y=true):VR σ X (x.ev au) (a.eval y):=by
 unfold mA at h;split at h
 ·rename_i p t;simp only [beq_iff_eq]at h;subst h;exact b p
 ·exact apw h
 ·simp only [beq_iff_eq]at h;subst h;exact cD.fn _ [] [] rfl (by simp)
 ·simp at h
theorem mM{a:Act}{au:T}(j:RR σ X au a.tmps){xs:List Arg}{ys:Array Operand}(h:mAs σ xs ys=true):A2 (VR σ X) (c6 au xs) (ys.map a.eval).toList:=by
 have:=(dV h).kC fun x y b=>bF j b
 refine⟨by simpa [c6]using this.len,fun i v u g d=>?_⟩
 simp only [c6,awx,IN]at g;simp only [Array.toList_map,awx,IN]at d;obtain⟨x,l,rfl⟩:=g;obtain⟨y,m,rfl⟩:=d;exact this.2 i x y l m
theorem apx{a:Act}{au:T}(g:RR σ X au a.tmps){x:Option Arg}{y:Option Operand}(h:mO σ x y=true) :
  (x=none∧y=none)∨∃ b d,x=some b∧y=some d∧VR σ X (b.ev au) (a.eval d):=by
 unfold mO at h;split at h
 ·exact .inl ⟨rfl,rfl⟩
 ·exact .inr ⟨_,_,rfl,rfl,bF g h⟩
 ·simp at h
theorem afU{b:BinOp}{k:IntKind}{x y:Int}{v:V}(h:jJ b k x y=some v)(w:World) :
  ∃ u,(binOp b 0 (.int k x) (.int k y)).run Q w=.ok u w∧VR σ X v u∧∀ t,binOp b t (.int k x) (.int k y)=binOp b 0 (.int k x) (.int k y):=by
 unfold jJ at h;split at h<;>(try split at h)<;>(try simp only [sh,reduceCtorEq]at h)<;>(try subst h)
 all_goals first
  | (refine⟨_,?_,VR.mkInt _ _,fun _=>by simp [binOp]⟩;simp [binOp,Op.intArith,Op.intBits];done)
  | (refine⟨_,?_,VR.uX _,fun _=>by simp [binOp]⟩;simp [binOp,Op.intCmp];done)
  | (rename_i d;refine⟨_,?_,VR.mkInt _ _,fun _=>by simp [binOp]⟩;simp [binOp,Op.intDiv,d];done)
theorem afW{b:BinOp}{x y:ByteArray}{v:V}(h:Z_ b x y=some v)(w:World)(t:TypeId) :
  ∃ u,(binOp b t (.string x) (.string y)).run Q w=.ok u w∧VR σ X v u:=by
 unfold Z_ at h;split at h<;>(try split at h)<;>(try simp only [sh,reduceCtorEq]at h)<;>(try subst h)
 all_goals first
  | exact⟨_,by simp [binOp,Op.stringOp],VR.uX _⟩
  | (rename_i d;exact⟨_,by simp only [binOp,Op.stringOp];rw [if_neg d];rfl,VR.mkStr _⟩)
  | skip
end
section
variable{Q:Program}{σ:Nat→FuncId}{X:Wd}
theorem tu:∀ {ks:List CK} {xs ys:List C} {b:Bool},rE ks xs ys=some b→xs.length=ks.length∧ys.length=ks.length
 | [],[],[],_,_=>⟨rfl,rfl⟩
 | k::ks,x::xs,y::ys,b,h=>by
  simp only [rE]at h;split at h
  ·rename_i d;have:=tu d;simp [this]
  ·simp at h
 | [],_::_,_,_,h=>by simp [rE]at h
 | [],[],_::_,_,h=>by simp [rE]at h
 | _::_,[],_,_,h=>by simp [rE]at h
 | _::_,_::_,[],_,h=>by simp [rE]at h
theorem uJ:∀ {ks d:List CK} {xs ys:List C} {b:Bool},rE (ks++d) xs ys=some b →
  ∃ b1 g,rE ks (xs.take ks.length) (ys.take ks.length)=some b1∧rE d (xs.drop ks.length) (ys.drop ks.length)=some g∧b=(b1&&g)
 | [],d,xs,ys,b,h=>⟨true,b,rfl,by simpa using h,by simp⟩
 | k::ks,d,[],ys,b,h=>by simp [rE]at h
 | k::ks,d,x::xs,[],b,h=>by simp [rE]at h
 | k::ks,d,x::xs,y::ys,b,h=>by
  simp only [List.cons_append,rE]at h;split at h
  ·rename_i a c m q;simp only [sh]at h;obtain⟨b1,g,j,l,rfl⟩:=uJ q;refine⟨a&&b1,g,?_,by simpa using l,by rw [←h,Bool.and_assoc]⟩
   simp [rE,m,j]
  ·simp at h
def CKv:CK→Value→Value→Bool→Prop
 | .bool,u,v,b=>∃ p q,u=.bool p∧v=.bool q∧b=(p == q)
 | .int,u,v,b=>∃ j p q,u=.int j p∧v=.int j q∧b=(p == q)
 | .str,u,v,b=>∃ p q,u=.string p∧v=.string q∧b=(p == q)
theorem tv{k:CK}{x y:C}{b:Bool}(h:O9 k x y=some b){u v:Value}(d:CR σ X x u)(g:CR σ X y v):CKv k u v b:=by
 unfold O9 at h;split at h
 ·simp only [sh]at h;exact⟨_,_,VR.bool (σ:=σ) (X:=X) d,VR.bool (σ:=σ) (X:=X) g,h.symm⟩
 ·split at h
  ·rename_i j;subst j;simp only [sh]at h;exact⟨_,_,_,VR.int (σ:=σ) (X:=X) d,VR.int (σ:=σ) (X:=X) g,h.symm⟩
  ·simp at h
 ·simp only [sh]at h;exact⟨_,_,VR.str (σ:=σ) (X:=X) d,VR.str (σ:=σ) (X:=X) g,h.symm⟩
 ·simp at h
theorem Di:∀(d:Nat) (t:TypeId) (ks:List CK),ic Q d t=some ks→∀(D:Nat),d≤D→∀(us W:List Value) (off:Nat) (xs ys:List C) (b:Bool) (w:World),
  rE ks xs ys=some b→A2 (CR σ X) xs ((us.drop off).take ks.length)→A2 (CR σ X) ys ((W.drop off).take ks.length) →
  ∃ a c,(part t us.toArray off).run Q w=.ok a w∧(part t W.toArray off).run Q w=.ok c w∧(Op.equalIn D t a c).run Q w=.ok b w
 | 0,_,_,h,_,_,_,_,_,_,_,_,_,_,_,_=>by simp [ic]at h
 | d+1,t,ks,h,0,hD,_,_,_,_,_,_,_,_,_,_=>by omega
 | d+1,t,ks,h,D+1,hD,us,W,off,xs,ys,b,w,M,hx,hy=>by
  have hl:=tu M
  have m:∀(k:CK),ks=[k]→(∀ I,Q.underlying t=some I→(match I with | .struct _ | .array _ _=>False | _=>True))→(∃ I,Q.underlying t=some I) →
    ∃ x y u v,xs=[x]∧ys=[y]∧O9 k x y=some b∧CR σ X x u∧CR σ X y v∧(part t us.toArray off).run Q w=.ok u w∧(part t W.toArray off).run Q w=.ok v w:=by
   intro k z a_ g;subst z;obtain⟨I,g⟩:=g;have a_:=a_ I g
   match xs,ys,hl with
   | [x],[y],_=>
    simp only [rE]at M;split at M
    ·rename_i a c ha hc;simp only [sh]at hc M;subst hc;simp at M;subst M;obtain⟨u,d7,d8⟩:=hx.get (i:=0) (x:=x) rfl;obtain⟨v,d9,d_⟩:=hy.get (i:=0) (x:=y) rfl;have e1:us[off]?=some u:=by simpa [av6,avU]using d7
     have e2:W[off]?=some v:=by simpa [av6,avU]using d9
     have a8:(isAgg t).run Q w=.ok false w:=by
      cases I<;>simp_all [isAgg,aR g]
     exact⟨x,y,u,v,rfl,rfl,ha,d8,d_,by simp [part,a8,e1],by simp [part,a8,e2]⟩
    ·simp at M
  unfold ic at h;split at h
  ·rename_i g;split at h
   ·simp only [sh]at h;obtain⟨x,y,u,v,rfl,rfl,E,Y,Z,N,h4⟩:=m .bool h.symm (fun I s=>by rw [g]at s;cases s;trivial) ⟨_,g⟩
    obtain⟨p,q,rfl,rfl,rfl⟩:=tv E Y Z;exact⟨_,_,N,h4,run_equalIn_bool' w D t _ _ g⟩
   ·simp at h
  ·rename_i j g;split at h
   ·simp only [sh]at h;obtain⟨x,y,u,v,rfl,rfl,E,Y,Z,N,h4⟩:=m .int h.symm (fun I s=>by rw [g]at s;cases s;trivial) ⟨_,g⟩
    obtain⟨j',p,q,rfl,rfl,rfl⟩:=tv E Y Z;exact⟨_,_,N,h4,run_equalIn_int w D t _ _ _ _ g⟩
   ·simp at h
  ·rename_i g;split at h
   ·simp only [sh]at h;obtain⟨x,y,u,v,rfl,rfl,E,Y,Z,N,h4⟩:=m .str h.symm (fun I s=>by rw [g]at s;cases s;trivial) ⟨_,g⟩
    obtain⟨p,q,rfl,rfl,rfl⟩:=tv E Y Z;exact⟨_,_,N,h4,by rw [run_equalIn_string w D t _ _ g,beq_toListBytes]⟩
   ·simp at h
  ·rename_i fs g;split at h
   ·simp at h
   ·rename_i d6;split at h
    ·rename_i U hf;split at h
     ·rename_i b7;simp only [sh]at h;subst h;have L:(isAgg t).run Q w=.ok true w:=by simp [isAgg,aR g]
      have S:Q.underlying t=some (.struct (Q.fieldsOf t)):=by simp [Program.fieldsOf,g]
      have d5:Q.fieldsOf t=fs:=by rw [g]at S;simpa using S.symm
      refine⟨.agg ((us.drop off).take U.length).toArray,.agg ((W.drop off).take U.length).toArray,?_,?_,?_⟩
      ·simp [part,L,cQ b7,awM]
      ·simp [part,L,cQ b7,awM]
      ·rw [run_equalIn_struct w D t _ _ S (by simpa using d6),d5]
       have key:∀(l:List Field) (k:Nat) (J:List CK) (b2:Bool),ic.pG (ic Q d) k l=some J→∀(A B:List Value) (F H:List C),
         rE J (F.drop k) (H.drop k)=some b2→A2 (CR σ X) F A→A2 (CR σ X) H B→(Op.eqFields D A.toArray B.toArray l).run Q w=.ok b2 w:=by
        intro l
        induction l with
        | nil=>
         intro k J b2 z A B F H E _ _;simp only [ic.pG,sh]at z;subst z;have:=tu E;simp only [List.length_nil,List.length_eq_zero_iff]at this;rw [this.1,this.2]at E;simp only [rE,sh]at E;subst E
         simp [Op.eqFields]
        | cons f l ih=>
         intro k J b2 z A B F H E b9 b_;simp only [ic.pG]at z;split at z
         ·rename_i O;obtain⟨hn,ho⟩:=O;subst ho;split at z
          ·rename_i K N;split at z
           ·rename_i r hr;simp only [sh]at z;subst z;obtain⟨b1,b3,c9,c_,rfl⟩:=uJ E;obtain⟨a,c,h5,h6,h7⟩:=Di d f.type K N D (by omega) A B f.offset _ _ b1 w c9 (by have:=(b9.drop f.offset).take K.length;simpa using this) (by have:=(b_.drop f.offset).take K.length;simpa using this)
            have e_:=ih (f.offset+K.length) r b3 hr A B F H (by simpa [List.drop_drop]using c_) b9 b_
            simp only [Op.eqFields,hn,ne_eq,not_false_eq_true,if_true,Sem.run_bind,h5,h6,h7,Result.andThen_ok];cases b1<;>simp [e_]
           ·simp at z
          ·simp at z
         ·simp at z
       exact key fs.toList 0 U b hf _ _ xs ys (by simpa using M) hx hy
     ·simp at h
    ·simp at h
  ·simp at h
def asQ:Nr→Value→Bool→Prop
 | .ptr,u,b=>∃ a,u=.pointer a∧b=a.isNone
 | .sl,u,b=>∃ a n c,u=.slice a n c∧b=a.isNone
 | .fn,u,b=>(u=.nilFunc∧b=true)∨∃ f p q,u=.func f p q∧b=false
 | .ifc,u,b=>u=.nilIface∧b=true
 | _,_,_=>False
theorem pN{k:Nr}{x:C}{u:Value}(d:CR σ X x u){b:Bool}(h:isNil X.H k x=some b):asQ k u b:=by
 unfold isNil at h;split at h<;>try simp only [sh,reduceCtorEq]at h
 ·cases (d:cD σ X.F X.w .fU u);subst h;exact⟨_,rfl,rfl⟩
 ·cases (d:cD σ X.F X.w (.fp _ _) u);subst h;exact⟨_,rfl,rfl⟩
 ·obtain⟨L,_,d⟩:=d;subst h;split at d
  ·subst d;exact⟨_,rfl,rfl⟩
  ·obtain⟨_,_,a,rfl⟩:=d;exact⟨_,rfl,rfl⟩
  ·exact d.elim
 ·cases (d:cD σ X.F X.w .ay u);subst h;exact⟨_,_,_,rfl,rfl⟩
 ·cases (d:cD σ X.F X.w .es u);subst h;exact⟨_,_,_,rfl,rfl⟩
 ·cases (d:cD σ X.F X.w (.fs _ _) u)<;>(subst h;exact⟨_,_,_,rfl,rfl⟩)
 ·rename_i m o l c q sz;simp only [CR,fy]at d;split at h
  ·rename_i g;rw [g]at d;obtain⟨L,_,_,rfl⟩:=d;simp only [sh]at h;subst h;exact⟨_,_,_,rfl,rfl⟩
  ·rename_i s cs v e st g;rw [g]at d;split at h
   ·rename_i j;have:=d.2.1 j.1 j.2;simp only [sh]at h;subst h
    cases st with
    | loc=>obtain⟨L,_,k,_,_,rfl⟩:=this;exact⟨_,_,_,rfl,rfl⟩
    | nil=>obtain⟨_,_,rfl⟩:=this;exact⟨_,_,_,rfl,rfl⟩
    | es=>obtain⟨_,_,a,rfl⟩:=this;exact⟨_,_,_,rfl,rfl⟩
   ·simp at h
  ·simp at h
 ·cases (d:cD σ X.F X.w .jk u);subst h;exact .inl ⟨rfl,rfl⟩
 ·cases (d:cD σ X.F X.w (.fn _ _) u);subst h;exact .inr ⟨_,_,_,rfl,rfl⟩
 ·obtain⟨us,rfl,_⟩:=d;subst h;exact .inr ⟨_,_,_,rfl,rfl⟩
 ·obtain⟨us,rfl,_⟩:=d;subst h;exact .inr ⟨_,_,_,rfl,rfl⟩
 ·cases (d:cD σ X.F X.w .lZ u);subst h;exact⟨rfl,rfl⟩
theorem Dh{d:Nat}{t:TypeId}{ks:List CK}(h:ic Q d t=some ks):c7 Q t ks.length=true:=by
 cases d with
 | zero=>simp [ic]at h
 | succ d=>
  unfold ic at h;split at h
  ·split at h
   ·simp only [sh]at h;subst h;assumption
   ·simp at h
  ·split at h
   ·simp only [sh]at h;subst h;assumption
   ·simp at h
  ·split at h
   ·simp only [sh]at h;subst h;assumption
   ·simp at h
  ·split at h
   ·simp at h
   ·split at h
    ·split at h
     ·simp only [sh]at h;subst h;assumption
     ·simp at h
    ·simp at h
  ·simp at h
theorem aaw{t e:TypeId}(b:Q.underlying t=some (.pointer e))(D:Nat)(a:Option Addr)(w:World):(Op.equalIn (D+1) t (.pointer a) (.pointer none)).run Q w=.ok a.isNone w:=by
 cases a<;>simp [Op.equalIn,aR b]
theorem af'{t e:TypeId}(b:Q.underlying t=some (.slice e))(D:Nat)(a:Option Addr)(n c:Nat)(w:World):(Op.equalIn (D+1) t (.slice a n c) (.slice none 0 0)).run Q w=.ok a.isNone w:=by
 cases a<;>simp [Op.equalIn,aR b]
theorem af8{t:TypeId}{p r:Array TypeId}{v:Bool}(b:Q.underlying t=some (.func p r v))(D:Nat)(w:World):(Op.equalIn (D+1) t .nilFunc .nilFunc).run Q w=.ok true w:=by
 simp [Op.equalIn,aR b]
theorem af7{t:TypeId}{p r:Array TypeId}{v:Bool}(b:Q.underlying t=some (.func p r v))(D:Nat)(f:Fn)(x y:Array Value)(w:World):(Op.equalIn (D+1) t (.func f x y) .nilFunc).run Q w=.ok false w:=by
 simp [Op.equalIn,aR b]
theorem af9{t:TypeId}{d:Array (String × TypeId)}(b:Q.underlying t=some (.interface d))(D:Nat)(w:World):(Op.equalIn (D+1) t .nilIface .nilIface).run Q w=.ok true w:=by
 simp [Op.equalIn,aR b]
theorem N4{t:TypeId}{x y:Operand}(b:(sK x||sK y)=true)(d:BinOp)(w:World):(eqGuard d t x y .nilIface .nilIface).run Q w=.ok () w:=by
 simp only [Bool.or_eq_true]at b;rcases b with b | b
 ·cases x<;>simp only [sK,atN]at b;cases d<;>rfl
 ·cases y<;>simp only [sK,atN]at b;cases x<;>cases d<;>rfl
theorem akl{k:Nr}{t:TypeId}{x y:Operand}(z:mEq Q k t x y=true){H I:V}{m d:Value}(u:VR σ X H m)(v:VR σ X I d){b:Bool}
  (h:zW X.H k H I=some b) (neg:Bool) (w:World) :
  (do eqGuard (if neg then .neq else .eql) t x y m d;binOp (if neg then .neq else .eql) t m d).run Q w=.ok (.bool (if neg then !b else b)) w:=by
 have g:(binOp .eql t m d=do pure (.bool (←Op.equal t m d)))→(binOp .neq t m d=do pure (.bool (!(←Op.equal t m d)))) →
   (∀ j,(eqGuard j t x y m d).run Q w=.ok () w)→(Op.equalIn 10000 t m d).run Q w=.ok b w →
   (do eqGuard (if neg then .neq else .eql) t x y m d;binOp (if neg then .neq else .eql) t m d).run Q w=.ok (.bool (if neg then !b else b)) w:=by
  intro E F A N;cases neg
  ·simp only [atN,if_false,Sem.run_bind,A,Result.andThen_ok,E,Op.equal,Op.maxDepth,N,Sem.run_pure]
  ·simp only [if_true,Sem.run_bind,A,Result.andThen_ok,F,Op.equal,Op.maxDepth,N,Sem.run_pure]
 unfold mEq at z;unfold zW at h;split at z
 ·rename_i l;split at h<;>try simp only [reduceCtorEq]at *
  obtain⟨p,q,rfl,rfl,rfl⟩:=tv h u v;exact g rfl rfl (fun j=>by cases j<;>rfl) (run_equalIn_bool' w 9999 t _ _ l)
 ·rename_i l;split at h<;>try simp only [reduceCtorEq]at *
  obtain⟨a,rfl,rfl⟩:=pN u h;cases (v:cD σ X.F X.w .fU d);exact g rfl rfl (fun j=>by cases j<;>rfl) (aaw l 9999 a w)
 ·rename_i l;split at h<;>try simp only [reduceCtorEq]at *
  obtain⟨a,n,c,rfl,rfl⟩:=pN u h;cases (v:cD σ X.F X.w .ay d);exact g rfl rfl (fun j=>by cases j<;>rfl) (af' l 9999 a n c w)
 ·rename_i l;split at h<;>try simp only [reduceCtorEq]at *
  cases (v:cD σ X.F X.w .jk d);rcases pN u h with⟨rfl,rfl⟩ | ⟨f,p,q,rfl,rfl⟩
  ·exact g rfl rfl (fun j=>by cases j<;>rfl) (af8 l 9999 w)
  ·exact g rfl rfl (fun j=>by cases j<;>rfl) (af7 l 9999 f p q w)
 ·rename_i l;split at h<;>try simp only [reduceCtorEq]at *
  cases (v:cD σ X.F X.w .lZ d);obtain⟨rfl,rfl⟩:=pN u h;refine g rfl rfl (fun j=>?_) ?_
  ·have M:(sK x||sK y)=true:=z;exact N4 M j w
  ·exact af9 l 9999 w
 ·rename_i Y ks l
  obtain⟨xs,ys,rfl,rfl,h⟩:∃ xs ys,H=.a xs∧I=.a ys∧rE ks xs ys=some b:=by
   cases H<;>cases I<;>first | exact⟨_,_,rfl,rfl,h⟩ | simp at h
  simp only [If,decide_eq_true_eq,Bool.not_eq_true']at z;obtain⟨W,U⟩:=z;obtain⟨us,rfl,O⟩:=u;obtain⟨J,rfl,S⟩:=v;have Z:=tu h;have B:=Dh W;have s:(isAgg t).run Q w=.ok true w:=by simp [isAgg,aR l]
  have t1:us.take ks.length=us:=avS (by have:=O.len;omega)
  have t2:J.take ks.length=J:=avS (by have:=S.len;omega)
  obtain⟨a,c,E,F,A⟩:=Di 20 t ks W 10000 (by omega) us J 0 _ _ b w h (by simpa [t1]using O) (by simpa [t2]using S)
  have K:a=.agg us.toArray:=by
   simp [part,s,cQ B,awM,t1]at E;exact E.symm
  have L:c=.agg J.toArray:=by
   simp [part,s,cQ B,awM,t2]at F;exact F.symm
  subst K;subst L;cases neg
  ·simp only [atN,if_false,Sem.run_bind,run_eqGuard_agg w _ t x y _ _ U,Result.andThen_ok,run_eql_struct,A]
  ·simp only [if_true,Sem.run_bind,run_eqGuard_agg w _ t x y _ _ U,Result.andThen_ok,run_neq_struct,A]
 ·simp at z
end
section
variable{Q:Program}{σ:Nat→FuncId}{X:Wd}
theorem iy{x:V}{u:Value}(h:VR σ X x u){i:Int}(hi:dk x=some i):∃ k,u=.int k i:=by
 unfold dk at hi;split at hi
 ·simp only [sh]at hi;subst hi;exact⟨_,VR.int h⟩
 ·simp at hi
theorem rB{x:V}{u:Value}(h:VR σ X x u){y i:Nat}(b:DY x y=some i){g:Nat}(q:y≤g)(d:BoundsCode)(w:World) :
  i≤y∧(Instr.sliceBound u g d).run Q w=.ok i w:=by
 unfold DY at b;split at b
 ·rename_i j l;obtain⟨k,rfl⟩:=iy h l;split at b
  ·rename_i m;simp only [sh]at b;subst b;refine⟨by omega,?_⟩
   have:0≤j∧j≤(g:Int):=by omega
   simp [Instr.sliceBound,asIntOf,this]
  ·simp at b
 ·simp at b
def OR(X:Wd)(σ:Nat→FuncId):Option V→Option Value→Prop
 | none,none=>True
 | some x,some u=>VR σ X x u
 | _,_=>False
theorem dx{lo hi mx:Option V}{d j mx':Option Value}(v:OR X σ lo d)(A:OR X σ hi j)(F:OR X σ mx mx'){len c l h m:Nat}
  (b:cA len c lo hi mx=some (l,h,m)) {cap:Nat} (J:c≤cap) (O:len≤c) (s:Bool) (w:World) :
  (Instr.sliceBounds s len cap d j mx').run Q w=.ok (l,h,if mx.isSome then m else cap) w∧l≤h∧h≤m∧m≤c:=by
 unfold cA at b
 cases mx with
 | some z=>
  cases mx'<;>simp only [OR]at F;rename_i U;simp only [axi,av0]at b;obtain⟨S,M,b⟩:=b;obtain⟨N,E⟩:=rB (Q:=Q) F M J (if s then .slice3Acap else .slice3Alen) w
  cases hi with
  | none=>simp at b
  | some y=>
   cases j<;>simp only [OR]at A;simp only [av3,av0]at b;obtain⟨L,H,b⟩:=b;obtain⟨I,g⟩:=rB (Q:=Q) A H (aft _) .slice3B w
   cases lo with
   | none=>
    cases d<;>simp only [OR]at v;simp at b;obtain⟨rfl,rfl,rfl⟩:=b
    simp [Instr.sliceBounds,E,g];omega
   | some x=>
    cases d<;>simp only [OR]at v;simp only [av0]at b;obtain⟨K,q,b⟩:=b;obtain⟨B,u⟩:=rB (Q:=Q) v q (aft _) .slice3C w;simp at b;obtain⟨rfl,rfl,rfl⟩:=b
    simp [Instr.sliceBounds,E,g,u];omega
 | none=>
  cases mx'<;>simp only [OR]at F
  cases hi with
  | none=>
   cases j<;>simp only [OR]at A
   cases lo with
   | none=>
    cases d<;>simp only [OR]at v;simp at b;obtain⟨rfl,rfl,rfl⟩:=b
    simp [Instr.sliceBounds];omega
   | some x=>
    cases d<;>simp only [OR]at v;simp only [axi,av3,av0]at b;obtain⟨K,q,b⟩:=b;obtain⟨B,u⟩:=rB (Q:=Q) v q (aft _) .sliceB w;simp at b;obtain⟨rfl,rfl,rfl⟩:=b
    simp [Instr.sliceBounds,u];omega
  | some y=>
   cases j<;>simp only [OR]at A;simp only [axi,av3,av0]at b;obtain⟨L,H,b⟩:=b;obtain⟨I,g⟩:=rB (Q:=Q) A H J (if s then .sliceAcap else .sliceAlen) w
   cases lo with
   | none=>
    cases d<;>simp only [OR]at v;simp at b;obtain⟨rfl,rfl,rfl⟩:=b
    simp [Instr.sliceBounds,g];omega
   | some x=>
    cases d<;>simp only [OR]at v;simp only [av0]at b;obtain⟨K,q,b⟩:=b;obtain⟨B,u⟩:=rB (Q:=Q) v q (aft _) .sliceB w;simp at b;obtain⟨rfl,rfl,rfl⟩:=b;simp [Instr.sliceBounds,g,u];omega
theorem ec{t e:TypeId}{sz:Nat}(g:Q.underlying t=some (.slice e))(b:c7 Q e sz=true){a:Option Addr}{len cap:Nat}{lo hi mx:Option Value}{l h m:Nat}{w:World}
  (d:(Instr.sliceBounds true len cap lo hi mx).run Q w=.ok (l,h,m) w) :
  (Instr.sliceAt t (.slice a len cap) lo hi mx).run Q w=.ok (.slice (if m=l then a else a.map (·.add (l*sz))) (h-l) (m-l)) w:=by
 simp [Instr.sliceAt,Instr.slice,aR g,d,cQ b]
theorem yX{t e:TypeId}{sz:Nat}(d:Q.underlying t=some (.slice e))(j:c7 Q e sz=true){x:V}{u:Value}(E:VR σ X x u)
  {lo hi mx:Option V} {a_ a8 mx':Option Value} (H:OR X σ lo a_) (I:OR X σ hi a8) (J:OR X σ mx mx') {v:V} (h:eY X.H sz x lo hi mx=some v) :
  ∃ r,(Instr.sliceAt t u a_ a8 mx').run Q X.w=.ok r X.w∧VR σ X v r:=by
 unfold eY at h;split at h
 ·
  split at h
  ·rename_i r A;obtain⟨l,g,m⟩:=r;simp only [sh]at h;subst h;cases (E:cD σ X.F X.w .ay u);obtain⟨q,K,N,O⟩:=dx (Q:=Q) H I J A (aft 0) (aft 0) true X.w;refine⟨_,ec d j q,?_⟩;have:l=0∧g=0∧m=0:=by omega
   obtain⟨rfl,rfl,rfl⟩:=this;simp;exact cD.ay
  ·simp at h
 ·split at h
  ·rename_i r A;obtain⟨l,g,m⟩:=r;simp only [sh]at h;subst h;cases (E:cD σ X.F X.w .es u);obtain⟨q,K,N,O⟩:=dx (Q:=Q) H I J A (aft 0) (aft 0) true X.w;refine⟨_,ec d j q,?_⟩;have:l=0∧g=0∧m=0:=by omega
   obtain⟨rfl,rfl,rfl⟩:=this;simp;exact cD.es _
  ·simp at h
 ·
  rename_i cs n;split at h
  ·rename_i l g m A
   have b9:(∃(c o cap:Nat) (us:List Value),n≤cap∧us.length=cs.length∧(∀ i,i<cs.length→X.F c (o+i))∧(∀(i:Nat) u,us[i]?=some u→X.w.cell? ⟨c,o+i,none⟩=some u) ∧
     (∀(i:Nat) x u,cs[i]?=some x→us[i]?=some u→cD σ X.F X.w x u)∧u=.slice (some ⟨c,o,none⟩) n cap)∨(cs=[]∧n=0∧∃ a cap,u=.slice (some a) 0 cap):=by
    cases (E:cD σ X.F X.w (.fs cs n) u)with
    | fs _ _ c o cap us z hl hF Z hr=>exact .inl ⟨c,o,cap,us,z,hl,hF,Z,hr,rfl⟩
    | fs0 a cap=>exact .inr ⟨rfl,rfl,a,cap,rfl⟩
   rcases b9 with⟨c,o,cap,us,z,hl,hF,Z,hr,rfl⟩ | ⟨rfl,rfl,a,cap,rfl⟩
   ·obtain⟨q,K,N,O⟩:=dx (Q:=Q) H I J A z (aft n) true X.w;split at h
    ·rename_i y;simp only [sh]at h;subst h;rw [if_pos y.1]at q;obtain⟨_,rfl⟩:=y;refine⟨_,ec d j q,?_⟩;rw [show g-m=0 by omega,show m-m=0 by omega,if_pos rfl]
     exact cD.es _
    ·simp only [sh]at h;subst h;refine⟨_,ec d j q,?_⟩;generalize S:(if mx.isSome=true then m else cap)=M
     have b7:g≤M:=by rw [←S];split<;>omega
     by_cases B:M=l
     ·rw [if_pos B,show g-l=0 by omega];simp;exact cD.fs0 _ _
     ·rw [if_neg B];simp only [awg,dL];refine cD.fs _ _ c (o+l*sz) _ ((us.drop (l*sz)).take ((g-l)*sz)) (by omega) (by simp [hl]) (fun i hi=>?_) (fun i u d=>?_) (fun i x u E d=>?_)
      ·have:=hF (l*sz+i) (by simp at hi;omega);rwa [show o+(l*sz+i)=o+l*sz+i by omega]at this
      ·rw [av6]at d;split at d
       ·rw [avU]at d;have:=Z _ u d;rwa [show o+(l*sz+i)=o+l*sz+i by omega]at this
       ·simp at d
      ·rw [av6]at d E;split at d
       ·rename_i hi;rw [if_pos hi]at E;rw [avU]at d E;exact hr _ x u E d
       ·simp at d
   ·obtain⟨q,K,N,O⟩:=dx (Q:=Q) H I J A (Nat.zero_le cap) (aft 0) true X.w;have:l=0∧g=0∧m=0:=by omega
    obtain⟨rfl,rfl,rfl⟩:=this;refine⟨_,ec d j q,?_⟩;split at h
    ·rename_i y;simp only [sh]at h;subst h;simp [y.1];exact cD.es _
    ·simp only [sh]at h;subst h;have ho:∀ M,∃ a',(if M=0 then some a else Option.map (fun(x:Addr)=>x.add (0*sz)) (some a))=some a':=by intro M;split<;>exact⟨_,rfl⟩
     obtain⟨a',U⟩:=ho (if mx.isSome=true then 0 else cap)
     rw [U];simp;exact cD.fs0 _ _
  ·simp at h
 ·
  rename_i b o n cap ep s;simp only [VR,ik,CR,fy]at E;split at h
  ·rename_i F;rw [F]at E;obtain⟨L,hL,z,rfl⟩:=E;split at h
   ·rename_i l g m A;obtain⟨q,K,N,O⟩:=dx (Q:=Q) H I J A (aft cap) z true X.w
    have hm:(if mx.isSome=true then m else cap)=m:=by
     split
     ·rfl
     ·rename_i hn
      cases mx with
      | some _=>simp at hn
      | none=>unfold cA at A;cases hi<;>cases lo<;>simp [av0]at A<;>omega
    rw [hm]at q;refine⟨_,ec d j q,?_⟩;split at h
    ·rename_i B;simp only [sh]at h;subst h;rw [if_pos B,show g-l=0 by omega,show m-l=0 by omega]
     exact cD.es _
    ·rename_i B;simp only [sh]at h;subst h;rw [if_neg B];simp only [awg,dL,VR,ik,CR,fy,F];exact⟨L,hL,by omega,rfl⟩
   ·simp at h
  ·rename_i s' cs fl e st F;rw [F]at E;split at h
   ·rename_i Z;obtain⟨rfl,rfl,rfl⟩:=Z;have Y:=E.2.1 rfl rfl
    cases st with
    | loc=>
     obtain⟨L,hL,k,rfl,hk,rfl⟩:=Y;simp only at h;split at h
     ·rename_i l g m A;obtain⟨q,K,N,O⟩:=dx (Q:=Q) H I J A (show n≤L.cap-k by omega) (aft n) true X.w
      refine⟨_,ec d j q,?_⟩;generalize S:(if mx.isSome=true then m else L.cap-k)=M
      have b7:g≤M:=by rw [←S];split<;>omega
      split at h
      ·rename_i y;simp only [sh]at h;subst h;rw [if_pos y.1]at S;subst S;obtain⟨_,rfl⟩:=y;rw [show g-m=0 by omega,show m-m=0 by omega,if_pos rfl]
       exact cD.es _
      ·split at h
       ·rename_i y;simp only [sh]at h;subst h;rw [show g-l=0 by omega]
        have ho:∃ a',(if M=l then some (⟨L.c,k*s',none⟩:Addr)else Option.map (fun(x:Addr)=>x.add (l*s')) (some ⟨L.c,k*s',none⟩))=some a':=by split<;>exact⟨_,rfl⟩
        obtain⟨a',U⟩:=ho;rw [U];exact cD.fs0 _ _
       ·rename_i b_;split at h
        ·simp at h
        ·rename_i hn;simp only [sh]at h;subst h;rw [if_neg hn]at S
         have W:(if M=l then some (⟨L.c,k*s',none⟩:Addr)else Option.map (fun(x:Addr)=>x.add (l*s')) (some ⟨L.c,k*s',none⟩))=some ⟨L.c,k*s'+l*s',none⟩:=by
          split
          ·have:l=0:=by omega
           subst this;simp
          ·simp [dL]
         rw [W];simp only [VR,ik,CR,fy,F];refine⟨aft _,fun _ _=>⟨L,hL,k+l,by rw [awl],by omega,by rw [←S];congr 1;omega⟩,_,_,_,rfl⟩
     ·simp at h
    | nil=>
     obtain⟨rfl,rfl,rfl⟩:=Y;simp only at h;split at h
     ·rename_i r A;obtain⟨l,g,m⟩:=r;simp only [sh]at h;subst h;obtain⟨q,K,N,O⟩:=dx (Q:=Q) H I J A (aft 0) (aft 0) true X.w;refine⟨_,ec d j q,?_⟩;have:l=0∧g=0∧m=0:=by omega
      obtain⟨rfl,rfl,rfl⟩:=this;simp;exact cD.ay
     ·simp at h
    | es=>
     obtain⟨rfl,rfl,a,rfl⟩:=Y;simp only at h;split at h
     ·rename_i r A;obtain⟨l,g,m⟩:=r;simp only [sh]at h;subst h;obtain⟨q,K,N,O⟩:=dx (Q:=Q) H I J A (aft 0) (aft 0) true X.w;refine⟨_,ec d j q,?_⟩;have:l=0∧g=0∧m=0:=by omega
      obtain⟨rfl,rfl,rfl⟩:=this;simp;exact cD.es _
     ·simp at h
   ·simp at h
  ·simp at h
 ·simp at h
end
section
variable{Q:Program}{σ:Nat→FuncId}{X:Wd}
theorem O2{t:TypeId}(A:Q.underlying t=some .string){x:V}{u:Value}(B:VR σ X x u){lo hi:Option V}{d b:Option Value}(g:OR X σ lo d)(j:OR X σ hi b)
  {v:V} (h:vI x lo hi=some v) (w:World):∃ r,(Instr.sliceAt t u d b none).run Q w=.ok r w∧VR σ X v r:=by
 unfold vI at h;split at h
 ·rename_i s;have:=VR.str B;subst this;split at h
  ·rename_i l z m y;simp only [sh]at h;subst h;obtain⟨q,_⟩:=dx (Q:=Q) (mx:=none) (mx':=none) g j trivial y (aft _) (aft _) false w;exact⟨.string (s.extract l z),by simp [Instr.sliceAt,Instr.slice,aR A,q],VR.mkStr _⟩
  ·simp at h
 ·simp at h
theorem O0(hS:SR Q σ X){t e:TypeId}{n sz:Nat}(g:Q.underlying t=some (.array n e))(E:c7 Q e sz=true){x:V}{u:Value}(q:VR σ X x u)
  {lo hi mx:Option V} {z y mx':Option Value} (F:OR X σ lo z) (H:OR X σ hi y) (I:OR X σ mx mx') {v:V} (h:ig X.H n sz x lo hi mx=some v) :
  ∃ r,(Instr.sliceAt t u z y mx').run Q X.w=.ok r X.w∧VR σ X v r:=by
 have run:∀(a:Addr) l j m,(Instr.sliceBounds false n n z y mx').run Q X.w=.ok (l,j,m) X.w →
   (Instr.sliceAt t (.pointer (some a)) z y mx').run Q X.w=.ok (.slice (some (if m=l then a else a.add (l*sz))) (j-l) (m-l)) X.w:=by
  intro a l j m s;simp [Instr.sliceAt,aR g,Instr.sureAddr,s,cQ E]
 have mm:∀ {l j m:Nat},cA n n lo hi mx=some (l,j,m)→(if mx.isSome=true then m else n)=m:=by
  intro l j m s;split
  ·rfl
  ·rename_i W
   cases mx with
   | some _=>simp at W
   | none=>unfold cA at s;cases hi<;>cases lo<;>simp [av0]at s<;>omega
 unfold ig at h;split at h
 ·rename_i b off Y;obtain⟨L,O,q⟩:=q;split at h
  ·rename_i cs Z B;rw [B]at q;simp only at q;subst q;split at h
   ·rename_i l j m s;obtain⟨A,J,K,M⟩:=dx (Q:=Q) F H I s (aft n) (aft n) false X.w;rw [mm s]at A;split at h
    ·refine⟨_,run _ _ _ _ A,?_⟩;split at h
     ·rename_i d;simp only [sh]at h;subst h;rw [if_pos d,show j-l=0 by omega,show m-l=0 by omega]
      exact cD.es _
     ·rename_i d;simp only [sh]at h;subst h;rw [if_neg d];simp only [dL,VR,ik,CR,fy,B];exact⟨L,O,by omega,rfl⟩
    ·simp at h
   ·simp at h
  ·simp at h
 ·rename_i cs off
  cases (q:cD σ X.F X.w (.fp cs off) u)with
  | fp _ _ c o us U N S hr=>
   split at h
   ·rename_i l j m s;obtain⟨A,J,K,M⟩:=dx (Q:=Q) F H I s (aft n) (aft n) false X.w;rw [mm s]at A;split at h
    ·refine⟨_,run _ _ _ _ A,?_⟩;split at h
     ·rename_i d;simp only [sh]at h;subst h;rw [if_pos d,show j-l=0 by omega,show m-l=0 by omega]
      exact cD.es _
     ·rename_i d;simp only [sh]at h;subst h;rw [if_neg d,dL];refine cD.fs _ _ c (o+off+l*sz) _ ((us.drop (off+l*sz)).take ((j-l)*sz)) (by omega) (by simp [U]) (fun i hi=>?_) (fun i u g=>?_) (fun i x u q g=>?_)
      ·have:=N (off+l*sz+i) (by simp at hi;omega);rwa [show o+(off+l*sz+i)=o+off+l*sz+i by omega]at this
      ·rw [av6]at g;split at g
       ·rw [avU]at g;have:=S _ u g;rwa [show o+(off+l*sz+i)=o+off+l*sz+i by omega]at this
       ·simp at g
      ·rw [av6]at g q;split at g
       ·rename_i hi;rw [if_pos hi]at q;rw [avU]at g q;exact hr _ x u q g
       ·simp at g
    ·simp at h
   ·simp at h
 ·simp at h
theorem FY{t:TypeId}{l:Array Field}(H:Q.underlying t=some (.struct l)){i:Nat}{f:Field}(E:l[i]?=some f)(j:(Q.info? f.type).any (fun i=>i.size != 0)=true)
  {x:V} {u:Value} (g:VR σ X x u) {v:V} (h:iu f.offset x=some v) (w:World):∃ r,(Instr.fieldAt t u i).run Q w=.ok r w∧VR σ X v r:=by
 have run:∀ a:Addr,(Instr.fieldAt t (.pointer (some a)) i).run Q w=.ok (.pointer (some (a.add f.offset))) w:=by
  intro a
  cases hi:Q.info? f.type with
  | none=>simp [hi]at j
  | some I=>
   simp [hi]at j;simp [Instr.fieldAt,aR H,E,Instr.sureAddr,fieldPlace,Go.sizeOf,typeInfo,hi,j]
 unfold iu at h;split at h
 ·rename_i b o J;simp only [sh]at h;subst h;obtain⟨L,m,g⟩:=g;split at g
  ·rename_i d;subst g;exact⟨_,run _,L,m,by rw [d,dL]⟩
  ·rename_i s cs K e d;obtain⟨q,y,a,rfl⟩:=g;refine⟨_,run _,L,m,?_⟩;rw [d];refine⟨q,fun B=>?_,_,rfl⟩
   have:=y B;simp only [Value.pointer.injEq,sh]at this;rw [this,dL]
  ·exact g.elim
 ·rename_i cs o;simp only [sh]at h;subst h
  cases (g:cD σ X.F X.w (.fp cs o) u)with
  | fp _ _ c o' us F z A hr=>
   refine⟨_,run _,?_⟩;rw [dL,Nat.add_assoc];exact cD.fp cs _ c o' us F z A hr
 ·simp at h
theorem F4{t e:TypeId}{sz:Nat}{q:Option Nat}(I:c7 Q e sz=true)
  (H:(q=none∧Q.underlying t=some (.slice e))∨∃ n,q=some n∧Q.underlying t=some (.array n e)) {x i:V} {u j:Value} (m:VR σ X x u) (hi:VR σ X i j)
  {v:V} (h:aG X.H sz q x i=some v):∃ r,(Instr.indexAt t u j).run Q X.w=.ok r X.w∧VR σ X v r:=by
 unfold aG at h;split at h
 ·simp at h
 rename_i k hk;obtain⟨O,rfl⟩:=iy hi hk;split at h
 ·rename_i M
  have z:q=none→∀(a:Addr) (l c:Nat),k<l→(Instr.indexAt t (.slice (some a) l c) (.int O k)).run Q X.w=.ok (.pointer (some (a.add (k.toNat*sz)))) X.w:=by
   intro J a l c g;rcases H with⟨_,H⟩ | ⟨n,A,_⟩
   ·simp [Instr.indexAt,asIntOf,aR H,M,g,cQ I]
   ·rw [J]at A;simp at A
  have y:∀ n,q=some n→∀(a:Addr),k<n→(Instr.indexAt t (.pointer (some a)) (.int O k)).run Q X.w=.ok (.pointer (some (a.add (k.toNat*sz)))) X.w:=by
   intro n J a g;rcases H with⟨A,_⟩ | ⟨n',A,H⟩
   ·rw [J]at A;simp at A
   ·rw [J]at A;simp only [sh]at A;subst A;simp [Instr.indexAt,asIntOf,aR H,Instr.sureAddr,M,g,cQ I]
  split at h
  ·rename_i b o l c U s;split at h
   ·rename_i g;simp only [VR,ik,CR,fy]at m;split at h
    ·rename_i d;rw [d]at m;obtain⟨L,E,_,rfl⟩:=m;simp only [sh]at h;subst h;exact⟨_,z rfl _ _ _ g,L,E,by rw [d,dL]⟩
    ·rename_i s' cs W S d;rw [d]at m;split at h
     ·rename_i F;simp only [sh]at h;subst h;obtain⟨L,E,kq,_,_,rfl⟩:=m.2.1 F.1 F.2;exact⟨_,z rfl _ _ _ g,L,E,by rw [d,dL];exact⟨m.1,fun _=>rfl,_,rfl⟩⟩
     ·simp at h
    ·simp at h
   ·simp at h
  ·rename_i cs l;split at h
   ·rename_i g;simp only [sh]at h;subst h
    cases (m:cD σ X.F X.w (.fs cs l) u)with
    | fs _ _ c o cap us N B K F hr=>
     refine⟨_,z rfl _ _ _ g,?_⟩
     rw [dL];exact cD.fp cs _ c o us B K F hr
    | fs0 a cap=>simp at g;omega
   ·simp at h
  ·rename_i n b o U;split at h
   ·rename_i g;simp only [sh]at h;subst h;obtain⟨L,E,m⟩:=m;split at m
    ·rename_i d;subst m;exact⟨_,y n rfl _ g,L,E,by rw [d,dL]⟩
    ·rename_i s cs W S d;obtain⟨Y,Z,a,rfl⟩:=m;refine⟨_,y n rfl _ g,L,E,?_⟩;rw [d];refine⟨Y,fun he=>?_,_,rfl⟩
     have:=Z he;simp only [Value.pointer.injEq,sh]at this;rw [this,dL]
    ·exact m.elim
   ·simp at h
  ·rename_i n cs o;split at h
   ·rename_i g;simp only [sh]at h;subst h
    cases (m:cD σ X.F X.w (.fp cs o) u)with
    | fp _ _ c o' us B K F hr=>
     refine⟨_,y n rfl _ g,?_⟩;rw [dL,Nat.add_assoc];exact cD.fp cs _ c o' us B K F hr
   ·simp at h
  ·simp at h
 ·simp at h
theorem vN{t:TypeId}{n:Option Nat}(s:vM Q t n=true){xs:List C}{us:List Value}(l:A2 (CR σ X) xs us)(off:Nat){v:V}(b:aF n (xs.drop off)=some v)(w:World) :
  ∃ u,(part t us.toArray off).run Q w=.ok u w∧VR σ X v u:=by
 obtain⟨m,q⟩:=IK s w
 cases n with
 | none=>
  cases d:xs.drop off with
  | nil=>rw [d]at b;simp [aF]at b
  | cons x cs=>
   rw [d]at b;simp only [aF,sh]at b;subst b;obtain⟨u,y,j⟩:=(l.drop off).get (i:=0) (x:=x) (by rw [d];rfl)
   have g:us[off]?=some u:=by simpa [avU]using y
   exact⟨u,by simp [part,m,g],j⟩
 | some n=>
  simp only [aF]at b;split at b
  ·simp only [sh]at b;subst b;exact⟨.agg ((us.drop off).take n).toArray,by simp [part,m,cQ (q n rfl),awM],_,rfl,(l.drop off).take n⟩
  ·simp at b
theorem NX{t:TypeId}{b:Array Field}(q:Q.underlying t=some (.struct b)){i:Nat}{f:Field}(l:b[i]?=some f){n:Option Nat}(m:vM Q f.type n=true)
  {x:V} {u:Value} (s:VR σ X x u) {v:V} (h:mE f.offset n x=some v) (w:World):∃ r,(Instr.field t u i).run Q w=.ok r w∧VR σ X v r:=by
 unfold mE at h;split at h
 ·obtain⟨us,rfl,d⟩:=s;obtain⟨r,g,j⟩:=vN m d f.offset h w;exact⟨r,by simp [Instr.field,aR q,l,asAgg,g],j⟩
 ·simp at h
theorem aaE{t e:TypeId}{len sz:Nat}(y:Q.underlying t=some (.array len e))(b:c7 Q e sz=true){n:Option Nat}(s:vM Q e n=true)
  {x i:V} {u j:Value} (z:VR σ X x u) (hi:VR σ X i j) {v:V} (h:lR len sz n x i=some v) (w:World):∃ r,(Instr.index t u j).run Q w=.ok r w∧VR σ X v r:=by
 unfold lR at h;split at h
 ·rename_i xs k q;obtain⟨A,rfl⟩:=iy hi q;split at h
  ·rename_i m;obtain⟨us,rfl,d⟩:=z;obtain⟨r,g,l⟩:=vN s d _ h w;exact⟨r,by simp [Instr.index,asIntOf,aR y,m,cQ b,g],l⟩
  ·simp at h
 ·simp at h
theorem aaF{t:TypeId}(m:Q.underlying t=some .string){x i:V}{u j:Value}(q:VR σ X x u)(hi:VR σ X i j){v:V}(h:CM x i=some v)(w:World) :
  ∃ r,(Instr.index t u j).run Q w=.ok r w∧VR σ X v r:=by
 unfold CM at h;split at h
 ·rename_i s k l;obtain⟨y,rfl⟩:=iy hi l;have:=VR.str q;subst this;split at h
  ·rename_i d;simp only [IN]at h;obtain⟨b,g,rfl⟩:=h;exact⟨_,by simp [Instr.index,asIntOf,aR m,d,g],VR.mkInt _ _⟩
  ·simp at h
 ·simp at h
end
section
variable{Q:Program}{σ:Nat→FuncId}{X:Wd}
theorem A2.over{α β:Type}{R:α→β→Prop}{cs xs:List α}{us d:List β}(h:A2 R cs us)(b:A2 R xs d)(off:Nat):A2 R (over cs off xs) (over us off d):=by
 unfold Km.over;rw [b.len];exact((h.take off).append b).append (h.drop _)
theorem Db{α:Type}(cs:List α)(off:Nat)(xs:List α)(h:off+xs.length≤cs.length):(over cs off xs).length=cs.length:=by
 simp [over];omega
theorem CJ(off:Nat):∀(d:List Value) (k:Nat) (b:List Value),off+k+d.length≤b.length →
  ((d.zipIdx k).foldl (fun(cs:Array Value) p=>cs.setIfInBounds (off+p.2) p.1) b.toArray)=(over b (off+k) d).toArray
 | [],k,b,_=>by simp [over]
 | v::d,k,b,h=>by
  simp only [List.zipIdx_cons,awF];have g:b.toArray.setIfInBounds (off+k) v=(b.set (off+k) v).toArray:=by simp
  rw [g,CJ off d (k+1) _ (by simp at h ⊢;omega)]
  congr 1
  unfold over;simp only [awa]at h ⊢;rw [List.take_set,List.drop_set_of_lt (by omega),show off+(k+1)=off+k+1 by omega,show off+k+1+d.length=off+k+(d.length+1) by omega]
  rw [avN (by omega)]
  have j:(List.take (off+k) b).length=off+k:=by simp;omega
  have e:(List.take (off+k) b++[b[off+k]]).set (off+k) v=List.take (off+k) b++[v]:=by
   rw [List.set_append,if_neg (by omega),j];simp
  rw [e];simp
theorem po{x:V}{u:Value}(b:VR σ X x u){xs:List C}(h:x.cells?=some xs):∃ us,u.cells=us.toArray∧A2 (CR σ X) xs us:=by
 unfold V.cells? at h;split at h
 ·rename_i x;simp only [sh]at h;subst h;have d:=CR.one σ b;refine⟨[u],?_,A2.cons b A2.nil⟩;cases u<;>simp_all [Value.cells,Value.oneCell']
 ·simp only [sh]at h;subst h;obtain⟨us,rfl,h⟩:=b;exact⟨us,rfl,h⟩
 ·simp at h
theorem nv{a:Act}{au:T}(v:RR σ X au a.tmps){place:Nat→Option (Nat × Nat)}:∀ {qs:List (Nat × Nat × Arg)} {ps:List (Nat × Operand)},
  A2 (fun(q:Nat × Nat × Arg) (p:Nat × Operand)=>place p.1=some (q.1,q.2.1)∧mA σ q.2.2 p.2=true) qs ps→∀ {cs cs':List C} {us:List Value},A2 (CR σ X) cs us →
  dc au cs qs=some cs'→∃ d,Instr.fill place us.toArray (ps.map fun p=>(p.1,a.eval p.2))=some d.toArray∧A2 (CR σ X) cs' d
 | [],[],_,cs,cs',us,h,b=>by
  simp only [dc,sh]at b;subst b
  exact⟨us,rfl,h⟩
 | [],_::_,g,_,_,_,_,_=>by have:=g.len;simp at this
 | _::_,[],g,_,_,_,_,_=>by have:=g.len;simp at this
 | (off,n,x)::qs,(i,y)::ps,g,cs,cs',us,h,b=>by
  obtain⟨⟨s,u⟩,l⟩:=g.of_cons;simp only at s u;simp only [dc]at b;split at b
  ·rename_i xs m;split at b
   ·rename_i H;obtain⟨F,E,j⟩:=po (bF v u) m;obtain⟨d,z,A⟩:=nv v l (h.over j off) b;refine⟨d,?_,A⟩;have I:=j.len;have B:=h.len;simp only [List.map_cons,Instr.fill,s,E];rw [if_neg (by simp;omega)]
    rw [←z]
    congr 1
    have:=CJ off F 0 us (by omega)
    simp only [Nat.add_zero]at this;rw [←this];simp [←Array.foldl_toList]
   ·simp at b
  ·simp at b
theorem dY{t:TypeId}{zs:List FC}(h:kz Q t zs=true)(w:World):∃ z us,(zeroValue t).run Q w=.ok z w∧z.cells=us.toArray∧A2 (CR σ X) (zs.map .f) us ∧
  ∃ i,Q.info? t=some i∧i.zero=some z:=by
 unfold kz at h
 cases hi:Q.info? t with
 | none=>simp [hi]at h
 | some i=>
  simp only [hi,Option.any_some]at h;split at h
  ·rename_i z d;refine⟨z,z.cells.toList,by simp [zeroValue,typeInfo,hi,d],by simp,A2.map ((dV h).kC fun x u b=>Gg b),i,rfl,d⟩
  ·simp at h
end
section
variable{Q:Program}{σ:Nat→FuncId}{X:Wd}
theorem kX{b:CK}{t:TypeId}(h:Oh Q b t=true):(b=.int∧∃ j,Q.underlying t=some (.int j))∨(b=.str∧Q.underlying t=some .string)∨(b=.bool∧Q.underlying t=some .bool):=by
 unfold Oh at h;split at h
 ·exact .inl ⟨rfl,_,by assumption⟩
 ·exact .inr (.inl ⟨rfl,by assumption⟩)
 ·exact .inr (.inr ⟨rfl,by assumption⟩)
 ·simp at h
theorem uI{l:CK}{d:TypeDesc}(m:(l=.int∧∃ j,d=.int j)∨(l=.str∧d=.string)∨(l=.bool∧d=.bool)){F:Nat→Nat→Prop}{w:World}{x y:FC}{u v:Value}
  (q:cD σ F w x u) (s:cD σ F w y v) {b:Bool} (h:eqK l x y=some b):Instr.sameNow d u v=some b:=by
 unfold eqK at h;split at h
 ·cases q;cases s;rcases m with⟨_,j,rfl⟩ | ⟨g,_⟩ | ⟨g,_⟩
  ·simpa [Instr.sameNow]using h
  ·cases g
  ·cases g
 ·cases q;cases s;rcases m with⟨g,_⟩ | ⟨_,rfl⟩ | ⟨g,_⟩
  ·cases g
  ·simpa [Instr.sameNow]using h
  ·cases g
 ·cases q;cases s;rcases m with⟨g,_⟩ | ⟨g,_⟩ | ⟨_,rfl⟩
  ·cases g
  ·cases g
  ·simpa [Instr.sameNow]using h
 ·simp at h
theorem yC{l:CK}{d:TypeDesc}(q:(l=.int∧∃ j,d=.int j)∨(l=.str∧d=.string)∨(l=.bool∧d=.bool)){F:Nat→Nat→Prop}{w:World}{k:FC}{B:Value}(v:cD σ F w k B) :
  ∀ {R:C→Value→Prop} {y:List (FC × C)} {b:List MapEntry},A2 (fun e m=>cD σ F w e.1 m.key∧R e.2 m.val) y b→∀ {r:Option C} (i:Nat),mR l k y=some r →
  match r with
  | none=>Instr.findNow d B b i=some none
  | some x=>∃ j u,Instr.findNow d B b i=some (some (j,u))∧R x u
 | _,[],[],_,r,i,h=>by
  simp only [mR,sh]at h;subst h;rfl
 | _,[],_::_,g,_,_,_=>by have:=g.len;simp at this
 | _,_::_,[],g,_,_,_=>by have:=g.len;simp at this
 | _,e::y,m::b,g,r,i,h=>by
  obtain⟨⟨z,E⟩,A⟩:=g.of_cons;simp only [mR]at h;split at h
  ·rename_i s;simp only [sh]at h;subst h;exact⟨i,m.val,by simp [Instr.findNow,uI q v z s],E⟩
  ·rename_i s;have:=yC q v A (i+1) h
   cases r with
   | none=>simpa [Instr.findNow,uI q v z s]using this
   | some x=>obtain⟨j,u,H,I⟩:=this;exact⟨j,u,by simp [Instr.findNow,uI q v z s,H],I⟩
  ·simp at h
theorem gT{l:CK}{t:TypeId}(h:Oh Q l t=true){k:FC}{F:Nat→Nat→Prop}{q:World}{g:Value}(m:cD σ F q k g)(hi:isKey l k=true)(b:Bool)(w:World) :
  (Instr.checkKey b 10000 t g).run Q w=.ok () w:=by
 have:∀ n,(Instr.checkKey b (n+1) t g).run Q w=.ok () w:=by
  intro n;rcases kX h with⟨rfl,j,d⟩ | ⟨rfl,d⟩ | ⟨rfl,d⟩<;>cases m<;>simp_all [isKey,Instr.checkKey,aR d]
 exact this 9999
theorem Ga{z:FC}{r:Option C}{u:Value}{g:Bool}(b:g=(tf z).isSome)(h:ik σ X ((r.map mV).getD (zV ((tf z).getD z))) u):VR σ X (lkR z r) (if g=true then .tuple #[u,.bool r.isSome]else u):=by
 unfold lkR
 cases d:tf z with
 | none=>rw [d]at h b;subst b;exact VR.of1 σ h
 | some z0=>rw [d]at h b;subst b;exact⟨[u,.bool r.isSome],rfl,A2.cons h (A2.cons (cD.bool _) A2.nil)⟩
theorem Od(hS:SR Q σ X){t kt e:TypeId}{K:CK}(Z:Q.underlying t=some (.map kt e))(M:Oh Q K kt=true){z:FC}{J:Bool}(H:J=(tf z).isSome)(hz:kz Q e (sA ((tf z).getD z))=true)
  (l:(Q.info? e).any (fun i=>i.zero.any fun u=>if G_ ((tf z).getD z)then ajW u else akZ u)=true) {m k:V} {um uk:Value} (hm:VR σ X m um) (s:VR σ X k uk) {v:V} (h:fR X.H K z m k=some v) :
  ∃ u,(Instr.lookup t um uk J).run Q X.w=.ok u X.w∧VR σ X v u:=by
 obtain⟨I,zs,N,A,B,i0,W,Y⟩:=dY (σ:=σ) (X:=X) hz X.w
 have O:ik σ X (zV ((tf z).getD z)) I:=by
  simp only [W,Option.any_some,Y]at l;generalize (tf z).getD z=z0 at *
  cases S:G_ z0 with
  | true=>
   rw [amH S];simp only [S,if_true]at l
   cases I with
   | agg cs=>exact⟨zs,by simp only [Value.cells]at A;rw [A],B⟩
   | _=>simp [ajW]at l
  | false=>
   obtain⟨e1,e2⟩:=amI S;rw [e1];rw [e2]at B;simp only [S,atN,if_false]at l;obtain⟨u,a8,a_⟩:=B.get (i:=0) (x:=.f z0) rfl;have hl:=B.len
   have b7:zs=[u]:=by
    match zs,hl,a8 with
    | [y],_,h=>simp at h;rw [h]
   subst b7
   cases I with
   | agg cs=>simp [akZ]at l
   | _=>simp only [Value.cells]at A;have:=congrArg Array.toList A;simp at this;subst this;exact a_
 unfold fR at h;split at h
 ·rename_i kc;split at h
  ·rename_i q;simp only [sh]at h;subst h;cases (hm:cD σ X.F X.w .wF um);refine⟨if J=true then .tuple #[I,.bool false]else I,?_,Ga (r:=none) H O⟩
   rcases kX M with⟨_,j,g⟩ | ⟨_,g⟩ | ⟨_,g⟩ <;>
    simp [Instr.lookup,aR Z,gT M s q,Instr.findKey,aR g,Instr.findNow,N]
  ·simp at h
 ·rename_i b kc;split at h
  ·rename_i es hb;split at h
   ·rename_i q;simp only [IN]at h;obtain⟨r,hr,rfl⟩:=h;obtain⟨L,hL,_,rfl⟩:=hm;obtain⟨_,_,aX,F,U⟩:=hS.br b L hL;rw [hb]at F;simp only [sh]at F;subst F;obtain⟨b9,h1,h2,_⟩:=U
    have go:∀ d,Q.underlying kt=some d→((K=.int∧∃ j,d=.int j)∨(K=.str∧d=.string)∨(K=.bool∧d=.bool))→∃ u,(Instr.lookup t (.map (some L.c)) uk J).run Q X.w=.ok u X.w∧VR σ X (lkR z r) u:=by
     intro d g hd;have h3:=yC (R:=fun c u=>ik σ X (mV c) u) hd s h2 0 hr
     cases r with
     | none=>
      refine⟨if J=true then .tuple #[I,.bool false]else I,?_,Ga (r:=none) H O⟩
      simp [Instr.lookup,aR Z,getObj,Sem.run,h1,gT M s q,Instr.findKey,aR g,h3,N]
     | some x=>
      obtain⟨j,u,E,h5⟩:=h3;refine⟨if J=true then .tuple #[u,.bool true]else u,?_,Ga (r:=some x) H h5⟩
      simp [Instr.lookup,aR Z,getObj,Sem.run,h1,gT M s q,Instr.findKey,aR g,E]
    rcases kX M with⟨E,j,g⟩ | ⟨E,g⟩ | ⟨E,g⟩
    ·exact go _ g (.inl ⟨E,j,rfl⟩)
    ·exact go _ g (.inr (.inl ⟨E,rfl⟩))
    ·exact go _ g (.inr (.inr ⟨E,rfl⟩))
   ·simp at h
  ·simp at h
 ·simp at h
end
section
variable{Q:Program}{σ:Nat→FuncId}{X:Wd}
theorem dF{s:Sem Value}{u:Value}{w w':World}(h:s.run Q w=.ok u w'):(do pure (Next.value (←s)):Sem Next).run Q w=.ok (.value u) w':=by simp [h]
theorem sF{a:Act}{au:T}(b:RR σ X au a.tmps){x:Option Arg}{y:Option Operand}(h:mO σ x y=true):OR X σ (x.map (·.ev au)) (y.map a.eval):=by
 rcases apx b h with⟨rfl,rfl⟩ | ⟨g,j,rfl,rfl,d⟩
 ·trivial
 ·exact d
theorem gM{t:TypeId}{p:TypeId→Bool}(h:(mC Q t).any p=true):∃ e,Q.underlying t=some (.slice e)∧p e=true:=by
 unfold mC at h;split at h
 ·exact⟨_,by assumption,by simpa using h⟩
 ·simp at h
theorem kr{x:C}{u:Value}(b:CR σ X x u){l:Nat}(h:bA X.H x=some l):∃ a c,u=.slice a l c:=by
 unfold bA at h;split at h<;>try simp only [sh,reduceCtorEq]at h
 ·simp only [CR,fy]at b;split at h
  ·rename_i d;rw [d]at b;obtain⟨L,_,_,rfl⟩:=b;simp only [sh]at h;subst h;exact⟨_,_,rfl⟩
  ·rename_i s cs j e st d;rw [d]at b;split at h
   ·rename_i g;have:=b.2.1 g.1 g.2;simp only [sh]at h;subst h
    cases st with
    | loc=>obtain⟨L,_,k,_,_,rfl⟩:=this;exact⟨_,_,rfl⟩
    | nil=>obtain⟨_,rfl,rfl⟩:=this;exact⟨_,_,rfl⟩
    | es=>obtain⟨_,rfl,a,rfl⟩:=this;exact⟨_,_,rfl⟩
   ·simp at h
  ·simp at h
 ·subst h;cases (b:cD σ X.F X.w .ay u);exact⟨_,_,rfl⟩
 ·subst h;cases (b:cD σ X.F X.w .es u);exact⟨_,_,rfl⟩
 ·subst h;cases (b:cD σ X.F X.w (.fs _ _) u)<;>exact⟨_,_,rfl⟩
theorem lE(J:SR Q σ X){sz:Nat}{x:C}{u:Value}(y:CR σ X x u){l:Nat}(m:bA X.H x=some l){cs:List C}(h:cH X.H sz x=some cs) :
  ∃ us,(Builtin.firstCells sz l u).run Q X.w=.ok us.toArray X.w∧A2 (CR σ X) cs us∧cs.length=l*sz:=by
 have row:∀(c o:Nat) (us:List Value) (cap:Nat),us.length=l*sz→(∀(i:Nat) u,us[i]?=some u→X.w.cell? ⟨c,o+i,none⟩=some u) →
   (Builtin.firstCells sz l (.slice (some ⟨c,o,none⟩) l cap)).run Q X.w=.ok us.toArray X.w:=by
  intro c o us cap g F;have:=run_loadCells_list (P:=Q) X.w ⟨c,o,none⟩ us (fun j v N=>by rw [dL];exact F j v N)
  rw [g]at this;simpa [Builtin.firstCells]using this
 unfold cH at h;split at h<;>try simp only [reduceCtorEq]at h
 ·rename_i b o H cap S s;simp only [CR,fy]at y;simp only [bA]at m;split at h
  ·rename_i cs' M E;rw [E]at y m;simp only [sh]at m;subst m;obtain⟨L,I,_,rfl⟩:=y;split at h
   ·rename_i q;simp only [sh]at h;subst h;obtain⟨_,_,aX,d,z⟩:=J.br b L I;rw [E]at d;simp only [sh]at d;subst d;obtain⟨us,hr,B,_⟩:=z;have:=B.len;refine⟨(us.drop o).take (H*sz),row _ _ _ _ (by simp;omega) (fun i u g=>?_),(B.drop o).take _,by simp;omega⟩
    rw [dA hr];rw [av6]at g;split at g
    ·rw [avU]at g;exact g
    ·simp at g
   ·simp at h
  ·rename_i s' cs' M e st E;rw [E]at y m;split at h
   ·rename_i F;obtain⟨rfl,rfl,q⟩:=F;simp only [and_self,if_true,sh]at m;subst m;simp only [sh]at h;subst h;have A:=y.2.1 rfl rfl
    cases st with
    | loc=>
     obtain⟨L,I,k,_,_,rfl⟩:=A;obtain⟨_,_,aX,d,z⟩:=J.br b L I;rw [E]at d;simp only [sh]at d;subst d;obtain⟨_,us,rest,hr,B,_⟩:=z;have:=B.len;refine⟨(us.drop o).take (H*sz),row _ _ _ _ (by simp;omega) (fun i u g=>?_),(B.drop o).take _,by simp;omega⟩
     rw [dA hr];rw [av6]at g;split at g
     ·rw [avU]at g;rw [AT (BY.1 g).1];exact g
     ·simp at g
    | nil=>
     obtain⟨rfl,rfl,rfl⟩:=A
     exact⟨[],by simp [Builtin.firstCells],by simpa using A2.nil,by simp⟩
    | es=>
     obtain⟨rfl,rfl,a,rfl⟩:=A;exact⟨[],by simp [Builtin.firstCells,loadCells,loadCellsFrom],by simpa using A2.nil,by simp⟩
   ·simp at h
  ·simp at h
 ·simp only [sh]at h;subst h;simp only [bA,sh]at m;subst m;cases (y:cD σ X.F X.w .ay u);exact⟨[],by simp [Builtin.firstCells],A2.nil,by simp⟩
 ·simp only [sh]at h;subst h;simp only [bA,sh]at m;subst m;cases (y:cD σ X.F X.w .es u);exact⟨[],by simp [Builtin.firstCells,loadCells,loadCellsFrom],A2.nil,by simp⟩
 ·rename_i cs' H;simp only [bA,sh]at m;subst m;split at h
  ·rename_i q;simp only [sh]at h;subst h
   cases (y:cD σ X.F X.w (.fs cs' H) u)with
   | fs _ _ c o cap us K O U F hr=>
    exact⟨us,row _ _ _ _ (by omega) F,A2.map ⟨by omega,hr⟩,by simp;omega⟩
   | fs0 a cap=>exact⟨[],by simp [Builtin.firstCells,loadCells,loadCellsFrom],A2.nil,by simp⟩
  ·simp at h
theorem afZ{v:V}{u:Value}(h:VR σ X v u){c:C}(l:ta v=some c):fy σ X c u:=by
 unfold ta at l;split at l
 ·simp at l
 ·simp at l
 ·rename_i x q m;simp only [sh]at l;subst l
  cases x with
  | cl f j=>exact absurd rfl (q f j)
  | bm f j=>exact absurd rfl (m f j)
  | mi b=>exact h
  | f y=>exact h
  | ptr a b c=>exact h
  | sl a b c d e g=>exact h
  | yl b=>exact h
  | mp b=>exact h
  | it b=>exact h
 ·simp at l
theorem Cr{xs:List V}{us:List Value}(h:A2 (VR σ X) xs us){cs:List C}(b:aU ta xs=some cs):A2 (fy σ X) cs us:=by
 induction xs generalizing us cs with
 | nil=>
  simp only [aU,sh]at b;subst b
  match us,h.len with
  | [],_=>exact A2.nil
 | cons x xs m=>
  match us,h with
  | u::us,h=>
   obtain⟨g,j⟩:=h.of_cons;simp only [aU]at b;split at b
   ·simp at b
   ·rename_i y l;split at b
    ·simp at b
    ·rename_i ys d;simp only [sh]at b;subst b
     exact A2.cons (afZ g l) (m j d)
  | [],h=>have:=h.len;simp at this
theorem dg{d:Operand→Value}{o:Oper}{c:Call}{b:Builtin}(j:o.op=.call c)(g:c.callee=.builtin b){r:Result Next}{w:World}
  (h:∀ cs,(builtin b c.argTypes o.type cs (c.args.map d)).run Q w=r):(execOp d o).run Q w=r:=by
 simp only [execOp,j,resolve,g,Sem.run_bind,Sem.run_pure,Result.andThen_ok,invoke];exact h _
theorem wg{α:Type}{a:Array α}{x:α}(h:a.toList=[x]):a=#[x]:=by
 apply Array.ext';simp [h]
theorem afT{α:Type}{a:Array α}{x y:α}(h:a.toList=[x,y]):a=#[x,y]:=by
 apply Array.ext';simp [h]
theorem Og{c:Call}{x:Arg}(h:du Q σ c (.len x)=true):∃ y t e,c.callee=.builtin .len∧c.args=#[y]∧c.argTypes=#[t]∧mA σ x y=true∧Q.underlying t=some (.slice e):=by
 simp only [du]at h;split at h
 ·rename_i y t b d g;simp only [If]at h;have:=h.2;split at this
  ·exact⟨y,t,_,b,wg d,wg g,h.1,by assumption⟩
  ·simp at this
 ·simp at h
theorem Ge{c:Call}{x:Arg}(h:du Q σ c (.lens x)=true):∃ y t,c.callee=.builtin .len∧c.args=#[y]∧c.argTypes=#[t]∧mA σ x y=true∧Q.underlying t=some .string:=by
 simp only [du]at h;split at h
 ·rename_i y t b d g;simp only [If]at h;have:=h.2;split at this
  ·exact⟨y,t,b,wg d,wg g,h.1,by assumption⟩
  ·simp at this
 ·simp at h
theorem Gd{c:Call}{n:Nat}(h:du Q σ c (.uS n)=true):∃ y t e,c.callee=.builtin .len∧c.args=#[y]∧c.argTypes=#[t]∧Q.underlying t=some (.array n e):=by
 simp only [du]at h;split at h
 ·rename_i y t b d g;split at h
  ·rename_i m e j;simp only [decide_eq_true_eq]at h;subst h;exact⟨y,t,e,b,wg d,wg g,j⟩
  ·simp at h
 ·simp at h
theorem Gf{c:Call}{lo:Bool}{xs:List Arg}(h:du Q σ c (.mP lo xs)=true):c.callee=.builtin (if lo then .min else .max)∧mAs σ xs c.args=true:=by
 simp only [du]at h;split at h
 ·rename_i b;exact⟨b,h⟩
 ·rename_i b;exact⟨b,h⟩
 ·simp at h
theorem aa3{lo:Bool}{x y z:V}{u v:Value}(b:VR σ X x u)(d:VR σ X y v)(h:H9 lo x y=some z)(w:World):∃ r,(if lo then Builtin.min2 u v else Builtin.max2 u v).run Q w=.ok r w∧VR σ X z r:=by
 unfold H9 at h;split at h
 ·simp only [sh]at h;subst h;have b:=VR.int b;have d:=VR.int d;subst b;subst d;cases lo
  ·exact⟨_,by simp [Builtin.max2],VR.mkInt _ _⟩
  ·exact⟨_,by simp [Builtin.min2],VR.mkInt _ _⟩
 ·simp at h
theorem C1{lo:Bool}(w:World):∀ {ys:List V} {d:List Value} {x z:V} {u:Value},VR σ X x u→A2 (VR σ X) ys d→yx lo x ys=some z→∃ r,(d.foldlM (fun u v=>if lo then Builtin.min2 u v else Builtin.max2 u v) u).run Q w=.ok r w∧VR σ X z r
 | [],d,x,z,u,g,b,h=>by
  have:d=[]:=api b.len.symm;subst this;simp only [yx,sh]at h;subst h
  exact⟨u,rfl,g⟩
 | y::ys,[],x,z,u,g,b,h=>by have:=b.len;simp at this
 | y::ys,v::d,x,z,u,g,b,h=>by
  obtain⟨A,b⟩:=b.of_cons;simp only [yx]at h;split at h
  ·rename_i q B;obtain⟨r1,j,l⟩:=aa3 (Q:=Q) g A B w;obtain⟨r,m,s⟩:=C1 w l b h;exact⟨r,by rw [List.foldlM_cons,Sem.run_bind,j];exact m,s⟩
  ·simp at h
theorem Of{c:Call}{x:Arg}(h:du Q σ c (.cap x)=true):∃ y t e,c.callee=.builtin .cap∧c.args=#[y]∧c.argTypes=#[t]∧mA σ x y=true∧Q.underlying t=some (.slice e):=by
 simp only [du]at h;split at h
 ·rename_i y t g j l;simp only [If]at h;obtain⟨m,d⟩:=h;split at d
  ·rename_i e b;exact⟨y,t,e,g,wg j,wg l,m,b⟩
  ·simp at d
 ·simp at h
theorem ab4{x:C}{u:Value}(d:CR σ X x u){n:Nat}(h:lW X.H x=some n):∃ a l,u=.slice a l n:=by
 cases x with
 | sl b o l c m sz=>
  simp only [lW]at h;simp only [CR,fy]at d;split at h
  ·rename_i g;rw [g]at d;obtain⟨L,_,_,rfl⟩:=d;simp only [sh]at h;subst h;exact⟨_,_,rfl⟩
  ·rename_i g;rw [g]at d;split at h
   ·rename_i j;have:=d.2.1 j.1 j.2;simp only [sh]at h;subst h;obtain⟨_,_,rfl⟩:=this;exact⟨_,_,rfl⟩
   ·simp at h
  ·rename_i g;rw [g]at d;split at h
   ·rename_i j;have:=d.2.1 j.1 j.2;simp only [sh]at h;subst h;obtain⟨_,_,a,rfl⟩:=this;exact⟨_,_,rfl⟩
   ·simp at h
  ·simp at h
 | f y=>
  cases y<;>simp only [lW,sh,reduceCtorEq]at h
  ·subst h;cases (d:cD σ X.F X.w .ay u);exact⟨_,_,rfl⟩
  ·subst h;cases (d:cD σ X.F X.w .es u);exact⟨_,_,rfl⟩
 | _=>simp [lW]at h
theorem H8(v:SR Q σ X){m:Nat}{L:Loc}(u:X.bU m=some L){e:FC × C}(x:X.H[m]?=some (.map [e])):∃ d:MapEntry,X.w.heap[L.c]?=some (.map #[d] 1)∧cD σ X.F X.w e.1 d.key∧ik σ X (mV e.2) d.val∧d.born=0:=by
 obtain⟨_,_,aX,g,l⟩:=v.br m L u;rw [x]at g;cases g;obtain⟨j,q,b,s⟩:=l
 match j,b with
 | [d],b=>exact⟨d,q,b.of_cons.1.1,b.of_cons.1.2,s 0 d rfl⟩
 | [],b=>have:=b.len;simp at this
 | _::_::_,b=>have:=b.len;simp at this
theorem NV(q:SR Q σ X){x:V}{u:Value}(K:VR σ X x u){v:V}(h:kL X.H x=some v):∃ r,(Instr.entry u).run Q X.w=.ok r X.w∧VR σ X v r:=by
 unfold kL at h;split at h
 ·rename_i b;obtain⟨L,H,_,rfl⟩:=K;split at h
  ·rename_i m s I;split at h
   ·rename_i e J;simp only [sh]at h;subst h;obtain⟨_,_,aX,d,j⟩:=q.br b L H;rw [I]at d;cases d;obtain⟨M,N,st,E,_,F,l⟩:=j;simp only [if_true]at l;obtain⟨rfl,rfl⟩:=l;obtain⟨g,y,z,A,B⟩:=H8 q E J;refine⟨.tuple #[g.key,g.val],?_,[g.key,g.val],rfl,A2.cons z (A2.cons A A2.nil)⟩;simp [Instr.entry,getObj,Sem.run,F,y,B,Result.andThen]
   ·simp at h
  ·simp at h
 ·simp at h
theorem Cw:∀ {cs:List C} {us:List Value} {d:List UInt8},A2 (CR σ X) cs us→aU (fun c=>match c with | C.f (.int .u8 n)=>some (UInt8.ofNat n.toNat) | _=>none) cs=some d →
  ∃ j:List Int,us=j.map (Value.int .u8)∧d=j.map fun n=>UInt8.ofNat n.toNat
 | [],us,d,h,b=>by
  simp only [aU,sh]at b;subst b
  match us,h.len with
  | [],_=>exact⟨[],rfl,rfl⟩
 | c::cs,[],d,h,b=>by have:=h.len;simp at this
 | c::cs,u::us,d,h,b=>by
  obtain⟨m,q⟩:=h.of_cons;simp only [aU]at b;split at b
  ·simp at b
  ·rename_i y g;split at b
   ·simp at b
   ·rename_i ys l;simp only [sh]at b;subst b;obtain⟨j,rfl,rfl⟩:=Cw q l;split at g
    ·rename_i n;simp only [sh]at g;subst g;cases (m:cD σ X.F X.w (.int .u8 n) u);exact⟨n::j,rfl,rfl⟩
    ·simp at g
theorem foldl_push:∀(b:List Int) (s:ByteArray),b.foldl (fun(r:ByteArray) n=>r.push (UInt8.ofNat n.toNat)) s=⟨s.data++(b.map fun n=>UInt8.ofNat n.toNat).toArray⟩
 | [],s=>by simp
 | n::b,s=>by
  rw [awF,foldl_push b]
  congr 1
  simp [ByteArray.push]
theorem aap(s:SR Q σ X){x:V}{u:Value}(m:VR σ X x u){v:V}(h:nU X.H x=some v):∃ r,(Conv.bytesToString u).run Q X.w=.ok r X.w∧VR σ X v r:=by
 unfold nU at h;split at h
 ·rename_i x;split at h
  ·rename_i l j;split at h
   ·rename_i cs g;simp only [IN]at h;obtain⟨z,y,rfl⟩:=h;obtain⟨us,d,q,A⟩:=lE s m j g;obtain⟨ad,c,rfl⟩:=kr m j;obtain⟨b,rfl,rfl⟩:=Cw q y;refine⟨.string (b.foldl (fun(r:ByteArray) n=>r.push (UInt8.ofNat n.toNat)) ByteArray.empty),?_,?_⟩
    ·cases ad with
     | none=>
      simp only [Builtin.firstCells,Sem.run_pure,Result.ok.injEq,and_true]at d
      have:b=[]:=by
       have:=congrArg Array.toList d;simpa using this.symm
      subst this
      simp only [Conv.bytesToString,List.foldl_nil,List.map_nil,Sem.run_pure]
     | some ad=>exact run_bytesToString X.w ad l c b (by simpa [Builtin.firstCells]using d)
    ·rw [foldl_push];rw [show(ByteArray.empty.data++(List.map (fun n:Int=>UInt8.ofNat n.toNat) b).toArray)=(List.map (fun n:Int=>UInt8.ofNat n.toNat) b).toArray from Array.empty_append]
     exact VR.mkStr _
   ·simp at h
  ·simp at h
 ·simp at h
theorem aiu(hS:SR Q σ X){a:Act}{au:T}(H:RR σ X au a.tmps){o:Oper}{op:cK}(A:dp Q σ o op=true)(hc:cls op=.p∨cls op=.r)(d6:op.fsl=false){v:V}{H':ai}
  (h:aZ au X.H op=some (v,H')):H'=X.H∧∃ u,(execOp a.eval o).run Q X.w=.ok (.value u) X.w∧VR σ X v u:=by
 cases op<;>first | (simp only [cls,reduceCtorEq,or_self]at hc;done) | (simp [cK.fsl]at d6;done) | clear d6
 case bf x=>
  simp only [aZ,sh,IS]at h;obtain⟨rfl,rfl⟩:=h;refine⟨rfl,?_⟩;simp only [dp]at A;split at A
  ·rename_i y E;exact⟨_,by simp [execOp,E],bF H A⟩
  ·rename_i y E;exact⟨_,by simp [execOp,E],bF H A⟩
  ·simp at A
 case pick c x y=>
  simp only [dp]at A;split at A
  ·rename_i c' x' y' E;simp only [If]at A;simp only [aZ]at h;have b9:=bF H A.1.1;split at h
   ·rename_i b Z;rw [Z]at b9;have b9:=VR.bool b9;simp only [sh,IS]at h;obtain⟨rfl,rfl⟩:=h;cases b
    ·exact⟨rfl,_,by simp [execOp,E,b9,asBool],bF H A.2⟩
    ·exact⟨rfl,_,by simp [execOp,E,b9,asBool],bF H A.1.2⟩
   ·simp at h
  ·simp at A
 case build zs qs=>
  simp only [dp]at A;split at A
  ·rename_i t ps E;simp only [If]at A;simp only [aZ,IN,IS]at h;obtain⟨cs,a_,rfl,rfl⟩:=h;obtain⟨z,us,j3,j4,j7,_⟩:=dY (σ:=σ) (X:=X) A.1 X.w;refine⟨rfl,?_⟩;have Z:=A.2;unfold aaY at Z;split at Z
   ·rename_i fs K;split at Z
    ·rename_i pl l9
     obtain⟨c9,N,h6⟩:=nv (place:=(pl.toArray[·]?)) H ((dV Z).kC fun q p W=>by
      simp only [If,decide_eq_true_eq]at W
      exact⟨by simpa using W.1,W.2⟩) j7 a_
     refine⟨.agg c9.toArray,?_,c9,rfl,h6⟩;have hp:=run_places (P:=Q) X.w fs.toList pl l9;simp only [execOp,E];refine dF ?_;simp [Instr.build,j3,aR K,Array.mapM_eq_mapM_toList,hp,j4];simp at N;simp [N]
    ·simp at Z
   ·rename_i n e K;split at Z
    ·rename_i j8 hi
     obtain⟨c9,N,h6⟩:=nv (place:=fun i=>some (i*j8.size,j8.size)) H ((dV Z).kC fun q p W=>by
      simp only [If,beq_iff_eq]at W
      exact⟨by rw [W.1.2,W.1.1],W.2⟩) j7 a_
     refine⟨.agg c9.toArray,?_,c9,rfl,h6⟩;simp only [execOp,E];refine dF ?_;simp [Instr.build,j3,aR K,Go.sizeOf,typeInfo,hi,j4,N]
    ·simp at Z
   ·simp at Z
  ·simp at A
 case load k x=>
  simp only [dp]at A;split at A
  ·rename_i t y E;simp only [If]at A;simp only [aZ,IN,IS]at h;obtain⟨v',F,rfl,rfl⟩:=h;obtain⟨u,J,M⟩:=akH hS A.1 (bF H A.2) F;exact⟨rfl,u,by simp only [execOp,E];exact dF J,M⟩
  ·simp at A
 case bh x=>
  simp only [dp]at A;split at A
  ·rename_i y E;have B:=bF H A;simp only [aZ]at h
   have d7:∀ ad,a.eval y=.pointer (some ad)→(execOp a.eval o).run Q X.w=.ok (.value (a.eval y)) X.w:=by
    intro ad b7;simp [execOp,E,b7]
   split at h
   ·rename_i b off e Z;simp only [sh,IS]at h;obtain⟨rfl,rfl⟩:=h;rw [Z]at B;have d5:=B;obtain⟨L,hL,B⟩:=B;split at B
    ·exact⟨rfl,_,d7 _ B,d5⟩
    ·obtain⟨_,_,ad,b7⟩:=B;exact⟨rfl,_,d7 _ b7,d5⟩
    ·exact B.elim
   ·rename_i cs off Z;simp only [sh,IS]at h;obtain⟨rfl,rfl⟩:=h;rw [Z]at B;have d5:=B
    have:∃ ad,a.eval y=.pointer (some ad):=by
     generalize a.eval y=u at B;cases (B:cD σ X.F X.w (.fp cs off) u);exact⟨_,rfl⟩
    obtain⟨ad,b7⟩:=this;exact⟨rfl,_,d7 _ b7,d5⟩
   ·simp at h
  ·simp at A
 case bin op x y=>
  simp only [dp]at A;split at A
  ·rename_i j_ t x' y' yt E;simp only [If,decide_eq_true_eq]at A;obtain⟨⟨rfl,B⟩,S⟩:=A;simp only [aZ,IN,IS]at h;obtain⟨v',F,rfl,rfl⟩:=h;have B:=bF H B;have S:=bF H S;refine⟨rfl,?_⟩
   have guard:∀ op,(∀ xs,a.eval x'≠.agg xs)→a.eval x'≠.nilIface→(eqGuard op t x' y' (a.eval x') (a.eval y')).run Q X.w=.ok () X.w:=by
    intro op J M;cases op<;>simp [eqGuard]<;>(generalize a.eval x'=ux at *;cases ux<;>simp at J M ⊢)
   unfold bJ at F;split at F
   ·rename_i k n k' m J M;rw [J]at B;rw [M]at S;have B:=VR.int B;have S:=VR.int S;split at F
    ·simp at F
    ·rename_i A;simp only [sh]at F;subst F;exact⟨_,by simp only [execOp,E];refine dF ?_;rw [Sem.run_bind,guard _ (by simp [B]) (by simp [B])];simp [B,S,binOp,Op.shift,A],VR.mkInt _ _⟩
   ·rename_i k n k' m J M;rw [J]at B;rw [M]at S;have B:=VR.int B;have S:=VR.int S;split at F
    ·simp at F
    ·rename_i A;simp only [sh]at F;subst F;exact⟨_,by simp only [execOp,E];refine dF ?_;rw [Sem.run_bind,guard _ (by simp [B]) (by simp [B])];simp [B,S,binOp,Op.shift,A],VR.mkInt _ _⟩
   ·rename_i k n k' m _ _ J M;rw [J]at B;rw [M]at S;have B:=VR.int B;have S:=VR.int S;split at F
    ·rename_i hk;subst hk;obtain⟨u,Y,O,N⟩:=afU (Q:=Q) (σ:=σ) (X:=X) F X.w;exact⟨u,by simp only [execOp,E];refine dF ?_;rw [Sem.run_bind,guard _ (by simp [B]) (by simp [B])];simp [B,S,N,Y],O⟩
    ·simp at F
   ·rename_i s1 s2 J M;rw [J]at B;rw [M]at S;have B:=VR.str B;have S:=VR.str S;obtain⟨u,Y,O⟩:=afW (Q:=Q) (σ:=σ) (X:=X) F X.w t;exact⟨u,by simp only [execOp,E];refine dF ?_;rw [Sem.run_bind,guard _ (by simp [B]) (by simp [B])];simp [B,S,Y],O⟩
   ·simp at F
  ·simp at A
 case eq neg k x y=>
  simp only [dp]at A;split at A
  ·rename_i j_ t x' y' yt E;simp only [If,decide_eq_true_eq]at A;obtain⟨⟨⟨rfl,B⟩,S⟩,hk⟩:=A;simp only [aZ,IN,IS]at h;obtain⟨b,F,rfl,rfl⟩:=h;refine⟨rfl,_,?_,VR.uX _⟩;simp only [execOp,E];exact dF (akl hk (bF H B) (bF H S) F neg X.w)
  ·simp at A
 case un op x=>
  simp only [dp]at A;split at A
  ·rename_i j_ t y E;simp only [If,decide_eq_true_eq]at A;obtain⟨rfl,B⟩:=A;simp only [aZ,IN,IS]at h;obtain⟨v',F,rfl,rfl⟩:=h;have B:=bF H B;refine⟨rfl,?_⟩;unfold unV at F;split at F
   ·rename_i k n J;rw [J]at B;have B:=VR.int B;simp only [sh]at F;subst F;exact⟨_,by simp [execOp,E,B,Op.unary,Op.intArith],VR.mkInt _ _⟩
   ·rename_i b J;rw [J]at B;have B:=VR.bool B;simp only [sh]at F;subst F;exact⟨_,by simp [execOp,E,B,Op.unary],VR.uX _⟩
   ·simp at F
  ·simp at A
 case ek k x=>
  simp only [dp]at A;split at A
  ·rename_i s d y E;simp only [If]at A;obtain⟨⟨B,hs⟩,hd⟩:=A;have B:=bF H B;simp only [aZ]at h;split at h
   ·rename_i q n J;rw [J]at B;have B:=VR.int B;simp only [sh,IS]at h;obtain⟨rfl,rfl⟩:=h;split at hd
    ·rename_i k' K;simp only [decide_eq_true_eq]at hd;subst hd;obtain⟨ds,k_⟩:=Option.isSome_iff_exists.1 hs;exact⟨rfl,_,by simp only [execOp,E];refine dF ?_;simp [convert,aR k_,aR K,B,Conv.intToInt],VR.mkInt _ _⟩
    ·simp at hd
   ·simp at h
  ·simp at A
 case zQ x=>
  simp only [dp]at A;split at A
  ·rename_i s d y E;simp only [If]at A;obtain⟨B,hd⟩:=A;have B:=bF H B;simp only [aZ]at h;split at h
   ·rename_i q J;rw [J]at B;have B:=VR.str B;simp only [sh,IS]at h;obtain⟨rfl,rfl⟩:=h;split at hd
    ·rename_i d_ e_;exact⟨rfl,_,by simp only [execOp,E];refine dF ?_;simp [convert,aR d_,aR e_,B],VR.mkStr _⟩
    ·simp at hd
   ·simp at h
  ·simp at A
 case kh f xs=>
  simp only [dp]at A;split at A
  ·rename_i g fst a8 E;simp only [If,beq_iff_eq]at A;obtain⟨⟨I,rfl⟩,B⟩:=A;simp only [aZ,IN,IS]at h;obtain⟨cs,a_,rfl,rfl⟩:=h;have:=Cr (mM H B) a_;have h_:fst=#[]:=by simpa using I
   exact⟨rfl,.func (.func (σ f)) #[] (a8.map a.eval),by simp only [execOp,E,Instr.makeFunc,h_];exact dF (by simp),(a8.map a.eval).toList,congrArg _ Array.toArray_toList.symm,this⟩
  ·simp at A
 case slice sz x lo hi mx=>
  simp only [dp]at A;split at A
  ·rename_i t y j9 i_ mx' E;simp only [If,decide_eq_true_eq]at A;obtain⟨⟨⟨⟨⟨B,J⟩,M⟩,Y⟩,he⟩,hz⟩:=A;obtain⟨e,K,U⟩:=gM he;simp only [aZ,IN,IS]at h;obtain⟨v',F,rfl,rfl⟩:=h;obtain⟨r,O,N⟩:=yX K U (bF H B) (sF H J) (sF H M) (sF H Y) F;exact⟨rfl,r,by simp only [execOp,E];exact dF O,N⟩
  ·simp at A
 case ku n sz x lo hi mx=>
  simp only [dp]at A;split at A
  ·rename_i t y j9 i_ mx' E;simp only [If,decide_eq_true_eq]at A;obtain⟨⟨⟨⟨⟨B,J⟩,M⟩,Y⟩,he⟩,hz⟩:=A;split at he
   ·rename_i n' e K;simp only [If,beq_iff_eq]at he;obtain⟨rfl,U⟩:=he;simp only [aZ,IN,IS]at h;obtain⟨v',F,rfl,rfl⟩:=h;obtain⟨r,O,N⟩:=O0 hS K U (bF H B) (sF H J) (sF H M) (sF H Y) F;exact⟨rfl,r,by simp only [execOp,E];exact dF O,N⟩
   ·simp at he
  ·simp at A
 case qG x lo hi=>
  simp only [dp]at A;split at A
  ·rename_i t y j9 i_ E;simp only [If]at A;obtain⟨⟨⟨B,J⟩,M⟩,he⟩:=A;split at he
   ·rename_i K;simp only [aZ,IN,IS]at h;obtain⟨v',F,rfl,rfl⟩:=h;obtain⟨r,O,N⟩:=O2 K (bF H B) (sF H J) (sF H M) F X.w;exact⟨rfl,r,by simp only [execOp,E,Option.map_none];exact dF O,N⟩
   ·simp at he
  ·simp at A
 case aw off x=>
  simp only [dp]at A;split at A
  ·rename_i t y i E;simp only [If]at A;obtain⟨B,I⟩:=A;split at I
   ·rename_i fs K;split at I
    ·rename_i f d8;simp only [If,beq_iff_eq]at I;obtain⟨rfl,hz⟩:=I;simp only [aZ,IN,IS]at h;obtain⟨v',F,rfl,rfl⟩:=h;obtain⟨r,O,N⟩:=FY K d8 hz (bF H B) F X.w;exact⟨rfl,r,by simp only [execOp,E];exact dF O,N⟩
    ·simp at I
   ·simp at I
  ·simp at A
 case field off n x=>
  simp only [dp]at A;split at A
  ·rename_i t y i E;simp only [If]at A;obtain⟨B,I⟩:=A;split at I
   ·rename_i fs K;split at I
    ·rename_i f d8;simp only [If,beq_iff_eq]at I;obtain⟨rfl,hz⟩:=I;simp only [aZ,IN,IS]at h;obtain⟨v',F,rfl,rfl⟩:=h;obtain⟨r,O,N⟩:=NX K d8 hz (bF H B) F X.w;exact⟨rfl,r,by simp only [execOp,E];exact dF O,N⟩
    ·simp at I
   ·simp at I
  ·simp at A
 case aP sz f_ x i=>
  simp only [dp]at A;split at A
  ·rename_i t y j E;simp only [If]at A;obtain⟨⟨B,hi⟩,I⟩:=A;simp only [aZ,IN,IS]at h;obtain⟨v',F,rfl,rfl⟩:=h
   have:∃ e,c7 Q e sz=true∧((f_=none∧Q.underlying t=some (.slice e))∨∃ n,f_=some n∧Q.underlying t=some (.array n e)):=by
    split at I
    ·rename_i e K;exact⟨e,I,.inl ⟨rfl,K⟩⟩
    ·rename_i n e n' K;simp only [If,beq_iff_eq]at I;obtain⟨rfl,U⟩:=I;exact⟨e,U,.inr ⟨_,rfl,K⟩⟩
    ·simp at I
   obtain⟨e,U,K⟩:=this;obtain⟨r,O,N⟩:=F4 U K (bF H B) (bF H hi) F;exact⟨rfl,r,by simp only [execOp,E];exact dF O,N⟩
  ·simp at A
 case idxs x i=>
  simp only [dp]at A;split at A
  ·rename_i t y j E;simp only [If]at A;obtain⟨⟨B,hi⟩,I⟩:=A;simp only [aZ,IN,IS]at h;obtain⟨v',F,rfl,rfl⟩:=h;split at I
   ·rename_i K;obtain⟨r,O,N⟩:=aaF K (bF H B) (bF H hi) F X.w;exact⟨rfl,r,by simp only [execOp,E];exact dF O,N⟩
   ·simp at I
  ·simp at A
 case pK n sz k x i=>
  simp only [dp]at A;split at A
  ·rename_i t y j E;simp only [If]at A;obtain⟨⟨B,hi⟩,I⟩:=A;simp only [aZ,IN,IS]at h;obtain⟨v',F,rfl,rfl⟩:=h;split at I
   ·rename_i n' e K;simp only [If,beq_iff_eq]at I;obtain⟨⟨rfl,U⟩,hk⟩:=I;obtain⟨r,O,N⟩:=aaE K U hk (bF H B) (bF H hi) F X.w;exact⟨rfl,r,by simp only [execOp,E];exact dF O,N⟩
   ·simp at I
  ·simp at A
 case lookup ck z m k=>
  simp only [dp]at A;split at A
  ·rename_i t m' k' ok E;simp only [If,beq_iff_eq]at A;obtain⟨⟨⟨J,M⟩,l7⟩,I⟩:=A;simp only [aZ,IN,IS]at h;obtain⟨v',F,rfl,rfl⟩:=h;split at I
   ·rename_i kt e K;simp only [If]at I;obtain⟨u,O,N⟩:=Od hS K I.1.1 l7 I.1.2 I.2 (bF H J) (bF H M) F;exact⟨rfl,u,by simp only [execOp,E];exact dF O,N⟩
   ·simp at I
  ·simp at A
 case extract x i=>
  simp only [dp]at A;split at A
  ·rename_i y j E;simp only [If,beq_iff_eq]at A;obtain⟨B,rfl⟩:=A;have B:=bF H B;simp only [aZ]at h;split at h
   ·rename_i vs m4;rw [m4]at B;simp only [IN,IS]at h;obtain⟨v',F,rfl,rfl⟩:=h;obtain⟨us,c_,M⟩:=B;obtain⟨u,K,m5⟩:=M.get F;exact⟨rfl,u,by simp only [execOp,E];refine dF ?_;simp [Instr.extract,c_,K],VR.of1 σ m5⟩
   ·simp at h
  ·simp at A
 case uS n=>
  simp only [dp]at A;split at A
  ·rename_i c E;obtain⟨y,t,e,J,M,Y,K⟩:=Gd A;simp only [aZ,sh,IS]at h;obtain⟨rfl,rfl⟩:=h;exact⟨rfl,_,dg E J (fun cs=>by simp [builtin,M,Y,Builtin.len_,aR K,goInt]),VR.mkInt _ _⟩
  ·simp at A
 case lens x=>
  simp only [dp]at A;split at A
  ·rename_i c E;obtain⟨y,t,J,M,Y,B,K⟩:=Ge A;have B:=bF H B;simp only [aZ]at h;split at h
   ·rename_i s hs;rw [hs]at B;have B:=VR.str B;simp only [sh,IS]at h;obtain⟨rfl,rfl⟩:=h;exact⟨rfl,_,dg E J (fun cs=>by simp [builtin,M,Y,Builtin.len_,aR K,B,goInt]),VR.mkInt _ _⟩
   ·simp at h
  ·simp at A
 case len x=>
  simp only [dp]at A;split at A
  ·rename_i c E;obtain⟨y,t,e,J,M,Y,B,K⟩:=Og A;have B:=bF H B;simp only [aZ]at h;split at h
   ·rename_i z hz;rw [hz]at B;split at h
    ·rename_i n hn;simp only [sh,IS]at h;obtain⟨rfl,rfl⟩:=h;obtain⟨ad,cp,d9⟩:=kr B hn;exact⟨rfl,_,dg E J (fun cs=>by simp [builtin,M,Y,Builtin.len_,aR K,d9,goInt]),VR.mkInt _ _⟩
    ·simp at h
   ·simp at h
  ·simp at A
 case mP lo xs=>
  simp only [dp]at A;split at A
  ·rename_i c E;obtain⟨J,M⟩:=Gf A;have hA:=mM H M;simp only [aZ,IN,IS]at h;obtain⟨v',F,rfl,rfl⟩:=h;refine⟨rfl,?_⟩;unfold Ok at F;split at F
   ·simp at F
   ·rename_i x ys m7;rw [m7]at hA
    match c_:(c.args.map a.eval).toList,hA with
    | [],hA=>have:=hA.len;simp at this
    | u::us,hA=>
     obtain⟨B,hA⟩:=hA.of_cons;obtain⟨r,g1,g2⟩:=C1 (Q:=Q) (lo:=lo) X.w B hA F;refine⟨r,dg E J (fun cs=>?_),g2⟩
     cases lo
     ·simp only [atN,if_false]at g1 ⊢;have g1:(us.foldlM Builtin.max2 u).run Q X.w=.ok r X.w:=g1;have b_:List.map a.eval c.args.toList=u::us:=by simpa using c_
      simp [builtin,Builtin.max_,b_,g1]
     ·simp only [if_true]at g1 ⊢;have g1:(us.foldlM Builtin.min2 u).run Q X.w=.ok r X.w:=g1;have b_:List.map a.eval c.args.toList=u::us:=by simpa using c_
      simp [builtin,Builtin.min_,b_,g1]
  ·simp at A
 case cap x=>
  simp only [dp]at A;split at A
  ·rename_i c E;obtain⟨y,t,e,J,M,Y,B,K⟩:=Of A;have B:=bF H B;simp only [aZ]at h;split at h
   ·rename_i z hz;rw [hz]at B;split at h
    ·rename_i n hn;simp only [sh,IS]at h;obtain⟨rfl,rfl⟩:=h;obtain⟨ad,l,d9⟩:=ab4 B hn;exact⟨rfl,_,dg E J (fun cs=>by simp [builtin,M,Y,Builtin.cap_,aR K,d9,goInt]),VR.mkInt _ _⟩
    ·simp at h
   ·simp at h
  ·simp at A
 case entry x=>
  simp only [dp]at A;split at A
  ·rename_i y E;simp only [aZ,IN,IS]at h;obtain⟨v',F,rfl,rfl⟩:=h;obtain⟨r,g1,g2⟩:=NV hS (bF H A) F;exact⟨rfl,r,by simp only [execOp,E];exact dF g1,g2⟩
  ·simp at A
 case wv f xs=>
  simp only [dp]at A;split at A
  ·rename_i g fst a8 E;simp only [If,beq_iff_eq]at A;obtain⟨⟨I,rfl⟩,B⟩:=A;simp only [aZ,IN,IS]at h;obtain⟨cs,a_,rfl,rfl⟩:=h;have:=Cr (mM H B) a_;have g_:a8=#[]:=by simpa using I
   exact⟨rfl,.func (.func (σ f)) (fst.map a.eval) #[],by simp only [execOp,E,Instr.makeFunc,g_];exact dF (by simp),(fst.map a.eval).toList,by rw [Array.toArray_toList],this⟩
  ·simp at A
 case call f args h'=>cases h'<;>simp [cls]at hc
 case wq x=>
  simp only [dp]at A;split at A
  ·rename_i s d y E;simp only [If]at A;obtain⟨B,hd⟩:=A;have B:=bF H B;split at hd
   ·rename_i e d_ e_;simp only [If]at hd
    have l_:Q.underlying e=some (.int .u8):=by
     have:=hd.1;unfold apm at this;split at this
     ·assumption
     ·simp at this
    simp only [aZ,IN,IS]at h;obtain⟨v',F,rfl,rfl⟩:=h;obtain⟨u,O,N⟩:=aap hS B F;refine⟨rfl,u,?_,N⟩;simp only [execOp,E];refine dF ?_;simp only [convert,Sem.run_bind,aR d_,aR e_,Result.andThen_ok]
    have:∃ ad l c,a.eval y=.slice ad l c:=by
     unfold nU at F;split at F
     ·rename_i z hz;rw [hz]at B;split at F
      ·rename_i l hl;obtain⟨ad,c,h⟩:=kr B hl;exact⟨_,_,_,h⟩
      ·simp at F
     ·simp at F
    obtain⟨ad,l,c,h6⟩:=this;rw [h6]at O ⊢;simp only [Sem.run_bind,aR l_,Result.andThen_ok,O]
   ·simp at hd
  ·simp at A
end
section
variable{Q:Program}{σ:Nat→FuncId}{X:Wd}
theorem SR.lt(d:SR Q σ X){b:Nat}{L:Loc}(h:X.bU b=some L):b<X.H.length:=by
 obtain⟨_,_,aX,g,_⟩:=d.br b L h;exact(BY.1 g).1
theorem SR.rU(b:SR Q σ X):X.bU X.H.length=none:=by
 cases h:X.bU X.H.length with
 | none=>rfl
 | some L=>have:=SR.lt b h;omega
theorem Ext.one(H:SR Q σ X){X':Wd}(b0:Nat)(A:X'.B=X.B)(x:∀ c i,X'.F c i↔X.F c i)
  (y:∀ k,k<X.w.heap.size→(∀ L,X.bU b0=some L→k≠L.c)→X'.w.heap[k]?=X.w.heap[k]?)
  (u:∀ L i,X.bU b0=some L→X.F L.c i→X'.w.cell? ⟨L.c,i,none⟩=X.w.cell? ⟨L.c,i,none⟩) (j:b0<X.H.length→lN X X' b0)
  (E:∀ b,b≠b0→b<X.H.length→X'.H[b]?=X.H[b]?) (d:∀ b,b≠b0→X'.bU b=X.bU b)
  (v:∀ L,X'.bU b0=some L→(∃ q,X.bU b0=some q∧q.c=L.c)∨X.w.heap.size≤L.c) (K:X.w.heap.size≤X'.w.heap.size) (ho:X'.w.os=X.w.os) (M:X'.w.tape=X.w.tape)
  (hu:X'.w.output=X.w.output):Ext X.H.length X X' where
 B:=A
 F:=fun c i h=>(x c i).2 h
 oZ:=fun c i h=>.inl ((x c i).1 h)
 fw:=fun c i h=>by
  by_cases hc:∃ L,X.bU b0=some L∧c=L.c
  ·obtain⟨L,g,rfl⟩:=hc;exact u L i g h
  ·exact World.cell?_of_block (y c (H.fb c i h) fun L g e=>hc ⟨L,g,e⟩)
 bN:=fun b l=>by
  by_cases h:b=b0
  ·subst h;exact j l
  ·intro aX m;refine⟨aX,(E b h l).trans m,?_⟩;have:∀ L,X.bU b=some L→X'.bU b=some L:=fun L g=>(d b h).trans g
   cases aX<;>simp_all
 xV:=fun b L l=>by
  by_cases h:b=b0
  ·subst h;rcases v L l with⟨q,s,z⟩ | s
   ·exact .inl ⟨b,q,s,z⟩
   ·exact .inr s
  ·rw [d b h]at l;exact .inl ⟨b,L,l,rfl⟩
 size:=K
 os:=ho
 tape:=M
 output:=hu
 frame:=fun k I J=>y k I fun L g e=>J b0 L g e.symm
theorem SR.grow(d:SR Q σ X)(aX:cU):SR Q σ { X with H:=X.H++[aX] }∧Ext X.H.length X { X with H:=X.H++[aX] }:=by
 have j:Ext X.H.length X { X with H:=X.H++[aX] }:=Ext.one d X.H.length rfl (fun _ _=>Iff.rfl) (fun _ _ _=>rfl) (fun _ _ _ _=>rfl) (fun h=>by omega)
  (fun b _ h=>by simp [AT h]) (fun _ _=>rfl) (fun L h=>by rw [SR.rU d]at h;simp at h) (aft _) rfl rfl rfl
 refine⟨⟨fun b L g=>?_,d.inj,d.fb⟩,j⟩
 obtain⟨l,m,blk',q,s⟩:=d.br b L g;exact⟨l,m,blk',by rw [AT (SR.lt d g)];exact q,BR.ext Q σ j rfl (fun _ h=>h) s⟩
structure dz(w w':World)(o:Obj):Prop where
 heap:w'.heap=w.heap.push o
 os:w'.os=w.os
 tape:w'.tape=w.tape
 output:w'.output=w.output
theorem dz.alloc(w:World)(o:Obj):dz w (w.alloc o) o:=⟨rfl,rfl,rfl,rfl⟩
theorem dz.DZ{w w':World}{o:Obj}(h:dz w w' o){k:Nat}(b:k<w.heap.size):w'.heap[k]?=w.heap[k]?:=by
 rw [h.heap,Array.getElem?_push,if_neg (by omega)]
theorem dz.new{w w':World}{o:Obj}(h:dz w w' o):w'.heap[w.heap.size]?=some o:=by
 rw [h.heap];simp
theorem dz.size{w w':World}{o:Obj}(h:dz w w' o):w'.heap.size=w.heap.size+1:=by
 rw [h.heap];simp
theorem SR.fill(g:SR Q σ X)(x:X.B≤X.w.heap.size){n:Nat}{aX:cU}(y:X.H[n]?=some aX)(hr:X.bU n=none){w':World}{o:Obj}(d:dz X.w w' o)(cap:Nat)
  (m:Ext X.H.length X { X with bU:=fun b=>if b=n then some ⟨X.w.heap.size,cap⟩else X.bU b,w:=w' }→BR Q σ { X with bU:=fun b=>if b=n then some ⟨X.w.heap.size,cap⟩else X.bU b,w:=w' } aX ⟨X.w.heap.size,cap⟩) :
  SR Q σ { X with bU:=fun b=>if b=n then some ⟨X.w.heap.size,cap⟩else X.bU b,w:=w' }∧Ext X.H.length X { X with bU:=fun b=>if b=n then some ⟨X.w.heap.size,cap⟩else X.bU b,w:=w' }:=by
 have q:Ext X.H.length X { X with bU:=fun b=>if b=n then some ⟨X.w.heap.size,cap⟩else X.bU b,w:=w' }:=
  Ext.one g n rfl (fun _ _=>Iff.rfl) (fun k h _=>d.DZ h) (fun L i u _=>by rw [hr]at u;simp at u)
   (fun _ s l=>⟨s,l,by
    cases s<;>simp [hr]⟩)
   (fun _ _ _=>rfl) (fun b h=>by simp [h]) (fun L h=>by simp at h;subst h;exact .inr (aft _)) (by rw [d.size];omega) d.os d.tape d.output
 refine⟨SR.step Q σ g q n (fun _ _=>rfl) (fun b h=>by simp [h]) (fun b L _ j=>d.DZ (g.br b L j).2.1) (fun _ _ _ _ _ h=>h) (fun L h=>?_) (fun c i h=>by rw [d.size];have:=g.fb c i h;omega),q⟩
 simp at h;subst h;refine⟨x,by simp [d.size],⟨aX,y,m q⟩,fun b v _ j=>?_⟩
 have:=(g.br b v j).2.1;simp;omega
theorem SR.new(g:SR Q σ X)(s:X.B≤X.w.heap.size)(aX:cU){w':World}{o:Obj}(j:dz X.w w' o)(cap:Nat)
  (b:∀ X',Ext X.H.length X X'→X'.w=w'→X'.F=X.F→X'.H=X.H++[aX]→BR Q σ X' aX ⟨X.w.heap.size,cap⟩) :
  ∃ X',X'.w=w'∧X'.H=X.H++[aX]∧SR Q σ X'∧Ext X.H.length X X'∧X'.bU X.H.length=some ⟨X.w.heap.size,cap⟩∧X'.B≤X'.w.heap.size:=by
 obtain⟨l,d⟩:=SR.grow g aX;have u:(X.H++[aX])[X.H.length]?=some aX:=by simp
 obtain⟨m,q⟩:=SR.fill l s u (SR.rU g) j cap (fun v=>b _ (d.trans (v.mono (by simp))) rfl rfl rfl)
 exact⟨_,rfl,rfl,m,d.trans (q.mono (by simp)),by simp,by simp [j.size];omega⟩
theorem SR.turn(m:SR Q σ X){b:Nat}{aX blk':cU}{L:Loc}(B:X.H[b]?=some aX)(l:X.bU b=some L){w':World}(x:w'.heap.size=X.w.heap.size)
  (y:∀ k,k≠L.c→w'.heap[k]?=X.w.heap[k]?) (A:∀ i,X.F L.c i→w'.cell? ⟨L.c,i,none⟩=X.w.cell? ⟨L.c,i,none⟩) (ho:w'.os=X.w.os) (E:w'.tape=X.w.tape) (hu:w'.output=X.w.output)
  (j:lN X { X with H:=X.H.set b blk',w:=w' } b)
  (s:Ext X.H.length X { X with H:=X.H.set b blk',w:=w' }→BR Q σ { X with H:=X.H.set b blk',w:=w' } blk' L) :
  SR Q σ { X with H:=X.H.set b blk',w:=w' }∧Ext X.H.length X { X with H:=X.H.set b blk',w:=w' }:=by
 have u:b<X.H.length:=(BY.1 B).1
 have v:Ext X.H.length X { X with H:=X.H.set b blk',w:=w' }:=
  Ext.one m b rfl (fun _ _=>Iff.rfl) (fun k _ h=>y k (h L l)) (fun d i h=>by rw [l]at h;cases h;exact A i) (fun _=>j)
   (fun q h _=>by simp [By (Ne.symm h)]) (fun _ _=>rfl) (fun d h=>.inl ⟨d,h,rfl⟩) (Nat.le_of_eq x.symm) ho E hu
 refine⟨SR.step Q σ m v b (fun q h=>by simp [By (Ne.symm h)]) (fun _ _=>rfl) (fun q d h g=>y _ fun e=>h (m.inj q b d L g l e)) (fun _ _ _ _ _ h=>h)
  (fun d h=>?_) (fun c i h=>by rw [x];exact m.fb c i h),v⟩
 change X.bU b=some d at h;rw [l]at h;cases h;obtain⟨z,F,_⟩:=m.br b L l;exact⟨z,by show L.c<w'.heap.size;omega,⟨blk',by simp [u],s v⟩,fun q d h g e=>h (m.inj q b d L g l e)⟩
theorem iH{w:World}{c:Nat}{us:List Value}(h:rowAt w c us):∀(b:List Value) (off:Nat),off+b.length≤us.length →
  (w.setCells c off b).heap.size=w.heap.size∧(∀ k,k≠c→(w.setCells c off b).heap[k]?=w.heap[k]?)∧(w.setCells c off b).os=w.os∧(w.setCells c off b).tape=w.tape ∧
  (w.setCells c off b).output=w.output∧rowAt (w.setCells c off b) c (over us off b)
 | [],off,_=>⟨rfl,fun _ _=>rfl,rfl,rfl,rfl,by simpa [World.setCells,over]using h⟩
 | v::b,off,j=>by
  simp only [awa]at j
  have d:rowAt (w.setCell ⟨c,off,none⟩ v) c (us.set off v):=by
   obtain⟨e,fr,d,g⟩:=h;refine⟨e,fr,?_,by simpa using g⟩
   simp [World.setCell,Array.getElem?_modify,d]
  obtain⟨g,m,q,s,u,x⟩:=iH d b (off+1) (by simp;omega)
  simp only [World.setCells];refine⟨by rw [g];simp,fun k l=>(m k l).trans ?_,q,s,u,?_⟩
  ·simp only [World.setCell,Array.getElem?_modify];rw [if_neg (by simpa using Ne.symm l)]
  ·have:over (us.set off v) (off+1) b=over us off (v::b):=by
    unfold over;simp only [awa];rw [List.take_set,List.drop_set_of_lt (by omega),show off+1+b.length=off+(b.length+1) by omega]
    rw [avN (by omega)]
    have j:(List.take off us).length=off:=by simp;omega
    have e:(List.take off us++[us[off]]).set off v=List.take off us++[v]:=by
     rw [List.set_append,if_neg (by omega),j];simp
    rw [e];simp
   rw [←this];exact x
theorem sw{w:World}{c:Nat}{us:List Value}(h:rowAt w c us)(b:List Value)(off:Nat)(l:off+b.length≤us.length)(d:∀ v ∈ b,v.oneCell'=true) :
  (storeCells ⟨c,off,none⟩ b).run Q w=.ok () (w.setCells c off b):=by
 have:=run_storeCells_cells (P:=Q) c off b 0 w (fun j g=>by rw [dA h];simp;omega) (fun j g=>F1 h (by omega)) d
 simpa using this
theorem Da{α:Type}(us:List α)(off:Nat)(b:List α)(h:off+b.length≤us.length)(i:Nat)(hi:i<off):(over us off b)[i]?=us[i]?:=by
 unfold over;rw [AT (by simp;omega),AT (by simp;omega),av6]
 simp [hi]
end
section
variable{Q:Program}{σ:Nat→FuncId}{X:Wd}
def gr(Q:Program)(σ:Nat→FuncId)(X:Wd)(v:V)(b:ai)(s:Sem Next):Prop:=
 ∃ u X',(s.run Q X.w=.ok (.value u) X'.w∨(s.run Q X.w=.ok .skip X'.w∧u=undef))∧X'.H=b∧SR Q σ X'∧VR σ X' v u∧Ext X.H.length X X'∧X'.B≤X'.w.heap.size
theorem gr.apR(j:X.B≤X.w.heap.size)(l:SR Q σ X){v:V}{b:ai}{s:Sem Next}(h:b=X.H∧∃ u,s.run Q X.w=.ok (.value u) X.w∧VR σ X v u):gr Q σ X v b s:=by
 obtain⟨rfl,u,d,g⟩:=h;exact⟨u,X,.inl d,rfl,l,g,Ext.refl _ _,j⟩
theorem ko{w w':World}{us:List Value}{e:TypeId}(h:dz w w' (.cells us.toArray e)):rowAt w' w.heap.size us:=⟨e,(0,0),h.new,fun i _=>by simp⟩
theorem Gp(b:SR Q σ X)(g:X.B≤X.w.heap.size){cs:List C}{us:List Value}(h:A2 (CR σ X) cs us)(e:TypeId) :
  ∃ X',X'.w=X.w.alloc (.cells us.toArray e)∧X'.H=X.H++[.box cs 0]∧SR Q σ X'∧Ext X.H.length X X'∧X'.bU X.H.length=some ⟨X.w.heap.size,0⟩∧X'.B≤X'.w.heap.size:=
 SR.new b g (.box cs 0) (dz.alloc _ _) 0 fun X' m l j _=>⟨us,by rw [l];exact ko (dz.alloc _ _),A2.ext' σ m h,fun i _ d=>by
  rw [j]at d;have:=b.fb _ _ d;simp at this⟩
theorem uZ(u:SR Q σ X)(q:X.B≤X.w.heap.size){cs:List C}{us:List Value}(h:A2 (CR σ X) cs us)(e:TypeId){s:Sem Next}
  (v:s.run Q X.w=.ok (.value (.pointer (some ⟨X.w.heap.size,0,none⟩))) (X.w.alloc (.cells us.toArray e))):gr Q σ X (.c (.ptr X.H.length 0 0)) (X.H++[.box cs 0]) s:=by
 obtain⟨X',d,b,g,j,l,m⟩:=Gp u q h e;refine⟨_,X',.inl (by rw [d];exact v),b,g,?_,j,m⟩
 exact⟨_,l,by rw [b];simp⟩
theorem Z3(m:SR Q σ X)(l:X.B≤X.w.heap.size){a:Act}{o:Oper}{zs:List FC}(b:dp Q σ o (.alloc zs)=true) :
  gr Q σ X (.c (.ptr X.H.length 0 0)) (X.H++[.box (zs.map .f) 0]) (execOp a.eval o):=by
 simp only [dp]at b;split at b
 ·rename_i t q;obtain⟨z,us,d,g,j,_⟩:=dY (σ:=σ) (X:=X) b X.w;refine uZ m l j t ?_;simp only [execOp,q];refine dF ?_;simp [Instr.alloc,d,newVar,newRow,g]
 ·simp at b
theorem aj0(m:SR Q σ X)(j:X.B≤X.w.heap.size){a:Act}{au:T}(l:RR σ X au a.tmps){o:Oper}{x:Arg}(b:dp Q σ o (.box x)=true){xs:List C}(s:(x.ev au).cells?=some xs) :
  gr Q σ X (.c (.ptr X.H.length 0 0)) (X.H++[.box xs 0]) (execOp a.eval o):=by
 simp only [dp]at b;split at b
 ·rename_i t y q;obtain⟨us,d,g⟩:=po (bF l b) s;refine uZ m j g t ?_;simp only [execOp,q];refine dF ?_;simp [Instr.box,newVar,newRow,d]
 ·simp at b
theorem ji{zs:List FC}{us:List Value}(h:A2 (CR σ X) (zs.map .f) us)(n:Nat):A2 (CR σ X) ((cF n zs).map .f) (cF n us):=by
 induction n with
 | zero=>exact A2.nil
 | succ n b=>
  simp only [cF,List.replicate_succ,List.flatten_cons,List.map_append]at b ⊢;exact h.append b
theorem kn{α:Type}(n:Nat)(xs:List α):(cF n xs).length=n*xs.length:=by simp [cF]
theorem Dr{α:Type}(us:List α):∀(n i:Nat),i<n*us.length→(cF n us)[i]?=us[i % us.length]?
 | 0,i,h=>by simp at h
 | n+1,i,h=>by
  have b:cF (n+1) us=us++cF n us:=by simp [cF,List.replicate_succ]
  rw [b];by_cases hi:i<us.length
  ·rw [AT hi,Nat.mod_eq_of_lt hi]
  ·have d:(n+1)*us.length=n*us.length+us.length:=by rw [awl];omega
   rw [avM (by omega),Dr us n (i-us.length) (by omega)]
   rw [←Nat.mod_eq_sub_mod (by omega)]
theorem hV(us:List Value)(n:Nat)(q:0<us.length):((Array.range (n*us.length)).map fun i=>us.toArray[i % us.toArray.size]!)=(cF n us).toArray:=by
 apply Array.ext
 ·simp [kn]
 ·intro i g j;have l:i<n*us.length:=by simpa using g
  have b:=Dr us n i l;have d:i % us.length<us.length:=Nat.mod_lt _ q;have m:i<(cF n us).length:=by simpa using j
  rw [AI m,AI d,sh]at b;simp [b,d]
theorem NH(d:SR Q σ X)(hB:X.B≤X.w.heap.size){a:Act}{au:T}(hR:RR σ X au a.tmps){o:Oper}{sz n:Nat}{zs:List FC}{ps:List (Nat × Arg)}
  (l:dp Q σ o (.aO sz zs n ps)=true) {v:V} {S:ai} (h:aZ au X.H (.aO sz zs n ps)=some (v,S)):gr Q σ X v S (execOp a.eval o):=by
 simp only [dp]at l;split at l
 ·rename_i t n' qs Z;simp only [If,beq_iff_eq,decide_eq_true_eq]at l;obtain⟨⟨⟨⟨rfl,W⟩,A⟩,a8⟩,hq⟩:=l;obtain⟨e,hu,A⟩:=gM A;simp only [If,decide_eq_true_eq]at A;obtain⟨⟨s,hz⟩,a_⟩:=A;obtain⟨z,us,N,O,u,_⟩:=dY (σ:=σ) (X:=X) hz X.w;have M:us.length=sz:=by have:=u.len;simp at this;omega
  simp only [aZ]at h;split at h
  ·
   rename_i Y;subst Y;split at h
   ·rename_i m;simp only [sh,IS]at h;obtain⟨rfl,rfl⟩:=h
    have j:qs.toList=[]:=by
     have:=(dV hq).len;simp only [List.isEmpty_iff]at m;rw [m]at this;exact api this.symm
    have j:qs=#[]:=by apply Array.ext';simpa using j
    obtain⟨X',E,y,F,H,U,I⟩:∃ X':Wd,X'.w=X.w.alloc (.cells #[] e)∧X'.H=X.H∧SR Q σ X'∧Ext X.H.length X X'∧True∧X'.B≤X'.w.heap.size:=by
     have hx:Ext X.H.length X { X with w:=X.w.alloc (.cells #[] e) }:=Ext.one d X.H.length rfl (fun _ _=>Iff.rfl) (fun k hk _=>(dz.alloc _ _).DZ hk)
      (fun L i h=>by rw [SR.rU d]at h;simp at h) (fun h=>by omega) (fun _ _ _=>rfl) (fun _ _=>rfl) (fun L h=>by rw [SR.rU d]at h;simp at h) (by simp) rfl rfl rfl
     refine⟨{ X with w:=X.w.alloc (.cells #[] e) },rfl,rfl,SR.step Q σ d hx X.H.length (fun _ _=>rfl) (fun _ _=>rfl) (fun b L _ hb=>(dz.alloc _ _).DZ (d.br b L hb).2.1)
      (fun _ _ _ _ _ h=>h) (fun L h=>by rw [SR.rU d]at h;simp at h) (fun c i h=>?_),hx,trivial,?_⟩
     ·have:=d.fb c i h;simp;omega
     ·simp;omega
    refine⟨.slice (some ⟨X.w.heap.size,0,none⟩) 0 0,X',.inl ?_,y,F,cD.es _,H,I⟩;rw [E];simp only [execOp,Z];refine dF ?_;simp [Instr.buildSlice,aR hu,cQ s,j,Instr.fill,newRow,show Array.range 0=(#[]:Array Nat) from rfl]
   ·simp at h
  ·rename_i Y;simp only [IN,IS]at h;obtain⟨cs,J,rfl,rfl⟩:=h
   obtain⟨b7,U,I⟩:=nv (place:=fun i=>some (i*sz,sz)) (ps:=qs.toList) hR (qs:=ps.map fun p=>(p.1*sz,sz,p.2)) (A2.map ((dV hq).kC fun q p g=>by
    simp only [If,beq_iff_eq]at g
    exact⟨by rw [g.1],g.2⟩)) (ji u n') J
   obtain⟨X',E,y,F,H,h7,h8⟩:=Gp d hB I e;refine⟨.slice (some ⟨X.w.heap.size,0,none⟩) n' n',X',.inl ?_,y,F,?_,H,h8⟩
   ·rw [E];simp only [execOp,Z];refine dF ?_
    have K:n'*sz≠0:=by
     intro B;rcases axa.1 B with B | B<;>omega
    have x:=hV us n' (by omega)
    rw [M]at x;simp only [Instr.buildSlice,Sem.run_bind,aR hu,cQ s,Result.andThen_ok,if_neg (show¬ n'*sz>2 ^ 24 by omega),Sem.run_ite,if_neg K,N,Sem.run_pure,O]
    simp only [Array.toList_map];rw [x];simp [U,newRow]
   ·simp only [VR,ik,CR,fy,y];simp;exact⟨_,h7,rfl⟩
 ·simp at l
theorem HI:∀ {cs:List C} {b:List FC},fcL cs=some b→cs=b.map .f
 | [],b,h=>by simp [fcL]at h;subst h;rfl
 | c::cs,b,h=>by
  cases c with
  | f x=>
   simp only [fcL,IN]at h;obtain⟨g,d,rfl⟩:=h
   rw [HI d];rfl
  | _=>simp [fcL]at h
theorem xR(s:SR Q σ X)(hB:X.B≤X.w.heap.size){a:Act}{au:T}(hR:RR σ X au a.tmps){o:Oper}{sz n:Nat}{zs:List FC}{ps:List (Nat × Arg)}
  (J:dp Q σ o (.gv sz zs n ps)=true) {v:V} {H H':ai} (h:aZ au H (.gv sz zs n ps)=some (v,H')) :
  H'=H∧∃ u X',(execOp a.eval o).run Q X.w=.ok (.value u) X'.w∧X'.H=X.H∧SR Q σ X'∧VR σ X' v u∧Ext X.H.length X X'∧X'.B≤X'.w.heap.size∧X'.bU=X.bU:=by
 simp only [dp]at J;split at J
 ·rename_i t n' qs ho;simp only [If,beq_iff_eq,decide_eq_true_eq]at J;obtain⟨⟨⟨⟨rfl,b_⟩,S⟩,c9⟩,hq⟩:=J;obtain⟨e,K,S⟩:=gM S;simp only [If,decide_eq_true_eq]at S;obtain⟨⟨Z,hz⟩,c_⟩:=S;obtain⟨z,us,b7,b9,N,_⟩:=dY (σ:=σ) (X:=X) hz X.w;have a8:us.length=sz:=by have:=N.len;simp at this;omega
  simp only [aZ,IN,av0,IS]at h;obtain⟨fs,⟨cs,W,j⟩,rfl,rfl⟩:=h;split at j
  ·simp at j
  rename_i hn;have A:=HI j
  obtain⟨d,h5,h6⟩:=nv (place:=fun i=>some (i*sz,sz)) (ps:=qs.toList) hR (qs:=ps.map fun p=>(p.1*sz,sz,p.2)) (A2.map ((dV hq).kC fun q p l=>by
   simp only [If,beq_iff_eq]at l
   exact⟨by rw [l.1],l.2⟩)) (ji N n') W
  have g:dz X.w (X.w.alloc (.cells d.toArray e)) (.cells d.toArray e):=dz.alloc _ _;obtain⟨w',m⟩:∃ w',w'=X.w.alloc (.cells d.toArray e):=⟨_,rfl⟩;rw [←m]at g;have E:∀ c i,X.F c i→w'.cell? ⟨c,i,none⟩=X.w.cell? ⟨c,i,none⟩:=fun c i h=>World.cell?_of_block (g.DZ (s.fb c i h))
  have hx:Ext X.H.length X { X with w:=w',F:=fun c i=>X.F c i∨(c=X.w.heap.size∧i<d.length) }:={
   B:=rfl
   F:=fun c i h=>.inl h
   oZ:=fun c i h=>h.elim .inl fun h=>.inr (.inl (by rw [h.1];exact aft _))
   fw:=E
   bN:=fun b _ aX y=>⟨aX,y,by cases aX<;>simp⟩
   xV:=fun b L h=>.inl ⟨b,L,h,rfl⟩
   size:=by show _≤w'.heap.size;rw [g.size];omega
   os:=g.os
   tape:=g.tape
   output:=g.output
   frame:=fun k hk _=>g.DZ hk }
  refine⟨rfl,.slice (some ⟨X.w.heap.size,0,none⟩) n' n',{ X with w:=w',F:=fun c i=>X.F c i∨(c=X.w.heap.size∧i<d.length) },?_,rfl,?_,?_,hx,?_,rfl⟩
  ·simp only [execOp,ho];refine dF ?_
   have Y:n'*sz≠0:=by
    intro U;rcases axa.1 U with U | U<;>omega
   have O:=hV us n' (by omega)
   rw [a8]at O;simp only [Instr.buildSlice,Sem.run_bind,aR K,cQ Z,Result.andThen_ok,if_neg (show¬ n'*sz>2 ^ 24 by omega),Sem.run_ite,if_neg Y,b7,Sem.run_pure,b9]
   simp only [Array.toList_map];rw [O];simp [h5,newRow,m]
  ·exact SR.step Q σ s hx X.H.length (fun _ _=>rfl) (fun _ _=>rfl) (fun b L _ y=>g.DZ (s.br b L y).2.1)
    (fun b L _ y i h=>h.elim id fun h=>by have:=(s.br b L y).2.1;omega) (fun L h=>by change X.bU X.H.length=some L at h;rw [SR.rU s]at h;simp at h)
    (fun c i h=>by
     show c<w'.heap.size
     rw [g.size];rcases h with h | h
     ·have:=s.fb c i h;omega
     ·omega)
  ·have I:d.length=fs.length:=by have:=h6.len;rw [A]at this;simp at this;omega
   refine cD.fs fs n' X.w.heap.size 0 n' d (aft _) I (fun i hi=>.inr ⟨rfl,by omega⟩) (fun i u K=>?_) fun i x u a_ K=>?_
   ·show w'.cell? _=_
    rw [dA (show rowAt w' X.w.heap.size d by rw [m];exact ko (dz.alloc _ _)),Nat.zero_add];exact K
   ·obtain⟨u',M,hr⟩:=h6.get (i:=i) (x:=.f x) (by rw [A,awx,a_];rfl)
    rw [K]at M;cases M;exact cD.mono (fun c i h=>.inl h) E hr
  ·show X.B≤w'.heap.size;rw [g.size];omega
 ·simp at J
end
section
variable{Q:Program}{σ:Nat→FuncId}{X:Wd}
theorem C_{α:Type}(us rest:List α)(off:Nat)(b:List α)(h:off+b.length≤us.length):over (us++rest) off b=over us off b++rest:=by
 unfold over;rw [List.take_append_of_le_length (by omega),List.drop_append_of_le_length (by omega)]
 simp
theorem A2.one{cs:List C}{us:List Value}(h:A2 (CR σ X) cs us):∀ v ∈ us,v.oneCell'=true:=by
 intro v d;obtain⟨i,hi⟩:=awq d;have b:i<cs.length:=by rw [h.len];exact(BY.1 hi).1
 exact CR.one σ (h.2 i _ v (AI b) hi)
theorem DS(z:SR Q σ X){b:Nat}{cs:List C}{l:Nat}{L:Loc}(q:X.H[b]?=some (.box cs l))(y:X.bU b=some L){xs:List C}{j:List Value}(u:A2 (CR σ X) xs j){off:Nat}
  (I:l≤off) (U:off+xs.length≤cs.length):∃ X',(storeCells ⟨L.c,off,none⟩ j).run Q X.w=.ok () X'.w∧X'.H=X.H.set b (.box (over cs off xs) l)∧SR Q σ X'∧Ext X.H.length X X' ∧
   (∀ b,X'.bU b=X.bU b)∧X'.w.heap.size=X.w.heap.size∧X'.B=X.B:=by
 obtain⟨_,_,aX,g,s⟩:=z.br b L y;rw [q]at g;simp only [sh]at g;subst g;obtain⟨us,hr,v,x⟩:=s;have K:=u.len;have J:=v.len;obtain⟨A,M,N,O,S,B⟩:=iH hr j off (by omega)
 obtain⟨E,F⟩:=SR.turn z (blk':=.box (over cs off xs) l) q y A M (fun i H=>by
   rw [dA B,dA hr]
   have:i<off:=by
    rcases awj i off with h | h
    ·exact h
    ·exact absurd H (x i (by omega))
   exact Da us off j (by omega) i this) N O S
  (fun aX d=>⟨.box (over cs off xs) l,by simp [(BY.1 q).1],by rw [q]at d;simp only [sh]at d;subst d;exact fun L h=>h⟩)
  (fun m=>⟨over us off j,B,A2.over (A2.ext' σ m v) (A2.ext' σ m u) off,x⟩)
 exact⟨_,sw hr j off (by omega) (A2.one u),rfl,E,F,fun _=>rfl,A,rfl⟩
theorem DT(B:SR Q σ X){b:Nat}{sz:Nat}{cs:List C}{l q:Nat}{L:Loc}(s:X.H[b]?=some (.bE sz cs l q .loc))(A:X.bU b=some L){xs:List C}{j:List Value}(v:A2 (CR σ X) xs j){off:Nat}
  (N:l≤off) (O:off+xs.length≤cs.length):∃ X',(storeCells ⟨L.c,off,none⟩ j).run Q X.w=.ok () X'.w∧X'.H=X.H.set b (.bE sz (over cs off xs) l q .loc)∧SR Q σ X'∧Ext X.H.length X X' ∧
   (∀ b,X'.bU b=X.bU b)∧X'.w.heap.size=X.w.heap.size∧X'.B=X.B:=by
 obtain⟨_,_,aX,g,u⟩:=B.br b L A;rw [s]at g;simp only [sh]at g;subst g;obtain⟨U,us,rest,hr,y,I,J,K,z⟩:=u;have Y:=v.len;have W:=y.len;obtain⟨E,Z,s3,s4,s5,x⟩:=iH hr j off (by simp;omega)
 rw [C_ _ _ _ _ (by omega)]at x
 have S:=Db us off j (by omega)
 obtain⟨F,H⟩:=SR.turn B (blk':=.bE sz (over cs off xs) l q .loc) s A E Z (fun i M=>by
   rw [dA x,dA hr]
   have:i<off:=by
    rcases awj i off with h | h
    ·exact h
    ·exact absurd M (z i (by omega))
   rw [AT (by omega),AT (by omega)]
   exact Da us off j (by omega) i this) s3 s4 s5
  (fun aX d=>⟨.bE sz (over cs off xs) l q .loc,by simp [(BY.1 s).1],by rw [s]at d;simp only [sh]at d;subst d;exact⟨rfl,.inl ⟨rfl,rfl,fun L h=>h⟩⟩⟩)
  (fun m=>⟨rfl,over us off j,rest,x,A2.over (A2.ext' σ m y) (A2.ext' σ m v) off,by simp only [List.length_append]at I ⊢;omega,J,by rw [Db cs off xs O];exact K,z⟩)
 exact⟨_,sw hr j off (by simp;omega) (A2.one v),rfl,F,H,fun _=>rfl,E,rfl⟩
theorem ab_(E:SR Q σ X){x:C}{u:Value}(d:CR σ X x u){xs:List C}{F:List Value}(l:A2 (CR σ X) xs F){A:ai}(h:df X.H x xs=some A) :
  ∃ c off X',u=.pointer (some ⟨c,off,none⟩)∧(storeCells ⟨c,off,none⟩ F).run Q X.w=.ok () X'.w∧X'.H=A∧SR Q σ X'∧Ext X.H.length X X'∧X'.w.heap.size=X.w.heap.size∧X'.B=X.B:=by
 unfold df at h;split at h
 ·rename_i b off I;obtain⟨L,B,d⟩:=d;split at h
  ·rename_i cs H j;rw [j]at d;simp only at d;subst d;split at h
   ·rename_i g;simp only [sh]at h;subst h;obtain⟨X',m,q,s,v,_,y,z⟩:=DS E j B l g.1 g.2;exact⟨_,_,X',rfl,m,q,s,v,y,z⟩
   ·simp at h
  ·rename_i sz cs H e j;rw [j]at d;split at h
   ·rename_i g;have d:=d.2.1 g.1;subst d;simp only [sh]at h;subst h;obtain⟨X',m,q,s,v,_,y,z⟩:=DT E j B l g.2.1 g.2.2;exact⟨_,_,X',rfl,m,q,s,v,y,z⟩
   ·simp at h
  ·simp at h
 ·simp at h
theorem acb(F:SR Q σ X)(Y:X.B≤X.w.heap.size){a:Act}{au:T}(s:RR σ X au a.tmps){o:Oper}{n:Nat}{x y:Arg}(b:dp Q σ o (.store n x y)=true){v:V}{q:ai}
  (h:aZ au X.H (.store n x y)=some (v,q)):gr Q σ X v q (execOp a.eval o):=by
 simp only [dp]at b;split at b
 ·rename_i t N O I;simp only [If]at b;obtain⟨⟨H,g⟩,m⟩:=b;have g:=bF s g;have m:=bF s m;simp only [aZ]at h;split at h
  ·rename_i p xs J l;rw [J]at g;split at h
   ·rename_i u;simp only [IN,IS]at h;obtain⟨S,j,rfl,rfl⟩:=h;obtain⟨Z,L,d⟩:=po m l;obtain⟨c,off,X',K,z,A,B,E,U,W⟩:=ab_ F g d j;refine⟨undef,X',.inr ⟨?_,rfl⟩,A,B,trivial,E,by omega⟩
    have M:=d.len;simp only [execOp,I,Sem.run_bind]
    have:(Instr.storeAt t (a.eval N) (a.eval O)).run Q X.w=.ok () X'.w:=by
     rw [K];simp [Instr.storeAt,Instr.sureAddr,storeVar,cQ H,L];rw [if_pos (by omega)]
     exact z
    simp [this]
   ·simp at h
  ·simp at h
 ·simp at b
end
end Km
