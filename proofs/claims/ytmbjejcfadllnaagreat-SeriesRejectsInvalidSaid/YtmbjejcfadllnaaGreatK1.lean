/-
  Our own small machine for Go code by value, held against the model: part 1. No program in sight.
-/
import GoSem.Step
import GoSem.Dispatch
import GoSem.Machine.Exec
import Derived.Calls
import Derived.Laws.World
import Derived.Laws.Cells
import Derived.Laws.IdiomCopy
import Derived.Below
import Derived.Laws.Slices
import Derived.Laws.Strings
import Derived.Laws.StructEq
import Derived.Laws.BytesString
import Derived.Laws.Tables
import Derived.Laws.AppendOwn
open Option.some renaming injEq → aa
open Bool renaming false_eq_true → aw, and_eq_true → ag
open List renaming getElem?_eq_some_iff → ab, getElem?_eq_getElem → ai, getElem?_append_left → ae, getElem?_append_right → bc, getElem?_take → bE, getElem?_drop → aM, getElem?_map → b8, all_eq_true → aR, getElem?_of_mem → cd, extract_eq_take_drop → cw, take_of_length_le → bi, foldl_cons → cm, length_cons → bt, take_succ_eq_append_getElem → aD, eq_nil_of_length_eq_zero → av, getElem?_set_ne → al
open Nat renaming le_refl → aq, le_trans → a7, lt_of_lt_of_le → cj, add_mul → bN, mul_eq_zero → dc, lt_or_ge → bR
open Option renaming bind_eq_some_iff → ba, map_eq_some_iff → am, bind_eq_bind → dl, bind_some → bh, map_some → bz
open Prod.mk renaming injEq → an
set_option linter.unusedVariables false
set_option linter.unusedSimpArgs false
set_option linter.unusedSectionVars false
set_option maxRecDepth 100000
namespace Km
open Go
section
inductive FC where
 | bool (b:Bool)
 | int (k:IntKind) (n:Int)
 | str (s:ByteArray)
 | qj | au | es | nS | qm | BX
 | fp (cs:List FC) (off:Nat)
 | fs (cs:List FC) (len:Nat)
 | fn (f:Nat) (caps:List FC)
 deriving Inhabited
inductive C where
 | f (x:FC)
 | ptr (b off ep:Nat)
 | sl (b off len cap ep sz:Nat)
 | cl (f:Nat) (caps:List C)
 | yl (b:Nat)
 | mp (b:Nat)
 | it (b:Nat)
 | bm (f:Nat) (first:List C)
 | mi (b:Nat)
 deriving Inhabited
inductive V where
 | top
 | c (x:C)
 | a (xs:List C)
 | t (xs:List V)
 deriving Inhabited
def QN:Nat:=1000000007
def mV:C→V
 | .cl f cs=>if f=QN then .a cs else .c (.cl f cs)
 | x=>.c x
def yh:V→Option C
 | .c (.cl f cs)=>if f=QN then none else some (.cl f cs)
 | .c x=>some x
 | .a cs=>some (.cl QN cs)
 | _=>none
def zV:FC→V
 | .fn f zs=>if f=QN then .a (zs.map .f)else .c (.f (.fn f zs))
 | z=>.c (.f z)
def wF:FC→List FC
 | .fn f zs=>if f=QN then zs else [.fn f zs]
 | z=>[z]
def JL:FC→Bool
 | .fn f _=>decide (f=QN)
 | _=>false
theorem VU{v:V}{c:C}(h:yh v=some c):mV c=v:=by
 cases v with
 | c x=>
  cases x<;>simp only [yh,aa]at h
  case cl f cs=>
   split at h
   ·cases h
   ·rename_i hf;simp only [aa]at h;subst h;simp only [mV,if_neg hf]
  all_goals (subst h;rfl)
 | a cs=>simp only [yh,aa]at h;subst h;simp [mV]
 | _=>simp [yh]at h
theorem aEh{z:FC}(h:JL z=true):zV z=.a ((wF z).map .f):=by
 cases z<;>simp only [JL,decide_eq_true_eq,reduceCtorEq,aw]at h;simp only [zV,wF,if_pos h]
theorem aEg{z:FC}(h:JL z=false):zV z=.c (.f z)∧wF z=[z]:=by
 cases z<;>simp only [JL,decide_eq_false_iff_not]at h
 case fn f zs=>simp only [zV,wF,if_neg h,and_self]
 all_goals exact⟨rfl,rfl⟩
inductive Os where | loc | nil | es
 deriving DecidableEq,Inhabited
inductive P where
 | h
 | o (p:P)
 | i (p:P)
 deriving DecidableEq,Inhabited
def P.toNat:P→Nat
 | .h=>0
 | .o p=>2*p.toNat+1
 | .i p=>2*p.toNat+2
inductive T where
 | e
 | n (l:T) (v:V) (r:T)
 deriving Inhabited
def T.get:T→P→V
 | .e,_=>.top
 | .n _ v _,.h=>v
 | .n l _ _,.o p=>l.get p
 | .n _ _ r,.i p=>r.get p
def T.set:T→P→V→T
 | .e,.h,w=>.n .e w .e
 | .e,.o p,w=>.n (T.set .e p w) .top .e
 | .e,.i p,w=>.n .e .top (T.set .e p w)
 | .n l _ r,.h,w=>.n l w r
 | .n l v r,.o p,w=>.n (l.set p w) v r
 | .n l v r,.i p,w=>.n l v (r.set p w)
inductive Arg where
 | r (n:P)
 | k (v:V)
 deriving Inhabited
inductive CK where | bool | int | str
 deriving DecidableEq,Inhabited
inductive EqK where
 | bool | ptr | sl | fn | ifc
 | st (ks:List CK)
 deriving Inhabited
inductive AOp where
 | mov (x:Arg)
 | pre (o:Os) (sz:Nat)
 | pick (c a b:Arg)
 | alloc (zs:List FC)
 | box (x:Arg)
 | build (zs:List FC) (parts:List (Nat × Nat × Arg))
 | aP (sz:Nat) (zs:List FC) (len:Nat) (parts:List (Nat × Arg))
 | load (n:Option Nat) (x:Arg)
 | store (n:Nat) (x y:Arg)
 | bG (x:Arg)
 | bin (op:BinOp) (x y:Arg)
 | eq (neg:Bool) (k:EqK) (x y:Arg)
 | un (op:UnOp) (x:Arg)
 | cvi (k:IntKind) (x:Arg)
 | EW (x:Arg)
 | Ci (x:Arg)
 | Md (x:Arg)
 | o9 (f:Nat) (caps:List Arg)
 | nJ
 | lookup (ck:CK) (zero:FC) (m k:Arg)
 | nK (ck:CK) (m k v:Arg)
 | dK (sz bytes:Nat) (zs:List FC) (l c:Arg)
 | slice (sz:Nat) (x:Arg) (lo hi mx:Option Arg)
 | sV (n sz:Nat) (x:Arg) (lo hi mx:Option Arg)
 | uJ (x:Arg) (lo hi:Option Arg)
 | aj (off:Nat) (x:Arg)
 | field (off:Nat) (n:Option Nat) (x:Arg)
 | aT (sz:Nat) (arr:Option Nat) (x i:Arg)
 | idxs (x i:Arg)
 | vw (len sz:Nat) (n:Option Nat) (x i:Arg)
 | range (x:Arg)
 | next (x:Arg)
 | extract (x:Arg) (i:Nat)
 | call (f:Nat) (args:List Arg) (h:Bool)
 | bW (x:Arg) (args:List Arg) (h:Bool)
 | len (x:Arg)
 | zX (n:Nat)
 | lens (x:Arg)
 | cap (x:Arg)
 | append (sz bytes:Nat) (x y:Arg)
 | copy (sz:Nat) (x y:Arg)
 | sH (lo:Bool) (xs:List Arg)
 | yJ (sz bytes:Nat) (zs:List FC) (x n:Arg)
 | clear (sz:Nat) (zs:List FC) (x:Arg)
 | oW (x:Arg)
 | uT (x:Arg)
 | entry (x:Arg)
 | Ce (f:Nat) (xs:List Arg)
 | BH (sz:Nat) (x hi mx:Arg)
 | jK (sz:Nat) (zs:List FC) (len:Nat) (parts:List (Nat × Arg))
 | recover
 | defer (x:Arg) (args:List Arg)
 | bad
 deriving Inhabited
def AOp.fsl:AOp→Bool
 | .jK ..=>true
 | _=>false
structure AOper where
 dst:Option P
 op:AOp
 g:Option (P × Bool):=none
 deriving Inhabited
inductive ACode where
 | skip
 | region (ops:List AOper) (chk:List (Nat × Nat))
 | seq (a b:ACode)
 | cond (c:Arg) (a b:ACode)
 | block (id:Nat) (a:ACode)
 | loop (a:ACode)
 | tX (f:Arg) (ps:List P) (assign body:ACode)
 | exit (id:Nat)
 | ret
 | bad
 | scope (a:ACode)
 | label (l:Nat)
 | goto (l:Nat)
 deriving Inhabited
inductive nU where | ready | busy | done | exhausted
 deriving DecidableEq,Inhabited
inductive Blk where
 | box (cs:List C) (fl:Nat)
 | opn (sz:Nat) (cs:List C) (fl ep:Nat) (st:Os)
 | map (es:List (FC × C))
 | it (s:ByteArray) (pos:Nat)
 | mit (m since:Nat) (done:Bool)
 | dfr (open_:Bool)
 | lp (fn:Nat) (tmps:T) (ps:List P) (assign body:ACode) (st:nU) (pending:Option ACode) (dfr:Nat)
 deriving Inhabited
abbrev Heap:=List Blk
inductive fE where
 | coll (b:Nat)
 | fn (f:Nat) (args:List V)
 deriving Inhabited
inductive nC where
 | tmp (t:P)
 | cell (t:P) (n:Option Nat)
 deriving Inhabited
structure AFunc where
 ps:List P
 results:List nC
 body:ACode
 deriving Inhabited
def Arg.ev(regs:T):Arg→V
 | .r n=>regs.get n
 | .k v=>v
def V.int(k:IntKind)(n:Int):V:=.c (.f (.int k n))
def V.bool(b:Bool):V:=.c (.f (.bool b))
def aG(H:Heap):C→Option (List C)
 | .ptr b off ep=>match H[b]? with
  | some (.box cs _)=>some (cs.drop off)
  | some (.opn _ cs _ e .loc)=>if ep=e then some (cs.drop off)else none
  | _=>none
 | .f (.fp cs off)=>some ((cs.drop off).map .f)
 | _=>none
def aS:Option Nat→List C→Option V
 | none,c::_=>some (.c c)
 | none,[]=>none
 | some n,cs=>if n≤cs.length then some (.a (cs.take n))else none
def ldV(H:Heap)(n:Option Nat):V→Option V
 | .c x=>(aG H x).bind (aS n)
 | _=>none
def V.cells? : V→Option (List C)
 | .c x=>some [x]
 | .a xs=>some xs
 | _=>none
def over{α:Type}(cs:List α)(off:Nat)(xs:List α):List α:=cs.take off++xs++cs.drop (off+xs.length)
def stC(H:Heap)(x:C)(xs:List C):Option Heap:=
 match x with
 | .ptr b off ep=>match H[b]? with
  | some (.box cs fl)=>if fl≤off∧off+xs.length≤cs.length then some (H.set b (.box (over cs off xs) fl))else none
  | some (.opn sz cs fl e .loc)=>if ep=e∧fl≤off∧off+xs.length≤cs.length then some (H.set b (.opn sz (over cs off xs) fl e .loc))else none
  | _=>none
 | _=>none
def bV(H:Heap):C→Option Nat
 | .sl b _ l _ ep sz=>match H[b]? with
  | some (.box _ _)=>some l
  | some (.opn s _ _ e _)=>if ep=e∧sz=s then some l else none
  | _=>none
 | .f .au=>some 0
 | .f .es=>some 0
 | .f (.fs _ l)=>some l
 | _=>none
def dF(H:Heap)(sz:Nat):C→Option (List C)
 | .sl b o l _ ep s=>match H[b]? with
  | some (.box cs _)=>if o+l*sz≤cs.length then some ((cs.drop o).take (l*sz))else none
  | some (.opn s' cs _ e _)=>if ep=e∧s=s'∧o+l*sz≤cs.length then some ((cs.drop o).take (l*sz))else none
  | _=>none
 | .f .au=>some []
 | .f .es=>some []
 | .f (.fs cs l)=>if cs.length=l*sz then some (cs.map .f)else none
 | _=>none
def bC{α β:Type}(g:α→Option β):List α→Option (List β)
 | []=>some []
 | x::xs=>match g x with
  | none=>none
  | some y=>match bC g xs with
   | none=>none
   | some ys=>some (y::ys)
def exC:Nat→Heap→C→Option FC
 | _,_,.f x=>some x
 | 0,_,_=>none
 | n+1,H,.ptr b off _=>match H[b]? with
  | some (.box cs _)=>(bC (exC n H) cs).map (.fp · off)
  | _=>none
 | n+1,H,.sl b o l _ ep sz=>match H[b]? with
  | some (.box cs _)=>if o+l*sz≤cs.length then(bC (exC n H) ((cs.drop o).take (l*sz))).map (.fs · l)else none
  | some (.opn s cs _ e .loc)=>if ep=e∧sz=s∧o+l*sz≤cs.length then(bC (exC n H) ((cs.drop o).take (l*sz))).map (.fs · l)else none
  | some (.opn s _ _ e .nil)=>if ep=e∧sz=s then some .au else none
  | some (.opn s _ _ e .es)=>if ep=e∧sz=s then some .es else none
  | _=>none
 | n+1,H,.cl f caps=>(bC (exC n H) caps).map (.fn f)
 | _+1,_,_=>none
def dB(n:Nat)(H:Heap):V→Option V
 | .c x=>(exC n H x).map fun y=>.c (.f y)
 | .a xs=>(bC (exC n H) xs).map fun ys=>.a (ys.map .f)
 | _=>none
def exV(n:Nat)(H:Heap):V→Option V
 | .t vs=>(bC (dB n H) vs).map .t
 | v=>dB n H v
def mkC:Nat→C→Heap→Heap
 | _,.f _,H=>H
 | 0,_,H=>H
 | n+1,.ptr b _ _,H=>match H[b]? with
  | some (.box cs fl)=>cs.foldl (fun H x=>mkC n x H) (H.set b (.box cs (Nat.max fl cs.length)))
  | _=>H
 | n+1,.sl b o l _ _ sz,H=>match H[b]? with
  | some (.box cs fl)=>((cs.drop o).take (l*sz)).foldl (fun H x=>mkC n x H) (H.set b (.box cs (Nat.max fl (o+l*sz))))
  | some (.opn s cs fl e st)=>((cs.drop o).take (l*sz)).foldl (fun H x=>mkC n x H) (H.set b (.opn s cs (Nat.max fl (o+l*sz)) e st))
  | _=>H
 | n+1,.cl _ caps,H=>caps.foldl (fun H x=>mkC n x H) H
 | _+1,_,H=>H
def mkV(n:Nat)(H:Heap):V→Heap
 | .c x=>mkC n x H
 | .a xs=>xs.foldl (fun H x=>mkC n x H) H
 | _=>H
end
section
def qp(op:BinOp)(k:IntKind)(x y:Int):Option V:=
 match op with
 | .add=>some (.int k (k.wrap (x+y)))
 | .sub=>some (.int k (k.wrap (x-y)))
 | .mul=>some (.int k (k.wrap (x*y)))
 | .quo=>if y=0 then none else some (.int k (k.wrap (x.tdiv y)))
 | .rem=>if y=0 then none else some (.int k (x.tmod y))
 | .and=>some (.int k (k.wrap (BitVec.ofInt k.bits x &&& BitVec.ofInt k.bits y).toNat))
 | .or=>some (.int k (k.wrap (BitVec.ofInt k.bits x ||| BitVec.ofInt k.bits y).toNat))
 | .xor=>some (.int k (k.wrap (BitVec.ofInt k.bits x ^^^ BitVec.ofInt k.bits y).toNat))
 | .andNot=>some (.int k (k.wrap (BitVec.ofInt k.bits x &&& ~~~ (BitVec.ofInt k.bits y)).toNat))
 | .eql=>some (.bool (x == y))
 | .neq=>some (.bool (x != y))
 | .lss=>some (.bool (decide (x<y)))
 | .leq=>some (.bool (decide (x≤y)))
 | .gtr=>some (.bool (decide (x>y)))
 | .geq=>some (.bool (decide (x≥y)))
 | _=>none
def Xf(op:BinOp)(x y:ByteArray):Option V:=
 match op with
 | .add=>if((x.size+y.size:Nat):Int)>IntKind.i64.max then none else some (.c (.f (.str (x++y))))
 | .eql=>some (.bool (x.toList == y.toList))
 | .neq=>some (.bool !(x.toList == y.toList))
 | .lss=>some (.bool (Op.bytesLess x.toList y.toList))
 | .leq=>some (.bool (Op.bytesLess x.toList y.toList||x.toList == y.toList))
 | .gtr=>some (.bool !(Op.bytesLess x.toList y.toList||x.toList == y.toList))
 | .geq=>some (.bool !(Op.bytesLess x.toList y.toList))
 | _=>none
def eqP:CK→C→C→Option Bool
 | .bool,.f (.bool a),.f (.bool b)=>some (a == b)
 | .int,.f (.int k a),.f (.int k' b)=>if k=k' then some (a == b)else none
 | .str,.f (.str a),.f (.str b)=>some (a == b)
 | _,_,_=>none
def eqL:List CK→List C→List C→Option Bool
 | [],[],[]=>some true
 | k::ks,x::xs,y::ys=>match eqP k x y,eqL ks xs ys with
  | some a,some b=>some (a&&b)
  | _,_=>none
 | _,_,_=>none
def isNil(H:Heap):EqK→C→Option Bool
 | .ptr,.f .qj=>some true
 | .ptr,.f (.fp _ _)=>some false
 | .ptr,.ptr _ _ _=>some false
 | .sl,.f .au=>some true
 | .sl,.f .es=>some false
 | .sl,.f (.fs _ _)=>some false
 | .sl,.sl b _ _ _ ep sz=>match H[b]? with
  | some (.box _ _)=>some false
  | some (.opn s _ _ e st)=>if ep=e∧sz=s then some (st == .nil)else none
  | _=>none
 | .fn,.f .nS=>some true
 | .fn,.f (.fn _ _)=>some false
 | .fn,.cl _ _=>some false
 | .fn,.bm _ _=>some false
 | .ifc,.f .qm=>some true
 | _,_=>none
def eqV(H:Heap):EqK→V→V→Option Bool
 | .bool,.c x,.c y=>eqP .bool x y
 | .st ks,.a xs,.a ys=>eqL ks xs ys
 | .ptr,.c x,.c (.f .qj)=>isNil H .ptr x
 | .sl,.c x,.c (.f .au)=>isNil H .sl x
 | .fn,.c x,.c (.f .nS)=>isNil H .fn x
 | .ifc,.c x,.c (.f .qm)=>isNil H .ifc x
 | _,_,_=>none
def dG(op:BinOp)(x y:V):Option V:=
 match op,x,y with
 | .shl,.c (.f (.int k a)),.c (.f (.int _ b))=>if b<0 then none else some (.int k (k.wrap (a*2 ^ (min b.toNat k.bits))))
 | .shr,.c (.f (.int k a)),.c (.f (.int _ b))=>if b<0 then none else some (.int k (a.fdiv (2 ^ (min b.toNat k.bits))))
 | op,.c (.f (.int k a)),.c (.f (.int k' b))=>if k=k' then qp op k a b else none
 | op,.c (.f (.str a)),.c (.f (.str b))=>Xf op a b
 | _,_,_=>none
def unV(op:UnOp)(x:V):Option V:=
 match op,x with
 | .neg,.c (.f (.int k n))=>some (.int k (k.wrap (0-n)))
 | .not,.c (.f (.bool b))=>some (.bool !b)
 | _,_=>none
def gW:V→Option Int
 | .c (.f (.int _ n))=>some n
 | _=>none
def bnd(x:V)(y:Nat):Option Nat:=
 match gW x with
 | some i=>if 0≤i∧i≤y then some i.toNat else none
 | none=>none
def dh(len cap:Nat)(lo hi mx:Option V):Option (Nat × Nat × Nat):=do
 let m ←match mx with
  | some v=>bnd v cap
  | none=>some cap
 let h ←match hi,mx with
  | some v,_=>bnd v m
  | none,none=>some len
  | none,some _=>none
 let l ←match lo with
  | some v=>bnd v h
  | none=>some 0
 pure (l,h,m)
def jm(H:Heap)(sz:Nat)(x:V)(lo hi mx:Option V):Option V:=
 match x with
 | .c (.f .au)=>match dh 0 0 lo hi mx with
  | some _=>some (.c (.f .au))
  | none=>none
 | .c (.f .es)=>match dh 0 0 lo hi mx with
  | some _=>some (.c (.f .es))
  | none=>none
 | .c (.f (.fs cs n))=>match dh n n lo hi mx with
  | some (l,h,m)=>
   if mx.isSome∧m=l then some (.c (.f .es))else
   some (.c (.f (.fs ((cs.drop (l*sz)).take ((h-l)*sz)) (h-l))))
  | none=>none
 | .c (.sl b o n cap ep s)=>match H[b]? with
  | some (.box _ _)=>match dh n cap lo hi mx with
   | some (l,h,m)=>if m=l then some (.c (.f .es))else some (.c (.sl b (o+l*sz) (h-l) (m-l) ep s))
   | none=>none
  | some (.opn s' _ _ e st)=>
   if ep=e∧s=sz∧s'=sz then
    match st with
    | .loc=>match dh n n lo hi mx with
     | some (l,h,m)=>
      if mx.isSome∧m=l then some (.c (.f .es))
      else if l=h∧0<l then some (.c (.f (.fs [] 0)))
      else if mx.isSome then none
      else some (.c (.sl b (o+l*sz) (h-l) 0 ep s))
     | none=>none
    | .nil=>match dh 0 0 lo hi mx with
     | some _=>some (.c (.f .au))
     | none=>none
    | .es=>match dh 0 0 lo hi mx with
     | some _=>some (.c (.f .es))
     | none=>none
   else none
  | _=>none
 | _=>none
def zq(x:V)(lo hi:Option V):Option V:=
 match x with
 | .c (.f (.str s))=>match dh s.size s.size lo hi none with
  | some (l,h,_)=>some (.c (.f (.str (s.extract l h))))
  | none=>none
 | _=>none
def nR(H:Heap)(n sz:Nat)(x:V)(lo hi mx:Option V):Option V:=
 match x with
 | .c (.ptr b off _)=>match H[b]? with
  | some (.box cs _)=>match dh n n lo hi mx with
   | some (l,h,m)=>if off+n*sz≤cs.length then(if m=l then some (.c (.f .es))else some (.c (.sl b (off+l*sz) (h-l) (m-l) 0 sz)))else none
   | none=>none
  | _=>none
 | .c (.f (.fp cs off))=>match dh n n lo hi mx with
   | some (l,h,m)=>if off+n*sz≤cs.length then(if m=l then some (.c (.f .es))else some (.c (.f (.fs ((cs.drop (off+l*sz)).take ((h-l)*sz)) (h-l)))))else none
   | none=>none
 | _=>none
def aO(H:Heap)(sz:Nat)(arr:Option Nat)(x i:V):Option V:=
 match gW i with
 | none=>none
 | some i=>
  if 0≤i then
   match arr,x with
   | none,.c (.sl b o l _ ep s)=>if i<l then
     (match H[b]? with
      | some (.box _ _)=>some (.c (.ptr b (o+i.toNat*sz) ep))
      | some (.opn s' _ _ e .loc)=>if ep=e∧s=s' then some (.c (.ptr b (o+i.toNat*sz) ep))else none
      | _=>none)else none
   | none,.c (.f (.fs cs l))=>if i<l then some (.c (.f (.fp cs (i.toNat*sz))))else none
   | some n,.c (.ptr b o ep)=>if i<n then some (.c (.ptr b (o+i.toNat*sz) ep))else none
   | some n,.c (.f (.fp cs o))=>if i<n then some (.c (.f (.fp cs (o+i.toNat*sz))))else none
   | _,_=>none
  else none
def kS(off:Nat):V→Option V
 | .c (.ptr b o ep)=>some (.c (.ptr b (o+off) ep))
 | .c (.f (.fp cs o))=>some (.c (.f (.fp cs (o+off))))
 | _=>none
def qY(off:Nat)(n:Option Nat):V→Option V
 | .a xs=>aS n (xs.drop off)
 | _=>none
def G5(x i:V):Option V:=
 match x,gW i with
 | .c (.f (.str s)),some i=>if 0≤i then(s[i.toNat]?).map fun b=>.int .u8 b.toNat else none
 | _,_=>none
def vk(len sz:Nat)(n:Option Nat)(x i:V):Option V:=
 match x,gW i with
 | .a xs,some i=>if 0≤i∧i<len then aS n (xs.drop (i.toNat*sz))else none
 | _,_=>none
def Ol(H:Heap):V→Option (V × Heap)
 | .c (.it b)=>match H[b]? with
  | some (.it s pos)=>
   if pos<s.size then
    let r:=Utf8.decode s pos
    some (.t [.bool true,.int .i64 pos,.int .i32 r.1],H.set b (.it s (pos+r.2)))
   else some (.t [.bool false],H)
  | _=>none
 | _=>none
def bK(need bytes:Nat):Bool:=decide ((2*need+768)*bytes≤2 ^ 48)&&decide (need<2 ^ 48)
def eY(H:Heap)(sz:Nat):V→Option (Nat × List C)
 | .c (.f (.str s))=>if sz=1 then some (s.size,s.toList.map fun b=>.f (.int .u8 b.toNat))else none
 | .c x=>match bV H x,dF H sz x with
  | some l,some cs=>some (l,cs)
  | _,_=>none
 | _=>none
def dn(H:Heap)(sz bytes:Nat)(x y:V):Option (V × Heap):=
 match eY H sz y with
 | none=>none
 | some (m,ys)=>
  if sz=0 then none else
  match x with
  | .c (.f .au)=>if m=0 then some (.c (.f .au),H)else
    if bK m bytes then some (.c (.sl H.length 0 m 0 0 sz),H++[.opn sz ys 0 0 .loc])else none
  | .c (.f .es)=>if m=0 then some (.c (.f .es),H)else
    if bK m bytes then some (.c (.sl H.length 0 m 0 0 sz),H++[.opn sz ys 0 0 .loc])else none
  | .c (.sl b o l cap ep s)=>match H[b]? with
   | some (.box cs fl)=>
    if l+m≤cap then
     if fl≤o+l*sz∧o+l*sz+ys.length≤cs.length then some (.c (.sl b o (l+m) cap ep s),H.set b (.box (over cs (o+l*sz) ys) fl))else none
    else if bK (l+m) bytes∧o+l*sz≤cs.length then some (.c (.sl H.length 0 (l+m) 0 0 sz),H++[.opn sz ((cs.drop o).take (l*sz)++ys) 0 0 .loc])else none
   | some (.opn s' cs fl e st)=>
    if ep=e∧s'=sz∧s=sz then
     if m=0 then some (x,H)
     else if o=0∧l*sz=cs.length∧fl≤cs.length then
      if bK (l+m) bytes then some (.c (.sl b 0 (l+m) 0 (ep+1) sz),H.set b (.opn sz (cs++ys) fl (e+1) .loc))else none
     else if st=.loc∧fl≤o+l*sz∧o+l*sz+ys.length≤cs.length then
      some (.c (.sl b o (l+m) 0 ep sz),H.set b (.opn sz (over cs (o+l*sz) ys) fl e .loc))
     else none
    else none
   | _=>none
  | _=>none
def copyV(H:Heap)(sz:Nat)(x y:V):Option (V × Heap):=
 match eY H sz y,x with
 | some _,.c (.f .au)=>some (.int .i64 0,H)
 | some _,.c (.f .es)=>some (.int .i64 0,H)
 | some (m,ys),.c (.sl b o l _ ep s')=>
  let n:=Nat.min m l
  match H[b]? with
  | some (.box cs fl)=>if fl≤o∧o+n*sz≤cs.length then some (.int .i64 n,H.set b (.box (over cs o (ys.take (n*sz))) fl))else none
  | some (.opn s cs fl e .loc)=>if ep=e∧s'=s∧s=sz∧fl≤o∧o+n*sz≤cs.length then some (.int .i64 n,H.set b (.opn s (over cs o (ys.take (n*sz))) fl e .loc))else none
  | _=>none
 | _,_=>none
def tq(H:Heap):V→Option V
 | .c x=>match bV H x with
  | some _=>match dF H 1 x with
   | some cs=>(bC (fun c=>match c with | C.f (.int .u8 n)=>some (UInt8.ofNat n.toNat) | _=>none) cs).map fun l=>.c (.f (.str ⟨l.toArray⟩))
   | none=>none
  | none=>none
 | _=>none
def eF(regs:T)(cs:List C):List (Nat × Nat × Arg)→Option (List C)
 | []=>some cs
 | (off,n,x)::rest=>match (x.ev regs).cells? with
  | some xs=>if xs.length=n∧off+xs.length≤cs.length then eF regs (over cs off xs) rest else none
  | none=>none
def dZ(regs:T)(xs:List Arg):List V:=xs.map (·.ev regs)
def yH:V→Option C
 | .c (.cl _ _)=>none
 | .c (.bm _ _)=>none
 | .c x=>some x
 | _=>none
def dw{α:Type}(n:Nat)(xs:List α):List α:=(List.replicate n xs).flatten
def eqK:CK→FC→FC→Option Bool
 | .int,.int k a,.int k' b=>if k=k' then some (a == b)else none
 | .str,.str a,.str b=>some (a == b)
 | .bool,.bool a,.bool b=>some (a == b)
 | _,_,_=>none
def qM(ck:CK)(k:FC):List (FC × C)→Option (Option C)
 | []=>some none
 | e::es=>match eqK ck k e.1 with
  | some true=>some (some e.2)
  | some false=>qM ck k es
  | none=>none
def CW(ck:CK)(k:FC)(v:C):List (FC × C)→Option (List (FC × C))
 | []=>some [(k,v)]
 | e::es=>match eqK ck k e.1 with
  | some true=>some ((k,v)::es)
  | some false=>(CW ck k v es).map (e::·)
  | none=>none
def isKey:CK→FC→Bool
 | .int,.int _ _=>true
 | .str,.str _=>true
 | .bool,.bool _=>true
 | _,_=>false
def yF:FC→Option FC
 | .fp [z] 77=>some z
 | _=>none
def lkR(z:FC)(r:Option C):V:=match yF z with
 | some z0=>.t [(r.map mV).getD (zV z0),.c (.f (.bool r.isSome))]
 | none=>(r.map mV).getD (zV z)
def jv(H:Heap)(ck:CK)(z:FC):V→V→Option V
 | .c (.f .BX),.c (.f k)=>if isKey ck k then some (lkR z none)else none
 | .c (.mp b),.c (.f k)=>match H[b]? with
  | some (.map es)=>if isKey ck k then(qM ck k es).map (lkR z)else none
  | _=>none
 | _,_=>none
def pX(H:Heap):C→Option Nat
 | .sl b _ _ c ep sz=>match H[b]? with
  | some (.box _ _)=>some c
  | some (.opn s _ _ e .nil)=>if ep=e∧sz=s then some 0 else none
  | some (.opn s _ _ e .es)=>if ep=e∧sz=s then some 0 else none
  | _=>none
 | .f .au=>some 0
 | .f .es=>some 0
 | _=>none
def Ot(lo:Bool)(x y:V):Option V:=
 match x,y with
 | .c (.f (.int k a)),.c (.f (.int _ b))=>some (.int k (if lo then(if b<a then b else a)else(if b>a then b else a)))
 | _,_=>none
def CZ(lo:Bool):V→List V→Option V
 | x,[]=>some x
 | x,y::ys=>match Ot lo x y with
  | some z=>CZ lo z ys
  | none=>none
def Qc(lo:Bool):List V→Option V
 | []=>none
 | x::xs=>CZ lo x xs
def Aq(H:Heap)(sz:Nat)(zs:List FC)(x:V):Option Heap:=
 match x with
 | .c y=>match bV H y with
  | some 0=>some H
  | some l=>
   if zs.length=sz then
    match y with
    | .sl b o _ _ ep s=>match H[b]? with
     | some (.box _ _)=>stC H (.ptr b o ep) ((dw l zs).map .f)
     | some (.opn s' _ _ e .loc)=>if ep=e∧s=s' then stC H (.ptr b o ep) ((dw l zs).map .f)else none
     | _=>none
    | _=>none
   else none
  | none=>none
 | _=>none
def OZ(H:Heap)(sz bytes:Nat)(zs:List FC)(x n:V):Option (V × Heap):=
 match gW n with
 | some n=>
  if 0≤n∧zs.length=sz then
   match x with
   | .c (.f .au)=>if n.toNat=0 then some (.c (.f .au),H)else
     if bK n.toNat bytes then some (.c (.sl H.length 0 n.toNat 0 0 sz),H++[.opn sz ((dw n.toNat zs).map .f) 0 0 .loc])else none
   | .c (.f .es)=>if n.toNat=0 then some (.c (.f .es),H)else
     if bK n.toNat bytes then some (.c (.sl H.length 0 n.toNat 0 0 sz),H++[.opn sz ((dw n.toNat zs).map .f) 0 0 .loc])else none
   | _=>none
  else none
 | none=>none
def fcC:C→Option FC
 | .f x=>some x
 | _=>none
def F6(H:Heap)(sz:Nat)(x hi mx:V):Option (V × Heap):=
 match jm H sz x none (some hi) (some mx)with
 | some v=>some (v,H)
 | none=>match x with
  | .c (.sl b o n _ ep s)=>match H[b]? with
   | some (.opn s' cs fl e .loc)=>
    if ep=e∧s=sz∧s'=sz∧o=0 then
     match bnd hi n,bnd mx n with
     | some i,some j=>
      if i=j∧0<i∧i*sz≤cs.length then
       match bC fcC (cs.take (i*sz))with
       | some ys=>some (.c (.f (.fs ys i)),H.set b (.opn s' cs (Nat.max fl (i*sz)) e .loc))
       | none=>none
      else none
     | _,_=>none
    else none
   | _=>none
  | _=>none
def ED(H:Heap):V→Option (V × Heap)
 | .c (.mi b)=>match H[b]? with
  | some (.mit m since done)=>match H[m]? with
   | some (.map [])=>if done then none else some (.t [.bool false],H)
   | some (.map [e])=>if done then some (.t [.bool false],H)else if since=1 then some (.t [.bool true,.c (.f e.1),mV e.2],H.set b (.mit m 1 true))else none
   | _=>none
  | _=>none
 | _=>none
def pK(H:Heap):V→Option V
 | .c (.mi b)=>match H[b]? with
  | some (.mit m _ true)=>match H[m]? with
   | some (.map [e])=>some (.t [.c (.f e.1),mV e.2])
   | _=>none
  | _=>none
 | _=>none
def yO(H:Heap):V→Option (V × Heap)
 | .c (.mp b)=>match H[b]? with
  | some (.map es)=>if es.length≤1 then some (.c (.mi H.length),H++[.mit b es.length false])else none
  | _=>none
 | _=>none
def fcL:List C→Option (List FC)
 | []=>some []
 | .f x::xs=>(fcL xs).map (x::·)
 | _::_=>none
def xOp(regs:T)(H:Heap):AOp→Option (V × Heap)
 | .mov x=>some (x.ev regs,H)
 | .pre o sz=>if o=.loc∨sz=0 then none else some (.c (.sl H.length 0 0 0 0 sz),H++[.opn sz [] 0 0 o])
 | .pick c a b=>match c.ev regs with
  | .c (.f (.bool v))=>some ((if v then a else b).ev regs,H)
  | _=>none
 | .alloc zs=>some (.c (.ptr H.length 0 0),H++[.box (zs.map .f) 0])
 | .box x=>match (x.ev regs).cells? with
  | some xs=>some (.c (.ptr H.length 0 0),H++[.box xs 0])
  | none=>none
 | .build zs ps=>(eF regs (zs.map .f) ps).map fun cs=>(.a cs,H)
 | .aP sz zs n ps=>
  if n=0 then(if ps.isEmpty then some (.c (.f .es),H)else none)else
  (eF regs ((dw n zs).map .f) (ps.map fun p=>(p.1*sz,sz,p.2))).map fun cs=>(.c (.sl H.length 0 n n 0 sz),H++[.box cs 0])
 | .load n x=>(ldV H n (x.ev regs)).map (·,H)
 | .store n x y=>match x.ev regs,(y.ev regs).cells? with
  | .c p,some xs=>if xs.length=n then(stC H p xs).map (.top,·)else none
  | _,_=>none
 | .bG x=>match x.ev regs with
  | .c (.ptr b o e)=>some (.c (.ptr b o e),H)
  | .c (.f (.fp cs o))=>some (.c (.f (.fp cs o)),H)
  | _=>none
 | .bin op x y=>(dG op (x.ev regs) (y.ev regs)).map (·,H)
 | .eq neg k x y=>(eqV H k (x.ev regs) (y.ev regs)).map fun b=>(.bool (if neg then !b else b),H)
 | .un op x=>(unV op (x.ev regs)).map (·,H)
 | .cvi k x=>match x.ev regs with
  | .c (.f (.int _ n))=>some (.int k (k.wrap n),H)
  | _=>none
 | .EW x=>match x.ev regs with
  | .c (.f (.str s))=>some (.c (.f (.str s)),H)
  | _=>none
 | .Ci x=>(tq H (x.ev regs)).map (·,H)
 | .Md x=>match x.ev regs with
  | .c (.f (.str s))=>if s.size<2 ^ 48 then some (.c (.sl H.length 0 s.size 0 0 1),H++[.opn 1 (s.toList.map fun b=>.f (.int .u8 b.toNat)) 0 0 .loc])else none
  | _=>none
 | .o9 f caps=>(bC yH (dZ regs caps)).map fun xs=>(.c (.cl f xs),H)
 | .nJ=>some (.c (.mp H.length),H++[.map []])
 | .lookup ck z m k=>(jv H ck z (m.ev regs) (k.ev regs)).map (·,H)
 | .nK ck m k v=>match m.ev regs,k.ev regs,yh (v.ev regs)with
  | .c (.mp b),.c (.f k),some v=>match H[b]? with
   | some (.map es)=>if isKey ck k then(CW ck k v es).map fun es=>(.top,H.set b (.map es))else none
   | _=>none
  | _,_,_=>none
 | .dK sz bytes zs l c=>match gW (l.ev regs),gW (c.ev regs)with
  | some l,some c=>
   if 0≤l∧l≤c∧bK c.toNat bytes=true∧zs.length=sz then
    (if c=0 then some (.c (.f .es),H)else
    some (.c (.sl H.length 0 l.toNat c.toNat 0 sz),H++[.box ((dw c.toNat zs).map .f) 0]))
   else none
  | _,_=>none
 | .slice sz x lo hi mx=>(jm H sz (x.ev regs) (lo.map (·.ev regs)) (hi.map (·.ev regs)) (mx.map (·.ev regs))).map (·,H)
 | .sV n sz x lo hi mx=>(nR H n sz (x.ev regs) (lo.map (·.ev regs)) (hi.map (·.ev regs)) (mx.map (·.ev regs))).map (·,H)
 | .uJ x lo hi=>(zq (x.ev regs) (lo.map (·.ev regs)) (hi.map (·.ev regs))).map (·,H)
 | .aj off x=>(kS off (x.ev regs)).map (·,H)
 | .field off n x=>(qY off n (x.ev regs)).map (·,H)
 | .aT sz arr x i=>(aO H sz arr (x.ev regs) (i.ev regs)).map (·,H)
 | .idxs x i=>(G5 (x.ev regs) (i.ev regs)).map (·,H)
 | .vw len sz n x i=>(vk len sz n (x.ev regs) (i.ev regs)).map (·,H)
 | .range x=>match x.ev regs with
  | .c (.f (.str s))=>some (.c (.it H.length),H++[.it s 0])
  | _=>none
 | .next x=>Ol H (x.ev regs)
 | .extract x i=>match x.ev regs with
  | .t vs=>(vs[i]?).map (·,H)
  | _=>none
 | .zX n=>some (.int .i64 n,H)
 | .lens x=>match x.ev regs with
  | .c (.f (.str s))=>some (.int .i64 (s.size:Nat),H)
  | _=>none
 | .len x=>match x.ev regs with
  | .c y=>match bV H y with
   | some n=>some (.int .i64 (n:Nat),H)
   | none=>none
  | _=>none
 | .append sz bytes x y=>dn H sz bytes (x.ev regs) (y.ev regs)
 | .copy sz x y=>copyV H sz (x.ev regs) (y.ev regs)
 | .sH lo xs=>(Qc lo (dZ regs xs)).map (·,H)
 | .clear sz zs x=>(Aq H sz zs (x.ev regs)).map (.t [],·)
 | .yJ sz bytes zs x n=>OZ H sz bytes zs (x.ev regs) (n.ev regs)
 | .oW x=>yO H (x.ev regs)
 | .uT x=>ED H (x.ev regs)
 | .entry x=>(pK H (x.ev regs)).map (·,H)
 | .jK sz zs n ps=>((eF regs ((dw n zs).map .f) (ps.map fun p=>(p.1*sz,sz,p.2))).bind fun cs=>if n=0 then none else fcL cs).map fun fs=>(.c (.f (.fs fs n)),H)
 | .BH sz x hi mx=>F6 H sz (x.ev regs) (hi.ev regs) (mx.ev regs)
 | .Ce f xs=>(bC yH (dZ regs xs)).map fun xs=>(.c (.bm f xs),H)
 | .cap x=>match x.ev regs with
  | .c y=>match pX H y with
   | some n=>some (.int .i64 (n:Nat),H)
   | none=>none
  | _=>none
 | _=>none
end
section
inductive Callee where
 | fn (f:Nat)
 | yield (b:Nat)
abbrev dD:=Callee→List V→Heap→Option (V × Heap)
def deep:Nat:=64
def fZ(call:dD)(c:Nat)(args:List V)(H:Heap):Option (V × Heap):=
 match bC (dB deep H) args with
 | none=>none
 | some fs=>match call (.fn c) fs []with
  | none=>none
  | some (r,H')=>match exV deep H' r with
   | none=>none
   | some r'=>some (r',args.foldl (mkV deep) H)
def fA:V→List V→Option (Callee × List V)
 | .c (.f (.fn f caps)),args=>some (.fn f,args++caps.map fun x=>.c (.f x))
 | .c (.cl f caps),args=>some (.fn f,args++caps.map .c)
 | .c (.yl b),args=>some (.yield b,args)
 | .c (.bm f first),args=>some (.fn f,first.map .c++args)
 | _,_=>none
def jo(call:dD)(h:Bool)(c:Nat)(args:List V)(H:Heap):Option (V × Heap):=
 if h then call (.fn c) args H else fZ call c args H
structure St where
 regs:T
 defs:List fE
 heap:Heap
def lY(regs:T)(d:Option P)(v:V):T:=
 match d with
 | some d=>regs.set d v
 | none=>regs
def gU(call:dD)(s:St)(op:AOp):Option (V × St):=
 match op with
 | .call f args h=>(jo call h f (dZ s.regs args) s.heap).map fun r=>(r.1,{ s with heap:=r.2 })
 | .bW x args _=>match fA (x.ev s.regs) (dZ s.regs args)with
  | some (c,args)=>(call c args s.heap).map fun r=>(r.1,{ s with heap:=r.2 })
  | none=>none
 | .recover=>some (.c (.f .qm),s)
 | .defer x args=>match fA (x.ev s.regs) (dZ s.regs args)with
  | some (.fn f,args)=>some (.top,{ s with defs:=.fn f args::s.defs })
  | _=>none
 | op=>(xOp s.regs s.heap op).map fun r=>(r.1,{ s with heap:=r.2 })
def yu{α:Type}(f:α→α→Bool):List α→List α→Bool
 | [],[]=>true
 | x::xs,y::ys=>f x y&&yu f xs ys
 | _,_=>false
def FC.beq:Nat→FC→FC→Bool
 | _,.bool a,.bool b=>a == b
 | _,.int j a,.int k b=>decide (j=k)&&a == b
 | _,.str a,.str b=>decide (a=b)
 | _,.qj,.qj | _,.au,.au | _,.es,.es | _,.nS,.nS | _,.qm,.qm | _,.BX,.BX=>true
 | n+1,.fp xs o,.fp ys o'=>o == o'&&yu (FC.beq n) xs ys
 | n+1,.fs xs l,.fs ys l'=>l == l'&&yu (FC.beq n) xs ys
 | n+1,.fn f xs,.fn g ys=>f == g&&yu (FC.beq n) xs ys
 | _,_,_=>false
def C.beq:C→C→Bool
 | .f a,.f b=>FC.beq 64 a b
 | .ptr a b c,.ptr a' b' c'=>a == a'&&b == b'&&c == c'
 | .sl a b c d e g,.sl a' b' c' d' e' g'=>a == a'&&b == b'&&c == c'&&d == d'&&e == e'&&g == g'
 | .mp a,.mp b=>a == b
 | _,_=>false
def V.beq:V→V→Bool
 | .c x,.c y=>x.beq y
 | .a xs,.a ys=>xs.length == ys.length&&(xs.zip ys).all fun p=>p.1.beq p.2
 | _,_=>false
def wanted(regs:T):Option (P × Bool)→Option Bool
 | none=>some true
 | some (r,w)=>match regs.get r with
  | .c (.f (.bool b))=>some (b == w)
  | .t []=>some false
  | _=>none
def je(call:dD)(s:St)(o:AOper):Option St:=
 match wanted s.regs o.g with
 | some true=>match gU call s o.op with
  | some (v,s')=>some { s' with regs:=lY s'.regs o.dst v }
  | none=>none
 | some false=>some { s with regs:=lY s.regs o.dst (.t []) }
 | none=>none
def oP(call:dD):List AOper→St→Option St
 | [],s=>some s
 | o::os,s=>match je call s o with
  | some s'=>oP call os s'
  | none=>none
def fU(call:dD):List AOper→St→Option (List St)
 | [],s=>some [s]
 | o::os,s=>match je call s o with
  | some s'=>match fU call os s' with
   | some ss=>some (s::ss)
   | none=>none
  | none=>none
def sameAt(ops:List AOper)(ss:List St)(c:Nat × Nat):Bool:=
 match ops[c.1]?,ss[c.1]?,ss[c.2]? with
 | some o,some s,some s'=>match wanted s.regs o.g with
  | some false=>true
  | _=>match xOp s.regs s.heap o.op,xOp s.regs s'.heap o.op with
   | some (v,_),some (v',_)=>v.beq v'
   | _,_=>false
 | _,_,_=>false
def kH(call:dD)(ops:List AOper)(chk:List (Nat × Nat))(s:St):Option St:=
 match chk with
 | []=>oP call ops s
 | _=>match fU call ops s with
  | some ss=>if chk.all (sameAt ops ss)then ss.getLast? else none
  | none=>none
def AOp.iy:AOp→Bool
 | .defer _ _ | .recover=>false
 | _=>true
inductive AItem where
 | code (c:ACode)
 | inBlock (id:Nat)
 | inLoop (c:ACode)
 | oL (b:Nat)
 | xA
 | inScope (a:ACode)
def exitTo(id:Nat):List AItem→Option (List AItem)
 | []=>none
 | .inBlock id'::k=>if id' == id then some k else exitTo id k
 | _::k=>exitTo id k
def findLabel:ACode→Nat→Option ACode
 | .seq a b,l=>match findLabel a l with
  | some rest=>some (.seq rest b)
  | none=>findLabel b l
 | .label l',l=>if l' == l then some .skip else none
 | _,_=>none
def gotoIn(l:Nat):List AItem→Option (List AItem)
 | []=>none
 | .inScope body::k=>match findLabel body l with
  | some rest=>some (.code rest::.inScope body::k)
  | none=>gotoIn l k
 | _::k=>gotoIn l k
def C.ig(n:Nat):C→Bool
 | .f _=>true
 | .ptr b _ _=>decide (b<n)
 | .sl b _ _ _ _ _=>decide (b<n)
 | .cl _ _=>false
 | .yl b=>decide (b<n)
 | .mp b=>decide (b<n)
 | .it b=>decide (b<n)
 | .mi b=>decide (b<n)
 | .bm _ _=>false
def C.under(n:Nat):C→Bool
 | .cl _ caps=>caps.all (·.ig n)
 | .f _=>true
 | .ptr b _ _=>decide (b<n)
 | .sl b _ _ _ _ _=>decide (b<n)
 | .yl b=>decide (b<n)
 | .mp b=>decide (b<n)
 | .it b=>decide (b<n)
 | .mi b=>decide (b<n)
 | .bm _ first=>first.all (·.ig n)
def run(call:dD)(fn:Nat):Nat→Option Nat→List AItem→St→Option (Option ACode × St)
 | 0,_,_,_=>none
 | m+1,ro,todo,s=>
  match todo with
  | []=>some (none,s)
  | .inBlock _::k=>run call fn m ro k s
  | .inLoop c::k=>run call fn m ro (.code c::.inLoop c::k) s
  | .oL b::k=>match s.heap[b]? with
   | some (.lp f tmps ps as bd st pending d)=>
    if st=.busy then none else
    let s:={ s with heap:=s.heap.set b (.lp f tmps ps as bd .exhausted pending d) }
    match pending with
    | none=>run call fn m ro k s
    | some .ret=>run call fn m ro (.code .ret::k) s
    | some (.exit id)=>run call fn m ro (.code (.exit id)::k) s
    | some _=>none
   | _=>none
  | .xA::k=>match ro with
   | none=>none
   | some b=>match s.heap[b]? with
    | some (.lp f tmps ps as bd .ready pending d)=>run call fn m ro k { s with heap:=s.heap.set b (.lp f tmps ps as bd .busy pending d) }
    | _=>none
  | .code .skip::k=>run call fn m ro k s
  | .inScope _::k=>run call fn m ro k s
  | .code (.label _)::k=>run call fn m ro k s
  | .code (.scope a)::k=>run call fn m ro (.code a::.inScope a::k) s
  | .code (.goto l)::k=>match gotoIn l k with
   | some k=>run call fn m ro k s
   | none=>none
  | .code .bad::_=>none
  | .code .ret::_=>some (some .ret,s)
  | .code (.exit id)::k=>match exitTo id k with
   | some k=>run call fn m ro k s
   | none=>if ro.isSome then some (some (.exit id),s)else none
  | .code (.seq a b)::k=>run call fn m ro (.code a::.code b::k) s
  | .code (.block id a)::k=>run call fn m ro (.code a::.inBlock id::k) s
  | .code (.loop a)::k=>run call fn m ro (.code a::.inLoop a::k) s
  | .code (.cond c a b)::k=>match c.ev s.regs with
   | .c (.f (.bool v))=>run call fn m ro (.code (if v then a else b)::k) s
   | _=>none
  | .code (.region ops chk)::k=>
   if ro.isSome&&!ops.all (·.op.iy)then none else
   match kH call ops chk s with
   | some s=>run call fn m ro k s
   | none=>none
  | .code (.tX f ps as bd)::k=>
   if ro.isSome then none else
   let d:=s.heap.length
   let H:=s.heap++[.dfr true,.lp fn s.regs ps as bd .ready none d]
   match fA (f.ev s.regs) [.c (.yl (d+1))]with
   | some (.fn g,args)=>match call (.fn g) args H with
    | some (_,H)=>run call fn m ro (.oL (d+1)::k) { regs:=s.regs,defs:=.coll d::s.defs,heap:=H }
    | none=>none
   | _=>none
def fV(call:dD):List fE→Heap→Option Heap
 | [],H=>some H
 | .coll b::ds,H=>match H[b]? with
  | some (.dfr true)=>fV call ds (H.set b (.dfr false))
  | _=>none
 | .fn f args::ds,H=>match call (.fn f) args H with
  | some (_,H)=>fV call ds H
  | none=>none
def bU(regs:T)(H:Heap):nC→Option V
 | .tmp t=>match regs.get t with
  | .t _=>none
  | v=>some v
 | .cell t n=>ldV H n (regs.get t)
def results(regs:T)(H:Heap)(rs:List nC):Option V:=
 match bC (bU regs H) rs with
 | some [v]=>some v
 | some vs=>some (.t vs)
 | none=>none
def dI:List P→List V→T→T
 | p::ps,v::vs,regs=>dI ps vs (regs.set p v)
 | _,_,regs=>regs
def gG(tab:Nat→Option AFunc)(prim:Nat→List V→Heap→Option (Option (V × Heap)))(m:Nat):Nat→dD
 | 0,_,_,_=>none
 | d+1,.fn f,args,H=>
  match prim f args H with
  | some r=>r
  | none=>match tab f with
   | none=>none
   | some af=>if args.length=af.ps.length then match run (gG tab prim m d) f m none [.code af.body] ⟨dI af.ps args .e,[],H⟩with
    | some (_,s)=>match fV (gG tab prim m d) s.defs s.heap with
     | some H=>(results s.regs H af.results).map (·,H)
     | none=>none
    | none=>none
    else none
 | d+1,.yield b,args,H=>
  match H[b]? with
  | some (.lp f tmps ps as bd _ _ _)=>
   if args.length=ps.length then
    match run (gG tab prim m d) f m (some b) [.code as,.xA,.code bd] ⟨dI ps args tmps,[],H⟩with
    | some (jump,s)=>
     if s.defs.isEmpty then
      match s.heap[b]? with
      | some (.lp f' sU ps' as' bd' _ _ d')=>some (.bool jump.isNone,s.heap.set b (.lp f' sU ps' as' bd' (if jump.isNone then .ready else .done) jump d'))
      | _=>none
     else none
    | none=>none
   else none
  | _=>none
end
section
section
variable(Q:Program)(σ:Nat→FuncId)
def aH1:Value→Bool
 | .agg _ | .tuple _=>false
 | _=>true
def aJq:Value→Bool
 | .agg _=>true
 | _=>false
def mK1:FC→Value→Bool
 | .bool a,.bool b=>a == b
 | .int j a,.int k b=>decide (j=k)&&decide (a=b)
 | .str a,.string b=>decide (a=b)
 | .qj,.pointer none=>true
 | .au,.slice none 0 0=>true
 | .nS,.nilFunc=>true
 | .qm,.nilIface=>true
 | .BX,.map none=>true
 | _,_=>false
def all2{α β:Type}(f:α→β→Bool):List α→List β→Bool
 | [],[]=>true
 | x::xs,y::ys=>f x y&&all2 f xs ys
 | _,_=>false
def mK:V→Value→Bool
 | .c (.f x),v=>mK1 x v
 | .a xs,.agg us=>all2 (fun x u=>match x with | C.f x=>mK1 x u | _=>false) xs us.toList
 | .top,.tuple us=>us.isEmpty
 | _,_=>false
def mA:Arg→Operand→Bool
 | .r p,.tmp t=>p.toNat == t
 | .k v,.const u=>mK v u
 | .k (.c (.f (.fn f []))),.func g=>σ f == g
 | _,_=>false
def mAs(xs:List Arg)(ys:Array Operand):Bool:=all2 (mA σ) xs ys.toList
def mO:Option Arg→Option Operand→Bool
 | none,none=>true
 | some x,some y=>mA σ x y
 | _,_=>false
def dX(t:TypeId)(n:Nat):Bool:=(Q.info? t).any fun i=>i.size == n
def qE(t:TypeId)(n:Nat):Bool:=(Q.info? t).any fun i=>i.bytes == n
def nX(t:TypeId)(zs:List FC):Bool:=(Q.info? t).any fun i=>match i.zero with
 | some z=>all2 mK1 zs z.cells.toList
 | none=>false
def zh(t:TypeId)(n:Option Nat):Bool:=match Q.underlying t,n with
 | some (.struct _),some n | some (.array _ _),some n=>dX Q t n
 | some (.struct _),none | some (.array _ _),none=>false
 | some _,none=>true
 | _,_=>false
def kD:Nat→TypeId→Option (List CK)
 | 0,_=>none
 | d+1,t=>match Q.underlying t with
  | some .bool=>if dX Q t 1 then some [.bool]else none
  | some (.int _)=>if dX Q t 1 then some [.int]else none
  | some .string=>if dX Q t 1 then some [.str]else none
  | some (.struct fs)=>if Q.stoodInHeld t then none else match vK (kD d) 0 fs.toList with
   | some ks=>if dX Q t ks.length then some ks else none
   | none=>none
  | _=>none
 where
 vK (rec:TypeId→Option (List CK)) (off:Nat):List Field→Option (List CK)
  | []=>some []
  | f::fs=>if f.name≠ "_"∧f.offset=off then match rec f.type with
    | some ks=>match vK rec (off+ks.length) fs with
     | some r=>some (ks++r)
     | none=>none
    | none=>none
   else none
def xY:Operand→Bool
 | .const _=>true
 | _=>false
def mEq(k:EqK)(t:TypeId)(x y:Operand):Bool:=match Q.underlying t,k with
 | some .bool,.bool | some (.pointer _),.ptr | some (.slice _),.sl | some (.func _ _ _),.fn=>true
 | some (.interface _),.ifc=>xY x||xY y
 | some (.struct _),.st ks=>decide (kD Q 20 t=some ks)&&!Q.eqGuardType Q.depth t
 | _,_=>false
def rC(t:TypeId):Option TypeId:=match Q.underlying t with
 | some (.slice e)=>some e
 | _=>none
def aMm(t:TypeId):Bool:=match Q.underlying t with
 | some (.int .u8)=>true
 | _=>false
def fB(c:Call):AOp→Bool
 | .len x=>match c.callee,c.args.toList,c.argTypes.toList with
  | .builtin .len,[y],[t]=>mA σ x y&&(match Q.underlying t with | some (.slice _)=>true | _=>false)
  | _,_,_=>false
 | .lens x=>match c.callee,c.args.toList,c.argTypes.toList with
  | .builtin .len,[y],[t]=>mA σ x y&&(match Q.underlying t with | some .string=>true | _=>false)
  | _,_,_=>false
 | .zX n=>match c.callee,c.args.toList,c.argTypes.toList with
  | .builtin .len,[_],[t]=>(match Q.underlying t with | some (.array m _)=>decide (n=m) | _=>false)
  | _,_,_=>false
 | .append sz bytes x y=>match c.callee,c.args.toList,c.argTypes.toList with
  | .builtin .append,[u,v],[t,t']=>mA σ x u&&mA σ y v&&(rC Q t).any (fun e=>dX Q e sz&&qE Q e bytes&&decide (0<sz)&&(Q.info? e).any (fun i=>i.zero.any fun z=>decide (z.cells.size=sz)))
    && (match Q.underlying t' with | some .string=>true | some (.slice _)=>true | _=>false)
  | _,_,_=>false
 | .yJ sz bytes zs x y=>match c.callee,c.args.toList,c.argTypes.toList with
  | .builtin .append,[u,v],[t,t']=>mA σ x u&&mA σ y v&&(rC Q t).any (fun e=>dX Q e sz&&qE Q e bytes&&decide (0<sz)&&nX Q e zs)
    && (match Q.underlying t' with | some (.int _)=>true | _=>false)
  | _,_,_=>false
 | .copy sz x y=>match c.callee,c.args.toList,c.argTypes.toList with
  | .builtin .copy,[u,v],[t,_]=>mA σ x u&&mA σ y v&&(rC Q t).any (fun e=>dX Q e sz)
  | _,_,_=>false
 | .sH lo xs=>match c.callee,lo with
  | .builtin .max,false | .builtin .min,true=>mAs σ xs c.args
  | _,_=>false
 | .cap x=>match c.callee,c.args.toList,c.argTypes.toList with
  | .builtin .cap,[y],[t]=>mA σ x y&&(match Q.underlying t with | some (.slice _)=>true | _=>false)
  | _,_,_=>false
 | .clear sz zs x=>match c.callee,c.args.toList,c.argTypes.toList with
  | .builtin .clear,[y],[t]=>mA σ x y&&(rC Q t).any (fun e=>dX Q e sz&&nX Q e zs)
  | _,_,_=>false
 | .recover=>match c.callee with
  | .builtin .recover=>true
  | _=>false
 | .call f xs _=>match c.callee with
  | .value (.func g)=>σ f == g&&mAs σ xs c.args
  | _=>false
 | .bW x xs _=>match c.callee with
  | .value y=>mA σ x y&&mAs σ xs c.args
  | _=>false
 | _=>false
def Qg(ck:CK)(t:TypeId):Bool:=match Q.underlying t,ck with
 | some (.int _),.int | some .string,.str | some .bool,.bool=>true
 | _,_=>false
def VW(t:TypeId)(qs:List (Nat × Nat × Arg))(ps:List (Nat × Operand)):Bool:=match Q.underlying t with
 | some (.struct fs)=>match fs.toList.mapM (fun f=>(Q.info? f.type).map fun i=>(f.offset,i.size))with
  | some pl=>all2 (fun(q:Nat × Nat × Arg) (p:Nat × Operand)=>decide (pl[p.1]?=some (q.1,q.2.1))&&mA σ q.2.2 p.2) qs ps
  | none=>false
 | some (.array _ e)=>match Q.info? e with
  | some i=>all2 (fun(q:Nat × Nat × Arg) (p:Nat × Operand)=>i.size == q.2.1&&q.1 == p.1*q.2.1&&mA σ q.2.2 p.2) qs ps
  | none=>false
 | _=>false
def mOp(o:Oper)(a:AOp):Bool:=match a with
 | .bad=>true
 | .mov y=>(match o.op with | .move x | .assign x=>mA σ y x | _=>false)
 | .pre .nil sz=>(match o.op with | .move (.const (.slice none 0 0)) | .assign (.const (.slice none 0 0))=>decide (0<sz) | _=>false)
 | .pick c' x' y'=>(match o.op with | .pick c x y=>mA σ c' c&&mA σ x' x&&mA σ y' y | _=>false)
 | .alloc zs=>(match o.op with | .alloc t=>nX Q t zs | _=>false)
 | .box y=>(match o.op with | .box _ x=>mA σ y x | _=>false)
 | .build zs qs=>(match o.op with | .build t ps=>nX Q t zs&&VW Q σ t qs ps.toList | _=>false)
 | .aP sz zs n' qs=>(match o.op with | .buildSlice t n ps=>n == n'&&decide (n*sz≤2 ^ 24)&&(rC Q t).any (fun e=>dX Q e sz&&nX Q e zs&&decide (zs.length=sz))&&decide (0<sz)&&all2 (fun(q:Nat × Arg) (p:Nat × Operand)=>q.1 == p.1&&mA σ q.2 p.2) qs ps.toList | _=>false)
 | .jK sz zs n' qs=>(match o.op with | .buildSlice t n ps=>n == n'&&decide (n*sz≤2 ^ 24)&&(rC Q t).any (fun e=>dX Q e sz&&nX Q e zs&&decide (zs.length=sz))&&decide (0<sz)&&all2 (fun(q:Nat × Arg) (p:Nat × Operand)=>q.1 == p.1&&mA σ q.2 p.2) qs ps.toList | _=>false)
 | .load n y=>(match o.op with | .load t x=>zh Q t n&&mA σ y x | _=>false)
 | .store n x' y'=>(match o.op with | .store t x y=>dX Q t n&&mA σ x' x&&mA σ y' y | _=>false)
 | .bG y=>(match o.op with | .nilCheck x=>mA σ y x | _=>false)
 | .bin op' x' y'=>(match o.op with | .binOp op t x y _=>decide (op=op')&&mA σ x' x&&mA σ y' y | _=>false)
 | .eq neg k x' y'=>(match o.op with | .binOp op t x y _=>decide (op=if neg then .neq else .eql)&&mA σ x' x&&mA σ y' y&&mEq Q k t x y | _=>false)
 | .un op' y=>(match o.op with | .unOp op _ x=>decide (op=op')&&mA σ y x | _=>false)
 | .cvi k y=>(match o.op with | .convert s d x=>mA σ y x&&(Q.underlying s).isSome&&(match Q.underlying d with | some (.int k')=>decide (k=k') | _=>false) | _=>false)
 | .EW y=>(match o.op with | .convert s d x=>mA σ y x&&(match Q.underlying s,Q.underlying d with | some .string,some .string=>true | _,_=>false) | _=>false)
 | .Ci y=>(match o.op with | .convert s d x=>mA σ y x&&(match Q.underlying s,Q.underlying d with | some (.slice e),some .string=>aMm Q e&&dX Q e 1 | _,_=>false) | _=>false)
 | .o9 g ys=>(match o.op with | .makeFunc (.func f) fst caps=>fst.isEmpty&&σ g == f&&mAs σ ys caps | _=>false)
 | .nJ=>(match o.op with | .makeMap _ none=>true | _=>false)
 | .dK sz bytes zs l' c'=>(match o.op with | .makeSlice t l c=>mA σ l' l&&mA σ c' c&&(rC Q t).any (fun e=>dX Q e sz&&qE Q e bytes&&nX Q e zs)&&decide (0<sz) | _=>false)
 | .slice sz y lo' hi' mx'=>(match o.op with | .slice t x lo hi mx=>mA σ y x&&mO σ lo' lo&&mO σ hi' hi&&mO σ mx' mx&&(rC Q t).any (fun e=>dX Q e sz)&&decide (0<sz) | _=>false)
 | .BH sz y hi' mx'=>(match o.op with | .slice t x none (some hi) (some mx)=>mA σ y x&&mA σ hi' hi&&mA σ mx' mx&&(rC Q t).any (fun e=>dX Q e sz)&&decide (0<sz) | _=>false)
 | .uJ y lo' hi'=>(match o.op with | .slice t x lo hi none=>mA σ y x&&mO σ lo' lo&&mO σ hi' hi&&(match Q.underlying t with | some .string=>true | _=>false) | _=>false)
 | .sV n sz y lo' hi' mx'=>(match o.op with | .slice t x lo hi mx=>mA σ y x&&mO σ lo' lo&&mO σ hi' hi&&mO σ mx' mx&&(match Q.underlying t with | some (.array n' e)=>n == n'&&dX Q e sz | _=>false)&&decide (0<sz) | _=>false)
 | .aj off y=>(match o.op with | .fieldAddr t x i=>mA σ y x&&(match Q.underlying t with | some (.struct fs)=>(match fs[i]? with | some f=>f.offset == off&&(Q.info? f.type).any (fun i=>i.size != 0) | none=>false) | _=>false) | _=>false)
 | .field off n y=>(match o.op with | .field t x i=>mA σ y x&&(match Q.underlying t with | some (.struct fs)=>(match fs[i]? with | some f=>f.offset == off&&zh Q f.type n | none=>false) | _=>false) | _=>false)
 | .aT sz arr x' i'=>(match o.op with | .indexAddr t x i=>mA σ x' x&&mA σ i' i&&(match Q.underlying t,arr with | some (.slice e),none=>dX Q e sz | some (.array n e),some n'=>n == n'&&dX Q e sz | _,_=>false) | _=>false)
 | .idxs x' i'=>(match o.op with | .index t x i=>mA σ x' x&&mA σ i' i&&(match Q.underlying t with | some .string=>true | _=>false) | _=>false)
 | .vw n sz k x' i'=>(match o.op with | .index t x i=>mA σ x' x&&mA σ i' i&&(match Q.underlying t with | some (.array n' e)=>n == n'&&dX Q e sz&&zh Q e k | _=>false) | _=>false)
 | .lookup ck z m' k'=>(match o.op with | .lookup t m k ok=>mA σ m' m&&mA σ k' k&&(ok ==(yF z).isSome)&&(match Q.underlying t with | some (.map kt e)=>Qg Q ck kt&&nX Q e (wF ((yF z).getD z))&&(Q.info? e).any (fun i=>i.zero.any fun u=>if JL ((yF z).getD z)then aJq u else aH1 u) | _=>false) | _=>false)
 | .nK ck m' k' v'=>(match o.op with | .mapUpdate t m k v=>mA σ m' m&&mA σ k' k&&mA σ v' v&&(match Q.underlying t with | some (.map kt _)=>Qg Q ck kt | _=>false) | _=>false)
 | .range y=>(match o.op with | .range t x=>mA σ y x&&(match Q.underlying t with | some .string=>true | _=>false) | _=>false)
 | .next y=>(match o.op with | .next x true=>mA σ y x | _=>false)
 | .extract y j=>(match o.op with | .extract x i=>mA σ y x&&i == j | _=>false)
 | .defer x xs=>(match o.op with | .defer c=>(match c.callee with | .value y=>mA σ x y&&mAs σ xs c.args | _=>false) | _=>false)
 | .len x=>(match o.op with | .call c=>fB Q σ c (.len x) | _=>false)
 | .lens x=>(match o.op with | .call c=>fB Q σ c (.lens x) | _=>false)
 | .zX n=>(match o.op with | .call c=>fB Q σ c (.zX n) | _=>false)
 | .append sz bytes x y=>(match o.op with | .call c=>fB Q σ c (.append sz bytes x y) | _=>false)
 | .sH lo xs=>(match o.op with | .call c=>fB Q σ c (.sH lo xs) | _=>false)
 | .yJ sz bytes zs x y=>(match o.op with | .call c=>fB Q σ c (.yJ sz bytes zs x y) | _=>false)
 | .cap x=>(match o.op with | .call c=>fB Q σ c (.cap x) | _=>false)
 | .clear sz zs x=>(match o.op with | .call c=>fB Q σ c (.clear sz zs x) | _=>false)
 | .oW y=>(match o.op with | .range t x=>mA σ y x&&(match Q.underlying t with | some (.map _ _)=>true | _=>false) | _=>false)
 | .uT y=>(match o.op with | .next x false=>mA σ y x | _=>false)
 | .entry y=>(match o.op with | .entry x=>mA σ y x | _=>false)
 | .Ce g ys=>(match o.op with | .makeFunc (.func f) fst caps=>caps.isEmpty&&σ g == f&&mAs σ ys fst | _=>false)
 | .recover=>(match o.op with | .call c=>fB Q σ c (.recover) | _=>false)
 | .call f xs h=>(match o.op with | .call c=>fB Q σ c (.call f xs h) | _=>false)
 | .bW x xs h=>(match o.op with | .call c=>fB Q σ c (.bW x xs h) | _=>false)
 | _=>false
inductive Cls where | p | r | a | c | w
 deriving DecidableEq
def cls:AOp→Cls
 | .mov _ | .pick .. | .build .. | .un .. | .cvi .. | .EW _ | .o9 .. | .uJ .. | .aj .. | .field .. | .idxs .. | .vw .. | .extract .. | .sH .. | .Ce .. | .bG _ | .bin .. | .zX _ | .lens _ | .jK ..=>.p
 | .load .. | .eq .. | .len _ | .slice .. | .sV .. | .aT .. | .lookup .. | .Ci _ | .cap _ | .entry _=>.r
 | .alloc _ | .box _ | .nJ=>.a
 | .aP .. | .dK ..=>.a
 | .call _ _ false=>.c
 | _=>.w
def Arg.rd:Arg→List P
 | .r p=>[p]
 | .k _=>[]
def oRd:Option Arg→List P
 | some x=>x.rd
 | none=>[]
def AOp.rd:AOp→List P
 | .mov x | .box x | .load _ x | .bG x | .un _ x | .cvi _ x | .EW x | .Ci x | .Md x | .aj _ x | .field _ _ x | .range x | .next x | .extract x _ | .len x | .lens x | .cap x | .clear _ _ x | .oW x | .uT x | .entry x=>x.rd
 | .pre _ _ | .alloc _ | .nJ | .recover | .zX _ | .bad=>[]
 | .pick c a b=>c.rd++a.rd++b.rd
 | .build _ ps=>ps.flatMap fun p=>p.2.2.rd
 | .aP _ _ _ ps | .jK _ _ _ ps=>ps.flatMap fun p=>p.2.rd
 | .store _ x y | .bin _ x y | .eq _ _ x y | .aT _ _ x y | .idxs x y | .vw _ _ _ x y | .append _ _ x y | .copy _ x y | .yJ _ _ _ x y | .lookup _ _ x y | .dK _ _ _ x y=>x.rd++y.rd
 | .nK _ x y z | .BH _ x y z=>x.rd++y.rd++z.rd
 | .o9 _ xs | .call _ xs _ | .sH _ xs | .Ce _ xs=>xs.flatMap Arg.rd
 | .bW x xs _ | .defer x xs=>x.rd++xs.flatMap Arg.rd
 | .slice _ x a b c | .sV _ _ x a b c=>x.rd++oRd a++oRd b++oRd c
 | .uJ x a b=>x.rd++oRd a++oRd b
def AOper.rd(o:AOper):List P:=(match o.g with | some (p,_)=>[p] | none=>[])++o.op.rd
def AOper.apart(x y:AOper):Bool:=
 (match x.dst with | some d=>!y.rd.contains d&&y.dst != some d | none=>true)&&(match y.dst with | some d=>!x.rd.contains d | none=>true)
def Ap(x y:AOper):Bool:=
 match cls x.op,cls y.op with
 | .p,_ | _,.p=>true
 | .r,.w | .w,.r=>true
 | .w,_ | _,.w=>false
 | _,_=>true
def qO(acc:List Nat)(o:Oper):Nat:=o.after.toList.foldl (fun s e=>if Region.binds .any e then s ||| 2 ^ e.on ||| acc.getD e.on 0 else s) 0
def masks:List Oper→List Nat→List Nat
 | [],acc=>acc
 | o::os,acc=>masks os (acc++[qO acc o])
def anc(ms:List Nat)(i j:Nat):Bool:=(ms.getD j 0).testBit i
def rM(aos:List AOper):List Nat:=(List.range aos.length).filter fun j=>match aos[j]? with
 | some y=>decide (cls y.op=.w)
 | none=>false
def phase(aos:List AOper)(i:Nat):Nat:=i+((aos.drop i).takeWhile fun y=>decide (cls y.op≠.w)).length
def Oq(ms:List Nat)(aos:List AOper)(i e:Nat):Bool:=
 (rM aos).all fun j=>if j<e then !anc ms i j else !anc ms j i
def axa(ms:List Nat)(aos:List AOper)(j:Nat):Bool:=match aos[j]? with
 | some y=>(match y.op with | .alloc _=>true | _=>false)&&(rM aos).any fun e=>decide (e<j)&&!anc ms e j
 | none=>false
def oI(ms:List Nat)(aos:List AOper):Nat:=((List.range aos.length).find? (axa ms aos)).getD aos.length
def OT(ms:List Nat)(aos:List AOper)(j:Nat):Bool:=match aos[j]? with
 | some y=>y.g.isNone&&(match y.op with | .alloc _=>true | _=>false)&&(match y.dst with
  | some p=>(List.range aos.length).all fun i=>match aos[i]? with
   | some z=>!z.rd.contains p||(rM aos).all fun e=>!decide (e<j)||anc ms e i
   | none=>true
  | none=>false)
 | none=>true
def VD(ops:List Oper)(aos:List AOper)(chk:List (Nat × Nat)):Bool:=
 let ms:=masks ops []
 let n:=aos.length
 ((ops.zip (List.range n)).all fun o=>o.1.after.toList.all fun e=>!Region.binds .any e||decide (e.on<o.2)) &&
 ((List.range n).all fun j=>(List.range j).all fun i=>anc ms i j||(match aos[i]?,aos[j]? with
  | some x,some y=>x.apart y&&(Ap x y||(decide (j=oI ms aos)&&decide (cls x.op=.w)))
  | _,_=>false)) &&
 OT ms aos (oI ms aos) &&
 ((List.range n).all fun i=>match aos[i]? with
  | some x=>if cls x.op=.r then(rM aos++[n]).all fun e=>e == phase aos i||!Oq ms aos i e||chk.contains (i,e)else true
  | none=>false)
variable(Q:Program)(σ:Nat→FuncId)
def oG(n:Nat)(ops:Array Oper)(o:Oper)(a:AOper):Bool:=
 mOp Q σ o a.op &&
 (match o.dst,a.dst with | some d,some p=>p.toNat == d&&decide (d<n) | none,none=>true | _,_=>false) &&
 (match o.guard,a.g with
  | some (j,w),some (p,w')=>w == w'&&(match (ops[j]?).bind (·.dst)with | some d=>p.toNat == d&&decide (d<n) | none=>false)
  | none,none=>true
  | _,_=>false)
def oQ:ACode→Bool
 | .seq a b=>oQ a&&oQ b
 | .bad=>false
 | _=>true
def bP(n:Nat):Code→ACode→Bool
 | _,.bad=>true
 | .skip,.skip=>true
 | .region _ ops draw,.region aos chk=>all2 (oG Q σ n ops) ops.toList aos&&(!draw||VD ops.toList aos chk)
 | .seq a b,.seq a' b'=>bP n a a'&&bP n b b'
 | .cond c a b,.cond c' a' b'=>mA σ c' c&&bP n a a'&&bP n b b'
 | .block i a,.block i' a'=>i == i'&&bP n a a'
 | .loop a,.loop a'=>bP n a a'
 | .rangeFunc f ps a b,.tX f' ps' a' b'=>mA σ f' f&&all2 (fun p (q:P)=>q.toNat == p&&decide (p<n)) ps.toList ps'&&bP n a a'&&bP n b b'
 | .exit i,.exit i'=>i == i'
 | .scope a,.scope a'=>bP n a a'&&oQ a'
 | .label l,.label l'=>l == l'
 | .goto l,.goto l'=>l == l'
 | .ret,.ret=>true
 | _,_=>false
def EH(n:Nat):ResultVar→nC→Bool
 | .tmp t,.tmp p=>p.toNat == t&&decide (t<n)
 | .cell t ty,.cell p k=>p.toNat == t&&decide (t<n)&&zh Q ty k
 | _,_=>false
def Ov(f:Func)(a:AFunc):Bool:=
 f.name != "runtime.NumGoroutine" &&
 (match f.body with | some b=>bP Q σ f.ntmps b a.body | none=>false) &&
 all2 (EH Q f.ntmps) f.results.toList a.results &&
 decide (a.ps.map P.toNat=List.range a.ps.length)
end
end
section
def A2{α β:Type}(R:α→β→Prop)(xs:List α)(ys:List β):Prop:=
 xs.length=ys.length∧∀(i:Nat) x y,xs[i]?=some x→ys[i]?=some y→R x y
section A2
variable{α β:Type}{R S:α→β→Prop}{xs xs':List α}{ys ys':List β}
theorem A2.len(h:A2 R xs ys):xs.length=ys.length:=h.1
theorem A2.nil:A2 R [] []:=⟨rfl,by simp⟩
theorem A2.mono(h:A2 R xs ys)(hs:∀ x y,x ∈ xs→R x y→S x y):A2 S xs ys:=
 ⟨h.1,fun i x y hx hy=>hs x y (List.mem_of_getElem? hx) (h.2 i x y hx hy)⟩
theorem A2.get(h:A2 R xs ys){i:Nat}{x:α}(hx:xs[i]?=some x):∃ y,ys[i]?=some y∧R x y:=by
 have hi:i<xs.length:=(ab.1 hx).1;have hy:i<ys.length:=h.1▸hi;exact⟨ys[i],ai hy,h.2 i x _ hx (ai hy)⟩
theorem A2.cons{x:α}{y:β}(hxy:R x y)(h:A2 R xs ys):A2 R (x::xs) (y::ys):=
 ⟨by simp [h.1],fun i a b ha hb=>by
  cases i with
  | zero=>simp at ha hb;subst ha;subst hb;exact hxy
  | succ i=>simp at ha hb;exact h.2 i a b ha hb⟩
theorem A2.of_cons{x:α}{y:β}(h:A2 R (x::xs) (y::ys)):R x y∧A2 R xs ys:=
 ⟨h.2 0 x y rfl rfl,by simpa using h.1,fun i a b ha hb=>h.2 (i+1) a b (by simpa using ha) (by simpa using hb)⟩
theorem A2.append(h:A2 R xs ys)(h':A2 R xs' ys'):A2 R (xs++xs') (ys++ys'):=
 ⟨by simp [h.1,h'.1],fun i a b ha hb=>by
  by_cases hi:i<xs.length
  ·rw [ae hi]at ha;rw [ae (h.1▸hi)]at hb;exact h.2 i a b ha hb
  ·rw [bc (by omega)]at ha
   rw [bc (by have:=h.1;omega),←h.1]at hb
   exact h'.2 _ a b ha hb⟩
theorem A2.take(h:A2 R xs ys)(n:Nat):A2 R (xs.take n) (ys.take n):=
 ⟨by simp [h.1],fun i a b ha hb=>by
  rw [bE]at ha hb;split at ha
  ·rename_i hi;simp only [hi,if_true]at hb;exact h.2 i a b ha hb
  ·simp at ha⟩
theorem A2.drop(h:A2 R xs ys)(n:Nat):A2 R (xs.drop n) (ys.drop n):=
 ⟨by simp [h.1],fun i a b ha hb=>by
  rw [aM]at ha hb
  exact h.2 _ a b ha hb⟩
theorem A2.map{γ:Type}{g:γ→α}{zs:List γ}(h:A2 (fun z y=>R (g z) y) zs ys):A2 R (zs.map g) ys:=
 ⟨by simpa using h.1,fun i a b ha hb=>by
  rw [b8]at ha
  cases hz:zs[i]? with
  | none=>rw [hz]at ha;simp at ha
  | some z=>rw [hz]at ha;simp at ha;subst ha;exact h.2 i z b hz hb⟩
theorem A2.weak(h:A2 R xs ys)(hs:∀ x y,R x y→S x y):A2 S xs ys:=h.mono fun x y _=>hs x y
end A2
inductive FCR(σ:Nat→FuncId)(F:Nat→Nat→Prop)(w:World):FC→Value→Prop
 | bool (b:Bool):FCR σ F w (.bool b) (.bool b)
 | int (k:IntKind) (n:Int):FCR σ F w (.int k n) (.int k n)
 | str (s:ByteArray):FCR σ F w (.str s) (.string s)
 | qj:FCR σ F w .qj (.pointer none)
 | au:FCR σ F w .au (.slice none 0 0)
 | es (a:Addr):FCR σ F w .es (.slice (some a) 0 0)
 | nS:FCR σ F w .nS .nilFunc
 | qm:FCR σ F w .qm .nilIface
 | BX:FCR σ F w .BX (.map none)
 | fp (cs:List FC) (off c o:Nat) (us:List Value) (hl:us.length=cs.length) (hF:∀ i,i<cs.length→F c (o+i))
   (hc:∀(i:Nat) u,us[i]?=some u→w.cell? ⟨c,o+i,none⟩=some u) (hr:∀(i:Nat) x u,cs[i]?=some x→us[i]?=some u→FCR σ F w x u) :
   FCR σ F w (.fp cs off) (.pointer (some ⟨c,o+off,none⟩))
 | fs (cs:List FC) (l c o cap:Nat) (us:List Value) (hcap:l≤cap) (hl:us.length=cs.length) (hF:∀ i,i<cs.length→F c (o+i))
   (hc:∀(i:Nat) u,us[i]?=some u→w.cell? ⟨c,o+i,none⟩=some u) (hr:∀(i:Nat) x u,cs[i]?=some x→us[i]?=some u→FCR σ F w x u) :
   FCR σ F w (.fs cs l) (.slice (some ⟨c,o,none⟩) l cap)
 | fs0 (a:Addr) (cap:Nat):FCR σ F w (.fs [] 0) (.slice (some a) 0 cap)
 | fn (f:Nat) (caps:List FC) (us:List Value) (hl:us.length=caps.length) (hr:∀(i:Nat) x u,caps[i]?=some x→us[i]?=some u→FCR σ F w x u) :
   FCR σ F w (.fn f caps) (.func (.func (σ f)) #[] us.toArray)
theorem FCR.mono{σ:Nat→FuncId}{F F':Nat→Nat→Prop}{w w':World}(hF:∀ c i,F c i→F' c i)
  (hw:∀ c i,F c i→w'.cell? ⟨c,i,none⟩=w.cell? ⟨c,i,none⟩) {x:FC} {v:Value} (h:FCR σ F w x v):FCR σ F' w' x v:=by
 induction h with
 | fp cs off c o us hl hF' hc hr ih=>
  refine .fp cs off c o us hl (fun i hi=>hF _ _ (hF' i hi)) (fun i u hu=>?_) ih
  rw [hw c (o+i) (hF' i (by rw [←hl];exact(ab.1 hu).1))];exact hc i u hu
 | fs cs l c o cap us hcap hl hF' hc hr ih=>
  refine .fs cs l c o cap us hcap hl (fun i hi=>hF _ _ (hF' i hi)) (fun i u hu=>?_) ih
  rw [hw c (o+i) (hF' i (by rw [←hl];exact(ab.1 hu).1))];exact hc i u hu
 | fn f caps us hl hr ih=>exact .fn f caps us hl ih
 | _=>constructor
theorem FCR.one{σ:Nat→FuncId}{F:Nat→Nat→Prop}{w:World}{x:FC}{v:Value}(h:FCR σ F w x v):v.oneCell'=true:=by
 cases h<;>rfl
structure Loc where
 c:Nat
 cap:Nat
structure Wd where
 rho:Nat→Option Loc
 F:Nat→Nat→Prop
 H:Heap
 w:World
 B:Nat
variable(σ:Nat→FuncId)
def CR1(X:Wd):C→Value→Prop
 | .f x,v=>FCR σ X.F X.w x v
 | .ptr b off ep,v=>∃ L,X.rho b=some L∧match X.H[b]? with
  | some (.box _ _)=>v=.pointer (some ⟨L.c,off,none⟩)
  | some (.opn _ _ _ e .loc)=>ep≤e∧(ep=e→v=.pointer (some ⟨L.c,off,none⟩))∧∃ a,v=.pointer (some a)
  | _=>False
 | .sl b o l cap ep sz,v=>match X.H[b]? with
  | some (.box _ _)=>∃ L,X.rho b=some L∧l≤cap∧v=.slice (some ⟨L.c,o,none⟩) l cap
  | some (.opn s _ _ e st)=>ep≤e∧(ep=e→sz=s→match st with
    | .loc=>∃ L,X.rho b=some L∧∃ k,o=k*s∧k+l≤L.cap∧v=.slice (some ⟨L.c,o,none⟩) l (L.cap-k)
    | .nil=>o=0∧l=0∧v=.slice none 0 0
    | .es=>o=0∧l=0∧∃ a,v=.slice (some a) 0 0)∧∃ a n c,v=.slice a n c
  | _=>False
 | .cl _ _,_=>False
 | .yl b,v=>∃ L,X.rho b=some L∧(∃ f t p a b' s q d,X.H[b]?=some (.lp f t p a b' s q d))∧v=.func (.yield L.c) #[] #[]
 | .mp b,v=>∃ L,X.rho b=some L∧(∃ es,X.H[b]?=some (.map es))∧v=.map (some L.c)
 | .it b,v=>∃ L,X.rho b=some L∧(∃ s p,X.H[b]?=some (.it s p))∧v=.pointer (some ⟨L.c,0,none⟩)
 | .mi b,v=>∃ L,X.rho b=some L∧(∃ m s d,X.H[b]?=some (.mit m s d))∧v=.pointer (some ⟨L.c,0,none⟩)
 | .bm _ _,_=>False
def CR(X:Wd):C→Value→Prop
 | .cl f caps,v=>∃ us,v=.func (.func (σ f)) #[] us.toArray∧A2 (CR1 σ X) caps us
 | .bm f first,v=>∃ us,v=.func (.func (σ f)) us.toArray #[]∧A2 (CR1 σ X) first us
 | x,v=>CR1 σ X x v
theorem CR1.one{X:Wd}{x:C}{v:Value}(h:CR1 σ X x v):v.oneCell'=true:=by
 cases x with
 | f x=>exact FCR.one h
 | ptr b off ep=>
  obtain⟨L,_,h⟩:=h;split at h
  ·subst h;rfl
  ·obtain⟨_,_,a,rfl⟩:=h;rfl
  ·exact h.elim
 | sl b o l cap ep sz=>
  simp only [CR1]at h;split at h
  ·obtain⟨L,_,_,rfl⟩:=h;rfl
  ·obtain⟨_,_,a,n,c,rfl⟩:=h;rfl
  ·exact h.elim
 | cl f caps=>exact h.elim
 | yl b=>obtain⟨L,_,_,rfl⟩:=h;rfl
 | mp b=>obtain⟨L,_,_,rfl⟩:=h;rfl
 | it b=>obtain⟨L,_,_,rfl⟩:=h;rfl
 | mi b=>obtain⟨L,_,_,rfl⟩:=h;rfl
 | bm f first=>exact h.elim
theorem CR.one{X:Wd}{x:C}{v:Value}(h:CR σ X x v):v.oneCell'=true:=by
 cases x with
 | cl f caps=>obtain⟨us,rfl,_⟩:=h;rfl
 | bm f first=>obtain⟨us,rfl,_⟩:=h;rfl
 | mi b=>exact CR1.one σ (x:=.mi b) h
 | f y=>exact CR1.one σ (x:=.f y) h
 | ptr a b c=>exact CR1.one σ (x:=.ptr a b c) h
 | sl a b c d e g=>exact CR1.one σ (x:=.sl a b c d e g) h
 | yl b=>exact CR1.one σ (x:=.yl b) h
 | mp b=>exact CR1.one σ (x:=.mp b) h
 | it b=>exact CR1.one σ (x:=.it b) h
theorem CR.of1{X:Wd}{x:C}{v:Value}(h:CR1 σ X x v):CR σ X x v:=by
 cases x with
 | cl f caps=>exact h.elim
 | bm f first=>exact h.elim
 | _=>exact h
def VR1(X:Wd):V→Value→Prop
 | .top,_=>True
 | .c x,v=>CR σ X x v
 | .a xs,v=>∃ us,v=.agg us.toArray∧A2 (CR σ X) xs us
 | .t _,_=>False
def VR(X:Wd):V→Value→Prop
 | .t vs,v=>∃ us,v=.tuple us.toArray∧A2 (VR1 σ X) vs us
 | x,v=>VR1 σ X x v
theorem VR.of1{X:Wd}{x:V}{v:Value}(h:VR1 σ X x v):VR σ X x v:=by
 cases x with
 | t vs=>exact h.elim
 | _=>exact h
def rowAt(w:World)(c:Nat)(us:List Value):Prop:=
 ∃ e fr,w.heap[c]?=some (.cells us.toArray e fr)∧∀ i,i<us.length→¬(fr.1≤i∧i<fr.2)
def qc(X X':Wd)(b:Nat):Prop:=
 ∀ blk,X.H[b]?=some blk→∃ blk',X'.H[b]?=some blk'∧match blk,blk' with
  | .box _ _,.box _ _=>∀ L,X.rho b=some L→X'.rho b=some L
  | .opn s _ _ e st,.opn s' _ _ e' st'=>s=s'∧((e=e'∧st=st'∧∀ L,X.rho b=some L→X'.rho b=some L)∨(e<e'∧st'=.loc∧∃ L,X'.rho b=some L))
  | .map _,.map _=>∀ L,X.rho b=some L→X'.rho b=some L
  | .it _ _,.it _ _=>∀ L,X.rho b=some L→X'.rho b=some L
  | .dfr _,.dfr _=>∀ L,X.rho b=some L→X'.rho b=some L
  | .mit m s _,.mit m' s' _=>(m=m'∧s=s')∧∀ L,X.rho b=some L→X'.rho b=some L
  | .lp f t p a c _ _ d,.lp f' t' p' a' c' _ _ d'=>(f=f'∧t=t'∧p=p'∧a=a'∧c=c'∧d=d')∧∀ L,X.rho b=some L→X'.rho b=some L
  | _,_=>False
structure Ext(N:Nat)(X X':Wd):Prop where
 B:X'.B=X.B
 F:∀ c i,X.F c i→X'.F c i
 vW:∀ c i,X'.F c i→X.F c i∨X.w.heap.size≤c∨∃ b L,X.rho b=some L∧L.c=c
 fw:∀ c i,X.F c i→X'.w.cell? ⟨c,i,none⟩=X.w.cell? ⟨c,i,none⟩
 keep:∀ b,b<N→qc X X' b
 img:∀ b L,X'.rho b=some L→(∃ b0 L0,X.rho b0=some L0∧L0.c=L.c)∨X.w.heap.size≤L.c
 size:X.w.heap.size≤X'.w.heap.size
 os:X'.w.os=X.w.os
 tape:X'.w.tape=X.w.tape
 output:X'.w.output=X.w.output
 frame:∀ k,k<X.w.heap.size→(∀ b L,X.rho b=some L→L.c≠k)→X'.w.heap[k]?=X.w.heap[k]?
structure wu(N:Nat)(X X':Wd):Prop where
 F:∀ c i,X.F c i→X'.F c i
 fw:∀ c i,X.F c i→X'.w.cell? ⟨c,i,none⟩=X.w.cell? ⟨c,i,none⟩
 keep:∀ b,b<N→qc X X' b
theorem Ext.W{N:Nat}{X X':Wd}(h:Ext N X X'):wu N X X':=⟨h.F,h.fw,h.keep⟩
theorem qc.refl(X:Wd)(b:Nat):qc X X b:=fun blk h=>⟨blk,h,by cases blk<;>simp⟩
theorem qc.trans{X Y Z:Wd}{b:Nat}(h:qc X Y b)(k:qc Y Z b):qc X Z b:=by
 intro blk hb;obtain⟨blk',hb',h1⟩:=h blk hb;obtain⟨aD8,aQ7,h2⟩:=k blk' hb';refine⟨aD8,aQ7,?_⟩;cases blk<;>cases blk'<;>simp only at h1<;>cases aD8<;>simp only at h2 ⊢
 case box=>exact fun L hL=>h2 L (h1 L hL)
 case map=>exact fun L hL=>h2 L (h1 L hL)
 case it=>exact fun L hL=>h2 L (h1 L hL)
 case dfr=>exact fun L hL=>h2 L (h1 L hL)
 case mit=>
  obtain⟨⟨rfl,rfl⟩,h1⟩:=h1;obtain⟨⟨rfl,rfl⟩,h2⟩:=h2;exact⟨⟨rfl,rfl⟩,fun L hL=>h2 L (h1 L hL)⟩
 case lp=>
  obtain⟨⟨rfl,rfl,rfl,rfl,rfl,rfl⟩,h1⟩:=h1;obtain⟨⟨rfl,rfl,rfl,rfl,rfl,rfl⟩,h2⟩:=h2;exact⟨⟨rfl,rfl,rfl,rfl,rfl,rfl⟩,fun L hL=>h2 L (h1 L hL)⟩
 case opn=>
  obtain⟨rfl,h1⟩:=h1;obtain⟨rfl,h2⟩:=h2;refine⟨rfl,?_⟩;rcases h1 with⟨rfl,rfl,h1⟩ | ⟨h1,rfl,L,hL⟩
  ·rcases h2 with⟨rfl,rfl,h2⟩ | ⟨h2,rfl,L,hL⟩
   ·exact .inl ⟨rfl,rfl,fun L hL=>h2 L (h1 L hL)⟩
   ·exact .inr ⟨h2,rfl,L,hL⟩
  ·rcases h2 with⟨rfl,rfl,h2⟩ | ⟨h2,rfl,L',hL'⟩
   ·exact .inr ⟨h1,rfl,L,h2 L hL⟩
   ·exact .inr ⟨by omega,rfl,L',hL'⟩
theorem Ext.refl(N:Nat)(X:Wd):Ext N X X:=
 ⟨rfl,fun _ _ h=>h,fun _ _ h=>.inl h,fun _ _ _=>rfl,fun b _=>qc.refl X b,fun b L h=>.inl ⟨b,L,h,rfl⟩,aq _,rfl,rfl,rfl,fun _ _ _=>rfl⟩
theorem Ext.trans{N:Nat}{X Y Z:Wd}(h:Ext N X Y)(k:Ext N Y Z):Ext N X Z where
 B:=k.B.trans h.B
 F:=fun c i hF=>k.F c i (h.F c i hF)
 vW:=fun c i hF=>by
  rcases k.vW c i hF with h1 | h1 | ⟨b,L,hb,rfl⟩
  ·exact h.vW c i h1
  ·exact .inr (.inl (a7 h.size h1))
  ·rcases h.img b L hb with⟨b0,L0,h0,h1⟩ | h1
   ·exact .inr (.inr ⟨b0,L0,h0,h1⟩)
   ·exact .inr (.inl h1)
 fw:=fun c i hF=>(k.fw c i (h.F c i hF)).trans (h.fw c i hF)
 keep:=fun b hb=>(h.keep b hb).trans (k.keep b hb)
 img:=fun b L hb=>by
  rcases k.img b L hb with⟨b0,L0,h0,h1⟩ | h1
  ·rcases h.img b0 L0 h0 with⟨b1,L1,h2,h3⟩ | h2
   ·exact .inl ⟨b1,L1,h2,h3.trans h1⟩
   ·exact .inr (h1▸h2)
  ·exact .inr (a7 h.size h1)
 size:=a7 h.size k.size
 os:=k.os.trans h.os
 tape:=k.tape.trans h.tape
 output:=k.output.trans h.output
 frame:=fun j hj hn=>by
  rw [k.frame j (cj hj h.size) (fun b L hb hc=>?_)]
  ·exact h.frame j hj hn
  ·rcases h.img b L hb with⟨b0,L0,h0,h1⟩ | h1
   ·exact hn b0 L0 h0 (h1.trans hc)
   ·omega
theorem Ext.mono{N M:Nat}{X Y:Wd}(h:Ext N X Y)(hm:M≤N):Ext M X Y:=
 {h with keep:=fun b hb=>h.keep b (cj hb hm) }
theorem CR1.under{X:Wd}{x:C}{v:Value}(h:CR1 σ X x v):x.ig X.H.length=true:=by
 have lt:∀(b:Nat) blk,X.H[b]?=some blk→b<X.H.length:=fun b blk hb=>(ab.1 hb).1
 cases x with
 | f x=>rfl
 | ptr b off ep=>
  obtain⟨L,_,h⟩:=h;split at h
  ·rename_i hb;simpa [C.ig]using lt _ _ hb
  ·rename_i hb;simpa [C.ig]using lt _ _ hb
  ·exact h.elim
 | sl b o l cap ep sz=>
  simp only [CR1]at h;split at h
  ·rename_i hb;simpa [C.ig]using lt _ _ hb
  ·rename_i hb;simpa [C.ig]using lt _ _ hb
  ·exact h.elim
 | cl f caps=>exact h.elim
 | yl b=>obtain⟨L,_,⟨f,t,p,a,b',s,q,d,hb⟩,rfl⟩:=h;simpa [C.ig]using lt _ _ hb
 | mp b=>obtain⟨L,_,⟨es,hb⟩,rfl⟩:=h;simpa [C.ig]using lt _ _ hb
 | it b=>obtain⟨L,_,⟨s,p,hb⟩,rfl⟩:=h;simpa [C.ig]using lt _ _ hb
 | mi b=>obtain⟨L,_,⟨m,s,d,hb⟩,rfl⟩:=h;simpa [C.ig]using lt _ _ hb
 | bm f first=>exact h.elim
theorem CR1.vM{N:Nat}{X X':Wd}(hx:wu N X X'){x:C}{v:Value}(hu:x.ig N=true)(h:CR1 σ X x v):CR1 σ X' x v:=by
 cases x with
 | f x=>exact FCR.mono hx.F hx.fw h
 | ptr b off ep=>
  obtain⟨L,hL,h⟩:=h;have hk:=hx.keep b (by simpa [C.ig]using hu)
  split at h
  ·rename_i cs fl hb;obtain⟨blk',hb',h1⟩:=hk _ hb;cases blk'<;>simp only at h1;exact⟨L,h1 L hL,by rw [hb'];exact h⟩
  ·rename_i s cs fl e hb;obtain⟨blk',hb',h1⟩:=hk _ hb;cases blk'<;>simp only at h1;obtain⟨rfl,⟨rfl,rfl,h2⟩ | ⟨h2,rfl,L',hL'⟩⟩:=h1
   ·exact⟨L,h2 L hL,by rw [hb'];exact h⟩
   ·exact⟨L',hL',by rw [hb'];exact⟨by omega,fun h3=>by omega,h.2.2⟩⟩
  ·exact h.elim
 | sl b o l cap ep sz=>
  simp only [CR1]at h ⊢;have hk:=hx.keep b (by simpa [C.ig]using hu)
  split at h
  ·rename_i cs fl hb;obtain⟨L,hL,h⟩:=h;obtain⟨blk',hb',h1⟩:=hk _ hb;cases blk'<;>simp only at h1;rw [hb'];exact⟨L,h1 L hL,h⟩
  ·rename_i s cs fl e st hb;obtain⟨blk',hb',h1⟩:=hk _ hb;cases blk'<;>simp only at h1;rw [hb'];obtain⟨rfl,⟨rfl,rfl,h2⟩ | ⟨h2,rfl,L',hL'⟩⟩:=h1
   ·refine⟨h.1,fun h3 h4=>?_,h.2.2⟩
    have h5:=h.2.1 h3 h4
    cases st with
    | loc=>obtain⟨L,hL,h6⟩:=h5;exact⟨L,h2 L hL,h6⟩
    | nil=>exact h5
    | es=>exact h5
   ·exact⟨by omega,fun h3=>by omega,h.2.2⟩
  ·exact h.elim
 | cl f caps=>exact h.elim
 | yl b=>
  obtain⟨L,hL,⟨f,t,p,a,b',s,q,d,hb⟩,rfl⟩:=h;obtain⟨blk',hb',h1⟩:=hx.keep b (by simpa [C.ig]using hu) _ hb
  cases blk'<;>simp only at h1
  exact⟨L,h1.2 L hL,⟨_,_,_,_,_,_,_,_,hb'⟩,rfl⟩
 | mp b=>
  obtain⟨L,hL,⟨es,hb⟩,rfl⟩:=h;obtain⟨blk',hb',h1⟩:=hx.keep b (by simpa [C.ig]using hu) _ hb
  cases blk'<;>simp only at h1
  exact⟨L,h1 L hL,⟨_,hb'⟩,rfl⟩
 | it b=>
  obtain⟨L,hL,⟨s,p,hb⟩,rfl⟩:=h;obtain⟨blk',hb',h1⟩:=hx.keep b (by simpa [C.ig]using hu) _ hb
  cases blk'<;>simp only at h1
  exact⟨L,h1 L hL,⟨_,_,hb'⟩,rfl⟩
 | mi b=>
  obtain⟨L,hL,⟨m,s,d,hb⟩,rfl⟩:=h;obtain⟨blk',hb',h1⟩:=hx.keep b (by simpa [C.ig]using hu) _ hb
  cases blk'<;>simp only at h1
  exact⟨L,h1.2 L hL,⟨_,_,_,hb'⟩,rfl⟩
 | bm f first=>exact h.elim
theorem CR.vM{N:Nat}{X X':Wd}(hx:wu N X X'){x:C}{v:Value}(hu:x.under N=true)(h:CR σ X x v):CR σ X' x v:=by
 cases x with
 | cl f caps=>
  obtain⟨us,rfl,h⟩:=h;refine⟨us,rfl,h.mono fun y u hy hyu=>CR1.vM σ hx ?_ hyu⟩
  exact aR.1 hu y hy
 | bm f first=>
  obtain⟨us,rfl,h⟩:=h;refine⟨us,rfl,h.mono fun y u hy hyu=>CR1.vM σ hx ?_ hyu⟩
  exact aR.1 hu y hy
 | mi b=>exact CR1.vM σ hx (x:=.mi b) hu h
 | f y=>exact CR1.vM σ hx (x:=.f y) hu h
 | ptr a b c=>exact CR1.vM σ hx (x:=.ptr a b c) hu h
 | sl a b c d e g=>exact CR1.vM σ hx (x:=.sl a b c d e g) hu h
 | yl b=>exact CR1.vM σ hx (x:=.yl b) hu h
 | mp b=>exact CR1.vM σ hx (x:=.mp b) hu h
 | it b=>exact CR1.vM σ hx (x:=.it b) hu h
end
section
variable(Q:Program)(σ:Nat→FuncId)
theorem CR.under{X:Wd}{x:C}{v:Value}(h:CR σ X x v):x.under X.H.length=true:=by
 cases x with
 | cl f caps=>
  obtain⟨us,rfl,h⟩:=h;simp only [C.under,aR];intro y hy;obtain⟨i,hi⟩:=cd hy;obtain⟨u,_,hu⟩:=h.get hi
  exact CR1.under σ hu
 | bm f caps=>
  obtain⟨us,rfl,h⟩:=h;simp only [C.under,aR];intro y hy;obtain⟨i,hi⟩:=cd hy;obtain⟨u,_,hu⟩:=h.get hi
  exact CR1.under σ hu
 | mi b=>exact CR1.under σ (x:=.mi b) h
 | f y=>rfl
 | ptr a b c=>exact CR1.under σ (x:=.ptr a b c) h
 | sl a b c d e g=>exact CR1.under σ (x:=.sl a b c d e g) h
 | yl b=>exact CR1.under σ (x:=.yl b) h
 | mp b=>exact CR1.under σ (x:=.mp b) h
 | it b=>exact CR1.under σ (x:=.it b) h
theorem CR.fJ{X X':Wd}(hx:wu X.H.length X X'){x:C}{v:Value}(h:CR σ X x v):CR σ X' x v:=CR.vM σ hx (CR.under σ h) h
theorem A2.fJ{X X':Wd}(hx:wu X.H.length X X'){xs:List C}{us:List Value}(h:A2 (CR σ X) xs us):A2 (CR σ X') xs us:=
 h.weak fun _ _ h=>CR.fJ σ hx h
theorem VR1.fJ{X X':Wd}(hx:wu X.H.length X X'){x:V}{v:Value}(h:VR1 σ X x v):VR1 σ X' x v:=by
 cases x with
 | top=>trivial
 | c x=>exact CR.fJ σ hx h
 | a xs=>obtain⟨us,rfl,h⟩:=h;exact⟨us,rfl,A2.fJ σ hx h⟩
 | t vs=>exact h.elim
theorem VR.fJ{X X':Wd}(hx:wu X.H.length X X'){x:V}{v:Value}(h:VR σ X x v):VR σ X' x v:=by
 cases x with
 | t vs=>obtain⟨us,rfl,h⟩:=h;exact⟨us,rfl,h.weak fun _ _ h=>VR1.fJ σ hx h⟩
 | top=>trivial
 | c x=>exact VR1.fJ σ (x:=.c x) hx h
 | a xs=>exact VR1.fJ σ (x:=.a xs) hx h
def RR(X:Wd)(regs:T)(tmps:Array Value):Prop:=∀ p,VR σ X (regs.get p) (tmps.getD p.toNat undef)
theorem RR.fJ{X X':Wd}(hx:wu X.H.length X X'){regs:T}{tmps:Array Value}(h:RR σ X regs tmps):RR σ X' regs tmps:=fun p=>VR.fJ σ hx (h p)
theorem CR.ext'{X X':Wd}(hx:Ext X.H.length X X'){x:C}{v:Value}(h:CR σ X x v):CR σ X' x v:=CR.fJ σ hx.W h
theorem A2.ext'{X X':Wd}(hx:Ext X.H.length X X'){xs:List C}{us:List Value}(h:A2 (CR σ X) xs us):A2 (CR σ X') xs us:=A2.fJ σ hx.W h
theorem VR1.ext'{X X':Wd}(hx:Ext X.H.length X X'){x:V}{v:Value}(h:VR1 σ X x v):VR1 σ X' x v:=VR1.fJ σ hx.W h
theorem VR.ext'{X X':Wd}(hx:Ext X.H.length X X'){x:V}{v:Value}(h:VR σ X x v):VR σ X' x v:=VR.fJ σ hx.W h
theorem RR.ext'{X X':Wd}(hx:Ext X.H.length X X'){regs:T}{tmps:Array Value}(h:RR σ X regs tmps):RR σ X' regs tmps:=RR.fJ σ hx.W h
theorem T.vI(t:T)(p q:P)(v:V):(t.set p v).get q=if p=q then v else t.get q:=by
 induction t generalizing p q with
 | e=>
  induction p generalizing q with
  | h=>cases q<;>simp [T.set,T.get]
  | o p ih=>cases q<;>simp [T.set,T.get,ih]
  | i p ih=>cases q<;>simp [T.set,T.get,ih]
 | n l v' r ihl ihr=>cases p<;>cases q<;>simp [T.set,T.get,ihl,ihr]
theorem P.toNat_inj{p q:P}(h:p.toNat=q.toNat):p=q:=by
 induction p generalizing q with
 | h=>cases q<;>simp [P.toNat]at h ⊢
 | o p ih=>
  cases q with
  | h=>simp [P.toNat]at h
  | o q=>simp only [P.toNat]at h;rw [ih (q:=q) (by omega)]
  | i q=>simp [P.toNat]at h;omega
 | i p ih=>
  cases q with
  | h=>simp [P.toNat]at h
  | o q=>simp [P.toNat]at h;omega
  | i q=>simp only [P.toNat]at h;rw [ih (q:=q) (by omega)]
theorem RR.set{X:Wd}{regs:T}{tmps:Array Value}(h:RR σ X regs tmps){p:P}(hp:p.toNat<tmps.size){v:V}{u:Value}(hv:VR σ X v u) :
  RR σ X (regs.set p v) (tmps.setIfInBounds p.toNat u):=by
 intro q;rw [T.vI];by_cases hq:p=q
 ·subst hq;simpa [hp]using hv
 ·have hne:p.toNat≠q.toNat:=fun e=>hq (P.toNat_inj e)
  simpa [hq,Array.getD_eq_getD_getElem?,Array.getElem?_setIfInBounds_ne hne]using h q
def nU.of:nU→LoopState
 | .ready=>.ready
 | .busy=>.busy
 | .done=>.done
 | .exhausted=>.exhausted
def Df(n:Nat):Option ACode→Option Code→Prop
 | none,none=>True
 | some a,some c=>bP Q σ n c a=true
 | _,_=>False
def BR(X:Wd):Blk→Loc→Prop
 | .box cs fl,L=>∃ us,rowAt X.w L.c us∧A2 (CR σ X) cs us∧∀ i,fl≤i→¬ X.F L.c i
 | .opn sz cs fl _ st,L=>st=.loc∧∃ us rest,rowAt X.w L.c (us++rest)∧A2 (CR σ X) cs us∧(us++rest).length=L.cap*sz∧0<sz∧(∃ n,cs.length=n*sz)∧∀ i,fl≤i→¬ X.F L.c i
 | .map es,L=>∃ arr:List MapEntry,X.w.heap[L.c]?=some (.map arr.toArray arr.length)∧A2 (fun e m=>FCR σ X.F X.w e.1 m.key∧VR1 σ X (mV e.2) m.val) es arr∧∀(i:Nat) m,arr[i]?=some m→m.born=i
 | .mit m since done,L=>∃(Lm:Loc) (sn:Array Nat) (st:Nat),X.rho m=some Lm∧(∃ es,X.H[m]?=some (.map es))∧X.w.heap[L.c]?=some (.mapIter (some Lm.c) since sn st)∧(if done then sn=#[0]∧st=1 else sn=#[])
 | .it s pos,L=>X.w.heap[L.c]?=some (.stringIter s pos)
 | .dfr b,L=>X.w.heap[L.c]?=some (.deferred (if b then some []else none))
 | .lp f tmps ps as bd st pend d,L=>∃(n:Nat) (us:Array Value) (ps':Array Tmp) (as' bd':Code) (jg:Option Code) (Ld:Loc),
   X.w.heap[L.c]?=some (.loop { state:=st.of,pending:=jg,fn:=σ f,tmps:=us,params:=ps',assign:=as',body:=bd',defers:=Ld.c }) ∧
   n≤us.size∧RR σ X tmps us∧all2 (fun p (q:P)=>q.toNat == p&&decide (p<n)) ps'.toList ps=true∧bP Q σ n as' as=true∧bP Q σ n bd' bd=true∧Df Q σ n pend jg∧X.rho d=some Ld∧∃ o,X.H[d]?=some (.dfr o)
theorem BR.vM{X X':Wd}(hx:wu X.H.length X X'){blk:Blk}{L:Loc}(hw:X'.w.heap[L.c]?=X.w.heap[L.c]?)(hF:∀ i,X'.F L.c i→X.F L.c i)(h:BR Q σ X blk L):BR Q σ X' blk L:=by
 cases blk with
 | box cs fl=>
  obtain⟨us,⟨e,fr,h1,h2⟩,h3,h4⟩:=h
  exact⟨us,⟨e,fr,hw.trans h1,h2⟩,A2.fJ σ hx h3,fun i hi hf=>h4 i hi (hF i hf)⟩
 | opn sz cs fl ep st=>
  obtain⟨hst,us,rest,⟨e,fr,h1,h2⟩,h3,h4,h5,h6,h7⟩:=h
  exact⟨hst,us,rest,⟨e,fr,hw.trans h1,h2⟩,A2.fJ σ hx h3,h4,h5,h6,fun i hi hf=>h7 i hi (hF i hf)⟩
 | map es=>
  obtain⟨arr,h1,h2,h3⟩:=h
  exact⟨arr,hw.trans h1,h2.weak fun _ _ h=>⟨FCR.mono hx.F hx.fw h.1,VR1.fJ σ hx h.2⟩,h3⟩
 | mit m since done=>
  obtain⟨Lm,sn,st,h1,⟨es,h2⟩,h3,h4⟩:=h;obtain⟨blk',hb',h5⟩:=hx.keep m (ab.1 h2).1 _ h2;cases blk'<;>simp only at h5
  exact⟨Lm,sn,st,h5 Lm h1,⟨_,hb'⟩,hw.trans h3,h4⟩
 | it s pos=>exact hw.trans h
 | dfr b=>exact hw.trans h
 | lp f tmps ps as bd st pend d=>
  obtain⟨n,us,ps',as',bd',jg,Ld,h1,h2,h3,h4,h5,h6,h7,h8,o,h9⟩:=h;have hd:d<X.H.length:=(ab.1 h9).1;obtain⟨blk',hb',h10⟩:=hx.keep d hd _ h9;cases blk'<;>simp only at h10;exact⟨n,us,ps',as',bd',jg,Ld,hw.trans h1,h2,RR.fJ σ hx h3,h4,h5,h6,h7,h10 Ld h8,_,hb'⟩
theorem BR.ext{X X':Wd}(hx:Ext X.H.length X X'){blk:Blk}{L:Loc}(hw:X'.w.heap[L.c]?=X.w.heap[L.c]?)(hF:∀ i,X'.F L.c i→X.F L.c i)(h:BR Q σ X blk L):BR Q σ X' blk L:=BR.vM Q σ hx.W hw hF h
structure SR(X:Wd):Prop where
 br:∀ b L,X.rho b=some L→X.B≤L.c∧L.c<X.w.heap.size∧∃ blk,X.H[b]?=some blk∧BR Q σ X blk L
 inj:∀ b b' L L',X.rho b=some L→X.rho b'=some L'→L.c=L'.c→b=b'
 fb:∀ c i,X.F c i→c<X.w.heap.size
theorem SR.step{X X':Wd}(hS:SR Q σ X)(hx:Ext X.H.length X X')(b0:Nat)(hH:∀ b,b≠b0→X'.H[b]?=X.H[b]?)(pG:∀ b,b≠b0→X'.rho b=X.rho b)
  (hw:∀ b L,b≠b0→X.rho b=some L→X'.w.heap[L.c]?=X.w.heap[L.c]?) (hF:∀ b L,b≠b0→X.rho b=some L→∀ i,X'.F L.c i→X.F L.c i)
  (h0:∀ L,X'.rho b0=some L→X.B≤L.c∧L.c<X'.w.heap.size∧(∃ blk,X'.H[b0]?=some blk∧BR Q σ X' blk L)∧∀ b L',b≠b0→X.rho b=some L'→L'.c≠L.c)
  (hfb:∀ c i,X'.F c i→c<X'.w.heap.size):SR Q σ X' where
 br:=fun b L hb=>by
  rw [hx.B];by_cases h:b=b0
  ·subst h;obtain⟨h1,h2,h3,_⟩:=h0 L hb;exact⟨h1,h2,h3⟩
  ·rw [pG b h]at hb;obtain⟨h1,h2,blk,h3,h4⟩:=hS.br b L hb;exact⟨h1,cj h2 hx.size,blk,(hH b h).trans h3,BR.ext Q σ hx (hw b L h hb) (hF b L h hb) h4⟩
 fb:=fun c i h=>hfb c i h
 inj:=fun b b' L L' hb hb' hc=>by
  by_cases h:b=b0<;>by_cases h':b'=b0
  ·rw [h,h']
  ·subst h;rw [pG b' h']at hb';exact absurd hc.symm ((h0 L hb).2.2.2 b' L' h' hb')
  ·subst h';rw [pG b h]at hb;exact absurd hc ((h0 L' hb').2.2.2 b L h hb)
  ·rw [pG b h]at hb;rw [pG b' h']at hb';exact hS.inj b b' L L' hb hb' hc
end
section
variable{Q:Program}{σ:Nat→FuncId}{X:Wd}
theorem aV{t:TypeId}{d:TypeDesc}(h:Q.underlying t=some d)(w:World):(underlying t).run Q w=.ok d w:=by
 simp [underlying,h]
theorem dJ{t:TypeId}{n:Nat}(h:dX Q t n=true)(w:World):(Go.sizeOf t).run Q w=.ok n w:=by
 unfold dX at h
 cases hi:Q.info? t with
 | none=>simp [hi]at h
 | some i=>simp [hi]at h;simp [Go.sizeOf,typeInfo,hi,h]
theorem En{t:TypeId}{n:Nat}(h:qE Q t n=true)(w:World):∃ i,(typeInfo t).run Q w=.ok i w∧i.bytes=n:=by
 unfold qE at h
 cases hi:Q.info? t with
 | none=>simp [hi]at h
 | some i=>simp [hi]at h;exact⟨i,by simp [typeInfo,hi],h⟩
theorem NZ{t:TypeId}{n:Option Nat}(h:zh Q t n=true)(w:World):(isAgg t).run Q w=.ok n.isSome w∧∀ k,n=some k→dX Q t k=true:=by
 unfold zh at h
 cases hu:Q.underlying t with
 | none=>simp [hu]at h
 | some d=>
  cases d<;>cases n<;>simp_all [isAgg,aV hu]
theorem gu(c o k:Nat):(⟨c,o,none⟩:Addr).add k=⟨c,o+k,none⟩:=by unfold Addr.add;split<;>simp_all
theorem fK{w:World}{c:Nat}{us:List Value}(h:rowAt w c us)(i:Nat):w.cell? ⟨c,i,none⟩=us[i]?:=by
 obtain⟨e,fr,h,_⟩:=h;simp [World.cell?,h]
theorem LY{w:World}{c:Nat}{us:List Value}(h:rowAt w c us){i:Nat}(hi:i<us.length):w.frozen? ⟨c,i,none⟩=false:=by
 obtain⟨e,fr,h,h2⟩:=h;have:=h2 i hi;simp only [World.frozen?,h];simp only [Bool.and_eq_false_iff,decide_eq_false_iff_not];omega
theorem Aw(hS:SR Q σ X){x:C}{v:Value}(hv:CR σ X x v){cs:List C}(h:aG X.H x=some cs) :
  ∃ c o us,v=.pointer (some ⟨c,o,none⟩)∧(∀(i:Nat) u,us[i]?=some u→X.w.cell? ⟨c,o+i,none⟩=some u)∧A2 (CR σ X) cs us:=by
 cases x with
 | ptr b off ep=>
  obtain⟨L,hL,hv⟩:=hv;obtain⟨_,_,blk,hb,hbr⟩:=hS.br b L hL;simp only [aG,hb]at h;rw [hb]at hv
  cases blk with
  | box cs' fl=>
   simp only [aa]at h;subst h;subst hv;obtain⟨us,hr,h2,_⟩:=hbr
   exact⟨L.c,off,us.drop off,rfl,fun i u hu=>by rw [fK hr];rw [aM]at hu;exact hu,h2.drop off⟩
  | opn s cs' fl e st=>
   cases st<;>simp only at h hv
   ·split at h
    ·rename_i he;simp only [aa]at h;subst h;obtain⟨_,hv,_⟩:=hv;have hv:=hv he;subst hv;obtain⟨_,us,rest,hr,h2,_⟩:=hbr;refine⟨L.c,off,us.drop off,rfl,fun i u hu=>?_,h2.drop off⟩
     rw [fK hr];rw [aM]at hu;rw [ae (ab.1 hu).1];exact hu
    ·simp at h
   all_goals exact hv.elim
  | _=>simp at h
 | f x=>
  cases x with
  | fp cs' off=>
   simp only [aG,aa]at h;subst h
   cases hv with
   | fp _ _ c o us hl hF hc hr=>
    refine⟨c,o+off,us.drop off,rfl,fun i u hu=>?_,A2.map ⟨by simp [hl],fun i x u hx hu=>?_⟩⟩
    ·rw [aM]at hu;have:=hc _ u hu;rwa [show o+(off+i)=o+off+i by omega]at this
    ·rw [aM]at hx hu;exact hr _ x u hx hu
  | _=>simp [aG]at h
 | _=>simp [aG]at h
theorem FX{t:TypeId}{n:Option Nat}(ht:zh Q t n=true){c o:Nat}{us:List Value}{cs:List C}{w:World}
  (hc:∀(i:Nat) u,us[i]?=some u→w.cell? ⟨c,o+i,none⟩=some u) (h2:A2 (CR σ X) cs us) {v:V} (hv:aS n cs=some v) :
  ∃ u,(loadVar t ⟨c,o,none⟩).run Q w=.ok u w∧VR σ X v u:=by
 obtain⟨h3,h4⟩:=NZ ht w
 cases n with
 | none=>
  cases cs with
  | nil=>simp [aS]at hv
  | cons x cs=>
   simp only [aS,aa]at hv;subst hv;obtain⟨u,hu,hxu⟩:=h2.get (i:=0) (x:=x) rfl;have:=hc 0 u hu;simp only [Nat.add_zero]at this
   exact⟨u,by simp [loadVar,h3,this],hxu⟩
 | some n=>
  simp only [aS]at hv;split at hv
  ·rename_i hn;simp only [aa]at hv;subst hv;have hl:(us.take n).length=n:=by have:=h2.len;simp;omega
   have:=run_loadCells_list (P:=Q) w ⟨c,o,none⟩ (us.take n) (fun j v hj=>by
    rw [gu];rw [bE]at hj;split at hj
    ·exact hc j v hj
    ·simp at hj)
   rw [hl]at this;refine⟨.agg (us.take n).toArray,?_,⟨us.take n,rfl,h2.take n⟩⟩;simp [loadVar,h3,dJ (h4 n rfl),this]
  ·simp at hv
theorem aIj(hS:SR Q σ X){t:TypeId}{n:Option Nat}(ht:zh Q t n=true){x:V}{p:Value}(hx:VR σ X x p){v:V}(h:ldV X.H n x=some v) :
  ∃ u,(Instr.loadAt t p).run Q X.w=.ok u X.w∧VR σ X v u:=by
 cases x with
 | c x=>
  simp only [ldV,ba]at h;obtain⟨cs,h1,h2⟩:=h;obtain⟨c,o,us,rfl,h3,h4⟩:=Aw hS hx h1;obtain⟨u,h5,h6⟩:=FX ht h3 h4 h2
  exact⟨u,by simp [Instr.loadAt,Instr.sureAddr,h5],h6⟩
 | _=>simp [ldV]at h
end
section
variable{Q:Program}{σ:Nat→FuncId}{X:Wd}
theorem VR.int{k:IntKind}{n:Int}{u:Value}(h:VR σ X (.c (.f (.int k n))) u):u=.int k n:=by cases (h:FCR σ X.F X.w (.int k n) u);rfl
theorem VR.bool{b:Bool}{u:Value}(h:VR σ X (.c (.f (.bool b))) u):u=.bool b:=by cases (h:FCR σ X.F X.w (.bool b) u);rfl
theorem VR.str{s:ByteArray}{u:Value}(h:VR σ X (.c (.f (.str s))) u):u=.string s:=by cases (h:FCR σ X.F X.w (.str s) u);rfl
theorem VR.mkInt(k:IntKind)(n:Int):VR σ X (V.int k n) (.int k n):=FCR.int k n
theorem VR.zU(b:Bool):VR σ X (V.bool b) (.bool b):=FCR.bool b
theorem VR.mkStr(s:ByteArray):VR σ X (.c (.f (.str s))) (.string s):=FCR.str s
theorem gQ{α β:Type}{f:α→β→Bool}:∀ {xs:List α} {ys:List β},all2 f xs ys=true→A2 (fun x y=>f x y=true) xs ys
 | [],[],_=>A2.nil
 | x::xs,y::ys,h=>by
  simp only [all2,ag]at h
  exact A2.cons h.1 (gQ h.2)
 | [],_::_,h=>by simp [all2]at h
 | _::_,[],h=>by simp [all2]at h
theorem Ll{F:Nat→Nat→Prop}{w:World}{x:FC}{u:Value}(h:mK1 x u=true):FCR σ F w x u:=by
 unfold mK1 at h;split at h
 ·simp only [beq_iff_eq]at h;subst h;exact .bool _
 ·simp only [ag,decide_eq_true_eq]at h;obtain⟨rfl,rfl⟩:=h;exact .int _ _
 ·simp only [decide_eq_true_eq]at h;subst h;exact .str _
 ·exact .qj
 ·exact .au
 ·exact .nS
 ·exact .qm
 ·exact .BX
 ·simp at h
theorem aMh{x:V}{u:Value}(h:mK x u=true):VR σ X x u:=by
 unfold mK at h;split at h
 ·exact Ll h
 ·refine⟨_,by simp,(gQ h).weak fun y w hy=>?_⟩
  split at hy
  ·exact Ll hy
  ·simp at hy
 ·trivial
 ·simp at h
theorem bH{a:Act}{regs:T}(hR:RR σ X regs a.tmps){x:Arg}{y:Operand}(h:mA σ x y=true):VR σ X (x.ev regs) (a.eval y):=by
 unfold mA at h;split at h
 ·rename_i p t;simp only [beq_iff_eq]at h;subst h;exact hR p
 ·exact aMh h
 ·simp only [beq_iff_eq]at h;subst h;exact FCR.fn _ [] [] rfl (by simp)
 ·simp at h
theorem qQ{a:Act}{regs:T}(hR:RR σ X regs a.tmps){xs:List Arg}{ys:Array Operand}(h:mAs σ xs ys=true):A2 (VR σ X) (dZ regs xs) (ys.map a.eval).toList:=by
 have:=(gQ h).weak fun x y hxy=>bH hR hxy
 refine⟨by simpa [dZ]using this.len,fun i v u hv hu=>?_⟩
 simp only [dZ,b8,am]at hv;simp only [Array.toList_map,b8,am]at hu;obtain⟨x,hx,rfl⟩:=hv;obtain⟨y,hy,rfl⟩:=hu;exact this.2 i x y hx hy
theorem aMg{a:Act}{regs:T}(hR:RR σ X regs a.tmps){x:Option Arg}{y:Option Operand}(h:mO σ x y=true) :
  (x=none∧y=none)∨∃ x' y',x=some x'∧y=some y'∧VR σ X (x'.ev regs) (a.eval y'):=by
 unfold mO at h;split at h
 ·exact .inl ⟨rfl,rfl⟩
 ·exact .inr ⟨_,_,rfl,rfl,bH hR h⟩
 ·simp at h
theorem axh{op:BinOp}{k:IntKind}{x y:Int}{v:V}(h:qp op k x y=some v)(w:World) :
  ∃ u,(binOp op 0 (.int k x) (.int k y)).run Q w=.ok u w∧VR σ X v u∧∀ t,binOp op t (.int k x) (.int k y)=binOp op 0 (.int k x) (.int k y):=by
 unfold qp at h;split at h<;>(try split at h)<;>(try simp only [aa,reduceCtorEq]at h)<;>(try subst h)
 all_goals first
  | (refine⟨_,?_,VR.mkInt _ _,fun _=>by simp [binOp]⟩;simp [binOp,Op.intArith,Op.intBits];done)
  | (refine⟨_,?_,VR.zU _,fun _=>by simp [binOp]⟩;simp [binOp,Op.intCmp];done)
  | (rename_i hy;refine⟨_,?_,VR.mkInt _ _,fun _=>by simp [binOp]⟩;simp [binOp,Op.intDiv,hy];done)
theorem axf{op:BinOp}{x y:ByteArray}{v:V}(h:Xf op x y=some v)(w:World)(t:TypeId) :
  ∃ u,(binOp op t (.string x) (.string y)).run Q w=.ok u w∧VR σ X v u:=by
 unfold Xf at h;split at h<;>(try split at h)<;>(try simp only [aa,reduceCtorEq]at h)<;>(try subst h)
 all_goals first
  | exact⟨_,by simp [binOp,Op.stringOp],VR.zU _⟩
  | (rename_i hy;exact⟨_,by simp only [binOp,Op.stringOp];rw [if_neg hy];rfl,VR.mkStr _⟩)
  | skip
end
section
variable{Q:Program}{σ:Nat→FuncId}{X:Wd}
theorem yX:∀ {ks:List CK} {xs ys:List C} {b:Bool},eqL ks xs ys=some b→xs.length=ks.length∧ys.length=ks.length
 | [],[],[],_,_=>⟨rfl,rfl⟩
 | k::ks,x::xs,y::ys,b,h=>by
  simp only [eqL]at h;split at h
  ·rename_i hc;have:=yX hc;simp [this]
  ·simp at h
 | [],_::_,_,_,h=>by simp [eqL]at h
 | [],[],_::_,_,h=>by simp [eqL]at h
 | _::_,[],_,_,h=>by simp [eqL]at h
 | _::_,_::_,[],_,h=>by simp [eqL]at h
theorem Ag:∀ {ks ls:List CK} {xs ys:List C} {b:Bool},eqL (ks++ls) xs ys=some b →
  ∃ b1 b2,eqL ks (xs.take ks.length) (ys.take ks.length)=some b1∧eqL ls (xs.drop ks.length) (ys.drop ks.length)=some b2∧b=(b1&&b2)
 | [],ls,xs,ys,b,h=>⟨true,b,rfl,by simpa using h,by simp⟩
 | k::ks,ls,[],ys,b,h=>by simp [eqL]at h
 | k::ks,ls,x::xs,[],b,h=>by simp [eqL]at h
 | k::ks,ls,x::xs,y::ys,b,h=>by
  simp only [List.cons_append,eqL]at h;split at h
  ·rename_i a c ha hc;simp only [aa]at h;obtain⟨b1,b2,h1,h2,rfl⟩:=Ag hc;refine⟨a&&b1,b2,?_,by simpa using h2,by rw [←h,Bool.and_assoc]⟩
   simp [eqL,ha,h1]
  ·simp at h
def CKv:CK→Value→Value→Bool→Prop
 | .bool,u,v,b=>∃ p q,u=.bool p∧v=.bool q∧b=(p == q)
 | .int,u,v,b=>∃ j p q,u=.int j p∧v=.int j q∧b=(p == q)
 | .str,u,v,b=>∃ p q,u=.string p∧v=.string q∧b=(p == q)
theorem yV{k:CK}{x y:C}{b:Bool}(h:eqP k x y=some b){u v:Value}(hx:CR σ X x u)(hy:CR σ X y v):CKv k u v b:=by
 unfold eqP at h;split at h
 ·simp only [aa]at h;exact⟨_,_,VR.bool (σ:=σ) (X:=X) hx,VR.bool (σ:=σ) (X:=X) hy,h.symm⟩
 ·split at h
  ·rename_i hk;subst hk;simp only [aa]at h;exact⟨_,_,_,VR.int (σ:=σ) (X:=X) hx,VR.int (σ:=σ) (X:=X) hy,h.symm⟩
  ·simp at h
 ·simp only [aa]at h;exact⟨_,_,VR.str (σ:=σ) (X:=X) hx,VR.str (σ:=σ) (X:=X) hy,h.symm⟩
 ·simp at h
theorem Gq:∀(d:Nat) (t:TypeId) (ks:List CK),kD Q d t=some ks→∀(D:Nat),d≤D→∀(us vs:List Value) (off:Nat) (xs ys:List C) (b:Bool) (w:World),
  eqL ks xs ys=some b→A2 (CR σ X) xs ((us.drop off).take ks.length)→A2 (CR σ X) ys ((vs.drop off).take ks.length) →
  ∃ a c,(part t us.toArray off).run Q w=.ok a w∧(part t vs.toArray off).run Q w=.ok c w∧(Op.equalIn D t a c).run Q w=.ok b w
 | 0,_,_,h,_,_,_,_,_,_,_,_,_,_,_,_=>by simp [kD]at h
 | d+1,t,ks,h,0,hD,_,_,_,_,_,_,_,_,_,_=>by omega
 | d+1,t,ks,h,D+1,hD,us,vs,off,xs,ys,b,w,hq,hx,hy=>by
  have hl:=yX hq
  have scalar:∀(k:CK),ks=[k]→(∀ td,Q.underlying t=some td→(match td with | .struct _ | .array _ _=>False | _=>True))→(∃ td,Q.underlying t=some td) →
    ∃ x y u v,xs=[x]∧ys=[y]∧eqP k x y=some b∧CR σ X x u∧CR σ X y v∧(part t us.toArray off).run Q w=.ok u w∧(part t vs.toArray off).run Q w=.ok v w:=by
   intro k hk hns hu;subst hk;obtain⟨td,hu⟩:=hu;have hns:=hns td hu
   match xs,ys,hl with
   | [x],[y],_=>
    simp only [eqL]at hq;split at hq
    ·rename_i a c ha hc;simp only [aa]at hc hq;subst hc;simp at hq;subst hq;obtain⟨u,hu1,hu2⟩:=hx.get (i:=0) (x:=x) rfl;obtain⟨v,hv1,hv2⟩:=hy.get (i:=0) (x:=y) rfl;have e1:us[off]?=some u:=by simpa [bE,aM]using hu1
     have e2:vs[off]?=some v:=by simpa [bE,aM]using hv1
     have ha':(isAgg t).run Q w=.ok false w:=by
      cases td<;>simp_all [isAgg,aV hu]
     exact⟨x,y,u,v,rfl,rfl,ha,hu2,hv2,by simp [part,ha',e1],by simp [part,ha',e2]⟩
    ·simp at hq
  unfold kD at h;split at h
  ·rename_i hu;split at h
   ·simp only [aa]at h;obtain⟨x,y,u,v,rfl,rfl,he,h1,h2,h3,h4⟩:=scalar .bool h.symm (fun td htd=>by rw [hu]at htd;cases htd;trivial) ⟨_,hu⟩
    obtain⟨p,q,rfl,rfl,rfl⟩:=yV he h1 h2;exact⟨_,_,h3,h4,run_equalIn_bool' w D t _ _ hu⟩
   ·simp at h
  ·rename_i j hu;split at h
   ·simp only [aa]at h;obtain⟨x,y,u,v,rfl,rfl,he,h1,h2,h3,h4⟩:=scalar .int h.symm (fun td htd=>by rw [hu]at htd;cases htd;trivial) ⟨_,hu⟩
    obtain⟨j',p,q,rfl,rfl,rfl⟩:=yV he h1 h2;exact⟨_,_,h3,h4,run_equalIn_int w D t _ _ _ _ hu⟩
   ·simp at h
  ·rename_i hu;split at h
   ·simp only [aa]at h;obtain⟨x,y,u,v,rfl,rfl,he,h1,h2,h3,h4⟩:=scalar .str h.symm (fun td htd=>by rw [hu]at htd;cases htd;trivial) ⟨_,hu⟩
    obtain⟨p,q,rfl,rfl,rfl⟩:=yV he h1 h2;exact⟨_,_,h3,h4,by rw [run_equalIn_string w D t _ _ hu,beq_toListBytes]⟩
   ·simp at h
  ·rename_i fs hu;split at h
   ·simp at h
   ·rename_i hst;split at h
    ·rename_i ks' hf;split at h
     ·rename_i hsz;simp only [aa]at h;subst h;have hagg:(isAgg t).run Q w=.ok true w:=by simp [isAgg,aV hu]
      have hfo:Q.underlying t=some (.struct (Q.fieldsOf t)):=by simp [Program.fieldsOf,hu]
      have hfe:Q.fieldsOf t=fs:=by rw [hu]at hfo;simpa using hfo.symm
      refine⟨.agg ((us.drop off).take ks'.length).toArray,.agg ((vs.drop off).take ks'.length).toArray,?_,?_,?_⟩
      ·simp [part,hagg,dJ hsz,cw]
      ·simp [part,hagg,dJ hsz,cw]
      ·rw [run_equalIn_struct w D t _ _ hfo (by simpa using hst),hfe]
       have key:∀(l:List Field) (k:Nat) (ks2:List CK) (b2:Bool),kD.vK (kD Q d) k l=some ks2→∀(us2 vs2:List Value) (xs2 ys2:List C),
         eqL ks2 (xs2.drop k) (ys2.drop k)=some b2→A2 (CR σ X) xs2 us2→A2 (CR σ X) ys2 vs2→(Op.eqFields D us2.toArray vs2.toArray l).run Q w=.ok b2 w:=by
        intro l
        induction l with
        | nil=>
         intro k ks2 b2 hk us2 vs2 xs2 ys2 he _ _;simp only [kD.vK,aa]at hk;subst hk;have:=yX he;simp only [List.length_nil,List.length_eq_zero_iff]at this;rw [this.1,this.2]at he;simp only [eqL,aa]at he;subst he
         simp [Op.eqFields]
        | cons f l ih=>
         intro k ks2 b2 hk us2 vs2 xs2 ys2 he hx2 hy2;simp only [kD.vK]at hk;split at hk
         ·rename_i hcond;obtain⟨hn,ho⟩:=hcond;subst ho;split at hk
          ·rename_i ks3 h3;split at hk
           ·rename_i r hr;simp only [aa]at hk;subst hk;obtain⟨b1,b3,he1,he2,rfl⟩:=Ag he;obtain⟨a,c,h5,h6,h7⟩:=Gq d f.type ks3 h3 D (by omega) us2 vs2 f.offset _ _ b1 w he1 (by have:=(hx2.drop f.offset).take ks3.length;simpa using this) (by have:=(hy2.drop f.offset).take ks3.length;simpa using this)
            have ih':=ih (f.offset+ks3.length) r b3 hr us2 vs2 xs2 ys2 (by simpa [List.drop_drop]using he2) hx2 hy2
            simp only [Op.eqFields,hn,ne_eq,not_false_eq_true,if_true,Sem.run_bind,h5,h6,h7,Result.andThen_ok];cases b1<;>simp [ih']
           ·simp at hk
          ·simp at hk
         ·simp at hk
       exact key fs.toList 0 ks' b hf _ _ xs ys (by simpa using hq) hx hy
     ·simp at h
    ·simp at h
  ·simp at h
def aRn:EqK→Value→Bool→Prop
 | .ptr,u,b=>∃ a,u=.pointer a∧b=a.isNone
 | .sl,u,b=>∃ a n c,u=.slice a n c∧b=a.isNone
 | .fn,u,b=>(u=.nilFunc∧b=true)∨∃ f p q,u=.func f p q∧b=false
 | .ifc,u,b=>u=.nilIface∧b=true
 | _,_,_=>False
theorem vg{k:EqK}{x:C}{u:Value}(hx:CR σ X x u){b:Bool}(h:isNil X.H k x=some b):aRn k u b:=by
 unfold isNil at h;split at h<;>try simp only [aa,reduceCtorEq]at h
 ·cases (hx:FCR σ X.F X.w .qj u);subst h;exact⟨_,rfl,rfl⟩
 ·cases (hx:FCR σ X.F X.w (.fp _ _) u);subst h;exact⟨_,rfl,rfl⟩
 ·obtain⟨L,_,hx⟩:=hx;subst h;split at hx
  ·subst hx;exact⟨_,rfl,rfl⟩
  ·obtain⟨_,_,a,rfl⟩:=hx;exact⟨_,rfl,rfl⟩
  ·exact hx.elim
 ·cases (hx:FCR σ X.F X.w .au u);subst h;exact⟨_,_,_,rfl,rfl⟩
 ·cases (hx:FCR σ X.F X.w .es u);subst h;exact⟨_,_,_,rfl,rfl⟩
 ·cases (hx:FCR σ X.F X.w (.fs _ _) u)<;>(subst h;exact⟨_,_,_,rfl,rfl⟩)
 ·rename_i b' o l c ep sz;simp only [CR,CR1]at hx;split at h
  ·rename_i hb;rw [hb]at hx;obtain⟨L,_,_,rfl⟩:=hx;simp only [aa]at h;subst h;exact⟨_,_,_,rfl,rfl⟩
  ·rename_i s cs fl e st hb;rw [hb]at hx;split at h
   ·rename_i hc;have:=hx.2.1 hc.1 hc.2;simp only [aa]at h;subst h
    cases st with
    | loc=>obtain⟨L,_,k,_,_,rfl⟩:=this;exact⟨_,_,_,rfl,rfl⟩
    | nil=>obtain⟨_,_,rfl⟩:=this;exact⟨_,_,_,rfl,rfl⟩
    | es=>obtain⟨_,_,a,rfl⟩:=this;exact⟨_,_,_,rfl,rfl⟩
   ·simp at h
  ·simp at h
 ·cases (hx:FCR σ X.F X.w .nS u);subst h;exact .inl ⟨rfl,rfl⟩
 ·cases (hx:FCR σ X.F X.w (.fn _ _) u);subst h;exact .inr ⟨_,_,_,rfl,rfl⟩
 ·obtain⟨us,rfl,_⟩:=hx;subst h;exact .inr ⟨_,_,_,rfl,rfl⟩
 ·obtain⟨us,rfl,_⟩:=hx;subst h;exact .inr ⟨_,_,_,rfl,rfl⟩
 ·cases (hx:FCR σ X.F X.w .qm u);subst h;exact⟨rfl,rfl⟩
theorem Gs{d:Nat}{t:TypeId}{ks:List CK}(h:kD Q d t=some ks):dX Q t ks.length=true:=by
 cases d with
 | zero=>simp [kD]at h
 | succ d=>
  unfold kD at h;split at h
  ·split at h
   ·simp only [aa]at h;subst h;assumption
   ·simp at h
  ·split at h
   ·simp only [aa]at h;subst h;assumption
   ·simp at h
  ·split at h
   ·simp only [aa]at h;subst h;assumption
   ·simp at h
  ·split at h
   ·simp at h
   ·split at h
    ·split at h
     ·simp only [aa]at h;subst h;assumption
     ·simp at h
    ·simp at h
  ·simp at h
theorem WJ{t e:TypeId}(hu:Q.underlying t=some (.pointer e))(D:Nat)(a:Option Addr)(w:World):(Op.equalIn (D+1) t (.pointer a) (.pointer none)).run Q w=.ok a.isNone w:=by
 cases a<;>simp [Op.equalIn,aV hu]
theorem aw5{t e:TypeId}(hu:Q.underlying t=some (.slice e))(D:Nat)(a:Option Addr)(n c:Nat)(w:World):(Op.equalIn (D+1) t (.slice a n c) (.slice none 0 0)).run Q w=.ok a.isNone w:=by
 cases a<;>simp [Op.equalIn,aV hu]
theorem aw7{t:TypeId}{p r:Array TypeId}{v:Bool}(hu:Q.underlying t=some (.func p r v))(D:Nat)(w:World):(Op.equalIn (D+1) t .nilFunc .nilFunc).run Q w=.ok true w:=by
 simp [Op.equalIn,aV hu]
theorem aw8{t:TypeId}{p r:Array TypeId}{v:Bool}(hu:Q.underlying t=some (.func p r v))(D:Nat)(f:Fn)(x y:Array Value)(w:World):(Op.equalIn (D+1) t (.func f x y) .nilFunc).run Q w=.ok false w:=by
 simp [Op.equalIn,aV hu]
theorem aw6{t:TypeId}{ms:Array (String × TypeId)}(hu:Q.underlying t=some (.interface ms))(D:Nat)(w:World):(Op.equalIn (D+1) t .nilIface .nilIface).run Q w=.ok true w:=by
 simp [Op.equalIn,aV hu]
theorem Qs{t:TypeId}{x y:Operand}(hm:(xY x||xY y)=true)(op:BinOp)(w:World):(eqGuard op t x y .nilIface .nilIface).run Q w=.ok () w:=by
 simp only [Bool.or_eq_true]at hm;rcases hm with hm | hm
 ·cases x<;>simp only [xY,aw]at hm;cases op<;>rfl
 ·cases y<;>simp only [xY,aw]at hm;cases x<;>cases op<;>rfl
theorem aIV{k:EqK}{t:TypeId}{x y:Operand}(hm:mEq Q k t x y=true){v1 v2:V}{u1 u2:Value}(h1:VR σ X v1 u1)(h2:VR σ X v2 u2){b:Bool}
  (h:eqV X.H k v1 v2=some b) (neg:Bool) (w:World) :
  (do eqGuard (if neg then .neq else .eql) t x y u1 u2;binOp (if neg then .neq else .eql) t u1 u2).run Q w=.ok (.bool (if neg then !b else b)) w:=by
 have fin:(binOp .eql t u1 u2=do pure (.bool (←Op.equal t u1 u2)))→(binOp .neq t u1 u2=do pure (.bool (!(←Op.equal t u1 u2)))) →
   (∀ op,(eqGuard op t x y u1 u2).run Q w=.ok () w)→(Op.equalIn 10000 t u1 u2).run Q w=.ok b w →
   (do eqGuard (if neg then .neq else .eql) t x y u1 u2;binOp (if neg then .neq else .eql) t u1 u2).run Q w=.ok (.bool (if neg then !b else b)) w:=by
  intro e1 e2 e3 e4;cases neg
  ·simp only [aw,if_false,Sem.run_bind,e3,Result.andThen_ok,e1,Op.equal,Op.maxDepth,e4,Sem.run_pure]
  ·simp only [if_true,Sem.run_bind,e3,Result.andThen_ok,e2,Op.equal,Op.maxDepth,e4,Sem.run_pure]
 unfold mEq at hm;unfold eqV at h;split at hm
 ·rename_i hu;split at h<;>try simp only [reduceCtorEq]at *
  obtain⟨p,q,rfl,rfl,rfl⟩:=yV h h1 h2;exact fin rfl rfl (fun op=>by cases op<;>rfl) (run_equalIn_bool' w 9999 t _ _ hu)
 ·rename_i hu;split at h<;>try simp only [reduceCtorEq]at *
  obtain⟨a,rfl,rfl⟩:=vg h1 h;cases (h2:FCR σ X.F X.w .qj u2);exact fin rfl rfl (fun op=>by cases op<;>rfl) (WJ hu 9999 a w)
 ·rename_i hu;split at h<;>try simp only [reduceCtorEq]at *
  obtain⟨a,n,c,rfl,rfl⟩:=vg h1 h;cases (h2:FCR σ X.F X.w .au u2);exact fin rfl rfl (fun op=>by cases op<;>rfl) (aw5 hu 9999 a n c w)
 ·rename_i hu;split at h<;>try simp only [reduceCtorEq]at *
  cases (h2:FCR σ X.F X.w .nS u2);rcases vg h1 h with⟨rfl,rfl⟩ | ⟨f,p,q,rfl,rfl⟩
  ·exact fin rfl rfl (fun op=>by cases op<;>rfl) (aw7 hu 9999 w)
  ·exact fin rfl rfl (fun op=>by cases op<;>rfl) (aw8 hu 9999 f p q w)
 ·rename_i hu;split at h<;>try simp only [reduceCtorEq]at *
  cases (h2:FCR σ X.F X.w .qm u2);obtain⟨rfl,rfl⟩:=vg h1 h;refine fin rfl rfl (fun op=>?_) ?_
  ·have hm':(xY x||xY y)=true:=hm;exact Qs hm' op w
  ·exact aw6 hu 9999 w
 ·rename_i fs ks hu
  obtain⟨xs,ys,rfl,rfl,h⟩:∃ xs ys,v1=.a xs∧v2=.a ys∧eqL ks xs ys=some b:=by
   cases v1<;>cases v2<;>first | exact⟨_,_,rfl,rfl,h⟩ | simp at h
  simp only [ag,decide_eq_true_eq,Bool.not_eq_true']at hm;obtain⟨hp,hg⟩:=hm;obtain⟨us,rfl,ha⟩:=h1;obtain⟨vs,rfl,hb⟩:=h2;have hl:=yX h;have hsz:=Gs hp;have hagg:(isAgg t).run Q w=.ok true w:=by simp [isAgg,aV hu]
  have t1:us.take ks.length=us:=bi (by have:=ha.len;omega)
  have t2:vs.take ks.length=vs:=bi (by have:=hb.len;omega)
  obtain⟨a,c,e1,e2,e3⟩:=Gq 20 t ks hp 10000 (by omega) us vs 0 _ _ b w h (by simpa [t1]using ha) (by simpa [t2]using hb)
  have e1':a=.agg us.toArray:=by
   simp [part,hagg,dJ hsz,cw,t1]at e1;exact e1.symm
  have e2':c=.agg vs.toArray:=by
   simp [part,hagg,dJ hsz,cw,t2]at e2;exact e2.symm
  subst e1';subst e2';cases neg
  ·simp only [aw,if_false,Sem.run_bind,run_eqGuard_agg w _ t x y _ _ hg,Result.andThen_ok,run_eql_struct,e3]
  ·simp only [if_true,Sem.run_bind,run_eqGuard_agg w _ t x y _ _ hg,Result.andThen_ok,run_neq_struct,e3]
 ·simp at hm
end
section
variable{Q:Program}{σ:Nat→FuncId}{X:Wd}
theorem kR{x:V}{u:Value}(h:VR σ X x u){i:Int}(hi:gW x=some i):∃ k,u=.int k i:=by
 unfold gW at hi;split at hi
 ·simp only [aa]at hi;subst hi;exact⟨_,VR.int h⟩
 ·simp at hi
theorem xw{x:V}{u:Value}(h:VR σ X x u){y i:Nat}(hb:bnd x y=some i){y':Nat}(hy:y≤y')(code:BoundsCode)(w:World) :
  i≤y∧(Instr.sliceBound u y' code).run Q w=.ok i w:=by
 unfold bnd at hb;split at hb
 ·rename_i j hj;obtain⟨k,rfl⟩:=kR h hj;split at hb
  ·rename_i hc;simp only [aa]at hb;subst hb;refine⟨by omega,?_⟩
   have:0≤j∧j≤(y':Int):=by omega
   simp [Instr.sliceBound,asIntOf,this]
  ·simp at hb
 ·simp at hb
def OR(X:Wd)(σ:Nat→FuncId):Option V→Option Value→Prop
 | none,none=>True
 | some x,some u=>VR σ X x u
 | _,_=>False
theorem fF{lo hi mx:Option V}{lo' hi' mx':Option Value}(h1:OR X σ lo lo')(h2:OR X σ hi hi')(h3:OR X σ mx mx'){len c l h m:Nat}
  (hb:dh len c lo hi mx=some (l,h,m)) {cap:Nat} (hc:c≤cap) (hl:len≤c) (s:Bool) (w:World) :
  (Instr.sliceBounds s len cap lo' hi' mx').run Q w=.ok (l,h,if mx.isSome then m else cap) w∧l≤h∧h≤m∧m≤c:=by
 unfold dh at hb
 cases mx with
 | some z=>
  cases mx'<;>simp only [OR]at h3;rename_i z';simp only [dl,ba]at hb;obtain⟨m0,hm,hb⟩:=hb;obtain⟨hm1,hm2⟩:=xw (Q:=Q) h3 hm hc (if s then .slice3Acap else .slice3Alen) w
  cases hi with
  | none=>simp at hb
  | some y=>
   cases hi'<;>simp only [OR]at h2;simp only [bh,ba]at hb;obtain⟨h0,hh,hb⟩:=hb;obtain⟨hh1,hh2⟩:=xw (Q:=Q) h2 hh (aq _) .slice3B w
   cases lo with
   | none=>
    cases lo'<;>simp only [OR]at h1;simp at hb;obtain⟨rfl,rfl,rfl⟩:=hb
    simp [Instr.sliceBounds,hm2,hh2];omega
   | some x=>
    cases lo'<;>simp only [OR]at h1;simp only [ba]at hb;obtain⟨l0,hl0,hb⟩:=hb;obtain⟨hl1,hl2⟩:=xw (Q:=Q) h1 hl0 (aq _) .slice3C w;simp at hb;obtain⟨rfl,rfl,rfl⟩:=hb
    simp [Instr.sliceBounds,hm2,hh2,hl2];omega
 | none=>
  cases mx'<;>simp only [OR]at h3
  cases hi with
  | none=>
   cases hi'<;>simp only [OR]at h2
   cases lo with
   | none=>
    cases lo'<;>simp only [OR]at h1;simp at hb;obtain⟨rfl,rfl,rfl⟩:=hb
    simp [Instr.sliceBounds];omega
   | some x=>
    cases lo'<;>simp only [OR]at h1;simp only [dl,bh,ba]at hb;obtain⟨l0,hl0,hb⟩:=hb;obtain⟨hl1,hl2⟩:=xw (Q:=Q) h1 hl0 (aq _) .sliceB w;simp at hb;obtain⟨rfl,rfl,rfl⟩:=hb
    simp [Instr.sliceBounds,hl2];omega
  | some y=>
   cases hi'<;>simp only [OR]at h2;simp only [dl,bh,ba]at hb;obtain⟨h0,hh,hb⟩:=hb;obtain⟨hh1,hh2⟩:=xw (Q:=Q) h2 hh hc (if s then .sliceAcap else .sliceAlen) w
   cases lo with
   | none=>
    cases lo'<;>simp only [OR]at h1;simp at hb;obtain⟨rfl,rfl,rfl⟩:=hb
    simp [Instr.sliceBounds,hh2];omega
   | some x=>
    cases lo'<;>simp only [OR]at h1;simp only [ba]at hb;obtain⟨l0,hl0,hb⟩:=hb;obtain⟨hl1,hl2⟩:=xw (Q:=Q) h1 hl0 (aq _) .sliceB w;simp at hb;obtain⟨rfl,rfl,rfl⟩:=hb;simp [Instr.sliceBounds,hh2,hl2];omega
theorem gY{t e:TypeId}{sz:Nat}(hu:Q.underlying t=some (.slice e))(hsz:dX Q e sz=true){a:Option Addr}{len cap:Nat}{lo hi mx:Option Value}{l h m:Nat}{w:World}
  (hb:(Instr.sliceBounds true len cap lo hi mx).run Q w=.ok (l,h,m) w) :
  (Instr.sliceAt t (.slice a len cap) lo hi mx).run Q w=.ok (.slice (if m=l then a else a.map (·.add (l*sz))) (h-l) (m-l)) w:=by
 simp [Instr.sliceAt,Instr.slice,aV hu,hb,dJ hsz]
theorem CP{t e:TypeId}{sz:Nat}(hu:Q.underlying t=some (.slice e))(hsz:dX Q e sz=true){x:V}{u:Value}(hx:VR σ X x u)
  {lo hi mx:Option V} {lo' hi' mx':Option Value} (h1:OR X σ lo lo') (h2:OR X σ hi hi') (h3:OR X σ mx mx') {v:V} (h:jm X.H sz x lo hi mx=some v) :
  ∃ r,(Instr.sliceAt t u lo' hi' mx').run Q X.w=.ok r X.w∧VR σ X v r:=by
 unfold jm at h;split at h
 ·
  split at h
  ·rename_i r hb;obtain⟨l,hh,m⟩:=r;simp only [aa]at h;subst h;cases (hx:FCR σ X.F X.w .au u);obtain⟨h4,h5,h6,h7⟩:=fF (Q:=Q) h1 h2 h3 hb (aq 0) (aq 0) true X.w;refine⟨_,gY hu hsz h4,?_⟩;have:l=0∧hh=0∧m=0:=by omega
   obtain⟨rfl,rfl,rfl⟩:=this;simp;exact FCR.au
  ·simp at h
 ·split at h
  ·rename_i r hb;obtain⟨l,hh,m⟩:=r;simp only [aa]at h;subst h;cases (hx:FCR σ X.F X.w .es u);obtain⟨h4,h5,h6,h7⟩:=fF (Q:=Q) h1 h2 h3 hb (aq 0) (aq 0) true X.w;refine⟨_,gY hu hsz h4,?_⟩;have:l=0∧hh=0∧m=0:=by omega
   obtain⟨rfl,rfl,rfl⟩:=this;simp;exact FCR.es _
  ·simp at h
 ·
  rename_i cs n;split at h
  ·rename_i l hh m hb
   have hx':(∃(c o cap:Nat) (us:List Value),n≤cap∧us.length=cs.length∧(∀ i,i<cs.length→X.F c (o+i))∧(∀(i:Nat) u,us[i]?=some u→X.w.cell? ⟨c,o+i,none⟩=some u) ∧
     (∀(i:Nat) x u,cs[i]?=some x→us[i]?=some u→FCR σ X.F X.w x u)∧u=.slice (some ⟨c,o,none⟩) n cap)∨(cs=[]∧n=0∧∃ a cap,u=.slice (some a) 0 cap):=by
    cases (hx:FCR σ X.F X.w (.fs cs n) u)with
    | fs _ _ c o cap us hcap hl hF hc hr=>exact .inl ⟨c,o,cap,us,hcap,hl,hF,hc,hr,rfl⟩
    | fs0 a cap=>exact .inr ⟨rfl,rfl,a,cap,rfl⟩
   rcases hx' with⟨c,o,cap,us,hcap,hl,hF,hc,hr,rfl⟩ | ⟨rfl,rfl,a,cap,rfl⟩
   ·obtain⟨h4,h5,h6,h7⟩:=fF (Q:=Q) h1 h2 h3 hb hcap (aq n) true X.w;split at h
    ·rename_i hc2;simp only [aa]at h;subst h;rw [if_pos hc2.1]at h4;obtain⟨_,rfl⟩:=hc2;refine⟨_,gY hu hsz h4,?_⟩;rw [show hh-m=0 by omega,show m-m=0 by omega,if_pos rfl]
     exact FCR.es _
    ·simp only [aa]at h;subst h;refine⟨_,gY hu hsz h4,?_⟩;generalize hM:(if mx.isSome=true then m else cap)=M
     have hM':hh≤M:=by rw [←hM];split<;>omega
     by_cases hml:M=l
     ·rw [if_pos hml,show hh-l=0 by omega];simp;exact FCR.fs0 _ _
     ·rw [if_neg hml];simp only [bz,gu];refine FCR.fs _ _ c (o+l*sz) _ ((us.drop (l*sz)).take ((hh-l)*sz)) (by omega) (by simp [hl]) (fun i hi=>?_) (fun i u hu=>?_) (fun i x u hx hu=>?_)
      ·have:=hF (l*sz+i) (by simp at hi;omega);rwa [show o+(l*sz+i)=o+l*sz+i by omega]at this
      ·rw [bE]at hu;split at hu
       ·rw [aM]at hu;have:=hc _ u hu;rwa [show o+(l*sz+i)=o+l*sz+i by omega]at this
       ·simp at hu
      ·rw [bE]at hu hx;split at hu
       ·rename_i hi;rw [if_pos hi]at hx;rw [aM]at hu hx;exact hr _ x u hx hu
       ·simp at hu
   ·obtain⟨h4,h5,h6,h7⟩:=fF (Q:=Q) h1 h2 h3 hb (Nat.zero_le cap) (aq 0) true X.w;have:l=0∧hh=0∧m=0:=by omega
    obtain⟨rfl,rfl,rfl⟩:=this;refine⟨_,gY hu hsz h4,?_⟩;split at h
    ·rename_i hc2;simp only [aa]at h;subst h;simp [hc2.1];exact FCR.es _
    ·simp only [aa]at h;subst h;have ho:∀ M,∃ a',(if M=0 then some a else Option.map (fun(x:Addr)=>x.add (0*sz)) (some a))=some a':=by intro M;split<;>exact⟨_,rfl⟩
     obtain⟨a',ha'⟩:=ho (if mx.isSome=true then 0 else cap)
     rw [ha'];simp;exact FCR.fs0 _ _
  ·simp at h
 ·
  rename_i b o n cap ep s;simp only [VR,VR1,CR,CR1]at hx;split at h
  ·rename_i hb0;rw [hb0]at hx;obtain⟨L,hL,hcap,rfl⟩:=hx;split at h
   ·rename_i l hh m hb;obtain⟨h4,h5,h6,h7⟩:=fF (Q:=Q) h1 h2 h3 hb (aq cap) hcap true X.w
    have hm:(if mx.isSome=true then m else cap)=m:=by
     split
     ·rfl
     ·rename_i hn
      cases mx with
      | some _=>simp at hn
      | none=>unfold dh at hb;cases hi<;>cases lo<;>simp [ba]at hb<;>omega
    rw [hm]at h4;refine⟨_,gY hu hsz h4,?_⟩;split at h
    ·rename_i hml;simp only [aa]at h;subst h;rw [if_pos hml,show hh-l=0 by omega,show m-l=0 by omega]
     exact FCR.es _
    ·rename_i hml;simp only [aa]at h;subst h;rw [if_neg hml];simp only [bz,gu,VR,VR1,CR,CR1,hb0];exact⟨L,hL,by omega,rfl⟩
   ·simp at h
  ·rename_i s' cs fl e st hb0;rw [hb0]at hx;split at h
   ·rename_i hc;obtain⟨rfl,rfl,rfl⟩:=hc;have hx2:=hx.2.1 rfl rfl
    cases st with
    | loc=>
     obtain⟨L,hL,k,rfl,hk,rfl⟩:=hx2;simp only at h;split at h
     ·rename_i l hh m hb;obtain⟨h4,h5,h6,h7⟩:=fF (Q:=Q) h1 h2 h3 hb (show n≤L.cap-k by omega) (aq n) true X.w
      refine⟨_,gY hu hsz h4,?_⟩;generalize hM:(if mx.isSome=true then m else L.cap-k)=M
      have hM':hh≤M:=by rw [←hM];split<;>omega
      split at h
      ·rename_i hc2;simp only [aa]at h;subst h;rw [if_pos hc2.1]at hM;subst hM;obtain⟨_,rfl⟩:=hc2;rw [show hh-m=0 by omega,show m-m=0 by omega,if_pos rfl]
       exact FCR.es _
      ·split at h
       ·rename_i hc2;simp only [aa]at h;subst h;rw [show hh-l=0 by omega]
        have ho:∃ a',(if M=l then some (⟨L.c,k*s',none⟩:Addr)else Option.map (fun(x:Addr)=>x.add (l*s')) (some ⟨L.c,k*s',none⟩))=some a':=by split<;>exact⟨_,rfl⟩
        obtain⟨a',ha'⟩:=ho;rw [ha'];exact FCR.fs0 _ _
       ·rename_i hc3;split at h
        ·simp at h
        ·rename_i hn;simp only [aa]at h;subst h;rw [if_neg hn]at hM
         have aMS:(if M=l then some (⟨L.c,k*s',none⟩:Addr)else Option.map (fun(x:Addr)=>x.add (l*s')) (some ⟨L.c,k*s',none⟩))=some ⟨L.c,k*s'+l*s',none⟩:=by
          split
          ·have:l=0:=by omega
           subst this;simp
          ·simp [gu]
         rw [aMS];simp only [VR,VR1,CR,CR1,hb0];refine⟨aq _,fun _ _=>⟨L,hL,k+l,by rw [bN],by omega,by rw [←hM];congr 1;omega⟩,_,_,_,rfl⟩
     ·simp at h
    | nil=>
     obtain⟨rfl,rfl,rfl⟩:=hx2;simp only at h;split at h
     ·rename_i r hb;obtain⟨l,hh,m⟩:=r;simp only [aa]at h;subst h;obtain⟨h4,h5,h6,h7⟩:=fF (Q:=Q) h1 h2 h3 hb (aq 0) (aq 0) true X.w;refine⟨_,gY hu hsz h4,?_⟩;have:l=0∧hh=0∧m=0:=by omega
      obtain⟨rfl,rfl,rfl⟩:=this;simp;exact FCR.au
     ·simp at h
    | es=>
     obtain⟨rfl,rfl,a,rfl⟩:=hx2;simp only at h;split at h
     ·rename_i r hb;obtain⟨l,hh,m⟩:=r;simp only [aa]at h;subst h;obtain⟨h4,h5,h6,h7⟩:=fF (Q:=Q) h1 h2 h3 hb (aq 0) (aq 0) true X.w;refine⟨_,gY hu hsz h4,?_⟩;have:l=0∧hh=0∧m=0:=by omega
      obtain⟨rfl,rfl,rfl⟩:=this;simp;exact FCR.es _
     ·simp at h
   ·simp at h
  ·simp at h
 ·simp at h
end
section
variable{Q:Program}{σ:Nat→FuncId}{X:Wd}
theorem PG{t:TypeId}(hu:Q.underlying t=some .string){x:V}{u:Value}(hx:VR σ X x u){lo hi:Option V}{lo' hi':Option Value}(h1:OR X σ lo lo')(h2:OR X σ hi hi')
  {v:V} (h:zq x lo hi=some v) (w:World):∃ r,(Instr.sliceAt t u lo' hi' none).run Q w=.ok r w∧VR σ X v r:=by
 unfold zq at h;split at h
 ·rename_i s;have:=VR.str hx;subst this;split at h
  ·rename_i l hh m hb;simp only [aa]at h;subst h;obtain⟨h4,_⟩:=fF (Q:=Q) (mx:=none) (mx':=none) h1 h2 trivial hb (aq _) (aq _) false w;exact⟨.string (s.extract l hh),by simp [Instr.sliceAt,Instr.slice,aV hu,h4],VR.mkStr _⟩
  ·simp at h
 ·simp at h
theorem PK(hS:SR Q σ X){t e:TypeId}{n sz:Nat}(hu:Q.underlying t=some (.array n e))(hsz:dX Q e sz=true){x:V}{u:Value}(hx:VR σ X x u)
  {lo hi mx:Option V} {lo' hi' mx':Option Value} (h1:OR X σ lo lo') (h2:OR X σ hi hi') (h3:OR X σ mx mx') {v:V} (h:nR X.H n sz x lo hi mx=some v) :
  ∃ r,(Instr.sliceAt t u lo' hi' mx').run Q X.w=.ok r X.w∧VR σ X v r:=by
 have run:∀(a:Addr) l hh m,(Instr.sliceBounds false n n lo' hi' mx').run Q X.w=.ok (l,hh,m) X.w →
   (Instr.sliceAt t (.pointer (some a)) lo' hi' mx').run Q X.w=.ok (.slice (some (if m=l then a else a.add (l*sz))) (hh-l) (m-l)) X.w:=by
  intro a l hh m hb;simp [Instr.sliceAt,aV hu,Instr.sureAddr,hb,dJ hsz]
 have mm:∀ {l hh m:Nat},dh n n lo hi mx=some (l,hh,m)→(if mx.isSome=true then m else n)=m:=by
  intro l hh m hb;split
  ·rfl
  ·rename_i hn
   cases mx with
   | some _=>simp at hn
   | none=>unfold dh at hb;cases hi<;>cases lo<;>simp [ba]at hb<;>omega
 unfold nR at h;split at h
 ·rename_i b off ep;obtain⟨L,hL,hx⟩:=hx;split at h
  ·rename_i cs fl hb0;rw [hb0]at hx;simp only at hx;subst hx;split at h
   ·rename_i l hh m hb;obtain⟨h4,h5,h6,h7⟩:=fF (Q:=Q) h1 h2 h3 hb (aq n) (aq n) false X.w;rw [mm hb]at h4;split at h
    ·refine⟨_,run _ _ _ _ h4,?_⟩;split at h
     ·rename_i hml;simp only [aa]at h;subst h;rw [if_pos hml,show hh-l=0 by omega,show m-l=0 by omega]
      exact FCR.es _
     ·rename_i hml;simp only [aa]at h;subst h;rw [if_neg hml];simp only [gu,VR,VR1,CR,CR1,hb0];exact⟨L,hL,by omega,rfl⟩
    ·simp at h
   ·simp at h
  ·simp at h
 ·rename_i cs off
  cases (hx:FCR σ X.F X.w (.fp cs off) u)with
  | fp _ _ c o us hl hF hc hr=>
   split at h
   ·rename_i l hh m hb;obtain⟨h4,h5,h6,h7⟩:=fF (Q:=Q) h1 h2 h3 hb (aq n) (aq n) false X.w;rw [mm hb]at h4;split at h
    ·refine⟨_,run _ _ _ _ h4,?_⟩;split at h
     ·rename_i hml;simp only [aa]at h;subst h;rw [if_pos hml,show hh-l=0 by omega,show m-l=0 by omega]
      exact FCR.es _
     ·rename_i hml;simp only [aa]at h;subst h;rw [if_neg hml,gu];refine FCR.fs _ _ c (o+off+l*sz) _ ((us.drop (off+l*sz)).take ((hh-l)*sz)) (by omega) (by simp [hl]) (fun i hi=>?_) (fun i u hu=>?_) (fun i x u hx hu=>?_)
      ·have:=hF (off+l*sz+i) (by simp at hi;omega);rwa [show o+(off+l*sz+i)=o+off+l*sz+i by omega]at this
      ·rw [bE]at hu;split at hu
       ·rw [aM]at hu;have:=hc _ u hu;rwa [show o+(off+l*sz+i)=o+off+l*sz+i by omega]at this
       ·simp at hu
      ·rw [bE]at hu hx;split at hu
       ·rename_i hi;rw [if_pos hi]at hx;rw [aM]at hu hx;exact hr _ x u hx hu
       ·simp at hu
    ·simp at h
   ·simp at h
 ·simp at h
theorem L8{t:TypeId}{fs:Array Field}(hu:Q.underlying t=some (.struct fs)){i:Nat}{f:Field}(hf:fs[i]?=some f)(hz:(Q.info? f.type).any (fun i=>i.size != 0)=true)
  {x:V} {u:Value} (hx:VR σ X x u) {v:V} (h:kS f.offset x=some v) (w:World):∃ r,(Instr.fieldAt t u i).run Q w=.ok r w∧VR σ X v r:=by
 have run:∀ a:Addr,(Instr.fieldAt t (.pointer (some a)) i).run Q w=.ok (.pointer (some (a.add f.offset))) w:=by
  intro a
  cases hi:Q.info? f.type with
  | none=>simp [hi]at hz
  | some inf=>
   simp [hi]at hz;simp [Instr.fieldAt,aV hu,hf,Instr.sureAddr,fieldPlace,Go.sizeOf,typeInfo,hi,hz]
 unfold kS at h;split at h
 ·rename_i b o ep;simp only [aa]at h;subst h;obtain⟨L,hL,hx⟩:=hx;split at hx
  ·rename_i hb0;subst hx;exact⟨_,run _,L,hL,by rw [hb0,gu]⟩
  ·rename_i s cs fl e hb0;obtain⟨h2,h3,a,rfl⟩:=hx;refine⟨_,run _,L,hL,?_⟩;rw [hb0];refine⟨h2,fun he=>?_,_,rfl⟩
   have:=h3 he;simp only [Value.pointer.injEq,aa]at this;rw [this,gu]
  ·exact hx.elim
 ·rename_i cs o;simp only [aa]at h;subst h
  cases (hx:FCR σ X.F X.w (.fp cs o) u)with
  | fp _ _ c o' us hl hF hc hr=>
   refine⟨_,run _,?_⟩;rw [gu,Nat.add_assoc];exact FCR.fp cs _ c o' us hl hF hc hr
 ·simp at h
theorem LP{t e:TypeId}{sz:Nat}{arr:Option Nat}(hsz:dX Q e sz=true)
  (hu:(arr=none∧Q.underlying t=some (.slice e))∨∃ n,arr=some n∧Q.underlying t=some (.array n e)) {x i:V} {u j:Value} (hx:VR σ X x u) (hi:VR σ X i j)
  {v:V} (h:aO X.H sz arr x i=some v):∃ r,(Instr.indexAt t u j).run Q X.w=.ok r X.w∧VR σ X v r:=by
 unfold aO at h;split at h
 ·simp at h
 rename_i k hk;obtain⟨kk,rfl⟩:=kR hi hk;split at h
 ·rename_i h0
  have aEI:arr=none→∀(a:Addr) (l c:Nat),k<l→(Instr.indexAt t (.slice (some a) l c) (.int kk k)).run Q X.w=.ok (.pointer (some (a.add (k.toNat*sz)))) X.w:=by
   intro ha a l c hl;rcases hu with⟨_,hu⟩ | ⟨n,hn,_⟩
   ·simp [Instr.indexAt,asIntOf,aV hu,h0,hl,dJ hsz]
   ·rw [ha]at hn;simp at hn
  have aEJ:∀ n,arr=some n→∀(a:Addr),k<n→(Instr.indexAt t (.pointer (some a)) (.int kk k)).run Q X.w=.ok (.pointer (some (a.add (k.toNat*sz)))) X.w:=by
   intro n ha a hl;rcases hu with⟨hn,_⟩ | ⟨n',hn,hu⟩
   ·rw [ha]at hn;simp at hn
   ·rw [ha]at hn;simp only [aa]at hn;subst hn;simp [Instr.indexAt,asIntOf,aV hu,Instr.sureAddr,h0,hl,dJ hsz]
  split at h
  ·rename_i b o l c ep s;split at h
   ·rename_i hl;simp only [VR,VR1,CR,CR1]at hx;split at h
    ·rename_i hb0;rw [hb0]at hx;obtain⟨L,hL,_,rfl⟩:=hx;simp only [aa]at h;subst h;exact⟨_,aEI rfl _ _ _ hl,L,hL,by rw [hb0,gu]⟩
    ·rename_i s' cs fl e' hb0;rw [hb0]at hx;split at h
     ·rename_i hc;simp only [aa]at h;subst h;obtain⟨L,hL,kq,_,_,rfl⟩:=hx.2.1 hc.1 hc.2;exact⟨_,aEI rfl _ _ _ hl,L,hL,by rw [hb0,gu];exact⟨hx.1,fun _=>rfl,_,rfl⟩⟩
     ·simp at h
    ·simp at h
   ·simp at h
  ·rename_i cs l;split at h
   ·rename_i hl;simp only [aa]at h;subst h
    cases (hx:FCR σ X.F X.w (.fs cs l) u)with
    | fs _ _ c o cap us hcap hl' hF hc hr=>
     refine⟨_,aEI rfl _ _ _ hl,?_⟩
     rw [gu];exact FCR.fp cs _ c o us hl' hF hc hr
    | fs0 a cap=>simp at hl;omega
   ·simp at h
  ·rename_i n b o ep;split at h
   ·rename_i hl;simp only [aa]at h;subst h;obtain⟨L,hL,hx⟩:=hx;split at hx
    ·rename_i hb0;subst hx;exact⟨_,aEJ n rfl _ hl,L,hL,by rw [hb0,gu]⟩
    ·rename_i s cs fl e' hb0;obtain⟨h2,h3,a,rfl⟩:=hx;refine⟨_,aEJ n rfl _ hl,L,hL,?_⟩;rw [hb0];refine⟨h2,fun he=>?_,_,rfl⟩
     have:=h3 he;simp only [Value.pointer.injEq,aa]at this;rw [this,gu]
    ·exact hx.elim
   ·simp at h
  ·rename_i n cs o;split at h
   ·rename_i hl;simp only [aa]at h;subst h
    cases (hx:FCR σ X.F X.w (.fp cs o) u)with
    | fp _ _ c o' us hl' hF hc hr=>
     refine⟨_,aEJ n rfl _ hl,?_⟩;rw [gu,Nat.add_assoc];exact FCR.fp cs _ c o' us hl' hF hc hr
   ·simp at h
  ·simp at h
 ·simp at h
theorem zf{t:TypeId}{n:Option Nat}(ht:zh Q t n=true){xs:List C}{us:List Value}(h2:A2 (CR σ X) xs us)(off:Nat){v:V}(hv:aS n (xs.drop off)=some v)(w:World) :
  ∃ u,(part t us.toArray off).run Q w=.ok u w∧VR σ X v u:=by
 obtain⟨h3,h4⟩:=NZ ht w
 cases n with
 | none=>
  cases hd:xs.drop off with
  | nil=>rw [hd]at hv;simp [aS]at hv
  | cons x cs=>
   rw [hd]at hv;simp only [aS,aa]at hv;subst hv;obtain⟨u,hu,hxu⟩:=(h2.drop off).get (i:=0) (x:=x) (by rw [hd];rfl)
   have hu':us[off]?=some u:=by simpa [aM]using hu
   exact⟨u,by simp [part,h3,hu'],hxu⟩
 | some n=>
  simp only [aS]at hv;split at hv
  ·simp only [aa]at hv;subst hv;exact⟨.agg ((us.drop off).take n).toArray,by simp [part,h3,dJ (h4 n rfl),cw],_,rfl,(h2.drop off).take n⟩
  ·simp at hv
theorem Qz{t:TypeId}{fs:Array Field}(hu:Q.underlying t=some (.struct fs)){i:Nat}{f:Field}(hf:fs[i]?=some f){n:Option Nat}(hn:zh Q f.type n=true)
  {x:V} {u:Value} (hx:VR σ X x u) {v:V} (h:qY f.offset n x=some v) (w:World):∃ r,(Instr.field t u i).run Q w=.ok r w∧VR σ X v r:=by
 unfold qY at h;split at h
 ·obtain⟨us,rfl,h2⟩:=hx;obtain⟨r,h3,h4⟩:=zf hn h2 f.offset h w;exact⟨r,by simp [Instr.field,aV hu,hf,asAgg,h3],h4⟩
 ·simp at h
theorem Wn{t e:TypeId}{len sz:Nat}(hu:Q.underlying t=some (.array len e))(hsz:dX Q e sz=true){n:Option Nat}(hn:zh Q e n=true)
  {x i:V} {u j:Value} (hx:VR σ X x u) (hi:VR σ X i j) {v:V} (h:vk len sz n x i=some v) (w:World):∃ r,(Instr.index t u j).run Q w=.ok r w∧VR σ X v r:=by
 unfold vk at h;split at h
 ·rename_i xs k hk;obtain⟨kk,rfl⟩:=kR hi hk;split at h
  ·rename_i hc;obtain⟨us,rfl,h2⟩:=hx;obtain⟨r,h3,h4⟩:=zf hn h2 _ h w;exact⟨r,by simp [Instr.index,asIntOf,aV hu,hc,dJ hsz,h3],h4⟩
  ·simp at h
 ·simp at h
theorem Wj{t:TypeId}(hu:Q.underlying t=some .string){x i:V}{u j:Value}(hx:VR σ X x u)(hi:VR σ X i j){v:V}(h:G5 x i=some v)(w:World) :
  ∃ r,(Instr.index t u j).run Q w=.ok r w∧VR σ X v r:=by
 unfold G5 at h;split at h
 ·rename_i s k hk;obtain⟨kk,rfl⟩:=kR hi hk;have:=VR.str hx;subst this;split at h
  ·rename_i h0;simp only [am]at h;obtain⟨b,hb,rfl⟩:=h;exact⟨_,by simp [Instr.index,asIntOf,aV hu,h0,hb],VR.mkInt _ _⟩
  ·simp at h
 ·simp at h
end
section
variable{Q:Program}{σ:Nat→FuncId}{X:Wd}
theorem A2.over{α β:Type}{R:α→β→Prop}{cs xs:List α}{us vs:List β}(h:A2 R cs us)(h':A2 R xs vs)(off:Nat):A2 R (over cs off xs) (over us off vs):=by
 unfold Km.over;rw [h'.len];exact((h.take off).append h').append (h.drop _)
theorem Gw{α:Type}(cs:List α)(off:Nat)(xs:List α)(h:off+xs.length≤cs.length):(over cs off xs).length=cs.length:=by
 simp [over];omega
theorem G7(off:Nat):∀(vs:List Value) (k:Nat) (cells:List Value),off+k+vs.length≤cells.length →
  ((vs.zipIdx k).foldl (fun(cs:Array Value) p=>cs.setIfInBounds (off+p.2) p.1) cells.toArray)=(over cells (off+k) vs).toArray
 | [],k,cells,_=>by simp [over]
 | v::vs,k,cells,h=>by
  simp only [List.zipIdx_cons,cm];have h1:cells.toArray.setIfInBounds (off+k) v=(cells.set (off+k) v).toArray:=by simp
  rw [h1,G7 off vs (k+1) _ (by simp at h ⊢;omega)]
  congr 1
  unfold over;simp only [bt]at h ⊢;rw [List.take_set,List.drop_set_of_lt (by omega),show off+(k+1)=off+k+1 by omega,show off+k+1+vs.length=off+k+(vs.length+1) by omega]
  rw [aD (by omega)]
  have hl:(List.take (off+k) cells).length=off+k:=by simp;omega
  have e:(List.take (off+k) cells++[cells[off+k]]).set (off+k) v=List.take (off+k) cells++[v]:=by
   rw [List.set_append,if_neg (by omega),hl];simp
  rw [e];simp
theorem cells_ok{x:V}{u:Value}(hx:VR σ X x u){xs:List C}(h:x.cells?=some xs):∃ us,u.cells=us.toArray∧A2 (CR σ X) xs us:=by
 unfold V.cells? at h;split at h
 ·rename_i x;simp only [aa]at h;subst h;have h1:=CR.one σ hx;refine⟨[u],?_,A2.cons hx A2.nil⟩;cases u<;>simp_all [Value.cells,Value.oneCell']
 ·simp only [aa]at h;subst h;obtain⟨us,rfl,h⟩:=hx;exact⟨us,rfl,h⟩
 ·simp at h
theorem rZ{a:Act}{regs:T}(hR:RR σ X regs a.tmps){place:Nat→Option (Nat × Nat)}:∀ {qs:List (Nat × Nat × Arg)} {ps:List (Nat × Operand)},
  A2 (fun(q:Nat × Nat × Arg) (p:Nat × Operand)=>place p.1=some (q.1,q.2.1)∧mA σ q.2.2 p.2=true) qs ps→∀ {cs cs':List C} {us:List Value},A2 (CR σ X) cs us →
  eF regs cs qs=some cs'→∃ us',Instr.fill place us.toArray (ps.map fun p=>(p.1,a.eval p.2))=some us'.toArray∧A2 (CR σ X) cs' us'
 | [],[],_,cs,cs',us,h,hp=>by
  simp only [eF,aa]at hp;subst hp
  exact⟨us,rfl,h⟩
 | [],_::_,hq,_,_,_,_,_=>by have:=hq.len;simp at this
 | _::_,[],hq,_,_,_,_,_=>by have:=hq.len;simp at this
 | (off,n,x)::qs,(i,y)::ps,hq,cs,cs',us,h,hp=>by
  obtain⟨⟨h1,h2⟩,hq'⟩:=hq.of_cons;simp only at h1 h2;simp only [eF]at hp;split at hp
  ·rename_i xs hxs;split at hp
   ·rename_i hc;obtain⟨vs,hv,hxv⟩:=cells_ok (bH hR h2) hxs;obtain⟨us',h3,h4⟩:=rZ hR hq' (h.over hxv off) hp;refine⟨us',?_,h4⟩;have hl:=hxv.len;have hlu:=h.len;simp only [List.map_cons,Instr.fill,h1,hv];rw [if_neg (by simp;omega)]
    rw [←h3]
    congr 1
    have:=G7 off vs 0 us (by omega)
    simp only [Nat.add_zero]at this;rw [←this];simp [←Array.foldl_toList]
   ·simp at hp
  ·simp at hp
theorem gV{t:TypeId}{zs:List FC}(h:nX Q t zs=true)(w:World):∃ z us,(zeroValue t).run Q w=.ok z w∧z.cells=us.toArray∧A2 (CR σ X) (zs.map .f) us ∧
  ∃ i,Q.info? t=some i∧i.zero=some z:=by
 unfold nX at h
 cases hi:Q.info? t with
 | none=>simp [hi]at h
 | some i=>
  simp only [hi,Option.any_some]at h;split at h
  ·rename_i z hz;refine⟨z,z.cells.toList,by simp [zeroValue,typeInfo,hi,hz],by simp,A2.map ((gQ h).weak fun x u hxu=>Ll hxu),i,rfl,hz⟩
  ·simp at h
end
section
variable{Q:Program}{σ:Nat→FuncId}{X:Wd}
theorem pF{ck:CK}{t:TypeId}(h:Qg Q ck t=true):(ck=.int∧∃ j,Q.underlying t=some (.int j))∨(ck=.str∧Q.underlying t=some .string)∨(ck=.bool∧Q.underlying t=some .bool):=by
 unfold Qg at h;split at h
 ·exact .inl ⟨rfl,_,by assumption⟩
 ·exact .inr (.inl ⟨rfl,by assumption⟩)
 ·exact .inr (.inr ⟨rfl,by assumption⟩)
 ·simp at h
theorem Ah{ck:CK}{d:TypeDesc}(hd:(ck=.int∧∃ j,d=.int j)∨(ck=.str∧d=.string)∨(ck=.bool∧d=.bool)){F:Nat→Nat→Prop}{w:World}{x y:FC}{u v:Value}
  (hx:FCR σ F w x u) (hy:FCR σ F w y v) {b:Bool} (h:eqK ck x y=some b):Instr.sameNow d u v=some b:=by
 unfold eqK at h;split at h
 ·cases hx;cases hy;rcases hd with⟨_,j,rfl⟩ | ⟨h1,_⟩ | ⟨h1,_⟩
  ·simpa [Instr.sameNow]using h
  ·cases h1
  ·cases h1
 ·cases hx;cases hy;rcases hd with⟨h1,_⟩ | ⟨_,rfl⟩ | ⟨h1,_⟩
  ·cases h1
  ·simpa [Instr.sameNow]using h
  ·cases h1
 ·cases hx;cases hy;rcases hd with⟨h1,_⟩ | ⟨h1,_⟩ | ⟨_,rfl⟩
  ·cases h1
  ·cases h1
  ·simpa [Instr.sameNow]using h
 ·simp at h
theorem CX{ck:CK}{d:TypeDesc}(hd:(ck=.int∧∃ j,d=.int j)∨(ck=.str∧d=.string)∨(ck=.bool∧d=.bool)){F:Nat→Nat→Prop}{w:World}{k:FC}{kv:Value}(hk:FCR σ F w k kv) :
  ∀ {R:C→Value→Prop} {es:List (FC × C)} {arr:List MapEntry},A2 (fun e m=>FCR σ F w e.1 m.key∧R e.2 m.val) es arr→∀ {r:Option C} (i:Nat),qM ck k es=some r →
  match r with
  | none=>Instr.findNow d kv arr i=some none
  | some x=>∃ j u,Instr.findNow d kv arr i=some (some (j,u))∧R x u
 | _,[],[],_,r,i,h=>by
  simp only [qM,aa]at h;subst h;rfl
 | _,[],_::_,hq,_,_,_=>by have:=hq.len;simp at this
 | _,_::_,[],hq,_,_,_=>by have:=hq.len;simp at this
 | _,e::es,m::arr,hq,r,i,h=>by
  obtain⟨⟨h1,h2⟩,hq'⟩:=hq.of_cons;simp only [qM]at h;split at h
  ·rename_i he;simp only [aa]at h;subst h;exact⟨i,m.val,by simp [Instr.findNow,Ah hd hk h1 he],h2⟩
  ·rename_i he;have:=CX hd hk hq' (i+1) h
   cases r with
   | none=>simpa [Instr.findNow,Ah hd hk h1 he]using this
   | some x=>obtain⟨j,u,h3,h4⟩:=this;exact⟨j,u,by simp [Instr.findNow,Ah hd hk h1 he,h3],h4⟩
  ·simp at h
theorem jV{ck:CK}{t:TypeId}(h:Qg Q ck t=true){k:FC}{F:Nat→Nat→Prop}{w0:World}{kv:Value}(hk:FCR σ F w0 k kv)(hi:isKey ck k=true)(b:Bool)(w:World) :
  (Instr.checkKey b 10000 t kv).run Q w=.ok () w:=by
 have:∀ n,(Instr.checkKey b (n+1) t kv).run Q w=.ok () w:=by
  intro n;rcases pF h with⟨rfl,j,hu⟩ | ⟨rfl,hu⟩ | ⟨rfl,hu⟩<;>cases hk<;>simp_all [isKey,Instr.checkKey,aV hu]
 exact this 9999
theorem LG{z:FC}{r:Option C}{u:Value}{ok:Bool}(hok:ok=(yF z).isSome)(h:VR1 σ X ((r.map mV).getD (zV ((yF z).getD z))) u):VR σ X (lkR z r) (if ok=true then .tuple #[u,.bool r.isSome]else u):=by
 unfold lkR
 cases hz:yF z with
 | none=>rw [hz]at h hok;subst hok;exact VR.of1 σ h
 | some z0=>rw [hz]at h hok;subst hok;exact⟨[u,.bool r.isSome],rfl,A2.cons h (A2.cons (FCR.bool _) A2.nil)⟩
theorem Qk(hS:SR Q σ X){t kt e:TypeId}{ck:CK}(hu:Q.underlying t=some (.map kt e))(hk:Qg Q ck kt=true){z:FC}{ok:Bool}(hok:ok=(yF z).isSome)(hz:nX Q e (wF ((yF z).getD z))=true)
  (hze:(Q.info? e).any (fun i=>i.zero.any fun u=>if JL ((yF z).getD z)then aJq u else aH1 u)=true) {m k:V} {um uk:Value} (hm:VR σ X m um) (hkk:VR σ X k uk) {v:V} (h:jv X.H ck z m k=some v) :
  ∃ u,(Instr.lookup t um uk ok).run Q X.w=.ok u X.w∧VR σ X v u:=by
 obtain⟨zv,zs,hz1,hz2,hz3,i0,hi0,hi1⟩:=gV (σ:=σ) (X:=X) hz X.w
 have hzv:VR1 σ X (zV ((yF z).getD z)) zv:=by
  simp only [hi0,Option.any_some,hi1]at hze;generalize (yF z).getD z=z0 at *
  cases ha:JL z0 with
  | true=>
   rw [aEh ha];simp only [ha,if_true]at hze
   cases zv with
   | agg cs=>exact⟨zs,by simp only [Value.cells]at hz2;rw [hz2],hz3⟩
   | _=>simp [aJq]at hze
  | false=>
   obtain⟨e1,e2⟩:=aEg ha;rw [e1];rw [e2]at hz3;simp only [ha,aw,if_false]at hze;obtain⟨u,hu1,hu2⟩:=hz3.get (i:=0) (x:=.f z0) rfl;have hl:=hz3.len
   have hzs:zs=[u]:=by
    match zs,hl,hu1 with
    | [y],_,h=>simp at h;rw [h]
   subst hzs
   cases zv with
   | agg cs=>simp [aH1]at hze
   | _=>simp only [Value.cells]at hz2;have:=congrArg Array.toList hz2;simp at this;subst this;exact hu2
 unfold jv at h;split at h
 ·rename_i kc;split at h
  ·rename_i hik;simp only [aa]at h;subst h;cases (hm:FCR σ X.F X.w .BX um);refine⟨if ok=true then .tuple #[zv,.bool false]else zv,?_,LG (r:=none) hok hzv⟩
   rcases pF hk with⟨_,j,hku⟩ | ⟨_,hku⟩ | ⟨_,hku⟩ <;>
    simp [Instr.lookup,aV hu,jV hk hkk hik,Instr.findKey,aV hku,Instr.findNow,hz1]
  ·simp at h
 ·rename_i b kc;split at h
  ·rename_i es hb;split at h
   ·rename_i hik;simp only [am]at h;obtain⟨r,hr,rfl⟩:=h;obtain⟨L,hL,_,rfl⟩:=hm;obtain⟨_,_,blk,hb',hbr⟩:=hS.br b L hL;rw [hb]at hb';simp only [aa]at hb';subst hb';obtain⟨arr,h1,h2,_⟩:=hbr
    have go:∀ d,Q.underlying kt=some d→((ck=.int∧∃ j,d=.int j)∨(ck=.str∧d=.string)∨(ck=.bool∧d=.bool))→∃ u,(Instr.lookup t (.map (some L.c)) uk ok).run Q X.w=.ok u X.w∧VR σ X (lkR z r) u:=by
     intro d hku hd;have h3:=CX (R:=fun c u=>VR1 σ X (mV c) u) hd hkk h2 0 hr
     cases r with
     | none=>
      refine⟨if ok=true then .tuple #[zv,.bool false]else zv,?_,LG (r:=none) hok hzv⟩
      simp [Instr.lookup,aV hu,getObj,Sem.run,h1,jV hk hkk hik,Instr.findKey,aV hku,h3,hz1]
     | some x=>
      obtain⟨j,u,h4,h5⟩:=h3;refine⟨if ok=true then .tuple #[u,.bool true]else u,?_,LG (r:=some x) hok h5⟩
      simp [Instr.lookup,aV hu,getObj,Sem.run,h1,jV hk hkk hik,Instr.findKey,aV hku,h4]
    rcases pF hk with⟨h4,j,hku⟩ | ⟨h4,hku⟩ | ⟨h4,hku⟩
    ·exact go _ hku (.inl ⟨h4,j,rfl⟩)
    ·exact go _ hku (.inr (.inl ⟨h4,rfl⟩))
    ·exact go _ hku (.inr (.inr ⟨h4,rfl⟩))
   ·simp at h
  ·simp at h
 ·simp at h
end
section
variable{Q:Program}{σ:Nat→FuncId}{X:Wd}
theorem fQ{s:Sem Value}{u:Value}{w w':World}(h:s.run Q w=.ok u w'):(do pure (Next.value (←s)):Sem Next).run Q w=.ok (.value u) w':=by simp [h]
theorem yw{a:Act}{regs:T}(hR:RR σ X regs a.tmps){x:Option Arg}{y:Option Operand}(h:mO σ x y=true):OR X σ (x.map (·.ev regs)) (y.map a.eval):=by
 rcases aMg hR h with⟨rfl,rfl⟩ | ⟨x',y',rfl,rfl,hv⟩
 ·trivial
 ·exact hv
theorem jP{t:TypeId}{p:TypeId→Bool}(h:(rC Q t).any p=true):∃ e,Q.underlying t=some (.slice e)∧p e=true:=by
 unfold rC at h;split at h
 ·exact⟨_,by assumption,by simpa using h⟩
 ·simp at h
theorem oq{x:C}{u:Value}(hx:CR σ X x u){l:Nat}(h:bV X.H x=some l):∃ a c,u=.slice a l c:=by
 unfold bV at h;split at h<;>try simp only [aa,reduceCtorEq]at h
 ·simp only [CR,CR1]at hx;split at h
  ·rename_i hb;rw [hb]at hx;obtain⟨L,_,_,rfl⟩:=hx;simp only [aa]at h;subst h;exact⟨_,_,rfl⟩
  ·rename_i s cs fl e st hb;rw [hb]at hx;split at h
   ·rename_i hc;have:=hx.2.1 hc.1 hc.2;simp only [aa]at h;subst h
    cases st with
    | loc=>obtain⟨L,_,k,_,_,rfl⟩:=this;exact⟨_,_,rfl⟩
    | nil=>obtain⟨_,rfl,rfl⟩:=this;exact⟨_,_,rfl⟩
    | es=>obtain⟨_,rfl,a,rfl⟩:=this;exact⟨_,_,rfl⟩
   ·simp at h
  ·simp at h
 ·subst h;cases (hx:FCR σ X.F X.w .au u);exact⟨_,_,rfl⟩
 ·subst h;cases (hx:FCR σ X.F X.w .es u);exact⟨_,_,rfl⟩
 ·subst h;cases (hx:FCR σ X.F X.w (.fs _ _) u)<;>exact⟨_,_,rfl⟩
theorem oU(hS:SR Q σ X){sz:Nat}{x:C}{u:Value}(hx:CR σ X x u){l:Nat}(hl:bV X.H x=some l){cs:List C}(h:dF X.H sz x=some cs) :
  ∃ us,(Builtin.firstCells sz l u).run Q X.w=.ok us.toArray X.w∧A2 (CR σ X) cs us∧cs.length=l*sz:=by
 have row:∀(c o:Nat) (us:List Value) (cap:Nat),us.length=l*sz→(∀(i:Nat) u,us[i]?=some u→X.w.cell? ⟨c,o+i,none⟩=some u) →
   (Builtin.firstCells sz l (.slice (some ⟨c,o,none⟩) l cap)).run Q X.w=.ok us.toArray X.w:=by
  intro c o us cap hu hc;have:=run_loadCells_list (P:=Q) X.w ⟨c,o,none⟩ us (fun j v hj=>by rw [gu];exact hc j v hj)
  rw [hu]at this;simpa [Builtin.firstCells]using this
 unfold dF at h;split at h<;>try simp only [reduceCtorEq]at h
 ·rename_i b o l' cap ep s;simp only [CR,CR1]at hx;simp only [bV]at hl;split at h
  ·rename_i cs' fl hb;rw [hb]at hx hl;simp only [aa]at hl;subst hl;obtain⟨L,hL,_,rfl⟩:=hx;split at h
   ·rename_i hlen;simp only [aa]at h;subst h;obtain⟨_,_,blk,hb',hbr⟩:=hS.br b L hL;rw [hb]at hb';simp only [aa]at hb';subst hb';obtain⟨us,hr,h2,_⟩:=hbr;have:=h2.len;refine⟨(us.drop o).take (l'*sz),row _ _ _ _ (by simp;omega) (fun i u hu=>?_),(h2.drop o).take _,by simp;omega⟩
    rw [fK hr];rw [bE]at hu;split at hu
    ·rw [aM]at hu;exact hu
    ·simp at hu
   ·simp at h
  ·rename_i s' cs' fl e st hb;rw [hb]at hx hl;split at h
   ·rename_i hc;obtain⟨rfl,rfl,hlen⟩:=hc;simp only [and_self,if_true,aa]at hl;subst hl;simp only [aa]at h;subst h;have hx2:=hx.2.1 rfl rfl
    cases st with
    | loc=>
     obtain⟨L,hL,k,_,_,rfl⟩:=hx2;obtain⟨_,_,blk,hb',hbr⟩:=hS.br b L hL;rw [hb]at hb';simp only [aa]at hb';subst hb';obtain⟨_,us,rest,hr,h2,_⟩:=hbr;have:=h2.len;refine⟨(us.drop o).take (l'*sz),row _ _ _ _ (by simp;omega) (fun i u hu=>?_),(h2.drop o).take _,by simp;omega⟩
     rw [fK hr];rw [bE]at hu;split at hu
     ·rw [aM]at hu;rw [ae (ab.1 hu).1];exact hu
     ·simp at hu
    | nil=>
     obtain⟨rfl,rfl,rfl⟩:=hx2
     exact⟨[],by simp [Builtin.firstCells],by simpa using A2.nil,by simp⟩
    | es=>
     obtain⟨rfl,rfl,a,rfl⟩:=hx2;exact⟨[],by simp [Builtin.firstCells,loadCells,loadCellsFrom],by simpa using A2.nil,by simp⟩
   ·simp at h
  ·simp at h
 ·simp only [aa]at h;subst h;simp only [bV,aa]at hl;subst hl;cases (hx:FCR σ X.F X.w .au u);exact⟨[],by simp [Builtin.firstCells],A2.nil,by simp⟩
 ·simp only [aa]at h;subst h;simp only [bV,aa]at hl;subst hl;cases (hx:FCR σ X.F X.w .es u);exact⟨[],by simp [Builtin.firstCells,loadCells,loadCellsFrom],A2.nil,by simp⟩
 ·rename_i cs' l';simp only [bV,aa]at hl;subst hl;split at h
  ·rename_i hlen;simp only [aa]at h;subst h
   cases (hx:FCR σ X.F X.w (.fs cs' l') u)with
   | fs _ _ c o cap us hcap hl' hF hc hr=>
    exact⟨us,row _ _ _ _ (by omega) hc,A2.map ⟨by omega,hr⟩,by simp;omega⟩
   | fs0 a cap=>exact⟨[],by simp [Builtin.firstCells,loadCells,loadCellsFrom],A2.nil,by simp⟩
  ·simp at h
theorem axd{v:V}{u:Value}(h:VR σ X v u){c:C}(hc:yH v=some c):CR1 σ X c u:=by
 unfold yH at hc;split at hc
 ·simp at hc
 ·simp at hc
 ·rename_i x hn hn';simp only [aa]at hc;subst hc
  cases x with
  | cl f caps=>exact absurd rfl (hn f caps)
  | bm f caps=>exact absurd rfl (hn' f caps)
  | mi b=>exact h
  | f y=>exact h
  | ptr a b c=>exact h
  | sl a b c d e g=>exact h
  | yl b=>exact h
  | mp b=>exact h
  | it b=>exact h
 ·simp at hc
theorem Hy{xs:List V}{us:List Value}(h:A2 (VR σ X) xs us){cs:List C}(hc:bC yH xs=some cs):A2 (CR1 σ X) cs us:=by
 induction xs generalizing us cs with
 | nil=>
  simp only [bC,aa]at hc;subst hc
  match us,h.len with
  | [],_=>exact A2.nil
 | cons x xs ih=>
  match us,h with
  | u::us,h=>
   obtain⟨h1,h2⟩:=h.of_cons;simp only [bC]at hc;split at hc
   ·simp at hc
   ·rename_i y hy;split at hc
    ·simp at hc
    ·rename_i ys hys;simp only [aa]at hc;subst hc
     exact A2.cons (axd h1 hy) (ih h2 hys)
  | [],h=>have:=h.len;simp at this
theorem eH{ρ:Operand→Value}{o:Oper}{c:Call}{b:Builtin}(ho:o.op=.call c)(hb:c.callee=.builtin b){r:Result Next}{w:World}
  (h:∀ cs,(builtin b c.argTypes o.type cs (c.args.map ρ)).run Q w=r):(execOp ρ o).run Q w=r:=by
 simp only [execOp,ho,resolve,hb,Sem.run_bind,Sem.run_pure,Result.andThen_ok,invoke];exact h _
theorem arr1{α:Type}{a:Array α}{x:α}(h:a.toList=[x]):a=#[x]:=by
 apply Array.ext';simp [h]
theorem axi{α:Type}{a:Array α}{x y:α}(h:a.toList=[x,y]):a=#[x,y]:=by
 apply Array.ext';simp [h]
theorem Qh{c:Call}{x:Arg}(h:fB Q σ c (.len x)=true):∃ y t e,c.callee=.builtin .len∧c.args=#[y]∧c.argTypes=#[t]∧mA σ x y=true∧Q.underlying t=some (.slice e):=by
 simp only [fB]at h;split at h
 ·rename_i y t h1 h2 h3;simp only [ag]at h;have:=h.2;split at this
  ·exact⟨y,t,_,h1,arr1 h2,arr1 h3,h.1,by assumption⟩
  ·simp at this
 ·simp at h
theorem Lr{c:Call}{x:Arg}(h:fB Q σ c (.lens x)=true):∃ y t,c.callee=.builtin .len∧c.args=#[y]∧c.argTypes=#[t]∧mA σ x y=true∧Q.underlying t=some .string:=by
 simp only [fB]at h;split at h
 ·rename_i y t h1 h2 h3;simp only [ag]at h;have:=h.2;split at this
  ·exact⟨y,t,h1,arr1 h2,arr1 h3,h.1,by assumption⟩
  ·simp at this
 ·simp at h
theorem Ls{c:Call}{n:Nat}(h:fB Q σ c (.zX n)=true):∃ y t e,c.callee=.builtin .len∧c.args=#[y]∧c.argTypes=#[t]∧Q.underlying t=some (.array n e):=by
 simp only [fB]at h;split at h
 ·rename_i y t h1 h2 h3;split at h
  ·rename_i m e hu;simp only [decide_eq_true_eq]at h;subst h;exact⟨y,t,e,h1,arr1 h2,arr1 h3,hu⟩
  ·simp at h
 ·simp at h
theorem Lp{c:Call}{lo:Bool}{xs:List Arg}(h:fB Q σ c (.sH lo xs)=true):c.callee=.builtin (if lo then .min else .max)∧mAs σ xs c.args=true:=by
 simp only [fB]at h;split at h
 ·rename_i h1;exact⟨h1,h⟩
 ·rename_i h1;exact⟨h1,h⟩
 ·simp at h
theorem VP{lo:Bool}{x y z:V}{u v:Value}(hx:VR σ X x u)(hy:VR σ X y v)(h:Ot lo x y=some z)(w:World):∃ r,(if lo then Builtin.min2 u v else Builtin.max2 u v).run Q w=.ok r w∧VR σ X z r:=by
 unfold Ot at h;split at h
 ·simp only [aa]at h;subst h;have hx:=VR.int hx;have hy:=VR.int hy;subst hx;subst hy;cases lo
  ·exact⟨_,by simp [Builtin.max2],VR.mkInt _ _⟩
  ·exact⟨_,by simp [Builtin.min2],VR.mkInt _ _⟩
 ·simp at h
theorem GK{lo:Bool}(w:World):∀ {ys:List V} {vs:List Value} {x z:V} {u:Value},VR σ X x u→A2 (VR σ X) ys vs→CZ lo x ys=some z→∃ r,(vs.foldlM (fun u v=>if lo then Builtin.min2 u v else Builtin.max2 u v) u).run Q w=.ok r w∧VR σ X z r
 | [],vs,x,z,u,hx,hA,h=>by
  have:vs=[]:=av hA.len.symm;subst this;simp only [CZ,aa]at h;subst h
  exact⟨u,rfl,hx⟩
 | y::ys,[],x,z,u,hx,hA,h=>by have:=hA.len;simp at this
 | y::ys,v::vs,x,z,u,hx,hA,h=>by
  obtain⟨h1,hA⟩:=hA.of_cons;simp only [CZ]at h;split at h
  ·rename_i q hq;obtain⟨r1,g1,g2⟩:=VP (Q:=Q) hx h1 hq w;obtain⟨r,g3,g4⟩:=GK w g2 hA h;exact⟨r,by rw [List.foldlM_cons,Sem.run_bind,g1];exact g3,g4⟩
  ·simp at h
theorem Qi{c:Call}{x:Arg}(h:fB Q σ c (.cap x)=true):∃ y t e,c.callee=.builtin .cap∧c.args=#[y]∧c.argTypes=#[t]∧mA σ x y=true∧Q.underlying t=some (.slice e):=by
 simp only [fB]at h;split at h
 ·rename_i y t h1 h2 h3;simp only [ag]at h;obtain⟨hx,hu⟩:=h;split at hu
  ·rename_i e hu';exact⟨y,t,e,h1,arr1 h2,arr1 h3,hx,hu'⟩
  ·simp at hu
 ·simp at h
theorem UU{x:C}{u:Value}(hx:CR σ X x u){n:Nat}(h:pX X.H x=some n):∃ a l,u=.slice a l n:=by
 cases x with
 | sl b o l c ep sz=>
  simp only [pX]at h;simp only [CR,CR1]at hx;split at h
  ·rename_i hb;rw [hb]at hx;obtain⟨L,_,_,rfl⟩:=hx;simp only [aa]at h;subst h;exact⟨_,_,rfl⟩
  ·rename_i hb;rw [hb]at hx;split at h
   ·rename_i hc;have:=hx.2.1 hc.1 hc.2;simp only [aa]at h;subst h;obtain⟨_,_,rfl⟩:=this;exact⟨_,_,rfl⟩
   ·simp at h
  ·rename_i hb;rw [hb]at hx;split at h
   ·rename_i hc;have:=hx.2.1 hc.1 hc.2;simp only [aa]at h;subst h;obtain⟨_,_,a,rfl⟩:=this;exact⟨_,_,rfl⟩
   ·simp at h
  ·simp at h
 | f y=>
  cases y<;>simp only [pX,aa,reduceCtorEq]at h
  ·subst h;cases (hx:FCR σ X.F X.w .au u);exact⟨_,_,rfl⟩
  ·subst h;cases (hx:FCR σ X.F X.w .es u);exact⟨_,_,rfl⟩
 | _=>simp [pX]at h
theorem Ou(hS:SR Q σ X){m:Nat}{L:Loc}(hL:X.rho m=some L){e:FC × C}(hm:X.H[m]?=some (.map [e])):∃ me:MapEntry,X.w.heap[L.c]?=some (.map #[me] 1)∧FCR σ X.F X.w e.1 me.key∧VR1 σ X (mV e.2) me.val∧me.born=0:=by
 obtain⟨_,_,blk,hb',hbr⟩:=hS.br m L hL;rw [hm]at hb';cases hb';obtain⟨arr,h1,h2,h3⟩:=hbr
 match arr,h2 with
 | [me],h2=>exact⟨me,h1,h2.of_cons.1.1,h2.of_cons.1.2,h3 0 me rfl⟩
 | [],h2=>have:=h2.len;simp at this
 | _::_::_,h2=>have:=h2.len;simp at this
theorem QA(hS:SR Q σ X){x:V}{u:Value}(hx:VR σ X x u){v:V}(h:pK X.H x=some v):∃ r,(Instr.entry u).run Q X.w=.ok r X.w∧VR σ X v r:=by
 unfold pK at h;split at h
 ·rename_i b;obtain⟨L,hL,_,rfl⟩:=hx;split at h
  ·rename_i m s hb;split at h
   ·rename_i e hm;simp only [aa]at h;subst h;obtain⟨_,_,blk,hb',hbr⟩:=hS.br b L hL;rw [hb]at hb';cases hb';obtain⟨Lm,sn,st,h1,_,h2,h3⟩:=hbr;simp only [if_true]at h3;obtain⟨rfl,rfl⟩:=h3;obtain⟨me,g1,g2,g3,g4⟩:=Ou hS h1 hm;refine⟨.tuple #[me.key,me.val],?_,[me.key,me.val],rfl,A2.cons g2 (A2.cons g3 A2.nil)⟩;simp [Instr.entry,getObj,Sem.run,h2,g1,g4,Result.andThen]
   ·simp at h
  ·simp at h
 ·simp at h
theorem Ht:∀ {cs:List C} {us:List Value} {bs:List UInt8},A2 (CR σ X) cs us→bC (fun c=>match c with | C.f (.int .u8 n)=>some (UInt8.ofNat n.toNat) | _=>none) cs=some bs →
  ∃ ns:List Int,us=ns.map (Value.int .u8)∧bs=ns.map fun n=>UInt8.ofNat n.toNat
 | [],us,bs,h,hb=>by
  simp only [bC,aa]at hb;subst hb
  match us,h.len with
  | [],_=>exact⟨[],rfl,rfl⟩
 | c::cs,[],bs,h,hb=>by have:=h.len;simp at this
 | c::cs,u::us,bs,h,hb=>by
  obtain⟨h1,h2⟩:=h.of_cons;simp only [bC]at hb;split at hb
  ·simp at hb
  ·rename_i y hy;split at hb
   ·simp at hb
   ·rename_i ys hys;simp only [aa]at hb;subst hb;obtain⟨ns,rfl,rfl⟩:=Ht h2 hys;split at hy
    ·rename_i n;simp only [aa]at hy;subst hy;cases (h1:FCR σ X.F X.w (.int .u8 n) u);exact⟨n::ns,rfl,rfl⟩
    ·simp at hy
theorem foldl_push:∀(ns:List Int) (s:ByteArray),ns.foldl (fun(r:ByteArray) n=>r.push (UInt8.ofNat n.toNat)) s=⟨s.data++(ns.map fun n=>UInt8.ofNat n.toNat).toArray⟩
 | [],s=>by simp
 | n::ns,s=>by
  rw [cm,foldl_push ns]
  congr 1
  simp [ByteArray.push]
theorem WT(hS:SR Q σ X){x:V}{u:Value}(hx:VR σ X x u){v:V}(h:tq X.H x=some v):∃ r,(Conv.bytesToString u).run Q X.w=.ok r X.w∧VR σ X v r:=by
 unfold tq at h;split at h
 ·rename_i x;split at h
  ·rename_i l hl;split at h
   ·rename_i cs hcs;simp only [am]at h;obtain⟨bs,hb,rfl⟩:=h;obtain⟨us,h1,h2,h3⟩:=oU hS hx hl hcs;obtain⟨ad,c,rfl⟩:=oq hx hl;obtain⟨ns,rfl,rfl⟩:=Ht h2 hb;refine⟨.string (ns.foldl (fun(r:ByteArray) n=>r.push (UInt8.ofNat n.toNat)) ByteArray.empty),?_,?_⟩
    ·cases ad with
     | none=>
      simp only [Builtin.firstCells,Sem.run_pure,Result.ok.injEq,and_true]at h1
      have:ns=[]:=by
       have:=congrArg Array.toList h1;simpa using this.symm
      subst this
      simp only [Conv.bytesToString,List.foldl_nil,List.map_nil,Sem.run_pure]
     | some ad=>exact run_bytesToString X.w ad l c ns (by simpa [Builtin.firstCells]using h1)
    ·rw [foldl_push];rw [show(ByteArray.empty.data++(List.map (fun n:Int=>UInt8.ofNat n.toNat) ns).toArray)=(List.map (fun n:Int=>UInt8.ofNat n.toNat) ns).toArray from Array.empty_append]
     exact VR.mkStr _
   ·simp at h
  ·simp at h
 ·simp at h
theorem aDY(hS:SR Q σ X){a:Act}{regs:T}(hR:RR σ X regs a.tmps){o:Oper}{op:AOp}(hm:mOp Q σ o op=true)(hc:cls op=.p∨cls op=.r)(aMM:op.fsl=false){v:V}{H':Heap}
  (h:xOp regs X.H op=some (v,H')):H'=X.H∧∃ u,(execOp a.eval o).run Q X.w=.ok (.value u) X.w∧VR σ X v u:=by
 cases op<;>first | (simp only [cls,reduceCtorEq,or_self]at hc;done) | (simp [AOp.fsl]at aMM;done) | clear aMM
 case mov x=>
  simp only [xOp,aa,an]at h;obtain⟨rfl,rfl⟩:=h;refine⟨rfl,?_⟩;simp only [mOp]at hm;split at hm
  ·rename_i y ho;exact⟨_,by simp [execOp,ho],bH hR hm⟩
  ·rename_i y ho;exact⟨_,by simp [execOp,ho],bH hR hm⟩
  ·simp at hm
 case pick c x y=>
  simp only [mOp]at hm;split at hm
  ·rename_i c' x' y' ho;simp only [ag]at hm;simp only [xOp]at h;have hcv:=bH hR hm.1.1;split at h
   ·rename_i b hb;rw [hb]at hcv;have hcv:=VR.bool hcv;simp only [aa,an]at h;obtain⟨rfl,rfl⟩:=h;cases b
    ·exact⟨rfl,_,by simp [execOp,ho,hcv,asBool],bH hR hm.2⟩
    ·exact⟨rfl,_,by simp [execOp,ho,hcv,asBool],bH hR hm.1.2⟩
   ·simp at h
  ·simp at hm
 case build zs qs=>
  simp only [mOp]at hm;split at hm
  ·rename_i t ps ho;simp only [ag]at hm;simp only [xOp,am,an]at h;obtain⟨cs,hcs,rfl,rfl⟩:=h;obtain⟨z,us,hz1,hz2,hz3,_⟩:=gV (σ:=σ) (X:=X) hm.1 X.w;refine⟨rfl,?_⟩;have hb:=hm.2;unfold VW at hb;split at hb
   ·rename_i fs hu;split at hb
    ·rename_i pl hpl
     obtain⟨us',h5,h6⟩:=rZ (place:=(pl.toArray[·]?)) hR ((gQ hb).weak fun q p hqp=>by
      simp only [ag,decide_eq_true_eq]at hqp
      exact⟨by simpa using hqp.1,hqp.2⟩) hz3 hcs
     refine⟨.agg us'.toArray,?_,us',rfl,h6⟩;have hp:=run_places (P:=Q) X.w fs.toList pl hpl;simp only [execOp,ho];refine fQ ?_;simp [Instr.build,hz1,aV hu,Array.mapM_eq_mapM_toList,hp,hz2];simp at h5;simp [h5]
    ·simp at hb
   ·rename_i n e hu;split at hb
    ·rename_i inf hi
     obtain⟨us',h5,h6⟩:=rZ (place:=fun i=>some (i*inf.size,inf.size)) hR ((gQ hb).weak fun q p hqp=>by
      simp only [ag,beq_iff_eq]at hqp
      exact⟨by rw [hqp.1.2,hqp.1.1],hqp.2⟩) hz3 hcs
     refine⟨.agg us'.toArray,?_,us',rfl,h6⟩;simp only [execOp,ho];refine fQ ?_;simp [Instr.build,hz1,aV hu,Go.sizeOf,typeInfo,hi,hz2,h5]
    ·simp at hb
   ·simp at hb
  ·simp at hm
 case load k x=>
  simp only [mOp]at hm;split at hm
  ·rename_i t y ho;simp only [ag]at hm;simp only [xOp,am,an]at h;obtain⟨v',hv,rfl,rfl⟩:=h;obtain⟨u,h1,h2⟩:=aIj hS hm.1 (bH hR hm.2) hv;exact⟨rfl,u,by simp only [execOp,ho];exact fQ h1,h2⟩
  ·simp at hm
 case bG x=>
  simp only [mOp]at hm;split at hm
  ·rename_i y ho;have hx:=bH hR hm;simp only [xOp]at h
   have fin:∀ ad,a.eval y=.pointer (some ad)→(execOp a.eval o).run Q X.w=.ok (.value (a.eval y)) X.w:=by
    intro ad had;simp [execOp,ho,had]
   split at h
   ·rename_i b off e hb;simp only [aa,an]at h;obtain⟨rfl,rfl⟩:=h;rw [hb]at hx;have hx':=hx;obtain⟨L,hL,hx⟩:=hx;split at hx
    ·exact⟨rfl,_,fin _ hx,hx'⟩
    ·obtain⟨_,_,ad,had⟩:=hx;exact⟨rfl,_,fin _ had,hx'⟩
    ·exact hx.elim
   ·rename_i cs off hb;simp only [aa,an]at h;obtain⟨rfl,rfl⟩:=h;rw [hb]at hx;have hx':=hx
    have:∃ ad,a.eval y=.pointer (some ad):=by
     generalize a.eval y=u at hx;cases (hx:FCR σ X.F X.w (.fp cs off) u);exact⟨_,rfl⟩
    obtain⟨ad,had⟩:=this;exact⟨rfl,_,fin _ had,hx'⟩
   ·simp at h
  ·simp at hm
 case bin op x y=>
  simp only [mOp]at hm;split at hm
  ·rename_i op' t x' y' yt ho;simp only [ag,decide_eq_true_eq]at hm;obtain⟨⟨rfl,hx⟩,hy⟩:=hm;simp only [xOp,am,an]at h;obtain⟨v',hv,rfl,rfl⟩:=h;have hx:=bH hR hx;have hy:=bH hR hy;refine⟨rfl,?_⟩
   have guard:∀ op,(∀ xs,a.eval x'≠.agg xs)→a.eval x'≠.nilIface→(eqGuard op t x' y' (a.eval x') (a.eval y')).run Q X.w=.ok () X.w:=by
    intro op h1 h2;cases op<;>simp [eqGuard]<;>(generalize a.eval x'=ux at *;cases ux<;>simp at h1 h2 ⊢)
   unfold dG at hv;split at hv
   ·rename_i k n k' m h1 h2;rw [h1]at hx;rw [h2]at hy;have hx:=VR.int hx;have hy:=VR.int hy;split at hv
    ·simp at hv
    ·rename_i hm;simp only [aa]at hv;subst hv;exact⟨_,by simp only [execOp,ho];refine fQ ?_;rw [Sem.run_bind,guard _ (by simp [hx]) (by simp [hx])];simp [hx,hy,binOp,Op.shift,hm],VR.mkInt _ _⟩
   ·rename_i k n k' m h1 h2;rw [h1]at hx;rw [h2]at hy;have hx:=VR.int hx;have hy:=VR.int hy;split at hv
    ·simp at hv
    ·rename_i hm;simp only [aa]at hv;subst hv;exact⟨_,by simp only [execOp,ho];refine fQ ?_;rw [Sem.run_bind,guard _ (by simp [hx]) (by simp [hx])];simp [hx,hy,binOp,Op.shift,hm],VR.mkInt _ _⟩
   ·rename_i k n k' m _ _ h1 h2;rw [h1]at hx;rw [h2]at hy;have hx:=VR.int hx;have hy:=VR.int hy;split at hv
    ·rename_i hk;subst hk;obtain⟨u,h3,h4,h5⟩:=axh (Q:=Q) (σ:=σ) (X:=X) hv X.w;exact⟨u,by simp only [execOp,ho];refine fQ ?_;rw [Sem.run_bind,guard _ (by simp [hx]) (by simp [hx])];simp [hx,hy,h5,h3],h4⟩
    ·simp at hv
   ·rename_i s1 s2 h1 h2;rw [h1]at hx;rw [h2]at hy;have hx:=VR.str hx;have hy:=VR.str hy;obtain⟨u,h3,h4⟩:=axf (Q:=Q) (σ:=σ) (X:=X) hv X.w t;exact⟨u,by simp only [execOp,ho];refine fQ ?_;rw [Sem.run_bind,guard _ (by simp [hx]) (by simp [hx])];simp [hx,hy,h3],h4⟩
   ·simp at hv
  ·simp at hm
 case eq neg k x y=>
  simp only [mOp]at hm;split at hm
  ·rename_i op' t x' y' yt ho;simp only [ag,decide_eq_true_eq]at hm;obtain⟨⟨⟨rfl,hx⟩,hy⟩,hk⟩:=hm;simp only [xOp,am,an]at h;obtain⟨b,hv,rfl,rfl⟩:=h;refine⟨rfl,_,?_,VR.zU _⟩;simp only [execOp,ho];exact fQ (aIV hk (bH hR hx) (bH hR hy) hv neg X.w)
  ·simp at hm
 case un op x=>
  simp only [mOp]at hm;split at hm
  ·rename_i op' t y ho;simp only [ag,decide_eq_true_eq]at hm;obtain⟨rfl,hx⟩:=hm;simp only [xOp,am,an]at h;obtain⟨v',hv,rfl,rfl⟩:=h;have hx:=bH hR hx;refine⟨rfl,?_⟩;unfold unV at hv;split at hv
   ·rename_i k n h1;rw [h1]at hx;have hx:=VR.int hx;simp only [aa]at hv;subst hv;exact⟨_,by simp [execOp,ho,hx,Op.unary,Op.intArith],VR.mkInt _ _⟩
   ·rename_i b h1;rw [h1]at hx;have hx:=VR.bool hx;simp only [aa]at hv;subst hv;exact⟨_,by simp [execOp,ho,hx,Op.unary],VR.zU _⟩
   ·simp at hv
  ·simp at hm
 case cvi k x=>
  simp only [mOp]at hm;split at hm
  ·rename_i s d y ho;simp only [ag]at hm;obtain⟨⟨hx,hs⟩,hd⟩:=hm;have hx:=bH hR hx;simp only [xOp]at h;split at h
   ·rename_i q n h1;rw [h1]at hx;have hx:=VR.int hx;simp only [aa,an]at h;obtain⟨rfl,rfl⟩:=h;split at hd
    ·rename_i k' hu;simp only [decide_eq_true_eq]at hd;subst hd;obtain⟨ds,hds⟩:=Option.isSome_iff_exists.1 hs;exact⟨rfl,_,by simp only [execOp,ho];refine fQ ?_;simp [convert,aV hds,aV hu,hx,Conv.intToInt],VR.mkInt _ _⟩
    ·simp at hd
   ·simp at h
  ·simp at hm
 case EW x=>
  simp only [mOp]at hm;split at hm
  ·rename_i s d y ho;simp only [ag]at hm;obtain⟨hx,hd⟩:=hm;have hx:=bH hR hx;simp only [xOp]at h;split at h
   ·rename_i q h1;rw [h1]at hx;have hx:=VR.str hx;simp only [aa,an]at h;obtain⟨rfl,rfl⟩:=h;split at hd
    ·rename_i hu1 hu2;exact⟨rfl,_,by simp only [execOp,ho];refine fQ ?_;simp [convert,aV hu1,aV hu2,hx],VR.mkStr _⟩
    ·simp at hd
   ·simp at h
  ·simp at hm
 case o9 f xs=>
  simp only [mOp]at hm;split at hm
  ·rename_i g fst caps ho;simp only [ag,beq_iff_eq]at hm;obtain⟨⟨hf,rfl⟩,hx⟩:=hm;simp only [xOp,am,an]at h;obtain⟨cs,hcs,rfl,rfl⟩:=h;have:=Hy (qQ hR hx) hcs;have aQ2:fst=#[]:=by simpa using hf
   exact⟨rfl,.func (.func (σ f)) #[] (caps.map a.eval),by simp only [execOp,ho,Instr.makeFunc,aQ2];exact fQ (by simp),(caps.map a.eval).toList,congrArg _ Array.toArray_toList.symm,this⟩
  ·simp at hm
 case slice sz x lo hi mx=>
  simp only [mOp]at hm;split at hm
  ·rename_i t y lo' hi' mx' ho;simp only [ag,decide_eq_true_eq]at hm;obtain⟨⟨⟨⟨⟨hx,h1⟩,h2⟩,h3⟩,he⟩,hz⟩:=hm;obtain⟨e,hu,hsz⟩:=jP he;simp only [xOp,am,an]at h;obtain⟨v',hv,rfl,rfl⟩:=h;obtain⟨r,h4,h5⟩:=CP hu hsz (bH hR hx) (yw hR h1) (yw hR h2) (yw hR h3) hv;exact⟨rfl,r,by simp only [execOp,ho];exact fQ h4,h5⟩
  ·simp at hm
 case sV n sz x lo hi mx=>
  simp only [mOp]at hm;split at hm
  ·rename_i t y lo' hi' mx' ho;simp only [ag,decide_eq_true_eq]at hm;obtain⟨⟨⟨⟨⟨hx,h1⟩,h2⟩,h3⟩,he⟩,hz⟩:=hm;split at he
   ·rename_i n' e hu;simp only [ag,beq_iff_eq]at he;obtain⟨rfl,hsz⟩:=he;simp only [xOp,am,an]at h;obtain⟨v',hv,rfl,rfl⟩:=h;obtain⟨r,h4,h5⟩:=PK hS hu hsz (bH hR hx) (yw hR h1) (yw hR h2) (yw hR h3) hv;exact⟨rfl,r,by simp only [execOp,ho];exact fQ h4,h5⟩
   ·simp at he
  ·simp at hm
 case uJ x lo hi=>
  simp only [mOp]at hm;split at hm
  ·rename_i t y lo' hi' ho;simp only [ag]at hm;obtain⟨⟨⟨hx,h1⟩,h2⟩,he⟩:=hm;split at he
   ·rename_i hu;simp only [xOp,am,an]at h;obtain⟨v',hv,rfl,rfl⟩:=h;obtain⟨r,h4,h5⟩:=PG hu (bH hR hx) (yw hR h1) (yw hR h2) hv X.w;exact⟨rfl,r,by simp only [execOp,ho,Option.map_none];exact fQ h4,h5⟩
   ·simp at he
  ·simp at hm
 case aj off x=>
  simp only [mOp]at hm;split at hm
  ·rename_i t y i ho;simp only [ag]at hm;obtain⟨hx,hf⟩:=hm;split at hf
   ·rename_i fs hu;split at hf
    ·rename_i f hfi;simp only [ag,beq_iff_eq]at hf;obtain⟨rfl,hz⟩:=hf;simp only [xOp,am,an]at h;obtain⟨v',hv,rfl,rfl⟩:=h;obtain⟨r,h4,h5⟩:=L8 hu hfi hz (bH hR hx) hv X.w;exact⟨rfl,r,by simp only [execOp,ho];exact fQ h4,h5⟩
    ·simp at hf
   ·simp at hf
  ·simp at hm
 case field off n x=>
  simp only [mOp]at hm;split at hm
  ·rename_i t y i ho;simp only [ag]at hm;obtain⟨hx,hf⟩:=hm;split at hf
   ·rename_i fs hu;split at hf
    ·rename_i f hfi;simp only [ag,beq_iff_eq]at hf;obtain⟨rfl,hz⟩:=hf;simp only [xOp,am,an]at h;obtain⟨v',hv,rfl,rfl⟩:=h;obtain⟨r,h4,h5⟩:=Qz hu hfi hz (bH hR hx) hv X.w;exact⟨rfl,r,by simp only [execOp,ho];exact fQ h4,h5⟩
    ·simp at hf
   ·simp at hf
  ·simp at hm
 case aT sz arr x i=>
  simp only [mOp]at hm;split at hm
  ·rename_i t y j ho;simp only [ag]at hm;obtain⟨⟨hx,hi⟩,hf⟩:=hm;simp only [xOp,am,an]at h;obtain⟨v',hv,rfl,rfl⟩:=h
   have:∃ e,dX Q e sz=true∧((arr=none∧Q.underlying t=some (.slice e))∨∃ n,arr=some n∧Q.underlying t=some (.array n e)):=by
    split at hf
    ·rename_i e hu;exact⟨e,hf,.inl ⟨rfl,hu⟩⟩
    ·rename_i n e n' hu;simp only [ag,beq_iff_eq]at hf;obtain⟨rfl,hsz⟩:=hf;exact⟨e,hsz,.inr ⟨_,rfl,hu⟩⟩
    ·simp at hf
   obtain⟨e,hsz,hu⟩:=this;obtain⟨r,h4,h5⟩:=LP hsz hu (bH hR hx) (bH hR hi) hv;exact⟨rfl,r,by simp only [execOp,ho];exact fQ h4,h5⟩
  ·simp at hm
 case idxs x i=>
  simp only [mOp]at hm;split at hm
  ·rename_i t y j ho;simp only [ag]at hm;obtain⟨⟨hx,hi⟩,hf⟩:=hm;simp only [xOp,am,an]at h;obtain⟨v',hv,rfl,rfl⟩:=h;split at hf
   ·rename_i hu;obtain⟨r,h4,h5⟩:=Wj hu (bH hR hx) (bH hR hi) hv X.w;exact⟨rfl,r,by simp only [execOp,ho];exact fQ h4,h5⟩
   ·simp at hf
  ·simp at hm
 case vw n sz k x i=>
  simp only [mOp]at hm;split at hm
  ·rename_i t y j ho;simp only [ag]at hm;obtain⟨⟨hx,hi⟩,hf⟩:=hm;simp only [xOp,am,an]at h;obtain⟨v',hv,rfl,rfl⟩:=h;split at hf
   ·rename_i n' e hu;simp only [ag,beq_iff_eq]at hf;obtain⟨⟨rfl,hsz⟩,hk⟩:=hf;obtain⟨r,h4,h5⟩:=Wn hu hsz hk (bH hR hx) (bH hR hi) hv X.w;exact⟨rfl,r,by simp only [execOp,ho];exact fQ h4,h5⟩
   ·simp at hf
  ·simp at hm
 case lookup ck z m k=>
  simp only [mOp]at hm;split at hm
  ·rename_i t m' k' ok ho;simp only [ag,beq_iff_eq]at hm;obtain⟨⟨⟨h1,h2⟩,hok⟩,hf⟩:=hm;simp only [xOp,am,an]at h;obtain⟨v',hv,rfl,rfl⟩:=h;split at hf
   ·rename_i kt e hu;simp only [ag]at hf;obtain⟨u,h4,h5⟩:=Qk hS hu hf.1.1 hok hf.1.2 hf.2 (bH hR h1) (bH hR h2) hv;exact⟨rfl,u,by simp only [execOp,ho];exact fQ h4,h5⟩
   ·simp at hf
  ·simp at hm
 case extract x i=>
  simp only [mOp]at hm;split at hm
  ·rename_i y j ho;simp only [ag,beq_iff_eq]at hm;obtain⟨hx,rfl⟩:=hm;have hx:=bH hR hx;simp only [xOp]at h;split at h
   ·rename_i vs hvs;rw [hvs]at hx;simp only [am,an]at h;obtain⟨v',hv,rfl,rfl⟩:=h;obtain⟨us,hus,h2⟩:=hx;obtain⟨u,hu,hvu⟩:=h2.get hv;exact⟨rfl,u,by simp only [execOp,ho];refine fQ ?_;simp [Instr.extract,hus,hu],VR.of1 σ hvu⟩
   ·simp at h
  ·simp at hm
 case zX n=>
  simp only [mOp]at hm;split at hm
  ·rename_i c ho;obtain⟨y,t,e,h1,h2,h3,hu⟩:=Ls hm;simp only [xOp,aa,an]at h;obtain⟨rfl,rfl⟩:=h;exact⟨rfl,_,eH ho h1 (fun cs=>by simp [builtin,h2,h3,Builtin.len_,aV hu,goInt]),VR.mkInt _ _⟩
  ·simp at hm
 case lens x=>
  simp only [mOp]at hm;split at hm
  ·rename_i c ho;obtain⟨y,t,h1,h2,h3,hx,hu⟩:=Lr hm;have hx:=bH hR hx;simp only [xOp]at h;split at h
   ·rename_i s hs;rw [hs]at hx;have hx:=VR.str hx;simp only [aa,an]at h;obtain⟨rfl,rfl⟩:=h;exact⟨rfl,_,eH ho h1 (fun cs=>by simp [builtin,h2,h3,Builtin.len_,aV hu,hx,goInt]),VR.mkInt _ _⟩
   ·simp at h
  ·simp at hm
 case len x=>
  simp only [mOp]at hm;split at hm
  ·rename_i c ho;obtain⟨y,t,e,h1,h2,h3,hx,hu⟩:=Qh hm;have hx:=bH hR hx;simp only [xOp]at h;split at h
   ·rename_i z hz;rw [hz]at hx;split at h
    ·rename_i n hn;simp only [aa,an]at h;obtain⟨rfl,rfl⟩:=h;obtain⟨ad,cp,hsl⟩:=oq hx hn;exact⟨rfl,_,eH ho h1 (fun cs=>by simp [builtin,h2,h3,Builtin.len_,aV hu,hsl,goInt]),VR.mkInt _ _⟩
    ·simp at h
   ·simp at h
  ·simp at hm
 case sH lo xs=>
  simp only [mOp]at hm;split at hm
  ·rename_i c ho;obtain⟨h1,h2⟩:=Lp hm;have hA:=qQ hR h2;simp only [xOp,am,an]at h;obtain⟨v',hv,rfl,rfl⟩:=h;refine⟨rfl,?_⟩;unfold Qc at hv;split at hv
   ·simp at hv
   ·rename_i x ys hxs;rw [hxs]at hA
    match hus:(c.args.map a.eval).toList,hA with
    | [],hA=>have:=hA.len;simp at this
    | u::us,hA=>
     obtain⟨hx,hA⟩:=hA.of_cons;obtain⟨r,g1,g2⟩:=GK (Q:=Q) (lo:=lo) X.w hx hA hv;refine⟨r,eH ho h1 (fun cs=>?_),g2⟩
     cases lo
     ·simp only [aw,if_false]at g1 ⊢;have g1:(us.foldlM Builtin.max2 u).run Q X.w=.ok r X.w:=g1;have aIF:List.map a.eval c.args.toList=u::us:=by simpa using hus
      simp [builtin,Builtin.max_,aIF,g1]
     ·simp only [if_true]at g1 ⊢;have g1:(us.foldlM Builtin.min2 u).run Q X.w=.ok r X.w:=g1;have aIF:List.map a.eval c.args.toList=u::us:=by simpa using hus
      simp [builtin,Builtin.min_,aIF,g1]
  ·simp at hm
 case cap x=>
  simp only [mOp]at hm;split at hm
  ·rename_i c ho;obtain⟨y,t,e,h1,h2,h3,hx,hu⟩:=Qi hm;have hx:=bH hR hx;simp only [xOp]at h;split at h
   ·rename_i z hz;rw [hz]at hx;split at h
    ·rename_i n hn;simp only [aa,an]at h;obtain⟨rfl,rfl⟩:=h;obtain⟨ad,l,hsl⟩:=UU hx hn;exact⟨rfl,_,eH ho h1 (fun cs=>by simp [builtin,h2,h3,Builtin.cap_,aV hu,hsl,goInt]),VR.mkInt _ _⟩
    ·simp at h
   ·simp at h
  ·simp at hm
 case entry x=>
  simp only [mOp]at hm;split at hm
  ·rename_i y ho;simp only [xOp,am,an]at h;obtain⟨v',hv,rfl,rfl⟩:=h;obtain⟨r,g1,g2⟩:=QA hS (bH hR hm) hv;exact⟨rfl,r,by simp only [execOp,ho];exact fQ g1,g2⟩
  ·simp at hm
 case Ce f xs=>
  simp only [mOp]at hm;split at hm
  ·rename_i g fst caps ho;simp only [ag,beq_iff_eq]at hm;obtain⟨⟨hf,rfl⟩,hx⟩:=hm;simp only [xOp,am,an]at h;obtain⟨cs,hcs,rfl,rfl⟩:=h;have:=Hy (qQ hR hx) hcs;have hcap:caps=#[]:=by simpa using hf
   exact⟨rfl,.func (.func (σ f)) (fst.map a.eval) #[],by simp only [execOp,ho,Instr.makeFunc,hcap];exact fQ (by simp),(fst.map a.eval).toList,by rw [Array.toArray_toList],this⟩
  ·simp at hm
 case call f args h'=>cases h'<;>simp [cls]at hc
 case Ci x=>
  simp only [mOp]at hm;split at hm
  ·rename_i s d y ho;simp only [ag]at hm;obtain⟨hx,hd⟩:=hm;have hx:=bH hR hx;split at hd
   ·rename_i e hu1 hu2;simp only [ag]at hd
    have hu8:Q.underlying e=some (.int .u8):=by
     have:=hd.1;unfold aMm at this;split at this
     ·assumption
     ·simp at this
    simp only [xOp,am,an]at h;obtain⟨v',hv,rfl,rfl⟩:=h;obtain⟨u,h4,h5⟩:=WT hS hx hv;refine⟨rfl,u,?_,h5⟩;simp only [execOp,ho];refine fQ ?_;simp only [convert,Sem.run_bind,aV hu1,aV hu2,Result.andThen_ok]
    have:∃ ad l c,a.eval y=.slice ad l c:=by
     unfold tq at hv;split at hv
     ·rename_i z hz;rw [hz]at hx;split at hv
      ·rename_i l hl;obtain⟨ad,c,h⟩:=oq hx hl;exact⟨_,_,_,h⟩
      ·simp at hv
     ·simp at hv
    obtain⟨ad,l,c,h6⟩:=this;rw [h6]at h4 ⊢;simp only [Sem.run_bind,aV hu8,Result.andThen_ok,h4]
   ·simp at hd
  ·simp at hm
end
section
variable{Q:Program}{σ:Nat→FuncId}{X:Wd}
theorem SR.lt(hS:SR Q σ X){b:Nat}{L:Loc}(h:X.rho b=some L):b<X.H.length:=by
 obtain⟨_,_,blk,hb,_⟩:=hS.br b L h;exact(ab.1 hb).1
theorem SR.wL(hS:SR Q σ X):X.rho X.H.length=none:=by
 cases h:X.rho X.H.length with
 | none=>rfl
 | some L=>have:=SR.lt hS h;omega
theorem Ext.one(hS:SR Q σ X){X':Wd}(b0:Nat)(hB:X'.B=X.B)(hF:∀ c i,X'.F c i↔X.F c i)
  (hw:∀ k,k<X.w.heap.size→(∀ L,X.rho b0=some L→k≠L.c)→X'.w.heap[k]?=X.w.heap[k]?)
  (hFw:∀ L i,X.rho b0=some L→X.F L.c i→X'.w.cell? ⟨L.c,i,none⟩=X.w.cell? ⟨L.c,i,none⟩) (hkeep:b0<X.H.length→qc X X' b0)
  (hH:∀ b,b≠b0→b<X.H.length→X'.H[b]?=X.H[b]?) (pG:∀ b,b≠b0→X'.rho b=X.rho b)
  (hr0:∀ L,X'.rho b0=some L→(∃ L0,X.rho b0=some L0∧L0.c=L.c)∨X.w.heap.size≤L.c) (hs:X.w.heap.size≤X'.w.heap.size) (ho:X'.w.os=X.w.os) (ht:X'.w.tape=X.w.tape)
  (hu:X'.w.output=X.w.output):Ext X.H.length X X' where
 B:=hB
 F:=fun c i h=>(hF c i).2 h
 vW:=fun c i h=>.inl ((hF c i).1 h)
 fw:=fun c i h=>by
  by_cases hc:∃ L,X.rho b0=some L∧c=L.c
  ·obtain⟨L,hL,rfl⟩:=hc;exact hFw L i hL h
  ·exact World.cell?_of_block (hw c (hS.fb c i h) fun L hL e=>hc ⟨L,hL,e⟩)
 keep:=fun b hb=>by
  by_cases h:b=b0
  ·subst h;exact hkeep hb
  ·intro blk hblk;refine⟨blk,(hH b h hb).trans hblk,?_⟩;have:∀ L,X.rho b=some L→X'.rho b=some L:=fun L hL=>(pG b h).trans hL
   cases blk<;>simp_all
 img:=fun b L hb=>by
  by_cases h:b=b0
  ·subst h;rcases hr0 L hb with⟨L0,h1,h2⟩ | h1
   ·exact .inl ⟨b,L0,h1,h2⟩
   ·exact .inr h1
  ·rw [pG b h]at hb;exact .inl ⟨b,L,hb,rfl⟩
 size:=hs
 os:=ho
 tape:=ht
 output:=hu
 frame:=fun k hk hn=>hw k hk fun L hL e=>hn b0 L hL e.symm
theorem SR.grow(hS:SR Q σ X)(blk:Blk):SR Q σ { X with H:=X.H++[blk] }∧Ext X.H.length X { X with H:=X.H++[blk] }:=by
 have hx:Ext X.H.length X { X with H:=X.H++[blk] }:=Ext.one hS X.H.length rfl (fun _ _=>Iff.rfl) (fun _ _ _=>rfl) (fun _ _ _ _=>rfl) (fun h=>by omega)
  (fun b _ h=>by simp [ae h]) (fun _ _=>rfl) (fun L h=>by rw [SR.wL hS]at h;simp at h) (aq _) rfl rfl rfl
 refine⟨⟨fun b L hb=>?_,hS.inj,hS.fb⟩,hx⟩
 obtain⟨h1,h2,blk',h3,h4⟩:=hS.br b L hb;exact⟨h1,h2,blk',by rw [ae (SR.lt hS hb)];exact h3,BR.ext Q σ hx rfl (fun _ h=>h) h4⟩
structure Adds(w w':World)(o:Obj):Prop where
 heap:w'.heap=w.heap.push o
 os:w'.os=w.os
 tape:w'.tape=w.tape
 output:w'.output=w.output
theorem Adds.alloc(w:World)(o:Obj):Adds w (w.alloc o) o:=⟨rfl,rfl,rfl,rfl⟩
theorem Adds.old{w w':World}{o:Obj}(h:Adds w w' o){k:Nat}(hk:k<w.heap.size):w'.heap[k]?=w.heap[k]?:=by
 rw [h.heap,Array.getElem?_push,if_neg (by omega)]
theorem Adds.new{w w':World}{o:Obj}(h:Adds w w' o):w'.heap[w.heap.size]?=some o:=by
 rw [h.heap];simp
theorem Adds.size{w w':World}{o:Obj}(h:Adds w w' o):w'.heap.size=w.heap.size+1:=by
 rw [h.heap];simp
theorem SR.fill(hS:SR Q σ X)(hB:X.B≤X.w.heap.size){n:Nat}{blk:Blk}(hn:X.H[n]?=some blk)(hr:X.rho n=none){w':World}{o:Obj}(hw:Adds X.w w' o)(cap:Nat)
  (hbr:Ext X.H.length X { X with rho:=fun b=>if b=n then some ⟨X.w.heap.size,cap⟩else X.rho b,w:=w' }→BR Q σ { X with rho:=fun b=>if b=n then some ⟨X.w.heap.size,cap⟩else X.rho b,w:=w' } blk ⟨X.w.heap.size,cap⟩) :
  SR Q σ { X with rho:=fun b=>if b=n then some ⟨X.w.heap.size,cap⟩else X.rho b,w:=w' }∧Ext X.H.length X { X with rho:=fun b=>if b=n then some ⟨X.w.heap.size,cap⟩else X.rho b,w:=w' }:=by
 have hx:Ext X.H.length X { X with rho:=fun b=>if b=n then some ⟨X.w.heap.size,cap⟩else X.rho b,w:=w' }:=
  Ext.one hS n rfl (fun _ _=>Iff.rfl) (fun k h _=>hw.old h) (fun L i hL _=>by rw [hr]at hL;simp at hL)
   (fun _ b' hb'=>⟨b',hb',by
    cases b'<;>simp [hr]⟩)
   (fun _ _ _=>rfl) (fun b h=>by simp [h]) (fun L h=>by simp at h;subst h;exact .inr (aq _)) (by rw [hw.size];omega) hw.os hw.tape hw.output
 refine⟨SR.step Q σ hS hx n (fun _ _=>rfl) (fun b h=>by simp [h]) (fun b L _ hb=>hw.old (hS.br b L hb).2.1) (fun _ _ _ _ _ h=>h) (fun L h=>?_) (fun c i h=>by rw [hw.size];have:=hS.fb c i h;omega),hx⟩
 simp at h;subst h;refine⟨hB,by simp [hw.size],⟨blk,hn,hbr hx⟩,fun b L' _ hb=>?_⟩
 have:=(hS.br b L' hb).2.1;simp;omega
theorem SR.new(hS:SR Q σ X)(hB:X.B≤X.w.heap.size)(blk:Blk){w':World}{o:Obj}(hw:Adds X.w w' o)(cap:Nat)
  (hbr:∀ X',Ext X.H.length X X'→X'.w=w'→X'.F=X.F→X'.H=X.H++[blk]→BR Q σ X' blk ⟨X.w.heap.size,cap⟩) :
  ∃ X',X'.w=w'∧X'.H=X.H++[blk]∧SR Q σ X'∧Ext X.H.length X X'∧X'.rho X.H.length=some ⟨X.w.heap.size,cap⟩∧X'.B≤X'.w.heap.size:=by
 obtain⟨h1,h2⟩:=SR.grow hS blk;have hn:(X.H++[blk])[X.H.length]?=some blk:=by simp
 obtain⟨h3,h4⟩:=SR.fill h1 hB hn (SR.wL hS) hw cap (fun hx=>hbr _ (h2.trans (hx.mono (by simp))) rfl rfl rfl)
 exact⟨_,rfl,rfl,h3,h2.trans (h4.mono (by simp)),by simp,by simp [hw.size];omega⟩
theorem SR.turn(hS:SR Q σ X){b:Nat}{blk blk':Blk}{L:Loc}(hb:X.H[b]?=some blk)(hL:X.rho b=some L){w':World}(hs:w'.heap.size=X.w.heap.size)
  (hw:∀ k,k≠L.c→w'.heap[k]?=X.w.heap[k]?) (hF:∀ i,X.F L.c i→w'.cell? ⟨L.c,i,none⟩=X.w.cell? ⟨L.c,i,none⟩) (ho:w'.os=X.w.os) (ht:w'.tape=X.w.tape) (hu:w'.output=X.w.output)
  (hkeep:qc X { X with H:=X.H.set b blk',w:=w' } b)
  (hbr:Ext X.H.length X { X with H:=X.H.set b blk',w:=w' }→BR Q σ { X with H:=X.H.set b blk',w:=w' } blk' L) :
  SR Q σ { X with H:=X.H.set b blk',w:=w' }∧Ext X.H.length X { X with H:=X.H.set b blk',w:=w' }:=by
 have hlt:b<X.H.length:=(ab.1 hb).1
 have hx:Ext X.H.length X { X with H:=X.H.set b blk',w:=w' }:=
  Ext.one hS b rfl (fun _ _=>Iff.rfl) (fun k _ h=>hw k (h L hL)) (fun L' i h=>by rw [hL]at h;cases h;exact hF i) (fun _=>hkeep)
   (fun b' h _=>by simp [al (Ne.symm h)]) (fun _ _=>rfl) (fun L' h=>.inl ⟨L',h,rfl⟩) (Nat.le_of_eq hs.symm) ho ht hu
 refine⟨SR.step Q σ hS hx b (fun b' h=>by simp [al (Ne.symm h)]) (fun _ _=>rfl) (fun b' L' h hb'=>hw _ fun e=>h (hS.inj b' b L' L hb' hL e)) (fun _ _ _ _ _ h=>h)
  (fun L' h=>?_) (fun c i h=>by rw [hs];exact hS.fb c i h),hx⟩
 change X.rho b=some L' at h;rw [hL]at h;cases h;obtain⟨h1,h2,_⟩:=hS.br b L hL;exact⟨h1,by show L.c<w'.heap.size;omega,⟨blk',by simp [hlt],hbr hx⟩,fun b' L' h hb' e=>h (hS.inj b' b L' L hb' hL e)⟩
theorem kJ{w:World}{c:Nat}{us:List Value}(h:rowAt w c us):∀(vs:List Value) (off:Nat),off+vs.length≤us.length →
  (w.setCells c off vs).heap.size=w.heap.size∧(∀ k,k≠c→(w.setCells c off vs).heap[k]?=w.heap[k]?)∧(w.setCells c off vs).os=w.os∧(w.setCells c off vs).tape=w.tape ∧
  (w.setCells c off vs).output=w.output∧rowAt (w.setCells c off vs) c (over us off vs)
 | [],off,_=>⟨rfl,fun _ _=>rfl,rfl,rfl,rfl,by simpa [World.setCells,over]using h⟩
 | v::vs,off,hl=>by
  simp only [bt]at hl
  have h1:rowAt (w.setCell ⟨c,off,none⟩ v) c (us.set off v):=by
   obtain⟨e,fr,h1,h2⟩:=h;refine⟨e,fr,?_,by simpa using h2⟩
   simp [World.setCell,Array.getElem?_modify,h1]
  obtain⟨h2,h3,h4,h5,h6,h7⟩:=kJ h1 vs (off+1) (by simp;omega)
  simp only [World.setCells];refine⟨by rw [h2];simp,fun k hk=>(h3 k hk).trans ?_,h4,h5,h6,?_⟩
  ·simp only [World.setCell,Array.getElem?_modify];rw [if_neg (by simpa using Ne.symm hk)]
  ·have:over (us.set off v) (off+1) vs=over us off (v::vs):=by
    unfold over;simp only [bt];rw [List.take_set,List.drop_set_of_lt (by omega),show off+1+vs.length=off+(vs.length+1) by omega]
    rw [aD (by omega)]
    have hl:(List.take off us).length=off:=by simp;omega
    have e:(List.take off us++[us[off]]).set off v=List.take off us++[v]:=by
     rw [List.set_append,if_neg (by omega),hl];simp
    rw [e];simp
   rw [←this];exact h7
theorem wH{w:World}{c:Nat}{us:List Value}(h:rowAt w c us)(vs:List Value)(off:Nat)(hl:off+vs.length≤us.length)(h1:∀ v ∈ vs,v.oneCell'=true) :
  (storeCells ⟨c,off,none⟩ vs).run Q w=.ok () (w.setCells c off vs):=by
 have:=run_storeCells_cells (P:=Q) c off vs 0 w (fun j hj=>by rw [fK h];simp;omega) (fun j hj=>LY h (by omega)) h1
 simpa using this
theorem Gx{α:Type}(us:List α)(off:Nat)(vs:List α)(h:off+vs.length≤us.length)(i:Nat)(hi:i<off):(over us off vs)[i]?=us[i]?:=by
 unfold over;rw [ae (by simp;omega),ae (by simp;omega),bE]
 simp [hi]
end
section
variable{Q:Program}{σ:Nat→FuncId}{X:Wd}
def jM(Q:Program)(σ:Nat→FuncId)(X:Wd)(v:V)(H':Heap)(s:Sem Next):Prop:=
 ∃ u X',(s.run Q X.w=.ok (.value u) X'.w∨(s.run Q X.w=.ok .skip X'.w∧u=undef))∧X'.H=H'∧SR Q σ X'∧VR σ X' v u∧Ext X.H.length X X'∧X'.B≤X'.w.heap.size
theorem jM.aLN(hB:X.B≤X.w.heap.size)(hS:SR Q σ X){v:V}{H':Heap}{s:Sem Next}(h:H'=X.H∧∃ u,s.run Q X.w=.ok (.value u) X.w∧VR σ X v u):jM Q σ X v H' s:=by
 obtain⟨rfl,u,h1,h2⟩:=h;exact⟨u,X,.inl h1,rfl,hS,h2,Ext.refl _ _,hB⟩
theorem ou{w w':World}{us:List Value}{e:TypeId}(h:Adds w w' (.cells us.toArray e)):rowAt w' w.heap.size us:=⟨e,(0,0),h.new,fun i _=>by simp⟩
theorem KZ(hS:SR Q σ X)(hB:X.B≤X.w.heap.size){cs:List C}{us:List Value}(h:A2 (CR σ X) cs us)(e:TypeId) :
  ∃ X',X'.w=X.w.alloc (.cells us.toArray e)∧X'.H=X.H++[.box cs 0]∧SR Q σ X'∧Ext X.H.length X X'∧X'.rho X.H.length=some ⟨X.w.heap.size,0⟩∧X'.B≤X'.w.heap.size:=
 SR.new hS hB (.box cs 0) (Adds.alloc _ _) 0 fun X' hx hw hF _=>⟨us,by rw [hw];exact ou (Adds.alloc _ _),A2.ext' σ hx h,fun i _ hf=>by
  rw [hF]at hf;have:=hS.fb _ _ hf;simp at this⟩
theorem zT(hS:SR Q σ X)(hB:X.B≤X.w.heap.size){cs:List C}{us:List Value}(h:A2 (CR σ X) cs us)(e:TypeId){s:Sem Next}
  (hs:s.run Q X.w=.ok (.value (.pointer (some ⟨X.w.heap.size,0,none⟩))) (X.w.alloc (.cells us.toArray e))):jM Q σ X (.c (.ptr X.H.length 0 0)) (X.H++[.box cs 0]) s:=by
 obtain⟨X',h1,h2,h3,h4,h5,h6⟩:=KZ hS hB h e;refine⟨_,X',.inl (by rw [h1];exact hs),h2,h3,?_,h4,h6⟩
 exact⟨_,h5,by rw [h2];simp⟩
theorem Xl(hS:SR Q σ X)(hB:X.B≤X.w.heap.size){a:Act}{o:Oper}{zs:List FC}(hm:mOp Q σ o (.alloc zs)=true) :
  jM Q σ X (.c (.ptr X.H.length 0 0)) (X.H++[.box (zs.map .f) 0]) (execOp a.eval o):=by
 simp only [mOp]at hm;split at hm
 ·rename_i t ho;obtain⟨z,us,h1,h2,h3,_⟩:=gV (σ:=σ) (X:=X) hm X.w;refine zT hS hB h3 t ?_;simp only [execOp,ho];refine fQ ?_;simp [Instr.alloc,h1,newVar,newRow,h2]
 ·simp at hm
theorem aJo(hS:SR Q σ X)(hB:X.B≤X.w.heap.size){a:Act}{regs:T}(hR:RR σ X regs a.tmps){o:Oper}{x:Arg}(hm:mOp Q σ o (.box x)=true){xs:List C}(hx:(x.ev regs).cells?=some xs) :
  jM Q σ X (.c (.ptr X.H.length 0 0)) (X.H++[.box xs 0]) (execOp a.eval o):=by
 simp only [mOp]at hm;split at hm
 ·rename_i t y ho;obtain⟨us,h2,h3⟩:=cells_ok (bH hR hm) hx;refine zT hS hB h3 t ?_;simp only [execOp,ho];refine fQ ?_;simp [Instr.box,newVar,newRow,h2]
 ·simp at hm
theorem kX{zs:List FC}{us:List Value}(h:A2 (CR σ X) (zs.map .f) us)(n:Nat):A2 (CR σ X) ((dw n zs).map .f) (dw n us):=by
 induction n with
 | zero=>exact A2.nil
 | succ n ih=>
  simp only [dw,List.replicate_succ,List.flatten_cons,List.map_append]at ih ⊢;exact h.append ih
theorem oz{α:Type}(n:Nat)(xs:List α):(dw n xs).length=n*xs.length:=by simp [dw]
theorem Gn{α:Type}(us:List α):∀(n i:Nat),i<n*us.length→(dw n us)[i]?=us[i % us.length]?
 | 0,i,h=>by simp at h
 | n+1,i,h=>by
  have h1:dw (n+1) us=us++dw n us:=by simp [dw,List.replicate_succ]
  rw [h1];by_cases hi:i<us.length
  ·rw [ae hi,Nat.mod_eq_of_lt hi]
  ·have h2:(n+1)*us.length=n*us.length+us.length:=by rw [bN];omega
   rw [bc (by omega),Gn us n (i-us.length) (by omega)]
   rw [←Nat.mod_eq_sub_mod (by omega)]
theorem jR(us:List Value)(n:Nat)(hn:0<us.length):((Array.range (n*us.length)).map fun i=>us.toArray[i % us.toArray.size]!)=(dw n us).toArray:=by
 apply Array.ext
 ·simp [oz]
 ·intro i h1 h2;have h3:i<n*us.length:=by simpa using h1
  have h4:=Gn us n i h3;have h5:i % us.length<us.length:=Nat.mod_lt _ hn;have h6:i<(dw n us).length:=by simpa using h2
  rw [ai h6,ai h5,aa]at h4;simp [h4,h5]
theorem QI(hS:SR Q σ X)(hB:X.B≤X.w.heap.size){a:Act}{regs:T}(hR:RR σ X regs a.tmps){o:Oper}{sz n:Nat}{zs:List FC}{ps:List (Nat × Arg)}
  (hm:mOp Q σ o (.aP sz zs n ps)=true) {v:V} {H':Heap} (h:xOp regs X.H (.aP sz zs n ps)=some (v,H')):jM Q σ X v H' (execOp a.eval o):=by
 simp only [mOp]at hm;split at hm
 ·rename_i t n' qs ho;simp only [ag,beq_iff_eq,decide_eq_true_eq]at hm;obtain⟨⟨⟨⟨rfl,hbig⟩,he⟩,hsz0⟩,hq⟩:=hm;obtain⟨e,hu,he⟩:=jP he;simp only [ag,decide_eq_true_eq]at he;obtain⟨⟨hsz,hz⟩,hzl⟩:=he;obtain⟨z,us,hz1,hz2,hz3,_⟩:=gV (σ:=σ) (X:=X) hz X.w;have hul:us.length=sz:=by have:=hz3.len;simp at this;omega
  simp only [xOp]at h;split at h
  ·
   rename_i hn;subst hn;split at h
   ·rename_i hps;simp only [aa,an]at h;obtain⟨rfl,rfl⟩:=h
    have hqs:qs.toList=[]:=by
     have:=(gQ hq).len;simp only [List.isEmpty_iff]at hps;rw [hps]at this;exact av this.symm
    have hqs:qs=#[]:=by apply Array.ext';simpa using hqs
    obtain⟨X',h1,h2,h3,h4,h5,h6⟩:∃ X':Wd,X'.w=X.w.alloc (.cells #[] e)∧X'.H=X.H∧SR Q σ X'∧Ext X.H.length X X'∧True∧X'.B≤X'.w.heap.size:=by
     have hx:Ext X.H.length X { X with w:=X.w.alloc (.cells #[] e) }:=Ext.one hS X.H.length rfl (fun _ _=>Iff.rfl) (fun k hk _=>(Adds.alloc _ _).old hk)
      (fun L i h=>by rw [SR.wL hS]at h;simp at h) (fun h=>by omega) (fun _ _ _=>rfl) (fun _ _=>rfl) (fun L h=>by rw [SR.wL hS]at h;simp at h) (by simp) rfl rfl rfl
     refine⟨{ X with w:=X.w.alloc (.cells #[] e) },rfl,rfl,SR.step Q σ hS hx X.H.length (fun _ _=>rfl) (fun _ _=>rfl) (fun b L _ hb=>(Adds.alloc _ _).old (hS.br b L hb).2.1)
      (fun _ _ _ _ _ h=>h) (fun L h=>by rw [SR.wL hS]at h;simp at h) (fun c i h=>?_),hx,trivial,?_⟩
     ·have:=hS.fb c i h;simp;omega
     ·simp;omega
    refine⟨.slice (some ⟨X.w.heap.size,0,none⟩) 0 0,X',.inl ?_,h2,h3,FCR.es _,h4,h6⟩;rw [h1];simp only [execOp,ho];refine fQ ?_;simp [Instr.buildSlice,aV hu,dJ hsz,hqs,Instr.fill,newRow,show Array.range 0=(#[]:Array Nat) from rfl]
   ·simp at h
  ·rename_i hn;simp only [am,an]at h;obtain⟨cs,hcs,rfl,rfl⟩:=h
   obtain⟨us',h5,h6⟩:=rZ (place:=fun i=>some (i*sz,sz)) (ps:=qs.toList) hR (qs:=ps.map fun p=>(p.1*sz,sz,p.2)) (A2.map ((gQ hq).weak fun q p hqp=>by
    simp only [ag,beq_iff_eq]at hqp
    exact⟨by rw [hqp.1],hqp.2⟩)) (kX hz3 n') hcs
   obtain⟨X',h1,h2,h3,h4,h7,h8⟩:=KZ hS hB h6 e;refine⟨.slice (some ⟨X.w.heap.size,0,none⟩) n' n',X',.inl ?_,h2,h3,?_,h4,h8⟩
   ·rw [h1];simp only [execOp,ho];refine fQ ?_
    have hnz:n'*sz≠0:=by
     intro h0;rcases dc.1 h0 with h0 | h0<;>omega
    have hze:=jR us n' (by omega)
    rw [hul]at hze;simp only [Instr.buildSlice,Sem.run_bind,aV hu,dJ hsz,Result.andThen_ok,if_neg (show¬ n'*sz>2 ^ 24 by omega),Sem.run_ite,if_neg hnz,hz1,Sem.run_pure,hz2]
    simp only [Array.toList_map];rw [hze];simp [h5,newRow]
   ·simp only [VR,VR1,CR,CR1,h2];simp;exact⟨_,h7,rfl⟩
 ·simp at hm
theorem OM:∀ {cs:List C} {fs:List FC},fcL cs=some fs→cs=fs.map .f
 | [],fs,h=>by simp [fcL]at h;subst h;rfl
 | c::cs,fs,h=>by
  cases c with
  | f x=>
   simp only [fcL,am]at h;obtain⟨gs,h1,rfl⟩:=h
   rw [OM h1];rfl
  | _=>simp [fcL]at h
theorem Dt(hS:SR Q σ X)(hB:X.B≤X.w.heap.size){a:Act}{regs:T}(hR:RR σ X regs a.tmps){o:Oper}{sz n:Nat}{zs:List FC}{ps:List (Nat × Arg)}
  (hm:mOp Q σ o (.jK sz zs n ps)=true) {v:V} {H H':Heap} (h:xOp regs H (.jK sz zs n ps)=some (v,H')) :
  H'=H∧∃ u X',(execOp a.eval o).run Q X.w=.ok (.value u) X'.w∧X'.H=X.H∧SR Q σ X'∧VR σ X' v u∧Ext X.H.length X X'∧X'.B≤X'.w.heap.size∧X'.rho=X.rho:=by
 simp only [mOp]at hm;split at hm
 ·rename_i t n' qs ho;simp only [ag,beq_iff_eq,decide_eq_true_eq]at hm;obtain⟨⟨⟨⟨rfl,hbig⟩,he⟩,hsz0⟩,hq⟩:=hm;obtain⟨e,hu,he⟩:=jP he;simp only [ag,decide_eq_true_eq]at he;obtain⟨⟨hsz,hz⟩,hzl⟩:=he;obtain⟨z,us,hz1,hz2,hz3,_⟩:=gV (σ:=σ) (X:=X) hz X.w;have hul:us.length=sz:=by have:=hz3.len;simp at this;omega
  simp only [xOp,am,ba,an]at h;obtain⟨fs,⟨cs,hcs,hfs⟩,rfl,rfl⟩:=h;split at hfs
  ·simp at hfs
  rename_i hn;have hcf:=OM hfs
  obtain⟨us',h5,h6⟩:=rZ (place:=fun i=>some (i*sz,sz)) (ps:=qs.toList) hR (qs:=ps.map fun p=>(p.1*sz,sz,p.2)) (A2.map ((gQ hq).weak fun q p hqp=>by
   simp only [ag,beq_iff_eq]at hqp
   exact⟨by rw [hqp.1],hqp.2⟩)) (kX hz3 n') hcs
  have hw:Adds X.w (X.w.alloc (.cells us'.toArray e)) (.cells us'.toArray e):=Adds.alloc _ _;obtain⟨w',hw'⟩:∃ w',w'=X.w.alloc (.cells us'.toArray e):=⟨_,rfl⟩;rw [←hw']at hw;have hfw:∀ c i,X.F c i→w'.cell? ⟨c,i,none⟩=X.w.cell? ⟨c,i,none⟩:=fun c i h=>World.cell?_of_block (hw.old (hS.fb c i h))
  have hx:Ext X.H.length X { X with w:=w',F:=fun c i=>X.F c i∨(c=X.w.heap.size∧i<us'.length) }:={
   B:=rfl
   F:=fun c i h=>.inl h
   vW:=fun c i h=>h.elim .inl fun h=>.inr (.inl (by rw [h.1];exact aq _))
   fw:=hfw
   keep:=fun b _ blk hb=>⟨blk,hb,by cases blk<;>simp⟩
   img:=fun b L h=>.inl ⟨b,L,h,rfl⟩
   size:=by show _≤w'.heap.size;rw [hw.size];omega
   os:=hw.os
   tape:=hw.tape
   output:=hw.output
   frame:=fun k hk _=>hw.old hk }
  refine⟨rfl,.slice (some ⟨X.w.heap.size,0,none⟩) n' n',{ X with w:=w',F:=fun c i=>X.F c i∨(c=X.w.heap.size∧i<us'.length) },?_,rfl,?_,?_,hx,?_,rfl⟩
  ·simp only [execOp,ho];refine fQ ?_
   have hnz:n'*sz≠0:=by
    intro h0;rcases dc.1 h0 with h0 | h0<;>omega
   have hze:=jR us n' (by omega)
   rw [hul]at hze;simp only [Instr.buildSlice,Sem.run_bind,aV hu,dJ hsz,Result.andThen_ok,if_neg (show¬ n'*sz>2 ^ 24 by omega),Sem.run_ite,if_neg hnz,hz1,Sem.run_pure,hz2]
   simp only [Array.toList_map];rw [hze];simp [h5,newRow,hw']
  ·exact SR.step Q σ hS hx X.H.length (fun _ _=>rfl) (fun _ _=>rfl) (fun b L _ hb=>hw.old (hS.br b L hb).2.1)
    (fun b L _ hb i h=>h.elim id fun h=>by have:=(hS.br b L hb).2.1;omega) (fun L h=>by change X.rho X.H.length=some L at h;rw [SR.wL hS]at h;simp at h)
    (fun c i h=>by
     show c<w'.heap.size
     rw [hw.size];rcases h with h | h
     ·have:=hS.fb c i h;omega
     ·omega)
  ·have hlen:us'.length=fs.length:=by have:=h6.len;rw [hcf]at this;simp at this;omega
   refine FCR.fs fs n' X.w.heap.size 0 n' us' (aq _) hlen (fun i hi=>.inr ⟨rfl,by omega⟩) (fun i u hu=>?_) fun i x u hx' hu=>?_
   ·show w'.cell? _=_
    rw [fK (show rowAt w' X.w.heap.size us' by rw [hw'];exact ou (Adds.alloc _ _)),Nat.zero_add];exact hu
   ·obtain⟨u',hu',hr⟩:=h6.get (i:=i) (x:=.f x) (by rw [hcf,b8,hx'];rfl)
    rw [hu]at hu';cases hu';exact FCR.mono (fun c i h=>.inl h) hfw hr
  ·show X.B≤w'.heap.size;rw [hw.size];omega
 ·simp at hm
end
section
variable{Q:Program}{σ:Nat→FuncId}{X:Wd}
theorem Gy{α:Type}(us rest:List α)(off:Nat)(vs:List α)(h:off+vs.length≤us.length):over (us++rest) off vs=over us off vs++rest:=by
 unfold over;rw [List.take_append_of_le_length (by omega),List.drop_append_of_le_length (by omega)]
 simp
theorem A2.one{cs:List C}{us:List Value}(h:A2 (CR σ X) cs us):∀ v ∈ us,v.oneCell'=true:=by
 intro v hv;obtain⟨i,hi⟩:=cd hv;have hlt:i<cs.length:=by rw [h.len];exact(ab.1 hi).1
 exact CR.one σ (h.2 i _ v (ai hlt) hi)
theorem FK(hS:SR Q σ X){b:Nat}{cs:List C}{fl:Nat}{L:Loc}(hb:X.H[b]?=some (.box cs fl))(hL:X.rho b=some L){xs:List C}{vs:List Value}(hx:A2 (CR σ X) xs vs){off:Nat}
  (hfl:fl≤off) (hl:off+xs.length≤cs.length):∃ X',(storeCells ⟨L.c,off,none⟩ vs).run Q X.w=.ok () X'.w∧X'.H=X.H.set b (.box (over cs off xs) fl)∧SR Q σ X'∧Ext X.H.length X X' ∧
   (∀ b,X'.rho b=X.rho b)∧X'.w.heap.size=X.w.heap.size∧X'.B=X.B:=by
 obtain⟨_,_,blk,hb',hbr⟩:=hS.br b L hL;rw [hb]at hb';simp only [aa]at hb';subst hb';obtain⟨us,hr,h2,h3⟩:=hbr;have hvl:=hx.len;have hul:=h2.len;obtain⟨s1,s2,s3,s4,s5,s6⟩:=kJ hr vs off (by omega)
 obtain⟨h4,h5⟩:=SR.turn hS (blk':=.box (over cs off xs) fl) hb hL s1 s2 (fun i hf=>by
   rw [fK s6,fK hr]
   have:i<off:=by
    rcases bR i off with h | h
    ·exact h
    ·exact absurd hf (h3 i (by omega))
   exact Gx us off vs (by omega) i this) s3 s4 s5
  (fun blk hblk=>⟨.box (over cs off xs) fl,by simp [(ab.1 hb).1],by rw [hb]at hblk;simp only [aa]at hblk;subst hblk;exact fun L h=>h⟩)
  (fun hx'=>⟨over us off vs,s6,A2.over (A2.ext' σ hx' h2) (A2.ext' σ hx' hx) off,h3⟩)
 exact⟨_,wH hr vs off (by omega) (A2.one hx),rfl,h4,h5,fun _=>rfl,s1,rfl⟩
theorem FI(hS:SR Q σ X){b:Nat}{sz:Nat}{cs:List C}{fl ep:Nat}{L:Loc}(hb:X.H[b]?=some (.opn sz cs fl ep .loc))(hL:X.rho b=some L){xs:List C}{vs:List Value}(hx:A2 (CR σ X) xs vs){off:Nat}
  (hfl:fl≤off) (hl:off+xs.length≤cs.length):∃ X',(storeCells ⟨L.c,off,none⟩ vs).run Q X.w=.ok () X'.w∧X'.H=X.H.set b (.opn sz (over cs off xs) fl ep .loc)∧SR Q σ X'∧Ext X.H.length X X' ∧
   (∀ b,X'.rho b=X.rho b)∧X'.w.heap.size=X.w.heap.size∧X'.B=X.B:=by
 obtain⟨_,_,blk,hb',hbr⟩:=hS.br b L hL;rw [hb]at hb';simp only [aa]at hb';subst hb';obtain⟨hst,us,rest,hr,h2,h6,h7,h8,h3⟩:=hbr;have hvl:=hx.len;have hul:=h2.len;obtain⟨s1,s2,s3,s4,s5,s6⟩:=kJ hr vs off (by simp;omega)
 rw [Gy _ _ _ _ (by omega)]at s6
 have hol:=Gw us off vs (by omega)
 obtain⟨h4,h5⟩:=SR.turn hS (blk':=.opn sz (over cs off xs) fl ep .loc) hb hL s1 s2 (fun i hf=>by
   rw [fK s6,fK hr]
   have:i<off:=by
    rcases bR i off with h | h
    ·exact h
    ·exact absurd hf (h3 i (by omega))
   rw [ae (by omega),ae (by omega)]
   exact Gx us off vs (by omega) i this) s3 s4 s5
  (fun blk hblk=>⟨.opn sz (over cs off xs) fl ep .loc,by simp [(ab.1 hb).1],by rw [hb]at hblk;simp only [aa]at hblk;subst hblk;exact⟨rfl,.inl ⟨rfl,rfl,fun L h=>h⟩⟩⟩)
  (fun hx'=>⟨rfl,over us off vs,rest,s6,A2.over (A2.ext' σ hx' h2) (A2.ext' σ hx' hx) off,by simp only [List.length_append]at h6 ⊢;omega,h7,by rw [Gw cs off xs hl];exact h8,h3⟩)
 exact⟨_,wH hr vs off (by simp;omega) (A2.one hx),rfl,h4,h5,fun _=>rfl,s1,rfl⟩
theorem UN(hS:SR Q σ X){x:C}{u:Value}(hx:CR σ X x u){xs:List C}{vs:List Value}(hxs:A2 (CR σ X) xs vs){H':Heap}(h:stC X.H x xs=some H') :
  ∃ c off X',u=.pointer (some ⟨c,off,none⟩)∧(storeCells ⟨c,off,none⟩ vs).run Q X.w=.ok () X'.w∧X'.H=H'∧SR Q σ X'∧Ext X.H.length X X'∧X'.w.heap.size=X.w.heap.size∧X'.B=X.B:=by
 unfold stC at h;split at h
 ·rename_i b off ep;obtain⟨L,hL,hx⟩:=hx;split at h
  ·rename_i cs fl hb;rw [hb]at hx;simp only at hx;subst hx;split at h
   ·rename_i hc;simp only [aa]at h;subst h;obtain⟨X',h1,h2,h3,h4,_,h5,h6⟩:=FK hS hb hL hxs hc.1 hc.2;exact⟨_,_,X',rfl,h1,h2,h3,h4,h5,h6⟩
   ·simp at h
  ·rename_i sz cs fl e hb;rw [hb]at hx;split at h
   ·rename_i hc;have hx:=hx.2.1 hc.1;subst hx;simp only [aa]at h;subst h;obtain⟨X',h1,h2,h3,h4,_,h5,h6⟩:=FI hS hb hL hxs hc.2.1 hc.2.2;exact⟨_,_,X',rfl,h1,h2,h3,h4,h5,h6⟩
   ·simp at h
  ·simp at h
 ·simp at h
theorem UK(hS:SR Q σ X)(hB:X.B≤X.w.heap.size){a:Act}{regs:T}(hR:RR σ X regs a.tmps){o:Oper}{n:Nat}{x y:Arg}(hm:mOp Q σ o (.store n x y)=true){v:V}{H':Heap}
  (h:xOp regs X.H (.store n x y)=some (v,H')):jM Q σ X v H' (execOp a.eval o):=by
 simp only [mOp]at hm;split at hm
 ·rename_i t x' y' ho;simp only [ag]at hm;obtain⟨⟨hn,hx⟩,hy⟩:=hm;have hx:=bH hR hx;have hy:=bH hR hy;simp only [xOp]at h;split at h
  ·rename_i p xs hp hxs;rw [hp]at hx;split at h
   ·rename_i hlen;simp only [am,an]at h;obtain⟨H2,hst,rfl,rfl⟩:=h;obtain⟨vs,hv,hxv⟩:=cells_ok hy hxs;obtain⟨c,off,X',hu,h1,h2,h3,h4,h5,h6⟩:=UN hS hx hxv hst;refine⟨undef,X',.inr ⟨?_,rfl⟩,h2,h3,trivial,h4,by omega⟩
    have hvl:=hxv.len;simp only [execOp,ho,Sem.run_bind]
    have:(Instr.storeAt t (a.eval x') (a.eval y')).run Q X.w=.ok () X'.w:=by
     rw [hu];simp [Instr.storeAt,Instr.sureAddr,storeVar,dJ hn,hv];rw [if_pos (by omega)]
     exact h1
    simp [this]
   ·simp at h
  ·simp at h
 ·simp at hm
end
end Km
