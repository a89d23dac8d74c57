/-
  Our own small machine for Go code by value, held ph the model: part 1. No program in AJ.
-/
import GoSem.Step
import GoSem.Dispatch
import GoSem.Machine.Exec
import Derived.Calls
import Derived.Laws.World
import Derived.Laws.Cells
import Derived.Laws.IdiomCopy
import Derived.Below
import Derived.Laws.Slices
import Derived.Laws.Strings
import Derived.Laws.StructEq
import Derived.Laws.BytesString
import Derived.Laws.Tables
import Derived.Laws.AppendOwn
open Option renaming some → aa,none → ab
open Bool renaming true → ae,false → ag
open Option.some renaming injEq → sh
open Bool renaming false_eq_true → acJ, and_eq_true → BY
open List renaming getElem?_eq_some_iff → If, getElem?_eq_getElem → By, getElem?_append_left → AT, getElem?_append_right → acR, getElem?_take → acX, getElem?_drop → acO, getElem?_map → adh, all_eq_true → acN, getElem?_of_mem → ac9, extract_eq_take_drop → adB, take_of_length_le → acS, foldl_cons → adY, length_cons → adf, take_succ_eq_append_getElem → aeh, eq_nil_of_length_eq_zero → acH, getElem?_set_ne → AI
open Nat renaming le_refl → IT, le_trans → acT, lt_of_lt_of_le → adb, add_mul → ac3, mul_eq_zero → aee, lt_or_ge → ac6
open Option renaming bind_eq_some_iff → acU, map_eq_some_iff → IN, bind_eq_bind → aep, bind_some → acY, map_some → ac8
open Prod.mk renaming injEq → IS
set_option linter.unusedVariables false
set_option linter.constructorNameAsVariable false
set_option linter.unusedSimpArgs false
set_option linter.unusedSectionVars false
set_option maxRecDepth 100000
namespace Km
open Go
theorem bV.{u}{α:Sort u}(a:α):∃ b,b=a:=⟨a,rfl⟩
theorem aU.{u}{c:Prop}{h:Decidable c}(b:¬c){α:Sort u}{t e:α}:(ite c t e)=e:=if_neg b
theorem bf.{u}{c:Prop}{h:Decidable c}(hc:c){α:Sort u}{t e:α}:(ite c t e)=t:=if_pos hc
inductive FC where
 | bool (b:Bool)
 | int (k:IntKind) (n:Int)
 | str (s:ByteArray)
 | lZ | ax | es | gl | kG | lY
 | fp (cs:List FC) (off:Nat)
 | fs (cs:List FC) (len:Nat)
 | fn (f:Nat) (Cs:List FC)
 deriving Inhabited
inductive C where
 | f (x:FC)
 | ptr (b off ep:Nat)
 | sl (b off len cap ep sz:Nat)
 | cl (f:Nat) (Cs:List C)
 | yl (b:Nat)
 | mp (b:Nat)
 | it (b:Nat)
 | bm (f:Nat) (first:List C)
 | mi (b:Nat)
 deriving Inhabited
inductive V where
 | top
 | c (x:C)
 | a (xs:List C)
 | t (xs:List V)
 deriving Inhabited
def Cm:Nat:=1000000007
def mV:C→V
 | .cl f cs=>if f=Cm then .a cs else .c (.cl f cs)| x=>.c x
def pW:V→Option C
 | .c (.cl f cs)=>if f=Cm then ab else aa (.cl f cs)| .c x=>aa x| .a cs=>aa (.cl Cm cs)| _=>ab
def zV:FC→V
 | .fn f zs=>if f=Cm then .a (zs.map .f)else .c (.f (.fn f zs))| z=>.c (.f z)
def oI:FC→List FC
 | .fn f zs=>if f=Cm then zs else [.fn f zs]| z=>[z]
def zy:FC→Bool
 | .fn f _=>decide (f=Cm)| _=>ag
theorem J3{v:V}{c:C}(h:pW v=aa c):mV c=v:=by
 cases v with
 | c x=>
  cases x<;>simp only [pW,sh]at h
  case cl f cs=>
   split at h
   ·cases h
   ·rename_i b;simp only [sh]at h;subst h;simp only [mV,aU b]
  all_goals (subst h;rfl)
 | a cs=>simp only [pW,sh]at h;subst h;simp [mV]| _=>simp [pW]at h
theorem W2{z:FC}(h:zy z=ae):zV z=.a ((oI z).map .f):=by
 cases z<;>simp only [zy,decide_eq_true_eq,reduceCtorEq,acJ]at h;simp only [zV,oI,bf h]
theorem W3{z:FC}(h:zy z=ag):zV z=.c (.f z)∧oI z=[z]:=by
 cases z<;>simp only [zy,decide_eq_false_iff_not]at h
 case fn f zs=>simp only [zV,oI,aU h,and_self]
 all_goals exact⟨rfl,rfl⟩
inductive Os where | loc | nil | es
 deriving DecidableEq,Inhabited
inductive P where
 | h
 | o (p:P)
 | i (p:P)
 deriving DecidableEq,Inhabited
def P.toNat:P→Nat
 | .h=>0| .o p=>2*p.toNat+1| .i p=>2*p.toNat+2
inductive T where
 | e
 | n (l:T) (v:V) (r:T)
 deriving Inhabited
def T.get:T→P→V
 | .e,_=>.top| .n _ v _,.h=>v| .n l _ _,.o p=>l.get p| .n _ _ r,.i p=>r.get p
def T.set:T→P→V→T
 | .e,.h,w=>.n .e w .e| .e,.o p,w=>.n (T.set .e p w) .top .e| .e,.i p,w=>.n .e .top (T.set .e p w)| .n l _ r,.h,w=>.n l w r| .n l v r,.o p,w=>.n (l.set p w) v r| .n l v r,.i p,w=>.n l v (r.set p w)
inductive Arg where
 | r (n:P)
 | k (v:V)
 deriving Inhabited
inductive CK where | bool | int | str
 deriving DecidableEq,Inhabited
inductive Ch where
 | bool | ptr | sl | fn | SU
 | st (ks:List CK)
 deriving Inhabited
inductive cj where
 | cb (x:Arg)
 | pre (o:Os) (sz:Nat)
 | pick (c a b:Arg)
 | alloc (zs:List FC)
 | box (x:Arg)
 | build (zs:List FC) (parts:List (Nat × Nat × Arg))
 | aZ (sz:Nat) (zs:List FC) (len:Nat) (parts:List (Nat × Arg))
 | load (n:Option Nat) (x:Arg)
 | store (n:Nat) (x y:Arg)
 | bp (x:Arg)
 | bin (op:BinOp) (x y:Arg)
 | eq (neg:Bool) (k:Ch) (x y:Arg)
 | un (op:UnOp) (x:Arg)
 | gF (k:IntKind) (x:Arg)
 | tx (x:Arg)
 | tw (x:Arg)
 | yk (x:Arg)
 | eT (f:Nat) (Cs:List Arg)
 | gW
 | lookup (ck:CK) (zero:FC) (m k:Arg)
 | iZ (ck:CK) (m k v:Arg)
 | dh (sz bytes:Nat) (zs:List FC) (l c:Arg)
 | slice (sz:Nat) (x:Arg) (lo hi mx:Option Arg)
 | lM (n sz:Nat) (x:Arg) (lo hi mx:Option Arg)
 | nA (x:Arg) (lo hi:Option Arg)
 | aJ (off:Nat) (x:Arg)
 | field (off:Nat) (n:Option Nat) (x:Arg)
 | bh (sz:Nat) (arr:Option Nat) (x i:Arg)
 | idxs (x i:Arg)
 | tJ (len sz:Nat) (n:Option Nat) (x i:Arg)
 | range (x:Arg)
 | next (x:Arg)
 | extract (x:Arg) (i:Nat)
 | call (f:Nat) (args:List Arg) (h:Bool)
 | bH (x:Arg) (args:List Arg) (h:Bool)
 | len (x:Arg)
 | qt (n:Nat)
 | lens (x:Arg)
 | cap (x:Arg)
 | append (sz bytes:Nat) (x y:Arg)
 | copy (sz:Nat) (x y:Arg)
 | dZ (lo:Bool) (xs:List Arg)
 | mF (sz bytes:Nat) (zs:List FC) (x n:Arg)
 | clear (sz:Nat) (zs:List FC) (x:Arg)
 | ik (x:Arg)
 | lG (x:Arg)
 | entry (x:Arg)
 | rG (f:Nat) (xs:List Arg)
 | qV (sz:Nat) (x hi mx:Arg)
 | fT (sz:Nat) (zs:List FC) (len:Nat) (parts:List (Nat × Arg))
 | recover
 | defer (x:Arg) (args:List Arg)
 | bad
 deriving Inhabited
def cj.Xc:cj→Bool
 | .fT ..=>ae| _=>ag
structure aH where
 dst:Option P
 op:cj
 g:Option (P × Bool):=ab
 deriving Inhabited
inductive ak where
 | skip
 | region (ops:List aH) (fC:List (Nat × Nat))
 | seq (a b:ak)
 | cond (c:Arg) (a b:ak)
 | block (id:Nat) (a:ak)
 | loop (a:ak)
 | dE (f:Arg) (ps:List P) (assign body:ak)
 | exit (id:Nat)
 | ret
 | bad
 | scope (a:ak)
 | label (l:Nat)
 | goto (l:Nat)
 deriving Inhabited
inductive eL where | ready | busy | done | exhausted
 deriving DecidableEq,Inhabited
inductive bK where
 | box (cs:List C) (fl:Nat)
 | bA (sz:Nat) (cs:List C) (fl ep:Nat) (st:Os)
 | map (es:List (FC × C))
 | it (s:ByteArray) (pos:Nat)
 | rk (m since:Nat) (done:Bool)
 | fk (open_:Bool)
 | lp (fn:Nat) (tmps:T) (ps:List P) (assign body:ak) (st:eL) (pending:Option ak) (fk:Nat)
 deriving Inhabited
abbrev aj:=List bK
inductive dm where
 | hY (b:Nat)
 | fn (f:Nat) (args:List V)
 deriving Inhabited
inductive fF where
 | tmp (t:P)
 | cell (t:P) (n:Option Nat)
 deriving Inhabited
structure aw where
 ps:List P
 results:List fF
 body:ak
 deriving Inhabited
def Arg.ev(al:T):Arg→V
 | .r n=>al.get n| .k v=>v
def V.int(k:IntKind)(n:Int):V:=.c (.f (.int k n))
def V.bool(b:Bool):V:=.c (.f (.bool b))
def bo(H:aj):C→Option (List C)
 | .ptr b off d=>match H[b]? with
  | some (.box cs _)=>aa (cs.drop off)| some (.bA _ cs _ e .loc)=>if d=e then aa (cs.drop off)else ab| _=>ab
 | .f (.fp cs off)=>aa ((cs.drop off).map .f)| _=>ab
def bY:Option Nat→List C→Option V
 | none,c::_=>aa (.c c)| none,[]=>ab| some n,cs=>if n≤cs.length then aa (.a (cs.take n))else ab
def dz(H:aj)(n:Option Nat):V→Option V
 | .c x=>(bo H x).bind (bY n)| _=>ab
def V.cells? : V→Option (List C)
 | .c x=>aa [x]| .a xs=>aa xs| _=>ab
def over{α:Type}(cs:List α)(off:Nat)(xs:List α):List α:=cs.take off++xs++cs.drop (off+xs.length)
def gD(H:aj)(x:C)(xs:List C):Option aj:=
 match x with
 | .ptr b off d=>match H[b]? with
  | some (.box cs fl)=>if fl≤off∧off+xs.length≤cs.length then aa (H.set b (.box (over cs off xs) fl))else ab| some (.bA sz cs fl e .loc)=>if d=e∧fl≤off∧off+xs.length≤cs.length then aa (H.set b (.bA sz (over cs off xs) fl e .loc))else ab| _=>ab
 | _=>ab
def bM(H:aj):C→Option Nat
 | .sl b _ l _ d sz=>match H[b]? with
  | some (.box _ _)=>aa l| some (.bA s _ _ e _)=>if d=e∧sz=s then aa l else ab| _=>ab
 | .f .ax=>aa 0| .f .es=>aa 0| .f (.fs _ l)=>aa l| _=>ab
def cW(H:aj)(sz:Nat):C→Option (List C)
 | .sl b o l _ d s=>match H[b]? with
  | some (.box cs _)=>if o+l*sz≤cs.length then aa ((cs.drop o).take (l*sz))else ab| some (.bA s' cs _ e _)=>if d=e∧s=s'∧o+l*sz≤cs.length then aa ((cs.drop o).take (l*sz))else ab| _=>ab
 | .f .ax=>aa []| .f .es=>aa []| .f (.fs cs l)=>if cs.length=l*sz then aa (cs.map .f)else ab| _=>ab
def aY{α β:Type}(g:α→Option β):List α→Option (List β)
 | []=>aa []
 | x::xs=>match g x with
  | none=>ab
  | some y=>match aY g xs with
   | none=>ab| some ys=>aa (y::ys)
def dI:Nat→aj→C→Option FC
 | _,_,.f x=>aa x| 0,_,_=>ab
 | n+1,H,.ptr b off _=>match H[b]? with
  | some (.box cs _)=>(aY (dI n H) cs).map (.fp · off)| _=>ab
 | n+1,H,.sl b o l _ g sz=>match H[b]? with
  | some (.box cs _)=>if o+l*sz≤cs.length then(aY (dI n H) ((cs.drop o).take (l*sz))).map (.fs · l)else ab| some (.bA s cs _ e .loc)=>if g=e∧sz=s∧o+l*sz≤cs.length then(aY (dI n H) ((cs.drop o).take (l*sz))).map (.fs · l)else ab| some (.bA s _ _ e .nil)=>if g=e∧sz=s then aa .ax else ab| some (.bA s _ _ e .es)=>if g=e∧sz=s then aa .es else ab| _=>ab
 | n+1,H,.cl f d=>(aY (dI n H) d).map (.fn f)| _+1,_,_=>ab
def db(n:Nat)(H:aj):V→Option V
 | .c x=>(dI n H x).map fun y=>.c (.f y)
 | .a xs=>(aY (dI n H) xs).map fun ys=>.a (ys.map .f)
 | _=>ab
def nE(n:Nat)(H:aj):V→Option V
 | .t b=>(aY (db n H) b).map .t| v=>db n H v
def lW:Nat→C→aj→aj
 | _,.f _,H=>H| 0,_,H=>H
 | n+1,.ptr b _ _,H=>match H[b]? with
  | some (.box cs fl)=>cs.foldl (fun H x=>lW n x H) (H.set b (.box cs (Nat.max fl cs.length)))
  | _=>H
 | n+1,.sl b o l _ _ sz,H=>match H[b]? with
  | some (.box cs fl)=>((cs.drop o).take (l*sz)).foldl (fun H x=>lW n x H) (H.set b (.box cs (Nat.max fl (o+l*sz))))
  | some (.bA s cs fl e g)=>((cs.drop o).take (l*sz)).foldl (fun H x=>lW n x H) (H.set b (.bA s cs (Nat.max fl (o+l*sz)) e g))
  | _=>H
 | n+1,.cl _ d,H=>d.foldl (fun H x=>lW n x H) H
 | _+1,_,H=>H
def Md(n:Nat)(H:aj):V→aj
 | .c x=>lW n x H| .a xs=>xs.foldl (fun H x=>lW n x H) H
 | _=>H
def hV(b:BinOp)(k:IntKind)(x y:Int):Option V:=
 match b with
 | .add=>aa (.int k (k.wrap (x+y)))| .sub=>aa (.int k (k.wrap (x-y)))| .mul=>aa (.int k (k.wrap (x*y)))| .quo=>if y=0 then ab else aa (.int k (k.wrap (x.tdiv y)))| .rem=>if y=0 then ab else aa (.int k (x.tmod y))| .and=>aa (.int k (k.wrap (BitVec.ofInt k.bits x &&& BitVec.ofInt k.bits y).toNat))| .or=>aa (.int k (k.wrap (BitVec.ofInt k.bits x ||| BitVec.ofInt k.bits y).toNat))| .xor=>aa (.int k (k.wrap (BitVec.ofInt k.bits x ^^^ BitVec.ofInt k.bits y).toNat))| .andNot=>aa (.int k (k.wrap (BitVec.ofInt k.bits x &&& ~~~ (BitVec.ofInt k.bits y)).toNat))| .eql=>aa (.bool (x == y))| .neq=>aa (.bool (x != y))| .lss=>aa (.bool (decide (x<y)))| .leq=>aa (.bool (decide (x≤y)))| .gtr=>aa (.bool (decide (x>y)))| .geq=>aa (.bool (decide (x≥y)))| _=>ab
def T8(b:BinOp)(x y:ByteArray):Option V:=
 match b with
 | .add=>if((x.size+y.size:Nat):Int)>IntKind.i64.max then ab else aa (.c (.f (.str (x++y))))| .eql=>aa (.bool (x.toList == y.toList))| .neq=>aa (.bool !(x.toList == y.toList))| .lss=>aa (.bool (Op.bytesLess x.toList y.toList))| .leq=>aa (.bool (Op.bytesLess x.toList y.toList||x.toList == y.toList))| .gtr=>aa (.bool !(Op.bytesLess x.toList y.toList||x.toList == y.toList))| .geq=>aa (.bool !(Op.bytesLess x.toList y.toList))| _=>ab
def DV:CK→C→C→Option Bool
 | .bool,.f (.bool a),.f (.bool b)=>aa (a == b)| .int,.f (.int k a),.f (.int k' b)=>if k=k' then aa (a == b)else ab| .str,.f (.str a),.f (.str b)=>aa (a == b)| _,_,_=>ab
def nR:List CK→List C→List C→Option Bool
 | [],[],[]=>aa ae
 | k::ks,x::xs,y::ys=>match DV k x y,nR ks xs ys with
  | some a,aa b=>aa (a&&b)| _,_=>ab
 | _,_,_=>ab
def isNil(H:aj):Ch→C→Option Bool
 | .ptr,.f .lZ=>aa ae| .ptr,.f (.fp _ _)=>aa ag| .ptr,.ptr _ _ _=>aa ag| .sl,.f .ax=>aa ae| .sl,.f .es=>aa ag| .sl,.f (.fs _ _)=>aa ag
 | .sl,.sl b _ _ _ d sz=>match H[b]? with
  | some (.box _ _)=>aa ag| some (.bA s _ _ e g)=>if d=e∧sz=s then aa (g == .nil)else ab| _=>ab
 | .fn,.f .gl=>aa ae| .fn,.f (.fn _ _)=>aa ag| .fn,.cl _ _=>aa ag| .fn,.bm _ _=>aa ag| .SU,.f .kG=>aa ae| _,_=>ab
def JH(H:aj):Ch→V→V→Option Bool
 | .bool,.c x,.c y=>DV .bool x y| .st ks,.a xs,.a ys=>nR ks xs ys| .ptr,.c x,.c (.f .lZ)=>isNil H .ptr x| .sl,.c x,.c (.f .ax)=>isNil H .sl x| .fn,.c x,.c (.f .gl)=>isNil H .fn x| .SU,.c x,.c (.f .kG)=>isNil H .SU x| _,_,_=>ab
def bt(op:BinOp)(x y:V):Option V:=
 match op,x,y with
 | .shl,.c (.f (.int k a)),.c (.f (.int _ b))=>if b<0 then ab else aa (.int k (k.wrap (a*2 ^ (min b.toNat k.bits))))| .shr,.c (.f (.int k a)),.c (.f (.int _ b))=>if b<0 then ab else aa (.int k (a.fdiv (2 ^ (min b.toNat k.bits))))| op,.c (.f (.int k a)),.c (.f (.int k' b))=>if k=k' then hV op k a b else ab| op,.c (.f (.str a)),.c (.f (.str b))=>T8 op a b| _,_,_=>ab
def unV(d:UnOp)(x:V):Option V:=
 match d,x with
 | .neg,.c (.f (.int k n))=>aa (.int k (k.wrap (0-n)))| .not,.c (.f (.bool b))=>aa (.bool !b)| _,_=>ab
def fK:V→Option Int
 | .c (.f (.int _ n))=>aa n| _=>ab
def uQ(x:V)(y:Nat):Option Nat:=
 match fK x with
 | some i=>if 0≤i∧i≤y then aa i.toNat else ab| none=>ab
def bw(len cap:Nat)(lo b mx:Option V):Option (Nat × Nat × Nat):=do
 let m ←match mx with
  | some v=>uQ v cap| none=>aa cap
 let h ←match b,mx with
  | some v,_=>uQ v m| none,ab=>aa len| none,aa _=>ab
 let l ←match lo with
  | some v=>uQ v h| none=>aa 0
 pure (l,h,m)
def dL(H:aj)(sz:Nat)(x:V)(lo d mx:Option V):Option V:=
 match x with
 | .c (.f .ax)=>match bw 0 0 lo d mx with
  | some _=>aa (.c (.f .ax))| none=>ab
 | .c (.f .es)=>match bw 0 0 lo d mx with
  | some _=>aa (.c (.f .es))| none=>ab
 | .c (.f (.fs cs n))=>match bw n n lo d mx with
  | some (l,h,m)=>
   if mx.isSome∧m=l then aa (.c (.f .es))else
   aa (.c (.f (.fs ((cs.drop (l*sz)).take ((h-l)*sz)) (h-l))))
  | none=>ab
 | .c (.sl b o n cap g s)=>match H[b]? with
  | some (.box _ _)=>match bw n cap lo d mx with
   | some (l,h,m)=>if m=l then aa (.c (.f .es))else aa (.c (.sl b (o+l*sz) (h-l) (m-l) g s))| none=>ab
  | some (.bA s' _ _ e j)=>
   if g=e∧s=sz∧s'=sz then
    match j with
    | .loc=>match bw n n lo d mx with
     | some (l,h,m)=>
      if mx.isSome∧m=l then aa (.c (.f .es))
      else if l=h∧0<l then aa (.c (.f (.fs [] 0)))
      else if mx.isSome then ab
      else aa (.c (.sl b (o+l*sz) (h-l) 0 g s))
     | none=>ab
    | .nil=>match bw 0 0 lo d mx with
     | some _=>aa (.c (.f .ax))| none=>ab
    | .es=>match bw 0 0 lo d mx with
     | some _=>aa (.c (.f .es))| none=>ab
   else ab
  | _=>ab
 | _=>ab
def qY(x:V)(lo b:Option V):Option V:=
 match x with
 | .c (.f (.str s))=>match bw s.size s.size lo b ab with
  | some (l,h,_)=>aa (.c (.f (.str (s.extract l h))))| none=>ab
 | _=>ab
def il(H:aj)(n sz:Nat)(x:V)(lo d mx:Option V):Option V:=
 match x with
 | .c (.ptr b off _)=>match H[b]? with
  | some (.box cs _)=>match bw n n lo d mx with
   | some (l,h,m)=>if off+n*sz≤cs.length then(if m=l then aa (.c (.f .es))else aa (.c (.sl b (off+l*sz) (h-l) (m-l) 0 sz)))else ab| none=>ab
  | _=>ab
 | .c (.f (.fp cs off))=>match bw n n lo d mx with
   | some (l,h,m)=>if off+n*sz≤cs.length then(if m=l then aa (.c (.f .es))else aa (.c (.f (.fs ((cs.drop (off+l*sz)).take ((h-l)*sz)) (h-l)))))else ab| none=>ab
 | _=>ab
def a6(H:aj)(sz:Nat)(g:Option Nat)(x i:V):Option V:=
 match fK i with
 | none=>ab
 | some i=>
  if 0≤i then
   match g,x with
   | none,.c (.sl b o l _ d s)=>if i<l then
     (match H[b]? with
      | some (.box _ _)=>aa (.c (.ptr b (o+i.toNat*sz) d))| some (.bA s' _ _ e .loc)=>if d=e∧s=s' then aa (.c (.ptr b (o+i.toNat*sz) d))else ab
      | _=>ab)else ab
   | none,.c (.f (.fs cs l))=>if i<l then aa (.c (.f (.fp cs (i.toNat*sz))))else ab| some n,.c (.ptr b o d)=>if i<n then aa (.c (.ptr b (o+i.toNat*sz) d))else ab| some n,.c (.f (.fp cs o))=>if i<n then aa (.c (.f (.fp cs (o+i.toNat*sz))))else ab| _,_=>ab
  else ab
def gh(off:Nat):V→Option V
 | .c (.ptr b o d)=>aa (.c (.ptr b (o+off) d))| .c (.f (.fp cs o))=>aa (.c (.f (.fp cs (o+off))))| _=>ab
def nS(off:Nat)(n:Option Nat):V→Option V
 | .a xs=>bY n (xs.drop off)| _=>ab
def vW(x i:V):Option V:=
 match x,fK i with
 | .c (.f (.str s)),aa i=>if 0≤i then(s[i.toNat]?).map fun b=>.int .u8 b.toNat else ab
 | _,_=>ab
def vV(len sz:Nat)(n:Option Nat)(x i:V):Option V:=
 match x,fK i with
 | .a xs,aa i=>if 0≤i∧i<len then bY n (xs.drop (i.toNat*sz))else ab| _,_=>ab
def Ae(H:aj):V→Option (V × aj)
 | .c (.it b)=>match H[b]? with
  | some (.it s pos)=>
   if pos<s.size then
    let r:=Utf8.decode s pos
    aa (.t [.bool ae,.int .i64 pos,.int .i32 r.1],H.set b (.it s (pos+r.2)))
   else aa (.t [.bool ag],H)
  | _=>ab
 | _=>ab
def bB(need bytes:Nat):Bool:=decide ((2*need+768)*bytes≤2 ^ 48)&&decide (need<2 ^ 48)
def dC(H:aj)(sz:Nat):V→Option (Nat × List C)
 | .c (.f (.str s))=>if sz=1 then aa (s.size,s.toList.map fun b=>.f (.int .u8 b.toNat))else ab
 | .c x=>match bM H x,cW H sz x with
  | some l,aa cs=>aa (l,cs)| _,_=>ab
 | _=>ab
def bJ(H:aj)(sz bytes:Nat)(x y:V):Option (V × aj):=
 match dC H sz y with
 | none=>ab
 | some (m,ys)=>
  if sz=0 then ab else
  match x with
  | .c (.f .ax)=>if m=0 then aa (.c (.f .ax),H)else
    if bB m bytes then aa (.c (.sl H.length 0 m 0 0 sz),H++[.bA sz ys 0 0 .loc])else ab
  | .c (.f .es)=>if m=0 then aa (.c (.f .es),H)else
    if bB m bytes then aa (.c (.sl H.length 0 m 0 0 sz),H++[.bA sz ys 0 0 .loc])else ab
  | .c (.sl b o l cap d s)=>match H[b]? with
   | some (.box cs fl)=>
    if l+m≤cap then
     if fl≤o+l*sz∧o+l*sz+ys.length≤cs.length then aa (.c (.sl b o (l+m) cap d s),H.set b (.box (over cs (o+l*sz) ys) fl))else ab
    else if bB (l+m) bytes∧o+l*sz≤cs.length then aa (.c (.sl H.length 0 (l+m) 0 0 sz),H++[.bA sz ((cs.drop o).take (l*sz)++ys) 0 0 .loc])else ab
   | some (.bA s' cs fl e g)=>
    if d=e∧s'=sz∧s=sz then
     if m=0 then aa (x,H)
     else if o=0∧l*sz=cs.length∧fl≤cs.length then
      if bB (l+m) bytes then aa (.c (.sl b 0 (l+m) 0 (d+1) sz),H.set b (.bA sz (cs++ys) fl (e+1) .loc))else ab
     else if g=.loc∧fl≤o+l*sz∧o+l*sz+ys.length≤cs.length then
      aa (.c (.sl b o (l+m) 0 d sz),H.set b (.bA sz (over cs (o+l*sz) ys) fl e .loc))
     else ab
    else ab
   | _=>ab
  | _=>ab
def copyV(H:aj)(sz:Nat)(x y:V):Option (V × aj):=
 match dC H sz y,x with
 | some _,.c (.f .ax)=>aa (.int .i64 0,H)| some _,.c (.f .es)=>aa (.int .i64 0,H)
 | some (m,ys),.c (.sl b o l _ d s')=>
  let n:=Nat.min m l
  match H[b]? with
  | some (.box cs fl)=>if fl≤o∧o+n*sz≤cs.length then aa (.int .i64 n,H.set b (.box (over cs o (ys.take (n*sz))) fl))else ab| some (.bA s cs fl e .loc)=>if d=e∧s'=s∧s=sz∧fl≤o∧o+n*sz≤cs.length then aa (.int .i64 n,H.set b (.bA s (over cs o (ys.take (n*sz))) fl e .loc))else ab| _=>ab
 | _,_=>ab
def lF(H:aj):V→Option V
 | .c x=>match bM H x with
  | some _=>match cW H 1 x with
   | some cs=>(aY (fun c=>match c with | C.f (.int .u8 n)=>aa (UInt8.ofNat n.toNat) | _=>ab) cs).map fun l=>.c (.f (.str ⟨l.toArray⟩))
   | none=>ab
  | none=>ab
 | _=>ab
def cT(al:T)(cs:List C):List (Nat × Nat × Arg)→Option (List C)
 | []=>aa cs
 | (off,n,x)::rest=>match (x.ev al).cells? with
  | some xs=>if xs.length=n∧off+xs.length≤cs.length then cT al (over cs off xs) rest else ab| none=>ab
def cK(al:T)(xs:List Arg):List V:=xs.map (·.ev al)
def o7:V→Option C
 | .c (.cl _ _)=>ab| .c (.bm _ _)=>ab| .c x=>aa x| _=>ab
def bX{α:Type}(n:Nat)(xs:List α):List α:=(List.replicate n xs).flatten
def eqK:CK→FC→FC→Option Bool
 | .int,.int k a,.int k' b=>if k=k' then aa (a == b)else ab| .str,.str a,.str b=>aa (a == b)| .bool,.bool a,.bool b=>aa (a == b)| _,_,_=>ab
def ot(b:CK)(k:FC):List (FC × C)→Option (Option C)
 | []=>aa ab
 | e::d=>match eqK b k e.1 with
  | some ae=>aa (aa e.2)| some ag=>ot b k d| none=>ab
def sH(b:CK)(k:FC)(v:C):List (FC × C)→Option (List (FC × C))
 | []=>aa [(k,v)]
 | e::d=>match eqK b k e.1 with
  | some ae=>aa ((k,v)::d)| some ag=>(sH b k v d).map (e::·)| none=>ab
def isKey:CK→FC→Bool
 | .int,.int _ _=>ae| .str,.str _=>ae| .bool,.bool _=>ae| _,_=>ag
def o_:FC→Option FC
 | .fp [z] 77=>aa z| _=>ab
def UN(z:FC)(r:Option C):V:=match o_ z with
 | some z0=>.t [(r.map mV).getD (zV z0),.c (.f (.bool r.isSome))]| none=>(r.map mV).getD (zV z)
def gk(H:aj)(d:CK)(z:FC):V→V→Option V
 | .c (.f .lY),.c (.f k)=>if isKey d k then aa (UN z ab)else ab
 | .c (.mp b),.c (.f k)=>match H[b]? with
  | some (.map g)=>if isKey d k then(ot d k g).map (UN z)else ab| _=>ab
 | _,_=>ab
def jU(H:aj):C→Option Nat
 | .sl b _ _ c d sz=>match H[b]? with
  | some (.box _ _)=>aa c| some (.bA s _ _ e .nil)=>if d=e∧sz=s then aa 0 else ab| some (.bA s _ _ e .es)=>if d=e∧sz=s then aa 0 else ab| _=>ab
 | .f .ax=>aa 0| .f .es=>aa 0| _=>ab
def wg(lo:Bool)(x y:V):Option V:=
 match x,y with
 | .c (.f (.int k a)),.c (.f (.int _ b))=>aa (.int k (if lo then(if b<a then b else a)else(if b>a then b else a)))| _,_=>ab
def qy(lo:Bool):V→List V→Option V
 | x,[]=>aa x
 | x,y::ys=>match wg lo x y with
  | some z=>qy lo z ys| none=>ab
def wh(lo:Bool):List V→Option V
 | []=>ab| x::xs=>qy lo x xs
def lV(H:aj)(sz:Nat)(zs:List FC)(x:V):Option aj:=
 match x with
 | .c y=>match bM H y with
  | some 0=>aa H
  | some l=>
   if zs.length=sz then
    match y with
    | .sl b o _ _ d s=>match H[b]? with
     | some (.box _ _)=>gD H (.ptr b o d) ((bX l zs).map .f)| some (.bA s' _ _ e .loc)=>if d=e∧s=s' then gD H (.ptr b o d) ((bX l zs).map .f)else ab| _=>ab
    | _=>ab
   else ab
  | none=>ab
 | _=>ab
def zL(H:aj)(sz bytes:Nat)(zs:List FC)(x n:V):Option (V × aj):=
 match fK n with
 | some n=>
  if 0≤n∧zs.length=sz then
   match x with
   | .c (.f .ax)=>if n.toNat=0 then aa (.c (.f .ax),H)else
     if bB n.toNat bytes then aa (.c (.sl H.length 0 n.toNat 0 0 sz),H++[.bA sz ((bX n.toNat zs).map .f) 0 0 .loc])else ab
   | .c (.f .es)=>if n.toNat=0 then aa (.c (.f .es),H)else
     if bB n.toNat bytes then aa (.c (.sl H.length 0 n.toNat 0 0 sz),H++[.bA sz ((bX n.toNat zs).map .f) 0 0 .loc])else ab
   | _=>ab
  else ab
 | none=>ab
def YR:C→Option FC
 | .f x=>aa x| _=>ab
def w7(H:aj)(sz:Nat)(x d mx:V):Option (V × aj):=
 match dL H sz x ab (aa d) (aa mx)with
 | some v=>aa (v,H)
 | none=>match x with
  | .c (.sl b o n _ g s)=>match H[b]? with
   | some (.bA s' cs fl e .loc)=>
    if g=e∧s=sz∧s'=sz∧o=0 then
     match uQ d n,uQ mx n with
     | some i,aa j=>
      if i=j∧0<i∧i*sz≤cs.length then
       match aY YR (cs.take (i*sz))with
       | some ys=>aa (.c (.f (.fs ys i)),H.set b (.bA s' cs (Nat.max fl (i*sz)) e .loc))| none=>ab
      else ab
     | _,_=>ab
    else ab
   | _=>ab
  | _=>ab
def tX(H:aj):V→Option (V × aj)
 | .c (.mi b)=>match H[b]? with
  | some (.rk m d done)=>match H[m]? with
   | some (.map [])=>if done then ab else aa (.t [.bool ag],H)| some (.map [e])=>if done then aa (.t [.bool ag],H)else if d=1 then aa (.t [.bool ae,.c (.f e.1),mV e.2],H.set b (.rk m 1 ae))else ab| _=>ab
  | _=>ab
 | _=>ab
def jx(H:aj):V→Option V
 | .c (.mi b)=>match H[b]? with
  | some (.rk m _ ae)=>match H[m]? with
   | some (.map [e])=>aa (.t [.c (.f e.1),mV e.2])| _=>ab
  | _=>ab
 | _=>ab
def pD(H:aj):V→Option (V × aj)
 | .c (.mp b)=>match H[b]? with
  | some (.map d)=>if d.length≤1 then aa (.c (.mi H.length),H++[.rk b d.length ag])else ab| _=>ab
 | _=>ab
def Py:List C→Option (List FC)
 | []=>aa []| .f x::xs=>(Py xs).map (x::·)| _::_=>ab
def aW(al:T)(H:aj):cj→Option (V × aj)
 | .cb x=>aa (x.ev al,H)| .pre o sz=>if o=.loc∨sz=0 then ab else aa (.c (.sl H.length 0 0 0 0 sz),H++[.bA sz [] 0 0 o])
 | .pick c a b=>match c.ev al with
  | .c (.f (.bool v))=>aa ((if v then a else b).ev al,H)| _=>ab
 | .alloc zs=>aa (.c (.ptr H.length 0 0),H++[.box (zs.map .f) 0])
 | .box x=>match (x.ev al).cells? with
  | some xs=>aa (.c (.ptr H.length 0 0),H++[.box xs 0])| none=>ab
 | .build zs ps=>(cT al (zs.map .f) ps).map fun cs=>(.a cs,H)
 | .aZ sz zs n ps=>
  if n=0 then(if ps.isEmpty then aa (.c (.f .es),H)else ab)else
  (cT al ((bX n zs).map .f) (ps.map fun p=>(p.1*sz,sz,p.2))).map fun cs=>(.c (.sl H.length 0 n n 0 sz),H++[.box cs 0])
 | .load n x=>(dz H n (x.ev al)).map (·,H)
 | .store n x y=>match x.ev al,(y.ev al).cells? with
  | .c p,aa xs=>if xs.length=n then(gD H p xs).map (.top,·)else ab| _,_=>ab
 | .bp x=>match x.ev al with
  | .c (.ptr b o e)=>aa (.c (.ptr b o e),H)| .c (.f (.fp cs o))=>aa (.c (.f (.fp cs o)),H)| _=>ab
 | .bin A x y=>(bt A (x.ev al) (y.ev al)).map (·,H)| .eq neg k x y=>(JH H k (x.ev al) (y.ev al)).map fun b=>(.bool (if neg then !b else b),H)
 | .un A x=>(unV A (x.ev al)).map (·,H)
 | .gF k x=>match x.ev al with
  | .c (.f (.int _ n))=>aa (.int k (k.wrap n),H)| _=>ab
 | .tx x=>match x.ev al with
  | .c (.f (.str s))=>aa (.c (.f (.str s)),H)| _=>ab
 | .tw x=>(lF H (x.ev al)).map (·,H)
 | .yk x=>match x.ev al with
  | .c (.f (.str s))=>if s.size<2 ^ 48 then aa (.c (.sl H.length 0 s.size 0 0 1),H++[.bA 1 (s.toList.map fun b=>.f (.int .u8 b.toNat)) 0 0 .loc])else ab
  | _=>ab
 | .eT f g=>(aY o7 (cK al g)).map fun xs=>(.c (.cl f xs),H)
 | .gW=>aa (.c (.mp H.length),H++[.map []])| .lookup j z m k=>(gk H j z (m.ev al) (k.ev al)).map (·,H)
 | .iZ j m k v=>match m.ev al,k.ev al,pW (v.ev al)with
  | .c (.mp b),.c (.f k),aa v=>match H[b]? with
   | some (.map u)=>if isKey j k then(sH j k v u).map fun u=>(.top,H.set b (.map u))else ab
   | _=>ab
  | _,_,_=>ab
 | .dh sz bytes zs l c=>match fK (l.ev al),fK (c.ev al)with
  | some l,aa c=>
   if 0≤l∧l≤c∧bB c.toNat bytes=ae∧zs.length=sz then
    (if c=0 then aa (.c (.f .es),H)else
    aa (.c (.sl H.length 0 l.toNat c.toNat 0 sz),H++[.box ((bX c.toNat zs).map .f) 0]))
   else ab
  | _,_=>ab
 | .slice sz x lo d mx=>(dL H sz (x.ev al) (lo.map (·.ev al)) (d.map (·.ev al)) (mx.map (·.ev al))).map (·,H)| .lM n sz x lo d mx=>(il H n sz (x.ev al) (lo.map (·.ev al)) (d.map (·.ev al)) (mx.map (·.ev al))).map (·,H)| .nA x lo d=>(qY (x.ev al) (lo.map (·.ev al)) (d.map (·.ev al))).map (·,H)| .aJ off x=>(gh off (x.ev al)).map (·,H)| .field off n x=>(nS off n (x.ev al)).map (·,H)| .bh sz q x i=>(a6 H sz q (x.ev al) (i.ev al)).map (·,H)| .idxs x i=>(vW (x.ev al) (i.ev al)).map (·,H)| .tJ len sz n x i=>(vV len sz n (x.ev al) (i.ev al)).map (·,H)
 | .range x=>match x.ev al with
  | .c (.f (.str s))=>aa (.c (.it H.length),H++[.it s 0])| _=>ab
 | .next x=>Ae H (x.ev al)
 | .extract x i=>match x.ev al with
  | .t E=>(E[i]?).map (·,H)| _=>ab
 | .qt n=>aa (.int .i64 n,H)
 | .lens x=>match x.ev al with
  | .c (.f (.str s))=>aa (.int .i64 (s.size:Nat),H)| _=>ab
 | .len x=>match x.ev al with
  | .c y=>match bM H y with
   | some n=>aa (.int .i64 (n:Nat),H)| none=>ab
  | _=>ab
 | .append sz bytes x y=>bJ H sz bytes (x.ev al) (y.ev al)| .copy sz x y=>copyV H sz (x.ev al) (y.ev al)| .dZ lo xs=>(wh lo (cK al xs)).map (·,H)| .clear sz zs x=>(lV H sz zs (x.ev al)).map (.t [],·)| .mF sz bytes zs x n=>zL H sz bytes zs (x.ev al) (n.ev al)| .ik x=>pD H (x.ev al)| .lG x=>tX H (x.ev al)| .entry x=>(jx H (x.ev al)).map (·,H)| .fT sz zs n ps=>((cT al ((bX n zs).map .f) (ps.map fun p=>(p.1*sz,sz,p.2))).bind fun cs=>if n=0 then ab else Py cs).map fun B=>(.c (.f (.fs B n)),H)
 | .qV sz x d mx=>w7 H sz (x.ev al) (d.ev al) (mx.ev al)| .rG f xs=>(aY o7 (cK al xs)).map fun xs=>(.c (.bm f xs),H)
 | .cap x=>match x.ev al with
  | .c y=>match jU H y with
   | some n=>aa (.int .i64 (n:Nat),H)| none=>ab
  | _=>ab
 | _=>ab
inductive Callee where
 | fn (f:Nat)
 | yield (b:Nat)
abbrev bQ:=Callee→List V→aj→Option (V × aj)
def deep:Nat:=64
def dD(call:bQ)(c:Nat)(args:List V)(H:aj):Option (V × aj):=
 match aY (db deep H) args with
 | none=>ab
 | some d=>match call (.fn c) d []with
  | none=>ab
  | some (r,b)=>match nE deep b r with
   | none=>ab| some r'=>aa (r',args.foldl (Md deep) H)
def bG:V→List V→Option (Callee × List V)
 | .c (.f (.fn f d)),args=>aa (.fn f,args++d.map fun x=>.c (.f x))
 | .c (.cl f d),args=>aa (.fn f,args++d.map .c)| .c (.yl b),args=>aa (.yield b,args)| .c (.bm f first),args=>aa (.fn f,first.map .c++args)
 | _,_=>ab
def ff(call:bQ)(h:Bool)(c:Nat)(args:List V)(H:aj):Option (V × aj):=
 if h then call (.fn c) args H else dD call c args H
structure St where
 al:T
 defs:List dm
 heap:aj
def gK(al:T)(d:Option P)(v:V):T:=
 match d with
 | some d=>al.set d v| none=>al
def dO(call:bQ)(s:St)(op:cj):Option (V × St):=
 match op with
 | .call f args h=>(ff call h f (cK s.al args) s.heap).map fun r=>(r.1,{ s with heap:=r.2 })
 | .bH x args _=>match bG (x.ev s.al) (cK s.al args)with
  | some (c,args)=>(call c args s.heap).map fun r=>(r.1,{ s with heap:=r.2 })
  | none=>ab
 | .recover=>aa (.c (.f .kG),s)
 | .defer x args=>match bG (x.ev s.al) (cK s.al args)with
  | some (.fn f,args)=>aa (.top,{ s with defs:=.fn f args::s.defs })
  | _=>ab
 | op=>(aW s.al s.heap op).map fun r=>(r.1,{ s with heap:=r.2 })
def oM{α:Type}(f:α→α→Bool):List α→List α→Bool
 | [],[]=>ae| x::xs,y::ys=>f x y&&oM f xs ys| _,_=>ag
def FC.beq:Nat→FC→FC→Bool
 | _,.bool a,.bool b=>a == b| _,.int j a,.int k b=>decide (j=k)&&a == b| _,.str a,.str b=>decide (a=b)| _,.lZ,.lZ | _,.ax,.ax | _,.es,.es | _,.gl,.gl | _,.kG,.kG | _,.lY,.lY=>ae| n+1,.fp xs o,.fp ys o'=>o == o'&&oM (FC.beq n) xs ys| n+1,.fs xs l,.fs ys d=>l == d&&oM (FC.beq n) xs ys| n+1,.fn f xs,.fn g ys=>f == g&&oM (FC.beq n) xs ys| _,_,_=>ag
def C.beq:C→C→Bool
 | .f a,.f b=>FC.beq 64 a b| .ptr a b c,.ptr a' j l=>a == a'&&b == j&&c == l| .sl a b c d e g,.sl a' j l m q g'=>a == a'&&b == j&&c == l&&d == m&&e == q&&g == g'| .mp a,.mp b=>a == b| _,_=>ag
def V.beq:V→V→Bool
 | .c x,.c y=>x.beq y| .a xs,.a ys=>xs.length == ys.length&&(xs.zip ys).all fun p=>p.1.beq p.2
 | _,_=>ag
def wanted(al:T):Option (P × Bool)→Option Bool
 | none=>aa ae
 | some (r,w)=>match al.get r with
  | .c (.f (.bool b))=>aa (b == w)| .t []=>aa ag| _=>ab
def eo(call:bQ)(s:St)(o:aH):Option St:=
 match wanted s.al o.g with
 | some ae=>match dO call s o.op with
  | some (v,s')=>aa { s' with al:=gK s'.al o.dst v }
  | none=>ab
 | some ag=>aa { s with al:=gK s.al o.dst (.t []) }
 | none=>ab
def ej(call:bQ):List aH→St→Option St
 | [],s=>aa s
 | o::os,s=>match eo call s o with
  | some s'=>ej call os s'| none=>ab
def di(call:bQ):List aH→St→Option (List St)
 | [],s=>aa [s]
 | o::os,s=>match eo call s o with
  | some s'=>match di call os s' with
   | some b=>aa (s::b)| none=>ab
  | none=>ab
def sameAt(ops:List aH)(b:List St)(c:Nat × Nat):Bool:=
 match ops[c.1]?,b[c.1]?,b[c.2]? with
 | some o,aa s,aa s'=>match wanted s.al o.g with
  | some ag=>ae
  | _=>match aW s.al s.heap o.op,aW s.al s'.heap o.op with
   | some (v,_),aa (d,_)=>v.beq d| _,_=>ag
 | _,_,_=>ag
def eI(call:bQ)(ops:List aH)(b:List (Nat × Nat))(s:St):Option St:=
 match b with
 | []=>ej call ops s
 | _=>match di call ops s with
  | some d=>if b.all (sameAt ops d)then d.getLast? else ab| none=>ab
def cj.dA:cj→Bool
 | .defer _ _ | .recover=>ag| _=>ae
inductive ca where
 | code (c:ak)
 | inBlock (id:Nat)
 | inLoop (c:ak)
 | fZ (b:Nat)
 | ke
 | inScope (a:ak)
def exitTo(id:Nat):List ca→Option (List ca)
 | []=>ab| .inBlock b::k=>if b == id then aa k else exitTo id k| _::k=>exitTo id k
def findLabel:ak→Nat→Option ak
 | .seq a b,l=>match findLabel a l with
  | some rest=>aa (.seq rest b)| none=>findLabel b l
 | .label d,l=>if d == l then aa .skip else ab| _,_=>ab
def gotoIn(l:Nat):List ca→Option (List ca)
 | []=>ab
 | .inScope body::k=>match findLabel body l with
  | some rest=>aa (.code rest::.inScope body::k)| none=>gotoIn l k
 | _::k=>gotoIn l k
def C.dW(n:Nat):C→Bool
 | .f _=>ae| .ptr b _ _=>decide (b<n)| .sl b _ _ _ _ _=>decide (b<n)| .cl _ _=>ag| .yl b=>decide (b<n)| .mp b=>decide (b<n)| .it b=>decide (b<n)| .mi b=>decide (b<n)| .bm _ _=>ag
def C.under(n:Nat):C→Bool
 | .cl _ d=>d.all (·.dW n)| .f _=>ae| .ptr b _ _=>decide (b<n)| .sl b _ _ _ _ _=>decide (b<n)| .yl b=>decide (b<n)| .mp b=>decide (b<n)| .it b=>decide (b<n)| .mi b=>decide (b<n)| .bm _ first=>first.all (·.dW n)
def run(call:bQ)(fn:Nat):Nat→Option Nat→List ca→St→Option (Option ak × St)
 | 0,_,_,_=>ab
 | m+1,j,q,s=>
  match q with
  | []=>aa (ab,s)| .inBlock _::k=>run call fn m j k s| .inLoop c::k=>run call fn m j (.code c::.inLoop c::k) s
  | .fZ b::k=>match s.heap[b]? with
   | some (.lp f tmps ps as bd x pending d)=>
    if x=.busy then ab else
    let s:={ s with heap:=s.heap.set b (.lp f tmps ps as bd .exhausted pending d) }
    match pending with
    | none=>run call fn m j k s| some .ret=>run call fn m j (.code .ret::k) s| some (.exit id)=>run call fn m j (.code (.exit id)::k) s| some _=>ab
   | _=>ab
  | .ke::k=>match j with
   | none=>ab
   | some b=>match s.heap[b]? with
    | some (.lp f tmps ps as bd .ready pending d)=>run call fn m j k { s with heap:=s.heap.set b (.lp f tmps ps as bd .busy pending d) }
    | _=>ab
  | .code .skip::k=>run call fn m j k s| .inScope _::k=>run call fn m j k s| .code (.label _)::k=>run call fn m j k s| .code (.scope a)::k=>run call fn m j (.code a::.inScope a::k) s
  | .code (.goto l)::k=>match gotoIn l k with
   | some k=>run call fn m j k s| none=>ab
  | .code .bad::_=>ab| .code .ret::_=>aa (aa .ret,s)
  | .code (.exit id)::k=>match exitTo id k with
   | some k=>run call fn m j k s| none=>if j.isSome then aa (aa (.exit id),s)else ab
  | .code (.seq a b)::k=>run call fn m j (.code a::.code b::k) s| .code (.block id a)::k=>run call fn m j (.code a::.inBlock id::k) s| .code (.loop a)::k=>run call fn m j (.code a::.inLoop a::k) s
  | .code (.cond c a b)::k=>match c.ev s.al with
   | .c (.f (.bool v))=>run call fn m j (.code (if v then a else b)::k) s| _=>ab
  | .code (.region ops u)::k=>
   if j.isSome&&!ops.all (·.op.dA)then ab else
   match eI call ops u s with
   | some s=>run call fn m j k s| none=>ab
  | .code (.dE f ps as bd)::k=>
   if j.isSome then ab else
   let d:=s.heap.length
   let H:=s.heap++[.fk ae,.lp fn s.al ps as bd .ready ab d]
   match bG (f.ev s.al) [.c (.yl (d+1))]with
   | some (.fn g,args)=>match call (.fn g) args H with
    | some (_,H)=>run call fn m j (.fZ (d+1)::k) { al:=s.al,defs:=.hY d::s.defs,heap:=H }| none=>ab
   | _=>ab
def oa:Nat:=1000000000
def cV(call:bQ):List dm→aj→Option aj
 | [],H=>aa H
 | .hY b::ds,H=>match H[b]? with
  | some (.fk ae)=>cV call ds (H.set b (.fk ag))| _=>ab
 | .fn f args::ds,H=>if f=oa then ab else match call (.fn f) args H with
  | some (_,H)=>cV call ds H| none=>ab
def cD(al:T)(H:aj):fF→Option V
 | .tmp t=>match al.get t with
  | .t _=>ab| v=>aa v
 | .cell t n=>dz H n (al.get t)
def results(al:T)(H:aj)(b:List fF):Option V:=
 match aY (cD al H) b with
 | some [v]=>aa v| some d=>aa (.t d)| none=>ab
def bP:List P→List V→T→T
 | p::ps,v::b,al=>bP ps b (al.set p v)| _,_,al=>al
def dx(tab:Nat→Option aw)(g:Nat→List V→aj→Option (Option (V × aj)))(m:Nat):Nat→bQ
 | 0,_,_,_=>ab
 | d+1,.fn f,args,H=>
  match g f args H with
  | some r=>r
  | none=>match tab f with
   | none=>ab
   | some q=>if args.length=q.ps.length then match run (dx tab g m d) f m ab [.code q.body] ⟨bP q.ps args .e,[],H⟩with
    | some (_,s)=>match cV (dx tab g m d) s.defs s.heap with
     | some H=>(results s.al H q.results).map (·,H)| none=>ab
    | none=>ab
    else ab
 | d+1,.yield b,args,H=>
  match H[b]? with
  | some (.lp f tmps ps as bd _ _ _)=>
   if args.length=ps.length then
    match run (dx tab g m d) f m (aa b) [.code as,.ke,.code bd] ⟨bP ps args tmps,[],H⟩with
    | some (j,s)=>
     if s.defs.isEmpty then
      match s.heap[b]? with
      | some (.lp y l v as' u _ _ x)=>aa (.bool j.isNone,s.heap.set b (.lp y l v as' u (if j.isNone then .ready else .done) j x))| _=>ab
     else ab
    | none=>ab
   else ab
  | _=>ab
section
variable(Q:Program)(σ:Nat→FuncId)
def U1:Value→Bool
 | .agg _ | .tuple _=>ag| _=>ae
def T5:Value→Bool
 | .agg _=>ae| _=>ag
def Y8:FC→Value→Bool
 | .bool a,.bool b=>a == b| .int j a,.int k b=>decide (j=k)&&decide (a=b)| .str a,.string b=>decide (a=b)| .lZ,.pointer ab=>ae| .ax,.slice ab 0 0=>ae| .gl,.nilFunc=>ae| .kG,.nilIface=>ae| .lY,.map ab=>ae| _,_=>ag
def eC{α β:Type}(f:α→β→Bool):List α→List β→Bool
 | [],[]=>ae| x::xs,y::ys=>f x y&&eC f xs ys| _,_=>ag
def mK:V→Value→Bool
 | .c (.f x),v=>Y8 x v| .a xs,.agg us=>eC (fun x u=>match x with | C.f x=>Y8 x u | _=>ag) xs us.toList
 | .top,.tuple us=>us.isEmpty| _,_=>ag
def mA:Arg→Operand→Bool
 | .r p,.tmp t=>p.toNat == t| .k v,.const u=>mK v u| .k (.c (.f (.fn f []))),.func g=>σ f == g| _,_=>ag
def Mb(xs:List Arg)(ys:Array Operand):Bool:=eC (mA σ) xs ys.toList
def mO:Option Arg→Option Operand→Bool
 | none,ab=>ae| some x,aa y=>mA σ x y| _,_=>ag
def cM(t:TypeId)(n:Nat):Bool:=(Q.info? t).any fun i=>i.size == n
def kQ(t:TypeId)(n:Nat):Bool:=(Q.info? t).any fun i=>i.bytes == n
def jh(t:TypeId)(zs:List FC):Bool:=(Q.info? t).any fun i=>match i.zero with
 | some z=>eC Y8 zs z.cells.toList| none=>ag
def q9(t:TypeId)(n:Option Nat):Bool:=match Q.underlying t,n with
 | some (.struct _),aa n | some (.array _ _),aa n=>cM Q t n| some (.struct _),ab | some (.array _ _),ab=>ag| some _,ab=>ae| _,_=>ag
def fW:Nat→TypeId→Option (List CK)
 | 0,_=>ab
 | d+1,t=>match Q.underlying t with
  | some .bool=>if cM Q t 1 then aa [.bool]else ab| some (.int _)=>if cM Q t 1 then aa [.int]else ab| some .string=>if cM Q t 1 then aa [.str]else ab
  | some (.struct fs)=>if Q.stoodInHeld t then ab else match mR (fW d) 0 fs.toList with
   | some ks=>if cM Q t ks.length then aa ks else ab| none=>ab
  | _=>ab
 where
 mR (rec:TypeId→Option (List CK)) (off:Nat):List Field→Option (List CK)
  | []=>aa []
  | f::fs=>if f.name≠ "_"∧f.offset=off then match rec f.type with
    | some ks=>match mR rec (off+ks.length) fs with
     | some r=>aa (ks++r)| none=>ab
    | none=>ab
   else ab
def oT:Operand→Bool
 | .const _=>ae| _=>ag
def mEq(k:Ch)(t:TypeId)(x y:Operand):Bool:=match Q.underlying t,k with
 | some .bool,.bool | some (.pointer _),.ptr | some (.slice _),.sl | some (.func _ _ _),.fn=>ae| some (.interface _),.SU=>oT x||oT y| some (.struct _),.st ks=>decide (fW Q 20 t=aa ks)&&!Q.eqGuardType Q.depth t| _,_=>ag
def ko(t:TypeId):Option TypeId:=match Q.underlying t with
 | some (.slice e)=>aa e| _=>ab
def Y2(t:TypeId):Bool:=match Q.underlying t with
 | some (.int .u8)=>ae| _=>ag
def dk(c:Call):cj→Bool
 | .len x=>match c.callee,c.args.toList,c.argTypes.toList with
  | .builtin .len,[y],[t]=>mA σ x y&&(match Q.underlying t with | some (.slice _)=>ae | _=>ag)
  | _,_,_=>ag
 | .lens x=>match c.callee,c.args.toList,c.argTypes.toList with
  | .builtin .len,[y],[t]=>mA σ x y&&(match Q.underlying t with | some .string=>ae | _=>ag)
  | _,_,_=>ag
 | .qt n=>match c.callee,c.args.toList,c.argTypes.toList with
  | .builtin .len,[_],[t]=>(match Q.underlying t with | some (.array m _)=>decide (n=m) | _=>ag)
  | _,_,_=>ag
 | .append sz bytes x y=>match c.callee,c.args.toList,c.argTypes.toList with
  | .builtin .append,[u,v],[t,b]=>mA σ x u&&mA σ y v&&(ko Q t).any (fun e=>cM Q e sz&&kQ Q e bytes&&decide (0<sz)&&(Q.info? e).any (fun i=>i.zero.any fun z=>decide (z.cells.size=sz)))
    && (match Q.underlying b with | some .string=>ae | some (.slice _)=>ae | _=>ag)
  | _,_,_=>ag
 | .mF sz bytes zs x y=>match c.callee,c.args.toList,c.argTypes.toList with
  | .builtin .append,[u,v],[t,b]=>mA σ x u&&mA σ y v&&(ko Q t).any (fun e=>cM Q e sz&&kQ Q e bytes&&decide (0<sz)&&jh Q e zs)
    && (match Q.underlying b with | some (.int _)=>ae | _=>ag)
  | _,_,_=>ag
 | .copy sz x y=>match c.callee,c.args.toList,c.argTypes.toList with
  | .builtin .copy,[u,v],[t,_]=>mA σ x u&&mA σ y v&&(ko Q t).any (fun e=>cM Q e sz)
  | _,_,_=>ag
 | .dZ lo xs=>match c.callee,lo with
  | .builtin .max,ag | .builtin .min,ae=>Mb σ xs c.args| _,_=>ag
 | .cap x=>match c.callee,c.args.toList,c.argTypes.toList with
  | .builtin .cap,[y],[t]=>mA σ x y&&(match Q.underlying t with | some (.slice _)=>ae | _=>ag)
  | _,_,_=>ag
 | .clear sz zs x=>match c.callee,c.args.toList,c.argTypes.toList with
  | .builtin .clear,[y],[t]=>mA σ x y&&(ko Q t).any (fun e=>cM Q e sz&&jh Q e zs)
  | _,_,_=>ag
 | .recover=>match c.callee with
  | .builtin .recover=>ae| _=>ag
 | .call f xs _=>match c.callee with
  | .value (.func g)=>σ f == g&&Mb σ xs c.args| _=>ag
 | .bH x xs _=>match c.callee with
  | .value y=>mA σ x y&&Mb σ xs c.args| _=>ag
 | _=>ag
def CT(b:CK)(t:TypeId):Bool:=match Q.underlying t,b with
 | some (.int _),.int | some .string,.str | some .bool,.bool=>ae| _,_=>ag
def J2(t:TypeId)(qs:List (Nat × Nat × Arg))(ps:List (Nat × Operand)):Bool:=match Q.underlying t with
 | some (.struct b)=>match b.toList.mapM (fun f=>(Q.info? f.type).map fun i=>(f.offset,i.size))with
  | some d=>eC (fun(q:Nat × Nat × Arg) (p:Nat × Operand)=>decide (d[p.1]?=aa (q.1,q.2.1))&&mA σ q.2.2 p.2) qs ps
  | none=>ag
 | some (.array _ e)=>match Q.info? e with
  | some i=>eC (fun(q:Nat × Nat × Arg) (p:Nat × Operand)=>i.size == q.2.1&&q.1 == p.1*q.2.1&&mA σ q.2.2 p.2) qs ps
  | none=>ag
 | _=>ag
def df(o:Oper)(a:cj):Bool:=match a with
 | .bad=>ae| .cb y=>(match o.op with | .move x | .assign x=>mA σ y x | _=>ag)
 | .pre .nil sz=>(match o.op with | .move (.const (.slice ab 0 0)) | .assign (.const (.slice ab 0 0))=>decide (0<sz) | _=>ag)
 | .pick N A J=>(match o.op with | .pick c x y=>mA σ N c&&mA σ A x&&mA σ J y | _=>ag)
 | .alloc zs=>(match o.op with | .alloc t=>jh Q t zs | _=>ag)
 | .box y=>(match o.op with | .box _ x=>mA σ y x | _=>ag)
 | .build zs qs=>(match o.op with | .build t ps=>jh Q t zs&&J2 Q σ t qs ps.toList | _=>ag)
 | .aZ sz zs F qs=>(match o.op with | .buildSlice t n ps=>n == F&&decide (n*sz≤2 ^ 24)&&(ko Q t).any (fun e=>cM Q e sz&&jh Q e zs&&decide (zs.length=sz))&&decide (0<sz)&&eC (fun(q:Nat × Arg) (p:Nat × Operand)=>q.1 == p.1&&mA σ q.2 p.2) qs ps.toList | _=>ag)
 | .fT sz zs F qs=>(match o.op with | .buildSlice t n ps=>n == F&&decide (n*sz≤2 ^ 24)&&(ko Q t).any (fun e=>cM Q e sz&&jh Q e zs&&decide (zs.length=sz))&&decide (0<sz)&&eC (fun(q:Nat × Arg) (p:Nat × Operand)=>q.1 == p.1&&mA σ q.2 p.2) qs ps.toList | _=>ag)
 | .load n y=>(match o.op with | .load t x=>q9 Q t n&&mA σ y x | _=>ag)
 | .store n A J=>(match o.op with | .store t x y=>cM Q t n&&mA σ A x&&mA σ J y | _=>ag)
 | .bp y=>(match o.op with | .nilCheck x=>mA σ y x | _=>ag)
 | .bin I A J=>(match o.op with | .binOp L t x y _=>decide (L=I)&&mA σ A x&&mA σ J y | _=>ag)
 | .eq neg k A J=>(match o.op with | .binOp L t x y _=>decide (L=if neg then .neq else .eql)&&mA σ A x&&mA σ J y&&mEq Q k t x y | _=>ag)
 | .un I y=>(match o.op with | .unOp L _ x=>decide (L=I)&&mA σ y x | _=>ag)
 | .gF k y=>(match o.op with | .convert s d x=>mA σ y x&&(Q.underlying s).isSome&&(match Q.underlying d with | some (.int k')=>decide (k=k') | _=>ag) | _=>ag)
 | .tx y=>(match o.op with | .convert s d x=>mA σ y x&&(match Q.underlying s,Q.underlying d with | some .string,aa .string=>ae | _,_=>ag) | _=>ag)
 | .tw y=>(match o.op with | .convert s d x=>mA σ y x&&(match Q.underlying s,Q.underlying d with | some (.slice e),aa .string=>Y2 Q e&&cM Q e 1 | _,_=>ag) | _=>ag)
 | .eT g ys=>(match o.op with | .makeFunc (.func f) fst B=>fst.isEmpty&&σ g == f&&Mb σ ys B | _=>ag)
 | .gW=>(match o.op with | .makeMap _ ab=>ae | _=>ag)
 | .dh sz bytes zs W N=>(match o.op with | .makeSlice t l c=>mA σ W l&&mA σ N c&&(ko Q t).any (fun e=>cM Q e sz&&kQ Q e bytes&&jh Q e zs)&&decide (0<sz) | _=>ag)
 | .slice sz y E b mx'=>(match o.op with | .slice t x lo H mx=>mA σ y x&&mO σ E lo&&mO σ b H&&mO σ mx' mx&&(ko Q t).any (fun e=>cM Q e sz)&&decide (0<sz) | _=>ag)
 | .qV sz y b mx'=>(match o.op with | .slice t x ab (aa H) (aa mx)=>mA σ y x&&mA σ b H&&mA σ mx' mx&&(ko Q t).any (fun e=>cM Q e sz)&&decide (0<sz) | _=>ag)
 | .nA y E b=>(match o.op with | .slice t x lo H ab=>mA σ y x&&mO σ E lo&&mO σ b H&&(match Q.underlying t with | some .string=>ae | _=>ag) | _=>ag)
 | .lM n sz y E b mx'=>(match o.op with | .slice t x lo H mx=>mA σ y x&&mO σ E lo&&mO σ b H&&mO σ mx' mx&&(match Q.underlying t with | some (.array F e)=>n == F&&cM Q e sz | _=>ag)&&decide (0<sz) | _=>ag)
 | .aJ off y=>(match o.op with | .fieldAddr t x i=>mA σ y x&&(match Q.underlying t with | some (.struct S)=>(match S[i]? with | some f=>f.offset == off&&(Q.info? f.type).any (fun i=>i.size != 0) | none=>ag) | _=>ag) | _=>ag)
 | .field off n y=>(match o.op with | .field t x i=>mA σ y x&&(match Q.underlying t with | some (.struct S)=>(match S[i]? with | some f=>f.offset == off&&q9 Q f.type n | none=>ag) | _=>ag) | _=>ag)
 | .bh sz M A K=>(match o.op with | .indexAddr t x i=>mA σ A x&&mA σ K i&&(match Q.underlying t,M with | some (.slice e),ab=>cM Q e sz | some (.array n e),aa F=>n == F&&cM Q e sz | _,_=>ag) | _=>ag)
 | .idxs A K=>(match o.op with | .index t x i=>mA σ A x&&mA σ K i&&(match Q.underlying t with | some .string=>ae | _=>ag) | _=>ag)
 | .tJ n sz k A K=>(match o.op with | .index t x i=>mA σ A x&&mA σ K i&&(match Q.underlying t with | some (.array F e)=>n == F&&cM Q e sz&&q9 Q e k | _=>ag) | _=>ag)
 | .lookup O z U k'=>(match o.op with | .lookup t m k X=>mA σ U m&&mA σ k' k&&(X ==(o_ z).isSome)&&(match Q.underlying t with | some (.map kt e)=>CT Q O kt&&jh Q e (oI ((o_ z).getD z))&&(Q.info? e).any (fun i=>i.zero.any fun u=>if zy ((o_ z).getD z)then T5 u else U1 u) | _=>ag) | _=>ag)
 | .iZ O U k' Y=>(match o.op with | .mapUpdate t m k v=>mA σ U m&&mA σ k' k&&mA σ Y v&&(match Q.underlying t with | some (.map kt _)=>CT Q O kt | _=>ag) | _=>ag)
 | .range y=>(match o.op with | .range t x=>mA σ y x&&(match Q.underlying t with | some .string=>ae | _=>ag) | _=>ag)
 | .next y=>(match o.op with | .next x ae=>mA σ y x | _=>ag)
 | .extract y j=>(match o.op with | .extract x i=>mA σ y x&&i == j | _=>ag)
 | .defer x xs=>(match o.op with | .defer c=>(match c.callee with | .value y=>mA σ x y&&Mb σ xs c.args | _=>ag) | _=>ag)
 | .len x=>(match o.op with | .call c=>dk Q σ c (.len x) | _=>ag)
 | .lens x=>(match o.op with | .call c=>dk Q σ c (.lens x) | _=>ag)
 | .qt n=>(match o.op with | .call c=>dk Q σ c (.qt n) | _=>ag)
 | .append sz bytes x y=>(match o.op with | .call c=>dk Q σ c (.append sz bytes x y) | _=>ag)
 | .dZ lo xs=>(match o.op with | .call c=>dk Q σ c (.dZ lo xs) | _=>ag)
 | .mF sz bytes zs x y=>(match o.op with | .call c=>dk Q σ c (.mF sz bytes zs x y) | _=>ag)
 | .cap x=>(match o.op with | .call c=>dk Q σ c (.cap x) | _=>ag)
 | .clear sz zs x=>(match o.op with | .call c=>dk Q σ c (.clear sz zs x) | _=>ag)
 | .ik y=>(match o.op with | .range t x=>mA σ y x&&(match Q.underlying t with | some (.map _ _)=>ae | _=>ag) | _=>ag)
 | .lG y=>(match o.op with | .next x ag=>mA σ y x | _=>ag)
 | .entry y=>(match o.op with | .entry x=>mA σ y x | _=>ag)
 | .rG g ys=>(match o.op with | .makeFunc (.func f) fst B=>B.isEmpty&&σ g == f&&Mb σ ys fst | _=>ag)
 | .recover=>(match o.op with | .call c=>dk Q σ c (.recover) | _=>ag)
 | .call f xs h=>(match o.op with | .call c=>dk Q σ c (.call f xs h) | _=>ag)
 | .bH x xs h=>(match o.op with | .call c=>dk Q σ c (.bH x xs h) | _=>ag)
 | _=>ag
inductive Cls where | p | r | a | c | w
 deriving DecidableEq
def cls:cj→Cls
 | .cb _ | .pick .. | .build .. | .un .. | .gF .. | .tx _ | .eT .. | .nA .. | .aJ .. | .field .. | .idxs .. | .tJ .. | .extract .. | .dZ .. | .rG .. | .bp _ | .bin .. | .qt _ | .lens _ | .fT ..=>.p| .load .. | .eq .. | .len _ | .slice .. | .lM .. | .bh .. | .lookup .. | .tw _ | .cap _ | .entry _=>.r| .alloc _ | .box _ | .gW=>.a| .aZ .. | .dh ..=>.a| .call _ _ ag=>.c| _=>.w
def Arg.rd:Arg→List P
 | .r p=>[p]| .k _=>[]
def U0:Option Arg→List P
 | some x=>x.rd| none=>[]
def cj.rd:cj→List P
 | .cb x | .box x | .load _ x | .bp x | .un _ x | .gF _ x | .tx x | .tw x | .yk x | .aJ _ x | .field _ _ x | .range x | .next x | .extract x _ | .len x | .lens x | .cap x | .clear _ _ x | .ik x | .lG x | .entry x=>x.rd| .pre _ _ | .alloc _ | .gW | .recover | .qt _ | .bad=>[]| .pick c a b=>c.rd++a.rd++b.rd| .build _ ps=>ps.flatMap fun p=>p.2.2.rd
 | .aZ _ _ _ ps | .fT _ _ _ ps=>ps.flatMap fun p=>p.2.rd
 | .store _ x y | .bin _ x y | .eq _ _ x y | .bh _ _ x y | .idxs x y | .tJ _ _ _ x y | .append _ _ x y | .copy _ x y | .mF _ _ _ x y | .lookup _ _ x y | .dh _ _ _ x y=>x.rd++y.rd| .iZ _ x y z | .qV _ x y z=>x.rd++y.rd++z.rd| .eT _ xs | .call _ xs _ | .dZ _ xs | .rG _ xs=>xs.flatMap Arg.rd| .bH x xs _ | .defer x xs=>x.rd++xs.flatMap Arg.rd| .slice _ x a b c | .lM _ _ x a b c=>x.rd++U0 a++U0 b++U0 c| .nA x a b=>x.rd++U0 a++U0 b
def aH.rd(o:aH):List P:=(match o.g with | some (p,_)=>[p] | none=>[])++o.op.rd
def aH.apart(x y:aH):Bool:=
 (match x.dst with | some d=>!y.rd.contains d&&y.dst != aa d | none=>ae)&&(match y.dst with | some d=>!x.rd.contains d | none=>ae)
def qa(x y:aH):Bool:=
 match cls x.op,cls y.op with
 | .p,_ | _,.p=>ae| .r,.w | .w,.r=>ae| .w,_ | _,.w=>ag| _,_=>ae
def kD(b:List Nat)(o:Oper):Nat:=o.after.toList.foldl (fun s e=>if Region.binds .any e then s ||| 2 ^ e.on ||| b.getD e.on 0 else s) 0
def cR:List Oper→List Nat→List Nat
 | [],b=>b| o::os,b=>cR os (b++[kD b o])
def uP(b:List Nat)(i j:Nat):Bool:=(b.getD j 0).testBit i
def lx(aos:List aH):List Nat:=(List.range aos.length).filter fun j=>match aos[j]? with
 | some y=>decide (cls y.op=.w)| none=>ag
def phase(aos:List aH)(i:Nat):Nat:=i+((aos.drop i).takeWhile fun y=>decide (cls y.op≠.w)).length
def Ac(b:List Nat)(aos:List aH)(i e:Nat):Bool:=
 (lx aos).all fun j=>if j<e then !uP b i j else !uP b j i
def Pm(b:List Nat)(aos:List aH)(j:Nat):Bool:=match aos[j]? with
 | some y=>(match y.op with | .alloc _=>ae | _=>ag)&&(lx aos).any fun e=>decide (e<j)&&!uP b e j
 | none=>ag
def iV(b:List Nat)(aos:List aH):Nat:=((List.range aos.length).find? (Pm b aos)).getD aos.length
def zT(b:List Nat)(aos:List aH)(j:Nat):Bool:=match aos[j]? with
 | some y=>y.g.isNone&&(match y.op with | .alloc _=>ae | _=>ag)&&(match y.dst with
  | some p=>(List.range aos.length).all fun i=>match aos[i]? with
   | some z=>!z.rd.contains p||(lx aos).all fun e=>!decide (e<j)||uP b e i
   | none=>ae
  | none=>ag)
 | none=>ae
def Kk(ops:List Oper)(aos:List aH)(d:List (Nat × Nat)):Bool:=
 let b:=cR ops []
 let n:=aos.length
 ((ops.zip (List.range n)).all fun o=>o.1.after.toList.all fun e=>!Region.binds .any e||decide (e.on<o.2)) &&
 ((List.range n).all fun j=>(List.range j).all fun i=>uP b i j||(match aos[i]?,aos[j]? with
  | some x,aa y=>x.apart y&&(qa x y||(decide (j=iV b aos)&&decide (cls x.op=.w)))
  | _,_=>ag)) &&
 zT b aos (iV b aos) &&
 ((List.range n).all fun i=>match aos[i]? with
  | some x=>if cls x.op=.r then(lx aos++[n]).all fun e=>e == phase aos i||!Ac b aos i e||d.contains (i,e)else ae
  | none=>ag)
variable(Q:Program)(σ:Nat→FuncId)
def iY(n:Nat)(ops:Array Oper)(o:Oper)(a:aH):Bool:=
 df Q σ o a.op &&
 (match o.dst,a.dst with | some d,aa p=>p.toNat == d&&decide (d<n) | none,ab=>ae | _,_=>ag) &&
 (match o.guard,a.g with
  | some (j,w),aa (p,w')=>w == w'&&(match (ops[j]?).bind (·.dst)with | some d=>p.toNat == d&&decide (d<n) | none=>ag)
  | none,ab=>ae
  | _,_=>ag)
def jK:ak→Bool
 | .seq a b=>jK a&&jK b| .bad=>ag| _=>ae
def bD(n:Nat):Code→ak→Bool
 | _,.bad=>ae| .skip,.skip=>ae| .region _ ops g,.region aos j=>eC (iY Q σ n ops) ops.toList aos&&(!g||Kk ops.toList aos j)| .seq a b,.seq a' d=>bD n a a'&&bD n b d| .cond c a b,.cond v a' d=>mA σ v c&&bD n a a'&&bD n b d| .block i a,.block m a'=>i == m&&bD n a a'| .loop a,.loop a'=>bD n a a'| .rangeFunc f ps a b,.dE x u a' d=>mA σ x f&&eC (fun p (q:P)=>q.toNat == p&&decide (p<n)) ps.toList u&&bD n a a'&&bD n b d
 | .exit i,.exit m=>i == m| .scope a,.scope a'=>bD n a a'&&jK a'| .label l,.label s=>l == s| .goto l,.goto s=>l == s| .ret,.ret=>ae| _,_=>ag
def tR(n:Nat):ResultVar→fF→Bool
 | .tmp t,.tmp p=>p.toNat == t&&decide (t<n)| .cell t b,.cell p k=>p.toNat == t&&decide (t<n)&&q9 Q b k| _,_=>ag
def Aa(f:Func)(a:aw):Bool:=
 f.name != "runtime.NumGoroutine" &&
 (match f.body with | some b=>bD Q σ f.ntmps b a.body | none=>ag) &&
 eC (tR Q f.ntmps) f.results.toList a.results &&
 decide (a.ps.map P.toNat=List.range a.ps.length)
end
section
def A2{α β:Type}(R:α→β→Prop)(xs:List α)(ys:List β):Prop:=
 xs.length=ys.length∧∀(i:Nat) x y,xs[i]?=aa x→ys[i]?=aa y→R x y
section A2
variable{α β:Type}{R S:α→β→Prop}{xs xs':List α}{ys ys':List β}
theorem A2.len(h:A2 R xs ys):xs.length=ys.length:=h.1
theorem A2.nil:A2 R [] []:=⟨rfl,by simp⟩
theorem A2.mono(h:A2 R xs ys)(d:∀ x y,x ∈ xs→R x y→S x y):A2 S xs ys:=
 ⟨h.1,fun i x y b hy=>d x y (List.mem_of_getElem? b) (h.2 i x y b hy)⟩
theorem A2.get(h:A2 R xs ys){i:Nat}{x:α}(b:xs[i]?=aa x):∃ y,ys[i]?=aa y∧R x y:=by
 have d:i<xs.length:=(If.1 b).1;have hy:i<ys.length:=h.1▸d;exact⟨ys[i],By hy,h.2 i x _ b (By hy)⟩
theorem A2.cons{x:α}{y:β}(j:R x y)(h:A2 R xs ys):A2 R (x::xs) (y::ys):=
 ⟨by simp [h.1],fun i a b d g=>by
  cases i with
  | zero=>simp at d g;subst d;subst g;exact j
  | succ i=>simp at d g;exact h.2 i a b d g⟩
theorem A2.of_cons{x:α}{y:β}(h:A2 R (x::xs) (y::ys)):R x y∧A2 R xs ys:=
 ⟨h.2 0 x y rfl rfl,by simpa using h.1,fun i a b d g=>h.2 (i+1) a b (by simpa using d) (by simpa using g)⟩
theorem A2.append(h:A2 R xs ys)(j:A2 R xs' ys'):A2 R (xs++xs') (ys++ys'):=
 ⟨by simp [h.1,j.1],fun i a b d g=>by
  by_cases l:i<xs.length
  ·rw [AT l]at d;rw [AT (h.1▸l)]at g;exact h.2 i a b d g
  ·rw [acR (by omega)]at d;rw [acR (by have:=h.1;omega),←h.1]at g;exact j.2 _ a b d g⟩
theorem A2.take(h:A2 R xs ys)(n:Nat):A2 R (xs.take n) (ys.take n):=
 ⟨by simp [h.1],fun i a b d g=>by
  rw [acX]at d g;split at d
  ·rename_i j;simp only [j,if_true]at g;exact h.2 i a b d g
  ·simp at d⟩
theorem A2.drop(h:A2 R xs ys)(n:Nat):A2 R (xs.drop n) (ys.drop n):=
 ⟨by simp [h.1],fun i a b d g=>by
  rw [acO]at d g;exact h.2 _ a b d g⟩
theorem A2.map{l:Type}{g:l→α}{zs:List l}(h:A2 (fun z y=>R (g z) y) zs ys):A2 R (zs.map g) ys:=
 ⟨by simpa using h.1,fun i a b d m=>by
  rw [adh]at d;cases j:zs[i]? with
  | none=>rw [j]at d;simp at d
  | some z=>rw [j]at d;simp at d;subst d;exact h.2 i z b j m⟩
theorem A2.jj(h:A2 R xs ys)(b:∀ x y,R x y→S x y):A2 S xs ys:=h.mono fun x y _=>b x y
end A2
inductive bS(σ:Nat→FuncId)(F:Nat→Nat→Prop)(w:World):FC→Value→Prop
 | bool (b:Bool):bS σ F w (.bool b) (.bool b)
 | int (k:IntKind) (n:Int):bS σ F w (.int k n) (.int k n)
 | str (s:ByteArray):bS σ F w (.str s) (.string s)
 | lZ:bS σ F w .lZ (.pointer ab)
 | ax:bS σ F w .ax (.slice ab 0 0)
 | es (a:Addr):bS σ F w .es (.slice (aa a) 0 0)
 | gl:bS σ F w .gl .nilFunc
 | kG:bS σ F w .kG .nilIface
 | lY:bS σ F w .lY (.map ab)
 | fp (cs:List FC) (off c o:Nat) (us:List Value) (hl:us.length=cs.length) (hF:∀ i,i<cs.length→F c (o+i))
   (hc:∀(i:Nat) u,us[i]?=aa u→w.cell? ⟨c,o+i,ab⟩=aa u) (hr:∀(i:Nat) x u,cs[i]?=aa x→us[i]?=aa u→bS σ F w x u) :
   bS σ F w (.fp cs off) (.pointer (aa ⟨c,o+off,ab⟩))
 | fs (cs:List FC) (l c o cap:Nat) (us:List Value) (acq:l≤cap) (hl:us.length=cs.length) (hF:∀ i,i<cs.length→F c (o+i))
   (hc:∀(i:Nat) u,us[i]?=aa u→w.cell? ⟨c,o+i,ab⟩=aa u) (hr:∀(i:Nat) x u,cs[i]?=aa x→us[i]?=aa u→bS σ F w x u) :
   bS σ F w (.fs cs l) (.slice (aa ⟨c,o,ab⟩) l cap)
 | SQ (a:Addr) (cap:Nat):bS σ F w (.fs [] 0) (.slice (aa a) 0 cap)
 | fn (f:Nat) (Cs:List FC) (us:List Value) (hl:us.length=Cs.length) (hr:∀(i:Nat) x u,Cs[i]?=aa x→us[i]?=aa u→bS σ F w x u) :
   bS σ F w (.fn f Cs) (.func (.func (σ f)) #[] us.toArray)
theorem bS.mono{σ:Nat→FuncId}{F s:Nat→Nat→Prop}{w w':World}(y:∀ c i,F c i→s c i)
  (A:∀ c i,F c i→w'.cell? ⟨c,i,ab⟩=w.cell? ⟨c,i,ab⟩) {x:FC} {v:Value} (h:bS σ F w x v):bS σ s w' x v:=by
 induction h with
 | fp cs off c o us d b hc z m=>
  refine .fp cs off c o us d (fun i q=>y _ _ (b i q)) (fun i u hu=>?_) m;rw [A c (o+i) (b i (by rw [←d];exact(If.1 hu).1))];exact hc i u hu
 | fs cs l c o cap us j d b hc z m=>
  refine .fs cs l c o cap us j d (fun i q=>y _ _ (b i q)) (fun i u hu=>?_) m;rw [A c (o+i) (b i (by rw [←d];exact(If.1 hu).1))];exact hc i u hu
 | fn f g us d z m=>exact .fn f g us d m| _=>constructor
theorem bS.one{σ:Nat→FuncId}{F:Nat→Nat→Prop}{w:World}{x:FC}{v:Value}(h:bS σ F w x v):v.oneCell'=ae:=by
 cases h<;>rfl
structure Loc where
 c:Nat
 cap:Nat
structure Wd where
 bI:Nat→Option Loc
 F:Nat→Nat→Prop
 H:aj
 w:World
 B:Nat
variable(σ:Nat→FuncId)
def eK(X:Wd):C→Value→Prop
 | .f x,v=>bS σ X.F X.w x v
 | .ptr b off g,v=>∃ L,X.bI b=aa L∧match X.H[b]? with
  | some (.box _ _)=>v=.pointer (aa ⟨L.c,off,ab⟩)| some (.bA _ _ _ e .loc)=>g≤e∧(g=e→v=.pointer (aa ⟨L.c,off,ab⟩))∧∃ a,v=.pointer (aa a)| _=>False
 | .sl b o l cap g sz,v=>match X.H[b]? with
  | some (.box _ _)=>∃ L,X.bI b=aa L∧l≤cap∧v=.slice (aa ⟨L.c,o,ab⟩) l cap
  | some (.bA s _ _ e y)=>g≤e∧(g=e→sz=s→match y with
    | .loc=>∃ L,X.bI b=aa L∧∃ k,o=k*s∧k+l≤L.cap∧v=.slice (aa ⟨L.c,o,ab⟩) l (L.cap-k)| .nil=>o=0∧l=0∧v=.slice ab 0 0
    | .es=>o=0∧l=0∧∃ a,v=.slice (aa a) 0 0)∧∃ a n c,v=.slice a n c
  | _=>False
 | .cl _ _,_=>False| .yl b,v=>∃ L,X.bI b=aa L∧(∃ f t p a j s q d,X.H[b]?=aa (.lp f t p a j s q d))∧v=.func (.yield L.c) #[] #[]| .mp b,v=>∃ L,X.bI b=aa L∧(∃ u,X.H[b]?=aa (.map u))∧v=.map (aa L.c)| .it b,v=>∃ L,X.bI b=aa L∧(∃ s p,X.H[b]?=aa (.it s p))∧v=.pointer (aa ⟨L.c,0,ab⟩)| .mi b,v=>∃ L,X.bI b=aa L∧(∃ m s d,X.H[b]?=aa (.rk m s d))∧v=.pointer (aa ⟨L.c,0,ab⟩)| .bm _ _,_=>False
def CR(X:Wd):C→Value→Prop
 | .cl f b,v=>∃ us,v=.func (.func (σ f)) #[] us.toArray∧A2 (eK σ X) b us| .bm f first,v=>∃ us,v=.func (.func (σ f)) us.toArray #[]∧A2 (eK σ X) first us
 | x,v=>eK σ X x v
theorem eK.one{X:Wd}{x:C}{v:Value}(h:eK σ X x v):v.oneCell'=ae:=by
 cases x with
 | f x=>exact bS.one h
 | ptr b off g=>
  obtain⟨L,_,h⟩:=h;split at h
  ·subst h;rfl
  ·obtain⟨_,_,a,rfl⟩:=h;rfl
  ·exact h.elim
 | sl b o l cap g sz=>
  simp only [eK]at h;split at h
  ·obtain⟨L,_,_,rfl⟩:=h;rfl
  ·obtain⟨_,_,a,n,c,rfl⟩:=h;rfl
  ·exact h.elim
 | cl f d=>exact h.elim| yl b=>obtain⟨L,_,_,rfl⟩:=h;rfl
 | mp b=>obtain⟨L,_,_,rfl⟩:=h;rfl
 | it b=>obtain⟨L,_,_,rfl⟩:=h;rfl
 | mi b=>obtain⟨L,_,_,rfl⟩:=h;rfl
 | bm f first=>exact h.elim
theorem CR.one{X:Wd}{x:C}{v:Value}(h:CR σ X x v):v.oneCell'=ae:=by
 cases x with
 | cl f j=>obtain⟨us,rfl,_⟩:=h;rfl
 | bm f first=>obtain⟨us,rfl,_⟩:=h;rfl
 | mi b=>exact eK.one σ (x:=.mi b) h| f y=>exact eK.one σ (x:=.f y) h| ptr a b c=>exact eK.one σ (x:=.ptr a b c) h| sl a b c d e g=>exact eK.one σ (x:=.sl a b c d e g) h| yl b=>exact eK.one σ (x:=.yl b) h| mp b=>exact eK.one σ (x:=.mp b) h| it b=>exact eK.one σ (x:=.it b) h
theorem CR.Me{X:Wd}{x:C}{v:Value}(h:eK σ X x v):CR σ X x v:=by
 cases x with
 | cl f b=>exact h.elim| bm f first=>exact h.elim
 | _=>exact h
def fX(X:Wd):V→Value→Prop
 | .top,_=>True| .c x,v=>CR σ X x v| .a xs,v=>∃ us,v=.agg us.toArray∧A2 (CR σ X) xs us| .t _,_=>False
def VR(X:Wd):V→Value→Prop
 | .t b,v=>∃ us,v=.tuple us.toArray∧A2 (fX σ X) b us| x,v=>fX σ X x v
theorem VR.Me{X:Wd}{x:V}{v:Value}(h:fX σ X x v):VR σ X x v:=by
 cases x with
 | t b=>exact h.elim| _=>exact h
def rowAt(w:World)(c:Nat)(us:List Value):Prop:=
 ∃ e b,w.heap[c]?=aa (.cells us.toArray e b)∧∀ i,i≤us.length→¬(b.1≤i∧i<b.2)
def jN(X X':Wd)(b:Nat):Prop:=
 ∀ aS,X.H[b]?=aa aS→∃ blk',X'.H[b]?=aa blk'∧match aS,blk' with
  | .box _ _,.box _ _=>∀ L,X.bI b=aa L→X'.bI b=aa L| .bA s _ _ e y,.bA s' _ _ j g=>s=s'∧((e=j∧y=g∧∀ L,X.bI b=aa L→X'.bI b=aa L)∨(e<j∧g=.loc∧∃ L,X'.bI b=aa L))| .map _,.map _=>∀ L,X.bI b=aa L→X'.bI b=aa L| .it _ _,.it _ _=>∀ L,X.bI b=aa L→X'.bI b=aa L| .fk _,.fk _=>∀ L,X.bI b=aa L→X'.bI b=aa L| .rk m s _,.rk v s' _=>(m=v∧s=s')∧∀ L,X.bI b=aa L→X'.bI b=aa L| .lp f t p a c _ _ d,.lp u z x a' l _ _ q=>(f=u∧t=z∧p=x∧a=a'∧c=l∧d=q)∧∀ L,X.bI b=aa L→X'.bI b=aa L| _,_=>False
structure Ext(N:Nat)(X X':Wd):Prop where
 B:X'.B=X.B
 F:∀ c i,X.F c i→X'.F c i
 mB:∀ c i,X'.F c i→X.F c i∨X.w.heap.size≤c∨∃ b L,X.bI b=aa L∧L.c=c
 fw:∀ c i,X.F c i→X'.w.cell? ⟨c,i,ab⟩=X.w.cell? ⟨c,i,ab⟩
 cC:∀ b,b<N→jN X X' b
 sA:∀ b L,X'.bI b=aa L→(∃ b0 L0,X.bI b0=aa L0∧L0.c=L.c)∨X.w.heap.size≤L.c
 size:X.w.heap.size≤X'.w.heap.size
 os:X'.w.os=X.w.os
 tape:X'.w.tape=X.w.tape
 output:X'.w.output=X.w.output
 frame:∀ k,k<X.w.heap.size→(∀ b L,X.bI b=aa L→L.c≠k)→X'.w.heap[k]?=X.w.heap[k]?
structure my(N:Nat)(X X':Wd):Prop where
 F:∀ c i,X.F c i→X'.F c i
 fw:∀ c i,X.F c i→X'.w.cell? ⟨c,i,ab⟩=X.w.cell? ⟨c,i,ab⟩
 cC:∀ b,b<N→jN X X' b
theorem Ext.W{N:Nat}{X X':Wd}(h:Ext N X X'):my N X X':=⟨h.F,h.fw,h.cC⟩
theorem jN.refl(X:Wd)(b:Nat):jN X X b:=fun aS h=>⟨aS,h,by cases aS<;>simp⟩
theorem jN.trans{X Y Z:Wd}{b:Nat}(h:jN X Y b)(k:jN Y Z b):jN X Z b:=by
 intro aS v;obtain⟨blk',s,g⟩:=h aS v;obtain⟨l,m,d⟩:=k blk' s;refine⟨l,m,?_⟩;cases aS<;>cases blk'<;>simp only at g<;>cases l<;>simp only at d ⊢
 case box=>exact fun L j=>d L (g L j)
 case map=>exact fun L j=>d L (g L j)
 case it=>exact fun L j=>d L (g L j)
 case fk=>exact fun L j=>d L (g L j)
 case rk=>
  obtain⟨⟨rfl,rfl⟩,g⟩:=g;obtain⟨⟨rfl,rfl⟩,d⟩:=d;exact⟨⟨rfl,rfl⟩,fun L j=>d L (g L j)⟩
 case lp=>
  obtain⟨⟨rfl,rfl,rfl,rfl,rfl,rfl⟩,g⟩:=g;obtain⟨⟨rfl,rfl,rfl,rfl,rfl,rfl⟩,d⟩:=d;exact⟨⟨rfl,rfl,rfl,rfl,rfl,rfl⟩,fun L j=>d L (g L j)⟩
 case bA=>
  obtain⟨rfl,g⟩:=g;obtain⟨rfl,d⟩:=d;refine⟨rfl,?_⟩;rcases g with⟨rfl,rfl,g⟩ | ⟨g,rfl,L,j⟩
  ·rcases d with⟨rfl,rfl,d⟩ | ⟨d,rfl,L,j⟩
   ·exact .inl ⟨rfl,rfl,fun L j=>d L (g L j)⟩
   ·exact .inr ⟨d,rfl,L,j⟩
  ·rcases d with⟨rfl,rfl,d⟩ | ⟨d,rfl,u,q⟩
   ·exact .inr ⟨g,rfl,L,d L j⟩
   ·exact .inr ⟨by omega,rfl,u,q⟩
theorem Ext.refl(N:Nat)(X:Wd):Ext N X X:=
 ⟨rfl,fun _ _ h=>h,fun _ _ h=>.inl h,fun _ _ _=>rfl,fun b _=>jN.refl X b,fun b L h=>.inl ⟨b,L,h,rfl⟩,IT _,rfl,rfl,rfl,fun _ _ _=>rfl⟩
theorem Ext.trans{N:Nat}{X Y Z:Wd}(h:Ext N X Y)(k:Ext N Y Z):Ext N X Z where
 B:=k.B.trans h.B
 F:=fun c i l=>k.F c i (h.F c i l)
 mB:=fun c i l=>by
  rcases k.mB c i l with d | d | ⟨b,L,g,rfl⟩
  ·exact h.mB c i d
  ·exact .inr (.inl (acT h.size d))
  ·rcases h.sA b L g with⟨b0,m,q,d⟩ | d
   ·exact .inr (.inr ⟨b0,m,q,d⟩)
   ·exact .inr (.inl d)
 fw:=fun c i l=>(k.fw c i (h.F c i l)).trans (h.fw c i l)
 cC:=fun b g=>(h.cC b g).trans (k.cC b g)
 sA:=fun b L g=>by
  rcases k.sA b L g with⟨b0,m,q,d⟩ | d
  ·rcases h.sA b0 m q with⟨b1,x,s,y⟩ | s
   ·exact .inl ⟨b1,x,s,y.trans d⟩
   ·exact .inr (d▸s)
  ·exact .inr (acT h.size d)
 size:=acT h.size k.size
 os:=k.os.trans h.os
 tape:=k.tape.trans h.tape
 output:=k.output.trans h.output
 frame:=fun j u v=>by
  rw [k.frame j (adb u h.size) (fun b L g hc=>?_)]
  ·exact h.frame j u v
  ·rcases h.sA b L g with⟨b0,m,q,d⟩ | d
   ·exact v b0 m q (d.trans hc)
   ·omega
theorem Ext.mono{N M:Nat}{X Y:Wd}(h:Ext N X Y)(g:M≤N):Ext M X Y:=
 {h with cC:=fun b d=>h.cC b (adb d g) }
theorem eK.under{X:Wd}{x:C}{v:Value}(h:eK σ X x v):x.dW X.H.length=ae:=by
 have lt:∀(b:Nat) aS,X.H[b]?=aa aS→b<X.H.length:=fun b aS g=>(If.1 g).1;cases x with
 | f x=>rfl
 | ptr b off u=>
  obtain⟨L,_,h⟩:=h;split at h
  ·rename_i g;simpa [C.dW]using lt _ _ g
  ·rename_i g;simpa [C.dW]using lt _ _ g
  ·exact h.elim
 | sl b o l cap u sz=>
  simp only [eK]at h;split at h
  ·rename_i g;simpa [C.dW]using lt _ _ g
  ·rename_i g;simpa [C.dW]using lt _ _ g
  ·exact h.elim
 | cl f j=>exact h.elim| yl b=>obtain⟨L,_,⟨f,t,p,a,y,s,q,d,g⟩,rfl⟩:=h;simpa [C.dW]using lt _ _ g
 | mp b=>obtain⟨L,_,⟨es,g⟩,rfl⟩:=h;simpa [C.dW]using lt _ _ g
 | it b=>obtain⟨L,_,⟨s,p,g⟩,rfl⟩:=h;simpa [C.dW]using lt _ _ g
 | mi b=>obtain⟨L,_,⟨m,s,d,g⟩,rfl⟩:=h;simpa [C.dW]using lt _ _ g
 | bm f first=>exact h.elim
theorem eK.mQ{N:Nat}{X X':Wd}(z:my N X X'){x:C}{v:Value}(hu:x.dW N=ae)(h:eK σ X x v):eK σ X' x v:=by
 cases x with
 | f x=>exact bS.mono z.F z.fw h
 | ptr b off K=>
  obtain⟨L,y,h⟩:=h;have E:=z.cC b (by simpa [C.dW]using hu);split at h
  ·rename_i cs fl u;obtain⟨blk',g,j⟩:=E _ u;cases blk'<;>simp only at j;exact⟨L,j L y,by rw [g];exact h⟩
  ·rename_i s cs fl e u;obtain⟨blk',g,j⟩:=E _ u;cases blk'<;>simp only at j;obtain⟨rfl,⟨rfl,rfl,A⟩ | ⟨A,rfl,I,B⟩⟩:=j
   ·exact⟨L,A L y,by rw [g];exact h⟩
   ·exact⟨I,B,by rw [g];exact⟨by omega,fun F=>by omega,h.2.2⟩⟩
  ·exact h.elim
 | sl b o l cap K sz=>
  simp only [eK]at h ⊢;have E:=z.cC b (by simpa [C.dW]using hu);split at h
  ·rename_i cs fl u;obtain⟨L,y,h⟩:=h;obtain⟨blk',g,j⟩:=E _ u;cases blk'<;>simp only at j;rw [g];exact⟨L,j L y,h⟩
  ·rename_i s cs fl e st u;obtain⟨blk',g,j⟩:=E _ u;cases blk'<;>simp only at j;rw [g];obtain⟨rfl,⟨rfl,rfl,A⟩ | ⟨A,rfl,I,B⟩⟩:=j
   ·refine⟨h.1,fun F M=>?_,h.2.2⟩;have H:=h.2.1 F M;cases st with
    | loc=>obtain⟨L,y,O⟩:=H;exact⟨L,A L y,O⟩
    | nil=>exact H| es=>exact H
   ·exact⟨by omega,fun F=>by omega,h.2.2⟩
  ·exact h.elim
 | cl f J=>exact h.elim
 | yl b=>
  obtain⟨L,y,⟨f,t,p,a,Q,s,q,d,u⟩,rfl⟩:=h;obtain⟨blk',g,j⟩:=z.cC b (by simpa [C.dW]using hu) _ u;cases blk'<;>simp only at j;exact⟨L,j.2 L y,⟨_,_,_,_,_,_,_,_,g⟩,rfl⟩
 | mp b=>
  obtain⟨L,y,⟨es,u⟩,rfl⟩:=h;obtain⟨blk',g,j⟩:=z.cC b (by simpa [C.dW]using hu) _ u;cases blk'<;>simp only at j;exact⟨L,j L y,⟨_,g⟩,rfl⟩
 | it b=>
  obtain⟨L,y,⟨s,p,u⟩,rfl⟩:=h;obtain⟨blk',g,j⟩:=z.cC b (by simpa [C.dW]using hu) _ u;cases blk'<;>simp only at j;exact⟨L,j L y,⟨_,_,g⟩,rfl⟩
 | mi b=>
  obtain⟨L,y,⟨m,s,d,u⟩,rfl⟩:=h;obtain⟨blk',g,j⟩:=z.cC b (by simpa [C.dW]using hu) _ u;cases blk'<;>simp only at j;exact⟨L,j.2 L y,⟨_,_,_,g⟩,rfl⟩
 | bm f first=>exact h.elim
theorem CR.mQ{N:Nat}{X X':Wd}(j:my N X X'){x:C}{v:Value}(hu:x.under N=ae)(h:CR σ X x v):CR σ X' x v:=by
 cases x with
 | cl f m=>
  obtain⟨us,rfl,h⟩:=h;refine⟨us,rfl,h.mono fun y u hy l=>eK.mQ σ j ?_ l⟩;exact acN.1 hu y hy
 | bm f first=>
  obtain⟨us,rfl,h⟩:=h;refine⟨us,rfl,h.mono fun y u hy l=>eK.mQ σ j ?_ l⟩;exact acN.1 hu y hy
 | mi b=>exact eK.mQ σ j (x:=.mi b) hu h| f y=>exact eK.mQ σ j (x:=.f y) hu h| ptr a b c=>exact eK.mQ σ j (x:=.ptr a b c) hu h| sl a b c d e g=>exact eK.mQ σ j (x:=.sl a b c d e g) hu h| yl b=>exact eK.mQ σ j (x:=.yl b) hu h| mp b=>exact eK.mQ σ j (x:=.mp b) hu h| it b=>exact eK.mQ σ j (x:=.it b) hu h
end
section
variable(Q:Program)(σ:Nat→FuncId)
theorem CR.under{X:Wd}{x:C}{v:Value}(h:CR σ X x v):x.under X.H.length=ae:=by
 cases x with
 | cl f j=>
  obtain⟨us,rfl,h⟩:=h;simp only [C.under,acN];intro y hy;obtain⟨i,l⟩:=ac9 hy;obtain⟨u,_,hu⟩:=h.get l;exact eK.under σ hu
 | bm f j=>
  obtain⟨us,rfl,h⟩:=h;simp only [C.under,acN];intro y hy;obtain⟨i,l⟩:=ac9 hy;obtain⟨u,_,hu⟩:=h.get l;exact eK.under σ hu
 | mi b=>exact eK.under σ (x:=.mi b) h| f y=>rfl| ptr a b c=>exact eK.under σ (x:=.ptr a b c) h| sl a b c d e g=>exact eK.under σ (x:=.sl a b c d e g) h| yl b=>exact eK.under σ (x:=.yl b) h| mp b=>exact eK.under σ (x:=.mp b) h| it b=>exact eK.under σ (x:=.it b) h
theorem CR.dr{X X':Wd}(b:my X.H.length X X'){x:C}{v:Value}(h:CR σ X x v):CR σ X' x v:=CR.mQ σ b (CR.under σ h) h
theorem A2.dr{X X':Wd}(b:my X.H.length X X'){xs:List C}{us:List Value}(h:A2 (CR σ X) xs us):A2 (CR σ X') xs us:=
 h.jj fun _ _ h=>CR.dr σ b h
theorem fX.dr{X X':Wd}(b:my X.H.length X X'){x:V}{v:Value}(h:fX σ X x v):fX σ X' x v:=by
 cases x with
 | top=>trivial| c x=>exact CR.dr σ b h| a xs=>obtain⟨us,rfl,h⟩:=h;exact⟨us,rfl,A2.dr σ b h⟩
 | t d=>exact h.elim
theorem VR.dr{X X':Wd}(b:my X.H.length X X'){x:V}{v:Value}(h:VR σ X x v):VR σ X' x v:=by
 cases x with
 | t d=>obtain⟨us,rfl,h⟩:=h;exact⟨us,rfl,h.jj fun _ _ h=>fX.dr σ b h⟩
 | top=>trivial| c x=>exact fX.dr σ (x:=.c x) b h| a xs=>exact fX.dr σ (x:=.a xs) b h
def RR(X:Wd)(al:T)(tmps:Array Value):Prop:=∀ p,VR σ X (al.get p) (tmps.getD p.toNat undef)
theorem RR.dr{X X':Wd}(b:my X.H.length X X'){al:T}{tmps:Array Value}(h:RR σ X al tmps):RR σ X' al tmps:=fun p=>VR.dr σ b (h p)
theorem CR.ext'{X X':Wd}(b:Ext X.H.length X X'){x:C}{v:Value}(h:CR σ X x v):CR σ X' x v:=CR.dr σ b.W h
theorem A2.ext'{X X':Wd}(b:Ext X.H.length X X'){xs:List C}{us:List Value}(h:A2 (CR σ X) xs us):A2 (CR σ X') xs us:=A2.dr σ b.W h
theorem fX.ext'{X X':Wd}(b:Ext X.H.length X X'){x:V}{v:Value}(h:fX σ X x v):fX σ X' x v:=fX.dr σ b.W h
theorem VR.ext'{X X':Wd}(b:Ext X.H.length X X'){x:V}{v:Value}(h:VR σ X x v):VR σ X' x v:=VR.dr σ b.W h
theorem RR.ext'{X X':Wd}(b:Ext X.H.length X X'){al:T}{tmps:Array Value}(h:RR σ X al tmps):RR σ X' al tmps:=RR.dr σ b.W h
theorem T.mS(t:T)(p q:P)(v:V):(t.set p v).get q=if p=q then v else t.get q:=by
 induction t generalizing p q with
 | e=>
  induction p generalizing q with
  | h=>cases q<;>simp [T.set,T.get]
  | o p b=>cases q<;>simp [T.set,T.get,b]
  | i p b=>cases q<;>simp [T.set,T.get,b]
 | n l j r d g=>cases p<;>cases q<;>simp [T.set,T.get,d,g]
theorem P.toNat_inj{p q:P}(h:p.toNat=q.toNat):p=q:=by
 induction p generalizing q with
 | h=>cases q<;>simp [P.toNat]at h ⊢
 | o p b=>
  cases q with
  | h=>simp [P.toNat]at h| o q=>simp only [P.toNat]at h;rw [b (q:=q) (by omega)]
  | i q=>simp [P.toNat]at h;omega
 | i p b=>
  cases q with
  | h=>simp [P.toNat]at h| o q=>simp [P.toNat]at h;omega| i q=>simp only [P.toNat]at h;rw [b (q:=q) (by omega)]
theorem RR.set{X:Wd}{al:T}{tmps:Array Value}(h:RR σ X al tmps){p:P}(g:p.toNat<tmps.size){v:V}{u:Value}(j:VR σ X v u) :
  RR σ X (al.set p v) (tmps.setIfInBounds p.toNat u):=by
 intro q;rw [T.mS];by_cases d:p=q
 ·subst d;simpa [g]using j
 ·have b:p.toNat≠q.toNat:=fun e=>d (P.toNat_inj e);simpa [d,Array.getD_eq_getD_getElem?,Array.getElem?_setIfInBounds_ne b]using h q
def eL.of:eL→LoopState
 | .ready=>.ready| .busy=>.busy| .done=>.done| .exhausted=>.exhausted
def sD(n:Nat):Option ak→Option Code→Prop
 | none,ab=>True| some a,aa c=>bD Q σ n c a=ae| _,_=>False
def BR(X:Wd):bK→Loc→Prop
 | .box cs fl,L=>∃ us,rowAt X.w L.c us∧A2 (CR σ X) cs us∧∀ i,fl≤i→¬ X.F L.c i| .bA sz cs fl _ l,L=>l=.loc∧∃ us rest,rowAt X.w L.c (us++rest)∧A2 (CR σ X) cs us∧(us++rest).length=L.cap*sz∧0<sz∧(∃ n,cs.length=n*sz)∧∀ i,fl≤i→¬ X.F L.c i| .map y,L=>∃ g:List MapEntry,X.w.heap[L.c]?=aa (.map g.toArray g.length)∧A2 (fun e m=>bS σ X.F X.w e.1 m.key∧fX σ X (mV e.2) m.val) y g∧∀(i:Nat) m,g[i]?=aa m→m.born=i
 | .rk m j done,L=>∃(B:Loc) (z:Array Nat) (l:Nat),X.bI m=aa B∧(∃ y,X.H[m]?=aa (.map y))∧X.w.heap[L.c]?=aa (.mapIter (aa B.c) j z l)∧(if done then z=#[0]∧l=1 else z=#[])| .it s pos,L=>X.w.heap[L.c]?=aa (.stringIter s pos)| .fk b,L=>X.w.heap[L.c]?=aa (.deferred (if b then aa []else ab))
 | .lp f tmps ps as bd l v d,L=>∃(n:Nat) (us:Array Value) (x:Array Tmp) (as' u:Code) (pend':Option Code) (A:Loc),
   X.w.heap[L.c]?=aa (.loop { state:=l.of,pending:=pend',fn:=σ f,tmps:=us,params:=x,assign:=as',body:=u,defers:=A.c }) ∧
   n≤us.size∧RR σ X tmps us∧eC (fun p (q:P)=>q.toNat == p&&decide (p<n)) x.toList ps=ae∧bD Q σ n as' as=ae∧bD Q σ n u bd=ae∧sD Q σ n v pend'∧X.bI d=aa A∧∃ o,X.H[d]?=aa (.fk o)
theorem BR.mQ{X X':Wd}(q:my X.H.length X X'){aS:bK}{L:Loc}(x:X'.w.heap[L.c]?=X.w.heap[L.c]?)(U:∀ i,X'.F L.c i→X.F L.c i)(h:BR Q σ X aS L):BR Q σ X' aS L:=by
 cases aS with
 | box cs fl=>
  obtain⟨us,⟨e,fr,j,g⟩,l,u⟩:=h;exact⟨us,⟨e,fr,x.trans j,g⟩,A2.dr σ q l,fun i I H=>u i I (U i H)⟩
 | bA sz cs fl ep st=>
  obtain⟨J,us,rest,⟨e,fr,j,g⟩,l,u,y,E,F⟩:=h;exact⟨J,us,rest,⟨e,fr,x.trans j,g⟩,A2.dr σ q l,u,y,E,fun i I H=>F i I (U i H)⟩
 | map es=>
  obtain⟨A,j,g,l⟩:=h;exact⟨A,x.trans j,g.jj fun _ _ h=>⟨bS.mono q.F q.fw h.1,fX.dr σ q h.2⟩,l⟩
 | rk m M done=>
  obtain⟨O,sn,st,j,⟨es,g⟩,l,u⟩:=h;obtain⟨blk',v,y⟩:=q.cC m (If.1 g).1 _ g;cases blk'<;>simp only at y;exact⟨O,sn,st,y O j,⟨_,v⟩,x.trans l,u⟩
 | it s pos=>exact x.trans h| fk b=>exact x.trans h
 | lp f tmps ps as bd st W d=>
  obtain⟨n,us,K,as',B,pend',N,j,g,l,u,y,E,F,Y,o,S⟩:=h;have Z:d<X.H.length:=(If.1 S).1;obtain⟨blk',v,z⟩:=q.cC d Z _ S;cases blk'<;>simp only at z;exact⟨n,us,K,as',B,pend',N,x.trans j,g,RR.dr σ q l,u,y,E,F,z N Y,_,v⟩
theorem BR.ext{X X':Wd}(g:Ext X.H.length X X'){aS:bK}{L:Loc}(d:X'.w.heap[L.c]?=X.w.heap[L.c]?)(b:∀ i,X'.F L.c i→X.F L.c i)(h:BR Q σ X aS L):BR Q σ X' aS L:=BR.mQ Q σ g.W d b h
structure SR(X:Wd):Prop where
 br:∀ b L,X.bI b=aa L→X.B≤L.c∧L.c<X.w.heap.size∧∃ aS,X.H[b]?=aa aS∧BR Q σ X aS L
 inj:∀ b b' L L',X.bI b=aa L→X.bI b'=aa L'→L.c=L'.c→b=b'
 fb:∀ c i,X.F c i→c<X.w.heap.size
theorem SR.step{X X':Wd}(A:SR Q σ X)(z:Ext X.H.length X X')(b0:Nat)(F:∀ b,b≠b0→X'.H[b]?=X.H[b]?)(d:∀ b,b≠b0→X'.bI b=X.bI b)
  (H:∀ b L,b≠b0→X.bI b=aa L→X'.w.heap[L.c]?=X.w.heap[L.c]?) (E:∀ b L,b≠b0→X.bI b=aa L→∀ i,X'.F L.c i→X.F L.c i)
  (s:∀ L,X'.bI b0=aa L→X.B≤L.c∧L.c<X'.w.heap.size∧(∃ aS,X'.H[b0]?=aa aS∧BR Q σ X' aS L)∧∀ b l,b≠b0→X.bI b=aa l→l.c≠L.c)
  (y:∀ c i,X'.F c i→c<X'.w.heap.size):SR Q σ X' where
 br:=fun b L g=>by
  rw [z.B];by_cases h:b=b0
  ·subst h;obtain⟨u,v,x,_⟩:=s L g;exact⟨u,v,x⟩
  ·rw [d b h]at g;obtain⟨u,v,aS,x,B⟩:=A.br b L g;exact⟨u,adb v z.size,aS,(F b h).trans x,BR.ext Q σ z (H b L h g) (E b L h g) B⟩
 fb:=fun c i h=>y c i h
 inj:=fun b m L l g j hc=>by
  by_cases h:b=b0<;>by_cases q:m=b0
  ·rw [h,q]
  ·subst h;rw [d m q]at j;exact absurd hc.symm ((s L g).2.2.2 m l q j)
  ·subst q;rw [d b h]at g;exact absurd hc ((s l j).2.2.2 b L h g)
  ·rw [d b h]at g;rw [d m q]at j;exact A.inj b m L l g j hc
end
section
variable{Q:Program}{σ:Nat→FuncId}{X:Wd}
theorem aN{t:TypeId}{d:TypeDesc}(h:Q.underlying t=aa d)(w:World):(underlying t).run Q w=.ok d w:=by
 simp [underlying,h]
theorem cx{t:TypeId}{n:Nat}(h:cM Q t n=ae)(w:World):(Go.sizeOf t).run Q w=.ok n w:=by
 unfold cM at h;cases b:Q.info? t with
 | none=>simp [b]at h| some i=>simp [b]at h;simp [Go.sizeOf,typeInfo,b,h]
theorem uE{t:TypeId}{n:Nat}(h:kQ Q t n=ae)(w:World):∃ i,(typeInfo t).run Q w=.ok i w∧i.bytes=n:=by
 unfold kQ at h;cases b:Q.info? t with
 | none=>simp [b]at h| some i=>simp [b]at h;exact⟨i,by simp [typeInfo,b],h⟩
theorem AA{t:TypeId}{n:Option Nat}(h:q9 Q t n=ae)(w:World):(isAgg t).run Q w=.ok n.isSome w∧∀ k,n=aa k→cM Q t k=ae:=by
 unfold q9 at h;cases b:Q.underlying t with
 | none=>simp [b]at h
 | some d=>
  cases d<;>cases n<;>simp_all [isAgg,aN b]
theorem dB(c o k:Nat):(⟨c,o,ab⟩:Addr).add k=⟨c,o+k,ab⟩:=by unfold Addr.add;split<;>simp_all
theorem dq{w:World}{c:Nat}{us:List Value}(h:rowAt w c us)(i:Nat):w.cell? ⟨c,i,ab⟩=us[i]?:=by
 obtain⟨e,b,h,_⟩:=h;simp [World.cell?,h]
theorem yz{w:World}{c:Nat}{us:List Value}(h:rowAt w c us){i:Nat}(d:i<us.length):w.frozen? ⟨c,i,ab⟩=ag:=by
 obtain⟨e,g,h,b⟩:=h;have:=b i (Nat.le_of_lt d);simp only [World.frozen?,h];simp only [Bool.and_eq_false_iff,decide_eq_false_iff_not];omega
theorem pY(A:SR Q σ X){x:C}{v:Value}(g:CR σ X x v){cs:List C}(h:bo X.H x=aa cs) :
  ∃ c o us,v=.pointer (aa ⟨c,o,ab⟩)∧(∀(i:Nat) u,us[i]?=aa u→X.w.cell? ⟨c,o+i,ab⟩=aa u)∧A2 (CR σ X) cs us:=by
 cases x with
 | ptr b off I=>
  obtain⟨L,z,g⟩:=g;obtain⟨_,_,aS,q,j⟩:=A.br b L z;simp only [bo,q]at h;rw [q]at g;cases aS with
  | box cs' fl=>
   simp only [sh]at h;subst h;subst g;obtain⟨us,l,m,_⟩:=j;exact⟨L.c,off,us.drop off,rfl,fun i u d=>by rw [dq l];rw [acO]at d;exact d,m.drop off⟩
  | bA s cs' fl e H=>
   cases H<;>simp only at h g
   ·split at h
    ·rename_i E;simp only [sh]at h;subst h;obtain⟨_,g,_⟩:=g;have g:=g E;subst g;obtain⟨_,us,rest,l,m,_⟩:=j;refine⟨L.c,off,us.drop off,rfl,fun i u d=>?_,m.drop off⟩;rw [dq l];rw [acO]at d;rw [AT (If.1 d).1];exact d
    ·simp at h
   all_goals exact g.elim
  | _=>simp at h
 | f x=>
  cases x with
  | fp cs' off=>
   simp only [bo,sh]at h;subst h;cases g with
   | fp _ _ c o us F J B l=>
    refine⟨c,o+off,us.drop off,rfl,fun i u d=>?_,A2.map ⟨by simp [F],fun i x u y d=>?_⟩⟩
    ·rw [acO]at d;have:=B _ u d;rwa [show o+(off+i)=o+off+i by omega]at this
    ·rw [acO]at y d;exact l _ x u y d
  | _=>simp [bo]at h
 | _=>simp [bo]at h
theorem xa{t:TypeId}{n:Option Nat}(z:q9 Q t n=ae){c o:Nat}{us:List Value}{cs:List C}{w:World}
  (q:∀(i:Nat) u,us[i]?=aa u→w.cell? ⟨c,o+i,ab⟩=aa u) (g:A2 (CR σ X) cs us) {v:V} (b:bY n cs=aa v) :
  ∃ u,(loadVar t ⟨c,o,ab⟩).run Q w=.ok u w∧VR σ X v u:=by
 obtain⟨m,s⟩:=AA z w;cases n with
 | none=>
  cases cs with
  | nil=>simp [bY]at b
  | cons x cs=>
   simp only [bY,sh]at b;subst b;obtain⟨u,A,l⟩:=g.get (i:=0) (x:=x) rfl;have:=q 0 u A;simp only [Nat.add_zero]at this;exact⟨u,by simp [loadVar,m,this],l⟩
 | some n=>
  simp only [bY]at b;split at b
  ·rename_i B;simp only [sh]at b;subst b;have y:(us.take n).length=n:=by have:=g.len;simp;omega
   have:=run_loadCells_list (P:=Q) w ⟨c,o,ab⟩ (us.take n) (fun j v d=>by
    rw [dB];rw [acX]at d;split at d
    ·exact q j v d
    ·simp at d)
   rw [y]at this;refine⟨.agg (us.take n).toArray,?_,⟨us.take n,rfl,g.take n⟩⟩;simp [loadVar,m,cx (s n rfl),this]
  ·simp at b
theorem UL(q:SR Q σ X){t:TypeId}{n:Option Nat}(s:q9 Q t n=ae){x:V}{p:Value}(y:VR σ X x p){v:V}(h:dz X.H n x=aa v) :
  ∃ u,(Instr.loadAt t p).run Q X.w=.ok u X.w∧VR σ X v u:=by
 cases x with
 | c x=>
  simp only [dz,acU]at h;obtain⟨cs,b,d⟩:=h;obtain⟨c,o,us,rfl,g,j⟩:=pY q y b;obtain⟨u,l,m⟩:=xa s g j d;exact⟨u,by simp [Instr.loadAt,Instr.sureAddr,l],m⟩
 | _=>simp [dz]at h
end
section
variable{Q:Program}{σ:Nat→FuncId}{X:Wd}
theorem VR.int{k:IntKind}{n:Int}{u:Value}(h:VR σ X (.c (.f (.int k n))) u):u=.int k n:=by cases (h:bS σ X.F X.w (.int k n) u);rfl
theorem VR.bool{b:Bool}{u:Value}(h:VR σ X (.c (.f (.bool b))) u):u=.bool b:=by cases (h:bS σ X.F X.w (.bool b) u);rfl
theorem VR.str{s:ByteArray}{u:Value}(h:VR σ X (.c (.f (.str s))) u):u=.string s:=by cases (h:bS σ X.F X.w (.str s) u);rfl
theorem VR.mkInt(k:IntKind)(n:Int):VR σ X (V.int k n) (.int k n):=bS.int k n
theorem VR.qz(b:Bool):VR σ X (V.bool b) (.bool b):=bS.bool b
theorem VR.mkStr(s:ByteArray):VR σ X (.c (.f (.str s))) (.string s):=bS.str s
theorem dH{α β:Type}{f:α→β→Bool}:∀ {xs:List α} {ys:List β},eC f xs ys=ae→A2 (fun x y=>f x y=ae) xs ys
 | [],[],_=>A2.nil
 | x::xs,y::ys,h=>by
  simp only [eC,BY]at h;exact A2.cons h.1 (dH h.2)
 | [],_::_,h=>by simp [eC]at h
 | _::_,[],h=>by simp [eC]at h
theorem yO{F:Nat→Nat→Prop}{w:World}{x:FC}{u:Value}(h:Y8 x u=ae):bS σ F w x u:=by
 unfold Y8 at h;split at h
 ·simp only [beq_iff_eq]at h;subst h;exact .bool _
 ·simp only [BY,decide_eq_true_eq]at h;obtain⟨rfl,rfl⟩:=h;exact .int _ _
 ·simp only [decide_eq_true_eq]at h;subst h;exact .str _
 ·exact .lZ
 ·exact .ax
 ·exact .gl
 ·exact .kG
 ·exact .lY
 ·simp at h
theorem Y9{x:V}{u:Value}(h:mK x u=ae):VR σ X x u:=by
 unfold mK at h;split at h
 ·exact yO h
 ·refine⟨_,by simp,(dH h).jj fun y w b=>?_⟩;split at b
  ·exact yO b
  ·simp at b
 ·trivial
 ·simp at h
theorem bj{a:Act}{al:T}(b:RR σ X al a.tmps){x:Arg}{y:Operand}(h:mA σ x y=ae):VR σ X (x.ev al) (a.eval y):=by
 unfold mA at h;split at h
 ·rename_i p t;simp only [beq_iff_eq]at h;subst h;exact b p
 ·exact Y9 h
 ·simp only [beq_iff_eq]at h;subst h;exact bS.fn _ [] [] rfl (by simp)
 ·simp at h
theorem kC{a:Act}{al:T}(j:RR σ X al a.tmps){xs:List Arg}{ys:Array Operand}(h:Mb σ xs ys=ae):A2 (VR σ X) (cK al xs) (ys.map a.eval).toList:=by
 have:=(dH h).jj fun x y b=>bj j b;refine⟨by simpa [cK]using this.len,fun i v u g d=>?_⟩;simp only [cK,adh,IN]at g;simp only [Array.toList_map,adh,IN]at d;obtain⟨x,l,rfl⟩:=g;obtain⟨y,m,rfl⟩:=d;exact this.2 i x y l m
theorem Y'{a:Act}{al:T}(g:RR σ X al a.tmps){x:Option Arg}{y:Option Operand}(h:mO σ x y=ae) :
  (x=ab∧y=ab)∨∃ b d,x=aa b∧y=aa d∧VR σ X (b.ev al) (a.eval d):=by
 unfold mO at h;split at h
 ·exact .inl ⟨rfl,rfl⟩
 ·exact .inr ⟨_,_,rfl,rfl,bj g h⟩
 ·simp at h
theorem O_{b:BinOp}{k:IntKind}{x y:Int}{v:V}(h:hV b k x y=aa v)(w:World) :
  ∃ u,(binOp b 0 (.int k x) (.int k y)).run Q w=.ok u w∧VR σ X v u∧∀ t,binOp b t (.int k x) (.int k y)=binOp b 0 (.int k x) (.int k y):=by
 unfold hV at h;split at h<;>(try split at h)<;>(try simp only [sh,reduceCtorEq]at h)<;>(try subst h)
 all_goals first
  | (refine⟨_,?_,VR.mkInt _ _,fun _=>by simp [binOp]⟩;simp [binOp,Op.intArith,Op.intBits];done)
  | (refine⟨_,?_,VR.qz _,fun _=>by simp [binOp]⟩;simp [binOp,Op.intCmp];done)
  | (rename_i d;refine⟨_,?_,VR.mkInt _ _,fun _=>by simp [binOp]⟩;simp [binOp,Op.intDiv,d];done)
theorem Pb{b:BinOp}{x y:ByteArray}{v:V}(h:T8 b x y=aa v)(w:World)(t:TypeId) :
  ∃ u,(binOp b t (.string x) (.string y)).run Q w=.ok u w∧VR σ X v u:=by
 unfold T8 at h;split at h<;>(try split at h)<;>(try simp only [sh,reduceCtorEq]at h)<;>(try subst h)
 all_goals first
  | exact⟨_,by simp [binOp,Op.stringOp],VR.qz _⟩
  | (rename_i d;exact⟨_,by simp only [binOp,Op.stringOp];rw [aU d];rfl,VR.mkStr _⟩)
  | skip
end
section
variable{Q:Program}{σ:Nat→FuncId}{X:Wd}
theorem pk:∀ {ks:List CK} {xs ys:List C} {b:Bool},nR ks xs ys=aa b→xs.length=ks.length∧ys.length=ks.length
 | [],[],[],_,_=>⟨rfl,rfl⟩
 | k::ks,x::xs,y::ys,b,h=>by
  simp only [nR]at h;split at h
  ·rename_i d;have:=pk d;simp [this]
  ·simp at h
 | [],_::_,_,_,h=>by simp [nR]at h
 | [],[],_::_,_,h=>by simp [nR]at h
 | _::_,[],_,_,h=>by simp [nR]at h
 | _::_,_::_,[],_,h=>by simp [nR]at h
theorem qj:∀ {ks d:List CK} {xs ys:List C} {b:Bool},nR (ks++d) xs ys=aa b →
  ∃ b1 g,nR ks (xs.take ks.length) (ys.take ks.length)=aa b1∧nR d (xs.drop ks.length) (ys.drop ks.length)=aa g∧b=(b1&&g)
 | [],d,xs,ys,b,h=>⟨ae,b,rfl,by simpa using h,by simp⟩
 | k::ks,d,[],ys,b,h=>by simp [nR]at h
 | k::ks,d,x::xs,[],b,h=>by simp [nR]at h
 | k::ks,d,x::xs,y::ys,b,h=>by
  simp only [List.cons_append,nR]at h;split at h
  ·rename_i a c m q;simp only [sh]at h;obtain⟨b1,g,j,l,rfl⟩:=qj q;refine⟨a&&b1,g,?_,by simpa using l,by rw [←h,Bool.and_assoc]⟩;simp [nR,m,j]
  ·simp at h
def CKv:CK→Value→Value→Bool→Prop
 | .bool,u,v,b=>∃ p q,u=.bool p∧v=.bool q∧b=(p == q)| .int,u,v,b=>∃ j p q,u=.int j p∧v=.int j q∧b=(p == q)| .str,u,v,b=>∃ p q,u=.string p∧v=.string q∧b=(p == q)
theorem po{k:CK}{x y:C}{b:Bool}(h:DV k x y=aa b){u v:Value}(d:CR σ X x u)(g:CR σ X y v):CKv k u v b:=by
 unfold DV at h;split at h
 ·simp only [sh]at h;exact⟨_,_,VR.bool (σ:=σ) (X:=X) d,VR.bool (σ:=σ) (X:=X) g,h.symm⟩
 ·split at h
  ·rename_i j;subst j;simp only [sh]at h;exact⟨_,_,_,VR.int (σ:=σ) (X:=X) d,VR.int (σ:=σ) (X:=X) g,h.symm⟩
  ·simp at h
 ·simp only [sh]at h;exact⟨_,_,VR.str (σ:=σ) (X:=X) d,VR.str (σ:=σ) (X:=X) g,h.symm⟩
 ·simp at h
theorem wJ:∀(d:Nat) (t:TypeId) (ks:List CK),fW Q d t=aa ks→∀(D:Nat),d≤D→∀(us W:List Value) (off:Nat) (xs ys:List C) (b:Bool) (w:World),
  nR ks xs ys=aa b→A2 (CR σ X) xs ((us.drop off).take ks.length)→A2 (CR σ X) ys ((W.drop off).take ks.length) →
  ∃ a c,(part t us.toArray off).run Q w=.ok a w∧(part t W.toArray off).run Q w=.ok c w∧(Op.equalIn D t a c).run Q w=.ok b w
 | 0,_,_,h,_,_,_,_,_,_,_,_,_,_,_,_=>by simp [fW]at h
 | d+1,t,ks,h,0,hD,_,_,_,_,_,_,_,_,_,_=>by omega
 | d+1,t,ks,h,D+1,hD,us,W,off,xs,ys,b,w,M,hx,hy=>by
  have hl:=pk M;have m:∀(k:CK),ks=[k]→(∀ I,Q.underlying t=aa I→(match I with | .struct _ | .array _ _=>False | _=>True))→(∃ I,Q.underlying t=aa I) →
    ∃ x y u v,xs=[x]∧ys=[y]∧DV k x y=aa b∧CR σ X x u∧CR σ X y v∧(part t us.toArray off).run Q w=.ok u w∧(part t W.toArray off).run Q w=.ok v w:=by
   intro k z a_ g;subst z;obtain⟨I,g⟩:=g;have a_:=a_ I g
   match xs,ys,hl with
   | [x],[y],_=>
    simp only [nR]at M;split at M
    ·rename_i a c ha hc;simp only [sh]at hc M;subst hc;simp at M;subst M;obtain⟨u,c8,c9⟩:=hx.get (i:=0) (x:=x) rfl;obtain⟨v,c_,d5⟩:=hy.get (i:=0) (x:=y) rfl;have e1:us[off]?=aa u:=by simpa [acX,acO]using c8
     have e2:W[off]?=aa v:=by simpa [acX,acO]using c_
     have a8:(isAgg t).run Q w=.ok ag w:=by
      cases I<;>simp_all [isAgg,aN g]
     exact⟨x,y,u,v,rfl,rfl,ha,c9,d5,by simp [part,a8,e1],by simp [part,a8,e2]⟩
    ·simp at M
  unfold fW at h;split at h
  ·rename_i g;split at h
   ·simp only [sh]at h;obtain⟨x,y,u,v,rfl,rfl,E,Y,Z,N,h4⟩:=m .bool h.symm (fun I s=>by rw [g]at s;cases s;trivial) ⟨_,g⟩;obtain⟨p,q,rfl,rfl,rfl⟩:=po E Y Z;exact⟨_,_,N,h4,run_equalIn_bool' w D t _ _ g⟩
   ·simp at h
  ·rename_i j g;split at h
   ·simp only [sh]at h;obtain⟨x,y,u,v,rfl,rfl,E,Y,Z,N,h4⟩:=m .int h.symm (fun I s=>by rw [g]at s;cases s;trivial) ⟨_,g⟩;obtain⟨j',p,q,rfl,rfl,rfl⟩:=po E Y Z;exact⟨_,_,N,h4,run_equalIn_int w D t _ _ _ _ g⟩
   ·simp at h
  ·rename_i g;split at h
   ·simp only [sh]at h;obtain⟨x,y,u,v,rfl,rfl,E,Y,Z,N,h4⟩:=m .str h.symm (fun I s=>by rw [g]at s;cases s;trivial) ⟨_,g⟩;obtain⟨p,q,rfl,rfl,rfl⟩:=po E Y Z;exact⟨_,_,N,h4,by rw [run_equalIn_string w D t _ _ g,beq_toListBytes]⟩
   ·simp at h
  ·rename_i fs g;split at h
   ·simp at h
   ·rename_i c7;split at h
    ·rename_i U hf;split at h
     ·rename_i b6;simp only [sh]at h;subst h;have L:(isAgg t).run Q w=.ok ae w:=by simp [isAgg,aN g]
      have S:Q.underlying t=aa (.struct (Q.fieldsOf t)):=by simp [Program.fieldsOf,g]
      have c6:Q.fieldsOf t=fs:=by rw [g]at S;simpa using S.symm
      refine⟨.agg ((us.drop off).take U.length).toArray,.agg ((W.drop off).take U.length).toArray,?_,?_,?_⟩
      ·simp [part,L,cx b6,adB]
      ·simp [part,L,cx b6,adB]
      ·rw [run_equalIn_struct w D t _ _ S (by simpa using c7),c6];have key:∀(l:List Field) (k:Nat) (J:List CK) (b2:Bool),fW.mR (fW Q d) k l=aa J→∀(A B:List Value) (F H:List C),
         nR J (F.drop k) (H.drop k)=aa b2→A2 (CR σ X) F A→A2 (CR σ X) H B→(Op.eqFields D A.toArray B.toArray l).run Q w=.ok b2 w:=by
        intro l;induction l with
        | nil=>
         intro k J b2 z A B F H E _ _;simp only [fW.mR,sh]at z;subst z;have:=pk E;simp only [List.length_nil,List.length_eq_zero_iff]at this;rw [this.1,this.2]at E;simp only [nR,sh]at E;subst E;simp [Op.eqFields]
        | cons f l ih=>
         intro k J b2 z A B F H E b7 b9;simp only [fW.mR]at z;split at z
         ·rename_i O;obtain⟨hn,ho⟩:=O;subst ho;split at z
          ·rename_i K N;split at z
           ·rename_i r hr;simp only [sh]at z;subst z;obtain⟨b1,b3,b_,c4,rfl⟩:=qj E;obtain⟨a,c,h5,h6,h7⟩:=wJ d f.type K N D (by omega) A B f.offset _ _ b1 w b_ (by have:=(b7.drop f.offset).take K.length;simpa using this) (by have:=(b9.drop f.offset).take K.length;simpa using this);have d6:=ih (f.offset+K.length) r b3 hr A B F H (by simpa [List.drop_drop]using c4) b7 b9;simp only [Op.eqFields,hn,ne_eq,not_false_eq_true,if_true,Sem.run_bind,h5,h6,h7,Result.andThen_ok];cases b1<;>simp [d6]
           ·simp at z
          ·simp at z
         ·simp at z
       exact key fs.toList 0 U b hf _ _ xs ys (by simpa using M) hx hy
     ·simp at h
    ·simp at h
  ·simp at h
def aba:Ch→Value→Bool→Prop
 | .ptr,u,b=>∃ a,u=.pointer a∧b=a.isNone| .sl,u,b=>∃ a n c,u=.slice a n c∧b=a.isNone| .fn,u,b=>(u=.nilFunc∧b=ae)∨∃ f p q,u=.func f p q∧b=ag| .SU,u,b=>u=.nilIface∧b=ae| _,_,_=>False
theorem mX{k:Ch}{x:C}{u:Value}(d:CR σ X x u){b:Bool}(h:isNil X.H k x=aa b):aba k u b:=by
 unfold isNil at h;split at h<;>try simp only [sh,reduceCtorEq]at h
 ·cases (d:bS σ X.F X.w .lZ u);subst h;exact⟨_,rfl,rfl⟩
 ·cases (d:bS σ X.F X.w (.fp _ _) u);subst h;exact⟨_,rfl,rfl⟩
 ·obtain⟨L,_,d⟩:=d;subst h;split at d
  ·subst d;exact⟨_,rfl,rfl⟩
  ·obtain⟨_,_,a,rfl⟩:=d;exact⟨_,rfl,rfl⟩
  ·exact d.elim
 ·cases (d:bS σ X.F X.w .ax u);subst h;exact⟨_,_,_,rfl,rfl⟩
 ·cases (d:bS σ X.F X.w .es u);subst h;exact⟨_,_,_,rfl,rfl⟩
 ·cases (d:bS σ X.F X.w (.fs _ _) u)<;>(subst h;exact⟨_,_,_,rfl,rfl⟩)
 ·rename_i q o l c v sz;simp only [CR,eK]at d;split at h
  ·rename_i g;rw [g]at d;obtain⟨L,_,_,rfl⟩:=d;simp only [sh]at h;subst h;exact⟨_,_,_,rfl,rfl⟩
  ·rename_i s cs fl e m g;rw [g]at d;split at h
   ·rename_i j;have:=d.2.1 j.1 j.2;simp only [sh]at h;subst h;cases m with
    | loc=>obtain⟨L,_,k,_,_,rfl⟩:=this;exact⟨_,_,_,rfl,rfl⟩
    | nil=>obtain⟨_,_,rfl⟩:=this;exact⟨_,_,_,rfl,rfl⟩
    | es=>obtain⟨_,_,a,rfl⟩:=this;exact⟨_,_,_,rfl,rfl⟩
   ·simp at h
  ·simp at h
 ·cases (d:bS σ X.F X.w .gl u);subst h;exact .inl ⟨rfl,rfl⟩
 ·cases (d:bS σ X.F X.w (.fn _ _) u);subst h;exact .inr ⟨_,_,_,rfl,rfl⟩
 ·obtain⟨us,rfl,_⟩:=d;subst h;exact .inr ⟨_,_,_,rfl,rfl⟩
 ·obtain⟨us,rfl,_⟩:=d;subst h;exact .inr ⟨_,_,_,rfl,rfl⟩
 ·cases (d:bS σ X.F X.w .kG u);subst h;exact⟨rfl,rfl⟩
theorem wI{d:Nat}{t:TypeId}{ks:List CK}(h:fW Q d t=aa ks):cM Q t ks.length=ae:=by
 cases d with
 | zero=>simp [fW]at h
 | succ d=>
  unfold fW at h;split at h
  ·split at h
   ·simp only [sh]at h;subst h;assumption
   ·simp at h
  ·split at h
   ·simp only [sh]at h;subst h;assumption
   ·simp at h
  ·split at h
   ·simp only [sh]at h;subst h;assumption
   ·simp at h
  ·split at h
   ·simp at h
   ·split at h
    ·split at h
     ·simp only [sh]at h;subst h;assumption
     ·simp at h
    ·simp at h
  ·simp at h
theorem JG{t e:TypeId}(b:Q.underlying t=aa (.pointer e))(D:Nat)(a:Option Addr)(w:World):(Op.equalIn (D+1) t (.pointer a) (.pointer ab)).run Q w=.ok a.isNone w:=by
 cases a<;>simp [Op.equalIn,aN b]
theorem Ps{t e:TypeId}(b:Q.underlying t=aa (.slice e))(D:Nat)(a:Option Addr)(n c:Nat)(w:World):(Op.equalIn (D+1) t (.slice a n c) (.slice ab 0 0)).run Q w=.ok a.isNone w:=by
 cases a<;>simp [Op.equalIn,aN b]
theorem Pp{t:TypeId}{p r:Array TypeId}{v:Bool}(b:Q.underlying t=aa (.func p r v))(D:Nat)(w:World):(Op.equalIn (D+1) t .nilFunc .nilFunc).run Q w=.ok ae w:=by
 simp [Op.equalIn,aN b]
theorem Po{t:TypeId}{p r:Array TypeId}{v:Bool}(b:Q.underlying t=aa (.func p r v))(D:Nat)(f:Fn)(x y:Array Value)(w:World):(Op.equalIn (D+1) t (.func f x y) .nilFunc).run Q w=.ok ag w:=by
 simp [Op.equalIn,aN b]
theorem Pr{t:TypeId}{d:Array (String × TypeId)}(b:Q.underlying t=aa (.interface d))(D:Nat)(w:World):(Op.equalIn (D+1) t .nilIface .nilIface).run Q w=.ok ae w:=by
 simp [Op.equalIn,aN b]
theorem CG{t:TypeId}{x y:Operand}(b:(oT x||oT y)=ae)(d:BinOp)(w:World):(eqGuard d t x y .nilIface .nilIface).run Q w=.ok () w:=by
 simp only [Bool.or_eq_true]at b;rcases b with b | b
 ·cases x<;>simp only [oT,acJ]at b;cases d<;>rfl
 ·cases y<;>simp only [oT,acJ]at b;cases x<;>cases d<;>rfl
theorem Um{k:Ch}{t:TypeId}{x y:Operand}(z:mEq Q k t x y=ae){H I:V}{m d:Value}(u:VR σ X H m)(v:VR σ X I d){b:Bool}
  (h:JH X.H k H I=aa b) (neg:Bool) (w:World) :
  (do eqGuard (if neg then .neq else .eql) t x y m d;binOp (if neg then .neq else .eql) t m d).run Q w=.ok (.bool (if neg then !b else b)) w:=by
 have g:(binOp .eql t m d=do pure (.bool (←Op.equal t m d)))→(binOp .neq t m d=do pure (.bool (!(←Op.equal t m d)))) →
   (∀ j,(eqGuard j t x y m d).run Q w=.ok () w)→(Op.equalIn 10000 t m d).run Q w=.ok b w →
   (do eqGuard (if neg then .neq else .eql) t x y m d;binOp (if neg then .neq else .eql) t m d).run Q w=.ok (.bool (if neg then !b else b)) w:=by
  intro E F A N;cases neg
  ·simp only [acJ,if_false,Sem.run_bind,A,Result.andThen_ok,E,Op.equal,Op.maxDepth,N,Sem.run_pure]
  ·simp only [if_true,Sem.run_bind,A,Result.andThen_ok,F,Op.equal,Op.maxDepth,N,Sem.run_pure]
 unfold mEq at z;unfold JH at h;split at z
 ·rename_i l;split at h<;>try simp only [reduceCtorEq]at *
  obtain⟨p,q,rfl,rfl,rfl⟩:=po h u v;exact g rfl rfl (fun j=>by cases j<;>rfl) (run_equalIn_bool' w 9999 t _ _ l)
 ·rename_i l;split at h<;>try simp only [reduceCtorEq]at *
  obtain⟨a,rfl,rfl⟩:=mX u h;cases (v:bS σ X.F X.w .lZ d);exact g rfl rfl (fun j=>by cases j<;>rfl) (JG l 9999 a w)
 ·rename_i l;split at h<;>try simp only [reduceCtorEq]at *
  obtain⟨a,n,c,rfl,rfl⟩:=mX u h;cases (v:bS σ X.F X.w .ax d);exact g rfl rfl (fun j=>by cases j<;>rfl) (Ps l 9999 a n c w)
 ·rename_i l;split at h<;>try simp only [reduceCtorEq]at *
  cases (v:bS σ X.F X.w .gl d);rcases mX u h with⟨rfl,rfl⟩ | ⟨f,p,q,rfl,rfl⟩
  ·exact g rfl rfl (fun j=>by cases j<;>rfl) (Pp l 9999 w)
  ·exact g rfl rfl (fun j=>by cases j<;>rfl) (Po l 9999 f p q w)
 ·rename_i l;split at h<;>try simp only [reduceCtorEq]at *
  cases (v:bS σ X.F X.w .kG d);obtain⟨rfl,rfl⟩:=mX u h;refine g rfl rfl (fun j=>?_) ?_
  ·have M:(oT x||oT y)=ae:=z;exact CG M j w
  ·exact Pr l 9999 w
 ·rename_i Y ks l;obtain⟨xs,ys,rfl,rfl,h⟩:∃ xs ys,H=.a xs∧I=.a ys∧nR ks xs ys=aa b:=by
   cases H<;>cases I<;>first | exact⟨_,_,rfl,rfl,h⟩ | simp at h
  simp only [BY,decide_eq_true_eq,Bool.not_eq_true']at z;obtain⟨W,U⟩:=z;obtain⟨us,rfl,O⟩:=u;obtain⟨J,rfl,S⟩:=v;have Z:=pk h;have B:=wI W;have s:(isAgg t).run Q w=.ok ae w:=by simp [isAgg,aN l]
  have t1:us.take ks.length=us:=acS (by have:=O.len;omega);have t2:J.take ks.length=J:=acS (by have:=S.len;omega);obtain⟨a,c,E,F,A⟩:=wJ 20 t ks W 10000 (by omega) us J 0 _ _ b w h (by simpa [t1]using O) (by simpa [t2]using S);have K:a=.agg us.toArray:=by
   simp [part,s,cx B,adB,t1]at E;exact E.symm
  have L:c=.agg J.toArray:=by
   simp [part,s,cx B,adB,t2]at F;exact F.symm
  subst K;subst L;cases neg
  ·simp only [acJ,if_false,Sem.run_bind,run_eqGuard_agg w _ t x y _ _ U,Result.andThen_ok,run_eql_struct,A]
  ·simp only [if_true,Sem.run_bind,run_eqGuard_agg w _ t x y _ _ U,Result.andThen_ok,run_neq_struct,A]
 ·simp at z
end
section
variable{Q:Program}{σ:Nat→FuncId}{X:Wd}
theorem gj{x:V}{u:Value}(h:VR σ X x u){i:Int}(b:fK x=aa i):∃ k,u=.int k i:=by
 unfold fK at b;split at b
 ·simp only [sh]at b;subst b;exact⟨_,VR.int h⟩
 ·simp at b
theorem nN{x:V}{u:Value}(h:VR σ X x u){y i:Nat}(b:uQ x y=aa i){g:Nat}(q:y≤g)(d:BoundsCode)(w:World) :
  i≤y∧(Instr.sliceBound u g d).run Q w=.ok i w:=by
 unfold uQ at b;split at b
 ·rename_i j l;obtain⟨k,rfl⟩:=gj h l;split at b
  ·rename_i m;simp only [sh]at b;subst b;refine⟨by omega,?_⟩;have:0≤j∧j≤(g:Int):=by omega
   simp [Instr.sliceBound,asIntOf,this]
  ·simp at b
 ·simp at b
def OR(X:Wd)(σ:Nat→FuncId):Option V→Option Value→Prop
 | none,ab=>True| some x,aa u=>VR σ X x u| _,_=>False
theorem dn{lo F mx:Option V}{d j mx':Option Value}(v:OR X σ lo d)(A:OR X σ F j)(H:OR X σ mx mx'){len c l h m:Nat}
  (b:bw len c lo F mx=aa (l,h,m)) {cap:Nat} (K:c≤cap) (S:len≤c) (s:Bool) (w:World) :
  (Instr.sliceBounds s len cap d j mx').run Q w=.ok (l,h,if mx.isSome then m else cap) w∧l≤h∧h≤m∧m≤c:=by
 unfold bw at b;cases mx with
 | some z=>
  cases mx'<;>simp only [OR]at H;rename_i W;simp only [aep,acU]at b;obtain⟨U,N,b⟩:=b;obtain⟨O,E⟩:=nN (Q:=Q) H N K (if s then .slice3Acap else .slice3Alen) w;cases F with
  | none=>simp at b
  | some y=>
   cases j<;>simp only [OR]at A;simp only [acY,acU]at b;obtain⟨M,I,b⟩:=b;obtain⟨J,g⟩:=nN (Q:=Q) A I (IT _) .slice3B w;cases lo with
   | none=>
    cases d<;>simp only [OR]at v;simp at b;obtain⟨rfl,rfl,rfl⟩:=b;simp [Instr.sliceBounds,E,g];omega
   | some x=>
    cases d<;>simp only [OR]at v;simp only [acU]at b;obtain⟨L,q,b⟩:=b;obtain⟨B,u⟩:=nN (Q:=Q) v q (IT _) .slice3C w;simp at b;obtain⟨rfl,rfl,rfl⟩:=b;simp [Instr.sliceBounds,E,g,u];omega
 | none=>
  cases mx'<;>simp only [OR]at H;cases F with
  | none=>
   cases j<;>simp only [OR]at A;cases lo with
   | none=>
    cases d<;>simp only [OR]at v;simp at b;obtain⟨rfl,rfl,rfl⟩:=b;simp [Instr.sliceBounds];omega
   | some x=>
    cases d<;>simp only [OR]at v;simp only [aep,acY,acU]at b;obtain⟨L,q,b⟩:=b;obtain⟨B,u⟩:=nN (Q:=Q) v q (IT _) .sliceB w;simp at b;obtain⟨rfl,rfl,rfl⟩:=b;simp [Instr.sliceBounds,u];omega
  | some y=>
   cases j<;>simp only [OR]at A;simp only [aep,acY,acU]at b;obtain⟨M,I,b⟩:=b;obtain⟨J,g⟩:=nN (Q:=Q) A I K (if s then .sliceAcap else .sliceAlen) w;cases lo with
   | none=>
    cases d<;>simp only [OR]at v;simp at b;obtain⟨rfl,rfl,rfl⟩:=b;simp [Instr.sliceBounds,g];omega
   | some x=>
    cases d<;>simp only [OR]at v;simp only [acU]at b;obtain⟨L,q,b⟩:=b;obtain⟨B,u⟩:=nN (Q:=Q) v q (IT _) .sliceB w;simp at b;obtain⟨rfl,rfl,rfl⟩:=b;simp [Instr.sliceBounds,g,u];omega
theorem dT{t e:TypeId}{sz:Nat}(j:Q.underlying t=aa (.slice e))(b:cM Q e sz=ae){a:Option Addr}{len cap:Nat}{lo d mx:Option Value}{l h m:Nat}{w:World}
  (g:(Instr.sliceBounds ae len cap lo d mx).run Q w=.ok (l,h,m) w) :
  (Instr.sliceAt t (.slice a len cap) lo d mx).run Q w=.ok (.slice (if m=l then a else a.map (·.add (l*sz))) (h-l) (m-l)) w:=by
 simp [Instr.sliceAt,Instr.slice,aN j,g,cx b]
theorem s4{t e:TypeId}{sz:Nat}(d:Q.underlying t=aa (.slice e))(j:cM Q e sz=ae){x:V}{u:Value}(E:VR σ X x u)
  {lo Y mx:Option V} {a_ a8 mx':Option Value} (H:OR X σ lo a_) (I:OR X σ Y a8) (J:OR X σ mx mx') {v:V} (h:dL X.H sz x lo Y mx=aa v) :
  ∃ r,(Instr.sliceAt t u a_ a8 mx').run Q X.w=.ok r X.w∧VR σ X v r:=by
 unfold dL at h;split at h
 ·
  split at h
  ·rename_i r A;obtain⟨l,g,m⟩:=r;simp only [sh]at h;subst h;cases (E:bS σ X.F X.w .ax u);obtain⟨q,K,N,O⟩:=dn (Q:=Q) H I J A (IT 0) (IT 0) ae X.w;refine⟨_,dT d j q,?_⟩;have:l=0∧g=0∧m=0:=by omega
   obtain⟨rfl,rfl,rfl⟩:=this;simp;exact bS.ax
  ·simp at h
 ·split at h
  ·rename_i r A;obtain⟨l,g,m⟩:=r;simp only [sh]at h;subst h;cases (E:bS σ X.F X.w .es u);obtain⟨q,K,N,O⟩:=dn (Q:=Q) H I J A (IT 0) (IT 0) ae X.w;refine⟨_,dT d j q,?_⟩;have:l=0∧g=0∧m=0:=by omega
   obtain⟨rfl,rfl,rfl⟩:=this;simp;exact bS.es _
  ·simp at h
 ·
  rename_i cs n;split at h
  ·rename_i l g m A;have b7:(∃(c o cap:Nat) (us:List Value),n≤cap∧us.length=cs.length∧(∀ i,i<cs.length→X.F c (o+i))∧(∀(i:Nat) u,us[i]?=aa u→X.w.cell? ⟨c,o+i,ab⟩=aa u) ∧
     (∀(i:Nat) x u,cs[i]?=aa x→us[i]?=aa u→bS σ X.F X.w x u)∧u=.slice (aa ⟨c,o,ab⟩) n cap)∨(cs=[]∧n=0∧∃ a cap,u=.slice (aa a) 0 cap):=by
    cases (E:bS σ X.F X.w (.fs cs n) u)with
    | fs _ _ c o cap us z hl hF hc hr=>exact .inl ⟨c,o,cap,us,z,hl,hF,hc,hr,rfl⟩| SQ a cap=>exact .inr ⟨rfl,rfl,a,cap,rfl⟩
   rcases b7 with⟨c,o,cap,us,z,hl,hF,hc,hr,rfl⟩ | ⟨rfl,rfl,a,cap,rfl⟩
   ·obtain⟨q,K,N,O⟩:=dn (Q:=Q) H I J A z (IT n) ae X.w;split at h
    ·rename_i y;simp only [sh]at h;subst h;rw [bf y.1]at q;obtain⟨_,rfl⟩:=y;refine⟨_,dT d j q,?_⟩;rw [show g-m=0 by omega,show m-m=0 by omega,bf rfl];exact bS.es _
    ·simp only [sh]at h;subst h;refine⟨_,dT d j q,?_⟩;generalize S:(if mx.isSome=ae then m else cap)=M;have b6:g≤M:=by rw [←S];split<;>omega
     by_cases B:M=l
     ·rw [bf B,show g-l=0 by omega];simp;exact bS.SQ _ _
     ·rw [aU B];simp only [ac8,dB];refine bS.fs _ _ c (o+l*sz) _ ((us.drop (l*sz)).take ((g-l)*sz)) (by omega) (by simp [hl]) (fun i Y=>?_) (fun i u d=>?_) (fun i x u E d=>?_)
      ·have:=hF (l*sz+i) (by simp at Y;omega);rwa [show o+(l*sz+i)=o+l*sz+i by omega]at this
      ·rw [acX]at d;split at d
       ·rw [acO]at d;have:=hc _ u d;rwa [show o+(l*sz+i)=o+l*sz+i by omega]at this
       ·simp at d
      ·rw [acX]at d E;split at d
       ·rename_i Y;rw [bf Y]at E;rw [acO]at d E;exact hr _ x u E d
       ·simp at d
   ·obtain⟨q,K,N,O⟩:=dn (Q:=Q) H I J A (Nat.zero_le cap) (IT 0) ae X.w;have:l=0∧g=0∧m=0:=by omega
    obtain⟨rfl,rfl,rfl⟩:=this;refine⟨_,dT d j q,?_⟩;split at h
    ·rename_i y;simp only [sh]at h;subst h;simp [y.1];exact bS.es _
    ·simp only [sh]at h;subst h;have ho:∀ M,∃ a',(if M=0 then aa a else Option.map (fun(x:Addr)=>x.add (0*sz)) (aa a))=aa a':=by intro M;split<;>exact⟨_,rfl⟩
     obtain⟨a',U⟩:=ho (if mx.isSome=ae then 0 else cap);rw [U];simp;exact bS.SQ _ _
  ·simp at h
 ·
  rename_i b o n cap ep s;simp only [VR,fX,CR,eK]at E;split at h
  ·rename_i F;rw [F]at E;obtain⟨L,hL,z,rfl⟩:=E;split at h
   ·rename_i l g m A;obtain⟨q,K,N,O⟩:=dn (Q:=Q) H I J A (IT cap) z ae X.w;have hm:(if mx.isSome=ae then m else cap)=m:=by
     split
     ·rfl
     ·rename_i hn;cases mx with
      | some _=>simp at hn| none=>unfold bw at A;cases Y<;>cases lo<;>simp [acU]at A<;>omega
    rw [hm]at q;refine⟨_,dT d j q,?_⟩;split at h
    ·rename_i B;simp only [sh]at h;subst h;rw [bf B,show g-l=0 by omega,show m-l=0 by omega];exact bS.es _
    ·rename_i B;simp only [sh]at h;subst h;rw [aU B];simp only [ac8,dB,VR,fX,CR,eK,F];exact⟨L,hL,by omega,rfl⟩
   ·simp at h
  ·rename_i s' cs fl e st F;rw [F]at E;split at h
   ·rename_i hc;obtain⟨rfl,rfl,rfl⟩:=hc;have Z:=E.2.1 rfl rfl;cases st with
    | loc=>
     obtain⟨L,hL,k,rfl,hk,rfl⟩:=Z;simp only at h;split at h
     ·rename_i l g m A;obtain⟨q,K,N,O⟩:=dn (Q:=Q) H I J A (show n≤L.cap-k by omega) (IT n) ae X.w;refine⟨_,dT d j q,?_⟩;generalize S:(if mx.isSome=ae then m else L.cap-k)=M;have b6:g≤M:=by rw [←S];split<;>omega
      split at h
      ·rename_i y;simp only [sh]at h;subst h;rw [bf y.1]at S;subst S;obtain⟨_,rfl⟩:=y;rw [show g-m=0 by omega,show m-m=0 by omega,bf rfl];exact bS.es _
      ·split at h
       ·rename_i y;simp only [sh]at h;subst h;rw [show g-l=0 by omega];have ho:∃ a',(if M=l then aa (⟨L.c,k*s',ab⟩:Addr)else Option.map (fun(x:Addr)=>x.add (l*s')) (aa ⟨L.c,k*s',ab⟩))=aa a':=by split<;>exact⟨_,rfl⟩
        obtain⟨a',U⟩:=ho;rw [U];exact bS.SQ _ _
       ·rename_i b9;split at h
        ·simp at h
        ·rename_i hn;simp only [sh]at h;subst h;rw [aU hn]at S;have W:(if M=l then aa (⟨L.c,k*s',ab⟩:Addr)else Option.map (fun(x:Addr)=>x.add (l*s')) (aa ⟨L.c,k*s',ab⟩))=aa ⟨L.c,k*s'+l*s',ab⟩:=by
          split
          ·have:l=0:=by omega
           subst this;simp
          ·simp [dB]
         rw [W];simp only [VR,fX,CR,eK,F];refine⟨IT _,fun _ _=>⟨L,hL,k+l,by rw [ac3],by omega,by rw [←S];congr 1;omega⟩,_,_,_,rfl⟩
     ·simp at h
    | nil=>
     obtain⟨rfl,rfl,rfl⟩:=Z;simp only at h;split at h
     ·rename_i r A;obtain⟨l,g,m⟩:=r;simp only [sh]at h;subst h;obtain⟨q,K,N,O⟩:=dn (Q:=Q) H I J A (IT 0) (IT 0) ae X.w;refine⟨_,dT d j q,?_⟩;have:l=0∧g=0∧m=0:=by omega
      obtain⟨rfl,rfl,rfl⟩:=this;simp;exact bS.ax
     ·simp at h
    | es=>
     obtain⟨rfl,rfl,a,rfl⟩:=Z;simp only at h;split at h
     ·rename_i r A;obtain⟨l,g,m⟩:=r;simp only [sh]at h;subst h;obtain⟨q,K,N,O⟩:=dn (Q:=Q) H I J A (IT 0) (IT 0) ae X.w;refine⟨_,dT d j q,?_⟩;have:l=0∧g=0∧m=0:=by omega
      obtain⟨rfl,rfl,rfl⟩:=this;simp;exact bS.es _
     ·simp at h
   ·simp at h
  ·simp at h
 ·simp at h
end
section
variable{Q:Program}{σ:Nat→FuncId}{X:Wd}
theorem DP{t:TypeId}(B:Q.underlying t=aa .string){x:V}{u:Value}(E:VR σ X x u){lo g:Option V}{d b:Option Value}(j:OR X σ lo d)(q:OR X σ g b)
  {v:V} (h:qY x lo g=aa v) (w:World):∃ r,(Instr.sliceAt t u d b ab).run Q w=.ok r w∧VR σ X v r:=by
 unfold qY at h;split at h
 ·rename_i s;have:=VR.str E;subst this;split at h
  ·rename_i l A m z;simp only [sh]at h;subst h;obtain⟨y,_⟩:=dn (Q:=Q) (mx:=ab) (mx':=ab) j q trivial z (IT _) (IT _) ag w;exact⟨.string (s.extract l A),by simp [Instr.sliceAt,Instr.slice,aN B,y],VR.mkStr _⟩
  ·simp at h
 ·simp at h
theorem DN(hS:SR Q σ X){t e:TypeId}{n sz:Nat}(g:Q.underlying t=aa (.array n e))(F:cM Q e sz=ae){x:V}{u:Value}(q:VR σ X x u)
  {lo A mx:Option V} {z y mx':Option Value} (H:OR X σ lo z) (I:OR X σ A y) (J:OR X σ mx mx') {v:V} (h:il X.H n sz x lo A mx=aa v) :
  ∃ r,(Instr.sliceAt t u z y mx').run Q X.w=.ok r X.w∧VR σ X v r:=by
 have run:∀(a:Addr) l j m,(Instr.sliceBounds ag n n z y mx').run Q X.w=.ok (l,j,m) X.w →
   (Instr.sliceAt t (.pointer (aa a)) z y mx').run Q X.w=.ok (.slice (aa (if m=l then a else a.add (l*sz))) (j-l) (m-l)) X.w:=by
  intro a l j m s;simp [Instr.sliceAt,aN g,Instr.sureAddr,s,cx F]
 have mm:∀ {l j m:Nat},bw n n lo A mx=aa (l,j,m)→(if mx.isSome=ae then m else n)=m:=by
  intro l j m s;split
  ·rfl
  ·rename_i Y;cases mx with
   | some _=>simp at Y| none=>unfold bw at s;cases A<;>cases lo<;>simp [acU]at s<;>omega
 unfold il at h;split at h
 ·rename_i b off ep;obtain⟨L,S,q⟩:=q;split at h
  ·rename_i cs fl E;rw [E]at q;simp only at q;subst q;split at h
   ·rename_i l j m s;obtain⟨B,K,M,N⟩:=dn (Q:=Q) H I J s (IT n) (IT n) ag X.w;rw [mm s]at B;split at h
    ·refine⟨_,run _ _ _ _ B,?_⟩;split at h
     ·rename_i d;simp only [sh]at h;subst h;rw [bf d,show j-l=0 by omega,show m-l=0 by omega];exact bS.es _
     ·rename_i d;simp only [sh]at h;subst h;rw [aU d];simp only [dB,VR,fX,CR,eK,E];exact⟨L,S,by omega,rfl⟩
    ·simp at h
   ·simp at h
  ·simp at h
 ·rename_i cs off;cases (q:bS σ X.F X.w (.fp cs off) u)with
  | fp _ _ c o us W O U Z=>
   split at h
   ·rename_i l j m s;obtain⟨B,K,M,N⟩:=dn (Q:=Q) H I J s (IT n) (IT n) ag X.w;rw [mm s]at B;split at h
    ·refine⟨_,run _ _ _ _ B,?_⟩;split at h
     ·rename_i d;simp only [sh]at h;subst h;rw [bf d,show j-l=0 by omega,show m-l=0 by omega];exact bS.es _
     ·rename_i d;simp only [sh]at h;subst h;rw [aU d,dB];refine bS.fs _ _ c (o+off+l*sz) _ ((us.drop (off+l*sz)).take ((j-l)*sz)) (by omega) (by simp [W]) (fun i A=>?_) (fun i u g=>?_) (fun i x u q g=>?_)
      ·have:=O (off+l*sz+i) (by simp at A;omega);rwa [show o+(off+l*sz+i)=o+off+l*sz+i by omega]at this
      ·rw [acX]at g;split at g
       ·rw [acO]at g;have:=U _ u g;rwa [show o+(off+l*sz+i)=o+off+l*sz+i by omega]at this
       ·simp at g
      ·rw [acX]at g q;split at g
       ·rename_i A;rw [bf A]at q;rw [acO]at g q;exact Z _ x u q g
       ·simp at g
    ·simp at h
   ·simp at h
 ·simp at h
theorem yw{t:TypeId}{m:Array Field}(J:Q.underlying t=aa (.struct m)){i:Nat}{f:Field}(F:m[i]?=aa f)(l:(Q.info? f.type).any (fun i=>i.size != 0)=ae)
  {x:V} {u:Value} (g:VR σ X x u) {v:V} (h:gh f.offset x=aa v) (w:World):∃ r,(Instr.fieldAt t u i).run Q w=.ok r w∧VR σ X v r:=by
 have run:∀ a:Addr,(Instr.fieldAt t (.pointer (aa a)) i).run Q w=.ok (.pointer (aa (a.add f.offset))) w:=by
  intro a;cases j:Q.info? f.type with
  | none=>simp [j]at l
  | some K=>
   simp [j]at l;simp [Instr.fieldAt,aN J,F,Instr.sureAddr,fieldPlace,Go.sizeOf,typeInfo,j,l]
 unfold gh at h;split at h
 ·rename_i b o M;simp only [sh]at h;subst h;obtain⟨L,q,g⟩:=g;split at g
  ·rename_i d;subst g;exact⟨_,run _,L,q,by rw [d,dB]⟩
  ·rename_i s cs fl e d;obtain⟨y,z,a,rfl⟩:=g;refine⟨_,run _,L,q,?_⟩;rw [d];refine⟨y,fun E=>?_,_,rfl⟩;have:=z E;simp only [Value.pointer.injEq,sh]at this;rw [this,dB]
  ·exact g.elim
 ·rename_i cs o;simp only [sh]at h;subst h;cases (g:bS σ X.F X.w (.fp cs o) u)with
  | fp _ _ c o' us H A B I=>
   refine⟨_,run _,?_⟩;rw [dB,Nat.add_assoc];exact bS.fp cs _ c o' us H A B I
 ·simp at h
theorem yD{t e:TypeId}{sz:Nat}{q:Option Nat}(I:cM Q e sz=ae)
  (H:(q=ab∧Q.underlying t=aa (.slice e))∨∃ n,q=aa n∧Q.underlying t=aa (.array n e)) {x i:V} {u j:Value} (m:VR σ X x u) (hi:VR σ X i j)
  {v:V} (h:a6 X.H sz q x i=aa v):∃ r,(Instr.indexAt t u j).run Q X.w=.ok r X.w∧VR σ X v r:=by
 unfold a6 at h;split at h
 ·simp at h
 rename_i k hk;obtain⟨S,rfl⟩:=gj hi hk;split at h
 ·rename_i N;have z:q=ab→∀(a:Addr) (l c:Nat),k<l→(Instr.indexAt t (.slice (aa a) l c) (.int S k)).run Q X.w=.ok (.pointer (aa (a.add (k.toNat*sz)))) X.w:=by
   intro J a l c g;rcases H with⟨_,H⟩ | ⟨n,A,_⟩
   ·simp [Instr.indexAt,asIntOf,aN H,N,g,cx I]
   ·rw [J]at A;simp at A
  have y:∀ n,q=aa n→∀(a:Addr),k<n→(Instr.indexAt t (.pointer (aa a)) (.int S k)).run Q X.w=.ok (.pointer (aa (a.add (k.toNat*sz)))) X.w:=by
   intro n J a g;rcases H with⟨A,_⟩ | ⟨n',A,H⟩
   ·rw [J]at A;simp at A
   ·rw [J]at A;simp only [sh]at A;subst A;simp [Instr.indexAt,asIntOf,aN H,Instr.sureAddr,N,g,cx I]
  split at h
  ·rename_i b o l c W s;split at h
   ·rename_i g;simp only [VR,fX,CR,eK]at m;split at h
    ·rename_i d;rw [d]at m;obtain⟨L,E,_,rfl⟩:=m;simp only [sh]at h;subst h;exact⟨_,z rfl _ _ _ g,L,E,by rw [d,dB]⟩
    ·rename_i s' cs fl U d;rw [d]at m;split at h
     ·rename_i F;simp only [sh]at h;subst h;obtain⟨L,E,kq,_,_,rfl⟩:=m.2.1 F.1 F.2;exact⟨_,z rfl _ _ _ g,L,E,by rw [d,dB];exact⟨m.1,fun _=>rfl,_,rfl⟩⟩
     ·simp at h
    ·simp at h
   ·simp at h
  ·rename_i cs l;split at h
   ·rename_i g;simp only [sh]at h;subst h;cases (m:bS σ X.F X.w (.fs cs l) u)with
    | fs _ _ c o cap us O B K F M=>
     refine⟨_,z rfl _ _ _ g,?_⟩;rw [dB];exact bS.fp cs _ c o us B K F M
    | SQ a cap=>simp at g;omega
   ·simp at h
  ·rename_i n b o W;split at h
   ·rename_i g;simp only [sh]at h;subst h;obtain⟨L,E,m⟩:=m;split at m
    ·rename_i d;subst m;exact⟨_,y n rfl _ g,L,E,by rw [d,dB]⟩
    ·rename_i s cs fl U d;obtain⟨Y,Z,a,rfl⟩:=m;refine⟨_,y n rfl _ g,L,E,?_⟩;rw [d];refine⟨Y,fun he=>?_,_,rfl⟩;have:=Z he;simp only [Value.pointer.injEq,sh]at this;rw [this,dB]
    ·exact m.elim
   ·simp at h
  ·rename_i n cs o;split at h
   ·rename_i g;simp only [sh]at h;subst h;cases (m:bS σ X.F X.w (.fp cs o) u)with
    | fp _ _ c o' us B K F M=>
     refine⟨_,y n rfl _ g,?_⟩;rw [dB,Nat.add_assoc];exact bS.fp cs _ c o' us B K F M
   ·simp at h
  ·simp at h
 ·simp at h
theorem q_{t:TypeId}{n:Option Nat}(s:q9 Q t n=ae){xs:List C}{us:List Value}(l:A2 (CR σ X) xs us)(off:Nat){v:V}(b:bY n (xs.drop off)=aa v)(w:World) :
  ∃ u,(part t us.toArray off).run Q w=.ok u w∧VR σ X v u:=by
 obtain⟨m,q⟩:=AA s w;cases n with
 | none=>
  cases d:xs.drop off with
  | nil=>rw [d]at b;simp [bY]at b
  | cons x cs=>
   rw [d]at b;simp only [bY,sh]at b;subst b;obtain⟨u,y,j⟩:=(l.drop off).get (i:=0) (x:=x) (by rw [d];rfl);have g:us[off]?=aa u:=by simpa [acO]using y
   exact⟨u,by simp [part,m,g],j⟩
 | some n=>
  simp only [bY]at b;split at b
  ·simp only [sh]at b;subst b;exact⟨.agg ((us.drop off).take n).toArray,by simp [part,m,cx (q n rfl),adB],_,rfl,(l.drop off).take n⟩
  ·simp at b
theorem CA{t:TypeId}{b:Array Field}(q:Q.underlying t=aa (.struct b)){i:Nat}{f:Field}(l:b[i]?=aa f){n:Option Nat}(m:q9 Q f.type n=ae)
  {x:V} {u:Value} (s:VR σ X x u) {v:V} (h:nS f.offset n x=aa v) (w:World):∃ r,(Instr.field t u i).run Q w=.ok r w∧VR σ X v r:=by
 unfold nS at h;split at h
 ·obtain⟨us,rfl,d⟩:=s;obtain⟨r,g,j⟩:=q_ m d f.offset h w;exact⟨r,by simp [Instr.field,aN q,l,asAgg,g],j⟩
 ·simp at h
theorem JN{t e:TypeId}{len sz:Nat}(z:Q.underlying t=aa (.array len e))(b:cM Q e sz=ae){n:Option Nat}(y:q9 Q e n=ae)
  {x i:V} {u j:Value} (A:VR σ X x u) (q:VR σ X i j) {v:V} (h:vV len sz n x i=aa v) (w:World):∃ r,(Instr.index t u j).run Q w=.ok r w∧VR σ X v r:=by
 unfold vV at h;split at h
 ·rename_i xs k s;obtain⟨B,rfl⟩:=gj q s;split at h
  ·rename_i m;obtain⟨us,rfl,d⟩:=A;obtain⟨r,g,l⟩:=q_ y d _ h w;exact⟨r,by simp [Instr.index,asIntOf,aN z,m,cx b,g],l⟩
  ·simp at h
 ·simp at h
theorem JO{t:TypeId}(q:Q.underlying t=aa .string){x i:V}{u j:Value}(y:VR σ X x u)(l:VR σ X i j){v:V}(h:vW x i=aa v)(w:World) :
  ∃ r,(Instr.index t u j).run Q w=.ok r w∧VR σ X v r:=by
 unfold vW at h;split at h
 ·rename_i s k m;obtain⟨z,rfl⟩:=gj l m;have:=VR.str y;subst this;split at h
  ·rename_i d;simp only [IN]at h;obtain⟨b,g,rfl⟩:=h;exact⟨_,by simp [Instr.index,asIntOf,aN q,d,g],VR.mkInt _ _⟩
  ·simp at h
 ·simp at h
end
section
variable{Q:Program}{σ:Nat→FuncId}{X:Wd}
theorem A2.over{α β:Type}{R:α→β→Prop}{cs xs:List α}{us d:List β}(h:A2 R cs us)(b:A2 R xs d)(off:Nat):A2 R (over cs off xs) (over us off d):=by
 unfold Km.over;rw [b.len];exact((h.take off).append b).append (h.drop _)
theorem wz{α:Type}(cs:List α)(off:Nat)(xs:List α)(h:off+xs.length≤cs.length):(over cs off xs).length=cs.length:=by
 simp [over];omega
theorem vS(off:Nat):∀(d:List Value) (k:Nat) (b:List Value),off+k+d.length≤b.length →
  ((d.zipIdx k).foldl (fun(cs:Array Value) p=>cs.setIfInBounds (off+p.2) p.1) b.toArray)=(over b (off+k) d).toArray
 | [],k,b,_=>by simp [over]
 | v::d,k,b,h=>by
  simp only [List.zipIdx_cons,adY];have g:b.toArray.setIfInBounds (off+k) v=(b.set (off+k) v).toArray:=by simp
  rw [g,vS off d (k+1) _ (by simp at h ⊢;omega)]
  congr 1
  unfold over;simp only [adf]at h ⊢;rw [List.take_set,List.drop_set_of_lt (by omega),show off+(k+1)=off+k+1 by omega,show off+k+1+d.length=off+k+(d.length+1) by omega];rw [aeh (by omega)];have j:(List.take (off+k) b).length=off+k:=by simp;omega
  have e:(List.take (off+k) b++[b[off+k]]).set (off+k) v=List.take (off+k) b++[v]:=by
   rw [List.set_append,aU (by omega),j];simp
  rw [e];simp
theorem mI{x:V}{u:Value}(b:VR σ X x u){xs:List C}(h:x.cells?=aa xs):∃ us,u.cells=us.toArray∧A2 (CR σ X) xs us:=by
 unfold V.cells? at h;split at h
 ·rename_i x;simp only [sh]at h;subst h;have d:=CR.one σ b;refine⟨[u],?_,A2.cons b A2.nil⟩;cases u<;>simp_all [Value.cells,Value.oneCell']
 ·simp only [sh]at h;subst h;obtain⟨us,rfl,h⟩:=b;exact⟨us,rfl,h⟩
 ·simp at h
theorem kW{a:Act}{al:T}(v:RR σ X al a.tmps){place:Nat→Option (Nat × Nat)}:∀ {qs:List (Nat × Nat × Arg)} {ps:List (Nat × Operand)},
  A2 (fun(q:Nat × Nat × Arg) (p:Nat × Operand)=>place p.1=aa (q.1,q.2.1)∧mA σ q.2.2 p.2=ae) qs ps→∀ {cs cs':List C} {us:List Value},A2 (CR σ X) cs us →
  cT al cs qs=aa cs'→∃ d,Instr.fill place us.toArray (ps.map fun p=>(p.1,a.eval p.2))=aa d.toArray∧A2 (CR σ X) cs' d
 | [],[],_,cs,cs',us,h,b=>by
  simp only [cT,sh]at b;subst b;exact⟨us,rfl,h⟩
 | [],_::_,g,_,_,_,_,_=>by have:=g.len;simp at this
 | _::_,[],g,_,_,_,_,_=>by have:=g.len;simp at this
 | (off,n,x)::qs,(i,y)::ps,g,cs,cs',us,h,b=>by
  obtain⟨⟨s,u⟩,l⟩:=g.of_cons;simp only at s u;simp only [cT]at b;split at b
  ·rename_i xs m;split at b
   ·rename_i H;obtain⟨F,E,j⟩:=mI (bj v u) m;obtain⟨d,z,A⟩:=kW v l (h.over j off) b;refine⟨d,?_,A⟩;have I:=j.len;have B:=h.len;simp only [List.map_cons,Instr.fill,s,E];rw [aU (by simp;omega)];rw [←z]
    congr 1
    have:=vS off F 0 us (by omega);simp only [Nat.add_zero]at this;rw [←this];simp [←Array.foldl_toList]
   ·simp at b
  ·simp at b
theorem dN{t:TypeId}{zs:List FC}(h:jh Q t zs=ae)(w:World):∃ z us,(zeroValue t).run Q w=.ok z w∧z.cells=us.toArray∧A2 (CR σ X) (zs.map .f) us ∧
  ∃ i,Q.info? t=aa i∧i.zero=aa z:=by
 unfold jh at h;cases b:Q.info? t with
 | none=>simp [b]at h
 | some i=>
  simp only [b,Option.any_some]at h;split at h
  ·rename_i z g;refine⟨z,z.cells.toList,by simp [zeroValue,typeInfo,b,g],by simp,A2.map ((dH h).jj fun x u d=>yO d),i,rfl,g⟩
  ·simp at h
end
section
variable{Q:Program}{σ:Nat→FuncId}{X:Wd}
theorem jD{b:CK}{t:TypeId}(h:CT Q b t=ae):(b=.int∧∃ j,Q.underlying t=aa (.int j))∨(b=.str∧Q.underlying t=aa .string)∨(b=.bool∧Q.underlying t=aa .bool):=by
 unfold CT at h;split at h
 ·exact .inl ⟨rfl,_,by assumption⟩
 ·exact .inr (.inl ⟨rfl,by assumption⟩)
 ·exact .inr (.inr ⟨rfl,by assumption⟩)
 ·simp at h
theorem qi{l:CK}{d:TypeDesc}(m:(l=.int∧∃ j,d=.int j)∨(l=.str∧d=.string)∨(l=.bool∧d=.bool)){F:Nat→Nat→Prop}{w:World}{x y:FC}{u v:Value}
  (q:bS σ F w x u) (s:bS σ F w y v) {b:Bool} (h:eqK l x y=aa b):Instr.sameNow d u v=aa b:=by
 unfold eqK at h;split at h
 ·cases q;cases s;rcases m with⟨_,j,rfl⟩ | ⟨g,_⟩ | ⟨g,_⟩
  ·simpa [Instr.sameNow]using h
  ·cases g
  ·cases g
 ·cases q;cases s;rcases m with⟨g,_⟩ | ⟨_,rfl⟩ | ⟨g,_⟩
  ·cases g
  ·simpa [Instr.sameNow]using h
  ·cases g
 ·cases q;cases s;rcases m with⟨g,_⟩ | ⟨g,_⟩ | ⟨_,rfl⟩
  ·cases g
  ·cases g
  ·simpa [Instr.sameNow]using h
 ·simp at h
theorem sG{l:CK}{d:TypeDesc}(q:(l=.int∧∃ j,d=.int j)∨(l=.str∧d=.string)∨(l=.bool∧d=.bool)){F:Nat→Nat→Prop}{w:World}{k:FC}{B:Value}(v:bS σ F w k B) :
  ∀ {R:C→Value→Prop} {y:List (FC × C)} {b:List MapEntry},A2 (fun e m=>bS σ F w e.1 m.key∧R e.2 m.val) y b→∀ {r:Option C} (i:Nat),ot l k y=aa r →
  match r with
  | none=>Instr.findNow d B b i=aa ab| some x=>∃ j u,Instr.findNow d B b i=aa (aa (j,u))∧R x u
 | _,[],[],_,r,i,h=>by
  simp only [ot,sh]at h;subst h;rfl
 | _,[],_::_,g,_,_,_=>by have:=g.len;simp at this
 | _,_::_,[],g,_,_,_=>by have:=g.len;simp at this
 | _,e::y,m::b,g,r,i,h=>by
  obtain⟨⟨z,E⟩,A⟩:=g.of_cons;simp only [ot]at h;split at h
  ·rename_i s;simp only [sh]at h;subst h;exact⟨i,m.val,by simp [Instr.findNow,qi q v z s],E⟩
  ·rename_i s;have:=sG q v A (i+1) h;cases r with
   | none=>simpa [Instr.findNow,qi q v z s]using this| some x=>obtain⟨j,u,H,I⟩:=this;exact⟨j,u,by simp [Instr.findNow,qi q v z s,H],I⟩
  ·simp at h
theorem fI{l:CK}{t:TypeId}(h:CT Q l t=ae){k:FC}{F:Nat→Nat→Prop}{q:World}{g:Value}(m:bS σ F q k g)(s:isKey l k=ae)(b:Bool)(w:World) :
  (Instr.checkKey b 10000 t g).run Q w=.ok () w:=by
 have:∀ n,(Instr.checkKey b (n+1) t g).run Q w=.ok () w:=by
  intro n;rcases jD h with⟨rfl,j,d⟩ | ⟨rfl,d⟩ | ⟨rfl,d⟩<;>cases m<;>simp_all [isKey,Instr.checkKey,aN d]
 exact this 9999
theorem yI{z:FC}{r:Option C}{u:Value}{g:Bool}(b:g=(o_ z).isSome)(h:fX σ X ((r.map mV).getD (zV ((o_ z).getD z))) u):VR σ X (UN z r) (if g=ae then .tuple #[u,.bool r.isSome]else u):=by
 unfold UN;cases d:o_ z with
 | none=>rw [d]at h b;subst b;exact VR.Me σ h| some z0=>rw [d]at h b;subst b;exact⟨[u,.bool r.isSome],rfl,A2.cons h (A2.cons (bS.bool _) A2.nil)⟩
theorem CP(hS:SR Q σ X){t kt e:TypeId}{K:CK}(Z:Q.underlying t=aa (.map kt e))(M:CT Q K kt=ae){z:FC}{J:Bool}(H:J=(o_ z).isSome)(hz:jh Q e (oI ((o_ z).getD z))=ae)
  (l:(Q.info? e).any (fun i=>i.zero.any fun u=>if zy ((o_ z).getD z)then T5 u else U1 u)=ae) {m k:V} {um uk:Value} (hm:VR σ X m um) (s:VR σ X k uk) {v:V} (h:gk X.H K z m k=aa v) :
  ∃ u,(Instr.lookup t um uk J).run Q X.w=.ok u X.w∧VR σ X v u:=by
 obtain⟨I,zs,N,A,B,i0,W,Y⟩:=dN (σ:=σ) (X:=X) hz X.w;have O:fX σ X (zV ((o_ z).getD z)) I:=by
  simp only [W,Option.any_some,Y]at l;generalize (o_ z).getD z=z0 at *;cases S:zy z0 with
  | true=>
   rw [W2 S];simp only [S,if_true]at l;cases I with
   | agg cs=>exact⟨zs,by simp only [Value.cells]at A;rw [A],B⟩
   | _=>simp [T5]at l
  | false=>
   obtain⟨e1,e2⟩:=W3 S;rw [e1];rw [e2]at B;simp only [S,acJ,if_false]at l;obtain⟨u,a8,a_⟩:=B.get (i:=0) (x:=.f z0) rfl;have hl:=B.len;have b6:zs=[u]:=by
    match zs,hl,a8 with
    | [y],_,h=>simp at h;rw [h]
   subst b6;cases I with
   | agg cs=>simp [U1]at l| _=>simp only [Value.cells]at A;have:=congrArg Array.toList A;simp at this;subst this;exact a_
 unfold gk at h;split at h
 ·rename_i kc;split at h
  ·rename_i q;simp only [sh]at h;subst h;cases (hm:bS σ X.F X.w .lY um);refine⟨if J=ae then .tuple #[I,.bool ag]else I,?_,yI (r:=ab) H O⟩;rcases jD M with⟨_,j,g⟩ | ⟨_,g⟩ | ⟨_,g⟩ <;>
    simp [Instr.lookup,aN Z,fI M s q,Instr.findKey,aN g,Instr.findNow,N]
  ·simp at h
 ·rename_i b kc;split at h
  ·rename_i es hb;split at h
   ·rename_i q;simp only [IN]at h;obtain⟨r,hr,rfl⟩:=h;obtain⟨L,hL,_,rfl⟩:=hm;obtain⟨_,_,aS,F,U⟩:=hS.br b L hL;rw [hb]at F;simp only [sh]at F;subst F;obtain⟨b7,h1,h2,_⟩:=U;have go:∀ d,Q.underlying kt=aa d→((K=.int∧∃ j,d=.int j)∨(K=.str∧d=.string)∨(K=.bool∧d=.bool))→∃ u,(Instr.lookup t (.map (aa L.c)) uk J).run Q X.w=.ok u X.w∧VR σ X (UN z r) u:=by
     intro d g hd;have h3:=sG (R:=fun c u=>fX σ X (mV c) u) hd s h2 0 hr;cases r with
     | none=>
      refine⟨if J=ae then .tuple #[I,.bool ag]else I,?_,yI (r:=ab) H O⟩;simp [Instr.lookup,aN Z,getObj,Sem.run,h1,fI M s q,Instr.findKey,aN g,h3,N]
     | some x=>
      obtain⟨j,u,E,h5⟩:=h3;refine⟨if J=ae then .tuple #[u,.bool ae]else u,?_,yI (r:=aa x) H h5⟩;simp [Instr.lookup,aN Z,getObj,Sem.run,h1,fI M s q,Instr.findKey,aN g,E]
    rcases jD M with⟨E,j,g⟩ | ⟨E,g⟩ | ⟨E,g⟩
    ·exact go _ g (.inl ⟨E,j,rfl⟩)
    ·exact go _ g (.inr (.inl ⟨E,rfl⟩))
    ·exact go _ g (.inr (.inr ⟨E,rfl⟩))
   ·simp at h
  ·simp at h
 ·simp at h
end
section
variable{Q:Program}{σ:Nat→FuncId}{X:Wd}
theorem dw{s:Sem Value}{u:Value}{w w':World}(h:s.run Q w=.ok u w'):(do pure (Next.value (←s)):Sem Next).run Q w=.ok (.value u) w':=by simp [h]
theorem oK{a:Act}{al:T}(b:RR σ X al a.tmps){x:Option Arg}{y:Option Operand}(h:mO σ x y=ae):OR X σ (x.map (·.ev al)) (y.map a.eval):=by
 rcases Y' b h with⟨rfl,rfl⟩ | ⟨g,j,rfl,rfl,d⟩
 ·trivial
 ·exact d
theorem fD{t:TypeId}{p:TypeId→Bool}(h:(ko Q t).any p=ae):∃ e,Q.underlying t=aa (.slice e)∧p e=ae:=by
 unfold ko at h;split at h
 ·exact⟨_,by assumption,by simpa using h⟩
 ·simp at h
theorem jg{x:C}{u:Value}(b:CR σ X x u){l:Nat}(h:bM X.H x=aa l):∃ a c,u=.slice a l c:=by
 unfold bM at h;split at h<;>try simp only [sh,reduceCtorEq]at h
 ·simp only [CR,eK]at b;split at h
  ·rename_i d;rw [d]at b;obtain⟨L,_,_,rfl⟩:=b;simp only [sh]at h;subst h;exact⟨_,_,rfl⟩
  ·rename_i s cs fl e j d;rw [d]at b;split at h
   ·rename_i g;have:=b.2.1 g.1 g.2;simp only [sh]at h;subst h;cases j with
    | loc=>obtain⟨L,_,k,_,_,rfl⟩:=this;exact⟨_,_,rfl⟩
    | nil=>obtain⟨_,rfl,rfl⟩:=this;exact⟨_,_,rfl⟩
    | es=>obtain⟨_,rfl,a,rfl⟩:=this;exact⟨_,_,rfl⟩
   ·simp at h
  ·simp at h
 ·subst h;cases (b:bS σ X.F X.w .ax u);exact⟨_,_,rfl⟩
 ·subst h;cases (b:bS σ X.F X.w .es u);exact⟨_,_,rfl⟩
 ·subst h;cases (b:bS σ X.F X.w (.fs _ _) u)<;>exact⟨_,_,rfl⟩
theorem jJ(K:SR Q σ X){sz:Nat}{x:C}{u:Value}(y:CR σ X x u){l:Nat}(m:bM X.H x=aa l){cs:List C}(h:cW X.H sz x=aa cs) :
  ∃ us,(Builtin.firstCells sz l u).run Q X.w=.ok us.toArray X.w∧A2 (CR σ X) cs us∧cs.length=l*sz:=by
 have row:∀(c o:Nat) (us:List Value) (cap:Nat),us.length=l*sz→(∀(i:Nat) u,us[i]?=aa u→X.w.cell? ⟨c,o+i,ab⟩=aa u) →
   (Builtin.firstCells sz l (.slice (aa ⟨c,o,ab⟩) l cap)).run Q X.w=.ok us.toArray X.w:=by
  intro c o us cap g F;have:=run_loadCells_list (P:=Q) X.w ⟨c,o,ab⟩ us (fun j v N=>by rw [dB];exact F j v N);rw [g]at this;simpa [Builtin.firstCells]using this
 unfold cW at h;split at h<;>try simp only [reduceCtorEq]at h
 ·rename_i b o I cap U s;simp only [CR,eK]at y;simp only [bM]at m;split at h
  ·rename_i cs' fl E;rw [E]at y m;simp only [sh]at m;subst m;obtain⟨L,J,_,rfl⟩:=y;split at h
   ·rename_i q;simp only [sh]at h;subst h;obtain⟨_,_,aS,d,z⟩:=K.br b L J;rw [E]at d;simp only [sh]at d;subst d;obtain⟨us,H,B,_⟩:=z;have:=B.len;refine⟨(us.drop o).take (I*sz),row _ _ _ _ (by simp;omega) (fun i u g=>?_),(B.drop o).take _,by simp;omega⟩;rw [dq H];rw [acX]at g;split at g
    ·rw [acO]at g;exact g
    ·simp at g
   ·simp at h
  ·rename_i s' cs' fl e S E;rw [E]at y m;split at h
   ·rename_i F;obtain⟨rfl,rfl,q⟩:=F;simp only [and_self,if_true,sh]at m;subst m;simp only [sh]at h;subst h;have A:=y.2.1 rfl rfl;cases S with
    | loc=>
     obtain⟨L,J,k,_,_,rfl⟩:=A;obtain⟨_,_,aS,d,z⟩:=K.br b L J;rw [E]at d;simp only [sh]at d;subst d;obtain⟨_,us,rest,H,B,_⟩:=z;have:=B.len;refine⟨(us.drop o).take (I*sz),row _ _ _ _ (by simp;omega) (fun i u g=>?_),(B.drop o).take _,by simp;omega⟩;rw [dq H];rw [acX]at g;split at g
     ·rw [acO]at g;rw [AT (If.1 g).1];exact g
     ·simp at g
    | nil=>
     obtain⟨rfl,rfl,rfl⟩:=A;exact⟨[],by simp [Builtin.firstCells],by simpa using A2.nil,by simp⟩
    | es=>
     obtain⟨rfl,rfl,a,rfl⟩:=A;exact⟨[],by simp [Builtin.firstCells,loadCells,loadCellsFrom],by simpa using A2.nil,by simp⟩
   ·simp at h
  ·simp at h
 ·simp only [sh]at h;subst h;simp only [bM,sh]at m;subst m;cases (y:bS σ X.F X.w .ax u);exact⟨[],by simp [Builtin.firstCells],A2.nil,by simp⟩
 ·simp only [sh]at h;subst h;simp only [bM,sh]at m;subst m;cases (y:bS σ X.F X.w .es u);exact⟨[],by simp [Builtin.firstCells,loadCells,loadCellsFrom],A2.nil,by simp⟩
 ·rename_i cs' I;simp only [bM,sh]at m;subst m;split at h
  ·rename_i q;simp only [sh]at h;subst h;cases (y:bS σ X.F X.w (.fs cs' I) u)with
   | fs _ _ c o cap us M O W F H=>
    exact⟨us,row _ _ _ _ (by omega) F,A2.map ⟨by omega,H⟩,by simp;omega⟩
   | SQ a cap=>exact⟨[],by simp [Builtin.firstCells,loadCells,loadCellsFrom],A2.nil,by simp⟩
  ·simp at h
theorem Pd{v:V}{u:Value}(h:VR σ X v u){c:C}(l:o7 v=aa c):eK σ X c u:=by
 unfold o7 at l;split at l
 ·simp at l
 ·simp at l
 ·rename_i x q m;simp only [sh]at l;subst l;cases x with
  | cl f j=>exact absurd rfl (q f j)| bm f j=>exact absurd rfl (m f j)| mi b=>exact h| f y=>exact h| ptr a b c=>exact h| sl a b c d e g=>exact h| yl b=>exact h| mp b=>exact h| it b=>exact h
 ·simp at l
theorem vB{xs:List V}{us:List Value}(h:A2 (VR σ X) xs us){cs:List C}(b:aY o7 xs=aa cs):A2 (eK σ X) cs us:=by
 induction xs generalizing us cs with
 | nil=>
  simp only [aY,sh]at b;subst b
  match us,h.len with
  | [],_=>exact A2.nil
 | cons x xs m=>
  match us,h with
  | u::us,h=>
   obtain⟨g,j⟩:=h.of_cons;simp only [aY]at b;split at b
   ·simp at b
   ·rename_i y l;split at b
    ·simp at b
    ·rename_i ys d;simp only [sh]at b;subst b;exact A2.cons (Pd g l) (m j d)
  | [],h=>have:=h.len;simp at this
theorem cY{d:Operand→Value}{o:Oper}{c:Call}{b:Builtin}(j:o.op=.call c)(g:c.callee=.builtin b){r:Result Next}{w:World}
  (h:∀ cs,(builtin b c.argTypes o.type cs (c.args.map d)).run Q w=r):(execOp d o).run Q w=r:=by
 simp only [execOp,j,resolve,g,Sem.run_bind,Sem.run_pure,Result.andThen_ok,invoke];exact h _
theorem rB{α:Type}{a:Array α}{x:α}(h:a.toList=[x]):a=#[x]:=by
 apply Array.ext';simp [h]
theorem O'{α:Type}{a:Array α}{x y:α}(h:a.toList=[x,y]):a=#[x,y]:=by
 apply Array.ext';simp [h]
theorem CS{c:Call}{x:Arg}(h:dk Q σ c (.len x)=ae):∃ y t e,c.callee=.builtin .len∧c.args=#[y]∧c.argTypes=#[t]∧mA σ x y=ae∧Q.underlying t=aa (.slice e):=by
 simp only [dk]at h;split at h
 ·rename_i y t b d g;simp only [BY]at h;have:=h.2;split at this
  ·exact⟨y,t,_,b,rB d,rB g,h.1,by assumption⟩
  ·simp at this
 ·simp at h
theorem yM{c:Call}{x:Arg}(h:dk Q σ c (.lens x)=ae):∃ y t,c.callee=.builtin .len∧c.args=#[y]∧c.argTypes=#[t]∧mA σ x y=ae∧Q.underlying t=aa .string:=by
 simp only [dk]at h;split at h
 ·rename_i y t b d g;simp only [BY]at h;have:=h.2;split at this
  ·exact⟨y,t,b,rB d,rB g,h.1,by assumption⟩
  ·simp at this
 ·simp at h
theorem yL{c:Call}{n:Nat}(h:dk Q σ c (.qt n)=ae):∃ y t e,c.callee=.builtin .len∧c.args=#[y]∧c.argTypes=#[t]∧Q.underlying t=aa (.array n e):=by
 simp only [dk]at h;split at h
 ·rename_i y t b d g;split at h
  ·rename_i m e j;simp only [decide_eq_true_eq]at h;subst h;exact⟨y,t,e,b,rB d,rB g,j⟩
  ·simp at h
 ·simp at h
theorem yN{c:Call}{lo:Bool}{xs:List Arg}(h:dk Q σ c (.dZ lo xs)=ae):c.callee=.builtin (if lo then .min else .max)∧Mb σ xs c.args=ae:=by
 simp only [dk]at h;split at h
 ·rename_i b;exact⟨b,h⟩
 ·rename_i b;exact⟨b,h⟩
 ·simp at h
theorem J6{lo:Bool}{x y z:V}{u v:Value}(b:VR σ X x u)(d:VR σ X y v)(h:wg lo x y=aa z)(w:World):∃ r,(if lo then Builtin.min2 u v else Builtin.max2 u v).run Q w=.ok r w∧VR σ X z r:=by
 unfold wg at h;split at h
 ·simp only [sh]at h;subst h;have b:=VR.int b;have d:=VR.int d;subst b;subst d;cases lo
  ·exact⟨_,by simp [Builtin.max2],VR.mkInt _ _⟩
  ·exact⟨_,by simp [Builtin.min2],VR.mkInt _ _⟩
 ·simp at h
theorem wi{lo:Bool}(w:World):∀ {ys:List V} {d:List Value} {x z:V} {u:Value},VR σ X x u→A2 (VR σ X) ys d→qy lo x ys=aa z→∃ r,(d.foldlM (fun u v=>if lo then Builtin.min2 u v else Builtin.max2 u v) u).run Q w=.ok r w∧VR σ X z r
 | [],d,x,z,u,g,b,h=>by
  have:d=[]:=acH b.len.symm;subst this;simp only [qy,sh]at h;subst h;exact⟨u,rfl,g⟩
 | y::ys,[],x,z,u,g,b,h=>by have:=b.len;simp at this
 | y::ys,v::d,x,z,u,g,b,h=>by
  obtain⟨A,b⟩:=b.of_cons;simp only [qy]at h;split at h
  ·rename_i q B;obtain⟨r1,j,l⟩:=J6 (Q:=Q) g A B w;obtain⟨r,m,s⟩:=wi w l b h;exact⟨r,by rw [List.foldlM_cons,Sem.run_bind,j];exact m,s⟩
  ·simp at h
theorem CQ{c:Call}{x:Arg}(h:dk Q σ c (.cap x)=ae):∃ y t e,c.callee=.builtin .cap∧c.args=#[y]∧c.argTypes=#[t]∧mA σ x y=ae∧Q.underlying t=aa (.slice e):=by
 simp only [dk]at h;split at h
 ·rename_i y t g j l;simp only [BY]at h;obtain⟨m,d⟩:=h;split at d
  ·rename_i e b;exact⟨y,t,e,g,rB j,rB l,m,b⟩
  ·simp at d
 ·simp at h
theorem LN{x:C}{u:Value}(d:CR σ X x u){n:Nat}(h:jU X.H x=aa n):∃ a l,u=.slice a l n:=by
 cases x with
 | sl b o l c m sz=>
  simp only [jU]at h;simp only [CR,eK]at d;split at h
  ·rename_i g;rw [g]at d;obtain⟨L,_,_,rfl⟩:=d;simp only [sh]at h;subst h;exact⟨_,_,rfl⟩
  ·rename_i g;rw [g]at d;split at h
   ·rename_i j;have:=d.2.1 j.1 j.2;simp only [sh]at h;subst h;obtain⟨_,_,rfl⟩:=this;exact⟨_,_,rfl⟩
   ·simp at h
  ·rename_i g;rw [g]at d;split at h
   ·rename_i j;have:=d.2.1 j.1 j.2;simp only [sh]at h;subst h;obtain⟨_,_,a,rfl⟩:=this;exact⟨_,_,rfl⟩
   ·simp at h
  ·simp at h
 | f y=>
  cases y<;>simp only [jU,sh,reduceCtorEq]at h
  ·subst h;cases (d:bS σ X.F X.w .ax u);exact⟨_,_,rfl⟩
  ·subst h;cases (d:bS σ X.F X.w .es u);exact⟨_,_,rfl⟩
 | _=>simp [jU]at h
theorem Ab(v:SR Q σ X){m:Nat}{L:Loc}(u:X.bI m=aa L){e:FC × C}(x:X.H[m]?=aa (.map [e])):∃ d:MapEntry,X.w.heap[L.c]?=aa (.map #[d] 1)∧bS σ X.F X.w e.1 d.key∧fX σ X (mV e.2) d.val∧d.born=0:=by
 obtain⟨_,_,aS,g,l⟩:=v.br m L u;rw [x]at g;cases g;obtain⟨j,q,b,s⟩:=l
 match j,b with
 | [d],b=>exact⟨d,q,b.of_cons.1.1,b.of_cons.1.2,s 0 d rfl⟩| [],b=>have:=b.len;simp at this| _::_::_,b=>have:=b.len;simp at this
theorem Cz(q:SR Q σ X){x:V}{u:Value}(K:VR σ X x u){v:V}(h:jx X.H x=aa v):∃ r,(Instr.entry u).run Q X.w=.ok r X.w∧VR σ X v r:=by
 unfold jx at h;split at h
 ·rename_i b;obtain⟨L,H,_,rfl⟩:=K;split at h
  ·rename_i m s I;split at h
   ·rename_i e J;simp only [sh]at h;subst h;obtain⟨_,_,aS,d,j⟩:=q.br b L H;rw [I]at d;cases d;obtain⟨M,N,O,E,_,F,l⟩:=j;simp only [if_true]at l;obtain⟨rfl,rfl⟩:=l;obtain⟨g,y,z,A,B⟩:=Ab q E J;refine⟨.tuple #[g.key,g.val],?_,[g.key,g.val],rfl,A2.cons z (A2.cons A A2.nil)⟩;simp [Instr.entry,getObj,Sem.run,F,y,B,Result.andThen]
   ·simp at h
  ·simp at h
 ·simp at h
theorem vE:∀ {cs:List C} {us:List Value} {d:List UInt8},A2 (CR σ X) cs us→aY (fun c=>match c with | C.f (.int .u8 n)=>aa (UInt8.ofNat n.toNat) | _=>ab) cs=aa d →
  ∃ j:List Int,us=j.map (Value.int .u8)∧d=j.map fun n=>UInt8.ofNat n.toNat
 | [],us,d,h,b=>by
  simp only [aY,sh]at b;subst b
  match us,h.len with
  | [],_=>exact⟨[],rfl,rfl⟩
 | c::cs,[],d,h,b=>by have:=h.len;simp at this
 | c::cs,u::us,d,h,b=>by
  obtain⟨m,q⟩:=h.of_cons;simp only [aY]at b;split at b
  ·simp at b
  ·rename_i y g;split at b
   ·simp at b
   ·rename_i ys l;simp only [sh]at b;subst b;obtain⟨j,rfl,rfl⟩:=vE q l;split at g
    ·rename_i n;simp only [sh]at g;subst g;cases (m:bS σ X.F X.w (.int .u8 n) u);exact⟨n::j,rfl,rfl⟩
    ·simp at g
theorem foldl_push:∀(b:List Int) (s:ByteArray),b.foldl (fun(r:ByteArray) n=>r.push (UInt8.ofNat n.toNat)) s=⟨s.data++(b.map fun n=>UInt8.ofNat n.toNat).toArray⟩
 | [],s=>by simp
 | n::b,s=>by
  rw [adY,foldl_push b]
  congr 1
  simp [ByteArray.push]
theorem Jw(s:SR Q σ X){x:V}{u:Value}(m:VR σ X x u){v:V}(h:lF X.H x=aa v):∃ r,(Conv.bytesToString u).run Q X.w=.ok r X.w∧VR σ X v r:=by
 unfold lF at h;split at h
 ·rename_i x;split at h
  ·rename_i l j;split at h
   ·rename_i cs g;simp only [IN]at h;obtain⟨z,y,rfl⟩:=h;obtain⟨us,d,q,A⟩:=jJ s m j g;obtain⟨ad,c,rfl⟩:=jg m j;obtain⟨b,rfl,rfl⟩:=vE q y;refine⟨.string (b.foldl (fun(r:ByteArray) n=>r.push (UInt8.ofNat n.toNat)) ByteArray.empty),?_,?_⟩
    ·cases ad with
     | none=>
      simp only [Builtin.firstCells,Sem.run_pure,Result.ok.injEq,and_true]at d;have:b=[]:=by
       have:=congrArg Array.toList d;simpa using this.symm
      subst this;simp only [Conv.bytesToString,List.foldl_nil,List.map_nil,Sem.run_pure]
     | some ad=>exact run_bytesToString X.w ad l c b (by simpa [Builtin.firstCells]using d)
    ·rw [foldl_push];rw [show(ByteArray.empty.data++(List.map (fun n:Int=>UInt8.ofNat n.toNat) b).toArray)=(List.map (fun n:Int=>UInt8.ofNat n.toNat) b).toArray from Array.empty_append];exact VR.mkStr _
   ·simp at h
  ·simp at h
 ·simp at h
theorem Ti(hS:SR Q σ X){a:Act}{al:T}(H:RR σ X al a.tmps){o:Oper}{op:cj}(A:df Q σ o op=ae)(hc:cls op=.p∨cls op=.r)(c7:op.Xc=ag){v:V}{H':aj}
  (h:aW al X.H op=aa (v,H')):H'=X.H∧∃ u,(execOp a.eval o).run Q X.w=.ok (.value u) X.w∧VR σ X v u:=by
 cases op<;>first | (simp only [cls,reduceCtorEq,or_self]at hc;done) | (simp [cj.Xc]at c7;done) | clear c7
 case cb x=>
  simp only [aW,sh,IS]at h;obtain⟨rfl,rfl⟩:=h;refine⟨rfl,?_⟩;simp only [df]at A;split at A
  ·rename_i y E;exact⟨_,by simp [execOp,E],bj H A⟩
  ·rename_i y E;exact⟨_,by simp [execOp,E],bj H A⟩
  ·simp at A
 case pick c x y=>
  simp only [df]at A;split at A
  ·rename_i c' x' y' E;simp only [BY]at A;simp only [aW]at h;have b7:=bj H A.1.1;split at h
   ·rename_i b Z;rw [Z]at b7;have b7:=VR.bool b7;simp only [sh,IS]at h;obtain⟨rfl,rfl⟩:=h;cases b
    ·exact⟨rfl,_,by simp [execOp,E,b7,asBool],bj H A.2⟩
    ·exact⟨rfl,_,by simp [execOp,E,b7,asBool],bj H A.1.2⟩
   ·simp at h
  ·simp at A
 case build zs qs=>
  simp only [df]at A;split at A
  ·rename_i t ps E;simp only [BY]at A;simp only [aW,IN,IS]at h;obtain⟨cs,a_,rfl,rfl⟩:=h;obtain⟨z,us,e_,f4,f7,_⟩:=dN (σ:=σ) (X:=X) A.1 X.w;refine⟨rfl,?_⟩;have Z:=A.2;unfold J2 at Z;split at Z
   ·rename_i fs K;split at Z
    ·rename_i pl i_;obtain⟨b_,N,h6⟩:=kW (place:=(pl.toArray[·]?)) H ((dH Z).jj fun q p W=>by
      simp only [BY,decide_eq_true_eq]at W;exact⟨by simpa using W.1,W.2⟩) f7 a_
     refine⟨.agg b_.toArray,?_,b_,rfl,h6⟩;have hp:=run_places (P:=Q) X.w fs.toList pl i_;simp only [execOp,E];refine dw ?_;simp [Instr.build,e_,aN K,Array.mapM_eq_mapM_toList,hp,f4];simp at N;simp [N]
    ·simp at Z
   ·rename_i n e K;split at Z
    ·rename_i f8 hi;obtain⟨b_,N,h6⟩:=kW (place:=fun i=>aa (i*f8.size,f8.size)) H ((dH Z).jj fun q p W=>by
      simp only [BY,beq_iff_eq]at W;exact⟨by rw [W.1.2,W.1.1],W.2⟩) f7 a_
     refine⟨.agg b_.toArray,?_,b_,rfl,h6⟩;simp only [execOp,E];refine dw ?_;simp [Instr.build,e_,aN K,Go.sizeOf,typeInfo,hi,f4,N]
    ·simp at Z
   ·simp at Z
  ·simp at A
 case load k x=>
  simp only [df]at A;split at A
  ·rename_i t y E;simp only [BY]at A;simp only [aW,IN,IS]at h;obtain⟨v',F,rfl,rfl⟩:=h;obtain⟨u,J,M⟩:=UL hS A.1 (bj H A.2) F;exact⟨rfl,u,by simp only [execOp,E];exact dw J,M⟩
  ·simp at A
 case bp x=>
  simp only [df]at A;split at A
  ·rename_i y E;have B:=bj H A;simp only [aW]at h;have c8:∀ ad,a.eval y=.pointer (aa ad)→(execOp a.eval o).run Q X.w=.ok (.value (a.eval y)) X.w:=by
    intro ad b6;simp [execOp,E,b6]
   split at h
   ·rename_i b off e Z;simp only [sh,IS]at h;obtain⟨rfl,rfl⟩:=h;rw [Z]at B;have c6:=B;obtain⟨L,hL,B⟩:=B;split at B
    ·exact⟨rfl,_,c8 _ B,c6⟩
    ·obtain⟨_,_,ad,b6⟩:=B;exact⟨rfl,_,c8 _ b6,c6⟩
    ·exact B.elim
   ·rename_i cs off Z;simp only [sh,IS]at h;obtain⟨rfl,rfl⟩:=h;rw [Z]at B;have c6:=B;have:∃ ad,a.eval y=.pointer (aa ad):=by
     generalize a.eval y=u at B;cases (B:bS σ X.F X.w (.fp cs off) u);exact⟨_,rfl⟩
    obtain⟨ad,b6⟩:=this;exact⟨rfl,_,c8 _ b6,c6⟩
   ·simp at h
  ·simp at A
 case bin op x y=>
  simp only [df]at A;split at A
  ·rename_i f_ t x' y' yt E;simp only [BY,decide_eq_true_eq]at A;obtain⟨⟨rfl,B⟩,S⟩:=A;simp only [aW,IN,IS]at h;obtain⟨v',F,rfl,rfl⟩:=h;have B:=bj H B;have S:=bj H S;refine⟨rfl,?_⟩;have guard:∀ op,(∀ xs,a.eval x'≠.agg xs)→a.eval x'≠.nilIface→(eqGuard op t x' y' (a.eval x') (a.eval y')).run Q X.w=.ok () X.w:=by
    intro op J M;cases op<;>simp [eqGuard]<;>(generalize a.eval x'=ux at *;cases ux<;>simp at J M ⊢)
   unfold bt at F;split at F
   ·rename_i k n k' m J M;rw [J]at B;rw [M]at S;have B:=VR.int B;have S:=VR.int S;split at F
    ·simp at F
    ·rename_i A;simp only [sh]at F;subst F;exact⟨_,by simp only [execOp,E];refine dw ?_;rw [Sem.run_bind,guard _ (by simp [B]) (by simp [B])];simp [B,S,binOp,Op.shift,A],VR.mkInt _ _⟩
   ·rename_i k n k' m J M;rw [J]at B;rw [M]at S;have B:=VR.int B;have S:=VR.int S;split at F
    ·simp at F
    ·rename_i A;simp only [sh]at F;subst F;exact⟨_,by simp only [execOp,E];refine dw ?_;rw [Sem.run_bind,guard _ (by simp [B]) (by simp [B])];simp [B,S,binOp,Op.shift,A],VR.mkInt _ _⟩
   ·rename_i k n k' m _ _ J M;rw [J]at B;rw [M]at S;have B:=VR.int B;have S:=VR.int S;split at F
    ·rename_i hk;subst hk;obtain⟨u,Y,O,N⟩:=O_ (Q:=Q) (σ:=σ) (X:=X) F X.w;exact⟨u,by simp only [execOp,E];refine dw ?_;rw [Sem.run_bind,guard _ (by simp [B]) (by simp [B])];simp [B,S,N,Y],O⟩
    ·simp at F
   ·rename_i s1 s2 J M;rw [J]at B;rw [M]at S;have B:=VR.str B;have S:=VR.str S;obtain⟨u,Y,O⟩:=Pb (Q:=Q) (σ:=σ) (X:=X) F X.w t;exact⟨u,by simp only [execOp,E];refine dw ?_;rw [Sem.run_bind,guard _ (by simp [B]) (by simp [B])];simp [B,S,Y],O⟩
   ·simp at F
  ·simp at A
 case eq neg k x y=>
  simp only [df]at A;split at A
  ·rename_i f_ t x' y' yt E;simp only [BY,decide_eq_true_eq]at A;obtain⟨⟨⟨rfl,B⟩,S⟩,hk⟩:=A;simp only [aW,IN,IS]at h;obtain⟨b,F,rfl,rfl⟩:=h;refine⟨rfl,_,?_,VR.qz _⟩;simp only [execOp,E];exact dw (Um hk (bj H B) (bj H S) F neg X.w)
  ·simp at A
 case un op x=>
  simp only [df]at A;split at A
  ·rename_i f_ t y E;simp only [BY,decide_eq_true_eq]at A;obtain⟨rfl,B⟩:=A;simp only [aW,IN,IS]at h;obtain⟨v',F,rfl,rfl⟩:=h;have B:=bj H B;refine⟨rfl,?_⟩;unfold unV at F;split at F
   ·rename_i k n J;rw [J]at B;have B:=VR.int B;simp only [sh]at F;subst F;exact⟨_,by simp [execOp,E,B,Op.unary,Op.intArith],VR.mkInt _ _⟩
   ·rename_i b J;rw [J]at B;have B:=VR.bool B;simp only [sh]at F;subst F;exact⟨_,by simp [execOp,E,B,Op.unary],VR.qz _⟩
   ·simp at F
  ·simp at A
 case gF k x=>
  simp only [df]at A;split at A
  ·rename_i s d y E;simp only [BY]at A;obtain⟨⟨B,hs⟩,hd⟩:=A;have B:=bj H B;simp only [aW]at h;split at h
   ·rename_i q n J;rw [J]at B;have B:=VR.int B;simp only [sh,IS]at h;obtain⟨rfl,rfl⟩:=h;split at hd
    ·rename_i k' K;simp only [decide_eq_true_eq]at hd;subst hd;obtain⟨ds,g_⟩:=Option.isSome_iff_exists.1 hs;exact⟨rfl,_,by simp only [execOp,E];refine dw ?_;simp [convert,aN g_,aN K,B,Conv.intToInt],VR.mkInt _ _⟩
    ·simp at hd
   ·simp at h
  ·simp at A
 case tx x=>
  simp only [df]at A;split at A
  ·rename_i s d y E;simp only [BY]at A;obtain⟨B,hd⟩:=A;have B:=bj H B;simp only [aW]at h;split at h
   ·rename_i q J;rw [J]at B;have B:=VR.str B;simp only [sh,IS]at h;obtain⟨rfl,rfl⟩:=h;split at hd
    ·rename_i d5 d6;exact⟨rfl,_,by simp only [execOp,E];refine dw ?_;simp [convert,aN d5,aN d6,B],VR.mkStr _⟩
    ·simp at hd
   ·simp at h
  ·simp at A
 case eT f xs=>
  simp only [df]at A;split at A
  ·rename_i g fst a8 E;simp only [BY,beq_iff_eq]at A;obtain⟨⟨I,rfl⟩,B⟩:=A;simp only [aW,IN,IS]at h;obtain⟨cs,a_,rfl,rfl⟩:=h;have:=vB (kC H B) a_;have d9:fst=#[]:=by simpa using I
   exact⟨rfl,.func (.func (σ f)) #[] (a8.map a.eval),by simp only [execOp,E,Instr.makeFunc,d9];exact dw (by simp),(a8.map a.eval).toList,congrArg _ Array.toArray_toList.symm,this⟩
  ·simp at A
 case slice sz x lo hi mx=>
  simp only [df]at A;split at A
  ·rename_i t y f9 d_ mx' E;simp only [BY,decide_eq_true_eq]at A;obtain⟨⟨⟨⟨⟨B,J⟩,M⟩,Y⟩,he⟩,hz⟩:=A;obtain⟨e,K,U⟩:=fD he;simp only [aW,IN,IS]at h;obtain⟨v',F,rfl,rfl⟩:=h;obtain⟨r,O,N⟩:=s4 K U (bj H B) (oK H J) (oK H M) (oK H Y) F;exact⟨rfl,r,by simp only [execOp,E];exact dw O,N⟩
  ·simp at A
 case lM n sz x lo hi mx=>
  simp only [df]at A;split at A
  ·rename_i t y f9 d_ mx' E;simp only [BY,decide_eq_true_eq]at A;obtain⟨⟨⟨⟨⟨B,J⟩,M⟩,Y⟩,he⟩,hz⟩:=A;split at he
   ·rename_i n' e K;simp only [BY,beq_iff_eq]at he;obtain⟨rfl,U⟩:=he;simp only [aW,IN,IS]at h;obtain⟨v',F,rfl,rfl⟩:=h;obtain⟨r,O,N⟩:=DN hS K U (bj H B) (oK H J) (oK H M) (oK H Y) F;exact⟨rfl,r,by simp only [execOp,E];exact dw O,N⟩
   ·simp at he
  ·simp at A
 case nA x lo hi=>
  simp only [df]at A;split at A
  ·rename_i t y f9 d_ E;simp only [BY]at A;obtain⟨⟨⟨B,J⟩,M⟩,he⟩:=A;split at he
   ·rename_i K;simp only [aW,IN,IS]at h;obtain⟨v',F,rfl,rfl⟩:=h;obtain⟨r,O,N⟩:=DP K (bj H B) (oK H J) (oK H M) F X.w;exact⟨rfl,r,by simp only [execOp,E,Option.map_none];exact dw O,N⟩
   ·simp at he
  ·simp at A
 case aJ off x=>
  simp only [df]at A;split at A
  ·rename_i t y i E;simp only [BY]at A;obtain⟨B,I⟩:=A;split at I
   ·rename_i fs K;split at I
    ·rename_i f c9;simp only [BY,beq_iff_eq]at I;obtain⟨rfl,hz⟩:=I;simp only [aW,IN,IS]at h;obtain⟨v',F,rfl,rfl⟩:=h;obtain⟨r,O,N⟩:=yw K c9 hz (bj H B) F X.w;exact⟨rfl,r,by simp only [execOp,E];exact dw O,N⟩
    ·simp at I
   ·simp at I
  ·simp at A
 case field off n x=>
  simp only [df]at A;split at A
  ·rename_i t y i E;simp only [BY]at A;obtain⟨B,I⟩:=A;split at I
   ·rename_i fs K;split at I
    ·rename_i f c9;simp only [BY,beq_iff_eq]at I;obtain⟨rfl,hz⟩:=I;simp only [aW,IN,IS]at h;obtain⟨v',F,rfl,rfl⟩:=h;obtain⟨r,O,N⟩:=CA K c9 hz (bj H B) F X.w;exact⟨rfl,r,by simp only [execOp,E];exact dw O,N⟩
    ·simp at I
   ·simp at I
  ·simp at A
 case bh sz d7 x i=>
  simp only [df]at A;split at A
  ·rename_i t y j E;simp only [BY]at A;obtain⟨⟨B,hi⟩,I⟩:=A;simp only [aW,IN,IS]at h;obtain⟨v',F,rfl,rfl⟩:=h;have:∃ e,cM Q e sz=ae∧((d7=ab∧Q.underlying t=aa (.slice e))∨∃ n,d7=aa n∧Q.underlying t=aa (.array n e)):=by
    split at I
    ·rename_i e K;exact⟨e,I,.inl ⟨rfl,K⟩⟩
    ·rename_i n e n' K;simp only [BY,beq_iff_eq]at I;obtain⟨rfl,U⟩:=I;exact⟨e,U,.inr ⟨_,rfl,K⟩⟩
    ·simp at I
   obtain⟨e,U,K⟩:=this;obtain⟨r,O,N⟩:=yD U K (bj H B) (bj H hi) F;exact⟨rfl,r,by simp only [execOp,E];exact dw O,N⟩
  ·simp at A
 case idxs x i=>
  simp only [df]at A;split at A
  ·rename_i t y j E;simp only [BY]at A;obtain⟨⟨B,hi⟩,I⟩:=A;simp only [aW,IN,IS]at h;obtain⟨v',F,rfl,rfl⟩:=h;split at I
   ·rename_i K;obtain⟨r,O,N⟩:=JO K (bj H B) (bj H hi) F X.w;exact⟨rfl,r,by simp only [execOp,E];exact dw O,N⟩
   ·simp at I
  ·simp at A
 case tJ n sz k x i=>
  simp only [df]at A;split at A
  ·rename_i t y j E;simp only [BY]at A;obtain⟨⟨B,hi⟩,I⟩:=A;simp only [aW,IN,IS]at h;obtain⟨v',F,rfl,rfl⟩:=h;split at I
   ·rename_i n' e K;simp only [BY,beq_iff_eq]at I;obtain⟨⟨rfl,U⟩,hk⟩:=I;obtain⟨r,O,N⟩:=JN K U hk (bj H B) (bj H hi) F X.w;exact⟨rfl,r,by simp only [execOp,E];exact dw O,N⟩
   ·simp at I
  ·simp at A
 case lookup ck z m k=>
  simp only [df]at A;split at A
  ·rename_i t m' k' ok E;simp only [BY,beq_iff_eq]at A;obtain⟨⟨⟨J,M⟩,h_⟩,I⟩:=A;simp only [aW,IN,IS]at h;obtain⟨v',F,rfl,rfl⟩:=h;split at I
   ·rename_i kt e K;simp only [BY]at I;obtain⟨u,O,N⟩:=CP hS K I.1.1 h_ I.1.2 I.2 (bj H J) (bj H M) F;exact⟨rfl,u,by simp only [execOp,E];exact dw O,N⟩
   ·simp at I
  ·simp at A
 case extract x i=>
  simp only [df]at A;split at A
  ·rename_i y j E;simp only [BY,beq_iff_eq]at A;obtain⟨B,rfl⟩:=A;have B:=bj H B;simp only [aW]at h;split at h
   ·rename_i vs j4;rw [j4]at B;simp only [IN,IS]at h;obtain⟨v',F,rfl,rfl⟩:=h;obtain⟨us,c4,M⟩:=B;obtain⟨u,K,j7⟩:=M.get F;exact⟨rfl,u,by simp only [execOp,E];refine dw ?_;simp [Instr.extract,c4,K],VR.Me σ j7⟩
   ·simp at h
  ·simp at A
 case qt n=>
  simp only [df]at A;split at A
  ·rename_i c E;obtain⟨y,t,e,J,M,Y,K⟩:=yL A;simp only [aW,sh,IS]at h;obtain⟨rfl,rfl⟩:=h;exact⟨rfl,_,cY E J (fun cs=>by simp [builtin,M,Y,Builtin.len_,aN K,goInt]),VR.mkInt _ _⟩
  ·simp at A
 case lens x=>
  simp only [df]at A;split at A
  ·rename_i c E;obtain⟨y,t,J,M,Y,B,K⟩:=yM A;have B:=bj H B;simp only [aW]at h;split at h
   ·rename_i s hs;rw [hs]at B;have B:=VR.str B;simp only [sh,IS]at h;obtain⟨rfl,rfl⟩:=h;exact⟨rfl,_,cY E J (fun cs=>by simp [builtin,M,Y,Builtin.len_,aN K,B,goInt]),VR.mkInt _ _⟩
   ·simp at h
  ·simp at A
 case len x=>
  simp only [df]at A;split at A
  ·rename_i c E;obtain⟨y,t,e,J,M,Y,B,K⟩:=CS A;have B:=bj H B;simp only [aW]at h;split at h
   ·rename_i z hz;rw [hz]at B;split at h
    ·rename_i n hn;simp only [sh,IS]at h;obtain⟨rfl,rfl⟩:=h;obtain⟨ad,cp,c_⟩:=jg B hn;exact⟨rfl,_,cY E J (fun cs=>by simp [builtin,M,Y,Builtin.len_,aN K,c_,goInt]),VR.mkInt _ _⟩
    ·simp at h
   ·simp at h
  ·simp at A
 case dZ lo xs=>
  simp only [df]at A;split at A
  ·rename_i c E;obtain⟨J,M⟩:=yN A;have hA:=kC H M;simp only [aW,IN,IS]at h;obtain⟨v',F,rfl,rfl⟩:=h;refine⟨rfl,?_⟩;unfold wh at F;split at F
   ·simp at F
   ·rename_i x ys j8;rw [j8]at hA
    match c4:(c.args.map a.eval).toList,hA with
    | [],hA=>have:=hA.len;simp at this
    | u::us,hA=>
     obtain⟨B,hA⟩:=hA.of_cons;obtain⟨r,g1,g2⟩:=wi (Q:=Q) (lo:=lo) X.w B hA F;refine⟨r,cY E J (fun cs=>?_),g2⟩;cases lo
     ·simp only [acJ,if_false]at g1 ⊢;have g1:(us.foldlM Builtin.max2 u).run Q X.w=.ok r X.w:=g1;have b9:List.map a.eval c.args.toList=u::us:=by simpa using c4
      simp [builtin,Builtin.max_,b9,g1]
     ·simp only [if_true]at g1 ⊢;have g1:(us.foldlM Builtin.min2 u).run Q X.w=.ok r X.w:=g1;have b9:List.map a.eval c.args.toList=u::us:=by simpa using c4
      simp [builtin,Builtin.min_,b9,g1]
  ·simp at A
 case cap x=>
  simp only [df]at A;split at A
  ·rename_i c E;obtain⟨y,t,e,J,M,Y,B,K⟩:=CQ A;have B:=bj H B;simp only [aW]at h;split at h
   ·rename_i z hz;rw [hz]at B;split at h
    ·rename_i n hn;simp only [sh,IS]at h;obtain⟨rfl,rfl⟩:=h;obtain⟨ad,l,c_⟩:=LN B hn;exact⟨rfl,_,cY E J (fun cs=>by simp [builtin,M,Y,Builtin.cap_,aN K,c_,goInt]),VR.mkInt _ _⟩
    ·simp at h
   ·simp at h
  ·simp at A
 case entry x=>
  simp only [df]at A;split at A
  ·rename_i y E;simp only [aW,IN,IS]at h;obtain⟨v',F,rfl,rfl⟩:=h;obtain⟨r,g1,g2⟩:=Cz hS (bj H A) F;exact⟨rfl,r,by simp only [execOp,E];exact dw g1,g2⟩
  ·simp at A
 case rG f xs=>
  simp only [df]at A;split at A
  ·rename_i g fst a8 E;simp only [BY,beq_iff_eq]at A;obtain⟨⟨I,rfl⟩,B⟩:=A;simp only [aW,IN,IS]at h;obtain⟨cs,a_,rfl,rfl⟩:=h;have:=vB (kC H B) a_;have d8:a8=#[]:=by simpa using I
   exact⟨rfl,.func (.func (σ f)) (fst.map a.eval) #[],by simp only [execOp,E,Instr.makeFunc,d8];exact dw (by simp),(fst.map a.eval).toList,by rw [Array.toArray_toList],this⟩
  ·simp at A
 case call f args h'=>cases h'<;>simp [cls]at hc
 case tw x=>
  simp only [df]at A;split at A
  ·rename_i s d y E;simp only [BY]at A;obtain⟨B,hd⟩:=A;have B:=bj H B;split at hd
   ·rename_i e d5 d6;simp only [BY]at hd;have j3:Q.underlying e=aa (.int .u8):=by
     have:=hd.1;unfold Y2 at this;split at this
     ·assumption
     ·simp at this
    simp only [aW,IN,IS]at h;obtain⟨v',F,rfl,rfl⟩:=h;obtain⟨u,O,N⟩:=Jw hS B F;refine⟨rfl,u,?_,N⟩;simp only [execOp,E];refine dw ?_;simp only [convert,Sem.run_bind,aN d5,aN d6,Result.andThen_ok];have:∃ ad l c,a.eval y=.slice ad l c:=by
     unfold lF at F;split at F
     ·rename_i z hz;rw [hz]at B;split at F
      ·rename_i l hl;obtain⟨ad,c,h⟩:=jg B hl;exact⟨_,_,_,h⟩
      ·simp at F
     ·simp at F
    obtain⟨ad,l,c,h6⟩:=this;rw [h6]at O ⊢;simp only [Sem.run_bind,aN j3,Result.andThen_ok,O]
   ·simp at hd
  ·simp at A
end
section
variable{Q:Program}{σ:Nat→FuncId}{X:Wd}
theorem SR.lt(d:SR Q σ X){b:Nat}{L:Loc}(h:X.bI b=aa L):b<X.H.length:=by
 obtain⟨_,_,aS,g,_⟩:=d.br b L h;exact(If.1 g).1
theorem SR.oB(b:SR Q σ X):X.bI X.H.length=ab:=by
 cases h:X.bI X.H.length with
 | none=>rfl| some L=>have:=SR.lt b h;omega
theorem Ext.one(H:SR Q σ X){X':Wd}(b0:Nat)(A:X'.B=X.B)(x:∀ c i,X'.F c i↔X.F c i)
  (y:∀ k,k<X.w.heap.size→(∀ L,X.bI b0=aa L→k≠L.c)→X'.w.heap[k]?=X.w.heap[k]?)
  (u:∀ L i,X.bI b0=aa L→X.F L.c i→X'.w.cell? ⟨L.c,i,ab⟩=X.w.cell? ⟨L.c,i,ab⟩) (j:b0<X.H.length→jN X X' b0)
  (E:∀ b,b≠b0→b<X.H.length→X'.H[b]?=X.H[b]?) (d:∀ b,b≠b0→X'.bI b=X.bI b)
  (v:∀ L,X'.bI b0=aa L→(∃ q,X.bI b0=aa q∧q.c=L.c)∨X.w.heap.size≤L.c) (K:X.w.heap.size≤X'.w.heap.size) (ho:X'.w.os=X.w.os) (M:X'.w.tape=X.w.tape)
  (hu:X'.w.output=X.w.output):Ext X.H.length X X' where
 B:=A
 F:=fun c i h=>(x c i).2 h
 mB:=fun c i h=>.inl ((x c i).1 h)
 fw:=fun c i h=>by
  by_cases hc:∃ L,X.bI b0=aa L∧c=L.c
  ·obtain⟨L,g,rfl⟩:=hc;exact u L i g h
  ·exact World.cell?_of_block (y c (H.fb c i h) fun L g e=>hc ⟨L,g,e⟩)
 cC:=fun b l=>by
  by_cases h:b=b0
  ·subst h;exact j l
  ·intro aS m;refine⟨aS,(E b h l).trans m,?_⟩;have:∀ L,X.bI b=aa L→X'.bI b=aa L:=fun L g=>(d b h).trans g;cases aS<;>simp_all
 sA:=fun b L l=>by
  by_cases h:b=b0
  ·subst h;rcases v L l with⟨q,s,z⟩ | s
   ·exact .inl ⟨b,q,s,z⟩
   ·exact .inr s
  ·rw [d b h]at l;exact .inl ⟨b,L,l,rfl⟩
 size:=K
 os:=ho
 tape:=M
 output:=hu
 frame:=fun k I J=>y k I fun L g e=>J b0 L g e.symm
theorem SR.grow(d:SR Q σ X)(aS:bK):SR Q σ { X with H:=X.H++[aS] }∧Ext X.H.length X { X with H:=X.H++[aS] }:=by
 have j:Ext X.H.length X { X with H:=X.H++[aS] }:=Ext.one d X.H.length rfl (fun _ _=>Iff.rfl) (fun _ _ _=>rfl) (fun _ _ _ _=>rfl) (fun h=>by omega)
  (fun b _ h=>by simp [AT h]) (fun _ _=>rfl) (fun L h=>by rw [SR.oB d]at h;simp at h) (IT _) rfl rfl rfl
 refine⟨⟨fun b L g=>?_,d.inj,d.fb⟩,j⟩;obtain⟨l,m,blk',q,s⟩:=d.br b L g;exact⟨l,m,blk',by rw [AT (SR.lt d g)];exact q,BR.ext Q σ j rfl (fun _ h=>h) s⟩
structure dp(w w':World)(o:Obj):Prop where
 heap:w'.heap=w.heap.push o
 os:w'.os=w.os
 tape:w'.tape=w.tape
 output:w'.output=w.output
theorem dp.alloc(w:World)(o:Obj):dp w (w.alloc o) o:=⟨rfl,rfl,rfl,rfl⟩
theorem dp.xj{w w':World}{o:Obj}(h:dp w w' o){k:Nat}(b:k<w.heap.size):w'.heap[k]?=w.heap[k]?:=by
 rw [h.heap,Array.getElem?_push,aU (by omega)]
theorem dp.new{w w':World}{o:Obj}(h:dp w w' o):w'.heap[w.heap.size]?=aa o:=by
 rw [h.heap];simp
theorem dp.size{w w':World}{o:Obj}(h:dp w w' o):w'.heap.size=w.heap.size+1:=by
 rw [h.heap];simp
theorem SR.fill(g:SR Q σ X)(y:X.B≤X.w.heap.size){n:Nat}{aS:bK}(z:X.H[n]?=aa aS)(v:X.bI n=ab){w':World}{o:Obj}(d:dp X.w w' o)(cap:Nat)
  (m:Ext X.H.length X { X with bI:=fun b=>if b=n then aa ⟨X.w.heap.size,cap⟩else X.bI b,w:=w' }→BR Q σ { X with bI:=fun b=>if b=n then aa ⟨X.w.heap.size,cap⟩else X.bI b,w:=w' } aS ⟨X.w.heap.size,cap⟩) :
  SR Q σ { X with bI:=fun b=>if b=n then aa ⟨X.w.heap.size,cap⟩else X.bI b,w:=w' }∧Ext X.H.length X { X with bI:=fun b=>if b=n then aa ⟨X.w.heap.size,cap⟩else X.bI b,w:=w' }:=by
 have q:Ext X.H.length X { X with bI:=fun b=>if b=n then aa ⟨X.w.heap.size,cap⟩else X.bI b,w:=w' }:=
  Ext.one g n rfl (fun _ _=>Iff.rfl) (fun k h _=>d.xj h) (fun L i u _=>by rw [v]at u;simp at u)
   (fun _ s l=>⟨s,l,by
    cases s<;>simp [v]⟩)
   (fun _ _ _=>rfl) (fun b h=>by simp [h]) (fun L h=>by simp at h;subst h;exact .inr (IT _)) (by rw [d.size];omega) d.os d.tape d.output
 refine⟨SR.step Q σ g q n (fun _ _=>rfl) (fun b h=>by simp [h]) (fun b L _ j=>d.xj (g.br b L j).2.1) (fun _ _ _ _ _ h=>h) (fun L h=>?_) (fun c i h=>by rw [d.size];have:=g.fb c i h;omega),q⟩;simp at h;subst h;refine⟨y,by simp [d.size],⟨aS,z,m q⟩,fun b x _ j=>?_⟩;have:=(g.br b x j).2.1;simp;omega
theorem SR.new(g:SR Q σ X)(s:X.B≤X.w.heap.size)(aS:bK){w':World}{o:Obj}(j:dp X.w w' o)(cap:Nat)
  (b:∀ X',Ext X.H.length X X'→X'.w=w'→X'.F=X.F→X'.H=X.H++[aS]→BR Q σ X' aS ⟨X.w.heap.size,cap⟩) :
  ∃ X',X'.w=w'∧X'.H=X.H++[aS]∧SR Q σ X'∧Ext X.H.length X X'∧X'.bI X.H.length=aa ⟨X.w.heap.size,cap⟩∧X'.B≤X'.w.heap.size:=by
 obtain⟨l,d⟩:=SR.grow g aS;have u:(X.H++[aS])[X.H.length]?=aa aS:=by simp
 obtain⟨m,q⟩:=SR.fill l s u (SR.oB g) j cap (fun v=>b _ (d.trans (v.mono (by simp))) rfl rfl rfl);exact⟨_,rfl,rfl,m,d.trans (q.mono (by simp)),by simp,by simp [j.size];omega⟩
theorem SR.turn(m:SR Q σ X){b:Nat}{aS blk':bK}{L:Loc}(B:X.H[b]?=aa aS)(l:X.bI b=aa L){w':World}(x:w'.heap.size=X.w.heap.size)
  (y:∀ k,k≠L.c→w'.heap[k]?=X.w.heap[k]?) (A:∀ i,X.F L.c i→w'.cell? ⟨L.c,i,ab⟩=X.w.cell? ⟨L.c,i,ab⟩) (ho:w'.os=X.w.os) (E:w'.tape=X.w.tape) (hu:w'.output=X.w.output)
  (j:jN X { X with H:=X.H.set b blk',w:=w' } b)
  (s:Ext X.H.length X { X with H:=X.H.set b blk',w:=w' }→BR Q σ { X with H:=X.H.set b blk',w:=w' } blk' L) :
  SR Q σ { X with H:=X.H.set b blk',w:=w' }∧Ext X.H.length X { X with H:=X.H.set b blk',w:=w' }:=by
 have u:b<X.H.length:=(If.1 B).1;have v:Ext X.H.length X { X with H:=X.H.set b blk',w:=w' }:=
  Ext.one m b rfl (fun _ _=>Iff.rfl) (fun k _ h=>y k (h L l)) (fun d i h=>by rw [l]at h;cases h;exact A i) (fun _=>j)
   (fun q h _=>by simp [AI (Ne.symm h)]) (fun _ _=>rfl) (fun d h=>.inl ⟨d,h,rfl⟩) (Nat.le_of_eq x.symm) ho E hu
 refine⟨SR.step Q σ m v b (fun q h=>by simp [AI (Ne.symm h)]) (fun _ _=>rfl) (fun q d h g=>y _ fun e=>h (m.inj q b d L g l e)) (fun _ _ _ _ _ h=>h)
  (fun d h=>?_) (fun c i h=>by rw [x];exact m.fb c i h),v⟩
 change X.bI b=aa d at h;rw [l]at h;cases h;obtain⟨z,F,_⟩:=m.br b L l;exact⟨z,by show L.c<w'.heap.size;omega,⟨blk',by simp [u],s v⟩,fun q d h g e=>h (m.inj q b d L g l e)⟩
theorem gv{w:World}{c:Nat}{us:List Value}(h:rowAt w c us):∀(b:List Value) (off:Nat),off+b.length≤us.length →
  (w.setCells c off b).heap.size=w.heap.size∧(∀ k,k≠c→(w.setCells c off b).heap[k]?=w.heap[k]?)∧(w.setCells c off b).os=w.os∧(w.setCells c off b).tape=w.tape ∧
  (w.setCells c off b).output=w.output∧rowAt (w.setCells c off b) c (over us off b)
 | [],off,_=>⟨rfl,fun _ _=>rfl,rfl,rfl,rfl,by simpa [World.setCells,over]using h⟩
 | v::b,off,j=>by
  simp only [adf]at j;have d:rowAt (w.setCell ⟨c,off,ab⟩ v) c (us.set off v):=by
   obtain⟨e,m,d,g⟩:=h;refine⟨e,m,?_,by simpa using g⟩;simp [World.setCell,Array.getElem?_modify,d]
  obtain⟨g,q,s,u,x,y⟩:=gv d b (off+1) (by simp;omega);simp only [World.setCells];refine⟨by rw [g];simp,fun k l=>(q k l).trans ?_,s,u,x,?_⟩
  ·simp only [World.setCell,Array.getElem?_modify];rw [aU (by simpa using Ne.symm l)]
  ·have:over (us.set off v) (off+1) b=over us off (v::b):=by
    unfold over;simp only [adf];rw [List.take_set,List.drop_set_of_lt (by omega),show off+1+b.length=off+(b.length+1) by omega];rw [aeh (by omega)];have j:(List.take off us).length=off:=by simp;omega
    have e:(List.take off us++[us[off]]).set off v=List.take off us++[v]:=by
     rw [List.set_append,aU (by omega),j];simp
    rw [e];simp
   rw [←this];exact y
theorem oF{w:World}{c:Nat}{us:List Value}(h:rowAt w c us)(b:List Value)(off:Nat)(l:off+b.length≤us.length)(d:∀ v ∈ b,v.oneCell'=ae) :
  (storeCells ⟨c,off,ab⟩ b).run Q w=.ok () (w.setCells c off b):=by
 have:=run_storeCells_cells (P:=Q) c off b 0 w (fun j g=>by rw [dq h];simp;omega) (fun j g=>yz h (by omega)) d;simpa using this
theorem wv{α:Type}(us:List α)(off:Nat)(b:List α)(h:off+b.length≤us.length)(i:Nat)(d:i<off):(over us off b)[i]?=us[i]?:=by
 unfold over;rw [AT (by simp;omega),AT (by simp;omega),acX];simp [d]
end
section
variable{Q:Program}{σ:Nat→FuncId}{X:Wd}
def ft(Q:Program)(σ:Nat→FuncId)(X:Wd)(v:V)(b:aj)(s:Sem Next):Prop:=
 ∃ u X',(s.run Q X.w=.ok (.value u) X'.w∨(s.run Q X.w=.ok .skip X'.w∧u=undef))∧X'.H=b∧SR Q σ X'∧VR σ X' v u∧Ext X.H.length X X'∧X'.B≤X'.w.heap.size
theorem ft.Zp(j:X.B≤X.w.heap.size)(l:SR Q σ X){v:V}{b:aj}{s:Sem Next}(h:b=X.H∧∃ u,s.run Q X.w=.ok (.value u) X.w∧VR σ X v u):ft Q σ X v b s:=by
 obtain⟨rfl,u,d,g⟩:=h;exact⟨u,X,.inl d,rfl,l,g,Ext.refl _ _,j⟩
theorem jf{w w':World}{us:List Value}{e:TypeId}(h:dp w w' (.cells us.toArray e)):rowAt w' w.heap.size us:=⟨e,(0,0),h.new,fun i _=>by simp⟩
theorem yU(b:SR Q σ X)(g:X.B≤X.w.heap.size){cs:List C}{us:List Value}(h:A2 (CR σ X) cs us)(e:TypeId) :
  ∃ X',X'.w=X.w.alloc (.cells us.toArray e)∧X'.H=X.H++[.box cs 0]∧SR Q σ X'∧Ext X.H.length X X'∧X'.bI X.H.length=aa ⟨X.w.heap.size,0⟩∧X'.B≤X'.w.heap.size:=
 SR.new b g (.box cs 0) (dp.alloc _ _) 0 fun X' m l j _=>⟨us,by rw [l];exact jf (dp.alloc _ _),A2.ext' σ m h,fun i _ d=>by
  rw [j]at d;have:=b.fb _ _ d;simp at this⟩
theorem qB(u:SR Q σ X)(q:X.B≤X.w.heap.size){cs:List C}{us:List Value}(h:A2 (CR σ X) cs us)(e:TypeId){s:Sem Next}
  (v:s.run Q X.w=.ok (.value (.pointer (aa ⟨X.w.heap.size,0,ab⟩))) (X.w.alloc (.cells us.toArray e))):ft Q σ X (.c (.ptr X.H.length 0 0)) (X.H++[.box cs 0]) s:=by
 obtain⟨X',d,b,g,j,l,m⟩:=yU u q h e;refine⟨_,X',.inl (by rw [d];exact v),b,g,?_,j,m⟩;exact⟨_,l,by rw [b];simp⟩
theorem Ja(m:SR Q σ X)(l:X.B≤X.w.heap.size){a:Act}{o:Oper}{zs:List FC}(b:df Q σ o (.alloc zs)=ae) :
  ft Q σ X (.c (.ptr X.H.length 0 0)) (X.H++[.box (zs.map .f) 0]) (execOp a.eval o):=by
 simp only [df]at b;split at b
 ·rename_i t q;obtain⟨z,us,d,g,j,_⟩:=dN (σ:=σ) (X:=X) b X.w;refine qB m l j t ?_;simp only [execOp,q];refine dw ?_;simp [Instr.alloc,d,newVar,newRow,g]
 ·simp at b
theorem T9(m:SR Q σ X)(j:X.B≤X.w.heap.size){a:Act}{al:T}(l:RR σ X al a.tmps){o:Oper}{x:Arg}(b:df Q σ o (.box x)=ae){xs:List C}(s:(x.ev al).cells?=aa xs) :
  ft Q σ X (.c (.ptr X.H.length 0 0)) (X.H++[.box xs 0]) (execOp a.eval o):=by
 simp only [df]at b;split at b
 ·rename_i t y q;obtain⟨us,d,g⟩:=mI (bj l b) s;refine qB m j g t ?_;simp only [execOp,q];refine dw ?_;simp [Instr.box,newVar,newRow,d]
 ·simp at b
theorem gO{zs:List FC}{us:List Value}(h:A2 (CR σ X) (zs.map .f) us)(n:Nat):A2 (CR σ X) ((bX n zs).map .f) (bX n us):=by
 induction n with
 | zero=>exact A2.nil
 | succ n b=>
  simp only [bX,List.replicate_succ,List.flatten_cons,List.map_append]at b ⊢;exact h.append b
theorem je{α:Type}(n:Nat)(xs:List α):(bX n xs).length=n*xs.length:=by simp [bX]
theorem wS{α:Type}(us:List α):∀(n i:Nat),i<n*us.length→(bX n us)[i]?=us[i % us.length]?
 | 0,i,h=>by simp at h
 | n+1,i,h=>by
  have d:bX (n+1) us=us++bX n us:=by simp [bX,List.replicate_succ]
  rw [d];by_cases b:i<us.length
  ·rw [AT b,Nat.mod_eq_of_lt b]
  ·have g:(n+1)*us.length=n*us.length+us.length:=by rw [ac3];omega
   rw [acR (by omega),wS us n (i-us.length) (by omega)];rw [←Nat.mod_eq_sub_mod (by omega)]
theorem fQ(us:List Value)(n:Nat)(q:0<us.length):((Array.range (n*us.length)).map fun i=>us.toArray[i % us.toArray.size]!)=(bX n us).toArray:=by
 apply Array.ext
 ·simp [je]
 ·intro i g j;have l:i<n*us.length:=by simpa using g
  have b:=wS us n i l;have d:i % us.length<us.length:=Nat.mod_lt _ q;have m:i<(bX n us).length:=by simpa using j
  rw [By m,By d,sh]at b;simp [b,d]
theorem Cr(d:SR Q σ X)(hB:X.B≤X.w.heap.size){a:Act}{al:T}(hR:RR σ X al a.tmps){o:Oper}{sz n:Nat}{zs:List FC}{ps:List (Nat × Arg)}
  (m:df Q σ o (.aZ sz zs n ps)=ae) {v:V} {U:aj} (h:aW al X.H (.aZ sz zs n ps)=aa (v,U)):ft Q σ X v U (execOp a.eval o):=by
 simp only [df]at m;split at m
 ·rename_i t l qs f;simp only [BY,beq_iff_eq,decide_eq_true_eq]at m;obtain⟨⟨⟨⟨rfl,Y⟩,B⟩,a8⟩,r⟩:=m;obtain⟨e,hu,B⟩:=fD B;simp only [BY,decide_eq_true_eq]at B;obtain⟨⟨u,hz⟩,a_⟩:=B;obtain⟨z,us,O,S,x,_⟩:=dN (σ:=σ) (X:=X) hz X.w;have N:us.length=sz:=by have:=x.len;simp at this;omega
  simp only [aW]at h;split at h
  ·
   rename_i Z;subst Z;split at h
   ·rename_i s;simp only [sh,IS]at h;obtain⟨rfl,rfl⟩:=h;have j:qs.toList=[]:=by
     have:=(dH r).len;simp only [List.isEmpty_iff]at s;rw [s]at this;exact acH this.symm
    have j:qs=#[]:=by apply Array.ext';simpa using j
    obtain⟨X',F,A,H,I,W,J⟩:∃ X':Wd,X'.w=X.w.alloc (.cells #[] e)∧X'.H=X.H∧SR Q σ X'∧Ext X.H.length X X'∧True∧X'.B≤X'.w.heap.size:=by
     have hx:Ext X.H.length X { X with w:=X.w.alloc (.cells #[] e) }:=Ext.one d X.H.length rfl (fun _ _=>Iff.rfl) (fun k hk _=>(dp.alloc _ _).xj hk)
      (fun L i h=>by rw [SR.oB d]at h;simp at h) (fun h=>by omega) (fun _ _ _=>rfl) (fun _ _=>rfl) (fun L h=>by rw [SR.oB d]at h;simp at h) (by simp) rfl rfl rfl
     refine⟨{ X with w:=X.w.alloc (.cells #[] e) },rfl,rfl,SR.step Q σ d hx X.H.length (fun _ _=>rfl) (fun _ _=>rfl) (fun b L _ hb=>(dp.alloc _ _).xj (d.br b L hb).2.1)
      (fun _ _ _ _ _ h=>h) (fun L h=>by rw [SR.oB d]at h;simp at h) (fun c i h=>?_),hx,trivial,?_⟩
     ·have:=d.fb c i h;simp;omega
     ·simp;omega
    refine⟨.slice (aa ⟨X.w.heap.size,0,ab⟩) 0 0,X',.inl ?_,A,H,bS.es _,I,J⟩;rw [F];simp only [execOp,f];refine dw ?_;simp [Instr.buildSlice,aN hu,cx u,j,Instr.fill,newRow,show Array.range 0=(#[]:Array Nat) from rfl]
   ·simp at h
  ·rename_i Z;simp only [IN,IS]at h;obtain⟨cs,K,rfl,rfl⟩:=h;obtain⟨b6,W,J⟩:=kW (place:=fun i=>aa (i*sz,sz)) (ps:=qs.toList) hR (qs:=ps.map fun p=>(p.1*sz,sz,p.2)) (A2.map ((dH r).jj fun q p g=>by
    simp only [BY,beq_iff_eq]at g;exact⟨by rw [g.1],g.2⟩)) (gO x l) K
   obtain⟨X',F,A,H,I,h7,h8⟩:=yU d hB J e;refine⟨.slice (aa ⟨X.w.heap.size,0,ab⟩) l l,X',.inl ?_,A,H,?_,I,h8⟩
   ·rw [F];simp only [execOp,f];refine dw ?_;have M:l*sz≠0:=by
     intro E;rcases aee.1 E with E | E<;>omega
    have y:=fQ us l (by omega);rw [N]at y;simp only [Instr.buildSlice,Sem.run_bind,aN hu,cx u,Result.andThen_ok,aU (show¬ l*sz>2 ^ 24 by omega),Sem.run_ite,aU M,O,Sem.run_pure,S];simp only [Array.toList_map];rw [y];simp [W,newRow]
   ·simp only [VR,fX,CR,eK,A];simp;exact⟨_,h7,rfl⟩
 ·simp at m
theorem zW:∀ {cs:List C} {b:List FC},Py cs=aa b→cs=b.map .f
 | [],b,h=>by simp [Py]at h;subst h;rfl
 | c::cs,b,h=>by
  cases c with
  | f x=>
   simp only [Py,IN]at h;obtain⟨g,d,rfl⟩:=h;rw [zW d];rfl
  | _=>simp [Py]at h
theorem su(y:SR Q σ X)(hB:X.B≤X.w.heap.size){a:Act}{al:T}(hR:RR σ X al a.tmps){o:Oper}{sz n:Nat}{zs:List FC}{ps:List (Nat × Arg)}
  (K:df Q σ o (.fT sz zs n ps)=ae) {v:V} {H H':aj} (h:aW al H (.fT sz zs n ps)=aa (v,H')) :
  H'=H∧∃ u X',(execOp a.eval o).run Q X.w=.ok (.value u) X'.w∧X'.H=X.H∧SR Q σ X'∧VR σ X' v u∧Ext X.H.length X X'∧X'.B≤X'.w.heap.size∧X'.bI=X.bI:=by
 simp only [df]at K;split at K
 ·rename_i t j qs ho;simp only [BY,beq_iff_eq,decide_eq_true_eq]at K;obtain⟨⟨⟨⟨rfl,b7⟩,U⟩,b9⟩,hq⟩:=K;obtain⟨e,M,U⟩:=fD U;simp only [BY,decide_eq_true_eq]at U;obtain⟨⟨f,hz⟩,b_⟩:=U;obtain⟨z,us,a_,b6,O,_⟩:=dN (σ:=σ) (X:=X) hz X.w;have r:us.length=sz:=by have:=O.len;simp at this;omega
  simp only [aW,IN,acU,IS]at h;obtain⟨fs,⟨cs,Y,l⟩,rfl,rfl⟩:=h;split at l
  ·simp at l
  rename_i hn;have E:=zW l;obtain⟨d,h5,h6⟩:=kW (place:=fun i=>aa (i*sz,sz)) (ps:=qs.toList) hR (qs:=ps.map fun p=>(p.1*sz,sz,p.2)) (A2.map ((dH hq).jj fun q p m=>by
   simp only [BY,beq_iff_eq]at m;exact⟨by rw [m.1],m.2⟩)) (gO O j) Y
  have g:dp X.w (X.w.alloc (.cells d.toArray e)) (.cells d.toArray e):=dp.alloc _ _;obtain⟨w',s⟩:=bV (X.w.alloc (.cells d.toArray e));rw [←s]at g;have I:∀ c i,X.F c i→w'.cell? ⟨c,i,ab⟩=X.w.cell? ⟨c,i,ab⟩:=fun c i h=>World.cell?_of_block (g.xj (y.fb c i h));have hx:Ext X.H.length X { X with w:=w',F:=fun c i=>X.F c i∨(c=X.w.heap.size∧i<d.length) }:={
   B:=rfl
   F:=fun c i h=>.inl h
   mB:=fun c i h=>h.elim .inl fun h=>.inr (.inl (by rw [h.1];exact IT _))
   fw:=I
   cC:=fun b _ aS A=>⟨aS,A,by cases aS<;>simp⟩
   sA:=fun b L h=>.inl ⟨b,L,h,rfl⟩
   size:=by show _≤w'.heap.size;rw [g.size];omega
   os:=g.os
   tape:=g.tape
   output:=g.output
   frame:=fun k hk _=>g.xj hk }
  refine⟨rfl,.slice (aa ⟨X.w.heap.size,0,ab⟩) j j,{ X with w:=w',F:=fun c i=>X.F c i∨(c=X.w.heap.size∧i<d.length) },?_,rfl,?_,?_,hx,?_,rfl⟩
  ·simp only [execOp,ho];refine dw ?_;have Z:j*sz≠0:=by
    intro W;rcases aee.1 W with W | W<;>omega
   have S:=fQ us j (by omega);rw [r]at S;simp only [Instr.buildSlice,Sem.run_bind,aN M,cx f,Result.andThen_ok,aU (show¬ j*sz>2 ^ 24 by omega),Sem.run_ite,aU Z,a_,Sem.run_pure,b6];simp only [Array.toList_map];rw [S];simp [h5,newRow,s]
  ·exact SR.step Q σ y hx X.H.length (fun _ _=>rfl) (fun _ _=>rfl) (fun b L _ A=>g.xj (y.br b L A).2.1)
    (fun b L _ A i h=>h.elim id fun h=>by have:=(y.br b L A).2.1;omega) (fun L h=>by change X.bI X.H.length=aa L at h;rw [SR.oB y]at h;simp at h)
    (fun c i h=>by
     show c<w'.heap.size;rw [g.size];rcases h with h | h
     ·have:=y.fb c i h;omega
     ·omega)
  ·have J:d.length=fs.length:=by have:=h6.len;rw [E]at this;simp at this;omega
   refine bS.fs fs j X.w.heap.size 0 j d (IT _) J (fun i hi=>.inr ⟨rfl,by omega⟩) (fun i u M=>?_) fun i x u a8 M=>?_
   ·show w'.cell? _=_;rw [dq (show rowAt w' X.w.heap.size d by rw [s];exact jf (dp.alloc _ _)),Nat.zero_add];exact M
   ·obtain⟨u',N,hr⟩:=h6.get (i:=i) (x:=.f x) (by rw [E,adh,a8];rfl);rw [M]at N;cases N;exact bS.mono (fun c i h=>.inl h) I hr
  ·show X.B≤w'.heap.size;rw [g.size];omega
 ·simp at K
end
section
variable{Q:Program}{σ:Nat→FuncId}{X:Wd}
theorem wu{α:Type}(us rest:List α)(off:Nat)(b:List α)(h:off+b.length≤us.length):over (us++rest) off b=over us off b++rest:=by
 unfold over;rw [List.take_append_of_le_length (by omega),List.drop_append_of_le_length (by omega)];simp
theorem A2.one{cs:List C}{us:List Value}(h:A2 (CR σ X) cs us):∀ v ∈ us,v.oneCell'=ae:=by
 intro v g;obtain⟨i,d⟩:=ac9 g;have b:i<cs.length:=by rw [h.len];exact(If.1 d).1
 exact CR.one σ (h.2 i _ v (By b) d)
theorem xe(z:SR Q σ X){b:Nat}{cs:List C}{fl:Nat}{L:Loc}(m:X.H[b]?=aa (.box cs fl))(y:X.bI b=aa L){xs:List C}{j:List Value}(u:A2 (CR σ X) xs j){off:Nat}
  (I:fl≤off) (U:off+xs.length≤cs.length):∃ X',(storeCells ⟨L.c,off,ab⟩ j).run Q X.w=.ok () X'.w∧X'.H=X.H.set b (.box (over cs off xs) fl)∧SR Q σ X'∧Ext X.H.length X X' ∧
   (∀ b,X'.bI b=X.bI b)∧X'.w.heap.size=X.w.heap.size∧X'.B=X.B:=by
 obtain⟨_,_,aS,g,q⟩:=z.br b L y;rw [m]at g;simp only [sh]at g;subst g;obtain⟨us,s,v,x⟩:=q;have K:=u.len;have J:=v.len;obtain⟨A,M,N,O,S,B⟩:=gv s j off (by omega);obtain⟨E,F⟩:=SR.turn z (blk':=.box (over cs off xs) fl) m y A M (fun i H=>by
   rw [dq B,dq s];have:i<off:=by
    rcases ac6 i off with h | h
    ·exact h
    ·exact absurd H (x i (by omega))
   exact wv us off j (by omega) i this) N O S
  (fun aS d=>⟨.box (over cs off xs) fl,by simp [(If.1 m).1],by rw [m]at d;simp only [sh]at d;subst d;exact fun L h=>h⟩)
  (fun l=>⟨over us off j,B,A2.over (A2.ext' σ l v) (A2.ext' σ l u) off,x⟩)
 exact⟨_,oF s j off (by omega) (A2.one u),rfl,E,F,fun _=>rfl,A,rfl⟩
theorem xf(B:SR Q σ X){b:Nat}{sz:Nat}{cs:List C}{fl m:Nat}{L:Loc}(q:X.H[b]?=aa (.bA sz cs fl m .loc))(A:X.bI b=aa L){xs:List C}{j:List Value}(v:A2 (CR σ X) xs j){off:Nat}
  (N:fl≤off) (O:off+xs.length≤cs.length):∃ X',(storeCells ⟨L.c,off,ab⟩ j).run Q X.w=.ok () X'.w∧X'.H=X.H.set b (.bA sz (over cs off xs) fl m .loc)∧SR Q σ X'∧Ext X.H.length X X' ∧
   (∀ b,X'.bI b=X.bI b)∧X'.w.heap.size=X.w.heap.size∧X'.B=X.B:=by
 obtain⟨_,_,aS,g,s⟩:=B.br b L A;rw [q]at g;simp only [sh]at g;subst g;obtain⟨U,us,rest,u,y,I,J,K,z⟩:=s;have Y:=v.len;have W:=y.len;obtain⟨E,Z,a,c,e,x⟩:=gv u j off (by simp;omega);rw [wu _ _ _ _ (by omega)]at x;have S:=wz us off j (by omega);obtain⟨F,H⟩:=SR.turn B (blk':=.bA sz (over cs off xs) fl m .loc) q A E Z (fun i M=>by
   rw [dq x,dq u];have:i<off:=by
    rcases ac6 i off with h | h
    ·exact h
    ·exact absurd M (z i (by omega))
   rw [AT (by omega),AT (by omega)];exact wv us off j (by omega) i this) a c e
  (fun aS d=>⟨.bA sz (over cs off xs) fl m .loc,by simp [(If.1 q).1],by rw [q]at d;simp only [sh]at d;subst d;exact⟨rfl,.inl ⟨rfl,rfl,fun L h=>h⟩⟩⟩)
  (fun l=>⟨rfl,over us off j,rest,x,A2.over (A2.ext' σ l y) (A2.ext' σ l v) off,by simp only [List.length_append]at I ⊢;omega,J,by rw [wz cs off xs O];exact K,z⟩)
 exact⟨_,oF u j off (by simp;omega) (A2.one v),rfl,F,H,fun _=>rfl,E,rfl⟩
theorem LV(E:SR Q σ X){x:C}{u:Value}(d:CR σ X x u){xs:List C}{F:List Value}(l:A2 (CR σ X) xs F){A:aj}(h:gD X.H x xs=aa A) :
  ∃ c off X',u=.pointer (aa ⟨c,off,ab⟩)∧(storeCells ⟨c,off,ab⟩ F).run Q X.w=.ok () X'.w∧X'.H=A∧SR Q σ X'∧Ext X.H.length X X'∧X'.w.heap.size=X.w.heap.size∧X'.B=X.B:=by
 unfold gD at h;split at h
 ·rename_i b off H;obtain⟨L,B,d⟩:=d;split at h
  ·rename_i cs fl j;rw [j]at d;simp only at d;subst d;split at h
   ·rename_i g;simp only [sh]at h;subst h;obtain⟨X',m,q,s,v,_,y,z⟩:=xe E j B l g.1 g.2;exact⟨_,_,X',rfl,m,q,s,v,y,z⟩
   ·simp at h
  ·rename_i sz cs fl e j;rw [j]at d;split at h
   ·rename_i g;have d:=d.2.1 g.1;subst d;simp only [sh]at h;subst h;obtain⟨X',m,q,s,v,_,y,z⟩:=xf E j B l g.2.1 g.2.2;exact⟨_,_,X',rfl,m,q,s,v,y,z⟩
   ·simp at h
  ·simp at h
 ·simp at h
theorem LY(F:SR Q σ X)(Y:X.B≤X.w.heap.size){a:Act}{al:T}(s:RR σ X al a.tmps){o:Oper}{n:Nat}{x y:Arg}(b:df Q σ o (.store n x y)=ae){v:V}{q:aj}
  (h:aW al X.H (.store n x y)=aa (v,q)):ft Q σ X v q (execOp a.eval o):=by
 simp only [df]at b;split at b
 ·rename_i t N O I;simp only [BY]at b;obtain⟨⟨H,g⟩,m⟩:=b;have g:=bj s g;have m:=bj s m;simp only [aW]at h;split at h
  ·rename_i p xs J l;rw [J]at g;split at h
   ·rename_i u;simp only [IN,IS]at h;obtain⟨S,j,rfl,rfl⟩:=h;obtain⟨Z,L,d⟩:=mI m l;obtain⟨c,off,X',K,z,A,B,E,U,W⟩:=LV F g d j;refine⟨undef,X',.inr ⟨?_,rfl⟩,A,B,trivial,E,by omega⟩;have M:=d.len;simp only [execOp,I,Sem.run_bind];have:(Instr.storeAt t (a.eval N) (a.eval O)).run Q X.w=.ok () X'.w:=by
     rw [K];simp [Instr.storeAt,Instr.sureAddr,storeVar,cx H,L];rw [bf (by omega)];exact z
    simp [this]
   ·simp at h
  ·simp at h
 ·simp at b
end
end Km
