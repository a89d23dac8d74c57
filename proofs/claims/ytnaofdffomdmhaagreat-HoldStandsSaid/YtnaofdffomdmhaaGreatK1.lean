/-
  Our own small machine for Go code by value, held ub ta model: part 1. No program in GK.
-/
import GoSem.Step
import GoSem.Dispatch
import GoSem.Machine.Exec
import Derived.Calls
import Derived.Laws.World
import Derived.Laws.Cells
import Derived.Laws.IdiomCopy
import Derived.Below
import Derived.Laws.Slices
import Derived.Laws.Strings
import Derived.Laws.StructEq
import Derived.Laws.BytesString
import Derived.Laws.Tables
import Derived.Laws.AppendOwn
open Option renaming some → aa,none → ab
open Bool renaming true → ae,false → ag
open Option.some renaming injEq → At
open Bool renaming false_eq_true → aub, and_eq_true → atI
open List renaming getElem?_eq_some_iff → atu, getElem?_eq_getElem → asZ, getElem?_append_left → anc, getElem?_append_right → atZ, getElem?_take → auD, getElem?_drop → auj, getElem?_map → auM, all_eq_true → aun, getElem?_of_mem → auV, extract_eq_take_drop → avq, take_of_length_le → at8, length_append → at6, foldl_cons → avt, length_cons → auo, eq_nil_of_length_eq_zero → aud, getElem?_set_ne → aft
open Nat renaming le_refl → at3, le_trans → aum, lt_of_lt_of_le → auE, add_zero → avD, add_mul → auF, mul_eq_zero → avX, lt_or_ge → auK
open Option renaming bind_eq_some_iff → aup, map_eq_some_iff → at0, bind_eq_bind → awa, bind_some → auJ, map_some → auP
open Prod.mk renaming injEq → at1
set_option linter.unusedVariables false
set_option linter.constructorNameAsVariable false
set_option linter.unusedSimpArgs false
set_option linter.unusedSectionVars false
set_option maxRecDepth 100000
namespace Km
open Go
theorem aK.{u}{α:Sort u}(a:α):∃ b,b=a:=⟨a,rfl⟩
theorem aY.{u}{c:Prop}{h:Decidable c}(b:¬c){α:Sort u}{t e:α}:(ite c t e)=e:=if_neg b
theorem bg.{u}{c:Prop}{h:Decidable c}(hc:c){α:Sort u}{t e:α}:(ite c t e)=t:=if_pos hc
inductive FC where
 | bool (b:Bool)
 | int (k:IntKind) (n:Int)
 | str (s:ByteArray)
 | ob | aw | es | iX | mF | xI
 | fp (cs:List FC) (off:Nat)
 | fs (cs:List FC) (len:Nat)
 | fn (f:Nat) (Pe:List FC)
 deriving Inhabited
inductive C where
 | f (x:FC)
 | ptr (b off ep:Nat)
 | sl (b off len cap ep sz:Nat)
 | cl (f:Nat) (Pe:List C)
 | yl (b:Nat)
 | mp (b:Nat)
 | it (b:Nat)
 | bm (f:Nat) (first:List C)
 | mi (b:Nat)
 deriving Inhabited
inductive V where
 | top
 | c (x:C)
 | a (xs:List C)
 | t (xs:List V)
 deriving Inhabited
def DM:Nat:=1000000007
def mV:C→V
 | .cl f cs=>if f=DM then .a cs else .c (.cl f cs)| x=>.c x
def pG:V→Option C
 | .c (.cl f cs)=>if f=DM then ab else aa (.cl f cs)| .c x=>aa x| .a cs=>aa (.cl DM cs)| _=>ab
def zV:FC→V
 | .fn f zs=>if f=DM then .a (zs.map .f)else .c (.f (.fn f zs))| z=>.c (.f z)
def sI:FC→List FC
 | .fn f zs=>if f=DM then zs else [.fn f zs]| z=>[z]
def Fh:FC→Bool
 | .fn f _=>decide (f=DM)| _=>ag
theorem acp{v:V}{c:C}(h:pG v=aa c):mV c=v:=by
 cases v with
 | c x=>
  cases x<;>simp only [pG,At]at h
  case cl f cs=>
   split at h
   ·cases h
   ·rename_i b;simp only [At]at h;subst h;simp only [mV,aY b]
  all_goals (subst h;rfl)
 | a cs=>simp only [pG,At]at h;subst h;simp [mV]| _=>simp [pG]at h
theorem aoL{z:FC}(h:Fh z=ae):zV z=.a ((sI z).map .f):=by
 cases z<;>simp only [Fh,decide_eq_true_eq,reduceCtorEq,aub]at h;simp only [zV,sI,bg h]
theorem aoM{z:FC}(h:Fh z=ag):zV z=.c (.f z)∧sI z=[z]:=by
 cases z<;>simp only [Fh,decide_eq_false_iff_not]at h
 case fn f zs=>simp only [zV,sI,aY h,and_self]
 all_goals exact⟨rfl,rfl⟩
inductive Os where | loc | nil | es
 deriving DecidableEq,Inhabited
inductive P where
 | h
 | o (p:P)
 | i (p:P)
 deriving DecidableEq,Inhabited
def P.toNat:P→Nat
 | .h=>0| .o p=>2*p.toNat+1| .i p=>2*p.toNat+2
inductive T where
 | e
 | n (l:T) (v:V) (r:T)
 deriving Inhabited
def T.get:T→P→V
 | .e,_=>.top| .n _ v _,.h=>v| .n l _ _,.o p=>l.get p| .n _ _ r,.i p=>r.get p
def T.set:T→P→V→T
 | .e,.h,w=>.n .e w .e| .e,.o p,w=>.n (T.set .e p w) .top .e| .e,.i p,w=>.n .e .top (T.set .e p w)| .n l _ r,.h,w=>.n l w r| .n l v r,.o p,w=>.n (l.set p w) v r| .n l v r,.i p,w=>.n l v (r.set p w)
inductive Arg where
 | r (n:P)
 | k (v:V)
 deriving Inhabited
inductive CK where | bool | int | str
 deriving DecidableEq,Inhabited
inductive FE where
 | bool | ptr | sl | fn | ifc
 | st (ks:List CK)
 deriving Inhabited
inductive cX where
 | bc (x:Arg)
 | pre (o:Os) (sz:Nat)
 | pick (c a b:Arg)
 | alloc (zs:List FC)
 | box (x:Arg)
 | build (zs:List FC) (parts:List (Nat × Nat × Arg))
 | bH (sz:Nat) (zs:List FC) (len:Nat) (parts:List (Nat × Arg))
 | load (n:Option Nat) (x:Arg)
 | store (n:Nat) (x y:Arg)
 | cj (x:Arg)
 | bin (op:BinOp) (x y:Arg)
 | eq (neg:Bool) (k:FE) (x y:Arg)
 | un (op:UnOp) (x:Arg)
 | fO (k:IntKind) (x:Arg)
 | xz (x:Arg)
 | xy (x:Arg)
 | DX (x:Arg)
 | fP (f:Nat) (Pe:List Arg)
 | jH
 | lookup (ck:CK) (zero:FC) (m k:Arg)
 | ja (ck:CK) (m k v:Arg)
 | dR (sz bytes:Nat) (zs:List FC) (l c:Arg)
 | slice (sz:Nat) (x:Arg) (lo hi mx:Option Arg)
 | nm (n sz:Nat) (x:Arg) (lo hi mx:Option Arg)
 | oB (x:Arg) (lo hi:Option Arg)
 | aU (off:Nat) (x:Arg)
 | field (off:Nat) (n:Option Nat) (x:Arg)
 | bI (sz:Nat) (arr:Option Nat) (x i:Arg)
 | idxs (x i:Arg)
 | xB (len sz:Nat) (n:Option Nat) (x i:Arg)
 | range (x:Arg)
 | next (x:Arg)
 | extract (x:Arg) (i:Nat)
 | call (f:Nat) (args:List Arg) (h:Bool)
 | cm (x:Arg) (args:List Arg) (h:Bool)
 | len (x:Arg)
 | nZ (n:Nat)
 | lens (x:Arg)
 | cap (x:Arg)
 | append (sz bytes:Nat) (x y:Arg)
 | copy (sz:Nat) (x y:Arg)
 | gR (lo:Bool) (xs:List Arg)
 | lK (sz bytes:Nat) (zs:List FC) (x n:Arg)
 | clear (sz:Nat) (zs:List FC) (x:Arg)
 | kE (x:Arg)
 | oz (x:Arg)
 | entry (x:Arg)
 | mZ (f:Nat) (xs:List Arg)
 | wP (sz:Nat) (x hi mx:Arg)
 | fJ (sz:Nat) (zs:List FC) (len:Nat) (parts:List (Nat × Arg))
 | recover
 | defer (x:Arg) (args:List Arg)
 | bad
 deriving Inhabited
def cX.fsl:cX→Bool
 | .fJ ..=>ae| _=>ag
structure aP where
 dst:Option P
 op:cX
 g:Option (P × Bool):=ab
 deriving Inhabited
inductive aE where
 | skip
 | region (ops:List aP) (iA:List (Nat × Nat))
 | seq (a b:aE)
 | cond (c:Arg) (a b:aE)
 | block (id:Nat) (a:aE)
 | loop (a:aE)
 | fL (f:Arg) (ps:List P) (assign body:aE)
 | exit (id:Nat)
 | ret
 | bad
 | scope (a:aE)
 | label (l:Nat)
 | goto (l:Nat)
 deriving Inhabited
inductive ez where | ready | busy | done | exhausted
 deriving DecidableEq,Inhabited
inductive bz where
 | box (cs:List C) (fl:Nat)
 | b5 (sz:Nat) (cs:List C) (fl ep:Nat) (st:Os)
 | map (es:List (FC × C))
 | it (s:ByteArray) (pos:Nat)
 | xn (m since:Nat) (done:Bool)
 | eZ (open_:Bool)
 | lp (fn:Nat) (tmps:T) (ps:List P) (assign body:aE) (st:ez) (pending:Option aE) (eZ:Nat)
 deriving Inhabited
abbrev aj:=List bz
inductive dK where
 | gX (b:Nat)
 | fn (f:Nat) (args:List V)
 deriving Inhabited
inductive gG where
 | tmp (t:P)
 | cell (t:P) (n:Option Nat)
 deriving Inhabited
structure aL where
 ps:List P
 results:List gG
 body:aE
 deriving Inhabited
def Arg.ev(aB:T):Arg→V
 | .r n=>aB.get n| .k v=>v
def V.int(k:IntKind)(n:Int):V:=.c (.f (.int k n))
def V.bool(b:Bool):V:=.c (.f (.bool b))
def aG(H:aj):C→Option (List C)
 | .ptr b off ep=>match H[b]? with
  | some (.box cs _)=>aa (cs.drop off)| some (.b5 _ cs _ e .loc)=>if ep=e then aa (cs.drop off)else ab| _=>ab
 | .f (.fp cs off)=>aa ((cs.drop off).map .f)| _=>ab
def aT:Option Nat→List C→Option V
 | none,c::_=>aa (.c c)| none,[]=>ab| some n,cs=>if n≤cs.length then aa (.a (cs.take n))else ab
def aV(H:aj)(n:Option Nat):V→Option V
 | .c x=>(aG H x).bind (aT n)| _=>ab
def V.cells? : V→Option (List C)
 | .c x=>aa [x]| .a xs=>aa xs| _=>ab
def bp{α:Type}(cs:List α)(off:Nat)(xs:List α):List α:=cs.take off++xs++cs.drop (off+xs.length)
def dh(H:aj)(x:C)(xs:List C):Option aj:=
 match x with
 | .ptr b off ep=>match H[b]? with
  | some (.box cs fl)=>if fl≤off∧off+xs.length≤cs.length then aa (H.set b (.box (bp cs off xs) fl))else ab| some (.b5 sz cs fl e .loc)=>if ep=e∧fl≤off∧off+xs.length≤cs.length then aa (H.set b (.b5 sz (bp cs off xs) fl e .loc))else ab| _=>ab
 | _=>ab
def bA(H:aj):C→Option Nat
 | .sl b _ l _ ep sz=>match H[b]? with
  | some (.box _ _)=>aa l| some (.b5 s _ _ e _)=>if ep=e∧sz=s then aa l else ab| _=>ab
 | .f .aw=>aa 0| .f .es=>aa 0| .f (.fs _ l)=>aa l| _=>ab
def cO(H:aj)(sz:Nat):C→Option (List C)
 | .sl b o l _ ep s=>match H[b]? with
  | some (.box cs _)=>if o+l*sz≤cs.length then aa ((cs.drop o).take (l*sz))else ab| some (.b5 s' cs _ e _)=>if ep=e∧s=s'∧o+l*sz≤cs.length then aa ((cs.drop o).take (l*sz))else ab| _=>ab
 | .f .aw=>aa []| .f .es=>aa []| .f (.fs cs l)=>if cs.length=l*sz then aa (cs.map .f)else ab| _=>ab
def bj{α β:Type}(g:α→Option β):List α→Option (List β)
 | []=>aa []
 | x::xs=>match g x with
  | none=>ab
  | some y=>match bj g xs with
   | none=>ab| some ys=>aa (y::ys)
def ek:Nat→aj→C→Option FC
 | _,_,.f x=>aa x| 0,_,_=>ab
 | n+1,H,.ptr b off _=>match H[b]? with
  | some (.box cs _)=>(bj (ek n H) cs).map (.fp · off)| _=>ab
 | n+1,H,.sl b o l _ ep sz=>match H[b]? with
  | some (.box cs _)=>if o+l*sz≤cs.length then(bj (ek n H) ((cs.drop o).take (l*sz))).map (.fs · l)else ab| some (.b5 s cs _ e .loc)=>if ep=e∧sz=s∧o+l*sz≤cs.length then(bj (ek n H) ((cs.drop o).take (l*sz))).map (.fs · l)else ab| some (.b5 s _ _ e .nil)=>if ep=e∧sz=s then aa .aw else ab| some (.b5 s _ _ e .es)=>if ep=e∧sz=s then aa .es else ab| _=>ab
 | n+1,H,.cl f d=>(bj (ek n H) d).map (.fn f)| _+1,_,_=>ab
def cD(n:Nat)(H:aj):V→Option V
 | .c x=>(ek n H x).map fun y=>.c (.f y)
 | .a xs=>(bj (ek n H) xs).map fun ys=>.a (ys.map .f)
 | _=>ab
def iZ(n:Nat)(H:aj):V→Option V
 | .t b=>(bj (cD n H) b).map .t| v=>cD n H v
def gD:Nat→C→aj→aj
 | _,.f _,H=>H| 0,_,H=>H
 | n+1,.ptr b _ _,H=>match H[b]? with
  | some (.box cs fl)=>cs.foldl (fun H x=>gD n x H) (H.set b (.box cs (Nat.max fl cs.length)))
  | _=>H
 | n+1,.sl b o l _ _ sz,H=>match H[b]? with
  | some (.box cs fl)=>((cs.drop o).take (l*sz)).foldl (fun H x=>gD n x H) (H.set b (.box cs (Nat.max fl (o+l*sz))))
  | some (.b5 s cs fl e g)=>((cs.drop o).take (l*sz)).foldl (fun H x=>gD n x H) (H.set b (.b5 s cs (Nat.max fl (o+l*sz)) e g))
  | _=>H
 | n+1,.cl _ d,H=>d.foldl (fun H x=>gD n x H) H
 | _+1,_,H=>H
def mkV(n:Nat)(H:aj):V→aj
 | .c x=>gD n x H| .a xs=>xs.foldl (fun H x=>gD n x H) H
 | _=>H
def nX(op:BinOp)(k:IntKind)(x y:Int):Option V:=
 match op with
 | .add=>aa (.int k (k.wrap (x+y)))| .sub=>aa (.int k (k.wrap (x-y)))| .mul=>aa (.int k (k.wrap (x*y)))| .quo=>if y=0 then ab else aa (.int k (k.wrap (x.tdiv y)))| .rem=>if y=0 then ab else aa (.int k (x.tmod y))| .and=>aa (.int k (k.wrap (BitVec.ofInt k.bits x &&& BitVec.ofInt k.bits y).toNat))| .or=>aa (.int k (k.wrap (BitVec.ofInt k.bits x ||| BitVec.ofInt k.bits y).toNat))| .xor=>aa (.int k (k.wrap (BitVec.ofInt k.bits x ^^^ BitVec.ofInt k.bits y).toNat))| .andNot=>aa (.int k (k.wrap (BitVec.ofInt k.bits x &&& ~~~ (BitVec.ofInt k.bits y)).toNat))| .eql=>aa (.bool (x == y))| .neq=>aa (.bool (x != y))| .lss=>aa (.bool (decide (x<y)))| .leq=>aa (.bool (decide (x≤y)))| .gtr=>aa (.bool (decide (x>y)))| .geq=>aa (.bool (decide (x≥y)))| _=>ab
def anb(op:BinOp)(x y:ByteArray):Option V:=
 match op with
 | .add=>if((x.size+y.size:Nat):Int)>IntKind.i64.max then ab else aa (.c (.f (.str (x++y))))| .eql=>aa (.bool (x.toList == y.toList))| .neq=>aa (.bool !(x.toList == y.toList))| .lss=>aa (.bool (Op.bytesLess x.toList y.toList))| .leq=>aa (.bool (Op.bytesLess x.toList y.toList||x.toList == y.toList))| .gtr=>aa (.bool !(Op.bytesLess x.toList y.toList||x.toList == y.toList))| .geq=>aa (.bool !(Op.bytesLess x.toList y.toList))| _=>ab
def PK:CK→C→C→Option Bool
 | .bool,.f (.bool a),.f (.bool b)=>aa (a == b)| .int,.f (.int k a),.f (.int k' b)=>if k=k' then aa (a == b)else ab| .str,.f (.str a),.f (.str b)=>aa (a == b)| _,_,_=>ab
def qM:List CK→List C→List C→Option Bool
 | [],[],[]=>aa ae
 | k::d,x::xs,y::ys=>match PK k x y,qM d xs ys with
  | some a,aa b=>aa (a&&b)| _,_=>ab
 | _,_,_=>ab
def isNil(H:aj):FE→C→Option Bool
 | .ptr,.f .ob=>aa ae| .ptr,.f (.fp _ _)=>aa ag| .ptr,.ptr _ _ _=>aa ag| .sl,.f .aw=>aa ae| .sl,.f .es=>aa ag| .sl,.f (.fs _ _)=>aa ag
 | .sl,.sl b _ _ _ ep sz=>match H[b]? with
  | some (.box _ _)=>aa ag| some (.b5 s _ _ e d)=>if ep=e∧sz=s then aa (d == .nil)else ab| _=>ab
 | .fn,.f .iX=>aa ae| .fn,.f (.fn _ _)=>aa ag| .fn,.cl _ _=>aa ag| .fn,.bm _ _=>aa ag| .ifc,.f .mF=>aa ae| _,_=>ab
def D0(H:aj):FE→V→V→Option Bool
 | .bool,.c x,.c y=>PK .bool x y| .st b,.a xs,.a ys=>qM b xs ys| .ptr,.c x,.c (.f .ob)=>isNil H .ptr x| .sl,.c x,.c (.f .aw)=>isNil H .sl x| .fn,.c x,.c (.f .iX)=>isNil H .fn x| .ifc,.c x,.c (.f .mF)=>isNil H .ifc x| _,_,_=>ab
def dp(op:BinOp)(x y:V):Option V:=
 match op,x,y with
 | .shl,.c (.f (.int k a)),.c (.f (.int _ b))=>if b<0 then ab else aa (.int k (k.wrap (a*2 ^ (min b.toNat k.bits))))| .shr,.c (.f (.int k a)),.c (.f (.int _ b))=>if b<0 then ab else aa (.int k (a.fdiv (2 ^ (min b.toNat k.bits))))| op,.c (.f (.int k a)),.c (.f (.int k' b))=>if k=k' then nX op k a b else ab| op,.c (.f (.str a)),.c (.f (.str b))=>anb op a b| _,_,_=>ab
def unV(op:UnOp)(x:V):Option V:=
 match op,x with
 | .neg,.c (.f (.int k n))=>aa (.int k (k.wrap (0-n)))| .not,.c (.f (.bool b))=>aa (.bool !b)| _,_=>ab
def ik:V→Option Int
 | .c (.f (.int _ n))=>aa n| _=>ab
def AU(x:V)(y:Nat):Option Nat:=
 match ik x with
 | some i=>if 0≤i∧i≤y then aa i.toNat else ab| none=>ab
def bO(len cap:Nat)(lo hi mx:Option V):Option (Nat × Nat × Nat):=do
 let m ←match mx with
  | some v=>AU v cap| none=>aa cap
 let h ←match hi,mx with
  | some v,_=>AU v m| none,ab=>aa len| none,aa _=>ab
 let l ←match lo with
  | some v=>AU v h| none=>aa 0
 pure (l,h,m)
def dk(H:aj)(sz:Nat)(x:V)(lo hi mx:Option V):Option V:=
 match x with
 | .c (.f .aw)=>match bO 0 0 lo hi mx with
  | some _=>aa (.c (.f .aw))| none=>ab
 | .c (.f .es)=>match bO 0 0 lo hi mx with
  | some _=>aa (.c (.f .es))| none=>ab
 | .c (.f (.fs cs n))=>match bO n n lo hi mx with
  | some (l,h,m)=>
   if mx.isSome∧m=l then aa (.c (.f .es))else
   aa (.c (.f (.fs ((cs.drop (l*sz)).take ((h-l)*sz)) (h-l))))
  | none=>ab
 | .c (.sl b o n cap ep s)=>match H[b]? with
  | some (.box _ _)=>match bO n cap lo hi mx with
   | some (l,h,m)=>if m=l then aa (.c (.f .es))else aa (.c (.sl b (o+l*sz) (h-l) (m-l) ep s))| none=>ab
  | some (.b5 s' cs _ e d)=>
   if ep=e∧s=sz∧s'=sz then
    match d with
    | .loc=>match bO n n lo hi mx with
     | some (l,h,m)=>
      if mx.isSome∧m=l then aa (.c (.f .es))
      else if l=h∧0<l then aa (.c (.f (.fs [] 0)))
      else if mx.isSome then(if 0<l then aa (.c (.sl b 0 0 0 ep (s'+1)))else ab)
      else aa (.c (.sl b (o+l*sz) (h-l) 0 ep s))
     | none=>match mx with
      | some _=>ab
      | none=>match bO n ((cs.length-o) / sz) lo hi ab with
       | some (l,h,_)=>if n≤(cs.length-o) / sz∧l<h then aa (.c (.sl b (o+l*sz) (h-l) 0 ep s))else ab| none=>ab
    | .nil=>match bO 0 0 lo hi mx with
     | some _=>aa (.c (.f .aw))| none=>ab
    | .es=>match bO 0 0 lo hi mx with
     | some _=>aa (.c (.f .es))| none=>ab
   else ab
  | _=>ab
 | _=>ab
def wS(x:V)(lo hi:Option V):Option V:=
 match x with
 | .c (.f (.str s))=>match bO s.size s.size lo hi ab with
  | some (l,h,_)=>aa (.c (.f (.str (s.extract l h))))| none=>ab
 | _=>ab
def kH(H:aj)(n sz:Nat)(x:V)(lo hi mx:Option V):Option V:=
 match x with
 | .c (.ptr b off _)=>match H[b]? with
  | some (.box cs _)=>match bO n n lo hi mx with
   | some (l,h,m)=>if off+n*sz≤cs.length then(if m=l then aa (.c (.f .es))else aa (.c (.sl b (off+l*sz) (h-l) (m-l) 0 sz)))else ab| none=>ab
  | _=>ab
 | .c (.f (.fp cs off))=>match bO n n lo hi mx with
   | some (l,h,m)=>if off+n*sz≤cs.length then(if m=l then aa (.c (.f .es))else aa (.c (.f (.fs ((cs.drop (off+l*sz)).take ((h-l)*sz)) (h-l)))))else ab| none=>ab
 | _=>ab
def bG(H:aj)(sz:Nat)(d:Option Nat)(x i:V):Option V:=
 match ik i with
 | none=>ab
 | some i=>
  if 0≤i then
   match d,x with
   | none,.c (.sl b o l _ ep s)=>if i<l then
     (match H[b]? with
      | some (.box _ _)=>aa (.c (.ptr b (o+i.toNat*sz) ep))| some (.b5 s' _ _ e .loc)=>if ep=e∧s=s' then aa (.c (.ptr b (o+i.toNat*sz) ep))else ab
      | _=>ab)else ab
   | none,.c (.f (.fs cs l))=>if i<l then aa (.c (.f (.fp cs (i.toNat*sz))))else ab| some n,.c (.ptr b o ep)=>if i<n then aa (.c (.ptr b (o+i.toNat*sz) ep))else ab| some n,.c (.f (.fp cs o))=>if i<n then aa (.c (.f (.fp cs (o+i.toNat*sz))))else ab| _,_=>ab
  else ab
def jf(off:Nat):V→Option V
 | .c (.ptr b o ep)=>aa (.c (.ptr b (o+off) ep))| .c (.f (.fp cs o))=>aa (.c (.f (.fp cs (o+off))))| _=>ab
def ku(off:Nat)(n:Option Nat):V→Option V
 | .a xs=>aT n (xs.drop off)| _=>ab
def B6(x i:V):Option V:=
 match x,ik i with
 | .c (.f (.str s)),aa i=>if 0≤i then(s[i.toNat]?).map fun b=>.int .u8 b.toNat else ab
 | _,_=>ab
def B5(len sz:Nat)(n:Option Nat)(x i:V):Option V:=
 match x,ik i with
 | .a xs,aa i=>if 0≤i∧i<len then aT n (xs.drop (i.toNat*sz))else ab| _,_=>ab
def Gt(H:aj):V→Option (V × aj)
 | .c (.it b)=>match H[b]? with
  | some (.it s pos)=>
   if pos<s.size then
    let r:=Utf8.decode s pos
    aa (.t [.bool ae,.int .i64 pos,.int .i32 r.1],H.set b (.it s (pos+r.2)))
   else aa (.t [.bool ag],H)
  | _=>ab
 | _=>ab
def bU(need bytes:Nat):Bool:=decide ((2*need+768)*bytes≤2 ^ 48)&&decide (need<2 ^ 48)
def cV(H:aj)(sz:Nat):V→Option (Nat × List C)
 | .c (.f (.str s))=>if sz=1 then aa (s.size,s.toList.map fun b=>.f (.int .u8 b.toNat))else ab
 | .c x=>match bA H x,cO H sz x with
  | some l,aa cs=>aa (l,cs)| _,_=>ab
 | _=>ab
def cG(H:aj)(sz bytes:Nat)(x y:V):Option (V × aj):=
 match cV H sz y with
 | none=>ab
 | some (m,ys)=>
  if sz=0 then ab else
  match x with
  | .c (.f .aw)=>if m=0 then aa (.c (.f .aw),H)else
    if bU m bytes then aa (.c (.sl H.length 0 m 0 0 sz),H++[.b5 sz ys 0 0 .loc])else ab
  | .c (.f .es)=>if m=0 then aa (.c (.f .es),H)else
    if bU m bytes then aa (.c (.sl H.length 0 m 0 0 sz),H++[.b5 sz ys 0 0 .loc])else ab
  | .c (.sl b o l cap ep s)=>match H[b]? with
   | some (.box cs fl)=>
    if l+m≤cap then
     if fl≤o+l*sz∧o+l*sz+ys.length≤cs.length then aa (.c (.sl b o (l+m) cap ep s),H.set b (.box (bp cs (o+l*sz) ys) fl))else ab
    else if bU (l+m) bytes∧o+l*sz≤cs.length then aa (.c (.sl H.length 0 (l+m) 0 0 sz),H++[.b5 sz ((cs.drop o).take (l*sz)++ys) 0 0 .loc])else ab
   | some (.b5 s' cs fl e d)=>
    if ep=e∧s'=sz∧s=sz then
     if m=0 then aa (x,H)
     else if o=0∧l*sz=cs.length∧fl≤cs.length then
      if bU (l+m) bytes then aa (.c (.sl b 0 (l+m) 0 (ep+1) sz),H.set b (.b5 sz (cs++ys) fl (e+1) .loc))else ab
     else if d=.loc∧fl≤o+l*sz∧o+l*sz+ys.length≤cs.length then
      aa (.c (.sl b o (l+m) 0 ep sz),H.set b (.b5 sz (bp cs (o+l*sz) ys) fl e .loc))
     else ab
    else ab
   | _=>ab
  | _=>ab
def copyV(H:aj)(sz:Nat)(x y:V):Option (V × aj):=
 match cV H sz y,x with
 | some _,.c (.f .aw)=>aa (.int .i64 0,H)| some _,.c (.f .es)=>aa (.int .i64 0,H)
 | some (m,ys),.c (.sl b o l _ ep s')=>
  let n:=Nat.min m l
  match H[b]? with
  | some (.box cs fl)=>if fl≤o∧o+n*sz≤cs.length then aa (.int .i64 n,H.set b (.box (bp cs o (ys.take (n*sz))) fl))else ab| some (.b5 s cs fl e .loc)=>if ep=e∧s'=s∧s=sz∧fl≤o∧o+n*sz≤cs.length then aa (.int .i64 n,H.set b (.b5 s (bp cs o (ys.take (n*sz))) fl e .loc))else ab| _=>ab
 | _,_=>ab
def ot(H:aj):V→Option V
 | .c x=>match bA H x with
  | some _=>match cO H 1 x with
   | some cs=>(bj (fun c=>match c with | C.f (.int .u8 n)=>aa (UInt8.ofNat n.toNat) | _=>ab) cs).map fun l=>.c (.f (.str ⟨l.toArray⟩))
   | none=>ab
  | none=>ab
 | _=>ab
def dE(aB:T)(cs:List C):List (Nat × Nat × Arg)→Option (List C)
 | []=>aa cs
 | (off,n,x)::rest=>match (x.ev aB).cells? with
  | some xs=>if xs.length=n∧off+xs.length≤cs.length then dE aB (bp cs off xs) rest else ab| none=>ab
def dy(aB:T)(xs:List Arg):List V:=xs.map (·.ev aB)
def mL:V→Option C
 | .c (.cl _ _)=>ab| .c (.bm _ _)=>ab| .c x=>aa x| _=>ab
def cE{α:Type}(n:Nat)(xs:List α):List α:=(List.replicate n xs).flatten
def eqK:CK→FC→FC→Option Bool
 | .int,.int k a,.int k' b=>if k=k' then aa (a == b)else ab| .str,.str a,.str b=>aa (a == b)| .bool,.bool a,.bool b=>aa (a == b)| _,_,_=>ab
def m6(b:CK)(k:FC):List (FC × C)→Option (Option C)
 | []=>aa ab
 | e::d=>match eqK b k e.1 with
  | some ae=>aa (aa e.2)| some ag=>m6 b k d| none=>ab
def qh(b:CK)(k:FC)(v:C):List (FC × C)→Option (List (FC × C))
 | []=>aa [(k,v)]
 | e::d=>match eqK b k e.1 with
  | some ae=>aa ((k,v)::d)| some ag=>(qh b k v d).map (e::·)| none=>ab
def isKey:CK→FC→Bool
 | .int,.int _ _=>ae| .str,.str _=>ae| .bool,.bool _=>ae| _,_=>ag
def sk:FC→Option FC
 | .fp [z] 77=>aa z| _=>ab
def lkR(z:FC)(r:Option C):V:=match sk z with
 | some b=>.t [(r.map mV).getD (zV b),.c (.f (.bool r.isSome))]| none=>(r.map mV).getD (zV z)
def fX(H:aj)(d:CK)(z:FC):V→V→Option V
 | .c (.f .xI),.c (.f k)=>if isKey d k then aa (lkR z ab)else ab
 | .c (.mp b),.c (.f k)=>match H[b]? with
  | some (.map g)=>if isKey d k then(m6 d k g).map (lkR z)else ab| _=>ab
 | _,_=>ab
def jb(H:aj):C→Option Nat
 | .sl b _ _ c ep sz=>match H[b]? with
  | some (.box _ _)=>aa c| some (.b5 s _ _ e .nil)=>if ep=e∧sz=s then aa 0 else ab| some (.b5 s _ _ e .es)=>if ep=e∧sz=s then aa 0 else ab| _=>ab
 | .f .aw=>aa 0| .f .es=>aa 0| _=>ab
def y0(lo:Bool)(x y:V):Option V:=
 match x,y with
 | .c (.f (.int k a)),.c (.f (.int _ b))=>aa (.int k (if lo then(if b<a then b else a)else(if b>a then b else a)))| _,_=>ab
def sS(lo:Bool):V→List V→Option V
 | x,[]=>aa x
 | x,y::ys=>match y0 lo x y with
  | some z=>sS lo z ys| none=>ab
def xG(lo:Bool):List V→Option V
 | []=>ab| x::xs=>sS lo x xs
def oL(H:aj)(sz:Nat)(zs:List FC)(x:V):Option aj:=
 match x with
 | .c y=>match bA H y with
  | some 0=>aa H
  | some l=>
   if zs.length=sz then
    match y with
    | .sl b o _ _ ep s=>match H[b]? with
     | some (.box _ _)=>dh H (.ptr b o ep) ((cE l zs).map .f)| some (.b5 s' _ _ e .loc)=>if ep=e∧s=s' then dh H (.ptr b o ep) ((cE l zs).map .f)else ab| _=>ab
    | _=>ab
   else ab
  | none=>ab
 | _=>ab
def va(H:aj)(sz bytes:Nat)(zs:List FC)(x n:V):Option (V × aj):=
 match ik n with
 | some n=>
  if 0≤n∧zs.length=sz then
   match x with
   | .c (.f .aw)=>if n.toNat=0 then aa (.c (.f .aw),H)else
     if bU n.toNat bytes then aa (.c (.sl H.length 0 n.toNat 0 0 sz),H++[.b5 sz ((cE n.toNat zs).map .f) 0 0 .loc])else ab
   | .c (.f .es)=>if n.toNat=0 then aa (.c (.f .es),H)else
     if bU n.toNat bytes then aa (.c (.sl H.length 0 n.toNat 0 0 sz),H++[.b5 sz ((cE n.toNat zs).map .f) 0 0 .loc])else ab
   | _=>ab
  else ab
 | none=>ab
def fcC:C→Option FC
 | .f x=>aa x| _=>ab
def CW(H:aj)(sz:Nat)(x hi mx:V):Option (V × aj):=
 match dk H sz x ab (aa hi) (aa mx)with
 | some v=>aa (v,H)
 | none=>match x with
  | .c (.sl b o n _ ep s)=>match H[b]? with
   | some (.b5 s' cs fl e .loc)=>
    if ep=e∧s=sz∧s'=sz∧o=0 then
     match AU hi n,AU mx n with
     | some i,aa j=>
      if i=j∧0<i∧i*sz≤cs.length then
       match bj fcC (cs.take (i*sz))with
       | some ys=>aa (.c (.f (.fs ys i)),H.set b (.b5 s' cs (Nat.max fl (i*sz)) e .loc))| none=>ab
      else ab
     | _,_=>ab
    else ab
   | _=>ab
  | _=>ab
def As(H:aj):V→Option (V × aj)
 | .c (.mi b)=>match H[b]? with
  | some (.xn m d done)=>match H[m]? with
   | some (.map [])=>if done then ab else aa (.t [.bool ag],H)| some (.map [e])=>if done then aa (.t [.bool ag],H)else if d=1 then aa (.t [.bool ae,.c (.f e.1),mV e.2],H.set b (.xn m 1 ae))else ab| _=>ab
  | _=>ab
 | _=>ab
def lM(H:aj):V→Option V
 | .c (.mi b)=>match H[b]? with
  | some (.xn m _ ae)=>match H[m]? with
   | some (.map [e])=>aa (.t [.c (.f e.1),mV e.2])| _=>ab
  | _=>ab
 | _=>ab
def uE(H:aj):V→Option (V × aj)
 | .c (.mp b)=>match H[b]? with
  | some (.map d)=>if d.length≤1 then aa (.c (.mi H.length),H++[.xn b d.length ag])else ab| _=>ab
 | _=>ab
def fcL:List C→Option (List FC)
 | []=>aa []| .f x::xs=>(fcL xs).map (x::·)| _::_=>ab
def bu(aB:T)(H:aj):cX→Option (V × aj)
 | .bc x=>aa (x.ev aB,H)| .pre o sz=>if o=.loc∨sz=0 then ab else aa (.c (.sl H.length 0 0 0 0 sz),H++[.b5 sz [] 0 0 o])
 | .pick c a b=>match c.ev aB with
  | .c (.f (.bool v))=>aa ((if v then a else b).ev aB,H)| _=>ab
 | .alloc zs=>aa (.c (.ptr H.length 0 0),H++[.box (zs.map .f) 0])
 | .box x=>match (x.ev aB).cells? with
  | some xs=>aa (.c (.ptr H.length 0 0),H++[.box xs 0])| none=>ab
 | .build zs ps=>(dE aB (zs.map .f) ps).map fun cs=>(.a cs,H)
 | .bH sz zs n ps=>
  if n=0 then(if ps.isEmpty then aa (.c (.f .es),H)else ab)else
  (dE aB ((cE n zs).map .f) (ps.map fun p=>(p.1*sz,sz,p.2))).map fun cs=>(.c (.sl H.length 0 n n 0 sz),H++[.box cs 0])
 | .load n x=>(aV H n (x.ev aB)).map (·,H)
 | .store n x y=>match x.ev aB,(y.ev aB).cells? with
  | .c p,aa xs=>if xs.length=n then(dh H p xs).map (.top,·)else ab| _,_=>ab
 | .cj x=>match x.ev aB with
  | .c (.ptr b o e)=>aa (.c (.ptr b o e),H)| .c (.f (.fp cs o))=>aa (.c (.f (.fp cs o)),H)| _=>ab
 | .bin op x y=>(dp op (x.ev aB) (y.ev aB)).map (·,H)| .eq neg k x y=>(D0 H k (x.ev aB) (y.ev aB)).map fun b=>(.bool (if neg then !b else b),H)
 | .un op x=>(unV op (x.ev aB)).map (·,H)
 | .fO k x=>match x.ev aB with
  | .c (.f (.int _ n))=>aa (.int k (k.wrap n),H)| _=>ab
 | .xz x=>match x.ev aB with
  | .c (.f (.str s))=>aa (.c (.f (.str s)),H)| _=>ab
 | .xy x=>(ot H (x.ev aB)).map (·,H)
 | .DX x=>match x.ev aB with
  | .c (.f (.str s))=>if s.size<2 ^ 48 then aa (.c (.sl H.length 0 s.size 0 0 1),H++[.b5 1 (s.toList.map fun b=>.f (.int .u8 b.toNat)) 0 0 .loc])else ab
  | _=>ab
 | .fP f d=>(bj mL (dy aB d)).map fun xs=>(.c (.cl f xs),H)
 | .jH=>aa (.c (.mp H.length),H++[.map []])| .lookup g z m k=>(fX H g z (m.ev aB) (k.ev aB)).map (·,H)
 | .ja g m k v=>match m.ev aB,k.ev aB,pG (v.ev aB)with
  | .c (.mp b),.c (.f k),aa v=>match H[b]? with
   | some (.map q)=>if isKey g k then(qh g k v q).map fun q=>(.top,H.set b (.map q))else ab
   | _=>ab
  | _,_,_=>ab
 | .dR sz bytes zs l c=>match ik (l.ev aB),ik (c.ev aB)with
  | some l,aa c=>
   if 0≤l∧l≤c∧bU c.toNat bytes=ae∧zs.length=sz then
    (if c=0 then aa (.c (.f .es),H)else
    aa (.c (.sl H.length 0 l.toNat c.toNat 0 sz),H++[.box ((cE c.toNat zs).map .f) 0]))
   else ab
  | _,_=>ab
 | .slice sz x lo hi mx=>(dk H sz (x.ev aB) (lo.map (·.ev aB)) (hi.map (·.ev aB)) (mx.map (·.ev aB))).map (·,H)| .nm n sz x lo hi mx=>(kH H n sz (x.ev aB) (lo.map (·.ev aB)) (hi.map (·.ev aB)) (mx.map (·.ev aB))).map (·,H)| .oB x lo hi=>(wS (x.ev aB) (lo.map (·.ev aB)) (hi.map (·.ev aB))).map (·,H)| .aU off x=>(jf off (x.ev aB)).map (·,H)| .field off n x=>(ku off n (x.ev aB)).map (·,H)| .bI sz j x i=>(bG H sz j (x.ev aB) (i.ev aB)).map (·,H)| .idxs x i=>(B6 (x.ev aB) (i.ev aB)).map (·,H)| .xB len sz n x i=>(B5 len sz n (x.ev aB) (i.ev aB)).map (·,H)
 | .range x=>match x.ev aB with
  | .c (.f (.str s))=>aa (.c (.it H.length),H++[.it s 0])| _=>ab
 | .next x=>Gt H (x.ev aB)
 | .extract x i=>match x.ev aB with
  | .t A=>(A[i]?).map (·,H)| _=>ab
 | .nZ n=>aa (.int .i64 n,H)
 | .lens x=>match x.ev aB with
  | .c (.f (.str s))=>aa (.int .i64 (s.size:Nat),H)| _=>ab
 | .len x=>match x.ev aB with
  | .c y=>match bA H y with
   | some n=>aa (.int .i64 (n:Nat),H)| none=>ab
  | _=>ab
 | .append sz bytes x y=>cG H sz bytes (x.ev aB) (y.ev aB)| .copy sz x y=>copyV H sz (x.ev aB) (y.ev aB)| .gR lo xs=>(xG lo (dy aB xs)).map (·,H)| .clear sz zs x=>(oL H sz zs (x.ev aB)).map (.t [],·)| .lK sz bytes zs x n=>va H sz bytes zs (x.ev aB) (n.ev aB)| .kE x=>uE H (x.ev aB)| .oz x=>As H (x.ev aB)| .entry x=>(lM H (x.ev aB)).map (·,H)| .fJ sz zs n ps=>((dE aB ((cE n zs).map .f) (ps.map fun p=>(p.1*sz,sz,p.2))).bind fun cs=>if n=0 then ab else fcL cs).map fun u=>(.c (.f (.fs u n)),H)
 | .wP sz x hi mx=>CW H sz (x.ev aB) (hi.ev aB) (mx.ev aB)| .mZ f xs=>(bj mL (dy aB xs)).map fun xs=>(.c (.bm f xs),H)
 | .cap x=>match x.ev aB with
  | .c y=>match jb H y with
   | some n=>aa (.int .i64 (n:Nat),H)| none=>ab
  | _=>ab
 | _=>ab
inductive Callee where
 | fn (f:Nat)
 | yield (b:Nat)
abbrev cR:=Callee→List V→aj→Option (V × aj)
def deep:Nat:=64
def et(call:cR)(c:Nat)(args:List V)(H:aj):Option (V × aj):=
 match bj (cD deep H) args with
 | none=>ab
 | some b=>match call (.fn c) b []with
  | none=>ab
  | some (r,H')=>match iZ deep H' r with
   | none=>ab| some r'=>aa (r',args.foldl (mkV deep) H)
def bZ:V→List V→Option (Callee × List V)
 | .c (.f (.fn f d)),args=>aa (.fn f,args++d.map fun x=>.c (.f x))
 | .c (.cl f d),args=>aa (.fn f,args++d.map .c)| .c (.yl b),args=>aa (.yield b,args)| .c (.bm f first),args=>aa (.fn f,first.map .c++args)
 | _,_=>ab
def gT(call:cR)(h:Bool)(c:Nat)(args:List V)(H:aj):Option (V × aj):=
 if h then call (.fn c) args H else et call c args H
structure St where
 aB:T
 defs:List dK
 heap:aj
def jJ(aB:T)(d:Option P)(v:V):T:=
 match d with
 | some d=>aB.set d v| none=>aB
def eQ(call:cR)(s:St)(op:cX):Option (V × St):=
 match op with
 | .call f args h=>(gT call h f (dy s.aB args) s.heap).map fun r=>(r.1,{ s with heap:=r.2 })
 | .cm x args _=>match bZ (x.ev s.aB) (dy s.aB args)with
  | some (c,args)=>(call c args s.heap).map fun r=>(r.1,{ s with heap:=r.2 })
  | none=>ab
 | .recover=>aa (.c (.f .mF),s)
 | .defer x args=>match bZ (x.ev s.aB) (dy s.aB args)with
  | some (.fn f,args)=>aa (.top,{ s with defs:=.fn f args::s.defs })
  | _=>ab
 | op=>(bu s.aB s.heap op).map fun r=>(r.1,{ s with heap:=r.2 })
def iG{α:Type}(f:α→α→Bool):List α→List α→Bool
 | [],[]=>ae| x::xs,y::ys=>f x y&&iG f xs ys| _,_=>ag
def FC.beq:Nat→FC→FC→Bool
 | _,.bool a,.bool b=>a == b| _,.int j a,.int k b=>decide (j=k)&&a == b| _,.str a,.str b=>decide (a=b)| _,.ob,.ob | _,.aw,.aw | _,.es,.es | _,.iX,.iX | _,.mF,.mF | _,.xI,.xI=>ae| n+1,.fp xs o,.fp ys o'=>o == o'&&iG (FC.beq n) xs ys| n+1,.fs xs l,.fs ys l'=>l == l'&&iG (FC.beq n) xs ys| n+1,.fn f xs,.fn g ys=>f == g&&iG (FC.beq n) xs ys| _,_,_=>ag
def C.beq:C→C→Bool
 | .f a,.f b=>FC.beq 64 a b| .ptr a b c,.ptr a' j l=>a == a'&&b == j&&c == l| .sl a b c d e g,.sl a' j l m q g'=>a == a'&&b == j&&c == l&&d == m&&e == q&&g == g'| .mp a,.mp b=>a == b| _,_=>ag
def V.beq:V→V→Bool
 | .c x,.c y=>x.beq y| .a xs,.a ys=>xs.length == ys.length&&(xs.zip ys).all fun p=>p.1.beq p.2
 | _,_=>ag
def wanted(aB:T):Option (P × Bool)→Option Bool
 | none=>aa ae
 | some (r,w)=>match aB.get r with
  | .c (.f (.bool b))=>aa (b == w)| .t []=>aa ag| _=>ab
def fG(call:cR)(s:St)(o:aP):Option St:=
 match wanted s.aB o.g with
 | some ae=>match eQ call s o.op with
  | some (v,s')=>aa { s' with aB:=jJ s'.aB o.dst v }
  | none=>ab
 | some ag=>aa { s with aB:=jJ s.aB o.dst (.t []) }
 | none=>ab
def fB(call:cR):List aP→St→Option St
 | [],s=>aa s
 | o::os,s=>match fG call s o with
  | some s'=>fB call os s'| none=>ab
def dV(call:cR):List aP→St→Option (List St)
 | [],s=>aa [s]
 | o::os,s=>match fG call s o with
  | some s'=>match dV call os s' with
   | some ss=>aa (s::ss)| none=>ab
  | none=>ab
def sameAt(ops:List aP)(ss:List St)(c:Nat × Nat):Bool:=
 match ops[c.1]?,ss[c.1]?,ss[c.2]? with
 | some o,aa s,aa s'=>match wanted s.aB o.g with
  | some ag=>ae
  | _=>match bu s.aB s.heap o.op,bu s.aB s'.heap o.op with
   | some (v,_),aa (b,_)=>v.beq b| _,_=>ag
 | _,_,_=>ag
def gd(call:cR)(ops:List aP)(b:List (Nat × Nat))(s:St):Option St:=
 match b with
 | []=>fB call ops s
 | _=>match dV call ops s with
  | some ss=>if b.all (sameAt ops ss)then ss.getLast? else ab| none=>ab
def cX.dS:cX→Bool
 | .defer _ _ | .recover=>ag| _=>ae
inductive cZ where
 | code (c:aE)
 | inBlock (id:Nat)
 | inLoop (c:aE)
 | iY (b:Nat)
 | mJ
 | inScope (a:aE)
def exitTo(id:Nat):List cZ→Option (List cZ)
 | []=>ab| .inBlock b::k=>if b == id then aa k else exitTo id k| _::k=>exitTo id k
def findLabel:aE→Nat→Option aE
 | .seq a b,l=>match findLabel a l with
  | some rest=>aa (.seq rest b)| none=>findLabel b l
 | .label l',l=>if l' == l then aa .skip else ab| _,_=>ab
def gotoIn(l:Nat):List cZ→Option (List cZ)
 | []=>ab
 | .inScope body::k=>match findLabel body l with
  | some rest=>aa (.code rest::.inScope body::k)| none=>gotoIn l k
 | _::k=>gotoIn l k
def C.eV(n:Nat):C→Bool
 | .f _=>ae| .ptr b _ _=>decide (b<n)| .sl b _ _ _ _ _=>decide (b<n)| .cl _ _=>ag| .yl b=>decide (b<n)| .mp b=>decide (b<n)| .it b=>decide (b<n)| .mi b=>decide (b<n)| .bm _ _=>ag
def C.under(n:Nat):C→Bool
 | .cl _ d=>d.all (·.eV n)| .f _=>ae| .ptr b _ _=>decide (b<n)| .sl b _ _ _ _ _=>decide (b<n)| .yl b=>decide (b<n)| .mp b=>decide (b<n)| .it b=>decide (b<n)| .mi b=>decide (b<n)| .bm _ first=>first.all (·.eV n)
def run(call:cR)(fn:Nat):Nat→Option Nat→List cZ→St→Option (Option aE × St)
 | 0,_,_,_=>ab
 | m+1,j,q,s=>
  match q with
  | []=>aa (ab,s)| .inBlock _::k=>run call fn m j k s| .inLoop c::k=>run call fn m j (.code c::.inLoop c::k) s
  | .iY b::k=>match s.heap[b]? with
   | some (.lp f tmps ps as bd x pending d)=>
    if x=.busy then ab else
    let s:={ s with heap:=s.heap.set b (.lp f tmps ps as bd .exhausted pending d) }
    match pending with
    | none=>run call fn m j k s| some .ret=>run call fn m j (.code .ret::k) s| some (.exit id)=>run call fn m j (.code (.exit id)::k) s| some _=>ab
   | _=>ab
  | .mJ::k=>match j with
   | none=>ab
   | some b=>match s.heap[b]? with
    | some (.lp f tmps ps as bd .ready pending d)=>run call fn m j k { s with heap:=s.heap.set b (.lp f tmps ps as bd .busy pending d) }
    | _=>ab
  | .code .skip::k=>run call fn m j k s| .inScope _::k=>run call fn m j k s| .code (.label _)::k=>run call fn m j k s| .code (.scope a)::k=>run call fn m j (.code a::.inScope a::k) s
  | .code (.goto l)::k=>match gotoIn l k with
   | some k=>run call fn m j k s| none=>ab
  | .code .bad::_=>ab| .code .ret::_=>aa (aa .ret,s)
  | .code (.exit id)::k=>match exitTo id k with
   | some k=>run call fn m j k s| none=>if j.isSome then aa (aa (.exit id),s)else ab
  | .code (.seq a b)::k=>run call fn m j (.code a::.code b::k) s| .code (.block id a)::k=>run call fn m j (.code a::.inBlock id::k) s| .code (.loop a)::k=>run call fn m j (.code a::.inLoop a::k) s
  | .code (.cond c a b)::k=>match c.ev s.aB with
   | .c (.f (.bool v))=>run call fn m j (.code (if v then a else b)::k) s| _=>ab
  | .code (.region ops u)::k=>
   if j.isSome&&!ops.all (·.op.dS)then ab else
   match gd call ops u s with
   | some s=>run call fn m j k s| none=>ab
  | .code (.fL f ps as bd)::k=>
   if j.isSome then ab else
   let d:=s.heap.length
   let H:=s.heap++[.eZ ae,.lp fn s.aB ps as bd .ready ab d]
   match bZ (f.ev s.aB) [.c (.yl (d+1))]with
   | some (.fn g,args)=>match call (.fn g) args H with
    | some (_,H)=>run call fn m j (.iY (d+1)::k) { aB:=s.aB,defs:=.gX d::s.defs,heap:=H }| none=>ab
   | _=>ab
def fo:Nat:=1000000000
def dH(call:cR):List dK→aj→Option aj
 | [],H=>aa H
 | .gX b::ds,H=>match H[b]? with
  | some (.eZ ae)=>dH call ds (H.set b (.eZ ag))| _=>ab
 | .fn f args::ds,H=>if f=fo then ab else match call (.fn f) args H with
  | some (_,H)=>dH call ds H| none=>ab
def cN(aB:T)(H:aj):gG→Option V
 | .tmp t=>match aB.get t with
  | .t _=>ab| v=>aa v
 | .cell t n=>aV H n (aB.get t)
def results(aB:T)(H:aj)(b:List gG):Option V:=
 match bj (cN aB H) b with
 | some [v]=>aa v| some d=>aa (.t d)| none=>ab
def cK:List P→List V→T→T
 | p::ps,v::b,aB=>cK ps b (aB.set p v)| _,_,aB=>aB
def ey(tab:Nat→Option aL)(g:Nat→List V→aj→Option (Option (V × aj)))(m:Nat):Nat→cR
 | 0,_,_,_=>ab
 | d+1,.fn f,args,H=>
  match g f args H with
  | some r=>r
  | none=>match tab f with
   | none=>ab
   | some af=>if args.length=af.ps.length then match run (ey tab g m d) f m ab [.code af.body] ⟨cK af.ps args .e,[],H⟩with
    | some (_,s)=>match dH (ey tab g m d) s.defs s.heap with
     | some H=>(results s.aB H af.results).map (·,H)| none=>ab
    | none=>ab
    else ab
 | d+1,.yield b,args,H=>
  match H[b]? with
  | some (.lp f tmps ps as bd _ _ _)=>
   if args.length=ps.length then
    match run (ey tab g m d) f m (aa b) [.code as,.mJ,.code bd] ⟨cK ps args tmps,[],H⟩with
    | some (j,s)=>
     if s.defs.isEmpty then
      match s.heap[b]? with
      | some (.lp x l u as' q _ _ v)=>aa (.bool j.isNone,s.heap.set b (.lp x l u as' q (if j.isNone then .ready else .done) j v))| _=>ab
     else ab
    | none=>ab
   else ab
  | _=>ab
section
variable(Q:Program)(σ:Nat→FuncId)
def an2:Value→Bool
 | .agg _ | .tuple _=>ag| _=>ae
def am7:Value→Bool
 | .agg _=>ae| _=>ag
def mK1:FC→Value→Bool
 | .bool a,.bool b=>a == b| .int j a,.int k b=>decide (j=k)&&decide (a=b)| .str a,.string b=>decide (a=b)| .ob,.pointer ab=>ae| .aw,.slice ab 0 0=>ae| .iX,.nilFunc=>ae| .mF,.nilIface=>ae| .xI,.map ab=>ae| _,_=>ag
def fk{α β:Type}(f:α→β→Bool):List α→List β→Bool
 | [],[]=>ae| x::xs,y::ys=>f x y&&fk f xs ys| _,_=>ag
def mK:V→Value→Bool
 | .c (.f x),v=>mK1 x v| .a xs,.agg us=>fk (fun x u=>match x with | C.f x=>mK1 x u | _=>ag) xs us.toList
 | .top,.tuple us=>us.isEmpty| _,_=>ag
def mA:Arg→Operand→Bool
 | .r p,.tmp t=>p.toNat == t| .k v,.const u=>mK v u| .k (.c (.f (.fn f []))),.func g=>σ f == g| _,_=>ag
def mAs(xs:List Arg)(ys:Array Operand):Bool:=fk (mA σ) xs ys.toList
def mO:Option Arg→Option Operand→Bool
 | none,ab=>ae| some x,aa y=>mA σ x y| _,_=>ag
def dA(t:TypeId)(n:Nat):Bool:=(Q.info? t).any fun i=>i.size == n
def nu(t:TypeId)(n:Nat):Bool:=(Q.info? t).any fun i=>i.bytes == n
def lE(t:TypeId)(zs:List FC):Bool:=(Q.info? t).any fun i=>match i.zero with
 | some z=>fk mK1 zs z.cells.toList| none=>ag
def xa(t:TypeId)(n:Option Nat):Bool:=match Q.underlying t,n with
 | some (.struct _),aa n | some (.array _ _),aa n=>dA Q t n| some (.struct _),ab | some (.array _ _),ab=>ag| some _,ab=>ae| _,_=>ag
def iq:Nat→TypeId→Option (List CK)
 | 0,_=>ab
 | d+1,t=>match Q.underlying t with
  | some .bool=>if dA Q t 1 then aa [.bool]else ab| some (.int _)=>if dA Q t 1 then aa [.int]else ab| some .string=>if dA Q t 1 then aa [.str]else ab
  | some (.struct fs)=>if Q.stoodInHeld t then ab else match pM (iq d) 0 fs.toList with
   | some ks=>if dA Q t ks.length then aa ks else ab| none=>ab
  | _=>ab
 where
 pM (rec:TypeId→Option (List CK)) (off:Nat):List Field→Option (List CK)
  | []=>aa []
  | f::fs=>if f.name≠ "_"∧f.offset=off then match rec f.type with
    | some ks=>match pM rec (off+ks.length) fs with
     | some r=>aa (ks++r)| none=>ab
    | none=>ab
   else ab
def sQ:Operand→Bool
 | .const _=>ae| _=>ag
def mEq(k:FE)(t:TypeId)(x y:Operand):Bool:=match Q.underlying t,k with
 | some .bool,.bool | some (.pointer _),.ptr | some (.slice _),.sl | some (.func _ _ _),.fn=>ae| some (.interface _),.ifc=>sQ x||sQ y| some (.struct _),.st b=>decide (iq Q 20 t=aa b)&&!Q.eqGuardType Q.depth t| _,_=>ag
def mP(t:TypeId):Option TypeId:=match Q.underlying t with
 | some (.slice e)=>aa e| _=>ab
def aqN(t:TypeId):Bool:=match Q.underlying t with
 | some (.int .u8)=>ae| _=>ag
def dX(c:Call):cX→Bool
 | .len x=>match c.callee,c.args.toList,c.argTypes.toList with
  | .builtin .len,[y],[t]=>mA σ x y&&(match Q.underlying t with | some (.slice _)=>ae | _=>ag)
  | _,_,_=>ag
 | .lens x=>match c.callee,c.args.toList,c.argTypes.toList with
  | .builtin .len,[y],[t]=>mA σ x y&&(match Q.underlying t with | some .string=>ae | _=>ag)
  | _,_,_=>ag
 | .nZ n=>match c.callee,c.args.toList,c.argTypes.toList with
  | .builtin .len,[_],[t]=>(match Q.underlying t with | some (.array m _)=>decide (n=m) | _=>ag)
  | _,_,_=>ag
 | .append sz bytes x y=>match c.callee,c.args.toList,c.argTypes.toList with
  | .builtin .append,[u,v],[t,b]=>mA σ x u&&mA σ y v&&(mP Q t).any (fun e=>dA Q e sz&&nu Q e bytes&&decide (0<sz)&&(Q.info? e).any (fun i=>i.zero.any fun z=>decide (z.cells.size=sz)))
    && (match Q.underlying b with | some .string=>ae | some (.slice _)=>ae | _=>ag)
  | _,_,_=>ag
 | .lK sz bytes zs x y=>match c.callee,c.args.toList,c.argTypes.toList with
  | .builtin .append,[u,v],[t,b]=>mA σ x u&&mA σ y v&&(mP Q t).any (fun e=>dA Q e sz&&nu Q e bytes&&decide (0<sz)&&lE Q e zs)
    && (match Q.underlying b with | some (.int _)=>ae | _=>ag)
  | _,_,_=>ag
 | .copy sz x y=>match c.callee,c.args.toList,c.argTypes.toList with
  | .builtin .copy,[u,v],[t,_]=>mA σ x u&&mA σ y v&&(mP Q t).any (fun e=>dA Q e sz)
  | _,_,_=>ag
 | .gR lo xs=>match c.callee,lo with
  | .builtin .max,ag | .builtin .min,ae=>mAs σ xs c.args| _,_=>ag
 | .cap x=>match c.callee,c.args.toList,c.argTypes.toList with
  | .builtin .cap,[y],[t]=>mA σ x y&&(match Q.underlying t with | some (.slice _)=>ae | _=>ag)
  | _,_,_=>ag
 | .clear sz zs x=>match c.callee,c.args.toList,c.argTypes.toList with
  | .builtin .clear,[y],[t]=>mA σ x y&&(mP Q t).any (fun e=>dA Q e sz&&lE Q e zs)
  | _,_,_=>ag
 | .recover=>match c.callee with
  | .builtin .recover=>ae| _=>ag
 | .call f xs _=>match c.callee with
  | .value (.func g)=>σ f == g&&mAs σ xs c.args| _=>ag
 | .cm x xs _=>match c.callee with
  | .value y=>mA σ x y&&mAs σ xs c.args| _=>ag
 | _=>ag
def Qd(b:CK)(t:TypeId):Bool:=match Q.underlying t,b with
 | some (.int _),.int | some .string,.str | some .bool,.bool=>ae| _,_=>ag
def aco(t:TypeId)(qs:List (Nat × Nat × Arg))(ps:List (Nat × Operand)):Bool:=match Q.underlying t with
 | some (.struct b)=>match b.toList.mapM (fun f=>(Q.info? f.type).map fun i=>(f.offset,i.size))with
  | some d=>fk (fun(q:Nat × Nat × Arg) (p:Nat × Operand)=>decide (d[p.1]?=aa (q.1,q.2.1))&&mA σ q.2.2 p.2) qs ps
  | none=>ag
 | some (.array _ e)=>match Q.info? e with
  | some i=>fk (fun(q:Nat × Nat × Arg) (p:Nat × Operand)=>i.size == q.2.1&&q.1 == p.1*q.2.1&&mA σ q.2.2 p.2) qs ps
  | none=>ag
 | _=>ag
def dP(o:Oper)(a:cX):Bool:=match a with
 | .bad=>ae| .bc y=>(match o.op with | .move x | .assign x=>mA σ y x | _=>ag)
 | .pre .nil sz=>(match o.op with | .move (.const (.slice ab 0 0)) | .assign (.const (.slice ab 0 0))=>decide (0<sz) | _=>ag)
 | .pick L A I=>(match o.op with | .pick c x y=>mA σ L c&&mA σ A x&&mA σ I y | _=>ag)
 | .alloc zs=>(match o.op with | .alloc t=>lE Q t zs | _=>ag)
 | .box y=>(match o.op with | .box _ x=>mA σ y x | _=>ag)
 | .build zs qs=>(match o.op with | .build t ps=>lE Q t zs&&aco Q σ t qs ps.toList | _=>ag)
 | .bH sz zs F qs=>(match o.op with | .buildSlice t n ps=>n == F&&decide (n*sz≤2 ^ 24)&&(mP Q t).any (fun e=>dA Q e sz&&lE Q e zs&&decide (zs.length=sz))&&decide (0<sz)&&fk (fun(q:Nat × Arg) (p:Nat × Operand)=>q.1 == p.1&&mA σ q.2 p.2) qs ps.toList | _=>ag)
 | .fJ sz zs F qs=>(match o.op with | .buildSlice t n ps=>n == F&&decide (n*sz≤2 ^ 24)&&(mP Q t).any (fun e=>dA Q e sz&&lE Q e zs&&decide (zs.length=sz))&&decide (0<sz)&&fk (fun(q:Nat × Arg) (p:Nat × Operand)=>q.1 == p.1&&mA σ q.2 p.2) qs ps.toList | _=>ag)
 | .load n y=>(match o.op with | .load t x=>xa Q t n&&mA σ y x | _=>ag)
 | .store n A I=>(match o.op with | .store t x y=>dA Q t n&&mA σ A x&&mA σ I y | _=>ag)
 | .cj y=>(match o.op with | .nilCheck x=>mA σ y x | _=>ag)
 | .bin H A I=>(match o.op with | .binOp op t x y _=>decide (op=H)&&mA σ A x&&mA σ I y | _=>ag)
 | .eq neg k A I=>(match o.op with | .binOp op t x y _=>decide (op=if neg then .neq else .eql)&&mA σ A x&&mA σ I y&&mEq Q k t x y | _=>ag)
 | .un H y=>(match o.op with | .unOp op _ x=>decide (op=H)&&mA σ y x | _=>ag)
 | .fO k y=>(match o.op with | .convert s d x=>mA σ y x&&(Q.underlying s).isSome&&(match Q.underlying d with | some (.int k')=>decide (k=k') | _=>ag) | _=>ag)
 | .xz y=>(match o.op with | .convert s d x=>mA σ y x&&(match Q.underlying s,Q.underlying d with | some .string,aa .string=>ae | _,_=>ag) | _=>ag)
 | .xy y=>(match o.op with | .convert s d x=>mA σ y x&&(match Q.underlying s,Q.underlying d with | some (.slice e),aa .string=>aqN Q e&&dA Q e 1 | _,_=>ag) | _=>ag)
 | .fP g ys=>(match o.op with | .makeFunc (.func f) fst B=>fst.isEmpty&&σ g == f&&mAs σ ys B | _=>ag)
 | .jH=>(match o.op with | .makeMap _ ab=>ae | _=>ag)
 | .dR sz bytes zs l' L=>(match o.op with | .makeSlice t l c=>mA σ l' l&&mA σ L c&&(mP Q t).any (fun e=>dA Q e sz&&nu Q e bytes&&lE Q e zs)&&decide (0<sz) | _=>ag)
 | .slice sz y E b mx'=>(match o.op with | .slice t x lo hi mx=>mA σ y x&&mO σ E lo&&mO σ b hi&&mO σ mx' mx&&(mP Q t).any (fun e=>dA Q e sz)&&decide (0<sz) | _=>ag)
 | .wP sz y b mx'=>(match o.op with | .slice t x ab (aa hi) (aa mx)=>mA σ y x&&mA σ b hi&&mA σ mx' mx&&(mP Q t).any (fun e=>dA Q e sz)&&decide (0<sz) | _=>ag)
 | .oB y E b=>(match o.op with | .slice t x lo hi ab=>mA σ y x&&mO σ E lo&&mO σ b hi&&(match Q.underlying t with | some .string=>ae | _=>ag) | _=>ag)
 | .nm n sz y E b mx'=>(match o.op with | .slice t x lo hi mx=>mA σ y x&&mO σ E lo&&mO σ b hi&&mO σ mx' mx&&(match Q.underlying t with | some (.array F e)=>n == F&&dA Q e sz | _=>ag)&&decide (0<sz) | _=>ag)
 | .aU off y=>(match o.op with | .fieldAddr t x i=>mA σ y x&&(match Q.underlying t with | some (.struct N)=>(match N[i]? with | some f=>f.offset == off&&(Q.info? f.type).any (fun i=>i.size != 0) | none=>ag) | _=>ag) | _=>ag)
 | .field off n y=>(match o.op with | .field t x i=>mA σ y x&&(match Q.underlying t with | some (.struct N)=>(match N[i]? with | some f=>f.offset == off&&xa Q f.type n | none=>ag) | _=>ag) | _=>ag)
 | .bI sz K A J=>(match o.op with | .indexAddr t x i=>mA σ A x&&mA σ J i&&(match Q.underlying t,K with | some (.slice e),ab=>dA Q e sz | some (.array n e),aa F=>n == F&&dA Q e sz | _,_=>ag) | _=>ag)
 | .idxs A J=>(match o.op with | .index t x i=>mA σ A x&&mA σ J i&&(match Q.underlying t with | some .string=>ae | _=>ag) | _=>ag)
 | .xB n sz k A J=>(match o.op with | .index t x i=>mA σ A x&&mA σ J i&&(match Q.underlying t with | some (.array F e)=>n == F&&dA Q e sz&&xa Q e k | _=>ag) | _=>ag)
 | .lookup M z O k'=>(match o.op with | .lookup t m k ok=>mA σ O m&&mA σ k' k&&(ok ==(sk z).isSome)&&(match Q.underlying t with | some (.map kt e)=>Qd Q M kt&&lE Q e (sI ((sk z).getD z))&&(Q.info? e).any (fun i=>i.zero.any fun u=>if Fh ((sk z).getD z)then am7 u else an2 u) | _=>ag) | _=>ag)
 | .ja M O k' S=>(match o.op with | .mapUpdate t m k v=>mA σ O m&&mA σ k' k&&mA σ S v&&(match Q.underlying t with | some (.map kt _)=>Qd Q M kt | _=>ag) | _=>ag)
 | .range y=>(match o.op with | .range t x=>mA σ y x&&(match Q.underlying t with | some .string=>ae | _=>ag) | _=>ag)
 | .next y=>(match o.op with | .next x ae=>mA σ y x | _=>ag)
 | .extract y j=>(match o.op with | .extract x i=>mA σ y x&&i == j | _=>ag)
 | .defer x xs=>(match o.op with | .defer c=>(match c.callee with | .value y=>mA σ x y&&mAs σ xs c.args | _=>ag) | _=>ag)
 | .len x=>(match o.op with | .call c=>dX Q σ c (.len x) | _=>ag)
 | .lens x=>(match o.op with | .call c=>dX Q σ c (.lens x) | _=>ag)
 | .nZ n=>(match o.op with | .call c=>dX Q σ c (.nZ n) | _=>ag)
 | .append sz bytes x y=>(match o.op with | .call c=>dX Q σ c (.append sz bytes x y) | _=>ag)
 | .gR lo xs=>(match o.op with | .call c=>dX Q σ c (.gR lo xs) | _=>ag)
 | .lK sz bytes zs x y=>(match o.op with | .call c=>dX Q σ c (.lK sz bytes zs x y) | _=>ag)
 | .cap x=>(match o.op with | .call c=>dX Q σ c (.cap x) | _=>ag)
 | .clear sz zs x=>(match o.op with | .call c=>dX Q σ c (.clear sz zs x) | _=>ag)
 | .kE y=>(match o.op with | .range t x=>mA σ y x&&(match Q.underlying t with | some (.map _ _)=>ae | _=>ag) | _=>ag)
 | .oz y=>(match o.op with | .next x ag=>mA σ y x | _=>ag)
 | .entry y=>(match o.op with | .entry x=>mA σ y x | _=>ag)
 | .mZ g ys=>(match o.op with | .makeFunc (.func f) fst B=>B.isEmpty&&σ g == f&&mAs σ ys fst | _=>ag)
 | .recover=>(match o.op with | .call c=>dX Q σ c (.recover) | _=>ag)
 | .call f xs h=>(match o.op with | .call c=>dX Q σ c (.call f xs h) | _=>ag)
 | .cm x xs h=>(match o.op with | .call c=>dX Q σ c (.cm x xs h) | _=>ag)
 | _=>ag
inductive Cls where | p | r | a | c | w
 deriving DecidableEq
def cls:cX→Cls
 | .bc _ | .pick .. | .build .. | .un .. | .fO .. | .xz _ | .fP .. | .oB .. | .aU .. | .field .. | .idxs .. | .xB .. | .extract .. | .gR .. | .mZ .. | .cj _ | .bin .. | .nZ _ | .lens _ | .fJ ..=>.p| .load .. | .eq .. | .len _ | .slice .. | .nm .. | .bI .. | .lookup .. | .xy _ | .cap _ | .entry _=>.r| .alloc _ | .box _ | .jH=>.a| .bH .. | .dR ..=>.a| .call _ _ ag=>.c| _=>.w
def Arg.rd:Arg→List P
 | .r p=>[p]| .k _=>[]
def oRd:Option Arg→List P
 | some x=>x.rd| none=>[]
def cX.rd:cX→List P
 | .bc x | .box x | .load _ x | .cj x | .un _ x | .fO _ x | .xz x | .xy x | .DX x | .aU _ x | .field _ _ x | .range x | .next x | .extract x _ | .len x | .lens x | .cap x | .clear _ _ x | .kE x | .oz x | .entry x=>x.rd| .pre _ _ | .alloc _ | .jH | .recover | .nZ _ | .bad=>[]| .pick c a b=>c.rd++a.rd++b.rd| .build _ ps=>ps.flatMap fun p=>p.2.2.rd
 | .bH _ _ _ ps | .fJ _ _ _ ps=>ps.flatMap fun p=>p.2.rd
 | .store _ x y | .bin _ x y | .eq _ _ x y | .bI _ _ x y | .idxs x y | .xB _ _ _ x y | .append _ _ x y | .copy _ x y | .lK _ _ _ x y | .lookup _ _ x y | .dR _ _ _ x y=>x.rd++y.rd| .ja _ x y z | .wP _ x y z=>x.rd++y.rd++z.rd| .fP _ xs | .call _ xs _ | .gR _ xs | .mZ _ xs=>xs.flatMap Arg.rd| .cm x xs _ | .defer x xs=>x.rd++xs.flatMap Arg.rd| .slice _ x a b c | .nm _ _ x a b c=>x.rd++oRd a++oRd b++oRd c| .oB x a b=>x.rd++oRd a++oRd b
def aP.rd(o:aP):List P:=(match o.g with | some (p,_)=>[p] | none=>[])++o.op.rd
def aP.apart(x y:aP):Bool:=
 (match x.dst with | some d=>!y.rd.contains d&&y.dst != aa d | none=>ae)&&(match y.dst with | some d=>!x.rd.contains d | none=>ae)
def vk(x y:aP):Bool:=
 match cls x.op,cls y.op with
 | .p,_ | _,.p=>ae| .r,.w | .w,.r=>ae| .w,_ | _,.w=>ag| _,_=>ae
def mX(acc:List Nat)(o:Oper):Nat:=o.after.toList.foldl (fun s e=>if Region.binds .any e then s ||| 2 ^ e.on ||| acc.getD e.on 0 else s) 0
def dz:List Oper→List Nat→List Nat
 | [],acc=>acc| o::os,acc=>dz os (acc++[mX acc o])
def AT(b:List Nat)(i j:Nat):Bool:=(b.getD j 0).testBit i
def ml(aos:List aP):List Nat:=(List.range aos.length).filter fun j=>match aos[j]? with
 | some y=>decide (cls y.op=.w)| none=>ag
def phase(aos:List aP)(i:Nat):Nat:=i+((aos.drop i).takeWhile fun y=>decide (cls y.op≠.w)).length
def Ci(b:List Nat)(aos:List aP)(i e:Nat):Bool:=
 (ml aos).all fun j=>if j<e then !AT b i j else !AT b j i
def aiG(b:List Nat)(aos:List aP)(j:Nat):Bool:=match aos[j]? with
 | some y=>(match y.op with | .alloc _=>ae | _=>ag)&&(ml aos).any fun e=>decide (e<j)&&!AT b e j
 | none=>ag
def kQ(b:List Nat)(aos:List aP):Nat:=((List.range aos.length).find? (aiG b aos)).getD aos.length
def F2(b:List Nat)(aos:List aP)(j:Nat):Bool:=match aos[j]? with
 | some y=>y.g.isNone&&(match y.op with | .alloc _=>ae | _=>ag)&&(match y.dst with
  | some p=>(List.range aos.length).all fun i=>match aos[i]? with
   | some z=>!z.rd.contains p||(ml aos).all fun e=>!decide (e<j)||AT b e i
   | none=>ae
  | none=>ag)
 | none=>ae
def acK(ops:List Oper)(aos:List aP)(d:List (Nat × Nat)):Bool:=
 let b:=dz ops []
 let n:=aos.length
 ((ops.zip (List.range n)).all fun o=>o.1.after.toList.all fun e=>!Region.binds .any e||decide (e.on<o.2)) &&
 ((List.range n).all fun j=>(List.range j).all fun i=>AT b i j||(match aos[i]?,aos[j]? with
  | some x,aa y=>x.apart y&&(vk x y||(decide (j=kQ b aos)&&decide (cls x.op=.w)))
  | _,_=>ag)) &&
 F2 b aos (kQ b aos) &&
 ((List.range n).all fun i=>match aos[i]? with
  | some x=>if cls x.op=.r then(ml aos++[n]).all fun e=>e == phase aos i||!Ci b aos i e||d.contains (i,e)else ae
  | none=>ag)
variable(Q:Program)(σ:Nat→FuncId)
def lq(n:Nat)(ops:Array Oper)(o:Oper)(a:aP):Bool:=
 dP Q σ o a.op &&
 (match o.dst,a.dst with | some d,aa p=>p.toNat == d&&decide (d<n) | none,ab=>ae | _,_=>ag) &&
 (match o.guard,a.g with
  | some (j,w),aa (p,w')=>w == w'&&(match (ops[j]?).bind (·.dst)with | some d=>p.toNat == d&&decide (d<n) | none=>ag)
  | none,ab=>ae
  | _,_=>ag)
def kg:aE→Bool
 | .seq a b=>kg a&&kg b| .bad=>ag| _=>ae
def bS(n:Nat):Code→aE→Bool
 | _,.bad=>ae| .skip,.skip=>ae| .region _ ops g,.region aos j=>fk (lq Q σ n ops) ops.toList aos&&(!g||acK ops.toList aos j)| .seq a b,.seq a' d=>bS n a a'&&bS n b d| .cond c a b,.cond u a' d=>mA σ u c&&bS n a a'&&bS n b d| .block i a,.block m a'=>i == m&&bS n a a'| .loop a,.loop a'=>bS n a a'| .rangeFunc f ps a b,.fL v s a' d=>mA σ v f&&fk (fun p (q:P)=>q.toNat == p&&decide (p<n)) ps.toList s&&bS n a a'&&bS n b d
 | .exit i,.exit m=>i == m| .scope a,.scope a'=>bS n a a'&&kg a'| .label l,.label l'=>l == l'| .goto l,.goto l'=>l == l'| .ret,.ret=>ae| _,_=>ag
def xF(n:Nat):ResultVar→gG→Bool
 | .tmp t,.tmp p=>p.toNat == t&&decide (t<n)| .cell t b,.cell p k=>p.toNat == t&&decide (t<n)&&xa Q b k| _,_=>ag
def yW(f:Func)(a:aL):Bool:=
 f.name != "runtime.NumGoroutine" &&
 (match f.body with | some b=>bS Q σ f.ntmps b a.body | none=>ag) &&
 fk (xF Q f.ntmps) f.results.toList a.results &&
 decide (a.ps.map P.toNat=List.range a.ps.length)
end
section
def A2{α β:Type}(R:α→β→Prop)(xs:List α)(ys:List β):Prop:=
 xs.length=ys.length∧∀(i:Nat) x y,xs[i]?=aa x→ys[i]?=aa y→R x y
section A2
variable{α β:Type}{R S:α→β→Prop}{xs xs':List α}{ys ys':List β}
theorem A2.len(h:A2 R xs ys):xs.length=ys.length:=h.1
theorem A2.nil:A2 R [] []:=⟨rfl,by simp⟩
theorem A2.mono(h:A2 R xs ys)(d:∀ x y,x ∈ xs→R x y→S x y):A2 S xs ys:=
 ⟨h.1,fun i x y b hy=>d x y (List.mem_of_getElem? b) (h.2 i x y b hy)⟩
theorem A2.get(h:A2 R xs ys){i:Nat}{x:α}(b:xs[i]?=aa x):∃ y,ys[i]?=aa y∧R x y:=by
 have hi:i<xs.length:=(atu.1 b).1;have hy:i<ys.length:=h.1▸hi;exact⟨ys[i],asZ hy,h.2 i x _ b (asZ hy)⟩
theorem A2.cons{x:α}{y:β}(j:R x y)(h:A2 R xs ys):A2 R (x::xs) (y::ys):=
 ⟨by simp [h.1],fun i a b d g=>by
  cases i with
  | zero=>simp at d g;subst d;subst g;exact j
  | succ i=>simp at d g;exact h.2 i a b d g⟩
theorem A2.of_cons{x:α}{y:β}(h:A2 R (x::xs) (y::ys)):R x y∧A2 R xs ys:=
 ⟨h.2 0 x y rfl rfl,by simpa using h.1,fun i a b d g=>h.2 (i+1) a b (by simpa using d) (by simpa using g)⟩
theorem A2.append(h:A2 R xs ys)(j:A2 R xs' ys'):A2 R (xs++xs') (ys++ys'):=
 ⟨by simp [h.1,j.1],fun i a b d g=>by
  by_cases hi:i<xs.length
  ·rw [anc hi]at d;rw [anc (h.1▸hi)]at g;exact h.2 i a b d g
  ·rw [atZ (by omega)]at d;rw [atZ (by have:=h.1;omega),←h.1]at g;exact j.2 _ a b d g⟩
theorem A2.take(h:A2 R xs ys)(n:Nat):A2 R (xs.take n) (ys.take n):=
 ⟨by simp [h.1],fun i a b d g=>by
  rw [auD]at d g;split at d
  ·rename_i hi;simp only [hi,if_true]at g;exact h.2 i a b d g
  ·simp at d⟩
theorem A2.drop(h:A2 R xs ys)(n:Nat):A2 R (xs.drop n) (ys.drop n):=
 ⟨by simp [h.1],fun i a b d g=>by
  rw [auj]at d g;exact h.2 _ a b d g⟩
theorem A2.map{l:Type}{g:l→α}{zs:List l}(h:A2 (fun z y=>R (g z) y) zs ys):A2 R (zs.map g) ys:=
 ⟨by simpa using h.1,fun i a b d m=>by
  rw [auM]at d;cases j:zs[i]? with
  | none=>rw [j]at d;simp at d
  | some z=>rw [j]at d;simp at d;subst d;exact h.2 i z b j m⟩
theorem A2.kI(h:A2 R xs ys)(b:∀ x y,R x y→S x y):A2 S xs ys:=h.mono fun x y _=>b x y
end A2
inductive cT(σ:Nat→FuncId)(F:Nat→Nat→Prop)(w:World):FC→Value→Prop
 | bool (b:Bool):cT σ F w (.bool b) (.bool b)
 | int (k:IntKind) (n:Int):cT σ F w (.int k n) (.int k n)
 | str (s:ByteArray):cT σ F w (.str s) (.string s)
 | ob:cT σ F w .ob (.pointer ab)
 | aw:cT σ F w .aw (.slice ab 0 0)
 | es (a:Addr):cT σ F w .es (.slice (aa a) 0 0)
 | iX:cT σ F w .iX .nilFunc
 | mF:cT σ F w .mF .nilIface
 | xI:cT σ F w .xI (.map ab)
 | fp (cs:List FC) (off c o:Nat) (us:List Value) (hl:us.length=cs.length) (hF:∀ i,i<cs.length→F c (o+i))
   (hc:∀(i:Nat) u,us[i]?=aa u→w.cell? ⟨c,o+i,ab⟩=aa u) (hr:∀(i:Nat) x u,cs[i]?=aa x→us[i]?=aa u→cT σ F w x u) :
   cT σ F w (.fp cs off) (.pointer (aa ⟨c,o+off,ab⟩))
 | fs (cs:List FC) (l c o cap:Nat) (us:List Value) (D7:l≤cap) (hl:us.length=cs.length) (hF:∀ i,i<cs.length→F c (o+i))
   (hc:∀(i:Nat) u,us[i]?=aa u→w.cell? ⟨c,o+i,ab⟩=aa u) (hr:∀(i:Nat) x u,cs[i]?=aa x→us[i]?=aa u→cT σ F w x u) :
   cT σ F w (.fs cs l) (.slice (aa ⟨c,o,ab⟩) l cap)
 | fs0 (a:Addr) (cap:Nat):cT σ F w (.fs [] 0) (.slice (aa a) 0 cap)
 | fn (f:Nat) (Pe:List FC) (us:List Value) (hl:us.length=Pe.length) (hr:∀(i:Nat) x u,Pe[i]?=aa x→us[i]?=aa u→cT σ F w x u) :
   cT σ F w (.fn f Pe) (.func (.func (σ f)) #[] us.toArray)
theorem cT.mono{σ:Nat→FuncId}{F q:Nat→Nat→Prop}{w w':World}(s:∀ c i,F c i→q c i)
  (y:∀ c i,F c i→w'.cell? ⟨c,i,ab⟩=w.cell? ⟨c,i,ab⟩) {x:FC} {v:Value} (h:cT σ F w x v):cT σ q w' x v:=by
 induction h with
 | fp cs off c o us d b hc hr m=>
  refine .fp cs off c o us d (fun i hi=>s _ _ (b i hi)) (fun i u hu=>?_) m;rw [y c (o+i) (b i (by rw [←d];exact(atu.1 hu).1))];exact hc i u hu
 | fs cs l c o cap us j d b hc hr m=>
  refine .fs cs l c o cap us j d (fun i hi=>s _ _ (b i hi)) (fun i u hu=>?_) m;rw [y c (o+i) (b i (by rw [←d];exact(atu.1 hu).1))];exact hc i u hu
 | fn f g us d hr m=>exact .fn f g us d m| _=>constructor
theorem cT.one{σ:Nat→FuncId}{F:Nat→Nat→Prop}{w:World}{x:FC}{v:Value}(h:cT σ F w x v):v.oneCell'=ae:=by
 cases h<;>rfl
structure Loc where
 c:Nat
 cap:Nat
structure Wd where
 cB:Nat→Option Loc
 F:Nat→Nat→Prop
 H:aj
 w:World
 B:Nat
variable(σ:Nat→FuncId)
def fj(X:Wd):C→Value→Prop
 | .f x,v=>cT σ X.F X.w x v
 | .ptr b off ep,v=>∃ L,X.cB b=aa L∧match X.H[b]? with
  | some (.box _ _)=>v=.pointer (aa ⟨L.c,off,ab⟩)| some (.b5 _ _ _ e .loc)=>ep≤e∧(ep=e→v=.pointer (aa ⟨L.c,off,ab⟩))∧∃ a,v=.pointer (aa a)| _=>False
 | .sl b o l cap ep sz,v=>match X.H[b]? with
  | some (.box _ _)=>∃ L,X.cB b=aa L∧l≤cap∧v=.slice (aa ⟨L.c,o,ab⟩) l cap
  | some (.b5 s _ _ e u)=>ep≤e∧(ep=e→sz=s→match u with
    | .loc=>∃ L,X.cB b=aa L∧∃ k,o=k*s∧k+l≤L.cap∧v=.slice (aa ⟨L.c,o,ab⟩) l (L.cap-k)| .nil=>o=0∧l=0∧v=.slice ab 0 0
    | .es=>o=0∧l=0∧∃ a,v=.slice (aa a) 0 0)∧∃ a n c,v=.slice a n c
  | _=>False
 | .cl _ _,_=>False| .yl b,v=>∃ L,X.cB b=aa L∧(∃ f t p a g s q d,X.H[b]?=aa (.lp f t p a g s q d))∧v=.func (.yield L.c) #[] #[]| .mp b,v=>∃ L,X.cB b=aa L∧(∃ j,X.H[b]?=aa (.map j))∧v=.map (aa L.c)| .it b,v=>∃ L,X.cB b=aa L∧(∃ s p,X.H[b]?=aa (.it s p))∧v=.pointer (aa ⟨L.c,0,ab⟩)| .mi b,v=>∃ L,X.cB b=aa L∧(∃ m s d,X.H[b]?=aa (.xn m s d))∧v=.pointer (aa ⟨L.c,0,ab⟩)| .bm _ _,_=>False
def CR(X:Wd):C→Value→Prop
 | .cl f b,v=>∃ us,v=.func (.func (σ f)) #[] us.toArray∧A2 (fj σ X) b us| .bm f first,v=>∃ us,v=.func (.func (σ f)) us.toArray #[]∧A2 (fj σ X) first us
 | x,v=>fj σ X x v
theorem fj.one{X:Wd}{x:C}{v:Value}(h:fj σ X x v):v.oneCell'=ae:=by
 cases x with
 | f x=>exact cT.one h
 | ptr b off ep=>
  obtain⟨L,_,h⟩:=h;split at h
  ·subst h;rfl
  ·obtain⟨_,_,a,rfl⟩:=h;rfl
  ·exact h.elim
 | sl b o l cap ep sz=>
  simp only [fj]at h;split at h
  ·obtain⟨L,_,_,rfl⟩:=h;rfl
  ·obtain⟨_,_,a,n,c,rfl⟩:=h;rfl
  ·exact h.elim
 | cl f d=>exact h.elim| yl b=>obtain⟨L,_,_,rfl⟩:=h;rfl
 | mp b=>obtain⟨L,_,_,rfl⟩:=h;rfl
 | it b=>obtain⟨L,_,_,rfl⟩:=h;rfl
 | mi b=>obtain⟨L,_,_,rfl⟩:=h;rfl
 | bm f first=>exact h.elim
theorem CR.one{X:Wd}{x:C}{v:Value}(h:CR σ X x v):v.oneCell'=ae:=by
 cases x with
 | cl f j=>obtain⟨us,rfl,_⟩:=h;rfl
 | bm f first=>obtain⟨us,rfl,_⟩:=h;rfl
 | mi b=>exact fj.one σ (x:=.mi b) h| f y=>exact fj.one σ (x:=.f y) h| ptr a b c=>exact fj.one σ (x:=.ptr a b c) h| sl a b c d e g=>exact fj.one σ (x:=.sl a b c d e g) h| yl b=>exact fj.one σ (x:=.yl b) h| mp b=>exact fj.one σ (x:=.mp b) h| it b=>exact fj.one σ (x:=.it b) h
theorem CR.of1{X:Wd}{x:C}{v:Value}(h:fj σ X x v):CR σ X x v:=by
 cases x with
 | cl f b=>exact h.elim| bm f first=>exact h.elim
 | _=>exact h
def hZ(X:Wd):V→Value→Prop
 | .top,_=>True| .c x,v=>CR σ X x v| .a xs,v=>∃ us,v=.agg us.toArray∧A2 (CR σ X) xs us| .t _,_=>False
def VR(X:Wd):V→Value→Prop
 | .t b,v=>∃ us,v=.tuple us.toArray∧A2 (hZ σ X) b us| x,v=>hZ σ X x v
theorem VR.of1{X:Wd}{x:V}{v:Value}(h:hZ σ X x v):VR σ X x v:=by
 cases x with
 | t b=>exact h.elim| _=>exact h
def rowAt(w:World)(c:Nat)(us:List Value):Prop:=
 ∃ e b,w.heap[c]?=aa (.cells us.toArray e b)∧∀ i,i≤us.length→¬(b.1≤i∧i<b.2)
def mn(X X':Wd)(b:Nat):Prop:=
 ∀ bq,X.H[b]?=aa bq→∃ blk',X'.H[b]?=aa blk'∧match bq,blk' with
  | .box _ _,.box _ _=>∀ L,X.cB b=aa L→X'.cB b=aa L| .b5 s _ _ e y,.b5 s' _ _ j g=>s=s'∧((e=j∧y=g∧∀ L,X.cB b=aa L→X'.cB b=aa L)∨(e<j∧g=.loc∧∃ L,X'.cB b=aa L))| .map _,.map _=>∀ L,X.cB b=aa L→X'.cB b=aa L| .it _ _,.it _ _=>∀ L,X.cB b=aa L→X'.cB b=aa L| .eZ _,.eZ _=>∀ L,X.cB b=aa L→X'.cB b=aa L| .xn m s _,.xn v s' _=>(m=v∧s=s')∧∀ L,X.cB b=aa L→X'.cB b=aa L| .lp f t p a c _ _ d,.lp u z x a' l _ _ q=>(f=u∧t=z∧p=x∧a=a'∧c=l∧d=q)∧∀ L,X.cB b=aa L→X'.cB b=aa L| _,_=>False
structure Ext(N:Nat)(X X':Wd):Prop where
 B:X'.B=X.B
 F:∀ c i,X.F c i→X'.F c i
 pz:∀ c i,X'.F c i→X.F c i∨X.w.heap.size≤c∨∃ b L,X.cB b=aa L∧L.c=c
 fw:∀ c i,X.F c i→X'.w.cell? ⟨c,i,ab⟩=X.w.cell? ⟨c,i,ab⟩
 cM:∀ b,b<N→mn X X' b
 yT:∀ b L,X'.cB b=aa L→(∃ b0 L0,X.cB b0=aa L0∧L0.c=L.c)∨X.w.heap.size≤L.c
 size:X.w.heap.size≤X'.w.heap.size
 os:X'.w.os=X.w.os
 tape:X'.w.tape=X.w.tape
 output:X'.w.output=X.w.output
 frame:∀ k,k<X.w.heap.size→(∀ b L,X.cB b=aa L→L.c≠k)→X'.w.heap[k]?=X.w.heap[k]?
structure py(N:Nat)(X X':Wd):Prop where
 F:∀ c i,X.F c i→X'.F c i
 fw:∀ c i,X.F c i→X'.w.cell? ⟨c,i,ab⟩=X.w.cell? ⟨c,i,ab⟩
 cM:∀ b,b<N→mn X X' b
theorem Ext.W{N:Nat}{X X':Wd}(h:Ext N X X'):py N X X':=⟨h.F,h.fw,h.cM⟩
theorem mn.refl(X:Wd)(b:Nat):mn X X b:=fun bq h=>⟨bq,h,by cases bq<;>simp⟩
theorem mn.trans{X Y Z:Wd}{b:Nat}(h:mn X Y b)(k:mn Y Z b):mn X Z b:=by
 intro bq s;obtain⟨blk',m,h1⟩:=h bq s;obtain⟨g,j,h2⟩:=k blk' m;refine⟨g,j,?_⟩;cases bq<;>cases blk'<;>simp only at h1<;>cases g<;>simp only at h2 ⊢
 case box=>exact fun L d=>h2 L (h1 L d)
 case map=>exact fun L d=>h2 L (h1 L d)
 case it=>exact fun L d=>h2 L (h1 L d)
 case eZ=>exact fun L d=>h2 L (h1 L d)
 case xn=>
  obtain⟨⟨rfl,rfl⟩,h1⟩:=h1;obtain⟨⟨rfl,rfl⟩,h2⟩:=h2;exact⟨⟨rfl,rfl⟩,fun L d=>h2 L (h1 L d)⟩
 case lp=>
  obtain⟨⟨rfl,rfl,rfl,rfl,rfl,rfl⟩,h1⟩:=h1;obtain⟨⟨rfl,rfl,rfl,rfl,rfl,rfl⟩,h2⟩:=h2;exact⟨⟨rfl,rfl,rfl,rfl,rfl,rfl⟩,fun L d=>h2 L (h1 L d)⟩
 case b5=>
  obtain⟨rfl,h1⟩:=h1;obtain⟨rfl,h2⟩:=h2;refine⟨rfl,?_⟩;rcases h1 with⟨rfl,rfl,h1⟩ | ⟨h1,rfl,L,d⟩
  ·rcases h2 with⟨rfl,rfl,h2⟩ | ⟨h2,rfl,L,d⟩
   ·exact .inl ⟨rfl,rfl,fun L d=>h2 L (h1 L d)⟩
   ·exact .inr ⟨h2,rfl,L,d⟩
  ·rcases h2 with⟨rfl,rfl,h2⟩ | ⟨h2,rfl,q,l⟩
   ·exact .inr ⟨h1,rfl,L,h2 L d⟩
   ·exact .inr ⟨by omega,rfl,q,l⟩
theorem Ext.refl(N:Nat)(X:Wd):Ext N X X:=
 ⟨rfl,fun _ _ h=>h,fun _ _ h=>.inl h,fun _ _ _=>rfl,fun b _=>mn.refl X b,fun b L h=>.inl ⟨b,L,h,rfl⟩,at3 _,rfl,rfl,rfl,fun _ _ _=>rfl⟩
theorem Ext.trans{N:Nat}{X Y Z:Wd}(h:Ext N X Y)(k:Ext N Y Z):Ext N X Z where
 B:=k.B.trans h.B
 F:=fun c i g=>k.F c i (h.F c i g)
 pz:=fun c i g=>by
  rcases k.pz c i g with h1 | h1 | ⟨b,L,d,rfl⟩
  ·exact h.pz c i h1
  ·exact .inr (.inl (aum h.size h1))
  ·rcases h.yT b L d with⟨b0,l,h0,h1⟩ | h1
   ·exact .inr (.inr ⟨b0,l,h0,h1⟩)
   ·exact .inr (.inl h1)
 fw:=fun c i g=>(k.fw c i (h.F c i g)).trans (h.fw c i g)
 cM:=fun b d=>(h.cM b d).trans (k.cM b d)
 yT:=fun b L d=>by
  rcases k.yT b L d with⟨b0,l,h0,h1⟩ | h1
  ·rcases h.yT b0 l h0 with⟨b1,s,h2,h3⟩ | h2
   ·exact .inl ⟨b1,s,h2,h3.trans h1⟩
   ·exact .inr (h1▸h2)
  ·exact .inr (aum h.size h1)
 size:=aum h.size k.size
 os:=k.os.trans h.os
 tape:=k.tape.trans h.tape
 output:=k.output.trans h.output
 frame:=fun j m q=>by
  rw [k.frame j (auE m h.size) (fun b L d hc=>?_)]
  ·exact h.frame j m q
  ·rcases h.yT b L d with⟨b0,l,h0,h1⟩ | h1
   ·exact q b0 l h0 (h1.trans hc)
   ·omega
theorem Ext.mono{N M:Nat}{X Y:Wd}(h:Ext N X Y)(g:M≤N):Ext M X Y:=
 {h with cM:=fun b d=>h.cM b (auE d g) }
theorem fj.under{X:Wd}{x:C}{v:Value}(h:fj σ X x v):x.eV X.H.length=ae:=by
 have lt:∀(b:Nat) bq,X.H[b]?=aa bq→b<X.H.length:=fun b bq g=>(atu.1 g).1;cases x with
 | f x=>rfl
 | ptr b off ep=>
  obtain⟨L,_,h⟩:=h;split at h
  ·rename_i g;simpa [C.eV]using lt _ _ g
  ·rename_i g;simpa [C.eV]using lt _ _ g
  ·exact h.elim
 | sl b o l cap ep sz=>
  simp only [fj]at h;split at h
  ·rename_i g;simpa [C.eV]using lt _ _ g
  ·rename_i g;simpa [C.eV]using lt _ _ g
  ·exact h.elim
 | cl f j=>exact h.elim| yl b=>obtain⟨L,_,⟨f,t,p,a,u,s,q,d,g⟩,rfl⟩:=h;simpa [C.eV]using lt _ _ g
 | mp b=>obtain⟨L,_,⟨es,g⟩,rfl⟩:=h;simpa [C.eV]using lt _ _ g
 | it b=>obtain⟨L,_,⟨s,p,g⟩,rfl⟩:=h;simpa [C.eV]using lt _ _ g
 | mi b=>obtain⟨L,_,⟨m,s,d,g⟩,rfl⟩:=h;simpa [C.eV]using lt _ _ g
 | bm f first=>exact h.elim
theorem fj.pL{N:Nat}{X X':Wd}(y:py N X X'){x:C}{v:Value}(hu:x.eV N=ae)(h:fj σ X x v):fj σ X' x v:=by
 cases x with
 | f x=>exact cT.mono y.F y.fw h
 | ptr b off ep=>
  obtain⟨L,u,h⟩:=h;have A:=y.cM b (by simpa [C.eV]using hu);split at h
  ·rename_i cs fl j;obtain⟨blk',g,h1⟩:=A _ j;cases blk'<;>simp only at h1;exact⟨L,h1 L u,by rw [g];exact h⟩
  ·rename_i s cs fl e j;obtain⟨blk',g,h1⟩:=A _ j;cases blk'<;>simp only at h1;obtain⟨rfl,⟨rfl,rfl,h2⟩ | ⟨h2,rfl,B,z⟩⟩:=h1
   ·exact⟨L,h2 L u,by rw [g];exact h⟩
   ·exact⟨B,z,by rw [g];exact⟨by omega,fun h3=>by omega,h.2.2⟩⟩
  ·exact h.elim
 | sl b o l cap ep sz=>
  simp only [fj]at h ⊢;have A:=y.cM b (by simpa [C.eV]using hu);split at h
  ·rename_i cs fl j;obtain⟨L,u,h⟩:=h;obtain⟨blk',g,h1⟩:=A _ j;cases blk'<;>simp only at h1;rw [g];exact⟨L,h1 L u,h⟩
  ·rename_i s cs fl e st j;obtain⟨blk',g,h1⟩:=A _ j;cases blk'<;>simp only at h1;rw [g];obtain⟨rfl,⟨rfl,rfl,h2⟩ | ⟨h2,rfl,B,z⟩⟩:=h1
   ·refine⟨h.1,fun h3 h4=>?_,h.2.2⟩;have h5:=h.2.1 h3 h4;cases st with
    | loc=>obtain⟨L,u,h6⟩:=h5;exact⟨L,h2 L u,h6⟩
    | nil=>exact h5| es=>exact h5
   ·exact⟨by omega,fun h3=>by omega,h.2.2⟩
  ·exact h.elim
 | cl f E=>exact h.elim
 | yl b=>
  obtain⟨L,u,⟨f,t,p,a,F,s,q,d,j⟩,rfl⟩:=h;obtain⟨blk',g,h1⟩:=y.cM b (by simpa [C.eV]using hu) _ j;cases blk'<;>simp only at h1;exact⟨L,h1.2 L u,⟨_,_,_,_,_,_,_,_,g⟩,rfl⟩
 | mp b=>
  obtain⟨L,u,⟨es,j⟩,rfl⟩:=h;obtain⟨blk',g,h1⟩:=y.cM b (by simpa [C.eV]using hu) _ j;cases blk'<;>simp only at h1;exact⟨L,h1 L u,⟨_,g⟩,rfl⟩
 | it b=>
  obtain⟨L,u,⟨s,p,j⟩,rfl⟩:=h;obtain⟨blk',g,h1⟩:=y.cM b (by simpa [C.eV]using hu) _ j;cases blk'<;>simp only at h1;exact⟨L,h1 L u,⟨_,_,g⟩,rfl⟩
 | mi b=>
  obtain⟨L,u,⟨m,s,d,j⟩,rfl⟩:=h;obtain⟨blk',g,h1⟩:=y.cM b (by simpa [C.eV]using hu) _ j;cases blk'<;>simp only at h1;exact⟨L,h1.2 L u,⟨_,_,_,g⟩,rfl⟩
 | bm f first=>exact h.elim
theorem CR.pL{N:Nat}{X X':Wd}(j:py N X X'){x:C}{v:Value}(hu:x.under N=ae)(h:CR σ X x v):CR σ X' x v:=by
 cases x with
 | cl f m=>
  obtain⟨us,rfl,h⟩:=h;refine⟨us,rfl,h.mono fun y u hy l=>fj.pL σ j ?_ l⟩;exact aun.1 hu y hy
 | bm f first=>
  obtain⟨us,rfl,h⟩:=h;refine⟨us,rfl,h.mono fun y u hy l=>fj.pL σ j ?_ l⟩;exact aun.1 hu y hy
 | mi b=>exact fj.pL σ j (x:=.mi b) hu h| f y=>exact fj.pL σ j (x:=.f y) hu h| ptr a b c=>exact fj.pL σ j (x:=.ptr a b c) hu h| sl a b c d e g=>exact fj.pL σ j (x:=.sl a b c d e g) hu h| yl b=>exact fj.pL σ j (x:=.yl b) hu h| mp b=>exact fj.pL σ j (x:=.mp b) hu h| it b=>exact fj.pL σ j (x:=.it b) hu h
end
section
variable(Q:Program)(σ:Nat→FuncId)
theorem CR.under{X:Wd}{x:C}{v:Value}(h:CR σ X x v):x.under X.H.length=ae:=by
 cases x with
 | cl f j=>
  obtain⟨us,rfl,h⟩:=h;simp only [C.under,aun];intro y hy;obtain⟨i,hi⟩:=auV hy;obtain⟨u,_,hu⟩:=h.get hi;exact fj.under σ hu
 | bm f j=>
  obtain⟨us,rfl,h⟩:=h;simp only [C.under,aun];intro y hy;obtain⟨i,hi⟩:=auV hy;obtain⟨u,_,hu⟩:=h.get hi;exact fj.under σ hu
 | mi b=>exact fj.under σ (x:=.mi b) h| f y=>rfl| ptr a b c=>exact fj.under σ (x:=.ptr a b c) h| sl a b c d e g=>exact fj.under σ (x:=.sl a b c d e g) h| yl b=>exact fj.under σ (x:=.yl b) h| mp b=>exact fj.under σ (x:=.mp b) h| it b=>exact fj.under σ (x:=.it b) h
theorem CR.dY{X X':Wd}(b:py X.H.length X X'){x:C}{v:Value}(h:CR σ X x v):CR σ X' x v:=CR.pL σ b (CR.under σ h) h
theorem A2.dY{X X':Wd}(b:py X.H.length X X'){xs:List C}{us:List Value}(h:A2 (CR σ X) xs us):A2 (CR σ X') xs us:=
 h.kI fun _ _ h=>CR.dY σ b h
theorem hZ.dY{X X':Wd}(b:py X.H.length X X'){x:V}{v:Value}(h:hZ σ X x v):hZ σ X' x v:=by
 cases x with
 | top=>trivial| c x=>exact CR.dY σ b h| a xs=>obtain⟨us,rfl,h⟩:=h;exact⟨us,rfl,A2.dY σ b h⟩
 | t d=>exact h.elim
theorem VR.dY{X X':Wd}(b:py X.H.length X X'){x:V}{v:Value}(h:VR σ X x v):VR σ X' x v:=by
 cases x with
 | t d=>obtain⟨us,rfl,h⟩:=h;exact⟨us,rfl,h.kI fun _ _ h=>hZ.dY σ b h⟩
 | top=>trivial| c x=>exact hZ.dY σ (x:=.c x) b h| a xs=>exact hZ.dY σ (x:=.a xs) b h
def RR(X:Wd)(aB:T)(tmps:Array Value):Prop:=∀ p,VR σ X (aB.get p) (tmps.getD p.toNat undef)
theorem RR.dY{X X':Wd}(b:py X.H.length X X'){aB:T}{tmps:Array Value}(h:RR σ X aB tmps):RR σ X' aB tmps:=fun p=>VR.dY σ b (h p)
theorem CR.ext'{X X':Wd}(b:Ext X.H.length X X'){x:C}{v:Value}(h:CR σ X x v):CR σ X' x v:=CR.dY σ b.W h
theorem A2.ext'{X X':Wd}(b:Ext X.H.length X X'){xs:List C}{us:List Value}(h:A2 (CR σ X) xs us):A2 (CR σ X') xs us:=A2.dY σ b.W h
theorem hZ.ext'{X X':Wd}(b:Ext X.H.length X X'){x:V}{v:Value}(h:hZ σ X x v):hZ σ X' x v:=hZ.dY σ b.W h
theorem VR.ext'{X X':Wd}(b:Ext X.H.length X X'){x:V}{v:Value}(h:VR σ X x v):VR σ X' x v:=VR.dY σ b.W h
theorem RR.ext'{X X':Wd}(b:Ext X.H.length X X'){aB:T}{tmps:Array Value}(h:RR σ X aB tmps):RR σ X' aB tmps:=RR.dY σ b.W h
theorem T.pO(t:T)(p q:P)(v:V):(t.set p v).get q=if p=q then v else t.get q:=by
 induction t generalizing p q with
 | e=>
  induction p generalizing q with
  | h=>cases q<;>simp [T.set,T.get]
  | o p b=>cases q<;>simp [T.set,T.get,b]
  | i p b=>cases q<;>simp [T.set,T.get,b]
 | n l j r d g=>cases p<;>cases q<;>simp [T.set,T.get,d,g]
theorem P.toNat_inj{p q:P}(h:p.toNat=q.toNat):p=q:=by
 induction p generalizing q with
 | h=>cases q<;>simp [P.toNat]at h ⊢
 | o p b=>
  cases q with
  | h=>simp [P.toNat]at h| o q=>simp only [P.toNat]at h;rw [b (q:=q) (by omega)]
  | i q=>simp [P.toNat]at h;omega
 | i p b=>
  cases q with
  | h=>simp [P.toNat]at h| o q=>simp [P.toNat]at h;omega| i q=>simp only [P.toNat]at h;rw [b (q:=q) (by omega)]
theorem RR.set{X:Wd}{aB:T}{tmps:Array Value}(h:RR σ X aB tmps){p:P}(g:p.toNat<tmps.size){v:V}{u:Value}(j:VR σ X v u) :
  RR σ X (aB.set p v) (tmps.setIfInBounds p.toNat u):=by
 intro q;rw [T.pO];by_cases d:p=q
 ·subst d;simpa [g]using j
 ·have b:p.toNat≠q.toNat:=fun e=>d (P.toNat_inj e);simpa [d,Array.getD_eq_getD_getElem?,Array.getElem?_setIfInBounds_ne b]using h q
def ez.of:ez→LoopState
 | .ready=>.ready| .busy=>.busy| .done=>.done| .exhausted=>.exhausted
def yX(n:Nat):Option aE→Option Code→Prop
 | none,ab=>True| some a,aa c=>bS Q σ n c a=ae| _,_=>False
def BR(X:Wd):bz→Loc→Prop
 | .box cs fl,L=>∃ us,rowAt X.w L.c us∧A2 (CR σ X) cs us∧∀ i,fl≤i→¬ X.F L.c i| .b5 sz cs fl _ l,L=>l=.loc∧∃ us rest,rowAt X.w L.c (us++rest)∧A2 (CR σ X) cs us∧(us++rest).length=L.cap*sz∧0<sz∧(∃ n,cs.length=n*sz)∧∀ i,fl≤i→¬ X.F L.c i| .map y,L=>∃ g:List MapEntry,X.w.heap[L.c]?=aa (.map g.toArray g.length)∧A2 (fun e m=>cT σ X.F X.w e.1 m.key∧hZ σ X (mV e.2) m.val) y g∧∀(i:Nat) m,g[i]?=aa m→m.born=i
 | .xn m j done,L=>∃(B:Loc) (z:Array Nat) (l:Nat),X.cB m=aa B∧(∃ y,X.H[m]?=aa (.map y))∧X.w.heap[L.c]?=aa (.mapIter (aa B.c) j z l)∧(if done then z=#[0]∧l=1 else z=#[])| .it s pos,L=>X.w.heap[L.c]?=aa (.stringIter s pos)| .eZ b,L=>X.w.heap[L.c]?=aa (.deferred (if b then aa []else ab))
 | .lp f tmps ps as bd l v d,L=>∃(n:Nat) (us:Array Value) (x:Array Tmp) (as' u:Code) (pend':Option Code) (A:Loc),
   X.w.heap[L.c]?=aa (.loop { state:=l.of,pending:=pend',fn:=σ f,tmps:=us,params:=x,assign:=as',body:=u,defers:=A.c }) ∧
   n≤us.size∧RR σ X tmps us∧fk (fun p (q:P)=>q.toNat == p&&decide (p<n)) x.toList ps=ae∧bS Q σ n as' as=ae∧bS Q σ n u bd=ae∧yX Q σ n v pend'∧X.cB d=aa A∧∃ o,X.H[d]?=aa (.eZ o)
theorem BR.pL{X X':Wd}(g:py X.H.length X X'){bq:bz}{L:Loc}(l:X'.w.heap[L.c]?=X.w.heap[L.c]?)(F:∀ i,X'.F L.c i→X.F L.c i)(h:BR Q σ X bq L):BR Q σ X' bq L:=by
 cases bq with
 | box cs fl=>
  obtain⟨us,⟨e,fr,h1,h2⟩,h3,h4⟩:=h;exact⟨us,⟨e,fr,l.trans h1,h2⟩,A2.dY σ g h3,fun i hi x=>h4 i hi (F i x)⟩
 | b5 sz cs fl ep st=>
  obtain⟨y,us,rest,⟨e,fr,h1,h2⟩,h3,h4,h5,h6,h7⟩:=h;exact⟨y,us,rest,⟨e,fr,l.trans h1,h2⟩,A2.dY σ g h3,h4,h5,h6,fun i hi x=>h7 i hi (F i x)⟩
 | map es=>
  obtain⟨u,h1,h2,h3⟩:=h;exact⟨u,l.trans h1,h2.kI fun _ _ h=>⟨cT.mono g.F g.fw h.1,hZ.dY σ g h.2⟩,h3⟩
 | xn m A done=>
  obtain⟨E,J,st,h1,⟨es,h2⟩,h3,h4⟩:=h;obtain⟨blk',j,h5⟩:=g.cM m (atu.1 h2).1 _ h2;cases blk'<;>simp only at h5;exact⟨E,J,st,h5 E h1,⟨_,j⟩,l.trans h3,h4⟩
 | it s pos=>exact l.trans h| eZ b=>exact l.trans h
 | lp f tmps ps as bd st H d=>
  obtain⟨n,us,z,as',v,pend',B,h1,h2,h3,h4,h5,h6,h7,h8,o,h9⟩:=h;have I:d<X.H.length:=(atu.1 h9).1;obtain⟨blk',j,q⟩:=g.cM d I _ h9;cases blk'<;>simp only at q;exact⟨n,us,z,as',v,pend',B,l.trans h1,h2,RR.dY σ g h3,h4,h5,h6,h7,q B h8,_,j⟩
theorem BR.ext{X X':Wd}(g:Ext X.H.length X X'){bq:bz}{L:Loc}(d:X'.w.heap[L.c]?=X.w.heap[L.c]?)(b:∀ i,X'.F L.c i→X.F L.c i)(h:BR Q σ X bq L):BR Q σ X' bq L:=BR.pL Q σ g.W d b h
structure SR(X:Wd):Prop where
 br:∀ b L,X.cB b=aa L→X.B≤L.c∧L.c<X.w.heap.size∧∃ bq,X.H[b]?=aa bq∧BR Q σ X bq L
 inj:∀ b b' L L',X.cB b=aa L→X.cB b'=aa L'→L.c=L'.c→b=b'
 fb:∀ c i,X.F c i→c<X.w.heap.size
theorem SR.step{X X':Wd}(v:SR Q σ X)(u:Ext X.H.length X X')(b0:Nat)(y:∀ b,b≠b0→X'.H[b]?=X.H[b]?)(d:∀ b,b≠b0→X'.cB b=X.cB b)
  (z:∀ b L,b≠b0→X.cB b=aa L→X'.w.heap[L.c]?=X.w.heap[L.c]?) (x:∀ b L,b≠b0→X.cB b=aa L→∀ i,X'.F L.c i→X.F L.c i)
  (h0:∀ L,X'.cB b0=aa L→X.B≤L.c∧L.c<X'.w.heap.size∧(∃ bq,X'.H[b0]?=aa bq∧BR Q σ X' bq L)∧∀ b l,b≠b0→X.cB b=aa l→l.c≠L.c)
  (s:∀ c i,X'.F c i→c<X'.w.heap.size):SR Q σ X' where
 br:=fun b L g=>by
  rw [u.B];by_cases h:b=b0
  ·subst h;obtain⟨h1,h2,h3,_⟩:=h0 L g;exact⟨h1,h2,h3⟩
  ·rw [d b h]at g;obtain⟨h1,h2,bq,h3,h4⟩:=v.br b L g;exact⟨h1,auE h2 u.size,bq,(y b h).trans h3,BR.ext Q σ u (z b L h g) (x b L h g) h4⟩
 fb:=fun c i h=>s c i h
 inj:=fun b m L l g j hc=>by
  by_cases h:b=b0<;>by_cases q:m=b0
  ·rw [h,q]
  ·subst h;rw [d m q]at j;exact absurd hc.symm ((h0 L g).2.2.2 m l q j)
  ·subst q;rw [d b h]at g;exact absurd hc ((h0 l j).2.2.2 b L h g)
  ·rw [d b h]at g;rw [d m q]at j;exact v.inj b m L l g j hc
end
section
variable{Q:Program}{σ:Nat→FuncId}{X:Wd}
theorem bf{t:TypeId}{d:TypeDesc}(h:Q.underlying t=aa d)(w:World):(underlying t).run Q w=.ok d w:=by
 simp [underlying,h]
theorem dg{t:TypeId}{n:Nat}(h:dA Q t n=ae)(w:World):(Go.sizeOf t).run Q w=.ok n w:=by
 unfold dA at h;cases hi:Q.info? t with
 | none=>simp [hi]at h| some i=>simp [hi]at h;simp [Go.sizeOf,typeInfo,hi,h]
theorem AH{t:TypeId}{n:Nat}(h:nu Q t n=ae)(w:World):∃ i,(typeInfo t).run Q w=.ok i w∧i.bytes=n:=by
 unfold nu at h;cases hi:Q.info? t with
 | none=>simp [hi]at h| some i=>simp [hi]at h;exact⟨i,by simp [typeInfo,hi],h⟩
theorem GF{t:TypeId}{n:Option Nat}(h:xa Q t n=ae)(w:World):(isAgg t).run Q w=.ok n.isSome w∧∀ k,n=aa k→dA Q t k=ae:=by
 unfold xa at h;cases b:Q.underlying t with
 | none=>simp [b]at h
 | some d=>
  cases d<;>cases n<;>simp_all [isAgg,bf b]
theorem ee(c o k:Nat):(⟨c,o,ab⟩:Addr).add k=⟨c,o+k,ab⟩:=by unfold Addr.add;split<;>simp_all
theorem dt{w:World}{c:Nat}{us:List Value}(h:rowAt w c us)(i:Nat):w.cell? ⟨c,i,ab⟩=us[i]?:=by
 obtain⟨e,b,h,_⟩:=h;simp [World.cell?,h]
theorem D4{w:World}{c:Nat}{us:List Value}(h:rowAt w c us){i:Nat}(hi:i<us.length):w.frozen? ⟨c,i,ab⟩=ag:=by
 obtain⟨e,d,h,b⟩:=h;have:=b i (Nat.le_of_lt hi);simp only [World.frozen?,h];simp only [Bool.and_eq_false_iff,decide_eq_false_iff_not];omega
theorem vg(A:SR Q σ X){x:C}{v:Value}(g:CR σ X x v){cs:List C}(h:aG X.H x=aa cs) :
  ∃ c o us,v=.pointer (aa ⟨c,o,ab⟩)∧(∀(i:Nat) u,us[i]?=aa u→X.w.cell? ⟨c,o+i,ab⟩=aa u)∧A2 (CR σ X) cs us:=by
 cases x with
 | ptr b off ep=>
  obtain⟨L,z,g⟩:=g;obtain⟨_,_,bq,q,j⟩:=A.br b L z;simp only [aG,q]at h;rw [q]at g;cases bq with
  | box cs' fl=>
   simp only [At]at h;subst h;subst g;obtain⟨us,l,m,_⟩:=j;exact⟨L.c,off,us.drop off,rfl,fun i u d=>by rw [dt l];rw [auj]at d;exact d,m.drop off⟩
  | b5 s cs' fl e H=>
   cases H<;>simp only at h g
   ·split at h
    ·rename_i E;simp only [At]at h;subst h;obtain⟨_,g,_⟩:=g;have g:=g E;subst g;obtain⟨_,us,rest,l,m,_⟩:=j;refine⟨L.c,off,us.drop off,rfl,fun i u d=>?_,m.drop off⟩;rw [dt l];rw [auj]at d;rw [anc (atu.1 d).1];exact d
    ·simp at h
   all_goals exact g.elim
  | _=>simp at h
 | f x=>
  cases x with
  | fp cs' off=>
   simp only [aG,At]at h;subst h;cases g with
   | fp _ _ c o us F I B l=>
    refine⟨c,o+off,us.drop off,rfl,fun i u d=>?_,A2.map ⟨by simp [F],fun i x u y d=>?_⟩⟩
    ·rw [auj]at d;have:=B _ u d;rwa [show o+(off+i)=o+off+i by omega]at this
    ·rw [auj]at y d;exact l _ x u y d
  | _=>simp [aG]at h
 | _=>simp [aG]at h
theorem Da{t:TypeId}{n:Option Nat}(z:xa Q t n=ae){c o:Nat}{us:List Value}{cs:List C}{w:World}
  (q:∀(i:Nat) u,us[i]?=aa u→w.cell? ⟨c,o+i,ab⟩=aa u) (g:A2 (CR σ X) cs us) {v:V} (b:aT n cs=aa v) :
  ∃ u,(loadVar t ⟨c,o,ab⟩).run Q w=.ok u w∧VR σ X v u:=by
 obtain⟨m,s⟩:=GF z w;cases n with
 | none=>
  cases cs with
  | nil=>simp [aT]at b
  | cons x cs=>
   simp only [aT,At]at b;subst b;obtain⟨u,A,l⟩:=g.get (i:=0) (x:=x) rfl;have:=q 0 u A;simp only [avD]at this;exact⟨u,by simp [loadVar,m,this],l⟩
 | some n=>
  simp only [aT]at b;split at b
  ·rename_i B;simp only [At]at b;subst b;have y:(us.take n).length=n:=by have:=g.len;simp;omega
   have:=run_loadCells_list (P:=Q) w ⟨c,o,ab⟩ (us.take n) (fun j v d=>by
    rw [ee];rw [auD]at d;split at d
    ·exact q j v d
    ·simp at d)
   rw [y]at this;refine⟨.agg (us.take n).toArray,?_,⟨us.take n,rfl,g.take n⟩⟩;simp [loadVar,m,dg (s n rfl),this]
  ·simp at b
theorem anQ(q:SR Q σ X){t:TypeId}{n:Option Nat}(s:xa Q t n=ae){x:V}{p:Value}(y:VR σ X x p){v:V}(h:aV X.H n x=aa v) :
  ∃ u,(Instr.loadAt t p).run Q X.w=.ok u X.w∧VR σ X v u:=by
 cases x with
 | c x=>
  simp only [aV,aup]at h;obtain⟨cs,b,d⟩:=h;obtain⟨c,o,us,rfl,g,j⟩:=vg q y b;obtain⟨u,l,m⟩:=Da s g j d;exact⟨u,by simp [Instr.loadAt,Instr.sureAddr,l],m⟩
 | _=>simp [aV]at h
end
section
variable{Q:Program}{σ:Nat→FuncId}{X:Wd}
theorem VR.int{k:IntKind}{n:Int}{u:Value}(h:VR σ X (.c (.f (.int k n))) u):u=.int k n:=by cases (h:cT σ X.F X.w (.int k n) u);rfl
theorem VR.bool{b:Bool}{u:Value}(h:VR σ X (.c (.f (.bool b))) u):u=.bool b:=by cases (h:cT σ X.F X.w (.bool b) u);rfl
theorem VR.str{s:ByteArray}{u:Value}(h:VR σ X (.c (.f (.str s))) u):u=.string s:=by cases (h:cT σ X.F X.w (.str s) u);rfl
theorem VR.mkInt(k:IntKind)(n:Int):VR σ X (V.int k n) (.int k n):=cT.int k n
theorem VR.vY(b:Bool):VR σ X (V.bool b) (.bool b):=cT.bool b
theorem VR.mkStr(s:ByteArray):VR σ X (.c (.f (.str s))) (.string s):=cT.str s
theorem eC{α β:Type}{f:α→β→Bool}:∀ {xs:List α} {ys:List β},fk f xs ys=ae→A2 (fun x y=>f x y=ae) xs ys
 | [],[],_=>A2.nil
 | x::xs,y::ys,h=>by
  simp only [fk,atI]at h;exact A2.cons h.1 (eC h.2)
 | [],_::_,h=>by simp [fk]at h
 | _::_,[],h=>by simp [fk]at h
theorem En{F:Nat→Nat→Prop}{w:World}{x:FC}{u:Value}(h:mK1 x u=ae):cT σ F w x u:=by
 unfold mK1 at h;split at h
 ·simp only [beq_iff_eq]at h;subst h;exact .bool _
 ·simp only [atI,decide_eq_true_eq]at h;obtain⟨rfl,rfl⟩:=h;exact .int _ _
 ·simp only [decide_eq_true_eq]at h;subst h;exact .str _
 ·exact .ob
 ·exact .aw
 ·exact .iX
 ·exact .mF
 ·exact .xI
 ·simp at h
theorem aqV{x:V}{u:Value}(h:mK x u=ae):VR σ X x u:=by
 unfold mK at h;split at h
 ·exact En h
 ·refine⟨_,by simp,(eC h).kI fun y w b=>?_⟩;split at b
  ·exact En b
  ·simp at b
 ·trivial
 ·simp at h
theorem bT{a:Act}{aB:T}(b:RR σ X aB a.tmps){x:Arg}{y:Operand}(h:mA σ x y=ae):VR σ X (x.ev aB) (a.eval y):=by
 unfold mA at h;split at h
 ·rename_i p t;simp only [beq_iff_eq]at h;subst h;exact b p
 ·exact aqV h
 ·simp only [beq_iff_eq]at h;subst h;exact cT.fn _ [] [] rfl (by simp)
 ·simp at h
theorem mW{a:Act}{aB:T}(j:RR σ X aB a.tmps){xs:List Arg}{ys:Array Operand}(h:mAs σ xs ys=ae):A2 (VR σ X) (dy aB xs) (ys.map a.eval).toList:=by
 have:=(eC h).kI fun x y b=>bT j b;refine⟨by simpa [dy]using this.len,fun i v u g d=>?_⟩;simp only [dy,auM,at0]at g;simp only [Array.toList_map,auM,at0]at d;obtain⟨x,l,rfl⟩:=g;obtain⟨y,m,rfl⟩:=d;exact this.2 i x y l m
theorem aqW{a:Act}{aB:T}(g:RR σ X aB a.tmps){x:Option Arg}{y:Option Operand}(h:mO σ x y=ae) :
  (x=ab∧y=ab)∨∃ b d,x=aa b∧y=aa d∧VR σ X (b.ev aB) (a.eval d):=by
 unfold mO at h;split at h
 ·exact .inl ⟨rfl,rfl⟩
 ·exact .inr ⟨_,_,rfl,rfl,bT g h⟩
 ·simp at h
theorem ait{op:BinOp}{k:IntKind}{x y:Int}{v:V}(h:nX op k x y=aa v)(w:World) :
  ∃ u,(binOp op 0 (.int k x) (.int k y)).run Q w=.ok u w∧VR σ X v u∧∀ t,binOp op t (.int k x) (.int k y)=binOp op 0 (.int k x) (.int k y):=by
 unfold nX at h;split at h<;>(try split at h)<;>(try simp only [At,reduceCtorEq]at h)<;>(try subst h)
 all_goals first
  | (refine⟨_,?_,VR.mkInt _ _,fun _=>by simp [binOp]⟩;simp [binOp,Op.intArith,Op.intBits];done)
  | (refine⟨_,?_,VR.vY _,fun _=>by simp [binOp]⟩;simp [binOp,Op.intCmp];done)
  | (rename_i b;refine⟨_,?_,VR.mkInt _ _,fun _=>by simp [binOp]⟩;simp [binOp,Op.intDiv,b];done)
theorem aiv{op:BinOp}{x y:ByteArray}{v:V}(h:anb op x y=aa v)(w:World)(t:TypeId) :
  ∃ u,(binOp op t (.string x) (.string y)).run Q w=.ok u w∧VR σ X v u:=by
 unfold anb at h;split at h<;>(try split at h)<;>(try simp only [At,reduceCtorEq]at h)<;>(try subst h)
 all_goals first
  | exact⟨_,by simp [binOp,Op.stringOp],VR.vY _⟩
  | (rename_i b;exact⟨_,by simp only [binOp,Op.stringOp];rw [aY b];rfl,VR.mkStr _⟩)
  | skip
end
section
variable{Q:Program}{σ:Nat→FuncId}{X:Wd}
theorem uf:∀ {d:List CK} {xs ys:List C} {b:Bool},qM d xs ys=aa b→xs.length=d.length∧ys.length=d.length
 | [],[],[],_,_=>⟨rfl,rfl⟩
 | k::d,x::xs,y::ys,b,h=>by
  simp only [qM]at h;split at h
  ·rename_i g;have:=uf g;simp [this]
  ·simp at h
 | [],_::_,_,_,h=>by simp [qM]at h
 | [],[],_::_,_,h=>by simp [qM]at h
 | _::_,[],_,_,h=>by simp [qM]at h
 | _::_,_::_,[],_,h=>by simp [qM]at h
theorem vt:∀ {d g:List CK} {xs ys:List C} {b:Bool},qM (d++g) xs ys=aa b →
  ∃ b1 j,qM d (xs.take d.length) (ys.take d.length)=aa b1∧qM g (xs.drop d.length) (ys.drop d.length)=aa j∧b=(b1&&j)
 | [],g,xs,ys,b,h=>⟨ae,b,rfl,by simpa using h,by simp⟩
 | k::d,g,[],ys,b,h=>by simp [qM]at h
 | k::d,g,x::xs,[],b,h=>by simp [qM]at h
 | k::d,g,x::xs,y::ys,b,h=>by
  simp only [List.cons_append,qM]at h;split at h
  ·rename_i a c q s;simp only [At]at h;obtain⟨b1,j,l,m,rfl⟩:=vt s;refine⟨a&&b1,j,?_,by simpa using m,by rw [←h,Bool.and_assoc]⟩;simp [qM,q,l]
  ·simp at h
def CKv:CK→Value→Value→Bool→Prop
 | .bool,u,v,b=>∃ p q,u=.bool p∧v=.bool q∧b=(p == q)| .int,u,v,b=>∃ j p q,u=.int j p∧v=.int j q∧b=(p == q)| .str,u,v,b=>∃ p q,u=.string p∧v=.string q∧b=(p == q)
theorem ug{k:CK}{x y:C}{b:Bool}(h:PK k x y=aa b){u v:Value}(d:CR σ X x u)(g:CR σ X y v):CKv k u v b:=by
 unfold PK at h;split at h
 ·simp only [At]at h;exact⟨_,_,VR.bool (σ:=σ) (X:=X) d,VR.bool (σ:=σ) (X:=X) g,h.symm⟩
 ·split at h
  ·rename_i j;subst j;simp only [At]at h;exact⟨_,_,_,VR.int (σ:=σ) (X:=X) d,VR.int (σ:=σ) (X:=X) g,h.symm⟩
  ·simp at h
 ·simp only [At]at h;exact⟨_,_,VR.str (σ:=σ) (X:=X) d,VR.str (σ:=σ) (X:=X) g,h.symm⟩
 ·simp at h
theorem CC:∀(d:Nat) (t:TypeId) (S:List CK),iq Q d t=aa S→∀(D:Nat),d≤D→∀(us W:List Value) (off:Nat) (xs ys:List C) (b:Bool) (w:World),
  qM S xs ys=aa b→A2 (CR σ X) xs ((us.drop off).take S.length)→A2 (CR σ X) ys ((W.drop off).take S.length) →
  ∃ a c,(part t us.toArray off).run Q w=.ok a w∧(part t W.toArray off).run Q w=.ok c w∧(Op.equalIn D t a c).run Q w=.ok b w
 | 0,_,_,h,_,_,_,_,_,_,_,_,_,_,_,_=>by simp [iq]at h
 | d+1,t,S,h,0,hD,_,_,_,_,_,_,_,_,_,_=>by omega
 | d+1,t,S,h,D+1,hD,us,W,off,xs,ys,b,w,L,hx,hy=>by
  have hl:=uf L;have m:∀(k:CK),S=[k]→(∀ td,Q.underlying t=aa td→(match td with | .struct _ | .array _ _=>False | _=>True))→(∃ td,Q.underlying t=aa td) →
    ∃ x y u v,xs=[x]∧ys=[y]∧PK k x y=aa b∧CR σ X x u∧CR σ X y v∧(part t us.toArray off).run Q w=.ok u w∧(part t W.toArray off).run Q w=.ok v w:=by
   intro k z a8 g;subst z;obtain⟨td,g⟩:=g;have a8:=a8 td g
   match xs,ys,hl with
   | [x],[y],_=>
    simp only [qM]at L;split at L
    ·rename_i a c ha hc;simp only [At]at hc L;subst hc;simp at L;subst L;obtain⟨u,f_,g_⟩:=hx.get (i:=0) (x:=x) rfl;obtain⟨v,h_,i4⟩:=hy.get (i:=0) (x:=y) rfl;have e1:us[off]?=aa u:=by simpa [auD,auj]using f_
     have e2:W[off]?=aa v:=by simpa [auD,auj]using h_
     have a7:(isAgg t).run Q w=.ok ag w:=by
      cases td<;>simp_all [isAgg,bf g]
     exact⟨x,y,u,v,rfl,rfl,ha,g_,i4,by simp [part,a7,e1],by simp [part,a7,e2]⟩
    ·simp at L
  unfold iq at h;split at h
  ·rename_i g;split at h
   ·simp only [At]at h;obtain⟨x,y,u,v,rfl,rfl,E,Y,Z,M,h4⟩:=m .bool h.symm (fun td s=>by rw [g]at s;cases s;trivial) ⟨_,g⟩;obtain⟨p,q,rfl,rfl,rfl⟩:=ug E Y Z;exact⟨_,_,M,h4,run_equalIn_bool' w D t _ _ g⟩
   ·simp at h
  ·rename_i j g;split at h
   ·simp only [At]at h;obtain⟨x,y,u,v,rfl,rfl,E,Y,Z,M,h4⟩:=m .int h.symm (fun td s=>by rw [g]at s;cases s;trivial) ⟨_,g⟩;obtain⟨j',p,q,rfl,rfl,rfl⟩:=ug E Y Z;exact⟨_,_,M,h4,run_equalIn_int w D t _ _ _ _ g⟩
   ·simp at h
  ·rename_i g;split at h
   ·simp only [At]at h;obtain⟨x,y,u,v,rfl,rfl,E,Y,Z,M,h4⟩:=m .str h.symm (fun td s=>by rw [g]at s;cases s;trivial) ⟨_,g⟩;obtain⟨p,q,rfl,rfl,rfl⟩:=ug E Y Z;exact⟨_,_,M,h4,by rw [run_equalIn_string w D t _ _ g,beq_toListBytes]⟩
   ·simp at h
  ·rename_i fs g;split at h
   ·simp at h
   ·rename_i e_;split at h
    ·rename_i U hf;split at h
     ·rename_i a_;simp only [At]at h;subst h;have K:(isAgg t).run Q w=.ok ae w:=by simp [isAgg,bf g]
      have O:Q.underlying t=aa (.struct (Q.fieldsOf t)):=by simp [Program.fieldsOf,g]
      have d_:Q.fieldsOf t=fs:=by rw [g]at O;simpa using O.symm
      refine⟨.agg ((us.drop off).take U.length).toArray,.agg ((W.drop off).take U.length).toArray,?_,?_,?_⟩
      ·simp [part,K,dg a_,avq]
      ·simp [part,K,dg a_,avq]
      ·rw [run_equalIn_struct w D t _ _ O (by simpa using e_),d_];have key:∀(l:List Field) (k:Nat) (I:List CK) (b2:Bool),iq.pM (iq Q d) k l=aa I→∀(A B:List Value) (F H:List C),
         qM I (F.drop k) (H.drop k)=aa b2→A2 (CR σ X) F A→A2 (CR σ X) H B→(Op.eqFields D A.toArray B.toArray l).run Q w=.ok b2 w:=by
        intro l;induction l with
        | nil=>
         intro k I b2 z A B F H E _ _;simp only [iq.pM,At]at z;subst z;have:=uf E;simp only [List.length_nil,List.length_eq_zero_iff]at this;rw [this.1,this.2]at E;simp only [qM,At]at E;subst E;simp [Op.eqFields]
        | cons f l ih=>
         intro k I b2 z A B F H E b9 b_;simp only [iq.pM]at z;split at z
         ·rename_i N;obtain⟨hn,ho⟩:=N;subst ho;split at z
          ·rename_i J M;split at z
           ·rename_i r hr;simp only [At]at z;subst z;obtain⟨b1,b3,c_,d9,rfl⟩:=vt E;obtain⟨a,c,h5,h6,h7⟩:=CC d f.type J M D (by omega) A B f.offset _ _ b1 w c_ (by have:=(b9.drop f.offset).take J.length;simpa using this) (by have:=(b_.drop f.offset).take J.length;simpa using this);have i5:=ih (f.offset+J.length) r b3 hr A B F H (by simpa [List.drop_drop]using d9) b9 b_;simp only [Op.eqFields,hn,ne_eq,not_false_eq_true,if_true,Sem.run_bind,h5,h6,h7,Result.andThen_ok];cases b1<;>simp [i5]
           ·simp at z
          ·simp at z
         ·simp at z
       exact key fs.toList 0 U b hf _ _ xs ys (by simpa using L) hx hy
     ·simp at h
    ·simp at h
  ·simp at h
def asx:FE→Value→Bool→Prop
 | .ptr,u,b=>∃ a,u=.pointer a∧b=a.isNone| .sl,u,b=>∃ a n c,u=.slice a n c∧b=a.isNone| .fn,u,b=>(u=.nilFunc∧b=ae)∨∃ f p q,u=.func f p q∧b=ag| .ifc,u,b=>u=.nilIface∧b=ae| _,_,_=>False
theorem pW{k:FE}{x:C}{u:Value}(d:CR σ X x u){b:Bool}(h:isNil X.H k x=aa b):asx k u b:=by
 unfold isNil at h;split at h<;>try simp only [At,reduceCtorEq]at h
 ·cases (d:cT σ X.F X.w .ob u);subst h;exact⟨_,rfl,rfl⟩
 ·cases (d:cT σ X.F X.w (.fp _ _) u);subst h;exact⟨_,rfl,rfl⟩
 ·obtain⟨L,_,d⟩:=d;subst h;split at d
  ·subst d;exact⟨_,rfl,rfl⟩
  ·obtain⟨_,_,a,rfl⟩:=d;exact⟨_,rfl,rfl⟩
  ·exact d.elim
 ·cases (d:cT σ X.F X.w .aw u);subst h;exact⟨_,_,_,rfl,rfl⟩
 ·cases (d:cT σ X.F X.w .es u);subst h;exact⟨_,_,_,rfl,rfl⟩
 ·cases (d:cT σ X.F X.w (.fs _ _) u)<;>(subst h;exact⟨_,_,_,rfl,rfl⟩)
 ·rename_i q o l c ep sz;simp only [CR,fj]at d;split at h
  ·rename_i g;rw [g]at d;obtain⟨L,_,_,rfl⟩:=d;simp only [At]at h;subst h;exact⟨_,_,_,rfl,rfl⟩
  ·rename_i s cs fl e m g;rw [g]at d;split at h
   ·rename_i j;have:=d.2.1 j.1 j.2;simp only [At]at h;subst h;cases m with
    | loc=>obtain⟨L,_,k,_,_,rfl⟩:=this;exact⟨_,_,_,rfl,rfl⟩
    | nil=>obtain⟨_,_,rfl⟩:=this;exact⟨_,_,_,rfl,rfl⟩
    | es=>obtain⟨_,_,a,rfl⟩:=this;exact⟨_,_,_,rfl,rfl⟩
   ·simp at h
  ·simp at h
 ·cases (d:cT σ X.F X.w .iX u);subst h;exact .inl ⟨rfl,rfl⟩
 ·cases (d:cT σ X.F X.w (.fn _ _) u);subst h;exact .inr ⟨_,_,_,rfl,rfl⟩
 ·obtain⟨us,rfl,_⟩:=d;subst h;exact .inr ⟨_,_,_,rfl,rfl⟩
 ·obtain⟨us,rfl,_⟩:=d;subst h;exact .inr ⟨_,_,_,rfl,rfl⟩
 ·cases (d:cT σ X.F X.w .mF u);subst h;exact⟨rfl,rfl⟩
theorem CB{d:Nat}{t:TypeId}{b:List CK}(h:iq Q d t=aa b):dA Q t b.length=ae:=by
 cases d with
 | zero=>simp [iq]at h
 | succ d=>
  unfold iq at h;split at h
  ·split at h
   ·simp only [At]at h;subst h;assumption
   ·simp at h
  ·split at h
   ·simp only [At]at h;subst h;assumption
   ·simp at h
  ·split at h
   ·simp only [At]at h;subst h;assumption
   ·simp at h
  ·split at h
   ·simp at h
   ·split at h
    ·split at h
     ·simp only [At]at h;subst h;assumption
     ·simp at h
    ·simp at h
  ·simp at h
theorem abN{t e:TypeId}(b:Q.underlying t=aa (.pointer e))(D:Nat)(a:Option Addr)(w:World):(Op.equalIn (D+1) t (.pointer a) (.pointer ab)).run Q w=.ok a.isNone w:=by
 cases a<;>simp [Op.equalIn,bf b]
theorem aiL{t e:TypeId}(b:Q.underlying t=aa (.slice e))(D:Nat)(a:Option Addr)(n c:Nat)(w:World):(Op.equalIn (D+1) t (.slice a n c) (.slice ab 0 0)).run Q w=.ok a.isNone w:=by
 cases a<;>simp [Op.equalIn,bf b]
theorem aiJ{t:TypeId}{p r:Array TypeId}{v:Bool}(b:Q.underlying t=aa (.func p r v))(D:Nat)(w:World):(Op.equalIn (D+1) t .nilFunc .nilFunc).run Q w=.ok ae w:=by
 simp [Op.equalIn,bf b]
theorem aiI{t:TypeId}{p r:Array TypeId}{v:Bool}(b:Q.underlying t=aa (.func p r v))(D:Nat)(f:Fn)(x y:Array Value)(w:World):(Op.equalIn (D+1) t (.func f x y) .nilFunc).run Q w=.ok ag w:=by
 simp [Op.equalIn,bf b]
theorem aiK{t:TypeId}{d:Array (String × TypeId)}(b:Q.underlying t=aa (.interface d))(D:Nat)(w:World):(Op.equalIn (D+1) t .nilIface .nilIface).run Q w=.ok ae w:=by
 simp [Op.equalIn,bf b]
theorem PW{t:TypeId}{x y:Operand}(b:(sQ x||sQ y)=ae)(op:BinOp)(w:World):(eqGuard op t x y .nilIface .nilIface).run Q w=.ok () w:=by
 simp only [Bool.or_eq_true]at b;rcases b with b | b
 ·cases x<;>simp only [sQ,aub]at b;cases op<;>rfl
 ·cases y<;>simp only [sQ,aub]at b;cases x<;>cases op<;>rfl
theorem anp{k:FE}{t:TypeId}{x y:Operand}(v:mEq Q k t x y=ae){H I:V}{l d:Value}(s:VR σ X H l)(u:VR σ X I d){b:Bool}
  (h:D0 X.H k H I=aa b) (neg:Bool) (w:World) :
  (do eqGuard (if neg then .neq else .eql) t x y l d;binOp (if neg then .neq else .eql) t l d).run Q w=.ok (.bool (if neg then !b else b)) w:=by
 have g:(binOp .eql t l d=do pure (.bool (←Op.equal t l d)))→(binOp .neq t l d=do pure (.bool (!(←Op.equal t l d)))) →
   (∀ op,(eqGuard op t x y l d).run Q w=.ok () w)→(Op.equalIn 10000 t l d).run Q w=.ok b w →
   (do eqGuard (if neg then .neq else .eql) t x y l d;binOp (if neg then .neq else .eql) t l d).run Q w=.ok (.bool (if neg then !b else b)) w:=by
  intro B E z N;cases neg
  ·simp only [aub,if_false,Sem.run_bind,z,Result.andThen_ok,B,Op.equal,Op.maxDepth,N,Sem.run_pure]
  ·simp only [if_true,Sem.run_bind,z,Result.andThen_ok,E,Op.equal,Op.maxDepth,N,Sem.run_pure]
 unfold mEq at v;unfold D0 at h;split at v
 ·rename_i j;split at h<;>try simp only [reduceCtorEq]at *
  obtain⟨p,q,rfl,rfl,rfl⟩:=ug h s u;exact g rfl rfl (fun op=>by cases op<;>rfl) (run_equalIn_bool' w 9999 t _ _ j)
 ·rename_i j;split at h<;>try simp only [reduceCtorEq]at *
  obtain⟨a,rfl,rfl⟩:=pW s h;cases (u:cT σ X.F X.w .ob d);exact g rfl rfl (fun op=>by cases op<;>rfl) (abN j 9999 a w)
 ·rename_i j;split at h<;>try simp only [reduceCtorEq]at *
  obtain⟨a,n,c,rfl,rfl⟩:=pW s h;cases (u:cT σ X.F X.w .aw d);exact g rfl rfl (fun op=>by cases op<;>rfl) (aiL j 9999 a n c w)
 ·rename_i j;split at h<;>try simp only [reduceCtorEq]at *
  cases (u:cT σ X.F X.w .iX d);rcases pW s h with⟨rfl,rfl⟩ | ⟨f,p,q,rfl,rfl⟩
  ·exact g rfl rfl (fun op=>by cases op<;>rfl) (aiJ j 9999 w)
  ·exact g rfl rfl (fun op=>by cases op<;>rfl) (aiI j 9999 f p q w)
 ·rename_i j;split at h<;>try simp only [reduceCtorEq]at *
  cases (u:cT σ X.F X.w .mF d);obtain⟨rfl,rfl⟩:=pW s h;refine g rfl rfl (fun op=>?_) ?_
  ·have M:(sQ x||sQ y)=ae:=v;exact PW M op w
  ·exact aiK j 9999 w
 ·rename_i e F j;obtain⟨xs,ys,rfl,rfl,h⟩:∃ xs ys,H=.a xs∧I=.a ys∧qM F xs ys=aa b:=by
   cases H<;>cases I<;>first | exact⟨_,_,rfl,rfl,h⟩ | simp at h
  simp only [atI,decide_eq_true_eq,Bool.not_eq_true']at v;obtain⟨W,U⟩:=v;obtain⟨us,rfl,O⟩:=s;obtain⟨J,rfl,S⟩:=u;have i:=uf h;have A:=CB W;have m:(isAgg t).run Q w=.ok ae w:=by simp [isAgg,bf j]
  have Y:us.take F.length=us:=at8 (by have:=O.len;omega);have Z:J.take F.length=J:=at8 (by have:=S.len;omega);obtain⟨a,c,B,E,z⟩:=CC 20 t F W 10000 (by omega) us J 0 _ _ b w h (by simpa [Y]using O) (by simpa [Z]using S);have K:a=.agg us.toArray:=by
   simp [part,m,dg A,avq,Y]at B;exact B.symm
  have L:c=.agg J.toArray:=by
   simp [part,m,dg A,avq,Z]at E;exact E.symm
  subst K;subst L;cases neg
  ·simp only [aub,if_false,Sem.run_bind,run_eqGuard_agg w _ t x y _ _ U,Result.andThen_ok,run_eql_struct,z]
  ·simp only [if_true,Sem.run_bind,run_eqGuard_agg w _ t x y _ _ U,Result.andThen_ok,run_neq_struct,z]
 ·simp at v
end
section
variable{Q:Program}{σ:Nat→FuncId}{X:Wd}
theorem jh{x:V}{u:Value}(h:VR σ X x u){i:Int}(hi:ik x=aa i):∃ k,u=.int k i:=by
 unfold ik at hi;split at hi
 ·simp only [At]at hi;subst hi;exact⟨_,VR.int h⟩
 ·simp at hi
theorem rk{x:V}{u:Value}(h:VR σ X x u){y i:Nat}(b:AU x y=aa i){g:Nat}(q:y≤g)(d:BoundsCode)(w:World) :
  i≤y∧(Instr.sliceBound u g d).run Q w=.ok i w:=by
 unfold AU at b;split at b
 ·rename_i j l;obtain⟨k,rfl⟩:=jh h l;split at b
  ·rename_i m;simp only [At]at b;subst b;refine⟨by omega,?_⟩;have:0≤j∧j≤(g:Int):=by omega
   simp [Instr.sliceBound,asIntOf,this]
  ·simp at b
 ·simp at b
def OR(X:Wd)(σ:Nat→FuncId):Option V→Option Value→Prop
 | none,ab=>True| some x,aa u=>VR σ X x u| _,_=>False
theorem dI{lo hi mx:Option V}{d j mx':Option Value}(v:OR X σ lo d)(A:OR X σ hi j)(F:OR X σ mx mx'){len c l h m:Nat}
  (b:bO len c lo hi mx=aa (l,h,m)) {cap:Nat} (J:c≤cap) (M:len≤c) (s:Bool) (w:World) :
  (Instr.sliceBounds s len cap d j mx').run Q w=.ok (l,h,if mx.isSome then m else cap) w∧l≤h∧h≤m∧m≤c:=by
 unfold bO at b;cases mx with
 | some z=>
  cases mx'<;>simp only [OR]at F;rename_i O;simp only [awa,aup]at b;obtain⟨N,K,b⟩:=b;obtain⟨L,E⟩:=rk (Q:=Q) F K J (if s then .slice3Acap else .slice3Alen) w;cases hi with
  | none=>simp at b
  | some y=>
   cases j<;>simp only [OR]at A;simp only [auJ,aup]at b;obtain⟨h0,H,b⟩:=b;obtain⟨I,g⟩:=rk (Q:=Q) A H (at3 _) .slice3B w;cases lo with
   | none=>
    cases d<;>simp only [OR]at v;simp at b;obtain⟨rfl,rfl,rfl⟩:=b;simp [Instr.sliceBounds,E,g];omega
   | some x=>
    cases d<;>simp only [OR]at v;simp only [aup]at b;obtain⟨l0,q,b⟩:=b;obtain⟨B,u⟩:=rk (Q:=Q) v q (at3 _) .slice3C w;simp at b;obtain⟨rfl,rfl,rfl⟩:=b;simp [Instr.sliceBounds,E,g,u];omega
 | none=>
  cases mx'<;>simp only [OR]at F;cases hi with
  | none=>
   cases j<;>simp only [OR]at A;cases lo with
   | none=>
    cases d<;>simp only [OR]at v;simp at b;obtain⟨rfl,rfl,rfl⟩:=b;simp [Instr.sliceBounds];omega
   | some x=>
    cases d<;>simp only [OR]at v;simp only [awa,auJ,aup]at b;obtain⟨l0,q,b⟩:=b;obtain⟨B,u⟩:=rk (Q:=Q) v q (at3 _) .sliceB w;simp at b;obtain⟨rfl,rfl,rfl⟩:=b;simp [Instr.sliceBounds,u];omega
  | some y=>
   cases j<;>simp only [OR]at A;simp only [awa,auJ,aup]at b;obtain⟨h0,H,b⟩:=b;obtain⟨I,g⟩:=rk (Q:=Q) A H J (if s then .sliceAcap else .sliceAlen) w;cases lo with
   | none=>
    cases d<;>simp only [OR]at v;simp at b;obtain⟨rfl,rfl,rfl⟩:=b;simp [Instr.sliceBounds,g];omega
   | some x=>
    cases d<;>simp only [OR]at v;simp only [aup]at b;obtain⟨l0,q,b⟩:=b;obtain⟨B,u⟩:=rk (Q:=Q) v q (at3 _) .sliceB w;simp at b;obtain⟨rfl,rfl,rfl⟩:=b;simp [Instr.sliceBounds,g,u];omega
theorem eu{t e:TypeId}{sz:Nat}(g:Q.underlying t=aa (.slice e))(b:dA Q e sz=ae){a:Option Addr}{len cap:Nat}{lo hi mx:Option Value}{l h m:Nat}{w:World}
  (d:(Instr.sliceBounds ae len cap lo hi mx).run Q w=.ok (l,h,m) w) :
  (Instr.sliceAt t (.slice a len cap) lo hi mx).run Q w=.ok (.slice (if m=l then a else a.map (·.add (l*sz))) (h-l) (m-l)) w:=by
 simp [Instr.sliceAt,Instr.slice,bf g,d,dg b]
theorem zv(hS:SR Q σ X){t e:TypeId}{sz:Nat}(g:Q.underlying t=aa (.slice e))(j:dA Q e sz=ae){x:V}{u:Value}(F:VR σ X x u)
  {lo hi mx:Option V} {b9 a8 mx':Option Value} (H:OR X σ lo b9) (I:OR X σ hi a8) (J:OR X σ mx mx') {v:V} (h:dk X.H sz x lo hi mx=aa v) :
  ∃ r,(Instr.sliceAt t u b9 a8 mx').run Q X.w=.ok r X.w∧VR σ X v r:=by
 unfold dk at h;split at h
 ·
  split at h
  ·rename_i r z;obtain⟨l,y,m⟩:=r;simp only [At]at h;subst h;cases (F:cT σ X.F X.w .aw u);obtain⟨q,K,N,O⟩:=dI (Q:=Q) H I J z (at3 0) (at3 0) ae X.w;refine⟨_,eu g j q,?_⟩;have:l=0∧y=0∧m=0:=by omega
   obtain⟨rfl,rfl,rfl⟩:=this;simp;exact cT.aw
  ·simp at h
 ·split at h
  ·rename_i r z;obtain⟨l,y,m⟩:=r;simp only [At]at h;subst h;cases (F:cT σ X.F X.w .es u);obtain⟨q,K,N,O⟩:=dI (Q:=Q) H I J z (at3 0) (at3 0) ae X.w;refine⟨_,eu g j q,?_⟩;have:l=0∧y=0∧m=0:=by omega
   obtain⟨rfl,rfl,rfl⟩:=this;simp;exact cT.es _
  ·simp at h
 ·
  rename_i cs n;split at h
  ·rename_i l y m z;have d_:(∃(c o cap:Nat) (us:List Value),n≤cap∧us.length=cs.length∧(∀ i,i<cs.length→X.F c (o+i))∧(∀(i:Nat) u,us[i]?=aa u→X.w.cell? ⟨c,o+i,ab⟩=aa u) ∧
     (∀(i:Nat) x u,cs[i]?=aa x→us[i]?=aa u→cT σ X.F X.w x u)∧u=.slice (aa ⟨c,o,ab⟩) n cap)∨(cs=[]∧n=0∧∃ a cap,u=.slice (aa a) 0 cap):=by
    cases (F:cT σ X.F X.w (.fs cs n) u)with
    | fs _ _ c o cap us d hl hF hc hr=>exact .inl ⟨c,o,cap,us,d,hl,hF,hc,hr,rfl⟩| fs0 a cap=>exact .inr ⟨rfl,rfl,a,cap,rfl⟩
   rcases d_ with⟨c,o,cap,us,d,hl,hF,hc,hr,rfl⟩ | ⟨rfl,rfl,a,cap,rfl⟩
   ·obtain⟨q,K,N,O⟩:=dI (Q:=Q) H I J z d (at3 n) ae X.w;split at h
    ·rename_i B;simp only [At]at h;subst h;rw [bg B.1]at q;obtain⟨_,rfl⟩:=B;refine⟨_,eu g j q,?_⟩;rw [show y-m=0 by omega,show m-m=0 by omega,bg rfl];exact cT.es _
    ·simp only [At]at h;subst h;refine⟨_,eu g j q,?_⟩;generalize S:(if mx.isSome=ae then m else cap)=M;have b_:y≤M:=by rw [←S];split<;>omega
     by_cases E:M=l
     ·rw [bg E,show y-l=0 by omega];simp;exact cT.fs0 _ _
     ·rw [aY E];simp only [auP,ee];refine cT.fs _ _ c (o+l*sz) _ ((us.drop (l*sz)).take ((y-l)*sz)) (by omega) (by simp [hl]) (fun i hi=>?_) (fun i u g=>?_) (fun i x u F g=>?_)
      ·have:=hF (l*sz+i) (by simp at hi;omega);rwa [show o+(l*sz+i)=o+l*sz+i by omega]at this
      ·rw [auD]at g;split at g
       ·rw [auj]at g;have:=hc _ u g;rwa [show o+(l*sz+i)=o+l*sz+i by omega]at this
       ·simp at g
      ·rw [auD]at g F;split at g
       ·rename_i hi;rw [bg hi]at F;rw [auj]at g F;exact hr _ x u F g
       ·simp at g
   ·obtain⟨q,K,N,O⟩:=dI (Q:=Q) H I J z (Nat.zero_le cap) (at3 0) ae X.w;have:l=0∧y=0∧m=0:=by omega
    obtain⟨rfl,rfl,rfl⟩:=this;refine⟨_,eu g j q,?_⟩;split at h
    ·rename_i B;simp only [At]at h;subst h;simp [B.1];exact cT.es _
    ·simp only [At]at h;subst h;have ho:∀ M,∃ a',(if M=0 then aa a else Option.map (fun(x:Addr)=>x.add (0*sz)) (aa a))=aa a':=by intro M;split<;>exact⟨_,rfl⟩
     obtain⟨a',U⟩:=ho (if mx.isSome=ae then 0 else cap);rw [U];simp;exact cT.fs0 _ _
  ·simp at h
 ·
  rename_i b o n cap ep s;simp only [VR,hZ,CR,fj]at F;split at h
  ·rename_i A;rw [A]at F;obtain⟨L,Z,d,rfl⟩:=F;split at h
   ·rename_i l y m z;obtain⟨q,K,N,O⟩:=dI (Q:=Q) H I J z (at3 cap) d ae X.w;have hm:(if mx.isSome=ae then m else cap)=m:=by
     split
     ·rfl
     ·rename_i hn;cases mx with
      | some _=>simp at hn| none=>unfold bO at z;cases hi<;>cases lo<;>simp [aup]at z<;>omega
    rw [hm]at q;refine⟨_,eu g j q,?_⟩;split at h
    ·rename_i E;simp only [At]at h;subst h;rw [bg E,show y-l=0 by omega,show m-l=0 by omega];exact cT.es _
    ·rename_i E;simp only [At]at h;subst h;rw [aY E];simp only [auP,ee,VR,hZ,CR,fj,A];exact⟨L,Z,by omega,rfl⟩
   ·simp at h
  ·rename_i s' cs fl e st A;rw [A]at F;split at h
   ·rename_i hc;obtain⟨rfl,rfl,rfl⟩:=hc;have Y:=F.2.1 rfl rfl;cases st with
    | loc=>
     obtain⟨L,Z,k,rfl,hk,rfl⟩:=Y;simp only at h;split at h
     ·rename_i l y m z;obtain⟨q,K,N,O⟩:=dI (Q:=Q) H I J z (show n≤L.cap-k by omega) (at3 n) ae X.w;refine⟨_,eu g j q,?_⟩;generalize S:(if mx.isSome=ae then m else L.cap-k)=M;have b_:y≤M:=by rw [←S];split<;>omega
      split at h
      ·rename_i B;simp only [At]at h;subst h;rw [bg B.1]at S;subst S;obtain⟨_,rfl⟩:=B;rw [show y-m=0 by omega,show m-m=0 by omega,bg rfl];exact cT.es _
      ·split at h
       ·rename_i B;simp only [At]at h;subst h;rw [show y-l=0 by omega];have ho:∃ a',(if M=l then aa (⟨L.c,k*s',ab⟩:Addr)else Option.map (fun(x:Addr)=>x.add (l*s')) (aa ⟨L.c,k*s',ab⟩))=aa a':=by split<;>exact⟨_,rfl⟩
        obtain⟨a',U⟩:=ho;rw [U];exact cT.fs0 _ _
       ·rename_i e_;split at h
        ·split at h
         ·simp only [At]at h;subst h;simp only [VR,hZ,CR,fj,A];exact⟨at3 _,fun _ e=>by omega,_,_,_,rfl⟩
         ·simp at h
        ·rename_i hn;simp only [At]at h;subst h;rw [aY hn]at S;have W:(if M=l then aa (⟨L.c,k*s',ab⟩:Addr)else Option.map (fun(x:Addr)=>x.add (l*s')) (aa ⟨L.c,k*s',ab⟩))=aa ⟨L.c,k*s'+l*s',ab⟩:=by
          split
          ·have:l=0:=by omega
           subst this;simp
          ·simp [ee]
         rw [W];simp only [VR,hZ,CR,fj,A];refine⟨at3 _,fun _ _=>⟨L,Z,k+l,by rw [auF],by omega,by rw [←S];congr 1;omega⟩,_,_,_,rfl⟩
     ·
      cases mx with
      | some _=>simp at h
      | none=>
       simp only at h;split at h
       ·rename_i l y m z;split at h
        ·rename_i d9;simp only [At]at h;subst h;obtain⟨_,_,bq,a7,c_⟩:=hS.br b L Z;rw [A]at a7;cases a7;obtain⟨-,us,rest,-,hA,a_,g_,-,-⟩:=c_;have f_:cs.length≤L.cap*s':=by rw [←a_,at6,←hA.1];omega
         have d:(cs.length-k*s') / s'≤L.cap-k:=by
          refine Nat.div_le_of_le_mul ?_;rw [Nat.mul_sub,Nat.mul_comm s' L.cap,Nat.mul_comm s' k];omega
         obtain⟨q,K,N,O⟩:=dI (Q:=Q) H I J z d d9.1 ae X.w;refine⟨_,eu g j q,?_⟩;simp only [Option.isSome_none,aub,if_false,auP,ee];rw [aY (by omega)];simp only [VR,hZ,CR,fj,A];refine⟨at3 _,fun _ _=>⟨L,Z,k+l,by rw [auF],by omega,by congr 1;omega⟩,_,_,_,rfl⟩
        ·simp at h
       ·simp at h
    | nil=>
     obtain⟨rfl,rfl,rfl⟩:=Y;simp only at h;split at h
     ·rename_i r z;obtain⟨l,y,m⟩:=r;simp only [At]at h;subst h;obtain⟨q,K,N,O⟩:=dI (Q:=Q) H I J z (at3 0) (at3 0) ae X.w;refine⟨_,eu g j q,?_⟩;have:l=0∧y=0∧m=0:=by omega
      obtain⟨rfl,rfl,rfl⟩:=this;simp;exact cT.aw
     ·simp at h
    | es=>
     obtain⟨rfl,rfl,a,rfl⟩:=Y;simp only at h;split at h
     ·rename_i r z;obtain⟨l,y,m⟩:=r;simp only [At]at h;subst h;obtain⟨q,K,N,O⟩:=dI (Q:=Q) H I J z (at3 0) (at3 0) ae X.w;refine⟨_,eu g j q,?_⟩;have:l=0∧y=0∧m=0:=by omega
      obtain⟨rfl,rfl,rfl⟩:=this;simp;exact cT.es _
     ·simp at h
   ·simp at h
  ·simp at h
 ·simp at h
end
section
variable{Q:Program}{σ:Nat→FuncId}{X:Wd}
theorem QN{t:TypeId}(A:Q.underlying t=aa .string){x:V}{u:Value}(B:VR σ X x u){lo hi:Option V}{d b:Option Value}(g:OR X σ lo d)(j:OR X σ hi b)
  {v:V} (h:wS x lo hi=aa v) (w:World):∃ r,(Instr.sliceAt t u d b ab).run Q w=.ok r w∧VR σ X v r:=by
 unfold wS at h;split at h
 ·rename_i s;have:=VR.str B;subst this;split at h
  ·rename_i l z m y;simp only [At]at h;subst h;obtain⟨q,_⟩:=dI (Q:=Q) (mx:=ab) (mx':=ab) g j trivial y (at3 _) (at3 _) ag w;exact⟨.string (s.extract l z),by simp [Instr.sliceAt,Instr.slice,bf A,q],VR.mkStr _⟩
  ·simp at h
 ·simp at h
theorem QL(Z:SR Q σ X){t e:TypeId}{n sz:Nat}(g:Q.underlying t=aa (.array n e))(E:dA Q e sz=ae){x:V}{u:Value}(q:VR σ X x u)
  {lo hi mx:Option V} {z y mx':Option Value} (F:OR X σ lo z) (H:OR X σ hi y) (I:OR X σ mx mx') {v:V} (h:kH X.H n sz x lo hi mx=aa v) :
  ∃ r,(Instr.sliceAt t u z y mx').run Q X.w=.ok r X.w∧VR σ X v r:=by
 have run:∀(a:Addr) l j m,(Instr.sliceBounds ag n n z y mx').run Q X.w=.ok (l,j,m) X.w →
   (Instr.sliceAt t (.pointer (aa a)) z y mx').run Q X.w=.ok (.slice (aa (if m=l then a else a.add (l*sz))) (j-l) (m-l)) X.w:=by
  intro a l j m s;simp [Instr.sliceAt,bf g,Instr.sureAddr,s,dg E]
 have mm:∀ {l j m:Nat},bO n n lo hi mx=aa (l,j,m)→(if mx.isSome=ae then m else n)=m:=by
  intro l j m s;split
  ·rfl
  ·rename_i W;cases mx with
   | some _=>simp at W| none=>unfold bO at s;cases hi<;>cases lo<;>simp [aup]at s<;>omega
 unfold kH at h;split at h
 ·rename_i b off ep;obtain⟨L,O,q⟩:=q;split at h
  ·rename_i cs fl B;rw [B]at q;simp only at q;subst q;split at h
   ·rename_i l j m s;obtain⟨A,J,K,M⟩:=dI (Q:=Q) F H I s (at3 n) (at3 n) ag X.w;rw [mm s]at A;split at h
    ·refine⟨_,run _ _ _ _ A,?_⟩;split at h
     ·rename_i d;simp only [At]at h;subst h;rw [bg d,show j-l=0 by omega,show m-l=0 by omega];exact cT.es _
     ·rename_i d;simp only [At]at h;subst h;rw [aY d];simp only [ee,VR,hZ,CR,fj,B];exact⟨L,O,by omega,rfl⟩
    ·simp at h
   ·simp at h
  ·simp at h
 ·rename_i cs off;cases (q:cT σ X.F X.w (.fp cs off) u)with
  | fp _ _ c o us U N S Y=>
   split at h
   ·rename_i l j m s;obtain⟨A,J,K,M⟩:=dI (Q:=Q) F H I s (at3 n) (at3 n) ag X.w;rw [mm s]at A;split at h
    ·refine⟨_,run _ _ _ _ A,?_⟩;split at h
     ·rename_i d;simp only [At]at h;subst h;rw [bg d,show j-l=0 by omega,show m-l=0 by omega];exact cT.es _
     ·rename_i d;simp only [At]at h;subst h;rw [aY d,ee];refine cT.fs _ _ c (o+off+l*sz) _ ((us.drop (off+l*sz)).take ((j-l)*sz)) (by omega) (by simp [U]) (fun i hi=>?_) (fun i u g=>?_) (fun i x u q g=>?_)
      ·have:=N (off+l*sz+i) (by simp at hi;omega);rwa [show o+(off+l*sz+i)=o+off+l*sz+i by omega]at this
      ·rw [auD]at g;split at g
       ·rw [auj]at g;have:=S _ u g;rwa [show o+(off+l*sz+i)=o+off+l*sz+i by omega]at this
       ·simp at g
      ·rw [auD]at g q;split at g
       ·rename_i hi;rw [bg hi]at q;rw [auj]at g q;exact Y _ x u q g
       ·simp at g
    ·simp at h
   ·simp at h
 ·simp at h
theorem D1{t:TypeId}{l:Array Field}(I:Q.underlying t=aa (.struct l)){i:Nat}{f:Field}(E:l[i]?=aa f)(j:(Q.info? f.type).any (fun i=>i.size != 0)=ae)
  {x:V} {u:Value} (g:VR σ X x u) {v:V} (h:jf f.offset x=aa v) (w:World):∃ r,(Instr.fieldAt t u i).run Q w=.ok r w∧VR σ X v r:=by
 have run:∀ a:Addr,(Instr.fieldAt t (.pointer (aa a)) i).run Q w=.ok (.pointer (aa (a.add f.offset))) w:=by
  intro a;cases hi:Q.info? f.type with
  | none=>simp [hi]at j
  | some J=>
   simp [hi]at j;simp [Instr.fieldAt,bf I,E,Instr.sureAddr,fieldPlace,Go.sizeOf,typeInfo,hi,j]
 unfold jf at h;split at h
 ·rename_i b o ep;simp only [At]at h;subst h;obtain⟨L,m,g⟩:=g;split at g
  ·rename_i d;subst g;exact⟨_,run _,L,m,by rw [d,ee]⟩
  ·rename_i s cs fl e d;obtain⟨q,y,a,rfl⟩:=g;refine⟨_,run _,L,m,?_⟩;rw [d];refine⟨q,fun B=>?_,_,rfl⟩;have:=y B;simp only [Value.pointer.injEq,At]at this;rw [this,ee]
  ·exact g.elim
 ·rename_i cs o;simp only [At]at h;subst h;cases (g:cT σ X.F X.w (.fp cs o) u)with
  | fp _ _ c o' us F z A H=>
   refine⟨_,run _,?_⟩;rw [ee,Nat.add_assoc];exact cT.fp cs _ c o' us F z A H
 ·simp at h
theorem D_{t e:TypeId}{sz:Nat}{q:Option Nat}(I:dA Q e sz=ae)
  (H:(q=ab∧Q.underlying t=aa (.slice e))∨∃ n,q=aa n∧Q.underlying t=aa (.array n e)) {x i:V} {u j:Value} (m:VR σ X x u) (hi:VR σ X i j)
  {v:V} (h:bG X.H sz q x i=aa v):∃ r,(Instr.indexAt t u j).run Q X.w=.ok r X.w∧VR σ X v r:=by
 unfold bG at h;split at h
 ·simp at h
 rename_i k Z;obtain⟨O,rfl⟩:=jh hi Z;split at h
 ·rename_i h0;have z:q=ab→∀(a:Addr) (l c:Nat),k<l→(Instr.indexAt t (.slice (aa a) l c) (.int O k)).run Q X.w=.ok (.pointer (aa (a.add (k.toNat*sz)))) X.w:=by
   intro J a l c g;rcases H with⟨_,H⟩ | ⟨n,A,_⟩
   ·simp [Instr.indexAt,asIntOf,bf H,h0,g,dg I]
   ·rw [J]at A;simp at A
  have y:∀ n,q=aa n→∀(a:Addr),k<n→(Instr.indexAt t (.pointer (aa a)) (.int O k)).run Q X.w=.ok (.pointer (aa (a.add (k.toNat*sz)))) X.w:=by
   intro n J a g;rcases H with⟨A,_⟩ | ⟨n',A,H⟩
   ·rw [J]at A;simp at A
   ·rw [J]at A;simp only [At]at A;subst A;simp [Instr.indexAt,asIntOf,bf H,Instr.sureAddr,h0,g,dg I]
  split at h
  ·rename_i b o l c ep s;split at h
   ·rename_i g;simp only [VR,hZ,CR,fj]at m;split at h
    ·rename_i d;rw [d]at m;obtain⟨L,E,_,rfl⟩:=m;simp only [At]at h;subst h;exact⟨_,z rfl _ _ _ g,L,E,by rw [d,ee]⟩
    ·rename_i s' cs fl S d;rw [d]at m;split at h
     ·rename_i F;simp only [At]at h;subst h;obtain⟨L,E,kq,_,_,rfl⟩:=m.2.1 F.1 F.2;exact⟨_,z rfl _ _ _ g,L,E,by rw [d,ee];exact⟨m.1,fun _=>rfl,_,rfl⟩⟩
     ·simp at h
    ·simp at h
   ·simp at h
  ·rename_i cs l;split at h
   ·rename_i g;simp only [At]at h;subst h;cases (m:cT σ X.F X.w (.fs cs l) u)with
    | fs _ _ c o cap us N B K F M=>
     refine⟨_,z rfl _ _ _ g,?_⟩;rw [ee];exact cT.fp cs _ c o us B K F M
    | fs0 a cap=>simp at g;omega
   ·simp at h
  ·rename_i n b o ep;split at h
   ·rename_i g;simp only [At]at h;subst h;obtain⟨L,E,m⟩:=m;split at m
    ·rename_i d;subst m;exact⟨_,y n rfl _ g,L,E,by rw [d,ee]⟩
    ·rename_i s cs fl S d;obtain⟨U,W,a,rfl⟩:=m;refine⟨_,y n rfl _ g,L,E,?_⟩;rw [d];refine⟨U,fun Y=>?_,_,rfl⟩;have:=W Y;simp only [Value.pointer.injEq,At]at this;rw [this,ee]
    ·exact m.elim
   ·simp at h
  ·rename_i n cs o;split at h
   ·rename_i g;simp only [At]at h;subst h;cases (m:cT σ X.F X.w (.fp cs o) u)with
    | fp _ _ c o' us B K F M=>
     refine⟨_,y n rfl _ g,?_⟩;rw [ee,Nat.add_assoc];exact cT.fp cs _ c o' us B K F M
   ·simp at h
  ·simp at h
 ·simp at h
theorem xe{t:TypeId}{n:Option Nat}(s:xa Q t n=ae){xs:List C}{us:List Value}(l:A2 (CR σ X) xs us)(off:Nat){v:V}(b:aT n (xs.drop off)=aa v)(w:World) :
  ∃ u,(part t us.toArray off).run Q w=.ok u w∧VR σ X v u:=by
 obtain⟨m,q⟩:=GF s w;cases n with
 | none=>
  cases d:xs.drop off with
  | nil=>rw [d]at b;simp [aT]at b
  | cons x cs=>
   rw [d]at b;simp only [aT,At]at b;subst b;obtain⟨u,y,j⟩:=(l.drop off).get (i:=0) (x:=x) (by rw [d];rfl);have g:us[off]?=aa u:=by simpa [auj]using y
   exact⟨u,by simp [part,m,g],j⟩
 | some n=>
  simp only [aT]at b;split at b
  ·simp only [At]at b;subst b;exact⟨.agg ((us.drop off).take n).toArray,by simp [part,m,dg (q n rfl),avq],_,rfl,(l.drop off).take n⟩
  ·simp at b
theorem PL{t:TypeId}{b:Array Field}(q:Q.underlying t=aa (.struct b)){i:Nat}{f:Field}(l:b[i]?=aa f){n:Option Nat}(m:xa Q f.type n=ae)
  {x:V} {u:Value} (s:VR σ X x u) {v:V} (h:ku f.offset n x=aa v) (w:World):∃ r,(Instr.field t u i).run Q w=.ok r w∧VR σ X v r:=by
 unfold ku at h;split at h
 ·obtain⟨us,rfl,d⟩:=s;obtain⟨r,g,j⟩:=xe m d f.offset h w;exact⟨r,by simp [Instr.field,bf q,l,asAgg,g],j⟩
 ·simp at h
theorem ab4{t e:TypeId}{len sz:Nat}(y:Q.underlying t=aa (.array len e))(b:dA Q e sz=ae){n:Option Nat}(s:xa Q e n=ae)
  {x i:V} {u j:Value} (z:VR σ X x u) (hi:VR σ X i j) {v:V} (h:B5 len sz n x i=aa v) (w:World):∃ r,(Instr.index t u j).run Q w=.ok r w∧VR σ X v r:=by
 unfold B5 at h;split at h
 ·rename_i xs k q;obtain⟨A,rfl⟩:=jh hi q;split at h
  ·rename_i m;obtain⟨us,rfl,d⟩:=z;obtain⟨r,g,l⟩:=xe s d _ h w;exact⟨r,by simp [Instr.index,asIntOf,bf y,m,dg b,g],l⟩
  ·simp at h
 ·simp at h
theorem ab5{t:TypeId}(l:Q.underlying t=aa .string){x i:V}{u j:Value}(m:VR σ X x u)(hi:VR σ X i j){v:V}(h:B6 x i=aa v)(w:World) :
  ∃ r,(Instr.index t u j).run Q w=.ok r w∧VR σ X v r:=by
 unfold B6 at h;split at h
 ·rename_i s k g;obtain⟨q,rfl⟩:=jh hi g;have:=VR.str m;subst this;split at h
  ·rename_i h0;simp only [at0]at h;obtain⟨b,d,rfl⟩:=h;exact⟨_,by simp [Instr.index,asIntOf,bf l,h0,d],VR.mkInt _ _⟩
  ·simp at h
 ·simp at h
end
section
variable{Q:Program}{σ:Nat→FuncId}{X:Wd}
theorem A2.bp{α β:Type}{R:α→β→Prop}{cs xs:List α}{us d:List β}(h:A2 R cs us)(b:A2 R xs d)(off:Nat):A2 R (bp cs off xs) (bp us off d):=by
 unfold Km.bp;rw [b.len];exact((h.take off).append b).append (h.drop _)
theorem Cr{α:Type}(cs:List α)(off:Nat)(xs:List α)(h:off+xs.length≤cs.length):(bp cs off xs).length=cs.length:=by
 simp [bp];omega
theorem B0(off:Nat):∀(d:List Value) (k:Nat) (b:List Value),off+k+d.length≤b.length →
  ((d.zipIdx k).foldl (fun(cs:Array Value) p=>cs.setIfInBounds (off+p.2) p.1) b.toArray)=(bp b (off+k) d).toArray
 | [],k,b,_=>by simp [bp]
 | v::d,k,b,h=>by
  simp only [List.zipIdx_cons,avt];have g:b.toArray.setIfInBounds (off+k) v=(b.set (off+k) v).toArray:=by simp
  rw [g,B0 off d (k+1) _ (by simp at h ⊢;omega)]
  congr 1
  unfold bp;simp only [auo]at h ⊢;rw [List.take_set,List.drop_set_of_lt (by omega),show off+(k+1)=off+k+1 by omega,show off+k+1+d.length=off+k+(d.length+1) by omega];rw [List.take_succ_eq_append_getElem (by omega)];have j:(List.take (off+k) b).length=off+k:=by simp;omega
  have e:(List.take (off+k) b++[b[off+k]]).set (off+k) v=List.take (off+k) b++[v]:=by
   rw [List.set_append,aY (by omega),j];simp
  rw [e];simp
theorem pH{x:V}{u:Value}(b:VR σ X x u){xs:List C}(h:x.cells?=aa xs):∃ us,u.cells=us.toArray∧A2 (CR σ X) xs us:=by
 unfold V.cells? at h;split at h
 ·rename_i x;simp only [At]at h;subst h;have d:=CR.one σ b;refine⟨[u],?_,A2.cons b A2.nil⟩;cases u<;>simp_all [Value.cells,Value.oneCell']
 ·simp only [At]at h;subst h;obtain⟨us,rfl,h⟩:=b;exact⟨us,rfl,h⟩
 ·simp at h
theorem nG{a:Act}{aB:T}(v:RR σ X aB a.tmps){place:Nat→Option (Nat × Nat)}:∀ {qs:List (Nat × Nat × Arg)} {ps:List (Nat × Operand)},
  A2 (fun(q:Nat × Nat × Arg) (p:Nat × Operand)=>place p.1=aa (q.1,q.2.1)∧mA σ q.2.2 p.2=ae) qs ps→∀ {cs cs':List C} {us:List Value},A2 (CR σ X) cs us →
  dE aB cs qs=aa cs'→∃ d,Instr.fill place us.toArray (ps.map fun p=>(p.1,a.eval p.2))=aa d.toArray∧A2 (CR σ X) cs' d
 | [],[],_,cs,cs',us,h,b=>by
  simp only [dE,At]at b;subst b;exact⟨us,rfl,h⟩
 | [],_::_,g,_,_,_,_,_=>by have:=g.len;simp at this
 | _::_,[],g,_,_,_,_,_=>by have:=g.len;simp at this
 | (off,n,x)::qs,(i,y)::ps,g,cs,cs',us,h,b=>by
  obtain⟨⟨s,u⟩,l⟩:=g.of_cons;simp only at s u;simp only [dE]at b;split at b
  ·rename_i xs m;split at b
   ·rename_i H;obtain⟨F,E,j⟩:=pH (bT v u) m;obtain⟨d,z,A⟩:=nG v l (h.bp j off) b;refine⟨d,?_,A⟩;have I:=j.len;have B:=h.len;simp only [List.map_cons,Instr.fill,s,E];rw [aY (by simp;omega)];rw [←z]
    congr 1
    have:=B0 off F 0 us (by omega);simp only [avD]at this;rw [←this];simp [←Array.foldl_toList]
   ·simp at b
  ·simp at b
theorem eO{t:TypeId}{zs:List FC}(h:lE Q t zs=ae)(w:World):∃ z us,(zeroValue t).run Q w=.ok z w∧z.cells=us.toArray∧A2 (CR σ X) (zs.map .f) us ∧
  ∃ i,Q.info? t=aa i∧i.zero=aa z:=by
 unfold lE at h;cases hi:Q.info? t with
 | none=>simp [hi]at h
 | some i=>
  simp only [hi,Option.any_some]at h;split at h
  ·rename_i z d;refine⟨z,z.cells.toList,by simp [zeroValue,typeInfo,hi,d],by simp,A2.map ((eC h).kI fun x u b=>En b),i,rfl,d⟩
  ·simp at h
end
section
variable{Q:Program}{σ:Nat→FuncId}{X:Wd}
theorem lW{b:CK}{t:TypeId}(h:Qd Q b t=ae):(b=.int∧∃ j,Q.underlying t=aa (.int j))∨(b=.str∧Q.underlying t=aa .string)∨(b=.bool∧Q.underlying t=aa .bool):=by
 unfold Qd at h;split at h
 ·exact .inl ⟨rfl,_,by assumption⟩
 ·exact .inr (.inl ⟨rfl,by assumption⟩)
 ·exact .inr (.inr ⟨rfl,by assumption⟩)
 ·simp at h
theorem vr{l:CK}{d:TypeDesc}(m:(l=.int∧∃ j,d=.int j)∨(l=.str∧d=.string)∨(l=.bool∧d=.bool)){F:Nat→Nat→Prop}{w:World}{x y:FC}{u v:Value}
  (q:cT σ F w x u) (s:cT σ F w y v) {b:Bool} (h:eqK l x y=aa b):Instr.sameNow d u v=aa b:=by
 unfold eqK at h;split at h
 ·cases q;cases s;rcases m with⟨_,j,rfl⟩ | ⟨g,_⟩ | ⟨g,_⟩
  ·simpa [Instr.sameNow]using h
  ·cases g
  ·cases g
 ·cases q;cases s;rcases m with⟨g,_⟩ | ⟨_,rfl⟩ | ⟨g,_⟩
  ·cases g
  ·simpa [Instr.sameNow]using h
  ·cases g
 ·cases q;cases s;rcases m with⟨g,_⟩ | ⟨g,_⟩ | ⟨_,rfl⟩
  ·cases g
  ·cases g
  ·simpa [Instr.sameNow]using h
 ·simp at h
theorem zc{l:CK}{d:TypeDesc}(q:(l=.int∧∃ j,d=.int j)∨(l=.str∧d=.string)∨(l=.bool∧d=.bool)){F:Nat→Nat→Prop}{w:World}{k:FC}{B:Value}(v:cT σ F w k B) :
  ∀ {R:C→Value→Prop} {y:List (FC × C)} {b:List MapEntry},A2 (fun e m=>cT σ F w e.1 m.key∧R e.2 m.val) y b→∀ {r:Option C} (i:Nat),m6 l k y=aa r →
  match r with
  | none=>Instr.findNow d B b i=aa ab| some x=>∃ j u,Instr.findNow d B b i=aa (aa (j,u))∧R x u
 | _,[],[],_,r,i,h=>by
  simp only [m6,At]at h;subst h;rfl
 | _,[],_::_,g,_,_,_=>by have:=g.len;simp at this
 | _,_::_,[],g,_,_,_=>by have:=g.len;simp at this
 | _,e::y,m::b,g,r,i,h=>by
  obtain⟨⟨z,E⟩,A⟩:=g.of_cons;simp only [m6]at h;split at h
  ·rename_i s;simp only [At]at h;subst h;exact⟨i,m.val,by simp [Instr.findNow,vr q v z s],E⟩
  ·rename_i s;have:=zc q v A (i+1) h;cases r with
   | none=>simpa [Instr.findNow,vr q v z s]using this| some x=>obtain⟨j,u,H,I⟩:=this;exact⟨j,u,by simp [Instr.findNow,vr q v z s,H],I⟩
  ·simp at h
theorem iI{l:CK}{t:TypeId}(h:Qd Q l t=ae){k:FC}{F:Nat→Nat→Prop}{q:World}{g:Value}(m:cT σ F q k g)(hi:isKey l k=ae)(b:Bool)(w:World) :
  (Instr.checkKey b 10000 t g).run Q w=.ok () w:=by
 have:∀ n,(Instr.checkKey b (n+1) t g).run Q w=.ok () w:=by
  intro n;rcases lW h with⟨rfl,j,d⟩ | ⟨rfl,d⟩ | ⟨rfl,d⟩<;>cases m<;>simp_all [isKey,Instr.checkKey,bf d]
 exact this 9999
theorem Ef{z:FC}{r:Option C}{u:Value}{ok:Bool}(b:ok=(sk z).isSome)(h:hZ σ X ((r.map mV).getD (zV ((sk z).getD z))) u):VR σ X (lkR z r) (if ok=ae then .tuple #[u,.bool r.isSome]else u):=by
 unfold lkR;cases d:sk z with
 | none=>rw [d]at h b;subst b;exact VR.of1 σ h| some g=>rw [d]at h b;subst b;exact⟨[u,.bool r.isSome],rfl,A2.cons h (A2.cons (cT.bool _) A2.nil)⟩
theorem Qa(hS:SR Q σ X){t kt e:TypeId}{J:CK}(Y:Q.underlying t=aa (.map kt e))(K:Qd Q J kt=ae){z:FC}{ok:Bool}(H:ok=(sk z).isSome)(hz:lE Q e (sI ((sk z).getD z))=ae)
  (l:(Q.info? e).any (fun i=>i.zero.any fun u=>if Fh ((sk z).getD z)then am7 u else an2 u)=ae) {m k:V} {um uk:Value} (hm:VR σ X m um) (s:VR σ X k uk) {v:V} (h:fX X.H J z m k=aa v) :
  ∃ u,(Instr.lookup t um uk ok).run Q X.w=.ok u X.w∧VR σ X v u:=by
 obtain⟨I,zs,M,A,B,i0,U,W⟩:=eO (σ:=σ) (X:=X) hz X.w;have N:hZ σ X (zV ((sk z).getD z)) I:=by
  simp only [U,Option.any_some,W]at l;generalize (sk z).getD z=z0 at *;cases O:Fh z0 with
  | true=>
   rw [aoL O];simp only [O,if_true]at l;cases I with
   | agg cs=>exact⟨zs,by simp only [Value.cells]at A;rw [A],B⟩
   | _=>simp [am7]at l
  | false=>
   obtain⟨e1,e2⟩:=aoM O;rw [e1];rw [e2]at B;simp only [O,aub,if_false]at l;obtain⟨u,Z,a7⟩:=B.get (i:=0) (x:=.f z0) rfl;have hl:=B.len;have a8:zs=[u]:=by
    match zs,hl,Z with
    | [y],_,h=>simp at h;rw [h]
   subst a8;cases I with
   | agg cs=>simp [an2]at l| _=>simp only [Value.cells]at A;have:=congrArg Array.toList A;simp at this;subst this;exact a7
 unfold fX at h;split at h
 ·rename_i kc;split at h
  ·rename_i q;simp only [At]at h;subst h;cases (hm:cT σ X.F X.w .xI um);refine⟨if ok=ae then .tuple #[I,.bool ag]else I,?_,Ef (r:=ab) H N⟩;rcases lW K with⟨_,j,g⟩ | ⟨_,g⟩ | ⟨_,g⟩ <;>
    simp [Instr.lookup,bf Y,iI K s q,Instr.findKey,bf g,Instr.findNow,M]
  ·simp at h
 ·rename_i b kc;split at h
  ·rename_i es hb;split at h
   ·rename_i q;simp only [at0]at h;obtain⟨r,hr,rfl⟩:=h;obtain⟨L,hL,_,rfl⟩:=hm;obtain⟨_,_,bq,F,S⟩:=hS.br b L hL;rw [hb]at F;simp only [At]at F;subst F;obtain⟨a_,h1,h2,_⟩:=S;have go:∀ d,Q.underlying kt=aa d→((J=.int∧∃ j,d=.int j)∨(J=.str∧d=.string)∨(J=.bool∧d=.bool))→∃ u,(Instr.lookup t (.map (aa L.c)) uk ok).run Q X.w=.ok u X.w∧VR σ X (lkR z r) u:=by
     intro d g hd;have h3:=zc (R:=fun c u=>hZ σ X (mV c) u) hd s h2 0 hr;cases r with
     | none=>
      refine⟨if ok=ae then .tuple #[I,.bool ag]else I,?_,Ef (r:=ab) H N⟩;simp [Instr.lookup,bf Y,getObj,Sem.run,h1,iI K s q,Instr.findKey,bf g,h3,M]
     | some x=>
      obtain⟨j,u,E,h5⟩:=h3;refine⟨if ok=ae then .tuple #[u,.bool ae]else u,?_,Ef (r:=aa x) H h5⟩;simp [Instr.lookup,bf Y,getObj,Sem.run,h1,iI K s q,Instr.findKey,bf g,E]
    rcases lW K with⟨E,j,g⟩ | ⟨E,g⟩ | ⟨E,g⟩
    ·exact go _ g (.inl ⟨E,j,rfl⟩)
    ·exact go _ g (.inr (.inl ⟨E,rfl⟩))
    ·exact go _ g (.inr (.inr ⟨E,rfl⟩))
   ·simp at h
  ·simp at h
 ·simp at h
end
section
variable{Q:Program}{σ:Nat→FuncId}{X:Wd}
theorem ef{s:Sem Value}{u:Value}{w w':World}(h:s.run Q w=.ok u w'):(do pure (Next.value (←s)):Sem Next).run Q w=.ok (.value u) w':=by simp [h]
theorem sJ{a:Act}{aB:T}(b:RR σ X aB a.tmps){x:Option Arg}{y:Option Operand}(h:mO σ x y=ae):OR X σ (x.map (·.ev aB)) (y.map a.eval):=by
 rcases aqW b h with⟨rfl,rfl⟩ | ⟨g,j,rfl,rfl,d⟩
 ·trivial
 ·exact d
theorem iB{t:TypeId}{p:TypeId→Bool}(h:(mP Q t).any p=ae):∃ e,Q.underlying t=aa (.slice e)∧p e=ae:=by
 unfold mP at h;split at h
 ·exact⟨_,by assumption,by simpa using h⟩
 ·simp at h
theorem iQ{x:C}{u:Value}(b:CR σ X x u){l:Nat}(h:bA X.H x=aa l):∃ a c,u=.slice a l c:=by
 unfold bA at h;split at h<;>try simp only [At,reduceCtorEq]at h
 ·simp only [CR,fj]at b;split at h
  ·rename_i d;rw [d]at b;obtain⟨L,_,_,rfl⟩:=b;simp only [At]at h;subst h;exact⟨_,_,rfl⟩
  ·rename_i s cs fl e j d;rw [d]at b;split at h
   ·rename_i g;have:=b.2.1 g.1 g.2;simp only [At]at h;subst h;cases j with
    | loc=>obtain⟨L,_,k,_,_,rfl⟩:=this;exact⟨_,_,rfl⟩
    | nil=>obtain⟨_,rfl,rfl⟩:=this;exact⟨_,_,rfl⟩
    | es=>obtain⟨_,rfl,a,rfl⟩:=this;exact⟨_,_,rfl⟩
   ·simp at h
  ·simp at h
 ·subst h;cases (b:cT σ X.F X.w .aw u);exact⟨_,_,rfl⟩
 ·subst h;cases (b:cT σ X.F X.w .es u);exact⟨_,_,rfl⟩
 ·subst h;cases (b:cT σ X.F X.w (.fs _ _) u)<;>exact⟨_,_,rfl⟩
theorem me(J:SR Q σ X){sz:Nat}{x:C}{u:Value}(y:CR σ X x u){l:Nat}(m:bA X.H x=aa l){cs:List C}(h:cO X.H sz x=aa cs) :
  ∃ us,(Builtin.firstCells sz l u).run Q X.w=.ok us.toArray X.w∧A2 (CR σ X) cs us∧cs.length=l*sz:=by
 have row:∀(c o:Nat) (us:List Value) (cap:Nat),us.length=l*sz→(∀(i:Nat) u,us[i]?=aa u→X.w.cell? ⟨c,o+i,ab⟩=aa u) →
   (Builtin.firstCells sz l (.slice (aa ⟨c,o,ab⟩) l cap)).run Q X.w=.ok us.toArray X.w:=by
  intro c o us cap g F;have:=run_loadCells_list (P:=Q) X.w ⟨c,o,ab⟩ us (fun j v M=>by rw [ee];exact F j v M);rw [g]at this;simpa [Builtin.firstCells]using this
 unfold cO at h;split at h<;>try simp only [reduceCtorEq]at h
 ·rename_i b o l' cap ep s;simp only [CR,fj]at y;simp only [bA]at m;split at h
  ·rename_i cs' fl E;rw [E]at y m;simp only [At]at m;subst m;obtain⟨L,I,_,rfl⟩:=y;split at h
   ·rename_i q;simp only [At]at h;subst h;obtain⟨_,_,bq,d,z⟩:=J.br b L I;rw [E]at d;simp only [At]at d;subst d;obtain⟨us,H,B,_⟩:=z;have:=B.len;refine⟨(us.drop o).take (l'*sz),row _ _ _ _ (by simp;omega) (fun i u g=>?_),(B.drop o).take _,by simp;omega⟩;rw [dt H];rw [auD]at g;split at g
    ·rw [auj]at g;exact g
    ·simp at g
   ·simp at h
  ·rename_i s' cs' fl e O E;rw [E]at y m;split at h
   ·rename_i F;obtain⟨rfl,rfl,q⟩:=F;simp only [and_self,if_true,At]at m;subst m;simp only [At]at h;subst h;have A:=y.2.1 rfl rfl;cases O with
    | loc=>
     obtain⟨L,I,k,_,_,rfl⟩:=A;obtain⟨_,_,bq,d,z⟩:=J.br b L I;rw [E]at d;simp only [At]at d;subst d;obtain⟨_,us,rest,H,B,_⟩:=z;have:=B.len;refine⟨(us.drop o).take (l'*sz),row _ _ _ _ (by simp;omega) (fun i u g=>?_),(B.drop o).take _,by simp;omega⟩;rw [dt H];rw [auD]at g;split at g
     ·rw [auj]at g;rw [anc (atu.1 g).1];exact g
     ·simp at g
    | nil=>
     obtain⟨rfl,rfl,rfl⟩:=A;exact⟨[],by simp [Builtin.firstCells],by simpa using A2.nil,by simp⟩
    | es=>
     obtain⟨rfl,rfl,a,rfl⟩:=A;exact⟨[],by simp [Builtin.firstCells,loadCells,loadCellsFrom],by simpa using A2.nil,by simp⟩
   ·simp at h
  ·simp at h
 ·simp only [At]at h;subst h;simp only [bA,At]at m;subst m;cases (y:cT σ X.F X.w .aw u);exact⟨[],by simp [Builtin.firstCells],A2.nil,by simp⟩
 ·simp only [At]at h;subst h;simp only [bA,At]at m;subst m;cases (y:cT σ X.F X.w .es u);exact⟨[],by simp [Builtin.firstCells,loadCells,loadCellsFrom],A2.nil,by simp⟩
 ·rename_i cs' l';simp only [bA,At]at m;subst m;split at h
  ·rename_i q;simp only [At]at h;subst h;cases (y:cT σ X.F X.w (.fs cs' l') u)with
   | fs _ _ c o cap us K N S F H=>
    exact⟨us,row _ _ _ _ (by omega) F,A2.map ⟨by omega,H⟩,by simp;omega⟩
   | fs0 a cap=>exact⟨[],by simp [Builtin.firstCells,loadCells,loadCellsFrom],A2.nil,by simp⟩
  ·simp at h
theorem aix{v:V}{u:Value}(h:VR σ X v u){c:C}(l:mL v=aa c):fj σ X c u:=by
 unfold mL at l;split at l
 ·simp at l
 ·simp at l
 ·rename_i x q m;simp only [At]at l;subst l;cases x with
  | cl f j=>exact absurd rfl (q f j)| bm f j=>exact absurd rfl (m f j)| mi b=>exact h| f y=>exact h| ptr a b c=>exact h| sl a b c d e g=>exact h| yl b=>exact h| mp b=>exact h| it b=>exact h
 ·simp at l
theorem Bx{xs:List V}{us:List Value}(h:A2 (VR σ X) xs us){cs:List C}(b:bj mL xs=aa cs):A2 (fj σ X) cs us:=by
 induction xs generalizing us cs with
 | nil=>
  simp only [bj,At]at b;subst b
  match us,h.len with
  | [],_=>exact A2.nil
 | cons x xs m=>
  match us,h with
  | u::us,h=>
   obtain⟨g,j⟩:=h.of_cons;simp only [bj]at b;split at b
   ·simp at b
   ·rename_i y l;split at b
    ·simp at b
    ·rename_i ys d;simp only [At]at b;subst b;exact A2.cons (aix g l) (m j d)
  | [],h=>have:=h.len;simp at this
theorem dw{d:Operand→Value}{o:Oper}{c:Call}{b:Builtin}(j:o.op=.call c)(g:c.callee=.builtin b){r:Result Next}{w:World}
  (h:∀ cs,(builtin b c.argTypes o.type cs (c.args.map d)).run Q w=r):(execOp d o).run Q w=r:=by
 simp only [execOp,j,resolve,g,Sem.run_bind,Sem.run_pure,Result.andThen_ok,invoke];exact h _
theorem xu{α:Type}{a:Array α}{x:α}(h:a.toList=[x]):a=#[x]:=by
 apply Array.ext';simp [h]
theorem air{α:Type}{a:Array α}{x y:α}(h:a.toList=[x,y]):a=#[x,y]:=by
 apply Array.ext';simp [h]
theorem Qc{c:Call}{x:Arg}(h:dX Q σ c (.len x)=ae):∃ y t e,c.callee=.builtin .len∧c.args=#[y]∧c.argTypes=#[t]∧mA σ x y=ae∧Q.underlying t=aa (.slice e):=by
 simp only [dX]at h;split at h
 ·rename_i y t b d g;simp only [atI]at h;have:=h.2;split at this
  ·exact⟨y,t,_,b,xu d,xu g,h.1,by assumption⟩
  ·simp at this
 ·simp at h
theorem El{c:Call}{x:Arg}(h:dX Q σ c (.lens x)=ae):∃ y t,c.callee=.builtin .len∧c.args=#[y]∧c.argTypes=#[t]∧mA σ x y=ae∧Q.underlying t=aa .string:=by
 simp only [dX]at h;split at h
 ·rename_i y t b d g;simp only [atI]at h;have:=h.2;split at this
  ·exact⟨y,t,b,xu d,xu g,h.1,by assumption⟩
  ·simp at this
 ·simp at h
theorem Ek{c:Call}{n:Nat}(h:dX Q σ c (.nZ n)=ae):∃ y t e,c.callee=.builtin .len∧c.args=#[y]∧c.argTypes=#[t]∧Q.underlying t=aa (.array n e):=by
 simp only [dX]at h;split at h
 ·rename_i y t b d g;split at h
  ·rename_i m e j;simp only [decide_eq_true_eq]at h;subst h;exact⟨y,t,e,b,xu d,xu g,j⟩
  ·simp at h
 ·simp at h
theorem Em{c:Call}{lo:Bool}{xs:List Arg}(h:dX Q σ c (.gR lo xs)=ae):c.callee=.builtin (if lo then .min else .max)∧mAs σ xs c.args=ae:=by
 simp only [dX]at h;split at h
 ·rename_i b;exact⟨b,h⟩
 ·rename_i b;exact⟨b,h⟩
 ·simp at h
theorem acr{lo:Bool}{x y z:V}{u v:Value}(b:VR σ X x u)(d:VR σ X y v)(h:y0 lo x y=aa z)(w:World):∃ r,(if lo then Builtin.min2 u v else Builtin.max2 u v).run Q w=.ok r w∧VR σ X z r:=by
 unfold y0 at h;split at h
 ·simp only [At]at h;subst h;have b:=VR.int b;have d:=VR.int d;subst b;subst d;cases lo
  ·exact⟨_,by simp [Builtin.max2],VR.mkInt _ _⟩
  ·exact⟨_,by simp [Builtin.min2],VR.mkInt _ _⟩
 ·simp at h
theorem Ch{lo:Bool}(w:World):∀ {ys:List V} {d:List Value} {x z:V} {u:Value},VR σ X x u→A2 (VR σ X) ys d→sS lo x ys=aa z→∃ r,(d.foldlM (fun u v=>if lo then Builtin.min2 u v else Builtin.max2 u v) u).run Q w=.ok r w∧VR σ X z r
 | [],d,x,z,u,g,b,h=>by
  have:d=[]:=aud b.len.symm;subst this;simp only [sS,At]at h;subst h;exact⟨u,rfl,g⟩
 | y::ys,[],x,z,u,g,b,h=>by have:=b.len;simp at this
 | y::ys,v::d,x,z,u,g,b,h=>by
  obtain⟨A,b⟩:=b.of_cons;simp only [sS]at h;split at h
  ·rename_i q B;obtain⟨E,j,l⟩:=acr (Q:=Q) g A B w;obtain⟨r,m,s⟩:=Ch w l b h;exact⟨r,by rw [List.foldlM_cons,Sem.run_bind,j];exact m,s⟩
  ·simp at h
theorem Qb{c:Call}{x:Arg}(h:dX Q σ c (.cap x)=ae):∃ y t e,c.callee=.builtin .cap∧c.args=#[y]∧c.argTypes=#[t]∧mA σ x y=ae∧Q.underlying t=aa (.slice e):=by
 simp only [dX]at h;split at h
 ·rename_i y t g j l;simp only [atI]at h;obtain⟨m,d⟩:=h;split at d
  ·rename_i e b;exact⟨y,t,e,g,xu j,xu l,m,b⟩
  ·simp at d
 ·simp at h
theorem adl{x:C}{u:Value}(d:CR σ X x u){n:Nat}(h:jb X.H x=aa n):∃ a l,u=.slice a l n:=by
 cases x with
 | sl b o l c ep sz=>
  simp only [jb]at h;simp only [CR,fj]at d;split at h
  ·rename_i g;rw [g]at d;obtain⟨L,_,_,rfl⟩:=d;simp only [At]at h;subst h;exact⟨_,_,rfl⟩
  ·rename_i g;rw [g]at d;split at h
   ·rename_i j;have:=d.2.1 j.1 j.2;simp only [At]at h;subst h;obtain⟨_,_,rfl⟩:=this;exact⟨_,_,rfl⟩
   ·simp at h
  ·rename_i g;rw [g]at d;split at h
   ·rename_i j;have:=d.2.1 j.1 j.2;simp only [At]at h;subst h;obtain⟨_,_,a,rfl⟩:=this;exact⟨_,_,rfl⟩
   ·simp at h
  ·simp at h
 | f y=>
  cases y<;>simp only [jb,At,reduceCtorEq]at h
  ·subst h;cases (d:cT σ X.F X.w .aw u);exact⟨_,_,rfl⟩
  ·subst h;cases (d:cT σ X.F X.w .es u);exact⟨_,_,rfl⟩
 | _=>simp [jb]at h
theorem Gr(v:SR Q σ X){m:Nat}{L:Loc}(u:X.cB m=aa L){e:FC × C}(x:X.H[m]?=aa (.map [e])):∃ d:MapEntry,X.w.heap[L.c]?=aa (.map #[d] 1)∧cT σ X.F X.w e.1 d.key∧hZ σ X (mV e.2) d.val∧d.born=0:=by
 obtain⟨_,_,bq,g,l⟩:=v.br m L u;rw [x]at g;cases g;obtain⟨j,q,b,s⟩:=l
 match j,b with
 | [d],b=>exact⟨d,q,b.of_cons.1.1,b.of_cons.1.2,s 0 d rfl⟩| [],b=>have:=b.len;simp at this| _::_::_,b=>have:=b.len;simp at this
theorem PI(q:SR Q σ X){x:V}{u:Value}(K:VR σ X x u){v:V}(h:lM X.H x=aa v):∃ r,(Instr.entry u).run Q X.w=.ok r X.w∧VR σ X v r:=by
 unfold lM at h;split at h
 ·rename_i b;obtain⟨L,H,_,rfl⟩:=K;split at h
  ·rename_i m s I;split at h
   ·rename_i e J;simp only [At]at h;subst h;obtain⟨_,_,bq,d,j⟩:=q.br b L H;rw [I]at d;cases d;obtain⟨M,N,O,E,_,F,l⟩:=j;simp only [if_true]at l;obtain⟨rfl,rfl⟩:=l;obtain⟨g,y,z,A,B⟩:=Gr q E J;refine⟨.tuple #[g.key,g.val],?_,[g.key,g.val],rfl,A2.cons z (A2.cons A A2.nil)⟩;simp [Instr.entry,getObj,Sem.run,F,y,B,Result.andThen]
   ·simp at h
  ·simp at h
 ·simp at h
theorem BA:∀ {cs:List C} {us:List Value} {d:List UInt8},A2 (CR σ X) cs us→bj (fun c=>match c with | C.f (.int .u8 n)=>aa (UInt8.ofNat n.toNat) | _=>ab) cs=aa d →
  ∃ j:List Int,us=j.map (Value.int .u8)∧d=j.map fun n=>UInt8.ofNat n.toNat
 | [],us,d,h,b=>by
  simp only [bj,At]at b;subst b
  match us,h.len with
  | [],_=>exact⟨[],rfl,rfl⟩
 | c::cs,[],d,h,b=>by have:=h.len;simp at this
 | c::cs,u::us,d,h,b=>by
  obtain⟨m,q⟩:=h.of_cons;simp only [bj]at b;split at b
  ·simp at b
  ·rename_i y g;split at b
   ·simp at b
   ·rename_i ys l;simp only [At]at b;subst b;obtain⟨j,rfl,rfl⟩:=BA q l;split at g
    ·rename_i n;simp only [At]at g;subst g;cases (m:cT σ X.F X.w (.int .u8 n) u);exact⟨n::j,rfl,rfl⟩
    ·simp at g
theorem foldl_push:∀(b:List Int) (s:ByteArray),b.foldl (fun(r:ByteArray) n=>r.push (UInt8.ofNat n.toNat)) s=⟨s.data++(b.map fun n=>UInt8.ofNat n.toNat).toArray⟩
 | [],s=>by simp
 | n::b,s=>by
  rw [avt,foldl_push b]
  congr 1
  simp [ByteArray.push]
theorem abD(y:SR Q σ X){x:V}{u:Value}(q:VR σ X x u){v:V}(h:ot X.H x=aa v):∃ r,(Conv.bytesToString u).run Q X.w=.ok r X.w∧VR σ X v r:=by
 unfold ot at h;split at h
 ·rename_i x;split at h
  ·rename_i l m;split at h
   ·rename_i cs j;simp only [at0]at h;obtain⟨A,z,rfl⟩:=h;obtain⟨us,g,s,B⟩:=me y q m j;obtain⟨d,c,rfl⟩:=iQ q m;obtain⟨b,rfl,rfl⟩:=BA s z;refine⟨.string (b.foldl (fun(r:ByteArray) n=>r.push (UInt8.ofNat n.toNat)) ByteArray.empty),?_,?_⟩
    ·cases d with
     | none=>
      simp only [Builtin.firstCells,Sem.run_pure,Result.ok.injEq,and_true]at g;have:b=[]:=by
       have:=congrArg Array.toList g;simpa using this.symm
      subst this;simp only [Conv.bytesToString,List.foldl_nil,List.map_nil,Sem.run_pure]
     | some d=>exact run_bytesToString X.w d l c b (by simpa [Builtin.firstCells]using g)
    ·rw [foldl_push];rw [show(ByteArray.empty.data++(List.map (fun n:Int=>UInt8.ofNat n.toNat) b).toArray)=(List.map (fun n:Int=>UInt8.ofNat n.toNat) b).toArray from Array.empty_append];exact VR.mkStr _
   ·simp at h
  ·simp at h
 ·simp at h
theorem alb(hS:SR Q σ X){a:Act}{aB:T}(H:RR σ X aB a.tmps){o:Oper}{op:cX}(A:dP Q σ o op=ae)(hc:cls op=.p∨cls op=.r)(e_:op.fsl=ag){v:V}{H':aj}
  (h:bu aB X.H op=aa (v,H')):H'=X.H∧∃ u,(execOp a.eval o).run Q X.w=.ok (.value u) X.w∧VR σ X v u:=by
 cases op<;>first | (simp only [cls,reduceCtorEq,or_self]at hc;done) | (simp [cX.fsl]at e_;done) | clear e_
 case bc x=>
  simp only [bu,At,at1]at h;obtain⟨rfl,rfl⟩:=h;refine⟨rfl,?_⟩;simp only [dP]at A;split at A
  ·rename_i y E;exact⟨_,by simp [execOp,E],bT H A⟩
  ·rename_i y E;exact⟨_,by simp [execOp,E],bT H A⟩
  ·simp at A
 case pick c x y=>
  simp only [dP]at A;split at A
  ·rename_i c' x' y' E;simp only [atI]at A;simp only [bu]at h;have b9:=bT H A.1.1;split at h
   ·rename_i b Z;rw [Z]at b9;have b9:=VR.bool b9;simp only [At,at1]at h;obtain⟨rfl,rfl⟩:=h;cases b
    ·exact⟨rfl,_,by simp [execOp,E,b9,asBool],bT H A.2⟩
    ·exact⟨rfl,_,by simp [execOp,E,b9,asBool],bT H A.1.2⟩
   ·simp at h
  ·simp at A
 case build zs qs=>
  simp only [dP]at A;split at A
  ·rename_i t ps E;simp only [atI]at A;simp only [bu,at0,at1]at h;obtain⟨cs,a8,rfl,rfl⟩:=h;obtain⟨z,us,i_,j4,j5,_⟩:=eO (σ:=σ) (X:=X) A.1 X.w;refine⟨rfl,?_⟩;have Z:=A.2;unfold aco at Z;split at Z
   ·rename_i fs K;split at Z
    ·rename_i pl k_;obtain⟨c_,N,h6⟩:=nG (place:=(pl.toArray[·]?)) H ((eC Z).kI fun q p W=>by
      simp only [atI,decide_eq_true_eq]at W;exact⟨by simpa using W.1,W.2⟩) j5 a8
     refine⟨.agg c_.toArray,?_,c_,rfl,h6⟩;have hp:=run_places (P:=Q) X.w fs.toList pl k_;simp only [execOp,E];refine ef ?_;simp [Instr.build,i_,bf K,Array.mapM_eq_mapM_toList,hp,j4];simp at N;simp [N]
    ·simp at Z
   ·rename_i n e K;split at Z
    ·rename_i j6 hi;obtain⟨c_,N,h6⟩:=nG (place:=fun i=>aa (i*j6.size,j6.size)) H ((eC Z).kI fun q p W=>by
      simp only [atI,beq_iff_eq]at W;exact⟨by rw [W.1.2,W.1.1],W.2⟩) j5 a8
     refine⟨.agg c_.toArray,?_,c_,rfl,h6⟩;simp only [execOp,E];refine ef ?_;simp [Instr.build,i_,bf K,Go.sizeOf,typeInfo,hi,j4,N]
    ·simp at Z
   ·simp at Z
  ·simp at A
 case load k x=>
  simp only [dP]at A;split at A
  ·rename_i t y E;simp only [atI]at A;simp only [bu,at0,at1]at h;obtain⟨v',F,rfl,rfl⟩:=h;obtain⟨u,J,M⟩:=anQ hS A.1 (bT H A.2) F;exact⟨rfl,u,by simp only [execOp,E];exact ef J,M⟩
  ·simp at A
 case cj x=>
  simp only [dP]at A;split at A
  ·rename_i y E;have B:=bT H A;simp only [bu]at h;have f_:∀ ad,a.eval y=.pointer (aa ad)→(execOp a.eval o).run Q X.w=.ok (.value (a.eval y)) X.w:=by
    intro ad a_;simp [execOp,E,a_]
   split at h
   ·rename_i b off e Z;simp only [At,at1]at h;obtain⟨rfl,rfl⟩:=h;rw [Z]at B;have d_:=B;obtain⟨L,hL,B⟩:=B;split at B
    ·exact⟨rfl,_,f_ _ B,d_⟩
    ·obtain⟨_,_,ad,a_⟩:=B;exact⟨rfl,_,f_ _ a_,d_⟩
    ·exact B.elim
   ·rename_i cs off Z;simp only [At,at1]at h;obtain⟨rfl,rfl⟩:=h;rw [Z]at B;have d_:=B;have:∃ ad,a.eval y=.pointer (aa ad):=by
     generalize a.eval y=u at B;cases (B:cT σ X.F X.w (.fp cs off) u);exact⟨_,rfl⟩
    obtain⟨ad,a_⟩:=this;exact⟨rfl,_,f_ _ a_,d_⟩
   ·simp at h
  ·simp at A
 case bin op x y=>
  simp only [dP]at A;split at A
  ·rename_i j8 t x' y' yt E;simp only [atI,decide_eq_true_eq]at A;obtain⟨⟨rfl,B⟩,S⟩:=A;simp only [bu,at0,at1]at h;obtain⟨v',F,rfl,rfl⟩:=h;have B:=bT H B;have S:=bT H S;refine⟨rfl,?_⟩;have guard:∀ op,(∀ xs,a.eval x'≠.agg xs)→a.eval x'≠.nilIface→(eqGuard op t x' y' (a.eval x') (a.eval y')).run Q X.w=.ok () X.w:=by
    intro op J M;cases op<;>simp [eqGuard]<;>(generalize a.eval x'=ux at *;cases ux<;>simp at J M ⊢)
   unfold dp at F;split at F
   ·rename_i k n k' m J M;rw [J]at B;rw [M]at S;have B:=VR.int B;have S:=VR.int S;split at F
    ·simp at F
    ·rename_i A;simp only [At]at F;subst F;exact⟨_,by simp only [execOp,E];refine ef ?_;rw [Sem.run_bind,guard _ (by simp [B]) (by simp [B])];simp [B,S,binOp,Op.shift,A],VR.mkInt _ _⟩
   ·rename_i k n k' m J M;rw [J]at B;rw [M]at S;have B:=VR.int B;have S:=VR.int S;split at F
    ·simp at F
    ·rename_i A;simp only [At]at F;subst F;exact⟨_,by simp only [execOp,E];refine ef ?_;rw [Sem.run_bind,guard _ (by simp [B]) (by simp [B])];simp [B,S,binOp,Op.shift,A],VR.mkInt _ _⟩
   ·rename_i k n k' m _ _ J M;rw [J]at B;rw [M]at S;have B:=VR.int B;have S:=VR.int S;split at F
    ·rename_i hk;subst hk;obtain⟨u,Y,O,N⟩:=ait (Q:=Q) (σ:=σ) (X:=X) F X.w;exact⟨u,by simp only [execOp,E];refine ef ?_;rw [Sem.run_bind,guard _ (by simp [B]) (by simp [B])];simp [B,S,N,Y],O⟩
    ·simp at F
   ·rename_i s1 s2 J M;rw [J]at B;rw [M]at S;have B:=VR.str B;have S:=VR.str S;obtain⟨u,Y,O⟩:=aiv (Q:=Q) (σ:=σ) (X:=X) F X.w t;exact⟨u,by simp only [execOp,E];refine ef ?_;rw [Sem.run_bind,guard _ (by simp [B]) (by simp [B])];simp [B,S,Y],O⟩
   ·simp at F
  ·simp at A
 case eq neg k x y=>
  simp only [dP]at A;split at A
  ·rename_i j8 t x' y' yt E;simp only [atI,decide_eq_true_eq]at A;obtain⟨⟨⟨rfl,B⟩,S⟩,hk⟩:=A;simp only [bu,at0,at1]at h;obtain⟨b,F,rfl,rfl⟩:=h;refine⟨rfl,_,?_,VR.vY _⟩;simp only [execOp,E];exact ef (anp hk (bT H B) (bT H S) F neg X.w)
  ·simp at A
 case un op x=>
  simp only [dP]at A;split at A
  ·rename_i j8 t y E;simp only [atI,decide_eq_true_eq]at A;obtain⟨rfl,B⟩:=A;simp only [bu,at0,at1]at h;obtain⟨v',F,rfl,rfl⟩:=h;have B:=bT H B;refine⟨rfl,?_⟩;unfold unV at F;split at F
   ·rename_i k n J;rw [J]at B;have B:=VR.int B;simp only [At]at F;subst F;exact⟨_,by simp [execOp,E,B,Op.unary,Op.intArith],VR.mkInt _ _⟩
   ·rename_i b J;rw [J]at B;have B:=VR.bool B;simp only [At]at F;subst F;exact⟨_,by simp [execOp,E,B,Op.unary],VR.vY _⟩
   ·simp at F
  ·simp at A
 case fO k x=>
  simp only [dP]at A;split at A
  ·rename_i s d y E;simp only [atI]at A;obtain⟨⟨B,hs⟩,hd⟩:=A;have B:=bT H B;simp only [bu]at h;split at h
   ·rename_i q n J;rw [J]at B;have B:=VR.int B;simp only [At,at1]at h;obtain⟨rfl,rfl⟩:=h;split at hd
    ·rename_i k' K;simp only [decide_eq_true_eq]at hd;subst hd;obtain⟨ds,j9⟩:=Option.isSome_iff_exists.1 hs;exact⟨rfl,_,by simp only [execOp,E];refine ef ?_;simp [convert,bf j9,bf K,B,Conv.intToInt],VR.mkInt _ _⟩
    ·simp at hd
   ·simp at h
  ·simp at A
 case xz x=>
  simp only [dP]at A;split at A
  ·rename_i s d y E;simp only [atI]at A;obtain⟨B,hd⟩:=A;have B:=bT H B;simp only [bu]at h;split at h
   ·rename_i q J;rw [J]at B;have B:=VR.str B;simp only [At,at1]at h;obtain⟨rfl,rfl⟩:=h;split at hd
    ·rename_i i4 i5;exact⟨rfl,_,by simp only [execOp,E];refine ef ?_;simp [convert,bf i4,bf i5,B],VR.mkStr _⟩
    ·simp at hd
   ·simp at h
  ·simp at A
 case fP f xs=>
  simp only [dP]at A;split at A
  ·rename_i g fst a7 E;simp only [atI,beq_iff_eq]at A;obtain⟨⟨I,rfl⟩,B⟩:=A;simp only [bu,at0,at1]at h;obtain⟨cs,a8,rfl,rfl⟩:=h;have:=Bx (mW H B) a8;have i8:fst=#[]:=by simpa using I
   exact⟨rfl,.func (.func (σ f)) #[] (a7.map a.eval),by simp only [execOp,E,Instr.makeFunc,i8];exact ef (by simp),(a7.map a.eval).toList,congrArg _ Array.toArray_toList.symm,this⟩
  ·simp at A
 case slice sz x lo hi mx=>
  simp only [dP]at A;split at A
  ·rename_i t y j7 i9 mx' E;simp only [atI,decide_eq_true_eq]at A;obtain⟨⟨⟨⟨⟨B,J⟩,M⟩,Y⟩,he⟩,hz⟩:=A;obtain⟨e,K,U⟩:=iB he;simp only [bu,at0,at1]at h;obtain⟨v',F,rfl,rfl⟩:=h;obtain⟨r,O,N⟩:=zv hS K U (bT H B) (sJ H J) (sJ H M) (sJ H Y) F;exact⟨rfl,r,by simp only [execOp,E];exact ef O,N⟩
  ·simp at A
 case nm n sz x lo hi mx=>
  simp only [dP]at A;split at A
  ·rename_i t y j7 i9 mx' E;simp only [atI,decide_eq_true_eq]at A;obtain⟨⟨⟨⟨⟨B,J⟩,M⟩,Y⟩,he⟩,hz⟩:=A;split at he
   ·rename_i n' e K;simp only [atI,beq_iff_eq]at he;obtain⟨rfl,U⟩:=he;simp only [bu,at0,at1]at h;obtain⟨v',F,rfl,rfl⟩:=h;obtain⟨r,O,N⟩:=QL hS K U (bT H B) (sJ H J) (sJ H M) (sJ H Y) F;exact⟨rfl,r,by simp only [execOp,E];exact ef O,N⟩
   ·simp at he
  ·simp at A
 case oB x lo hi=>
  simp only [dP]at A;split at A
  ·rename_i t y j7 i9 E;simp only [atI]at A;obtain⟨⟨⟨B,J⟩,M⟩,he⟩:=A;split at he
   ·rename_i K;simp only [bu,at0,at1]at h;obtain⟨v',F,rfl,rfl⟩:=h;obtain⟨r,O,N⟩:=QN K (bT H B) (sJ H J) (sJ H M) F X.w;exact⟨rfl,r,by simp only [execOp,E,Option.map_none];exact ef O,N⟩
   ·simp at he
  ·simp at A
 case aU off x=>
  simp only [dP]at A;split at A
  ·rename_i t y i E;simp only [atI]at A;obtain⟨B,I⟩:=A;split at I
   ·rename_i fs K;split at I
    ·rename_i f g_;simp only [atI,beq_iff_eq]at I;obtain⟨rfl,hz⟩:=I;simp only [bu,at0,at1]at h;obtain⟨v',F,rfl,rfl⟩:=h;obtain⟨r,O,N⟩:=D1 K g_ hz (bT H B) F X.w;exact⟨rfl,r,by simp only [execOp,E];exact ef O,N⟩
    ·simp at I
   ·simp at I
  ·simp at A
 case field off n x=>
  simp only [dP]at A;split at A
  ·rename_i t y i E;simp only [atI]at A;obtain⟨B,I⟩:=A;split at I
   ·rename_i fs K;split at I
    ·rename_i f g_;simp only [atI,beq_iff_eq]at I;obtain⟨rfl,hz⟩:=I;simp only [bu,at0,at1]at h;obtain⟨v',F,rfl,rfl⟩:=h;obtain⟨r,O,N⟩:=PL K g_ hz (bT H B) F X.w;exact⟨rfl,r,by simp only [execOp,E];exact ef O,N⟩
    ·simp at I
   ·simp at I
  ·simp at A
 case bI sz i6 x i=>
  simp only [dP]at A;split at A
  ·rename_i t y j E;simp only [atI]at A;obtain⟨⟨B,hi⟩,I⟩:=A;simp only [bu,at0,at1]at h;obtain⟨v',F,rfl,rfl⟩:=h;have:∃ e,dA Q e sz=ae∧((i6=ab∧Q.underlying t=aa (.slice e))∨∃ n,i6=aa n∧Q.underlying t=aa (.array n e)):=by
    split at I
    ·rename_i e K;exact⟨e,I,.inl ⟨rfl,K⟩⟩
    ·rename_i n e n' K;simp only [atI,beq_iff_eq]at I;obtain⟨rfl,U⟩:=I;exact⟨e,U,.inr ⟨_,rfl,K⟩⟩
    ·simp at I
   obtain⟨e,U,K⟩:=this;obtain⟨r,O,N⟩:=D_ U K (bT H B) (bT H hi) F;exact⟨rfl,r,by simp only [execOp,E];exact ef O,N⟩
  ·simp at A
 case idxs x i=>
  simp only [dP]at A;split at A
  ·rename_i t y j E;simp only [atI]at A;obtain⟨⟨B,hi⟩,I⟩:=A;simp only [bu,at0,at1]at h;obtain⟨v',F,rfl,rfl⟩:=h;split at I
   ·rename_i K;obtain⟨r,O,N⟩:=ab5 K (bT H B) (bT H hi) F X.w;exact⟨rfl,r,by simp only [execOp,E];exact ef O,N⟩
   ·simp at I
  ·simp at A
 case xB n sz k x i=>
  simp only [dP]at A;split at A
  ·rename_i t y j E;simp only [atI]at A;obtain⟨⟨B,hi⟩,I⟩:=A;simp only [bu,at0,at1]at h;obtain⟨v',F,rfl,rfl⟩:=h;split at I
   ·rename_i n' e K;simp only [atI,beq_iff_eq]at I;obtain⟨⟨rfl,U⟩,hk⟩:=I;obtain⟨r,O,N⟩:=ab4 K U hk (bT H B) (bT H hi) F X.w;exact⟨rfl,r,by simp only [execOp,E];exact ef O,N⟩
   ·simp at I
  ·simp at A
 case lookup ck z m k=>
  simp only [dP]at A;split at A
  ·rename_i t m' k' ok E;simp only [atI,beq_iff_eq]at A;obtain⟨⟨⟨J,M⟩,j_⟩,I⟩:=A;simp only [bu,at0,at1]at h;obtain⟨v',F,rfl,rfl⟩:=h;split at I
   ·rename_i kt e K;simp only [atI]at I;obtain⟨u,O,N⟩:=Qa hS K I.1.1 j_ I.1.2 I.2 (bT H J) (bT H M) F;exact⟨rfl,u,by simp only [execOp,E];exact ef O,N⟩
   ·simp at I
  ·simp at A
 case extract x i=>
  simp only [dP]at A;split at A
  ·rename_i y j E;simp only [atI,beq_iff_eq]at A;obtain⟨B,rfl⟩:=A;have B:=bT H B;simp only [bu]at h;split at h
   ·rename_i vs m4;rw [m4]at B;simp only [at0,at1]at h;obtain⟨v',F,rfl,rfl⟩:=h;obtain⟨us,d9,M⟩:=B;obtain⟨u,K,m9⟩:=M.get F;exact⟨rfl,u,by simp only [execOp,E];refine ef ?_;simp [Instr.extract,d9,K],VR.of1 σ m9⟩
   ·simp at h
  ·simp at A
 case nZ n=>
  simp only [dP]at A;split at A
  ·rename_i c E;obtain⟨y,t,e,J,M,Y,K⟩:=Ek A;simp only [bu,At,at1]at h;obtain⟨rfl,rfl⟩:=h;exact⟨rfl,_,dw E J (fun cs=>by simp [builtin,M,Y,Builtin.len_,bf K,goInt]),VR.mkInt _ _⟩
  ·simp at A
 case lens x=>
  simp only [dP]at A;split at A
  ·rename_i c E;obtain⟨y,t,J,M,Y,B,K⟩:=El A;have B:=bT H B;simp only [bu]at h;split at h
   ·rename_i s hs;rw [hs]at B;have B:=VR.str B;simp only [At,at1]at h;obtain⟨rfl,rfl⟩:=h;exact⟨rfl,_,dw E J (fun cs=>by simp [builtin,M,Y,Builtin.len_,bf K,B,goInt]),VR.mkInt _ _⟩
   ·simp at h
  ·simp at A
 case len x=>
  simp only [dP]at A;split at A
  ·rename_i c E;obtain⟨y,t,e,J,M,Y,B,K⟩:=Qc A;have B:=bT H B;simp only [bu]at h;split at h
   ·rename_i z hz;rw [hz]at B;split at h
    ·rename_i n hn;simp only [At,at1]at h;obtain⟨rfl,rfl⟩:=h;obtain⟨ad,cp,h_⟩:=iQ B hn;exact⟨rfl,_,dw E J (fun cs=>by simp [builtin,M,Y,Builtin.len_,bf K,h_,goInt]),VR.mkInt _ _⟩
    ·simp at h
   ·simp at h
  ·simp at A
 case gR lo xs=>
  simp only [dP]at A;split at A
  ·rename_i c E;obtain⟨J,M⟩:=Em A;have hA:=mW H M;simp only [bu,at0,at1]at h;obtain⟨v',F,rfl,rfl⟩:=h;refine⟨rfl,?_⟩;unfold xG at F;split at F
   ·simp at F
   ·rename_i x ys m_;rw [m_]at hA
    match d9:(c.args.map a.eval).toList,hA with
    | [],hA=>have:=hA.len;simp at this
    | u::us,hA=>
     obtain⟨B,hA⟩:=hA.of_cons;obtain⟨r,g1,g2⟩:=Ch (Q:=Q) (lo:=lo) X.w B hA F;refine⟨r,dw E J (fun cs=>?_),g2⟩;cases lo
     ·simp only [aub,if_false]at g1 ⊢;have g1:(us.foldlM Builtin.max2 u).run Q X.w=.ok r X.w:=g1;have b_:List.map a.eval c.args.toList=u::us:=by simpa using d9
      simp [builtin,Builtin.max_,b_,g1]
     ·simp only [if_true]at g1 ⊢;have g1:(us.foldlM Builtin.min2 u).run Q X.w=.ok r X.w:=g1;have b_:List.map a.eval c.args.toList=u::us:=by simpa using d9
      simp [builtin,Builtin.min_,b_,g1]
  ·simp at A
 case cap x=>
  simp only [dP]at A;split at A
  ·rename_i c E;obtain⟨y,t,e,J,M,Y,B,K⟩:=Qb A;have B:=bT H B;simp only [bu]at h;split at h
   ·rename_i z hz;rw [hz]at B;split at h
    ·rename_i n hn;simp only [At,at1]at h;obtain⟨rfl,rfl⟩:=h;obtain⟨ad,l,h_⟩:=adl B hn;exact⟨rfl,_,dw E J (fun cs=>by simp [builtin,M,Y,Builtin.cap_,bf K,h_,goInt]),VR.mkInt _ _⟩
    ·simp at h
   ·simp at h
  ·simp at A
 case entry x=>
  simp only [dP]at A;split at A
  ·rename_i y E;simp only [bu,at0,at1]at h;obtain⟨v',F,rfl,rfl⟩:=h;obtain⟨r,g1,g2⟩:=PI hS (bT H A) F;exact⟨rfl,r,by simp only [execOp,E];exact ef g1,g2⟩
  ·simp at A
 case mZ f xs=>
  simp only [dP]at A;split at A
  ·rename_i g fst a7 E;simp only [atI,beq_iff_eq]at A;obtain⟨⟨I,rfl⟩,B⟩:=A;simp only [bu,at0,at1]at h;obtain⟨cs,a8,rfl,rfl⟩:=h;have:=Bx (mW H B) a8;have i7:a7=#[]:=by simpa using I
   exact⟨rfl,.func (.func (σ f)) (fst.map a.eval) #[],by simp only [execOp,E,Instr.makeFunc,i7];exact ef (by simp),(fst.map a.eval).toList,by rw [Array.toArray_toList],this⟩
  ·simp at A
 case call f args h'=>cases h'<;>simp [cls]at hc
 case xy x=>
  simp only [dP]at A;split at A
  ·rename_i s d y E;simp only [atI]at A;obtain⟨B,hd⟩:=A;have B:=bT H B;split at hd
   ·rename_i e i4 i5;simp only [atI]at hd;have l_:Q.underlying e=aa (.int .u8):=by
     have:=hd.1;unfold aqN at this;split at this
     ·assumption
     ·simp at this
    simp only [bu,at0,at1]at h;obtain⟨v',F,rfl,rfl⟩:=h;obtain⟨u,O,N⟩:=abD hS B F;refine⟨rfl,u,?_,N⟩;simp only [execOp,E];refine ef ?_;simp only [convert,Sem.run_bind,bf i4,bf i5,Result.andThen_ok];have:∃ ad l c,a.eval y=.slice ad l c:=by
     unfold ot at F;split at F
     ·rename_i z hz;rw [hz]at B;split at F
      ·rename_i l hl;obtain⟨ad,c,h⟩:=iQ B hl;exact⟨_,_,_,h⟩
      ·simp at F
     ·simp at F
    obtain⟨ad,l,c,h6⟩:=this;rw [h6]at O ⊢;simp only [Sem.run_bind,bf l_,Result.andThen_ok,O]
   ·simp at hd
  ·simp at A
end
section
variable{Q:Program}{σ:Nat→FuncId}{X:Wd}
theorem SR.lt(d:SR Q σ X){b:Nat}{L:Loc}(h:X.cB b=aa L):b<X.H.length:=by
 obtain⟨_,_,bq,g,_⟩:=d.br b L h;exact(atu.1 g).1
theorem SR.sA(b:SR Q σ X):X.cB X.H.length=ab:=by
 cases h:X.cB X.H.length with
 | none=>rfl| some L=>have:=SR.lt b h;omega
theorem Ext.one(A:SR Q σ X){X':Wd}(b0:Nat)(y:X'.B=X.B)(v:∀ c i,X'.F c i↔X.F c i)
  (x:∀ k,k<X.w.heap.size→(∀ L,X.cB b0=aa L→k≠L.c)→X'.w.heap[k]?=X.w.heap[k]?)
  (s:∀ L i,X.cB b0=aa L→X.F L.c i→X'.w.cell? ⟨L.c,i,ab⟩=X.w.cell? ⟨L.c,i,ab⟩) (j:b0<X.H.length→mn X X' b0)
  (z:∀ b,b≠b0→b<X.H.length→X'.H[b]?=X.H[b]?) (d:∀ b,b≠b0→X'.cB b=X.cB b)
  (u:∀ L,X'.cB b0=aa L→(∃ q,X.cB b0=aa q∧q.c=L.c)∨X.w.heap.size≤L.c) (I:X.w.heap.size≤X'.w.heap.size) (ho:X'.w.os=X.w.os) (J:X'.w.tape=X.w.tape)
  (hu:X'.w.output=X.w.output):Ext X.H.length X X' where
 B:=y
 F:=fun c i h=>(v c i).2 h
 pz:=fun c i h=>.inl ((v c i).1 h)
 fw:=fun c i h=>by
  by_cases hc:∃ L,X.cB b0=aa L∧c=L.c
  ·obtain⟨L,g,rfl⟩:=hc;exact s L i g h
  ·exact World.cell?_of_block (x c (A.fb c i h) fun L g e=>hc ⟨L,g,e⟩)
 cM:=fun b l=>by
  by_cases h:b=b0
  ·subst h;exact j l
  ·intro bq m;refine⟨bq,(z b h l).trans m,?_⟩;have:∀ L,X.cB b=aa L→X'.cB b=aa L:=fun L g=>(d b h).trans g;cases bq<;>simp_all
 yT:=fun b L l=>by
  by_cases h:b=b0
  ·subst h;rcases u L l with⟨q,h1,h2⟩ | h1
   ·exact .inl ⟨b,q,h1,h2⟩
   ·exact .inr h1
  ·rw [d b h]at l;exact .inl ⟨b,L,l,rfl⟩
 size:=I
 os:=ho
 tape:=J
 output:=hu
 frame:=fun k E H=>x k E fun L g e=>H b0 L g e.symm
theorem SR.grow(d:SR Q σ X)(bq:bz):SR Q σ { X with H:=X.H++[bq] }∧Ext X.H.length X { X with H:=X.H++[bq] }:=by
 have j:Ext X.H.length X { X with H:=X.H++[bq] }:=Ext.one d X.H.length rfl (fun _ _=>Iff.rfl) (fun _ _ _=>rfl) (fun _ _ _ _=>rfl) (fun h=>by omega)
  (fun b _ h=>by simp [anc h]) (fun _ _=>rfl) (fun L h=>by rw [SR.sA d]at h;simp at h) (at3 _) rfl rfl rfl
 refine⟨⟨fun b L g=>?_,d.inj,d.fb⟩,j⟩;obtain⟨h1,h2,blk',h3,h4⟩:=d.br b L g;exact⟨h1,h2,blk',by rw [anc (SR.lt d g)];exact h3,BR.ext Q σ j rfl (fun _ h=>h) h4⟩
structure dW(w w':World)(o:Obj):Prop where
 heap:w'.heap=w.heap.push o
 os:w'.os=w.os
 tape:w'.tape=w.tape
 output:w'.output=w.output
theorem dW.alloc(w:World)(o:Obj):dW w (w.alloc o) o:=⟨rfl,rfl,rfl,rfl⟩
theorem dW.Dn{w w':World}{o:Obj}(h:dW w w' o){k:Nat}(b:k<w.heap.size):w'.heap[k]?=w.heap[k]?:=by
 rw [h.heap,Array.getElem?_push,aY (by omega)]
theorem dW.new{w w':World}{o:Obj}(h:dW w w' o):w'.heap[w.heap.size]?=aa o:=by
 rw [h.heap];simp
theorem dW.size{w w':World}{o:Obj}(h:dW w w' o):w'.heap.size=w.heap.size+1:=by
 rw [h.heap];simp
theorem SR.fill(g:SR Q σ X)(x:X.B≤X.w.heap.size){n:Nat}{bq:bz}(y:X.H[n]?=aa bq)(hr:X.cB n=ab){w':World}{o:Obj}(d:dW X.w w' o)(cap:Nat)
  (m:Ext X.H.length X { X with cB:=fun b=>if b=n then aa ⟨X.w.heap.size,cap⟩else X.cB b,w:=w' }→BR Q σ { X with cB:=fun b=>if b=n then aa ⟨X.w.heap.size,cap⟩else X.cB b,w:=w' } bq ⟨X.w.heap.size,cap⟩) :
  SR Q σ { X with cB:=fun b=>if b=n then aa ⟨X.w.heap.size,cap⟩else X.cB b,w:=w' }∧Ext X.H.length X { X with cB:=fun b=>if b=n then aa ⟨X.w.heap.size,cap⟩else X.cB b,w:=w' }:=by
 have q:Ext X.H.length X { X with cB:=fun b=>if b=n then aa ⟨X.w.heap.size,cap⟩else X.cB b,w:=w' }:=
  Ext.one g n rfl (fun _ _=>Iff.rfl) (fun k h _=>d.Dn h) (fun L i u _=>by rw [hr]at u;simp at u)
   (fun _ s l=>⟨s,l,by
    cases s<;>simp [hr]⟩)
   (fun _ _ _=>rfl) (fun b h=>by simp [h]) (fun L h=>by simp at h;subst h;exact .inr (at3 _)) (by rw [d.size];omega) d.os d.tape d.output
 refine⟨SR.step Q σ g q n (fun _ _=>rfl) (fun b h=>by simp [h]) (fun b L _ j=>d.Dn (g.br b L j).2.1) (fun _ _ _ _ _ h=>h) (fun L h=>?_) (fun c i h=>by rw [d.size];have:=g.fb c i h;omega),q⟩;simp at h;subst h;refine⟨x,by simp [d.size],⟨bq,y,m q⟩,fun b v _ j=>?_⟩;have:=(g.br b v j).2.1;simp;omega
theorem SR.new(d:SR Q σ X)(j:X.B≤X.w.heap.size)(bq:bz){w':World}{o:Obj}(g:dW X.w w' o)(cap:Nat)
  (b:∀ X',Ext X.H.length X X'→X'.w=w'→X'.F=X.F→X'.H=X.H++[bq]→BR Q σ X' bq ⟨X.w.heap.size,cap⟩) :
  ∃ X',X'.w=w'∧X'.H=X.H++[bq]∧SR Q σ X'∧Ext X.H.length X X'∧X'.cB X.H.length=aa ⟨X.w.heap.size,cap⟩∧X'.B≤X'.w.heap.size:=by
 obtain⟨h1,h2⟩:=SR.grow d bq;have l:(X.H++[bq])[X.H.length]?=aa bq:=by simp
 obtain⟨h3,h4⟩:=SR.fill h1 j l (SR.sA d) g cap (fun m=>b _ (h2.trans (m.mono (by simp))) rfl rfl rfl);exact⟨_,rfl,rfl,h3,h2.trans (h4.mono (by simp)),by simp,by simp [g.size];omega⟩
theorem SR.adQ(m:SR Q σ X){b:Nat}{bq blk':bz}{L:Loc}(A:X.H[b]?=aa bq)(l:X.cB b=aa L){w':World}(x:w'.heap.size=X.w.heap.size)
  (y:∀ k,k≠L.c→w'.heap[k]?=X.w.heap[k]?) (z:∀ i,X.F L.c i→w'.cell? ⟨L.c,i,ab⟩=X.w.cell? ⟨L.c,i,ab⟩) (ho:w'.os=X.w.os) (B:w'.tape=X.w.tape) (hu:w'.output=X.w.output)
  (j:mn X { X with H:=X.H.set b blk',w:=w' } b)
  (s:Ext X.H.length X { X with H:=X.H.set b blk',w:=w' }→BR Q σ { X with H:=X.H.set b blk',w:=w' } blk' L) :
  SR Q σ { X with H:=X.H.set b blk',w:=w' }∧Ext X.H.length X { X with H:=X.H.set b blk',w:=w' }:=by
 have u:b<X.H.length:=(atu.1 A).1;have v:Ext X.H.length X { X with H:=X.H.set b blk',w:=w' }:=
  Ext.one m b rfl (fun _ _=>Iff.rfl) (fun k _ h=>y k (h L l)) (fun d i h=>by rw [l]at h;cases h;exact z i) (fun _=>j)
   (fun q h _=>by simp [aft (Ne.symm h)]) (fun _ _=>rfl) (fun d h=>.inl ⟨d,h,rfl⟩) (Nat.le_of_eq x.symm) ho B hu
 refine⟨SR.step Q σ m v b (fun q h=>by simp [aft (Ne.symm h)]) (fun _ _=>rfl) (fun q d h g=>y _ fun e=>h (m.inj q b d L g l e)) (fun _ _ _ _ _ h=>h)
  (fun d h=>?_) (fun c i h=>by rw [x];exact m.fb c i h),v⟩
 change X.cB b=aa d at h;rw [l]at h;cases h;obtain⟨h1,h2,_⟩:=m.br b L l;exact⟨h1,by show L.c<w'.heap.size;omega,⟨blk',by simp [u],s v⟩,fun q d h g e=>h (m.inj q b d L g l e)⟩
theorem eb{w:World}{c:Nat}{us:List Value}(h:rowAt w c us):∀(b:List Value) (off:Nat),off+b.length≤us.length →
  (w.setCells c off b).heap.size=w.heap.size∧(∀ k,k≠c→(w.setCells c off b).heap[k]?=w.heap[k]?)∧(w.setCells c off b).os=w.os∧(w.setCells c off b).tape=w.tape ∧
  (w.setCells c off b).output=w.output∧rowAt (w.setCells c off b) c (bp us off b)
 | [],off,_=>⟨rfl,fun _ _=>rfl,rfl,rfl,rfl,by simpa [World.setCells,bp]using h⟩
 | v::b,off,j=>by
  simp only [auo]at j;have d:rowAt (w.setCell ⟨c,off,ab⟩ v) c (us.set off v):=by
   obtain⟨e,m,d,g⟩:=h;refine⟨e,m,?_,by simpa using g⟩;simp [World.setCell,Array.getElem?_modify,d]
  obtain⟨g,q,s,u,x,y⟩:=eb d b (off+1) (by simp;omega);simp only [World.setCells];refine⟨by rw [g];simp,fun k l=>(q k l).trans ?_,s,u,x,?_⟩
  ·simp only [World.setCell,Array.getElem?_modify];rw [aY (by simpa using Ne.symm l)]
  ·have:bp (us.set off v) (off+1) b=bp us off (v::b):=by
    unfold bp;simp only [auo];rw [List.take_set,List.drop_set_of_lt (by omega),show off+1+b.length=off+(b.length+1) by omega];rw [List.take_succ_eq_append_getElem (by omega)];have j:(List.take off us).length=off:=by simp;omega
    have e:(List.take off us++[us[off]]).set off v=List.take off us++[v]:=by
     rw [List.set_append,aY (by omega),j];simp
    rw [e];simp
   rw [←this];exact y
theorem sE{w:World}{c:Nat}{us:List Value}(h:rowAt w c us)(b:List Value)(off:Nat)(l:off+b.length≤us.length)(d:∀ v ∈ b,v.oneCell'=ae) :
  (storeCells ⟨c,off,ab⟩ b).run Q w=.ok () (w.setCells c off b):=by
 have:=run_storeCells_cells (P:=Q) c off b 0 w (fun j g=>by rw [dt h];simp;omega) (fun j g=>D4 h (by omega)) d;simpa using this
theorem Cq{α:Type}(us:List α)(off:Nat)(b:List α)(h:off+b.length≤us.length)(i:Nat)(hi:i<off):(bp us off b)[i]?=us[i]?:=by
 unfold bp;rw [anc (by simp;omega),anc (by simp;omega),auD];simp [hi]
end
section
variable{Q:Program}{σ:Nat→FuncId}{X:Wd}
def ig(Q:Program)(σ:Nat→FuncId)(X:Wd)(v:V)(H':aj)(s:Sem Next):Prop:=
 ∃ u X',(s.run Q X.w=.ok (.value u) X'.w∨(s.run Q X.w=.ok .skip X'.w∧u=undef))∧X'.H=H'∧SR Q σ X'∧VR σ X' v u∧Ext X.H.length X X'∧X'.B≤X'.w.heap.size
theorem ig.aq1(b:X.B≤X.w.heap.size)(d:SR Q σ X){v:V}{H':aj}{s:Sem Next}(h:H'=X.H∧∃ u,s.run Q X.w=.ok (.value u) X.w∧VR σ X v u):ig Q σ X v H' s:=by
 obtain⟨rfl,u,h1,h2⟩:=h;exact⟨u,X,.inl h1,rfl,d,h2,Ext.refl _ _,b⟩
theorem jv{w w':World}{us:List Value}{e:TypeId}(h:dW w w' (.cells us.toArray e)):rowAt w' w.heap.size us:=⟨e,(0,0),h.new,fun i _=>by simp⟩
theorem Ez(b:SR Q σ X)(g:X.B≤X.w.heap.size){cs:List C}{us:List Value}(h:A2 (CR σ X) cs us)(e:TypeId) :
  ∃ X',X'.w=X.w.alloc (.cells us.toArray e)∧X'.H=X.H++[.box cs 0]∧SR Q σ X'∧Ext X.H.length X X'∧X'.cB X.H.length=aa ⟨X.w.heap.size,0⟩∧X'.B≤X'.w.heap.size:=
 SR.new b g (.box cs 0) (dW.alloc _ _) 0 fun X' m l j _=>⟨us,by rw [l];exact jv (dW.alloc _ _),A2.ext' σ m h,fun i _ d=>by
  rw [j]at d;have:=b.fb _ _ d;simp at this⟩
theorem wc(u:SR Q σ X)(q:X.B≤X.w.heap.size){cs:List C}{us:List Value}(h:A2 (CR σ X) cs us)(e:TypeId){s:Sem Next}
  (v:s.run Q X.w=.ok (.value (.pointer (aa ⟨X.w.heap.size,0,ab⟩))) (X.w.alloc (.cells us.toArray e))):ig Q σ X (.c (.ptr X.H.length 0 0)) (X.H++[.box cs 0]) s:=by
 obtain⟨X',d,b,g,j,l,m⟩:=Ez u q h e;refine⟨_,X',.inl (by rw [d];exact v),b,g,?_,j,m⟩;exact⟨_,l,by rw [b];simp⟩
theorem abf(m:SR Q σ X)(l:X.B≤X.w.heap.size){a:Act}{o:Oper}{zs:List FC}(b:dP Q σ o (.alloc zs)=ae) :
  ig Q σ X (.c (.ptr X.H.length 0 0)) (X.H++[.box (zs.map .f) 0]) (execOp a.eval o):=by
 simp only [dP]at b;split at b
 ·rename_i t q;obtain⟨z,us,d,g,j,_⟩:=eO (σ:=σ) (X:=X) b X.w;refine wc m l j t ?_;simp only [execOp,q];refine ef ?_;simp [Instr.alloc,d,newVar,newRow,g]
 ·simp at b
theorem ane(m:SR Q σ X)(j:X.B≤X.w.heap.size){a:Act}{aB:T}(l:RR σ X aB a.tmps){o:Oper}{x:Arg}(b:dP Q σ o (.box x)=ae){xs:List C}(s:(x.ev aB).cells?=aa xs) :
  ig Q σ X (.c (.ptr X.H.length 0 0)) (X.H++[.box xs 0]) (execOp a.eval o):=by
 simp only [dP]at b;split at b
 ·rename_i t y q;obtain⟨us,d,g⟩:=pH (bT l b) s;refine wc m j g t ?_;simp only [execOp,q];refine ef ?_;simp [Instr.box,newVar,newRow,d]
 ·simp at b
theorem jO{zs:List FC}{us:List Value}(h:A2 (CR σ X) (zs.map .f) us)(n:Nat):A2 (CR σ X) ((cE n zs).map .f) (cE n us):=by
 induction n with
 | zero=>exact A2.nil
 | succ n b=>
  simp only [cE,List.replicate_succ,List.flatten_cons,List.map_append]at b ⊢;exact h.append b
theorem lD{α:Type}(n:Nat)(xs:List α):(cE n xs).length=n*xs.length:=by simp [cE]
theorem CL{α:Type}(us:List α):∀(n i:Nat),i<n*us.length→(cE n us)[i]?=us[i % us.length]?
 | 0,i,h=>by simp at h
 | n+1,i,h=>by
  have b:cE (n+1) us=us++cE n us:=by simp [cE,List.replicate_succ]
  rw [b];by_cases hi:i<us.length
  ·rw [anc hi,Nat.mod_eq_of_lt hi]
  ·have d:(n+1)*us.length=n*us.length+us.length:=by rw [auF];omega
   rw [atZ (by omega),CL us n (i-us.length) (by omega)];rw [←Nat.mod_eq_sub_mod (by omega)]
theorem iS(us:List Value)(n:Nat)(q:0<us.length):((Array.range (n*us.length)).map fun i=>us.toArray[i % us.toArray.size]!)=(cE n us).toArray:=by
 apply Array.ext
 ·simp [lD]
 ·intro i g j;have l:i<n*us.length:=by simpa using g
  have b:=CL us n i l;have d:i % us.length<us.length:=Nat.mod_lt _ q;have m:i<(cE n us).length:=by simpa using j
  rw [asZ m,asZ d,At]at b;simp [b,d]
theorem Pd(d:SR Q σ X)(hB:X.B≤X.w.heap.size){a:Act}{aB:T}(hR:RR σ X aB a.tmps){o:Oper}{sz n:Nat}{zs:List FC}{ps:List (Nat × Arg)}
  (m:dP Q σ o (.bH sz zs n ps)=ae) {v:V} {H':aj} (h:bu aB X.H (.bH sz zs n ps)=aa (v,H')):ig Q σ X v H' (execOp a.eval o):=by
 simp only [dP]at m;split at m
 ·rename_i t l qs Y;simp only [atI,beq_iff_eq,decide_eq_true_eq]at m;obtain⟨⟨⟨⟨rfl,U⟩,B⟩,f⟩,Z⟩:=m;obtain⟨e,r,B⟩:=iB B;simp only [atI,decide_eq_true_eq]at B;obtain⟨⟨u,hz⟩,a7⟩:=B;obtain⟨z,us,N,O,x,_⟩:=eO (σ:=σ) (X:=X) hz X.w;have M:us.length=sz:=by have:=x.len;simp at this;omega
  simp only [bu]at h;split at h
  ·
   rename_i W;subst W;split at h
   ·rename_i s;simp only [At,at1]at h;obtain⟨rfl,rfl⟩:=h;have j:qs.toList=[]:=by
     have:=(eC Z).len;simp only [List.isEmpty_iff]at s;rw [s]at this;exact aud this.symm
    have j:qs=#[]:=by apply Array.ext';simpa using j
    obtain⟨X',E,A,F,H,S,I⟩:∃ X':Wd,X'.w=X.w.alloc (.cells #[] e)∧X'.H=X.H∧SR Q σ X'∧Ext X.H.length X X'∧True∧X'.B≤X'.w.heap.size:=by
     have hx:Ext X.H.length X { X with w:=X.w.alloc (.cells #[] e) }:=Ext.one d X.H.length rfl (fun _ _=>Iff.rfl) (fun k hk _=>(dW.alloc _ _).Dn hk)
      (fun L i h=>by rw [SR.sA d]at h;simp at h) (fun h=>by omega) (fun _ _ _=>rfl) (fun _ _=>rfl) (fun L h=>by rw [SR.sA d]at h;simp at h) (by simp) rfl rfl rfl
     refine⟨{ X with w:=X.w.alloc (.cells #[] e) },rfl,rfl,SR.step Q σ d hx X.H.length (fun _ _=>rfl) (fun _ _=>rfl) (fun b L _ hb=>(dW.alloc _ _).Dn (d.br b L hb).2.1)
      (fun _ _ _ _ _ h=>h) (fun L h=>by rw [SR.sA d]at h;simp at h) (fun c i h=>?_),hx,trivial,?_⟩
     ·have:=d.fb c i h;simp;omega
     ·simp;omega
    refine⟨.slice (aa ⟨X.w.heap.size,0,ab⟩) 0 0,X',.inl ?_,A,F,cT.es _,H,I⟩;rw [E];simp only [execOp,Y];refine ef ?_;simp [Instr.buildSlice,bf r,dg u,j,Instr.fill,newRow,show Array.range 0=(#[]:Array Nat) from rfl]
   ·simp at h
  ·rename_i W;simp only [at0,at1]at h;obtain⟨cs,J,rfl,rfl⟩:=h;obtain⟨a8,S,I⟩:=nG (place:=fun i=>aa (i*sz,sz)) (ps:=qs.toList) hR (qs:=ps.map fun p=>(p.1*sz,sz,p.2)) (A2.map ((eC Z).kI fun q p g=>by
    simp only [atI,beq_iff_eq]at g;exact⟨by rw [g.1],g.2⟩)) (jO x l) J
   obtain⟨X',E,A,F,H,h7,h8⟩:=Ez d hB I e;refine⟨.slice (aa ⟨X.w.heap.size,0,ab⟩) l l,X',.inl ?_,A,F,?_,H,h8⟩
   ·rw [E];simp only [execOp,Y];refine ef ?_;have K:l*sz≠0:=by
     intro h0;rcases avX.1 h0 with h0 | h0<;>omega
    have y:=iS us l (by omega);rw [M]at y;simp only [Instr.buildSlice,Sem.run_bind,bf r,dg u,Result.andThen_ok,aY (show¬ l*sz>2 ^ 24 by omega),Sem.run_ite,aY K,N,Sem.run_pure,O];simp only [Array.toList_map];rw [y];simp [S,newRow]
   ·simp only [VR,hZ,CR,fj,A];simp;exact⟨_,h7,rfl⟩
 ·simp at m
theorem F6:∀ {cs:List C} {b:List FC},fcL cs=aa b→cs=b.map .f
 | [],b,h=>by simp [fcL]at h;subst h;rfl
 | c::cs,b,h=>by
  cases c with
  | f x=>
   simp only [fcL,at0]at h;obtain⟨g,d,rfl⟩:=h;rw [F6 d];rfl
  | _=>simp [fcL]at h
theorem yO(y:SR Q σ X)(hB:X.B≤X.w.heap.size){a:Act}{aB:T}(hR:RR σ X aB a.tmps){o:Oper}{sz n:Nat}{zs:List FC}{ps:List (Nat × Arg)}
  (K:dP Q σ o (.fJ sz zs n ps)=ae) {v:V} {H H':aj} (h:bu aB H (.fJ sz zs n ps)=aa (v,H')) :
  H'=H∧∃ u X',(execOp a.eval o).run Q X.w=.ok (.value u) X'.w∧X'.H=X.H∧SR Q σ X'∧VR σ X' v u∧Ext X.H.length X X'∧X'.B≤X'.w.heap.size∧X'.cB=X.cB:=by
 simp only [dP]at K;split at K
 ·rename_i t j qs ho;simp only [atI,beq_iff_eq,decide_eq_true_eq]at K;obtain⟨⟨⟨⟨rfl,a_⟩,U⟩,b9⟩,hq⟩:=K;obtain⟨e,M,U⟩:=iB U;simp only [atI,decide_eq_true_eq]at U;obtain⟨⟨Z,hz⟩,b_⟩:=U;obtain⟨z,us,a7,a8,O,_⟩:=eO (σ:=σ) (X:=X) hz X.w;have f:us.length=sz:=by have:=O.len;simp at this;omega
  simp only [bu,at0,aup,at1]at h;obtain⟨fs,⟨cs,W,l⟩,rfl,rfl⟩:=h;split at l
  ·simp at l
  rename_i hn;have E:=F6 l;obtain⟨d,h5,h6⟩:=nG (place:=fun i=>aa (i*sz,sz)) (ps:=qs.toList) hR (qs:=ps.map fun p=>(p.1*sz,sz,p.2)) (A2.map ((eC hq).kI fun q p m=>by
   simp only [atI,beq_iff_eq]at m;exact⟨by rw [m.1],m.2⟩)) (jO O j) W
  have g:dW X.w (X.w.alloc (.cells d.toArray e)) (.cells d.toArray e):=dW.alloc _ _;obtain⟨w',s⟩:=aK (X.w.alloc (.cells d.toArray e));rw [←s]at g;have I:∀ c i,X.F c i→w'.cell? ⟨c,i,ab⟩=X.w.cell? ⟨c,i,ab⟩:=fun c i h=>World.cell?_of_block (g.Dn (y.fb c i h));have hx:Ext X.H.length X { X with w:=w',F:=fun c i=>X.F c i∨(c=X.w.heap.size∧i<d.length) }:={
   B:=rfl
   F:=fun c i h=>.inl h
   pz:=fun c i h=>h.elim .inl fun h=>.inr (.inl (by rw [h.1];exact at3 _))
   fw:=I
   cM:=fun b _ bq A=>⟨bq,A,by cases bq<;>simp⟩
   yT:=fun b L h=>.inl ⟨b,L,h,rfl⟩
   size:=by show _≤w'.heap.size;rw [g.size];omega
   os:=g.os
   tape:=g.tape
   output:=g.output
   frame:=fun k hk _=>g.Dn hk }
  refine⟨rfl,.slice (aa ⟨X.w.heap.size,0,ab⟩) j j,{ X with w:=w',F:=fun c i=>X.F c i∨(c=X.w.heap.size∧i<d.length) },?_,rfl,?_,?_,hx,?_,rfl⟩
  ·simp only [execOp,ho];refine ef ?_;have Y:j*sz≠0:=by
    intro h0;rcases avX.1 h0 with h0 | h0<;>omega
   have S:=iS us j (by omega);rw [f]at S;simp only [Instr.buildSlice,Sem.run_bind,bf M,dg Z,Result.andThen_ok,aY (show¬ j*sz>2 ^ 24 by omega),Sem.run_ite,aY Y,a7,Sem.run_pure,a8];simp only [Array.toList_map];rw [S];simp [h5,newRow,s]
  ·exact SR.step Q σ y hx X.H.length (fun _ _=>rfl) (fun _ _=>rfl) (fun b L _ A=>g.Dn (y.br b L A).2.1)
    (fun b L _ A i h=>h.elim id fun h=>by have:=(y.br b L A).2.1;omega) (fun L h=>by change X.cB X.H.length=aa L at h;rw [SR.sA y]at h;simp at h)
    (fun c i h=>by
     show c<w'.heap.size;rw [g.size];rcases h with h | h
     ·have:=y.fb c i h;omega
     ·omega)
  ·have J:d.length=fs.length:=by have:=h6.len;rw [E]at this;simp at this;omega
   refine cT.fs fs j X.w.heap.size 0 j d (at3 _) J (fun i hi=>.inr ⟨rfl,by omega⟩) (fun i u M=>?_) fun i x u r M=>?_
   ·show w'.cell? _=_;rw [dt (show rowAt w' X.w.heap.size d by rw [s];exact jv (dW.alloc _ _)),Nat.zero_add];exact M
   ·obtain⟨u',N,hr⟩:=h6.get (i:=i) (x:=.f x) (by rw [E,auM,r];rfl);rw [M]at N;cases N;exact cT.mono (fun c i h=>.inl h) I hr
  ·show X.B≤w'.heap.size;rw [g.size];omega
 ·simp at K
end
section
variable{Q:Program}{σ:Nat→FuncId}{X:Wd}
theorem Cp{α:Type}(us rest:List α)(off:Nat)(b:List α)(h:off+b.length≤us.length):bp (us++rest) off b=bp us off b++rest:=by
 unfold bp;rw [List.take_append_of_le_length (by omega),List.drop_append_of_le_length (by omega)];simp
theorem A2.one{cs:List C}{us:List Value}(h:A2 (CR σ X) cs us):∀ v ∈ us,v.oneCell'=ae:=by
 intro v d;obtain⟨i,hi⟩:=auV d;have b:i<cs.length:=by rw [h.len];exact(atu.1 hi).1
 exact CR.one σ (h.2 i _ v (asZ b) hi)
theorem Di(z:SR Q σ X){b:Nat}{cs:List C}{fl:Nat}{L:Loc}(m:X.H[b]?=aa (.box cs fl))(y:X.cB b=aa L){xs:List C}{j:List Value}(u:A2 (CR σ X) xs j){off:Nat}
  (I:fl≤off) (U:off+xs.length≤cs.length):∃ X',(storeCells ⟨L.c,off,ab⟩ j).run Q X.w=.ok () X'.w∧X'.H=X.H.set b (.box (bp cs off xs) fl)∧SR Q σ X'∧Ext X.H.length X X' ∧
   (∀ b,X'.cB b=X.cB b)∧X'.w.heap.size=X.w.heap.size∧X'.B=X.B:=by
 obtain⟨_,_,bq,g,q⟩:=z.br b L y;rw [m]at g;simp only [At]at g;subst g;obtain⟨us,s,v,x⟩:=q;have K:=u.len;have J:=v.len;obtain⟨A,M,N,O,S,B⟩:=eb s j off (by omega);obtain⟨E,F⟩:=SR.adQ z (blk':=.box (bp cs off xs) fl) m y A M (fun i H=>by
   rw [dt B,dt s];have:i<off:=by
    rcases auK i off with h | h
    ·exact h
    ·exact absurd H (x i (by omega))
   exact Cq us off j (by omega) i this) N O S
  (fun bq d=>⟨.box (bp cs off xs) fl,by simp [(atu.1 m).1],by rw [m]at d;simp only [At]at d;subst d;exact fun L h=>h⟩)
  (fun l=>⟨bp us off j,B,A2.bp (A2.ext' σ l v) (A2.ext' σ l u) off,x⟩)
 exact⟨_,sE s j off (by omega) (A2.one u),rfl,E,F,fun _=>rfl,A,rfl⟩
theorem Dj(A:SR Q σ X){b:Nat}{sz:Nat}{cs:List C}{fl ep:Nat}{L:Loc}(m:X.H[b]?=aa (.b5 sz cs fl ep .loc))(z:X.cB b=aa L){xs:List C}{j:List Value}(u:A2 (CR σ X) xs j){off:Nat}
  (M:fl≤off) (N:off+xs.length≤cs.length):∃ X',(storeCells ⟨L.c,off,ab⟩ j).run Q X.w=.ok () X'.w∧X'.H=X.H.set b (.b5 sz (bp cs off xs) fl ep .loc)∧SR Q σ X'∧Ext X.H.length X X' ∧
   (∀ b,X'.cB b=X.cB b)∧X'.w.heap.size=X.w.heap.size∧X'.B=X.B:=by
 obtain⟨_,_,bq,g,q⟩:=A.br b L z;rw [m]at g;simp only [At]at g;subst g;obtain⟨S,us,rest,s,x,H,I,J,y⟩:=q;have W:=u.len;have U:=x.len;obtain⟨B,Y,Z,a,c,v⟩:=eb s j off (by simp;omega);rw [Cp _ _ _ _ (by omega)]at v;have O:=Cr us off j (by omega);obtain⟨E,F⟩:=SR.adQ A (blk':=.b5 sz (bp cs off xs) fl ep .loc) m z B Y (fun i K=>by
   rw [dt v,dt s];have:i<off:=by
    rcases auK i off with h | h
    ·exact h
    ·exact absurd K (y i (by omega))
   rw [anc (by omega),anc (by omega)];exact Cq us off j (by omega) i this) Z a c
  (fun bq d=>⟨.b5 sz (bp cs off xs) fl ep .loc,by simp [(atu.1 m).1],by rw [m]at d;simp only [At]at d;subst d;exact⟨rfl,.inl ⟨rfl,rfl,fun L h=>h⟩⟩⟩)
  (fun l=>⟨rfl,bp us off j,rest,v,A2.bp (A2.ext' σ l x) (A2.ext' σ l u) off,by simp only [at6]at H ⊢;omega,I,by rw [Cr cs off xs N];exact J,y⟩)
 exact⟨_,sE s j off (by simp;omega) (A2.one u),rfl,E,F,fun _=>rfl,B,rfl⟩
theorem adC(B:SR Q σ X){x:C}{u:Value}(d:CR σ X x u){xs:List C}{E:List Value}(l:A2 (CR σ X) xs E){H':aj}(h:dh X.H x xs=aa H') :
  ∃ c off X',u=.pointer (aa ⟨c,off,ab⟩)∧(storeCells ⟨c,off,ab⟩ E).run Q X.w=.ok () X'.w∧X'.H=H'∧SR Q σ X'∧Ext X.H.length X X'∧X'.w.heap.size=X.w.heap.size∧X'.B=X.B:=by
 unfold dh at h;split at h
 ·rename_i b off ep;obtain⟨L,A,d⟩:=d;split at h
  ·rename_i cs fl j;rw [j]at d;simp only at d;subst d;split at h
   ·rename_i g;simp only [At]at h;subst h;obtain⟨X',m,q,s,v,_,y,z⟩:=Di B j A l g.1 g.2;exact⟨_,_,X',rfl,m,q,s,v,y,z⟩
   ·simp at h
  ·rename_i sz cs fl e j;rw [j]at d;split at h
   ·rename_i g;have d:=d.2.1 g.1;subst d;simp only [At]at h;subst h;obtain⟨X',m,q,s,v,_,y,z⟩:=Dj B j A l g.2.1 g.2.2;exact⟨_,_,X',rfl,m,q,s,v,y,z⟩
   ·simp at h
  ·simp at h
 ·simp at h
theorem adI(E:SR Q σ X)(W:X.B≤X.w.heap.size){a:Act}{aB:T}(q:RR σ X aB a.tmps){o:Oper}{n:Nat}{x y:Arg}(b:dP Q σ o (.store n x y)=ae){v:V}{H':aj}
  (h:bu aB X.H (.store n x y)=aa (v,H')):ig Q σ X v H' (execOp a.eval o):=by
 simp only [dP]at b;split at b
 ·rename_i t M N H;simp only [atI]at b;obtain⟨⟨F,g⟩,m⟩:=b;have g:=bT q g;have m:=bT q m;simp only [bu]at h;split at h
  ·rename_i p xs I l;rw [I]at g;split at h
   ·rename_i s;simp only [at0,at1]at h;obtain⟨O,j,rfl,rfl⟩:=h;obtain⟨Y,K,d⟩:=pH m l;obtain⟨c,off,X',J,u,z,A,B,S,U⟩:=adC E g d j;refine⟨undef,X',.inr ⟨?_,rfl⟩,z,A,trivial,B,by omega⟩;have L:=d.len;simp only [execOp,H,Sem.run_bind];have:(Instr.storeAt t (a.eval M) (a.eval N)).run Q X.w=.ok () X'.w:=by
     rw [J];simp [Instr.storeAt,Instr.sureAddr,storeVar,dg F,K];rw [bg (by omega)];exact u
    simp [this]
   ·simp at h
  ·simp at h
 ·simp at b
end
end Km
