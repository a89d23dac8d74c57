/-
  Our own small machine for Go code by value, held sk the model: part 1. No program in D1.
-/
import GoSem.Step
import GoSem.Dispatch
import GoSem.Machine.Exec
import Derived.Calls
import Derived.Laws.World
import Derived.Laws.Cells
import Derived.Laws.IdiomCopy
import Derived.Below
import Derived.Laws.Slices
import Derived.Laws.Strings
import Derived.Laws.StructEq
import Derived.Laws.BytesString
import Derived.Laws.Tables
import Derived.Laws.AppendOwn
open Option renaming some → aa,none → ab
open Bool renaming true → ae,false → ag
open Option.some renaming injEq → AI
open Bool renaming false_eq_true → anF, and_eq_true → If
open List renaming getElem?_eq_some_iff → IT, getElem?_eq_getElem → By, getElem?_append_left → AT, getElem?_append_right → ann, getElem?_take → an4, getElem?_drop → anI, getElem?_map → aoj, all_eq_true → anx, getElem?_of_mem → aot, extract_eq_take_drop → aoX, take_of_length_le → anA, length_append → ank, foldl_cons → ao7, length_cons → an2, take_succ_eq_append_getElem → apA, eq_nil_of_length_eq_zero → anz, getElem?_set_ne → sh
open Nat renaming le_refl → anl, le_trans → anL, lt_of_lt_of_le → aok, add_mul → anM, mul_eq_zero → apt, lt_or_ge → anQ
open Option renaming bind_eq_some_iff → anN, map_eq_some_iff → IN, bind_eq_bind → apH, bind_some → anR, map_some → anZ
open Prod.mk renaming injEq → anc
set_option linter.unusedVariables false
set_option linter.constructorNameAsVariable false
set_option linter.unusedSimpArgs false
set_option linter.unusedSectionVars false
set_option maxRecDepth 100000
namespace Km
open Go
theorem aM.{u}{α:Sort u}(a:α):∃ b,b=a:=⟨a,rfl⟩
theorem aT.{u}{c:Prop}{h:Decidable c}(b:¬c){α:Sort u}{t e:α}:(ite c t e)=e:=if_neg b
theorem bf.{u}{c:Prop}{h:Decidable c}(hc:c){α:Sort u}{t e:α}:(ite c t e)=t:=if_pos hc
inductive FC where
 | bool (b:Bool)
 | int (k:IntKind) (n:Int)
 | str (s:ByteArray)
 | tU | aC | es | jM | oJ | pZ
 | fp (cs:List FC) (off:Nat)
 | fs (cs:List FC) (len:Nat)
 | fn (f:Nat) (JG:List FC)
 deriving Inhabited
inductive C where
 | f (x:FC)
 | ptr (b off ep:Nat)
 | sl (b off len cap ep sz:Nat)
 | cl (f:Nat) (JG:List C)
 | yl (b:Nat)
 | mp (b:Nat)
 | it (b:Nat)
 | bm (f:Nat) (first:List C)
 | mi (b:Nat)
 deriving Inhabited
inductive V where
 | top
 | c (x:C)
 | a (xs:List C)
 | t (xs:List V)
 deriving Inhabited
def Bp:Nat:=1000000007
def mV:C→V
 | .cl f cs=>if f=Bp then .a cs else .c (.cl f cs)| x=>.c x
def ry:V→Option C
 | .c (.cl f cs)=>if f=Bp then ab else aa (.cl f cs)| .c x=>aa x| .a cs=>aa (.cl Bp cs)| _=>ab
def zV:FC→V
 | .fn f zs=>if f=Bp then .a (zs.map .f)else .c (.f (.fn f zs))| z=>.c (.f z)
def rm:FC→List FC
 | .fn f zs=>if f=Bp then zs else [.fn f zs]| z=>[z]
def CD:FC→Bool
 | .fn f _=>decide (f=Bp)| _=>ag
theorem V4{v:V}{c:C}(h:ry v=aa c):mV c=v:=by
 cases v with
 | c x=>
  cases x<;>simp only [ry,AI]at h
  case cl f cs=>
   split at h
   ·cases h
   ·rename_i b;simp only [AI]at h;subst h;simp only [mV,aT b]
  all_goals (subst h;rfl)
 | a cs=>simp only [ry,AI]at h;subst h;simp [mV]| _=>simp [ry]at h
theorem aic{z:FC}(h:CD z=ae):zV z=.a ((rm z).map .f):=by
 cases z<;>simp only [CD,decide_eq_true_eq,reduceCtorEq,anF]at h;simp only [zV,rm,bf h]
theorem aid{z:FC}(h:CD z=ag):zV z=.c (.f z)∧rm z=[z]:=by
 cases z<;>simp only [CD,decide_eq_false_iff_not]at h
 case fn f zs=>simp only [zV,rm,aT h,and_self]
 all_goals exact⟨rfl,rfl⟩
inductive Os where | loc | nil | es
 deriving DecidableEq,Inhabited
inductive P where
 | h
 | o (p:P)
 | i (p:P)
 deriving DecidableEq,Inhabited
def P.toNat:P→Nat
 | .h=>0| .o p=>2*p.toNat+1| .i p=>2*p.toNat+2
inductive T where
 | e
 | n (l:T) (v:V) (r:T)
 deriving Inhabited
def T.get:T→P→V
 | .e,_=>.top| .n _ v _,.h=>v| .n l _ _,.o p=>l.get p| .n _ _ r,.i p=>r.get p
def T.set:T→P→V→T
 | .e,.h,w=>.n .e w .e| .e,.o p,w=>.n (T.set .e p w) .top .e| .e,.i p,w=>.n .e .top (T.set .e p w)| .n l _ r,.h,w=>.n l w r| .n l v r,.o p,w=>.n (l.set p w) v r| .n l v r,.i p,w=>.n l v (r.set p w)
inductive Arg where
 | r (n:P)
 | k (v:V)
 deriving Inhabited
inductive CK where | bool | int | str
 deriving DecidableEq,Inhabited
inductive Li where
 | bool | ptr | sl | fn | ifc
 | st (ks:List CK)
 deriving Inhabited
inductive dq where
 | cX (x:Arg)
 | pre (o:Os) (sz:Nat)
 | pick (c a b:Arg)
 | alloc (zs:List FC)
 | box (x:Arg)
 | build (zs:List FC) (parts:List (Nat × Nat × Arg))
 | bS (sz:Nat) (zs:List FC) (len:Nat) (parts:List (Nat × Arg))
 | load (n:Option Nat) (x:Arg)
 | store (n:Nat) (x y:Arg)
 | dP (x:Arg)
 | bin (op:BinOp) (x y:Arg)
 | eq (neg:Bool) (k:Li) (x y:Arg)
 | un (op:UnOp) (x:Arg)
 | jJ (k:IntKind) (x:Arg)
 | BA (x:Arg)
 | Ag (x:Arg)
 | abK (x:Arg)
 | iE (f:Nat) (JG:List Arg)
 | kj
 | lookup (ck:CK) (zero:FC) (m k:Arg)
 | lT (ck:CK) (m k v:Arg)
 | dO (sz bytes:Nat) (zs:List FC) (l c:Arg)
 | slice (sz:Nat) (x:Arg) (lo hi mx:Option Arg)
 | qu (n sz:Nat) (x:Arg) (lo hi mx:Option Arg)
 | rQ (x:Arg) (lo hi:Option Arg)
 | bz (off:Nat) (x:Arg)
 | field (off:Nat) (n:Option Nat) (x:Arg)
 | bN (sz:Nat) (arr:Option Nat) (x i:Arg)
 | idxs (x i:Arg)
 | Aq (len sz:Nat) (n:Option Nat) (x i:Arg)
 | range (x:Arg)
 | next (x:Arg)
 | extract (x:Arg) (i:Nat)
 | call (f:Nat) (args:List Arg) (h:Bool)
 | bZ (x:Arg) (args:List Arg) (h:Bool)
 | len (x:Arg)
 | oi (n:Nat)
 | lens (x:Arg)
 | cap (x:Arg)
 | append (sz bytes:Nat) (x y:Arg)
 | copy (sz:Nat) (x y:Arg)
 | fP (lo:Bool) (xs:List Arg)
 | me (sz bytes:Nat) (zs:List FC) (x n:Arg)
 | clear (sz:Nat) (zs:List FC) (x:Arg)
 | nf (x:Arg)
 | rN (x:Arg)
 | entry (x:Arg)
 | AJ (f:Nat) (xs:List Arg)
 | rZ (sz:Nat) (x hi mx:Arg)
 | jK (sz:Nat) (zs:List FC) (len:Nat) (parts:List (Nat × Arg))
 | recover
 | defer (x:Arg) (args:List Arg)
 | bad
 deriving Inhabited
def dq.fsl:dq→Bool
 | .jK ..=>ae| _=>ag
structure aS where
 dst:Option P
 op:dq
 g:Option (P × Bool):=ab
 deriving Inhabited
inductive aw where
 | skip
 | region (ops:List aS) (jf:List (Nat × Nat))
 | seq (a b:aw)
 | cond (c:Arg) (a b:aw)
 | block (id:Nat) (a:aw)
 | loop (a:aw)
 | fI (f:Arg) (ps:List P) (assign body:aw)
 | exit (id:Nat)
 | ret
 | bad
 | scope (a:aw)
 | label (l:Nat)
 | goto (l:Nat)
 deriving Inhabited
inductive dw where | ready | busy | done | exhausted
 deriving DecidableEq,Inhabited
inductive bV where
 | box (cs:List C) (fl:Nat)
 | cS (sz:Nat) (cs:List C) (fl ep:Nat) (st:Os)
 | map (es:List (FC × C))
 | it (s:ByteArray) (pos:Nat)
 | AG (m since:Nat) (done:Bool)
 | eo (open_:Bool)
 | lp (fn:Nat) (tmps:T) (ps:List P) (assign body:aw) (st:dw) (pending:Option aw) (eo:Nat)
 deriving Inhabited
abbrev an:=List bV
inductive fB where
 | dN (b:Nat)
 | fn (f:Nat) (args:List V)
 deriving Inhabited
inductive gU where
 | tmp (t:P)
 | cell (t:P) (n:Option Nat)
 deriving Inhabited
structure aK where
 ps:List P
 results:List gU
 body:aw
 deriving Inhabited
def Arg.ev(aG:T):Arg→V
 | .r n=>aG.get n| .k v=>v
def V.int(k:IntKind)(n:Int):V:=.c (.f (.int k n))
def V.bool(b:Bool):V:=.c (.f (.bool b))
def aH(H:an):C→Option (List C)
 | .ptr b d g=>match H[b]? with
  | some (.box cs _)=>aa (cs.drop d)| some (.cS _ cs _ e .loc)=>if g=e then aa (cs.drop d)else ab| _=>ab
 | .f (.fp cs d)=>aa ((cs.drop d).map .f)| _=>ab
def aW:Option Nat→List C→Option V
 | none,c::_=>aa (.c c)| none,[]=>ab| some n,cs=>if n≤cs.length then aa (.a (cs.take n))else ab
def aU(H:an)(n:Option Nat):V→Option V
 | .c x=>(aH H x).bind (aW n)| _=>ab
def V.cells? : V→Option (List C)
 | .c x=>aa [x]| .a xs=>aa xs| _=>ab
def over{α:Type}(cs:List α)(b:Nat)(xs:List α):List α:=cs.take b++xs++cs.drop (b+xs.length)
def cZ(H:an)(x:C)(xs:List C):Option an:=
 match x with
 | .ptr b d g=>match H[b]? with
  | some (.box cs fl)=>if fl≤d∧d+xs.length≤cs.length then aa (H.set b (.box (over cs d xs) fl))else ab| some (.cS sz cs fl e .loc)=>if g=e∧fl≤d∧d+xs.length≤cs.length then aa (H.set b (.cS sz (over cs d xs) fl e .loc))else ab| _=>ab
 | _=>ab
def bu(H:an):C→Option Nat
 | .sl b _ l _ d sz=>match H[b]? with
  | some (.box _ _)=>aa l| some (.cS s _ _ e _)=>if d=e∧sz=s then aa l else ab| _=>ab
 | .f .aC=>aa 0| .f .es=>aa 0| .f (.fs _ l)=>aa l| _=>ab
def cV(H:an)(sz:Nat):C→Option (List C)
 | .sl b o l _ d s=>match H[b]? with
  | some (.box cs _)=>if o+l*sz≤cs.length then aa ((cs.drop o).take (l*sz))else ab| some (.cS g cs _ e _)=>if d=e∧s=g∧o+l*sz≤cs.length then aa ((cs.drop o).take (l*sz))else ab| _=>ab
 | .f .aC=>aa []| .f .es=>aa []| .f (.fs cs l)=>if cs.length=l*sz then aa (cs.map .f)else ab| _=>ab
def aZ{α β:Type}(g:α→Option β):List α→Option (List β)
 | []=>aa []
 | x::xs=>match g x with
  | none=>ab
  | some y=>match aZ g xs with
   | none=>ab| some ys=>aa (y::ys)
def eL:Nat→an→C→Option FC
 | _,_,.f x=>aa x| 0,_,_=>ab
 | n+1,H,.ptr b j _=>match H[b]? with
  | some (.box cs _)=>(aZ (eL n H) cs).map (.fp · j)| _=>ab
 | n+1,H,.sl b o l _ g sz=>match H[b]? with
  | some (.box cs _)=>if o+l*sz≤cs.length then(aZ (eL n H) ((cs.drop o).take (l*sz))).map (.fs · l)else ab| some (.cS s cs _ e .loc)=>if g=e∧sz=s∧o+l*sz≤cs.length then(aZ (eL n H) ((cs.drop o).take (l*sz))).map (.fs · l)else ab| some (.cS s _ _ e .nil)=>if g=e∧sz=s then aa .aC else ab| some (.cS s _ _ e .es)=>if g=e∧sz=s then aa .es else ab| _=>ab
 | n+1,H,.cl f d=>(aZ (eL n H) d).map (.fn f)| _+1,_,_=>ab
def dE(n:Nat)(H:an):V→Option V
 | .c x=>(eL n H x).map fun y=>.c (.f y)
 | .a xs=>(aZ (eL n H) xs).map fun ys=>.a (ys.map .f)
 | _=>ab
def kM(n:Nat)(H:an):V→Option V
 | .t b=>(aZ (dE n H) b).map .t| v=>dE n H v
def fo:Nat→C→an→an
 | _,.f _,H=>H| 0,_,H=>H
 | n+1,.ptr b _ _,H=>match H[b]? with
  | some (.box cs fl)=>cs.foldl (fun H x=>fo n x H) (H.set b (.box cs (Nat.max fl cs.length)))
  | _=>H
 | n+1,.sl b o l _ _ sz,H=>match H[b]? with
  | some (.box cs fl)=>((cs.drop o).take (l*sz)).foldl (fun H x=>fo n x H) (H.set b (.box cs (Nat.max fl (o+l*sz))))
  | some (.cS s cs fl e st)=>((cs.drop o).take (l*sz)).foldl (fun H x=>fo n x H) (H.set b (.cS s cs (Nat.max fl (o+l*sz)) e st))
  | _=>H
 | n+1,.cl _ d,H=>d.foldl (fun H x=>fo n x H) H
 | _+1,_,H=>H
def mkV(n:Nat)(H:an):V→an
 | .c x=>fo n x H| .a xs=>xs.foldl (fun H x=>fo n x H) H
 | _=>H
def kI(op:BinOp)(k:IntKind)(x y:Int):Option V:=
 match op with
 | .add=>aa (.int k (k.wrap (x+y)))| .sub=>aa (.int k (k.wrap (x-y)))| .mul=>aa (.int k (k.wrap (x*y)))| .quo=>if y=0 then ab else aa (.int k (k.wrap (x.tdiv y)))| .rem=>if y=0 then ab else aa (.int k (x.tmod y))| .and=>aa (.int k (k.wrap (BitVec.ofInt k.bits x &&& BitVec.ofInt k.bits y).toNat))| .or=>aa (.int k (k.wrap (BitVec.ofInt k.bits x ||| BitVec.ofInt k.bits y).toNat))| .xor=>aa (.int k (k.wrap (BitVec.ofInt k.bits x ^^^ BitVec.ofInt k.bits y).toNat))| .andNot=>aa (.int k (k.wrap (BitVec.ofInt k.bits x &&& ~~~ (BitVec.ofInt k.bits y)).toNat))| .eql=>aa (.bool (x == y))| .neq=>aa (.bool (x != y))| .lss=>aa (.bool (decide (x<y)))| .leq=>aa (.bool (decide (x≤y)))| .gtr=>aa (.bool (decide (x>y)))| .geq=>aa (.bool (decide (x≥y)))| _=>ab
def afW(op:BinOp)(x y:ByteArray):Option V:=
 match op with
 | .add=>if((x.size+y.size:Nat):Int)>IntKind.i64.max then ab else aa (.c (.f (.str (x++y))))| .eql=>aa (.bool (x.toList == y.toList))| .neq=>aa (.bool !(x.toList == y.toList))| .lss=>aa (.bool (Op.bytesLess x.toList y.toList))| .leq=>aa (.bool (Op.bytesLess x.toList y.toList||x.toList == y.toList))| .gtr=>aa (.bool !(Op.bytesLess x.toList y.toList||x.toList == y.toList))| .geq=>aa (.bool !(Op.bytesLess x.toList y.toList))| _=>ab
def Kg:CK→C→C→Option Bool
 | .bool,.f (.bool a),.f (.bool b)=>aa (a == b)| .int,.f (.int k a),.f (.int k' b)=>if k=k' then aa (a == b)else ab| .str,.f (.str a),.f (.str b)=>aa (a == b)| _,_,_=>ab
def rA:List CK→List C→List C→Option Bool
 | [],[],[]=>aa ae
 | k::d,x::xs,y::ys=>match Kg k x y,rA d xs ys with
  | some a,aa b=>aa (a&&b)| _,_=>ab
 | _,_,_=>ab
def isNil(H:an):Li→C→Option Bool
 | .ptr,.f .tU=>aa ae| .ptr,.f (.fp _ _)=>aa ag| .ptr,.ptr _ _ _=>aa ag| .sl,.f .aC=>aa ae| .sl,.f .es=>aa ag| .sl,.f (.fs _ _)=>aa ag
 | .sl,.sl b _ _ _ d sz=>match H[b]? with
  | some (.box _ _)=>aa ag| some (.cS s _ _ e st)=>if d=e∧sz=s then aa (st == .nil)else ab| _=>ab
 | .fn,.f .jM=>aa ae| .fn,.f (.fn _ _)=>aa ag| .fn,.cl _ _=>aa ag| .fn,.bm _ _=>aa ag| .ifc,.f .oJ=>aa ae| _,_=>ab
def Dc(H:an):Li→V→V→Option Bool
 | .bool,.c x,.c y=>Kg .bool x y| .st b,.a xs,.a ys=>rA b xs ys| .ptr,.c x,.c (.f .tU)=>isNil H .ptr x| .sl,.c x,.c (.f .aC)=>isNil H .sl x| .fn,.c x,.c (.f .jM)=>isNil H .fn x| .ifc,.c x,.c (.f .oJ)=>isNil H .ifc x| _,_,_=>ab
def bR(op:BinOp)(x y:V):Option V:=
 match op,x,y with
 | .shl,.c (.f (.int k a)),.c (.f (.int _ b))=>if b<0 then ab else aa (.int k (k.wrap (a*2 ^ (min b.toNat k.bits))))| .shr,.c (.f (.int k a)),.c (.f (.int _ b))=>if b<0 then ab else aa (.int k (a.fdiv (2 ^ (min b.toNat k.bits))))| op,.c (.f (.int k a)),.c (.f (.int k' b))=>if k=k' then kI op k a b else ab| op,.c (.f (.str a)),.c (.f (.str b))=>afW op a b| _,_,_=>ab
def unV(op:UnOp)(x:V):Option V:=
 match op,x with
 | .neg,.c (.f (.int k n))=>aa (.int k (k.wrap (0-n)))| .not,.c (.f (.bool b))=>aa (.bool !b)| _,_=>ab
def gA:V→Option Int
 | .c (.f (.int _ n))=>aa n| _=>ab
def yR(x:V)(y:Nat):Option Nat:=
 match gA x with
 | some i=>if 0≤i∧i≤y then aa i.toNat else ab| none=>ab
def bH(len cap:Nat)(lo hi mx:Option V):Option (Nat × Nat × Nat):=do
 let m ←match mx with
  | some v=>yR v cap| none=>aa cap
 let h ←match hi,mx with
  | some v,_=>yR v m| none,ab=>aa len| none,aa _=>ab
 let l ←match lo with
  | some v=>yR v h| none=>aa 0
 pure (l,h,m)
def bM(H:an)(sz:Nat)(x:V)(lo hi mx:Option V):Option V:=
 match x with
 | .c (.f .aC)=>match bH 0 0 lo hi mx with
  | some _=>aa (.c (.f .aC))| none=>ab
 | .c (.f .es)=>match bH 0 0 lo hi mx with
  | some _=>aa (.c (.f .es))| none=>ab
 | .c (.f (.fs cs n))=>match bH n n lo hi mx with
  | some (l,h,m)=>
   if mx.isSome∧m=l then aa (.c (.f .es))else
   aa (.c (.f (.fs ((cs.drop (l*sz)).take ((h-l)*sz)) (h-l))))
  | none=>ab
 | .c (.sl b o n cap d s)=>match H[b]? with
  | some (.box _ _)=>match bH n cap lo hi mx with
   | some (l,h,m)=>if m=l then aa (.c (.f .es))else aa (.c (.sl b (o+l*sz) (h-l) (m-l) d s))| none=>ab
  | some (.cS g cs _ e st)=>
   if d=e∧s=sz∧g=sz then
    match st with
    | .loc=>match bH n n lo hi mx with
     | some (l,h,m)=>
      if mx.isSome∧m=l then aa (.c (.f .es))
      else if l=h∧0<l then aa (.c (.f (.fs [] 0)))
      else if mx.isSome then(if 0<l then aa (.c (.sl b 0 0 0 d (g+1)))else ab)
      else aa (.c (.sl b (o+l*sz) (h-l) 0 d s))
     | none=>match mx with
      | some _=>ab
      | none=>match bH n ((cs.length-o) / sz) lo hi ab with
       | some (l,h,_)=>if n≤(cs.length-o) / sz∧l<h then aa (.c (.sl b (o+l*sz) (h-l) 0 d s))else ab| none=>ab
    | .nil=>match bH 0 0 lo hi mx with
     | some _=>aa (.c (.f .aC))| none=>ab
    | .es=>match bH 0 0 lo hi mx with
     | some _=>aa (.c (.f .es))| none=>ab
   else ab
  | _=>ab
 | _=>ab
def yJ(x:V)(lo hi:Option V):Option V:=
 match x with
 | .c (.f (.str s))=>match bH s.size s.size lo hi ab with
  | some (l,h,_)=>aa (.c (.f (.str (s.extract l h))))| none=>ab
 | _=>ab
def nh(H:an)(n sz:Nat)(x:V)(lo hi mx:Option V):Option V:=
 match x with
 | .c (.ptr b d _)=>match H[b]? with
  | some (.box cs _)=>match bH n n lo hi mx with
   | some (l,h,m)=>if d+n*sz≤cs.length then(if m=l then aa (.c (.f .es))else aa (.c (.sl b (d+l*sz) (h-l) (m-l) 0 sz)))else ab| none=>ab
  | _=>ab
 | .c (.f (.fp cs d))=>match bH n n lo hi mx with
   | some (l,h,m)=>if d+n*sz≤cs.length then(if m=l then aa (.c (.f .es))else aa (.c (.f (.fs ((cs.drop (d+l*sz)).take ((h-l)*sz)) (h-l)))))else ab| none=>ab
 | _=>ab
def bC(H:an)(sz:Nat)(g:Option Nat)(x i:V):Option V:=
 match gA i with
 | none=>ab
 | some i=>
  if 0≤i then
   match g,x with
   | none,.c (.sl b o l _ d s)=>if i<l then
     (match H[b]? with
      | some (.box _ _)=>aa (.c (.ptr b (o+i.toNat*sz) d))| some (.cS j _ _ e .loc)=>if d=e∧s=j then aa (.c (.ptr b (o+i.toNat*sz) d))else ab
      | _=>ab)else ab
   | none,.c (.f (.fs cs l))=>if i<l then aa (.c (.f (.fp cs (i.toNat*sz))))else ab| some n,.c (.ptr b o d)=>if i<n then aa (.c (.ptr b (o+i.toNat*sz) d))else ab| some n,.c (.f (.fp cs o))=>if i<n then aa (.c (.f (.fp cs (o+i.toNat*sz))))else ab| _,_=>ab
  else ab
def nG(d:Nat):V→Option V
 | .c (.ptr b o g)=>aa (.c (.ptr b (o+d) g))| .c (.f (.fp cs o))=>aa (.c (.f (.fp cs (o+d))))| _=>ab
def tC(b:Nat)(n:Option Nat):V→Option V
 | .a xs=>aW n (xs.drop b)| _=>ab
def Dk(x i:V):Option V:=
 match x,gA i with
 | .c (.f (.str s)),aa i=>if 0≤i then(s[i.toNat]?).map fun b=>.int .u8 b.toNat else ab
 | _,_=>ab
def Dj(len sz:Nat)(n:Option Nat)(x i:V):Option V:=
 match x,gA i with
 | .a xs,aa i=>if 0≤i∧i<len then aW n (xs.drop (i.toNat*sz))else ab| _,_=>ab
def aea(H:an):V→Option (V × an)
 | .c (.it b)=>match H[b]? with
  | some (.it s pos)=>
   if pos<s.size then
    let r:=Utf8.decode s pos
    aa (.t [.bool ae,.int .i64 pos,.int .i32 r.1],H.set b (.it s (pos+r.2)))
   else aa (.t [.bool ag],H)
  | _=>ab
 | _=>ab
def cR(need bytes:Nat):Bool:=decide ((2*need+768)*bytes≤2 ^ 48)&&decide (need<2 ^ 48)
def de(H:an)(sz:Nat):V→Option (Nat × List C)
 | .c (.f (.str s))=>if sz=1 then aa (s.size,s.toList.map fun b=>.f (.int .u8 b.toNat))else ab
 | .c x=>match bu H x,cV H sz x with
  | some l,aa cs=>aa (l,cs)| _,_=>ab
 | _=>ab
def bF(H:an)(sz bytes:Nat)(x y:V):Option (V × an):=
 match de H sz y with
 | none=>ab
 | some (m,ys)=>
  if sz=0 then ab else
  match x with
  | .c (.f .aC)=>if m=0 then aa (.c (.f .aC),H)else
    if cR m bytes then aa (.c (.sl H.length 0 m 0 0 sz),H++[.cS sz ys 0 0 .loc])else ab
  | .c (.f .es)=>if m=0 then aa (.c (.f .es),H)else
    if cR m bytes then aa (.c (.sl H.length 0 m 0 0 sz),H++[.cS sz ys 0 0 .loc])else ab
  | .c (.sl b o l cap d s)=>match H[b]? with
   | some (.box cs fl)=>
    if l+m≤cap then
     if fl≤o+l*sz∧o+l*sz+ys.length≤cs.length then aa (.c (.sl b o (l+m) cap d s),H.set b (.box (over cs (o+l*sz) ys) fl))else ab
    else if cR (l+m) bytes∧o+l*sz≤cs.length then aa (.c (.sl H.length 0 (l+m) 0 0 sz),H++[.cS sz ((cs.drop o).take (l*sz)++ys) 0 0 .loc])else ab
   | some (.cS g cs fl e st)=>
    if d=e∧g=sz∧s=sz then
     if m=0 then aa (x,H)
     else if o=0∧l*sz=cs.length∧fl≤cs.length then
      if cR (l+m) bytes then aa (.c (.sl b 0 (l+m) 0 (d+1) sz),H.set b (.cS sz (cs++ys) fl (e+1) .loc))else ab
     else if st=.loc∧fl≤o+l*sz∧o+l*sz+ys.length≤cs.length then
      aa (.c (.sl b o (l+m) 0 d sz),H.set b (.cS sz (over cs (o+l*sz) ys) fl e .loc))
     else ab
    else ab
   | _=>ab
  | _=>ab
def copyV(H:an)(sz:Nat)(x y:V):Option (V × an):=
 match de H sz y,x with
 | some _,.c (.f .aC)=>aa (.int .i64 0,H)| some _,.c (.f .es)=>aa (.int .i64 0,H)
 | some (m,ys),.c (.sl b o l _ d g)=>
  let n:=Nat.min m l
  match H[b]? with
  | some (.box cs fl)=>if fl≤o∧o+n*sz≤cs.length then aa (.int .i64 n,H.set b (.box (over cs o (ys.take (n*sz))) fl))else ab| some (.cS s cs fl e .loc)=>if d=e∧g=s∧s=sz∧fl≤o∧o+n*sz≤cs.length then aa (.int .i64 n,H.set b (.cS s (over cs o (ys.take (n*sz))) fl e .loc))else ab| _=>ab
 | _,_=>ab
def rz(H:an):V→Option V
 | .c x=>match bu H x with
  | some _=>match cV H 1 x with
   | some cs=>(aZ (fun c=>match c with | C.f (.int .u8 n)=>aa (UInt8.ofNat n.toNat) | _=>ab) cs).map fun l=>.c (.f (.str ⟨l.toArray⟩))
   | none=>ab
  | none=>ab
 | _=>ab
def fG(aG:T)(cs:List C):List (Nat × Nat × Arg)→Option (List C)
 | []=>aa cs
 | (b,n,x)::rest=>match (x.ev aG).cells? with
  | some xs=>if xs.length=n∧b+xs.length≤cs.length then fG aG (over cs b xs) rest else ab| none=>ab
def dz(aG:T)(xs:List Arg):List V:=xs.map (·.ev aG)
def uS:V→Option C
 | .c (.cl _ _)=>ab| .c (.bm _ _)=>ab| .c x=>aa x| _=>ab
def cQ{α:Type}(n:Nat)(xs:List α):List α:=(List.replicate n xs).flatten
def eqK:CK→FC→FC→Option Bool
 | .int,.int k a,.int k' b=>if k=k' then aa (a == b)else ab| .str,.str a,.str b=>aa (a == b)| .bool,.bool a,.bool b=>aa (a == b)| _,_,_=>ab
def oH(b:CK)(k:FC):List (FC × C)→Option (Option C)
 | []=>aa ab
 | e::d=>match eqK b k e.1 with
  | some ae=>aa (aa e.2)| some ag=>oH b k d| none=>ab
def rM(b:CK)(k:FC)(v:C):List (FC × C)→Option (List (FC × C))
 | []=>aa [(k,v)]
 | e::d=>match eqK b k e.1 with
  | some ae=>aa ((k,v)::d)| some ag=>(rM b k v d).map (e::·)| none=>ab
def isKey:CK→FC→Bool
 | .int,.int _ _=>ae| .str,.str _=>ae| .bool,.bool _=>ae| _,_=>ag
def qS:FC→Option FC
 | .fp [z] 77=>aa z| _=>ab
def lkR(z:FC)(r:Option C):V:=match qS z with
 | some b=>.t [(r.map mV).getD (zV b),.c (.f (.bool r.isSome))]| none=>(r.map mV).getD (zV z)
def iq(H:an)(d:CK)(z:FC):V→V→Option V
 | .c (.f .pZ),.c (.f k)=>if isKey d k then aa (lkR z ab)else ab
 | .c (.mp b),.c (.f k)=>match H[b]? with
  | some (.map g)=>if isKey d k then(oH d k g).map (lkR z)else ab| _=>ab
 | _,_=>ab
def kv(H:an):C→Option Nat
 | .sl b _ _ c d sz=>match H[b]? with
  | some (.box _ _)=>aa c| some (.cS s _ _ e .nil)=>if d=e∧sz=s then aa 0 else ab| some (.cS s _ _ e .es)=>if d=e∧sz=s then aa 0 else ab| _=>ab
 | .f .aC=>aa 0| .f .es=>aa 0| _=>ab
def wG(lo:Bool)(x y:V):Option V:=
 match x,y with
 | .c (.f (.int k a)),.c (.f (.int _ b))=>aa (.int k (if lo then(if b<a then b else a)else(if b>a then b else a)))| _,_=>ab
def rK(lo:Bool):V→List V→Option V
 | x,[]=>aa x
 | x,y::ys=>match wG lo x y with
  | some z=>rK lo z ys| none=>ab
def yg(lo:Bool):List V→Option V
 | []=>ab| x::xs=>rK lo x xs
def jI(H:an)(sz:Nat)(zs:List FC)(x:V):Option an:=
 match x with
 | .c y=>match bu H y with
  | some 0=>aa H
  | some l=>
   if zs.length=sz then
    match y with
    | .sl b o _ _ d s=>match H[b]? with
     | some (.box _ _)=>cZ H (.ptr b o d) ((cQ l zs).map .f)| some (.cS g _ _ e .loc)=>if d=e∧s=g then cZ H (.ptr b o d) ((cQ l zs).map .f)else ab| _=>ab
    | _=>ab
   else ab
  | none=>ab
 | _=>ab
def zS(H:an)(sz bytes:Nat)(zs:List FC)(x n:V):Option (V × an):=
 match gA n with
 | some n=>
  if 0≤n∧zs.length=sz then
   match x with
   | .c (.f .aC)=>if n.toNat=0 then aa (.c (.f .aC),H)else
     if cR n.toNat bytes then aa (.c (.sl H.length 0 n.toNat 0 0 sz),H++[.cS sz ((cQ n.toNat zs).map .f) 0 0 .loc])else ab
   | .c (.f .es)=>if n.toNat=0 then aa (.c (.f .es),H)else
     if cR n.toNat bytes then aa (.c (.sl H.length 0 n.toNat 0 0 sz),H++[.cS sz ((cQ n.toNat zs).map .f) 0 0 .loc])else ab
   | _=>ab
  else ab
 | none=>ab
def fcC:C→Option FC
 | .f x=>aa x| _=>ab
def wZ(H:an)(sz:Nat)(x hi mx:V):Option (V × an):=
 match bM H sz x ab (aa hi) (aa mx)with
 | some v=>aa (v,H)
 | none=>match x with
  | .c (.sl b o n _ g s)=>match H[b]? with
   | some (.cS d cs fl e .loc)=>
    if g=e∧s=sz∧d=sz∧o=0 then
     match yR hi n,yR mx n with
     | some i,aa j=>
      if i=j∧0<i∧i*sz≤cs.length then
       match aZ fcC (cs.take (i*sz))with
       | some ys=>aa (.c (.f (.fs ys i)),H.set b (.cS d cs (Nat.max fl (i*sz)) e .loc))| none=>ab
      else ab
     | _,_=>ab
    else ab
   | _=>ab
  | _=>ab
def Wc(H:an):V→Option (V × an)
 | .c (.mi b)=>match H[b]? with
  | some (.AG m d done)=>match H[m]? with
   | some (.map [])=>if done then ab else aa (.t [.bool ag],H)| some (.map [e])=>if done then aa (.t [.bool ag],H)else if d=1 then aa (.t [.bool ae,.c (.f e.1),mV e.2],H.set b (.AG m 1 ae))else ab| _=>ab
  | _=>ab
 | _=>ab
def oD(H:an):V→Option V
 | .c (.mi b)=>match H[b]? with
  | some (.AG m _ ae)=>match H[m]? with
   | some (.map [e])=>aa (.t [.c (.f e.1),mV e.2])| _=>ab
  | _=>ab
 | _=>ab
def DO(H:an):V→Option (V × an)
 | .c (.mp b)=>match H[b]? with
  | some (.map d)=>if d.length≤1 then aa (.c (.mi H.length),H++[.AG b d.length ag])else ab| _=>ab
 | _=>ab
def fcL:List C→Option (List FC)
 | []=>aa []| .f x::xs=>(fcL xs).map (x::·)| _::_=>ab
def bE(aG:T)(H:an):dq→Option (V × an)
 | .cX x=>aa (x.ev aG,H)| .pre o sz=>if o=.loc∨sz=0 then ab else aa (.c (.sl H.length 0 0 0 0 sz),H++[.cS sz [] 0 0 o])
 | .pick c a b=>match c.ev aG with
  | .c (.f (.bool v))=>aa ((if v then a else b).ev aG,H)| _=>ab
 | .alloc zs=>aa (.c (.ptr H.length 0 0),H++[.box (zs.map .f) 0])
 | .box x=>match (x.ev aG).cells? with
  | some xs=>aa (.c (.ptr H.length 0 0),H++[.box xs 0])| none=>ab
 | .build zs ps=>(fG aG (zs.map .f) ps).map fun cs=>(.a cs,H)
 | .bS sz zs n ps=>
  if n=0 then(if ps.isEmpty then aa (.c (.f .es),H)else ab)else
  (fG aG ((cQ n zs).map .f) (ps.map fun p=>(p.1*sz,sz,p.2))).map fun cs=>(.c (.sl H.length 0 n n 0 sz),H++[.box cs 0])
 | .load n x=>(aU H n (x.ev aG)).map (·,H)
 | .store n x y=>match x.ev aG,(y.ev aG).cells? with
  | .c p,aa xs=>if xs.length=n then(cZ H p xs).map (.top,·)else ab| _,_=>ab
 | .dP x=>match x.ev aG with
  | .c (.ptr b o e)=>aa (.c (.ptr b o e),H)| .c (.f (.fp cs o))=>aa (.c (.f (.fp cs o)),H)| _=>ab
 | .bin op x y=>(bR op (x.ev aG) (y.ev aG)).map (·,H)| .eq neg k x y=>(Dc H k (x.ev aG) (y.ev aG)).map fun b=>(.bool (if neg then !b else b),H)
 | .un op x=>(unV op (x.ev aG)).map (·,H)
 | .jJ k x=>match x.ev aG with
  | .c (.f (.int _ n))=>aa (.int k (k.wrap n),H)| _=>ab
 | .BA x=>match x.ev aG with
  | .c (.f (.str s))=>aa (.c (.f (.str s)),H)| _=>ab
 | .Ag x=>(rz H (x.ev aG)).map (·,H)
 | .abK x=>match x.ev aG with
  | .c (.f (.str s))=>if s.size<2 ^ 48 then aa (.c (.sl H.length 0 s.size 0 0 1),H++[.cS 1 (s.toList.map fun b=>.f (.int .u8 b.toNat)) 0 0 .loc])else ab
  | _=>ab
 | .iE f g=>(aZ uS (dz aG g)).map fun xs=>(.c (.cl f xs),H)
 | .kj=>aa (.c (.mp H.length),H++[.map []])| .lookup j z m k=>(iq H j z (m.ev aG) (k.ev aG)).map (·,H)
 | .lT j m k v=>match m.ev aG,k.ev aG,ry (v.ev aG)with
  | .c (.mp b),.c (.f k),aa v=>match H[b]? with
   | some (.map u)=>if isKey j k then(rM j k v u).map fun u=>(.top,H.set b (.map u))else ab
   | _=>ab
  | _,_,_=>ab
 | .dO sz bytes zs l c=>match gA (l.ev aG),gA (c.ev aG)with
  | some l,aa c=>
   if 0≤l∧l≤c∧cR c.toNat bytes=ae∧zs.length=sz then
    (if c=0 then aa (.c (.f .es),H)else
    aa (.c (.sl H.length 0 l.toNat c.toNat 0 sz),H++[.box ((cQ c.toNat zs).map .f) 0]))
   else ab
  | _,_=>ab
 | .slice sz x lo hi mx=>(bM H sz (x.ev aG) (lo.map (·.ev aG)) (hi.map (·.ev aG)) (mx.map (·.ev aG))).map (·,H)| .qu n sz x lo hi mx=>(nh H n sz (x.ev aG) (lo.map (·.ev aG)) (hi.map (·.ev aG)) (mx.map (·.ev aG))).map (·,H)| .rQ x lo hi=>(yJ (x.ev aG) (lo.map (·.ev aG)) (hi.map (·.ev aG))).map (·,H)| .bz d x=>(nG d (x.ev aG)).map (·,H)| .field d n x=>(tC d n (x.ev aG)).map (·,H)| .bN sz q x i=>(bC H sz q (x.ev aG) (i.ev aG)).map (·,H)| .idxs x i=>(Dk (x.ev aG) (i.ev aG)).map (·,H)| .Aq len sz n x i=>(Dj len sz n (x.ev aG) (i.ev aG)).map (·,H)
 | .range x=>match x.ev aG with
  | .c (.f (.str s))=>aa (.c (.it H.length),H++[.it s 0])| _=>ab
 | .next x=>aea H (x.ev aG)
 | .extract x i=>match x.ev aG with
  | .t B=>(B[i]?).map (·,H)| _=>ab
 | .oi n=>aa (.int .i64 n,H)
 | .lens x=>match x.ev aG with
  | .c (.f (.str s))=>aa (.int .i64 (s.size:Nat),H)| _=>ab
 | .len x=>match x.ev aG with
  | .c y=>match bu H y with
   | some n=>aa (.int .i64 (n:Nat),H)| none=>ab
  | _=>ab
 | .append sz bytes x y=>bF H sz bytes (x.ev aG) (y.ev aG)| .copy sz x y=>copyV H sz (x.ev aG) (y.ev aG)| .fP lo xs=>(yg lo (dz aG xs)).map (·,H)| .clear sz zs x=>(jI H sz zs (x.ev aG)).map (.t [],·)| .me sz bytes zs x n=>zS H sz bytes zs (x.ev aG) (n.ev aG)| .nf x=>DO H (x.ev aG)| .rN x=>Wc H (x.ev aG)| .entry x=>(oD H (x.ev aG)).map (·,H)| .jK sz zs n ps=>((fG aG ((cQ n zs).map .f) (ps.map fun p=>(p.1*sz,sz,p.2))).bind fun cs=>if n=0 then ab else fcL cs).map fun A=>(.c (.f (.fs A n)),H)
 | .rZ sz x hi mx=>wZ H sz (x.ev aG) (hi.ev aG) (mx.ev aG)| .AJ f xs=>(aZ uS (dz aG xs)).map fun xs=>(.c (.bm f xs),H)
 | .cap x=>match x.ev aG with
  | .c y=>match kv H y with
   | some n=>aa (.int .i64 (n:Nat),H)| none=>ab
  | _=>ab
 | _=>ab
inductive Callee where
 | fn (f:Nat)
 | yield (b:Nat)
abbrev dy:=Callee→List V→an→Option (V × an)
def deep:Nat:=64
def fh(call:dy)(c:Nat)(args:List V)(H:an):Option (V × an):=
 match aZ (dE deep H) args with
 | none=>ab
 | some b=>match call (.fn c) b []with
  | none=>ab
  | some (r,H')=>match kM deep H' r with
   | none=>ab| some r'=>aa (r',args.foldl (mkV deep) H)
def bO:V→List V→Option (Callee × List V)
 | .c (.f (.fn f d)),args=>aa (.fn f,args++d.map fun x=>.c (.f x))
 | .c (.cl f d),args=>aa (.fn f,args++d.map .c)| .c (.yl b),args=>aa (.yield b,args)| .c (.bm f first),args=>aa (.fn f,first.map .c++args)
 | _,_=>ab
def gI(call:dy)(h:Bool)(c:Nat)(args:List V)(H:an):Option (V × an):=
 if h then call (.fn c) args H else fh call c args H
structure St where
 aG:T
 defs:List fB
 heap:an
def iG(aG:T)(d:Option P)(v:V):T:=
 match d with
 | some d=>aG.set d v| none=>aG
def eO(call:dy)(s:St)(op:dq):Option (V × St):=
 match op with
 | .call f args h=>(gI call h f (dz s.aG args) s.heap).map fun r=>(r.1,{ s with heap:=r.2 })
 | .bZ x args _=>match bO (x.ev s.aG) (dz s.aG args)with
  | some (c,args)=>(call c args s.heap).map fun r=>(r.1,{ s with heap:=r.2 })
  | none=>ab
 | .recover=>aa (.c (.f .oJ),s)
 | .defer x args=>match bO (x.ev s.aG) (dz s.aG args)with
  | some (.fn f,args)=>aa (.top,{ s with defs:=.fn f args::s.defs })
  | _=>ab
 | op=>(bE s.aG s.heap op).map fun r=>(r.1,{ s with heap:=r.2 })
def ou{α:Type}(f:α→α→Bool):List α→List α→Bool
 | [],[]=>ae| x::xs,y::ys=>f x y&&ou f xs ys| _,_=>ag
def FC.beq:Nat→FC→FC→Bool
 | _,.bool a,.bool b=>a == b| _,.int j a,.int k b=>decide (j=k)&&a == b| _,.str a,.str b=>decide (a=b)| _,.tU,.tU | _,.aC,.aC | _,.es,.es | _,.jM,.jM | _,.oJ,.oJ | _,.pZ,.pZ=>ae| n+1,.fp xs o,.fp ys o'=>o == o'&&ou (FC.beq n) xs ys| n+1,.fs xs l,.fs ys d=>l == d&&ou (FC.beq n) xs ys| n+1,.fn f xs,.fn g ys=>f == g&&ou (FC.beq n) xs ys| _,_,_=>ag
def C.beq:C→C→Bool
 | .f a,.f b=>FC.beq 64 a b| .ptr a b c,.ptr a' j l=>a == a'&&b == j&&c == l| .sl a b c d e g,.sl a' j l d' m g'=>a == a'&&b == j&&c == l&&d == d'&&e == m&&g == g'| .mp a,.mp b=>a == b| _,_=>ag
def V.beq:V→V→Bool
 | .c x,.c y=>x.beq y| .a xs,.a ys=>xs.length == ys.length&&(xs.zip ys).all fun p=>p.1.beq p.2
 | _,_=>ag
def wanted(aG:T):Option (P × Bool)→Option Bool
 | none=>aa ae
 | some (r,w)=>match aG.get r with
  | .c (.f (.bool b))=>aa (b == w)| .t []=>aa ag| _=>ab
def fA(call:dy)(s:St)(o:aS):Option St:=
 match wanted s.aG o.g with
 | some ae=>match eO call s o.op with
  | some (v,b)=>aa { b with aG:=iG b.aG o.dst v }
  | none=>ab
 | some ag=>aa { s with aG:=iG s.aG o.dst (.t []) }
 | none=>ab
def fL(call:dy):List aS→St→Option St
 | [],s=>aa s
 | o::os,s=>match fA call s o with
  | some b=>fL call os b| none=>ab
def eE(call:dy):List aS→St→Option (List St)
 | [],s=>aa [s]
 | o::os,s=>match fA call s o with
  | some b=>match eE call os b with
   | some ss=>aa (s::ss)| none=>ab
  | none=>ab
def sameAt(ops:List aS)(ss:List St)(c:Nat × Nat):Bool:=
 match ops[c.1]?,ss[c.1]?,ss[c.2]? with
 | some o,aa s,aa b=>match wanted s.aG o.g with
  | some ag=>ae
  | _=>match bE s.aG s.heap o.op,bE s.aG b.heap o.op with
   | some (v,_),aa (d,_)=>v.beq d| _,_=>ag
 | _,_,_=>ag
def gO(call:dy)(ops:List aS)(b:List (Nat × Nat))(s:St):Option St:=
 match b with
 | []=>fL call ops s
 | _=>match eE call ops s with
  | some ss=>if b.all (sameAt ops ss)then ss.getLast? else ab| none=>ab
def dq.eX:dq→Bool
 | .defer _ _ | .recover=>ag| _=>ae
inductive cT where
 | code (c:aw)
 | inBlock (id:Nat)
 | inLoop (c:aw)
 | jq (b:Nat)
 | nU
 | inScope (a:aw)
def exitTo(id:Nat):List cT→Option (List cT)
 | []=>ab| .inBlock b::k=>if b == id then aa k else exitTo id k| _::k=>exitTo id k
def findLabel:aw→Nat→Option aw
 | .seq a b,l=>match findLabel a l with
  | some rest=>aa (.seq rest b)| none=>findLabel b l
 | .label d,l=>if d == l then aa .skip else ab| _,_=>ab
def gotoIn(l:Nat):List cT→Option (List cT)
 | []=>ab
 | .inScope body::k=>match findLabel body l with
  | some rest=>aa (.code rest::.inScope body::k)| none=>gotoIn l k
 | _::k=>gotoIn l k
def C.fv(n:Nat):C→Bool
 | .f _=>ae| .ptr b _ _=>decide (b<n)| .sl b _ _ _ _ _=>decide (b<n)| .cl _ _=>ag| .yl b=>decide (b<n)| .mp b=>decide (b<n)| .it b=>decide (b<n)| .mi b=>decide (b<n)| .bm _ _=>ag
def C.under(n:Nat):C→Bool
 | .cl _ d=>d.all (·.fv n)| .f _=>ae| .ptr b _ _=>decide (b<n)| .sl b _ _ _ _ _=>decide (b<n)| .yl b=>decide (b<n)| .mp b=>decide (b<n)| .it b=>decide (b<n)| .mi b=>decide (b<n)| .bm _ first=>first.all (·.fv n)
def run(call:dy)(fn:Nat):Nat→Option Nat→List cT→St→Option (Option aw × St)
 | 0,_,_,_=>ab
 | m+1,j,q,s=>
  match q with
  | []=>aa (ab,s)| .inBlock _::k=>run call fn m j k s| .inLoop c::k=>run call fn m j (.code c::.inLoop c::k) s
  | .jq b::k=>match s.heap[b]? with
   | some (.lp f tmps ps as bd st pending d)=>
    if st=.busy then ab else
    let s:={ s with heap:=s.heap.set b (.lp f tmps ps as bd .exhausted pending d) }
    match pending with
    | none=>run call fn m j k s| some .ret=>run call fn m j (.code .ret::k) s| some (.exit id)=>run call fn m j (.code (.exit id)::k) s| some _=>ab
   | _=>ab
  | .nU::k=>match j with
   | none=>ab
   | some b=>match s.heap[b]? with
    | some (.lp f tmps ps as bd .ready pending d)=>run call fn m j k { s with heap:=s.heap.set b (.lp f tmps ps as bd .busy pending d) }
    | _=>ab
  | .code .skip::k=>run call fn m j k s| .inScope _::k=>run call fn m j k s| .code (.label _)::k=>run call fn m j k s| .code (.scope a)::k=>run call fn m j (.code a::.inScope a::k) s
  | .code (.goto l)::k=>match gotoIn l k with
   | some k=>run call fn m j k s| none=>ab
  | .code .bad::_=>ab| .code .ret::_=>aa (aa .ret,s)
  | .code (.exit id)::k=>match exitTo id k with
   | some k=>run call fn m j k s| none=>if j.isSome then aa (aa (.exit id),s)else ab
  | .code (.seq a b)::k=>run call fn m j (.code a::.code b::k) s| .code (.block id a)::k=>run call fn m j (.code a::.inBlock id::k) s| .code (.loop a)::k=>run call fn m j (.code a::.inLoop a::k) s
  | .code (.cond c a b)::k=>match c.ev s.aG with
   | .c (.f (.bool v))=>run call fn m j (.code (if v then a else b)::k) s| _=>ab
  | .code (.region ops u)::k=>
   if j.isSome&&!ops.all (·.op.eX)then ab else
   match gO call ops u s with
   | some s=>run call fn m j k s| none=>ab
  | .code (.fI f ps as bd)::k=>
   if j.isSome then ab else
   let d:=s.heap.length
   let H:=s.heap++[.eo ae,.lp fn s.aG ps as bd .ready ab d]
   match bO (f.ev s.aG) [.c (.yl (d+1))]with
   | some (.fn g,args)=>match call (.fn g) args H with
    | some (_,H)=>run call fn m j (.jq (d+1)::k) { aG:=s.aG,defs:=.dN d::s.defs,heap:=H }| none=>ab
   | _=>ab
def xT:Nat:=1000000000
def en(call:dy):List fB→an→Option an
 | [],H=>aa H
 | .dN b::d,H=>match H[b]? with
  | some (.eo ae)=>en call d (H.set b (.eo ag))| _=>ab
 | .fn f args::d,H=>if f=xT then ab else match call (.fn f) args H with
  | some (_,H)=>en call d H| none=>ab
def cr(aG:T)(H:an):gU→Option V
 | .tmp t=>match aG.get t with
  | .t _=>ab| v=>aa v
 | .cell t n=>aU H n (aG.get t)
def results(aG:T)(H:an)(b:List gU):Option V:=
 match aZ (cr aG H) b with
 | some [v]=>aa v| some d=>aa (.t d)| none=>ab
def cz:List P→List V→T→T
 | p::ps,v::b,aG=>cz ps b (aG.set p v)| _,_,aG=>aG
def eP(tab:Nat→Option aK)(g:Nat→List V→an→Option (Option (V × an)))(m:Nat):Nat→dy
 | 0,_,_,_=>ab
 | d+1,.fn f,args,H=>
  match g f args H with
  | some r=>r
  | none=>match tab f with
   | none=>ab
   | some q=>if args.length=q.ps.length then match run (eP tab g m d) f m ab [.code q.body] ⟨cz q.ps args .e,[],H⟩with
    | some (_,s)=>match en (eP tab g m d) s.defs s.heap with
     | some H=>(results s.aG H q.results).map (·,H)| none=>ab
    | none=>ab
    else ab
 | d+1,.yield b,args,H=>
  match H[b]? with
  | some (.lp f tmps ps as bd _ _ _)=>
   if args.length=ps.length then
    match run (eP tab g m d) f m (aa b) [.code as,.nU,.code bd] ⟨cz ps args tmps,[],H⟩with
    | some (j,s)=>
     if s.defs.isEmpty then
      match s.heap[b]? with
      | some (.lp x l v as' u _ _ d')=>aa (.bool j.isNone,s.heap.set b (.lp x l v as' u (if j.isNone then .ready else .done) j d'))| _=>ab
     else ab
    | none=>ab
   else ab
  | _=>ab
section
variable(Q:Program)(σ:Nat→FuncId)
def agG:Value→Bool
 | .agg _ | .tuple _=>ag| _=>ae
def afU:Value→Bool
 | .agg _=>ae| _=>ag
def mK1:FC→Value→Bool
 | .bool a,.bool b=>a == b| .int j a,.int k b=>decide (j=k)&&decide (a=b)| .str a,.string b=>decide (a=b)| .tU,.pointer ab=>ae| .aC,.slice ab 0 0=>ae| .jM,.nilFunc=>ae| .oJ,.nilIface=>ae| .pZ,.map ab=>ae| _,_=>ag
def fM{α β:Type}(f:α→β→Bool):List α→List β→Bool
 | [],[]=>ae| x::xs,y::ys=>f x y&&fM f xs ys| _,_=>ag
def mK:V→Value→Bool
 | .c (.f x),v=>mK1 x v| .a xs,.agg us=>fM (fun x u=>match x with | C.f x=>mK1 x u | _=>ag) xs us.toList
 | .top,.tuple us=>us.isEmpty| _,_=>ag
def mA:Arg→Operand→Bool
 | .r p,.tmp t=>p.toNat == t| .k v,.const u=>mK v u| .k (.c (.f (.fn f []))),.func g=>σ f == g| _,_=>ag
def Xm(xs:List Arg)(ys:Array Operand):Bool:=fM (mA σ) xs ys.toList
def mO:Option Arg→Option Operand→Bool
 | none,ab=>ae| some x,aa y=>mA σ x y| _,_=>ag
def dI(t:TypeId)(n:Nat):Bool:=(Q.info? t).any fun i=>i.size == n
def nq(t:TypeId)(n:Nat):Bool:=(Q.info? t).any fun i=>i.bytes == n
def kz(t:TypeId)(zs:List FC):Bool:=(Q.info? t).any fun i=>match i.zero with
 | some z=>fM mK1 zs z.cells.toList| none=>ag
def uE(t:TypeId)(n:Option Nat):Bool:=match Q.underlying t,n with
 | some (.struct _),aa n | some (.array _ _),aa n=>dI Q t n| some (.struct _),ab | some (.array _ _),ab=>ag| some _,ab=>ae| _,_=>ag
def gZ:Nat→TypeId→Option (List CK)
 | 0,_=>ab
 | d+1,t=>match Q.underlying t with
  | some .bool=>if dI Q t 1 then aa [.bool]else ab| some (.int _)=>if dI Q t 1 then aa [.int]else ab| some .string=>if dI Q t 1 then aa [.str]else ab
  | some (.struct fs)=>if Q.stoodInHeld t then ab else match pD (gZ d) 0 fs.toList with
   | some ks=>if dI Q t ks.length then aa ks else ab| none=>ab
  | _=>ab
 where
 pD (rec:TypeId→Option (List CK)) (off:Nat):List Field→Option (List CK)
  | []=>aa []
  | f::fs=>if f.name≠ "_"∧f.offset=off then match rec f.type with
    | some ks=>match pD rec (off+ks.length) fs with
     | some r=>aa (ks++r)| none=>ab
    | none=>ab
   else ab
def rE:Operand→Bool
 | .const _=>ae| _=>ag
def mEq(k:Li)(t:TypeId)(x y:Operand):Bool:=match Q.underlying t,k with
 | some .bool,.bool | some (.pointer _),.ptr | some (.slice _),.sl | some (.func _ _ _),.fn=>ae| some (.interface _),.ifc=>rE x||rE y| some (.struct _),.st b=>decide (gZ Q 20 t=aa b)&&!Q.eqGuardType Q.depth t| _,_=>ag
def mn(t:TypeId):Option TypeId:=match Q.underlying t with
 | some (.slice e)=>aa e| _=>ab
def ake(t:TypeId):Bool:=match Q.underlying t with
 | some (.int .u8)=>ae| _=>ag
def dY(c:Call):dq→Bool
 | .len x=>match c.callee,c.args.toList,c.argTypes.toList with
  | .builtin .len,[y],[t]=>mA σ x y&&(match Q.underlying t with | some (.slice _)=>ae | _=>ag)
  | _,_,_=>ag
 | .lens x=>match c.callee,c.args.toList,c.argTypes.toList with
  | .builtin .len,[y],[t]=>mA σ x y&&(match Q.underlying t with | some .string=>ae | _=>ag)
  | _,_,_=>ag
 | .oi n=>match c.callee,c.args.toList,c.argTypes.toList with
  | .builtin .len,[_],[t]=>(match Q.underlying t with | some (.array m _)=>decide (n=m) | _=>ag)
  | _,_,_=>ag
 | .append sz bytes x y=>match c.callee,c.args.toList,c.argTypes.toList with
  | .builtin .append,[u,v],[t,b]=>mA σ x u&&mA σ y v&&(mn Q t).any (fun e=>dI Q e sz&&nq Q e bytes&&decide (0<sz)&&(Q.info? e).any (fun i=>i.zero.any fun z=>decide (z.cells.size=sz)))
    && (match Q.underlying b with | some .string=>ae | some (.slice _)=>ae | _=>ag)
  | _,_,_=>ag
 | .me sz bytes zs x y=>match c.callee,c.args.toList,c.argTypes.toList with
  | .builtin .append,[u,v],[t,b]=>mA σ x u&&mA σ y v&&(mn Q t).any (fun e=>dI Q e sz&&nq Q e bytes&&decide (0<sz)&&kz Q e zs)
    && (match Q.underlying b with | some (.int _)=>ae | _=>ag)
  | _,_,_=>ag
 | .copy sz x y=>match c.callee,c.args.toList,c.argTypes.toList with
  | .builtin .copy,[u,v],[t,_]=>mA σ x u&&mA σ y v&&(mn Q t).any (fun e=>dI Q e sz)
  | _,_,_=>ag
 | .fP lo xs=>match c.callee,lo with
  | .builtin .max,ag | .builtin .min,ae=>Xm σ xs c.args| _,_=>ag
 | .cap x=>match c.callee,c.args.toList,c.argTypes.toList with
  | .builtin .cap,[y],[t]=>mA σ x y&&(match Q.underlying t with | some (.slice _)=>ae | _=>ag)
  | _,_,_=>ag
 | .clear sz zs x=>match c.callee,c.args.toList,c.argTypes.toList with
  | .builtin .clear,[y],[t]=>mA σ x y&&(mn Q t).any (fun e=>dI Q e sz&&kz Q e zs)
  | _,_,_=>ag
 | .recover=>match c.callee with
  | .builtin .recover=>ae| _=>ag
 | .call f xs _=>match c.callee with
  | .value (.func g)=>σ f == g&&Xm σ xs c.args| _=>ag
 | .bZ x xs _=>match c.callee with
  | .value y=>mA σ x y&&Xm σ xs c.args| _=>ag
 | _=>ag
def KG(b:CK)(t:TypeId):Bool:=match Q.underlying t,b with
 | some (.int _),.int | some .string,.str | some .bool,.bool=>ae| _,_=>ag
def V3(t:TypeId)(qs:List (Nat × Nat × Arg))(ps:List (Nat × Operand)):Bool:=match Q.underlying t with
 | some (.struct b)=>match b.toList.mapM (fun f=>(Q.info? f.type).map fun i=>(f.offset,i.size))with
  | some pl=>fM (fun(q:Nat × Nat × Arg) (p:Nat × Operand)=>decide (pl[p.1]?=aa (q.1,q.2.1))&&mA σ q.2.2 p.2) qs ps
  | none=>ag
 | some (.array _ e)=>match Q.info? e with
  | some i=>fM (fun(q:Nat × Nat × Arg) (p:Nat × Operand)=>i.size == q.2.1&&q.1 == p.1*q.2.1&&mA σ q.2.2 p.2) qs ps
  | none=>ag
 | _=>ag
def dX(o:Oper)(a:dq):Bool:=match a with
 | .bad=>ae| .cX y=>(match o.op with | .move x | .assign x=>mA σ y x | _=>ag)
 | .pre .nil sz=>(match o.op with | .move (.const (.slice ab 0 0)) | .assign (.const (.slice ab 0 0))=>decide (0<sz) | _=>ag)
 | .pick M A J=>(match o.op with | .pick c x y=>mA σ M c&&mA σ A x&&mA σ J y | _=>ag)
 | .alloc zs=>(match o.op with | .alloc t=>kz Q t zs | _=>ag)
 | .box y=>(match o.op with | .box _ x=>mA σ y x | _=>ag)
 | .build zs qs=>(match o.op with | .build t ps=>kz Q t zs&&V3 Q σ t qs ps.toList | _=>ag)
 | .bS sz zs F qs=>(match o.op with | .buildSlice t n ps=>n == F&&decide (n*sz≤2 ^ 24)&&(mn Q t).any (fun e=>dI Q e sz&&kz Q e zs&&decide (zs.length=sz))&&decide (0<sz)&&fM (fun(q:Nat × Arg) (p:Nat × Operand)=>q.1 == p.1&&mA σ q.2 p.2) qs ps.toList | _=>ag)
 | .jK sz zs F qs=>(match o.op with | .buildSlice t n ps=>n == F&&decide (n*sz≤2 ^ 24)&&(mn Q t).any (fun e=>dI Q e sz&&kz Q e zs&&decide (zs.length=sz))&&decide (0<sz)&&fM (fun(q:Nat × Arg) (p:Nat × Operand)=>q.1 == p.1&&mA σ q.2 p.2) qs ps.toList | _=>ag)
 | .load n y=>(match o.op with | .load t x=>uE Q t n&&mA σ y x | _=>ag)
 | .store n A J=>(match o.op with | .store t x y=>dI Q t n&&mA σ A x&&mA σ J y | _=>ag)
 | .dP y=>(match o.op with | .nilCheck x=>mA σ y x | _=>ag)
 | .bin I A J=>(match o.op with | .binOp op t x y _=>decide (op=I)&&mA σ A x&&mA σ J y | _=>ag)
 | .eq neg k A J=>(match o.op with | .binOp op t x y _=>decide (op=if neg then .neq else .eql)&&mA σ A x&&mA σ J y&&mEq Q k t x y | _=>ag)
 | .un I y=>(match o.op with | .unOp op _ x=>decide (op=I)&&mA σ y x | _=>ag)
 | .jJ k y=>(match o.op with | .convert s d x=>mA σ y x&&(Q.underlying s).isSome&&(match Q.underlying d with | some (.int k')=>decide (k=k') | _=>ag) | _=>ag)
 | .BA y=>(match o.op with | .convert s d x=>mA σ y x&&(match Q.underlying s,Q.underlying d with | some .string,aa .string=>ae | _,_=>ag) | _=>ag)
 | .Ag y=>(match o.op with | .convert s d x=>mA σ y x&&(match Q.underlying s,Q.underlying d with | some (.slice e),aa .string=>ake Q e&&dI Q e 1 | _,_=>ag) | _=>ag)
 | .iE g ys=>(match o.op with | .makeFunc (.func f) fst B=>fst.isEmpty&&σ g == f&&Xm σ ys B | _=>ag)
 | .kj=>(match o.op with | .makeMap _ ab=>ae | _=>ag)
 | .dO sz bytes zs U M=>(match o.op with | .makeSlice t l c=>mA σ U l&&mA σ M c&&(mn Q t).any (fun e=>dI Q e sz&&nq Q e bytes&&kz Q e zs)&&decide (0<sz) | _=>ag)
 | .slice sz y E b mx'=>(match o.op with | .slice t x lo hi mx=>mA σ y x&&mO σ E lo&&mO σ b hi&&mO σ mx' mx&&(mn Q t).any (fun e=>dI Q e sz)&&decide (0<sz) | _=>ag)
 | .rZ sz y b mx'=>(match o.op with | .slice t x ab (aa hi) (aa mx)=>mA σ y x&&mA σ b hi&&mA σ mx' mx&&(mn Q t).any (fun e=>dI Q e sz)&&decide (0<sz) | _=>ag)
 | .rQ y E b=>(match o.op with | .slice t x lo hi ab=>mA σ y x&&mO σ E lo&&mO σ b hi&&(match Q.underlying t with | some .string=>ae | _=>ag) | _=>ag)
 | .qu n sz y E b mx'=>(match o.op with | .slice t x lo hi mx=>mA σ y x&&mO σ E lo&&mO σ b hi&&mO σ mx' mx&&(match Q.underlying t with | some (.array F e)=>n == F&&dI Q e sz | _=>ag)&&decide (0<sz) | _=>ag)
 | .bz H y=>(match o.op with | .fieldAddr t x i=>mA σ y x&&(match Q.underlying t with | some (.struct O)=>(match O[i]? with | some f=>f.offset == H&&(Q.info? f.type).any (fun i=>i.size != 0) | none=>ag) | _=>ag) | _=>ag)
 | .field H n y=>(match o.op with | .field t x i=>mA σ y x&&(match Q.underlying t with | some (.struct O)=>(match O[i]? with | some f=>f.offset == H&&uE Q f.type n | none=>ag) | _=>ag) | _=>ag)
 | .bN sz L A K=>(match o.op with | .indexAddr t x i=>mA σ A x&&mA σ K i&&(match Q.underlying t,L with | some (.slice e),ab=>dI Q e sz | some (.array n e),aa F=>n == F&&dI Q e sz | _,_=>ag) | _=>ag)
 | .idxs A K=>(match o.op with | .index t x i=>mA σ A x&&mA σ K i&&(match Q.underlying t with | some .string=>ae | _=>ag) | _=>ag)
 | .Aq n sz k A K=>(match o.op with | .index t x i=>mA σ A x&&mA σ K i&&(match Q.underlying t with | some (.array F e)=>n == F&&dI Q e sz&&uE Q e k | _=>ag) | _=>ag)
 | .lookup N z S k'=>(match o.op with | .lookup t m k ok=>mA σ S m&&mA σ k' k&&(ok ==(qS z).isSome)&&(match Q.underlying t with | some (.map kt e)=>KG Q N kt&&kz Q e (rm ((qS z).getD z))&&(Q.info? e).any (fun i=>i.zero.any fun u=>if CD ((qS z).getD z)then afU u else agG u) | _=>ag) | _=>ag)
 | .lT N S k' W=>(match o.op with | .mapUpdate t m k v=>mA σ S m&&mA σ k' k&&mA σ W v&&(match Q.underlying t with | some (.map kt _)=>KG Q N kt | _=>ag) | _=>ag)
 | .range y=>(match o.op with | .range t x=>mA σ y x&&(match Q.underlying t with | some .string=>ae | _=>ag) | _=>ag)
 | .next y=>(match o.op with | .next x ae=>mA σ y x | _=>ag)
 | .extract y j=>(match o.op with | .extract x i=>mA σ y x&&i == j | _=>ag)
 | .defer x xs=>(match o.op with | .defer c=>(match c.callee with | .value y=>mA σ x y&&Xm σ xs c.args | _=>ag) | _=>ag)
 | .len x=>(match o.op with | .call c=>dY Q σ c (.len x) | _=>ag)
 | .lens x=>(match o.op with | .call c=>dY Q σ c (.lens x) | _=>ag)
 | .oi n=>(match o.op with | .call c=>dY Q σ c (.oi n) | _=>ag)
 | .append sz bytes x y=>(match o.op with | .call c=>dY Q σ c (.append sz bytes x y) | _=>ag)
 | .fP lo xs=>(match o.op with | .call c=>dY Q σ c (.fP lo xs) | _=>ag)
 | .me sz bytes zs x y=>(match o.op with | .call c=>dY Q σ c (.me sz bytes zs x y) | _=>ag)
 | .cap x=>(match o.op with | .call c=>dY Q σ c (.cap x) | _=>ag)
 | .clear sz zs x=>(match o.op with | .call c=>dY Q σ c (.clear sz zs x) | _=>ag)
 | .nf y=>(match o.op with | .range t x=>mA σ y x&&(match Q.underlying t with | some (.map _ _)=>ae | _=>ag) | _=>ag)
 | .rN y=>(match o.op with | .next x ag=>mA σ y x | _=>ag)
 | .entry y=>(match o.op with | .entry x=>mA σ y x | _=>ag)
 | .AJ g ys=>(match o.op with | .makeFunc (.func f) fst B=>B.isEmpty&&σ g == f&&Xm σ ys fst | _=>ag)
 | .recover=>(match o.op with | .call c=>dY Q σ c (.recover) | _=>ag)
 | .call f xs h=>(match o.op with | .call c=>dY Q σ c (.call f xs h) | _=>ag)
 | .bZ x xs h=>(match o.op with | .call c=>dY Q σ c (.bZ x xs h) | _=>ag)
 | _=>ag
inductive Cls where | p | r | a | c | w
 deriving DecidableEq
def cls:dq→Cls
 | .cX _ | .pick .. | .build .. | .un .. | .jJ .. | .BA _ | .iE .. | .rQ .. | .bz .. | .field .. | .idxs .. | .Aq .. | .extract .. | .fP .. | .AJ .. | .dP _ | .bin .. | .oi _ | .lens _ | .jK ..=>.p| .load .. | .eq .. | .len _ | .slice .. | .qu .. | .bN .. | .lookup .. | .Ag _ | .cap _ | .entry _=>.r| .alloc _ | .box _ | .kj=>.a| .bS .. | .dO ..=>.a| .call _ _ ag=>.c| _=>.w
def Arg.rd:Arg→List P
 | .r p=>[p]| .k _=>[]
def oRd:Option Arg→List P
 | some x=>x.rd| none=>[]
def dq.rd:dq→List P
 | .cX x | .box x | .load _ x | .dP x | .un _ x | .jJ _ x | .BA x | .Ag x | .abK x | .bz _ x | .field _ _ x | .range x | .next x | .extract x _ | .len x | .lens x | .cap x | .clear _ _ x | .nf x | .rN x | .entry x=>x.rd| .pre _ _ | .alloc _ | .kj | .recover | .oi _ | .bad=>[]| .pick c a b=>c.rd++a.rd++b.rd| .build _ ps=>ps.flatMap fun p=>p.2.2.rd
 | .bS _ _ _ ps | .jK _ _ _ ps=>ps.flatMap fun p=>p.2.rd
 | .store _ x y | .bin _ x y | .eq _ _ x y | .bN _ _ x y | .idxs x y | .Aq _ _ _ x y | .append _ _ x y | .copy _ x y | .me _ _ _ x y | .lookup _ _ x y | .dO _ _ _ x y=>x.rd++y.rd| .lT _ x y z | .rZ _ x y z=>x.rd++y.rd++z.rd| .iE _ xs | .call _ xs _ | .fP _ xs | .AJ _ xs=>xs.flatMap Arg.rd| .bZ x xs _ | .defer x xs=>x.rd++xs.flatMap Arg.rd| .slice _ x a b c | .qu _ _ x a b c=>x.rd++oRd a++oRd b++oRd c| .rQ x a b=>x.rd++oRd a++oRd b
def aS.rd(o:aS):List P:=(match o.g with | some (p,_)=>[p] | none=>[])++o.op.rd
def aS.apart(x y:aS):Bool:=
 (match x.dst with | some d=>!y.rd.contains d&&y.dst != aa d | none=>ae)&&(match y.dst with | some d=>!x.rd.contains d | none=>ae)
def tp(x y:aS):Bool:=
 match cls x.op,cls y.op with
 | .p,_ | _,.p=>ae| .r,.w | .w,.r=>ae| .w,_ | _,.w=>ag| _,_=>ae
def mX(b:List Nat)(o:Oper):Nat:=o.after.toList.foldl (fun s e=>if Region.binds .any e then s ||| 2 ^ e.on ||| b.getD e.on 0 else s) 0
def dG:List Oper→List Nat→List Nat
 | [],b=>b| o::os,b=>dG os (b++[mX b o])
def yQ(b:List Nat)(i j:Nat):Bool:=(b.getD j 0).testBit i
def lL(aos:List aS):List Nat:=(List.range aos.length).filter fun j=>match aos[j]? with
 | some y=>decide (cls y.op=.w)| none=>ag
def phase(aos:List aS)(i:Nat):Nat:=i+((aos.drop i).takeWhile fun y=>decide (cls y.op≠.w)).length
def AE(b:List Nat)(aos:List aS)(i e:Nat):Bool:=
 (lL aos).all fun j=>if j<e then !yQ b i j else !yQ b j i
def abR(b:List Nat)(aos:List aS)(j:Nat):Bool:=match aos[j]? with
 | some y=>(match y.op with | .alloc _=>ae | _=>ag)&&(lL aos).any fun e=>decide (e<j)&&!yQ b e j
 | none=>ag
def jX(b:List Nat)(aos:List aS):Nat:=((List.range aos.length).find? (abR b aos)).getD aos.length
def Da(b:List Nat)(aos:List aS)(j:Nat):Bool:=match aos[j]? with
 | some y=>y.g.isNone&&(match y.op with | .alloc _=>ae | _=>ag)&&(match y.dst with
  | some p=>(List.range aos.length).all fun i=>match aos[i]? with
   | some z=>!z.rd.contains p||(lL aos).all fun e=>!decide (e<j)||yQ b e i
   | none=>ae
  | none=>ag)
 | none=>ae
def Wk(ops:List Oper)(aos:List aS)(d:List (Nat × Nat)):Bool:=
 let b:=dG ops []
 let n:=aos.length
 ((ops.zip (List.range n)).all fun o=>o.1.after.toList.all fun e=>!Region.binds .any e||decide (e.on<o.2)) &&
 ((List.range n).all fun j=>(List.range j).all fun i=>yQ b i j||(match aos[i]?,aos[j]? with
  | some x,aa y=>x.apart y&&(tp x y||(decide (j=jX b aos)&&decide (cls x.op=.w)))
  | _,_=>ag)) &&
 Da b aos (jX b aos) &&
 ((List.range n).all fun i=>match aos[i]? with
  | some x=>if cls x.op=.r then(lL aos++[n]).all fun e=>e == phase aos i||!AE b aos i e||d.contains (i,e)else ae
  | none=>ag)
variable(Q:Program)(σ:Nat→FuncId)
def kg(n:Nat)(ops:Array Oper)(o:Oper)(a:aS):Bool:=
 dX Q σ o a.op &&
 (match o.dst,a.dst with | some d,aa p=>p.toNat == d&&decide (d<n) | none,ab=>ae | _,_=>ag) &&
 (match o.guard,a.g with
  | some (j,w),aa (p,w')=>w == w'&&(match (ops[j]?).bind (·.dst)with | some d=>p.toNat == d&&decide (d<n) | none=>ag)
  | none,ab=>ae
  | _,_=>ag)
def jG:aw→Bool
 | .seq a b=>jG a&&jG b| .bad=>ag| _=>ae
def bQ(n:Nat):Code→aw→Bool
 | _,.bad=>ae| .skip,.skip=>ae| .region _ ops g,.region aos j=>fM (kg Q σ n ops) ops.toList aos&&(!g||Wk ops.toList aos j)| .seq a b,.seq a' d=>bQ n a a'&&bQ n b d| .cond c a b,.cond v a' d=>mA σ v c&&bQ n a a'&&bQ n b d| .block i a,.block m a'=>i == m&&bQ n a a'| .loop a,.loop a'=>bQ n a a'| .rangeFunc f ps a b,.fI x u a' d=>mA σ x f&&fM (fun p (q:P)=>q.toNat == p&&decide (p<n)) ps.toList u&&bQ n a a'&&bQ n b d
 | .exit i,.exit m=>i == m| .scope a,.scope a'=>bQ n a a'&&jG a'| .label l,.label s=>l == s| .goto l,.goto s=>l == s| .ret,.ret=>ae| _,_=>ag
def uW(n:Nat):ResultVar→gU→Bool
 | .tmp t,.tmp p=>p.toNat == t&&decide (t<n)| .cell t b,.cell p k=>p.toNat == t&&decide (t<n)&&uE Q b k| _,_=>ag
def wA(f:Func)(a:aK):Bool:=
 f.name != "runtime.NumGoroutine" &&
 (match f.body with | some b=>bQ Q σ f.ntmps b a.body | none=>ag) &&
 fM (uW Q f.ntmps) f.results.toList a.results &&
 decide (a.ps.map P.toNat=List.range a.ps.length)
end
section
def A2{α β:Type}(R:α→β→Prop)(xs:List α)(ys:List β):Prop:=
 xs.length=ys.length∧∀(i:Nat) x y,xs[i]?=aa x→ys[i]?=aa y→R x y
section A2
variable{α β:Type}{R S:α→β→Prop}{xs xs':List α}{ys ys':List β}
theorem A2.len(h:A2 R xs ys):xs.length=ys.length:=h.1
theorem A2.nil:A2 R [] []:=⟨rfl,by simp⟩
theorem A2.mono(h:A2 R xs ys)(d:∀ x y,x ∈ xs→R x y→S x y):A2 S xs ys:=
 ⟨h.1,fun i x y b hy=>d x y (List.mem_of_getElem? b) (h.2 i x y b hy)⟩
theorem A2.get(h:A2 R xs ys){i:Nat}{x:α}(b:xs[i]?=aa x):∃ y,ys[i]?=aa y∧R x y:=by
 have hi:i<xs.length:=(IT.1 b).1;have hy:i<ys.length:=h.1▸hi;exact⟨ys[i],By hy,h.2 i x _ b (By hy)⟩
theorem A2.cons{x:α}{y:β}(g:R x y)(h:A2 R xs ys):A2 R (x::xs) (y::ys):=
 ⟨by simp [h.1],fun i a b d hb=>by
  cases i with
  | zero=>simp at d hb;subst d;subst hb;exact g
  | succ i=>simp at d hb;exact h.2 i a b d hb⟩
theorem A2.of_cons{x:α}{y:β}(h:A2 R (x::xs) (y::ys)):R x y∧A2 R xs ys:=
 ⟨h.2 0 x y rfl rfl,by simpa using h.1,fun i a b d hb=>h.2 (i+1) a b (by simpa using d) (by simpa using hb)⟩
theorem A2.append(h:A2 R xs ys)(g:A2 R xs' ys'):A2 R (xs++xs') (ys++ys'):=
 ⟨by simp [h.1,g.1],fun i a b d hb=>by
  by_cases hi:i<xs.length
  ·rw [AT hi]at d;rw [AT (h.1▸hi)]at hb;exact h.2 i a b d hb
  ·rw [ann (by omega)]at d;rw [ann (by have:=h.1;omega),←h.1]at hb;exact g.2 _ a b d hb⟩
theorem A2.take(h:A2 R xs ys)(n:Nat):A2 R (xs.take n) (ys.take n):=
 ⟨by simp [h.1],fun i a b d hb=>by
  rw [an4]at d hb;split at d
  ·rename_i hi;simp only [hi,if_true]at hb;exact h.2 i a b d hb
  ·simp at d⟩
theorem A2.drop(h:A2 R xs ys)(n:Nat):A2 R (xs.drop n) (ys.drop n):=
 ⟨by simp [h.1],fun i a b d hb=>by
  rw [anI]at d hb;exact h.2 _ a b d hb⟩
theorem A2.map{l:Type}{g:l→α}{zs:List l}(h:A2 (fun z y=>R (g z) y) zs ys):A2 R (zs.map g) ys:=
 ⟨by simpa using h.1,fun i a b d hb=>by
  rw [aoj]at d;cases j:zs[i]? with
  | none=>rw [j]at d;simp at d
  | some z=>rw [j]at d;simp at d;subst d;exact h.2 i z b j hb⟩
theorem A2.kB(h:A2 R xs ys)(b:∀ x y,R x y→S x y):A2 S xs ys:=h.mono fun x y _=>b x y
end A2
inductive cW(σ:Nat→FuncId)(F:Nat→Nat→Prop)(w:World):FC→Value→Prop
 | bool (b:Bool):cW σ F w (.bool b) (.bool b)
 | int (k:IntKind) (n:Int):cW σ F w (.int k n) (.int k n)
 | str (s:ByteArray):cW σ F w (.str s) (.string s)
 | tU:cW σ F w .tU (.pointer ab)
 | aC:cW σ F w .aC (.slice ab 0 0)
 | es (a:Addr):cW σ F w .es (.slice (aa a) 0 0)
 | jM:cW σ F w .jM .nilFunc
 | oJ:cW σ F w .oJ .nilIface
 | pZ:cW σ F w .pZ (.map ab)
 | fp (cs:List FC) (off c o:Nat) (us:List Value) (hl:us.length=cs.length) (hF:∀ i,i<cs.length→F c (o+i))
   (hc:∀(i:Nat) u,us[i]?=aa u→w.cell? ⟨c,o+i,ab⟩=aa u) (hr:∀(i:Nat) x u,cs[i]?=aa x→us[i]?=aa u→cW σ F w x u) :
   cW σ F w (.fp cs off) (.pointer (aa ⟨c,o+off,ab⟩))
 | fs (cs:List FC) (l c o cap:Nat) (us:List Value) (am_:l≤cap) (hl:us.length=cs.length) (hF:∀ i,i<cs.length→F c (o+i))
   (hc:∀(i:Nat) u,us[i]?=aa u→w.cell? ⟨c,o+i,ab⟩=aa u) (hr:∀(i:Nat) x u,cs[i]?=aa x→us[i]?=aa u→cW σ F w x u) :
   cW σ F w (.fs cs l) (.slice (aa ⟨c,o,ab⟩) l cap)
 | fs0 (a:Addr) (cap:Nat):cW σ F w (.fs [] 0) (.slice (aa a) 0 cap)
 | fn (f:Nat) (JG:List FC) (us:List Value) (hl:us.length=JG.length) (hr:∀(i:Nat) x u,JG[i]?=aa x→us[i]?=aa u→cW σ F w x u) :
   cW σ F w (.fn f JG) (.func (.func (σ f)) #[] us.toArray)
theorem cW.mono{σ:Nat→FuncId}{F m:Nat→Nat→Prop}{w w':World}(q:∀ c i,F c i→m c i)
  (y:∀ c i,F c i→w'.cell? ⟨c,i,ab⟩=w.cell? ⟨c,i,ab⟩) {x:FC} {v:Value} (h:cW σ F w x v):cW σ m w' x v:=by
 induction h with
 | fp cs off c o us hl b hc s j=>
  refine .fp cs off c o us hl (fun i hi=>q _ _ (b i hi)) (fun i u hu=>?_) j;rw [y c (o+i) (b i (by rw [←hl];exact(IT.1 hu).1))];exact hc i u hu
 | fs cs l c o cap us g hl b hc s j=>
  refine .fs cs l c o cap us g hl (fun i hi=>q _ _ (b i hi)) (fun i u hu=>?_) j;rw [y c (o+i) (b i (by rw [←hl];exact(IT.1 hu).1))];exact hc i u hu
 | fn f d us hl s j=>exact .fn f d us hl j| _=>constructor
theorem cW.one{σ:Nat→FuncId}{F:Nat→Nat→Prop}{w:World}{x:FC}{v:Value}(h:cW σ F w x v):v.oneCell'=ae:=by
 cases h<;>rfl
structure Loc where
 c:Nat
 cap:Nat
structure Wd where
 cF:Nat→Option Loc
 F:Nat→Nat→Prop
 H:an
 w:World
 B:Nat
variable(σ:Nat→FuncId)
def fT(X:Wd):C→Value→Prop
 | .f x,v=>cW σ X.F X.w x v
 | .ptr b j g,v=>∃ L,X.cF b=aa L∧match X.H[b]? with
  | some (.box _ _)=>v=.pointer (aa ⟨L.c,j,ab⟩)| some (.cS _ _ _ e .loc)=>g≤e∧(g=e→v=.pointer (aa ⟨L.c,j,ab⟩))∧∃ a,v=.pointer (aa a)| _=>False
 | .sl b o l cap g sz,v=>match X.H[b]? with
  | some (.box _ _)=>∃ L,X.cF b=aa L∧l≤cap∧v=.slice (aa ⟨L.c,o,ab⟩) l cap
  | some (.cS s _ _ e st)=>g≤e∧(g=e→sz=s→match st with
    | .loc=>∃ L,X.cF b=aa L∧∃ k,o=k*s∧k+l≤L.cap∧v=.slice (aa ⟨L.c,o,ab⟩) l (L.cap-k)| .nil=>o=0∧l=0∧v=.slice ab 0 0
    | .es=>o=0∧l=0∧∃ a,v=.slice (aa a) 0 0)∧∃ a n c,v=.slice a n c
  | _=>False
 | .cl _ _,_=>False| .yl b,v=>∃ L,X.cF b=aa L∧(∃ f t p a u s q d,X.H[b]?=aa (.lp f t p a u s q d))∧v=.func (.yield L.c) #[] #[]| .mp b,v=>∃ L,X.cF b=aa L∧(∃ y,X.H[b]?=aa (.map y))∧v=.map (aa L.c)| .it b,v=>∃ L,X.cF b=aa L∧(∃ s p,X.H[b]?=aa (.it s p))∧v=.pointer (aa ⟨L.c,0,ab⟩)| .mi b,v=>∃ L,X.cF b=aa L∧(∃ m s d,X.H[b]?=aa (.AG m s d))∧v=.pointer (aa ⟨L.c,0,ab⟩)| .bm _ _,_=>False
def CR(X:Wd):C→Value→Prop
 | .cl f b,v=>∃ us,v=.func (.func (σ f)) #[] us.toArray∧A2 (fT σ X) b us| .bm f first,v=>∃ us,v=.func (.func (σ f)) us.toArray #[]∧A2 (fT σ X) first us
 | x,v=>fT σ X x v
theorem fT.one{X:Wd}{x:C}{v:Value}(h:fT σ X x v):v.oneCell'=ae:=by
 cases x with
 | f x=>exact cW.one h
 | ptr b off g=>
  obtain⟨L,_,h⟩:=h;split at h
  ·subst h;rfl
  ·obtain⟨_,_,a,rfl⟩:=h;rfl
  ·exact h.elim
 | sl b o l cap g sz=>
  simp only [fT]at h;split at h
  ·obtain⟨L,_,_,rfl⟩:=h;rfl
  ·obtain⟨_,_,a,n,c,rfl⟩:=h;rfl
  ·exact h.elim
 | cl f d=>exact h.elim| yl b=>obtain⟨L,_,_,rfl⟩:=h;rfl
 | mp b=>obtain⟨L,_,_,rfl⟩:=h;rfl
 | it b=>obtain⟨L,_,_,rfl⟩:=h;rfl
 | mi b=>obtain⟨L,_,_,rfl⟩:=h;rfl
 | bm f first=>exact h.elim
theorem CR.one{X:Wd}{x:C}{v:Value}(h:CR σ X x v):v.oneCell'=ae:=by
 cases x with
 | cl f j=>obtain⟨us,rfl,_⟩:=h;rfl
 | bm f first=>obtain⟨us,rfl,_⟩:=h;rfl
 | mi b=>exact fT.one σ (x:=.mi b) h| f y=>exact fT.one σ (x:=.f y) h| ptr a b c=>exact fT.one σ (x:=.ptr a b c) h| sl a b c d e g=>exact fT.one σ (x:=.sl a b c d e g) h| yl b=>exact fT.one σ (x:=.yl b) h| mp b=>exact fT.one σ (x:=.mp b) h| it b=>exact fT.one σ (x:=.it b) h
theorem CR.Xn{X:Wd}{x:C}{v:Value}(h:fT σ X x v):CR σ X x v:=by
 cases x with
 | cl f b=>exact h.elim| bm f first=>exact h.elim
 | _=>exact h
def iM(X:Wd):V→Value→Prop
 | .top,_=>True| .c x,v=>CR σ X x v| .a xs,v=>∃ us,v=.agg us.toArray∧A2 (CR σ X) xs us| .t _,_=>False
def VR(X:Wd):V→Value→Prop
 | .t b,v=>∃ us,v=.tuple us.toArray∧A2 (iM σ X) b us| x,v=>iM σ X x v
theorem VR.Xn{X:Wd}{x:V}{v:Value}(h:iM σ X x v):VR σ X x v:=by
 cases x with
 | t b=>exact h.elim| _=>exact h
def rowAt(w:World)(c:Nat)(us:List Value):Prop:=
 ∃ e b,w.heap[c]?=aa (.cells us.toArray e b)∧∀ i,i≤us.length→¬(b.1≤i∧i<b.2)
def lP(X X':Wd)(b:Nat):Prop:=
 ∀ bX,X.H[b]?=aa bX→∃ blk',X'.H[b]?=aa blk'∧match bX,blk' with
  | .box _ _,.box _ _=>∀ L,X.cF b=aa L→X'.cF b=aa L| .cS s _ _ e st,.cS g _ _ j st'=>s=g∧((e=j∧st=st'∧∀ L,X.cF b=aa L→X'.cF b=aa L)∨(e<j∧st'=.loc∧∃ L,X'.cF b=aa L))| .map _,.map _=>∀ L,X.cF b=aa L→X'.cF b=aa L| .it _ _,.it _ _=>∀ L,X.cF b=aa L→X'.cF b=aa L| .eo _,.eo _=>∀ L,X.cF b=aa L→X'.cF b=aa L| .AG m s _,.AG u g _=>(m=u∧s=g)∧∀ L,X.cF b=aa L→X'.cF b=aa L| .lp f t p a c _ _ d,.lp q x v a' l _ _ d'=>(f=q∧t=x∧p=v∧a=a'∧c=l∧d=d')∧∀ L,X.cF b=aa L→X'.cF b=aa L| _,_=>False
structure Ext(N:Nat)(X X':Wd):Prop where
 B:X'.B=X.B
 F:∀ c i,X.F c i→X'.F c i
 oX:∀ c i,X'.F c i→X.F c i∨X.w.heap.size≤c∨∃ b L,X.cF b=aa L∧L.c=c
 fw:∀ c i,X.F c i→X'.w.cell? ⟨c,i,ab⟩=X.w.cell? ⟨c,i,ab⟩
 ba:∀ b,b<N→lP X X' b
 wi:∀ b L,X'.cF b=aa L→(∃ b0 L0,X.cF b0=aa L0∧L0.c=L.c)∨X.w.heap.size≤L.c
 size:X.w.heap.size≤X'.w.heap.size
 os:X'.w.os=X.w.os
 tape:X'.w.tape=X.w.tape
 output:X'.w.output=X.w.output
 frame:∀ k,k<X.w.heap.size→(∀ b L,X.cF b=aa L→L.c≠k)→X'.w.heap[k]?=X.w.heap[k]?
structure oW(N:Nat)(X X':Wd):Prop where
 F:∀ c i,X.F c i→X'.F c i
 fw:∀ c i,X.F c i→X'.w.cell? ⟨c,i,ab⟩=X.w.cell? ⟨c,i,ab⟩
 ba:∀ b,b<N→lP X X' b
theorem Ext.W{N:Nat}{X X':Wd}(h:Ext N X X'):oW N X X':=⟨h.F,h.fw,h.ba⟩
theorem lP.refl(X:Wd)(b:Nat):lP X X b:=fun bX h=>⟨bX,h,by cases bX<;>simp⟩
theorem lP.trans{X Y Z:Wd}{b:Nat}(h:lP X Y b)(k:lP Y Z b):lP X Z b:=by
 intro bX hb;obtain⟨blk',m,h1⟩:=h bX hb;obtain⟨g,j,h2⟩:=k blk' m;refine⟨g,j,?_⟩;cases bX<;>cases blk'<;>simp only at h1<;>cases g<;>simp only at h2 ⊢
 case box=>exact fun L d=>h2 L (h1 L d)
 case map=>exact fun L d=>h2 L (h1 L d)
 case it=>exact fun L d=>h2 L (h1 L d)
 case eo=>exact fun L d=>h2 L (h1 L d)
 case AG=>
  obtain⟨⟨rfl,rfl⟩,h1⟩:=h1;obtain⟨⟨rfl,rfl⟩,h2⟩:=h2;exact⟨⟨rfl,rfl⟩,fun L d=>h2 L (h1 L d)⟩
 case lp=>
  obtain⟨⟨rfl,rfl,rfl,rfl,rfl,rfl⟩,h1⟩:=h1;obtain⟨⟨rfl,rfl,rfl,rfl,rfl,rfl⟩,h2⟩:=h2;exact⟨⟨rfl,rfl,rfl,rfl,rfl,rfl⟩,fun L d=>h2 L (h1 L d)⟩
 case cS=>
  obtain⟨rfl,h1⟩:=h1;obtain⟨rfl,h2⟩:=h2;refine⟨rfl,?_⟩;rcases h1 with⟨rfl,rfl,h1⟩ | ⟨h1,rfl,L,d⟩
  ·rcases h2 with⟨rfl,rfl,h2⟩ | ⟨h2,rfl,L,d⟩
   ·exact .inl ⟨rfl,rfl,fun L d=>h2 L (h1 L d)⟩
   ·exact .inr ⟨h2,rfl,L,d⟩
  ·rcases h2 with⟨rfl,rfl,h2⟩ | ⟨h2,rfl,q,l⟩
   ·exact .inr ⟨h1,rfl,L,h2 L d⟩
   ·exact .inr ⟨by omega,rfl,q,l⟩
theorem Ext.refl(N:Nat)(X:Wd):Ext N X X:=
 ⟨rfl,fun _ _ h=>h,fun _ _ h=>.inl h,fun _ _ _=>rfl,fun b _=>lP.refl X b,fun b L h=>.inl ⟨b,L,h,rfl⟩,anl _,rfl,rfl,rfl,fun _ _ _=>rfl⟩
theorem Ext.trans{N:Nat}{X Y Z:Wd}(h:Ext N X Y)(k:Ext N Y Z):Ext N X Z where
 B:=k.B.trans h.B
 F:=fun c i d=>k.F c i (h.F c i d)
 oX:=fun c i d=>by
  rcases k.oX c i d with h1 | h1 | ⟨b,L,hb,rfl⟩
  ·exact h.oX c i h1
  ·exact .inr (.inl (anL h.size h1))
  ·rcases h.wi b L hb with⟨b0,L0,h0,h1⟩ | h1
   ·exact .inr (.inr ⟨b0,L0,h0,h1⟩)
   ·exact .inr (.inl h1)
 fw:=fun c i d=>(k.fw c i (h.F c i d)).trans (h.fw c i d)
 ba:=fun b hb=>(h.ba b hb).trans (k.ba b hb)
 wi:=fun b L hb=>by
  rcases k.wi b L hb with⟨b0,L0,h0,h1⟩ | h1
  ·rcases h.wi b0 L0 h0 with⟨b1,m,h2,h3⟩ | h2
   ·exact .inl ⟨b1,m,h2,h3.trans h1⟩
   ·exact .inr (h1▸h2)
  ·exact .inr (anL h.size h1)
 size:=anL h.size k.size
 os:=k.os.trans h.os
 tape:=k.tape.trans h.tape
 output:=k.output.trans h.output
 frame:=fun j g l=>by
  rw [k.frame j (aok g h.size) (fun b L hb hc=>?_)]
  ·exact h.frame j g l
  ·rcases h.wi b L hb with⟨b0,L0,h0,h1⟩ | h1
   ·exact l b0 L0 h0 (h1.trans hc)
   ·omega
theorem Ext.mono{N M:Nat}{X Y:Wd}(h:Ext N X Y)(d:M≤N):Ext M X Y:=
 {h with ba:=fun b hb=>h.ba b (aok hb d) }
theorem fT.under{X:Wd}{x:C}{v:Value}(h:fT σ X x v):x.fv X.H.length=ae:=by
 have lt:∀(b:Nat) bX,X.H[b]?=aa bX→b<X.H.length:=fun b bX hb=>(IT.1 hb).1;cases x with
 | f x=>rfl
 | ptr b off j=>
  obtain⟨L,_,h⟩:=h;split at h
  ·rename_i hb;simpa [C.fv]using lt _ _ hb
  ·rename_i hb;simpa [C.fv]using lt _ _ hb
  ·exact h.elim
 | sl b o l cap j sz=>
  simp only [fT]at h;split at h
  ·rename_i hb;simpa [C.fv]using lt _ _ hb
  ·rename_i hb;simpa [C.fv]using lt _ _ hb
  ·exact h.elim
 | cl f g=>exact h.elim| yl b=>obtain⟨L,_,⟨f,t,p,a,u,s,q,d,hb⟩,rfl⟩:=h;simpa [C.fv]using lt _ _ hb
 | mp b=>obtain⟨L,_,⟨es,hb⟩,rfl⟩:=h;simpa [C.fv]using lt _ _ hb
 | it b=>obtain⟨L,_,⟨s,p,hb⟩,rfl⟩:=h;simpa [C.fv]using lt _ _ hb
 | mi b=>obtain⟨L,_,⟨m,s,d,hb⟩,rfl⟩:=h;simpa [C.fv]using lt _ _ hb
 | bm f first=>exact h.elim
theorem fT.pC{N:Nat}{X X':Wd}(u:oW N X X'){x:C}{v:Value}(hu:x.fv N=ae)(h:fT σ X x v):fT σ X' x v:=by
 cases x with
 | f x=>exact cW.mono u.F u.fw h
 | ptr b off E=>
  obtain⟨L,j,h⟩:=h;have z:=u.ba b (by simpa [C.fv]using hu);split at h
  ·rename_i cs fl hb;obtain⟨blk',g,h1⟩:=z _ hb;cases blk'<;>simp only at h1;exact⟨L,h1 L j,by rw [g];exact h⟩
  ·rename_i s cs fl e hb;obtain⟨blk',g,h1⟩:=z _ hb;cases blk'<;>simp only at h1;obtain⟨rfl,⟨rfl,rfl,h2⟩ | ⟨h2,rfl,A,y⟩⟩:=h1
   ·exact⟨L,h2 L j,by rw [g];exact h⟩
   ·exact⟨A,y,by rw [g];exact⟨by omega,fun h3=>by omega,h.2.2⟩⟩
  ·exact h.elim
 | sl b o l cap E sz=>
  simp only [fT]at h ⊢;have z:=u.ba b (by simpa [C.fv]using hu);split at h
  ·rename_i cs fl hb;obtain⟨L,j,h⟩:=h;obtain⟨blk',g,h1⟩:=z _ hb;cases blk'<;>simp only at h1;rw [g];exact⟨L,h1 L j,h⟩
  ·rename_i s cs fl e st hb;obtain⟨blk',g,h1⟩:=z _ hb;cases blk'<;>simp only at h1;rw [g];obtain⟨rfl,⟨rfl,rfl,h2⟩ | ⟨h2,rfl,A,y⟩⟩:=h1
   ·refine⟨h.1,fun h3 h4=>?_,h.2.2⟩;have h5:=h.2.1 h3 h4;cases st with
    | loc=>obtain⟨L,j,h6⟩:=h5;exact⟨L,h2 L j,h6⟩
    | nil=>exact h5| es=>exact h5
   ·exact⟨by omega,fun h3=>by omega,h.2.2⟩
  ·exact h.elim
 | cl f B=>exact h.elim
 | yl b=>
  obtain⟨L,j,⟨f,t,p,a,F,s,q,d,hb⟩,rfl⟩:=h;obtain⟨blk',g,h1⟩:=u.ba b (by simpa [C.fv]using hu) _ hb;cases blk'<;>simp only at h1;exact⟨L,h1.2 L j,⟨_,_,_,_,_,_,_,_,g⟩,rfl⟩
 | mp b=>
  obtain⟨L,j,⟨es,hb⟩,rfl⟩:=h;obtain⟨blk',g,h1⟩:=u.ba b (by simpa [C.fv]using hu) _ hb;cases blk'<;>simp only at h1;exact⟨L,h1 L j,⟨_,g⟩,rfl⟩
 | it b=>
  obtain⟨L,j,⟨s,p,hb⟩,rfl⟩:=h;obtain⟨blk',g,h1⟩:=u.ba b (by simpa [C.fv]using hu) _ hb;cases blk'<;>simp only at h1;exact⟨L,h1 L j,⟨_,_,g⟩,rfl⟩
 | mi b=>
  obtain⟨L,j,⟨m,s,d,hb⟩,rfl⟩:=h;obtain⟨blk',g,h1⟩:=u.ba b (by simpa [C.fv]using hu) _ hb;cases blk'<;>simp only at h1;exact⟨L,h1.2 L j,⟨_,_,_,g⟩,rfl⟩
 | bm f first=>exact h.elim
theorem CR.pC{N:Nat}{X X':Wd}(j:oW N X X'){x:C}{v:Value}(hu:x.under N=ae)(h:CR σ X x v):CR σ X' x v:=by
 cases x with
 | cl f m=>
  obtain⟨us,rfl,h⟩:=h;refine⟨us,rfl,h.mono fun y u hy l=>fT.pC σ j ?_ l⟩;exact anx.1 hu y hy
 | bm f first=>
  obtain⟨us,rfl,h⟩:=h;refine⟨us,rfl,h.mono fun y u hy l=>fT.pC σ j ?_ l⟩;exact anx.1 hu y hy
 | mi b=>exact fT.pC σ j (x:=.mi b) hu h| f y=>exact fT.pC σ j (x:=.f y) hu h| ptr a b c=>exact fT.pC σ j (x:=.ptr a b c) hu h| sl a b c d e g=>exact fT.pC σ j (x:=.sl a b c d e g) hu h| yl b=>exact fT.pC σ j (x:=.yl b) hu h| mp b=>exact fT.pC σ j (x:=.mp b) hu h| it b=>exact fT.pC σ j (x:=.it b) hu h
end
section
variable(Q:Program)(σ:Nat→FuncId)
theorem CR.under{X:Wd}{x:C}{v:Value}(h:CR σ X x v):x.under X.H.length=ae:=by
 cases x with
 | cl f j=>
  obtain⟨us,rfl,h⟩:=h;simp only [C.under,anx];intro y hy;obtain⟨i,hi⟩:=aot hy;obtain⟨u,_,hu⟩:=h.get hi;exact fT.under σ hu
 | bm f j=>
  obtain⟨us,rfl,h⟩:=h;simp only [C.under,anx];intro y hy;obtain⟨i,hi⟩:=aot hy;obtain⟨u,_,hu⟩:=h.get hi;exact fT.under σ hu
 | mi b=>exact fT.under σ (x:=.mi b) h| f y=>rfl| ptr a b c=>exact fT.under σ (x:=.ptr a b c) h| sl a b c d e g=>exact fT.under σ (x:=.sl a b c d e g) h| yl b=>exact fT.under σ (x:=.yl b) h| mp b=>exact fT.under σ (x:=.mp b) h| it b=>exact fT.under σ (x:=.it b) h
theorem CR.ed{X X':Wd}(b:oW X.H.length X X'){x:C}{v:Value}(h:CR σ X x v):CR σ X' x v:=CR.pC σ b (CR.under σ h) h
theorem A2.ed{X X':Wd}(b:oW X.H.length X X'){xs:List C}{us:List Value}(h:A2 (CR σ X) xs us):A2 (CR σ X') xs us:=
 h.kB fun _ _ h=>CR.ed σ b h
theorem iM.ed{X X':Wd}(b:oW X.H.length X X'){x:V}{v:Value}(h:iM σ X x v):iM σ X' x v:=by
 cases x with
 | top=>trivial| c x=>exact CR.ed σ b h| a xs=>obtain⟨us,rfl,h⟩:=h;exact⟨us,rfl,A2.ed σ b h⟩
 | t d=>exact h.elim
theorem VR.ed{X X':Wd}(b:oW X.H.length X X'){x:V}{v:Value}(h:VR σ X x v):VR σ X' x v:=by
 cases x with
 | t d=>obtain⟨us,rfl,h⟩:=h;exact⟨us,rfl,h.kB fun _ _ h=>iM.ed σ b h⟩
 | top=>trivial| c x=>exact iM.ed σ (x:=.c x) b h| a xs=>exact iM.ed σ (x:=.a xs) b h
def RR(X:Wd)(aG:T)(tmps:Array Value):Prop:=∀ p,VR σ X (aG.get p) (tmps.getD p.toNat undef)
theorem RR.ed{X X':Wd}(b:oW X.H.length X X'){aG:T}{tmps:Array Value}(h:RR σ X aG tmps):RR σ X' aG tmps:=fun p=>VR.ed σ b (h p)
theorem CR.ext'{X X':Wd}(b:Ext X.H.length X X'){x:C}{v:Value}(h:CR σ X x v):CR σ X' x v:=CR.ed σ b.W h
theorem A2.ext'{X X':Wd}(b:Ext X.H.length X X'){xs:List C}{us:List Value}(h:A2 (CR σ X) xs us):A2 (CR σ X') xs us:=A2.ed σ b.W h
theorem iM.ext'{X X':Wd}(b:Ext X.H.length X X'){x:V}{v:Value}(h:iM σ X x v):iM σ X' x v:=iM.ed σ b.W h
theorem VR.ext'{X X':Wd}(b:Ext X.H.length X X'){x:V}{v:Value}(h:VR σ X x v):VR σ X' x v:=VR.ed σ b.W h
theorem RR.ext'{X X':Wd}(b:Ext X.H.length X X'){aG:T}{tmps:Array Value}(h:RR σ X aG tmps):RR σ X' aG tmps:=RR.ed σ b.W h
theorem T.pE(t:T)(p q:P)(v:V):(t.set p v).get q=if p=q then v else t.get q:=by
 induction t generalizing p q with
 | e=>
  induction p generalizing q with
  | h=>cases q<;>simp [T.set,T.get]
  | o p b=>cases q<;>simp [T.set,T.get,b]
  | i p b=>cases q<;>simp [T.set,T.get,b]
 | n l j r d g=>cases p<;>cases q<;>simp [T.set,T.get,d,g]
theorem P.toNat_inj{p q:P}(h:p.toNat=q.toNat):p=q:=by
 induction p generalizing q with
 | h=>cases q<;>simp [P.toNat]at h ⊢
 | o p b=>
  cases q with
  | h=>simp [P.toNat]at h| o q=>simp only [P.toNat]at h;rw [b (q:=q) (by omega)]
  | i q=>simp [P.toNat]at h;omega
 | i p b=>
  cases q with
  | h=>simp [P.toNat]at h| o q=>simp [P.toNat]at h;omega| i q=>simp only [P.toNat]at h;rw [b (q:=q) (by omega)]
theorem RR.set{X:Wd}{aG:T}{tmps:Array Value}(h:RR σ X aG tmps){p:P}(g:p.toNat<tmps.size){v:V}{u:Value}(j:VR σ X v u) :
  RR σ X (aG.set p v) (tmps.setIfInBounds p.toNat u):=by
 intro q;rw [T.pE];by_cases d:p=q
 ·subst d;simpa [g]using j
 ·have b:p.toNat≠q.toNat:=fun e=>d (P.toNat_inj e);simpa [d,Array.getD_eq_getD_getElem?,Array.getElem?_setIfInBounds_ne b]using h q
def dw.of:dw→LoopState
 | .ready=>.ready| .busy=>.busy| .done=>.done| .exhausted=>.exhausted
def wB(n:Nat):Option aw→Option Code→Prop
 | none,ab=>True| some a,aa c=>bQ Q σ n c a=ae| _,_=>False
def BR(X:Wd):bV→Loc→Prop
 | .box cs fl,L=>∃ us,rowAt X.w L.c us∧A2 (CR σ X) cs us∧∀ i,fl≤i→¬ X.F L.c i| .cS sz cs fl _ st,L=>st=.loc∧∃ us rest,rowAt X.w L.c (us++rest)∧A2 (CR σ X) cs us∧(us++rest).length=L.cap*sz∧0<sz∧(∃ n,cs.length=n*sz)∧∀ i,fl≤i→¬ X.F L.c i| .map x,L=>∃ g:List MapEntry,X.w.heap[L.c]?=aa (.map g.toArray g.length)∧A2 (fun e m=>cW σ X.F X.w e.1 m.key∧iM σ X (mV e.2) m.val) x g∧∀(i:Nat) m,g[i]?=aa m→m.born=i
 | .AG m j done,L=>∃(A:Loc) (y:Array Nat) (st:Nat),X.cF m=aa A∧(∃ x,X.H[m]?=aa (.map x))∧X.w.heap[L.c]?=aa (.mapIter (aa A.c) j y st)∧(if done then y=#[0]∧st=1 else y=#[])| .it s pos,L=>X.w.heap[L.c]?=aa (.stringIter s pos)| .eo b,L=>X.w.heap[L.c]?=aa (.deferred (if b then aa []else ab))
 | .lp f tmps ps as bd st u d,L=>∃(n:Nat) (us:Array Value) (v:Array Tmp) (as' l:Code) (pend':Option Code) (z:Loc),
   X.w.heap[L.c]?=aa (.loop { state:=st.of,pending:=pend',fn:=σ f,tmps:=us,params:=v,assign:=as',body:=l,defers:=z.c }) ∧
   n≤us.size∧RR σ X tmps us∧fM (fun p (q:P)=>q.toNat == p&&decide (p<n)) v.toList ps=ae∧bQ Q σ n as' as=ae∧bQ Q σ n l bd=ae∧wB Q σ n u pend'∧X.cF d=aa z∧∃ o,X.H[d]?=aa (.eo o)
theorem BR.pC{X X':Wd}(g:oW X.H.length X X'){bX:bV}{L:Loc}(l:X'.w.heap[L.c]?=X.w.heap[L.c]?)(F:∀ i,X'.F L.c i→X.F L.c i)(h:BR Q σ X bX L):BR Q σ X' bX L:=by
 cases bX with
 | box cs fl=>
  obtain⟨us,⟨e,fr,h1,h2⟩,h3,h4⟩:=h;exact⟨us,⟨e,fr,l.trans h1,h2⟩,A2.ed σ g h3,fun i hi x=>h4 i hi (F i x)⟩
 | cS sz cs fl K st=>
  obtain⟨y,us,rest,⟨e,fr,h1,h2⟩,h3,h4,h5,h6,h7⟩:=h;exact⟨y,us,rest,⟨e,fr,l.trans h1,h2⟩,A2.ed σ g h3,h4,h5,h6,fun i hi x=>h7 i hi (F i x)⟩
 | map es=>
  obtain⟨u,h1,h2,h3⟩:=h;exact⟨u,l.trans h1,h2.kB fun _ _ h=>⟨cW.mono g.F g.fw h.1,iM.ed σ g h.2⟩,h3⟩
 | AG m A done=>
  obtain⟨E,J,st,h1,⟨es,h2⟩,h3,h4⟩:=h;obtain⟨blk',j,h5⟩:=g.ba m (IT.1 h2).1 _ h2;cases blk'<;>simp only at h5;exact⟨E,J,st,h5 E h1,⟨_,j⟩,l.trans h3,h4⟩
 | it s pos=>exact l.trans h| eo b=>exact l.trans h
 | lp f tmps ps as bd st H d=>
  obtain⟨n,us,z,as',v,pend',B,h1,h2,h3,h4,h5,h6,h7,h8,o,h9⟩:=h;have I:d<X.H.length:=(IT.1 h9).1;obtain⟨blk',j,q⟩:=g.ba d I _ h9;cases blk'<;>simp only at q;exact⟨n,us,z,as',v,pend',B,l.trans h1,h2,RR.ed σ g h3,h4,h5,h6,h7,q B h8,_,j⟩
theorem BR.ext{X X':Wd}(g:Ext X.H.length X X'){bX:bV}{L:Loc}(d:X'.w.heap[L.c]?=X.w.heap[L.c]?)(b:∀ i,X'.F L.c i→X.F L.c i)(h:BR Q σ X bX L):BR Q σ X' bX L:=BR.pC Q σ g.W d b h
structure SR(X:Wd):Prop where
 br:∀ b L,X.cF b=aa L→X.B≤L.c∧L.c<X.w.heap.size∧∃ bX,X.H[b]?=aa bX∧BR Q σ X bX L
 inj:∀ b b' L L',X.cF b=aa L→X.cF b'=aa L'→L.c=L'.c→b=b'
 fb:∀ c i,X.F c i→c<X.w.heap.size
theorem SR.step{X X':Wd}(u:SR Q σ X)(s:Ext X.H.length X X')(b0:Nat)(x:∀ b,b≠b0→X'.H[b]?=X.H[b]?)(d:∀ b,b≠b0→X'.cF b=X.cF b)
  (y:∀ b L,b≠b0→X.cF b=aa L→X'.w.heap[L.c]?=X.w.heap[L.c]?) (v:∀ b L,b≠b0→X.cF b=aa L→∀ i,X'.F L.c i→X.F L.c i)
  (h0:∀ L,X'.cF b0=aa L→X.B≤L.c∧L.c<X'.w.heap.size∧(∃ bX,X'.H[b0]?=aa bX∧BR Q σ X' bX L)∧∀ b j,b≠b0→X.cF b=aa j→j.c≠L.c)
  (q:∀ c i,X'.F c i→c<X'.w.heap.size):SR Q σ X' where
 br:=fun b L hb=>by
  rw [s.B];by_cases h:b=b0
  ·subst h;obtain⟨h1,h2,h3,_⟩:=h0 L hb;exact⟨h1,h2,h3⟩
  ·rw [d b h]at hb;obtain⟨h1,h2,bX,h3,h4⟩:=u.br b L hb;exact⟨h1,aok h2 s.size,bX,(x b h).trans h3,BR.ext Q σ s (y b L h hb) (v b L h hb) h4⟩
 fb:=fun c i h=>q c i h
 inj:=fun b l L j hb g hc=>by
  by_cases h:b=b0<;>by_cases m:l=b0
  ·rw [h,m]
  ·subst h;rw [d l m]at g;exact absurd hc.symm ((h0 L hb).2.2.2 l j m g)
  ·subst m;rw [d b h]at hb;exact absurd hc ((h0 j g).2.2.2 b L h hb)
  ·rw [d b h]at hb;rw [d l m]at g;exact u.inj b l L j hb g hc
end
section
variable{Q:Program}{σ:Nat→FuncId}{X:Wd}
theorem a5{t:TypeId}{d:TypeDesc}(h:Q.underlying t=aa d)(w:World):(underlying t).run Q w=.ok d w:=by
 simp [underlying,h]
theorem dm{t:TypeId}{n:Nat}(h:dI Q t n=ae)(w:World):(Go.sizeOf t).run Q w=.ok n w:=by
 unfold dI at h;cases hi:Q.info? t with
 | none=>simp [hi]at h| some i=>simp [hi]at h;simp [Go.sizeOf,typeInfo,hi,h]
theorem yG{t:TypeId}{n:Nat}(h:nq Q t n=ae)(w:World):∃ i,(typeInfo t).run Q w=.ok i w∧i.bytes=n:=by
 unfold nq at h;cases hi:Q.info? t with
 | none=>simp [hi]at h| some i=>simp [hi]at h;exact⟨i,by simp [typeInfo,hi],h⟩
theorem DU{t:TypeId}{n:Option Nat}(h:uE Q t n=ae)(w:World):(isAgg t).run Q w=.ok n.isSome w∧∀ k,n=aa k→dI Q t k=ae:=by
 unfold uE at h;cases b:Q.underlying t with
 | none=>simp [b]at h
 | some d=>
  cases d<;>cases n<;>simp_all [isAgg,a5 b]
theorem er(c o k:Nat):(⟨c,o,ab⟩:Addr).add k=⟨c,o+k,ab⟩:=by unfold Addr.add;split<;>simp_all
theorem ec{w:World}{c:Nat}{us:List Value}(h:rowAt w c us)(i:Nat):w.cell? ⟨c,i,ab⟩=us[i]?:=by
 obtain⟨e,b,h,_⟩:=h;simp [World.cell?,h]
theorem BH{w:World}{c:Nat}{us:List Value}(h:rowAt w c us){i:Nat}(hi:i<us.length):w.frozen? ⟨c,i,ab⟩=ag:=by
 obtain⟨e,d,h,b⟩:=h;have:=b i (Nat.le_of_lt hi);simp only [World.frozen?,h];simp only [Bool.and_eq_false_iff,decide_eq_false_iff_not];omega
theorem tj(B:SR Q σ X){x:C}{v:Value}(j:CR σ X x v){cs:List C}(h:aH X.H x=aa cs) :
  ∃ c o us,v=.pointer (aa ⟨c,o,ab⟩)∧(∀(i:Nat) u,us[i]?=aa u→X.w.cell? ⟨c,o+i,ab⟩=aa u)∧A2 (CR σ X) cs us:=by
 cases x with
 | ptr b d I=>
  obtain⟨L,A,j⟩:=j;obtain⟨_,_,bX,y,l⟩:=B.br b L A;simp only [aH,y]at h;rw [y]at j;cases bX with
  | box cs' fl=>
   simp only [AI]at h;subst h;subst j;obtain⟨us,m,q,_⟩:=l;exact⟨L.c,d,us.drop d,rfl,fun i u g=>by rw [ec m];rw [anI]at g;exact g,q.drop d⟩
  | cS s cs' fl e st=>
   cases st<;>simp only at h j
   ·split at h
    ·rename_i F;simp only [AI]at h;subst h;obtain⟨_,j,_⟩:=j;have j:=j F;subst j;obtain⟨_,us,rest,m,q,_⟩:=l;refine⟨L.c,d,us.drop d,rfl,fun i u g=>?_,q.drop d⟩;rw [ec m];rw [anI]at g;rw [AT (IT.1 g).1];exact g
    ·simp at h
   all_goals exact j.elim
  | _=>simp at h
 | f x=>
  cases x with
  | fp cs' d=>
   simp only [aH,AI]at h;subst h;cases j with
   | fp _ _ c o us H J E m=>
    refine⟨c,o+d,us.drop d,rfl,fun i u g=>?_,A2.map ⟨by simp [H],fun i x u z g=>?_⟩⟩
    ·rw [anI]at g;have:=E _ u g;rwa [show o+(d+i)=o+d+i by omega]at this
    ·rw [anI]at z g;exact m _ x u z g
  | _=>simp [aH]at h
 | _=>simp [aH]at h
theorem Ba{t:TypeId}{n:Option Nat}(z:uE Q t n=ae){c o:Nat}{us:List Value}{cs:List C}{w:World}
  (q:∀(i:Nat) u,us[i]?=aa u→w.cell? ⟨c,o+i,ab⟩=aa u) (g:A2 (CR σ X) cs us) {v:V} (b:aW n cs=aa v) :
  ∃ u,(loadVar t ⟨c,o,ab⟩).run Q w=.ok u w∧VR σ X v u:=by
 obtain⟨m,s⟩:=DU z w;cases n with
 | none=>
  cases cs with
  | nil=>simp [aW]at b
  | cons x cs=>
   simp only [aW,AI]at b;subst b;obtain⟨u,A,l⟩:=g.get (i:=0) (x:=x) rfl;have:=q 0 u A;simp only [Nat.add_zero]at this;exact⟨u,by simp [loadVar,m,this],l⟩
 | some n=>
  simp only [aW]at b;split at b
  ·rename_i B;simp only [AI]at b;subst b;have y:(us.take n).length=n:=by have:=g.len;simp;omega
   have:=run_loadCells_list (P:=Q) w ⟨c,o,ab⟩ (us.take n) (fun j v d=>by
    rw [er];rw [an4]at d;split at d
    ·exact q j v d
    ·simp at d)
   rw [y]at this;refine⟨.agg (us.take n).toArray,?_,⟨us.take n,rfl,g.take n⟩⟩;simp [loadVar,m,dm (s n rfl),this]
  ·simp at b
theorem agw(q:SR Q σ X){t:TypeId}{n:Option Nat}(s:uE Q t n=ae){x:V}{p:Value}(y:VR σ X x p){v:V}(h:aU X.H n x=aa v) :
  ∃ u,(Instr.loadAt t p).run Q X.w=.ok u X.w∧VR σ X v u:=by
 cases x with
 | c x=>
  simp only [aU,anN]at h;obtain⟨cs,b,d⟩:=h;obtain⟨c,o,us,rfl,g,j⟩:=tj q y b;obtain⟨u,l,m⟩:=Ba s g j d;exact⟨u,by simp [Instr.loadAt,Instr.sureAddr,l],m⟩
 | _=>simp [aU]at h
end
section
variable{Q:Program}{σ:Nat→FuncId}{X:Wd}
theorem VR.int{k:IntKind}{n:Int}{u:Value}(h:VR σ X (.c (.f (.int k n))) u):u=.int k n:=by cases (h:cW σ X.F X.w (.int k n) u);rfl
theorem VR.bool{b:Bool}{u:Value}(h:VR σ X (.c (.f (.bool b))) u):u=.bool b:=by cases (h:cW σ X.F X.w (.bool b) u);rfl
theorem VR.str{s:ByteArray}{u:Value}(h:VR σ X (.c (.f (.str s))) u):u=.string s:=by cases (h:cW σ X.F X.w (.str s) u);rfl
theorem VR.mkInt(k:IntKind)(n:Int):VR σ X (V.int k n) (.int k n):=cW.int k n
theorem VR.tQ(b:Bool):VR σ X (V.bool b) (.bool b):=cW.bool b
theorem VR.mkStr(s:ByteArray):VR σ X (.c (.f (.str s))) (.string s):=cW.str s
theorem eT{α β:Type}{f:α→β→Bool}:∀ {xs:List α} {ys:List β},fM f xs ys=ae→A2 (fun x y=>f x y=ae) xs ys
 | [],[],_=>A2.nil
 | x::xs,y::ys,h=>by
  simp only [fM,If]at h;exact A2.cons h.1 (eT h.2)
 | [],_::_,h=>by simp [fM]at h
 | _::_,[],h=>by simp [fM]at h
theorem B3{F:Nat→Nat→Prop}{w:World}{x:FC}{u:Value}(h:mK1 x u=ae):cW σ F w x u:=by
 unfold mK1 at h;split at h
 ·simp only [beq_iff_eq]at h;subst h;exact .bool _
 ·simp only [If,decide_eq_true_eq]at h;obtain⟨rfl,rfl⟩:=h;exact .int _ _
 ·simp only [decide_eq_true_eq]at h;subst h;exact .str _
 ·exact .tU
 ·exact .aC
 ·exact .jM
 ·exact .oJ
 ·exact .pZ
 ·simp at h
theorem akl{x:V}{u:Value}(h:mK x u=ae):VR σ X x u:=by
 unfold mK at h;split at h
 ·exact B3 h
 ·refine⟨_,by simp,(eT h).kB fun y w b=>?_⟩;split at b
  ·exact B3 b
  ·simp at b
 ·trivial
 ·simp at h
theorem bT{a:Act}{aG:T}(b:RR σ X aG a.tmps){x:Arg}{y:Operand}(h:mA σ x y=ae):VR σ X (x.ev aG) (a.eval y):=by
 unfold mA at h;split at h
 ·rename_i p t;simp only [beq_iff_eq]at h;subst h;exact b p
 ·exact akl h
 ·simp only [beq_iff_eq]at h;subst h;exact cW.fn _ [] [] rfl (by simp)
 ·simp at h
theorem mW{a:Act}{aG:T}(j:RR σ X aG a.tmps){xs:List Arg}{ys:Array Operand}(h:Xm σ xs ys=ae):A2 (VR σ X) (dz aG xs) (ys.map a.eval).toList:=by
 have:=(eT h).kB fun x y b=>bT j b;refine⟨by simpa [dz]using this.len,fun i v u g d=>?_⟩;simp only [dz,aoj,IN]at g;simp only [Array.toList_map,aoj,IN]at d;obtain⟨x,l,rfl⟩:=g;obtain⟨y,m,rfl⟩:=d;exact this.2 i x y l m
theorem akm{a:Act}{aG:T}(g:RR σ X aG a.tmps){x:Option Arg}{y:Option Operand}(h:mO σ x y=ae) :
  (x=ab∧y=ab)∨∃ b d,x=aa b∧y=aa d∧VR σ X (b.ev aG) (a.eval d):=by
 unfold mO at h;split at h
 ·exact .inl ⟨rfl,rfl⟩
 ·exact .inr ⟨_,_,rfl,rfl,bT g h⟩
 ·simp at h
theorem abB{op:BinOp}{k:IntKind}{x y:Int}{v:V}(h:kI op k x y=aa v)(w:World) :
  ∃ u,(binOp op 0 (.int k x) (.int k y)).run Q w=.ok u w∧VR σ X v u∧∀ t,binOp op t (.int k x) (.int k y)=binOp op 0 (.int k x) (.int k y):=by
 unfold kI at h;split at h<;>(try split at h)<;>(try simp only [AI,reduceCtorEq]at h)<;>(try subst h)
 all_goals first
  | (refine⟨_,?_,VR.mkInt _ _,fun _=>by simp [binOp]⟩;simp [binOp,Op.intArith,Op.intBits];done)
  | (refine⟨_,?_,VR.tQ _,fun _=>by simp [binOp]⟩;simp [binOp,Op.intCmp];done)
  | (rename_i b;refine⟨_,?_,VR.mkInt _ _,fun _=>by simp [binOp]⟩;simp [binOp,Op.intDiv,b];done)
theorem abC{op:BinOp}{x y:ByteArray}{v:V}(h:afW op x y=aa v)(w:World)(t:TypeId) :
  ∃ u,(binOp op t (.string x) (.string y)).run Q w=.ok u w∧VR σ X v u:=by
 unfold afW at h;split at h<;>(try split at h)<;>(try simp only [AI,reduceCtorEq]at h)<;>(try subst h)
 all_goals first
  | exact⟨_,by simp [binOp,Op.stringOp],VR.tQ _⟩
  | (rename_i b;exact⟨_,by simp only [binOp,Op.stringOp];rw [aT b];rfl,VR.mkStr _⟩)
  | skip
end
section
variable{Q:Program}{σ:Nat→FuncId}{X:Wd}
theorem sw:∀ {d:List CK} {xs ys:List C} {b:Bool},rA d xs ys=aa b→xs.length=d.length∧ys.length=d.length
 | [],[],[],_,_=>⟨rfl,rfl⟩
 | k::d,x::xs,y::ys,b,h=>by
  simp only [rA]at h;split at h
  ·rename_i g;have:=sw g;simp [this]
  ·simp at h
 | [],_::_,_,_,h=>by simp [rA]at h
 | [],[],_::_,_,h=>by simp [rA]at h
 | _::_,[],_,_,h=>by simp [rA]at h
 | _::_,_::_,[],_,h=>by simp [rA]at h
theorem tA:∀ {d g:List CK} {xs ys:List C} {b:Bool},rA (d++g) xs ys=aa b →
  ∃ b1 j,rA d (xs.take d.length) (ys.take d.length)=aa b1∧rA g (xs.drop d.length) (ys.drop d.length)=aa j∧b=(b1&&j)
 | [],g,xs,ys,b,h=>⟨ae,b,rfl,by simpa using h,by simp⟩
 | k::d,g,[],ys,b,h=>by simp [rA]at h
 | k::d,g,x::xs,[],b,h=>by simp [rA]at h
 | k::d,g,x::xs,y::ys,b,h=>by
  simp only [List.cons_append,rA]at h;split at h
  ·rename_i a c q s;simp only [AI]at h;obtain⟨b1,j,l,m,rfl⟩:=tA s;refine⟨a&&b1,j,?_,by simpa using m,by rw [←h,Bool.and_assoc]⟩;simp [rA,q,l]
  ·simp at h
def CKv:CK→Value→Value→Bool→Prop
 | .bool,u,v,b=>∃ p q,u=.bool p∧v=.bool q∧b=(p == q)| .int,u,v,b=>∃ j p q,u=.int j p∧v=.int j q∧b=(p == q)| .str,u,v,b=>∃ p q,u=.string p∧v=.string q∧b=(p == q)
theorem sx{k:CK}{x y:C}{b:Bool}(h:Kg k x y=aa b){u v:Value}(d:CR σ X x u)(g:CR σ X y v):CKv k u v b:=by
 unfold Kg at h;split at h
 ·simp only [AI]at h;exact⟨_,_,VR.bool (σ:=σ) (X:=X) d,VR.bool (σ:=σ) (X:=X) g,h.symm⟩
 ·split at h
  ·rename_i j;subst j;simp only [AI]at h;exact⟨_,_,_,VR.int (σ:=σ) (X:=X) d,VR.int (σ:=σ) (X:=X) g,h.symm⟩
  ·simp at h
 ·simp only [AI]at h;exact⟨_,_,VR.str (σ:=σ) (X:=X) d,VR.str (σ:=σ) (X:=X) g,h.symm⟩
 ·simp at h
theorem AY:∀(d:Nat) (t:TypeId) (W:List CK),gZ Q d t=aa W→∀(D:Nat),d≤D→∀(us Z:List Value) (g:Nat) (xs ys:List C) (b:Bool) (w:World),
  rA W xs ys=aa b→A2 (CR σ X) xs ((us.drop g).take W.length)→A2 (CR σ X) ys ((Z.drop g).take W.length) →
  ∃ a c,(part t us.toArray g).run Q w=.ok a w∧(part t Z.toArray g).run Q w=.ok c w∧(Op.equalIn D t a c).run Q w=.ok b w
 | 0,_,_,h,_,_,_,_,_,_,_,_,_,_,_,_=>by simp [gZ]at h
 | d+1,t,W,h,0,hD,_,_,_,_,_,_,_,_,_,_=>by omega
 | d+1,t,W,h,D+1,hD,us,Z,g,xs,ys,b,w,N,hx,hy=>by
  have hl:=sw N;have s:∀(k:CK),W=[k]→(∀ J,Q.underlying t=aa J→(match J with | .struct _ | .array _ _=>False | _=>True))→(∃ J,Q.underlying t=aa J) →
    ∃ x y u v,xs=[x]∧ys=[y]∧Kg k x y=aa b∧CR σ X x u∧CR σ X y v∧(part t us.toArray g).run Q w=.ok u w∧(part t Z.toArray g).run Q w=.ok v w:=by
   intro k A a8 m;subst A;obtain⟨J,m⟩:=m;have a8:=a8 J m
   match xs,ys,hl with
   | [x],[y],_=>
    simp only [rA]at N;split at N
    ·rename_i a c ha hc;simp only [AI]at hc N;subst hc;simp at N;subst N;obtain⟨u,f7,f8⟩:=hx.get (i:=0) (x:=x) rfl;obtain⟨v,f_,g_⟩:=hy.get (i:=0) (x:=y) rfl;have e1:us[g]?=aa u:=by simpa [an4,anI]using f7
     have e2:Z[g]?=aa v:=by simpa [an4,anI]using f_
     have a7:(isAgg t).run Q w=.ok ag w:=by
      cases J<;>simp_all [isAgg,a5 m]
     exact⟨x,y,u,v,rfl,rfl,ha,f8,g_,by simp [part,a7,e1],by simp [part,a7,e2]⟩
    ·simp at N
  unfold gZ at h;split at h
  ·rename_i m;split at h
   ·simp only [AI]at h;obtain⟨x,y,u,v,rfl,rfl,F,h1,h2,O,h4⟩:=s .bool h.symm (fun J z=>by rw [m]at z;cases z;trivial) ⟨_,m⟩;obtain⟨p,q,rfl,rfl,rfl⟩:=sx F h1 h2;exact⟨_,_,O,h4,run_equalIn_bool' w D t _ _ m⟩
   ·simp at h
  ·rename_i j m;split at h
   ·simp only [AI]at h;obtain⟨x,y,u,v,rfl,rfl,F,h1,h2,O,h4⟩:=s .int h.symm (fun J z=>by rw [m]at z;cases z;trivial) ⟨_,m⟩;obtain⟨j',p,q,rfl,rfl,rfl⟩:=sx F h1 h2;exact⟨_,_,O,h4,run_equalIn_int w D t _ _ _ _ m⟩
   ·simp at h
  ·rename_i m;split at h
   ·simp only [AI]at h;obtain⟨x,y,u,v,rfl,rfl,F,h1,h2,O,h4⟩:=s .str h.symm (fun J z=>by rw [m]at z;cases z;trivial) ⟨_,m⟩;obtain⟨p,q,rfl,rfl,rfl⟩:=sx F h1 h2;exact⟨_,_,O,h4,by rw [run_equalIn_string w D t _ _ m,beq_toListBytes]⟩
   ·simp at h
  ·rename_i fs m;split at h
   ·simp at h
   ·rename_i e_;split at h
    ·rename_i Y hf;split at h
     ·rename_i a_;simp only [AI]at h;subst h;have M:(isAgg t).run Q w=.ok ae w:=by simp [isAgg,a5 m]
      have U:Q.underlying t=aa (.struct (Q.fieldsOf t)):=by simp [Program.fieldsOf,m]
      have d_:Q.fieldsOf t=fs:=by rw [m]at U;simpa using U.symm
      refine⟨.agg ((us.drop g).take Y.length).toArray,.agg ((Z.drop g).take Y.length).toArray,?_,?_,?_⟩
      ·simp [part,M,dm a_,aoX]
      ·simp [part,M,dm a_,aoX]
      ·rw [run_equalIn_struct w D t _ _ U (by simpa using e_),d_];have key:∀(l:List Field) (k:Nat) (K:List CK) (b2:Bool),gZ.pD (gZ Q d) k l=aa K→∀(B E:List Value) (H I:List C),
         rA K (H.drop k) (I.drop k)=aa b2→A2 (CR σ X) H B→A2 (CR σ X) I E→(Op.eqFields D B.toArray E.toArray l).run Q w=.ok b2 w:=by
        intro l;induction l with
        | nil=>
         intro k K b2 A B E H I F _ _;simp only [gZ.pD,AI]at A;subst A;have:=sw F;simp only [List.length_nil,List.length_eq_zero_iff]at this;rw [this.1,this.2]at F;simp only [rA,AI]at F;subst F;simp [Op.eqFields]
        | cons f l ih=>
         intro k K b2 A B E H I F b_ c9;simp only [gZ.pD]at A;split at A
         ·rename_i S;obtain⟨hn,ho⟩:=S;subst ho;split at A
          ·rename_i L O;split at A
           ·rename_i r hr;simp only [AI]at A;subst A;obtain⟨b1,b3,c_,d9,rfl⟩:=tA F;obtain⟨a,c,h5,h6,h7⟩:=AY d f.type L O D (by omega) B E f.offset _ _ b1 w c_ (by have:=(b_.drop f.offset).take L.length;simpa using this) (by have:=(c9.drop f.offset).take L.length;simpa using this);have h_:=ih (f.offset+L.length) r b3 hr B E H I (by simpa [List.drop_drop]using d9) b_ c9;simp only [Op.eqFields,hn,ne_eq,not_false_eq_true,if_true,Sem.run_bind,h5,h6,h7,Result.andThen_ok];cases b1<;>simp [h_]
           ·simp at A
          ·simp at A
         ·simp at A
       exact key fs.toList 0 Y b hf _ _ xs ys (by simpa using N) hx hy
     ·simp at h
    ·simp at h
  ·simp at h
def amj:Li→Value→Bool→Prop
 | .ptr,u,b=>∃ a,u=.pointer a∧b=a.isNone| .sl,u,b=>∃ a n c,u=.slice a n c∧b=a.isNone| .fn,u,b=>(u=.nilFunc∧b=ae)∨∃ f p q,u=.func f p q∧b=ag| .ifc,u,b=>u=.nilIface∧b=ae| _,_,_=>False
theorem pK{k:Li}{x:C}{u:Value}(d:CR σ X x u){b:Bool}(h:isNil X.H k x=aa b):amj k u b:=by
 unfold isNil at h;split at h<;>try simp only [AI,reduceCtorEq]at h
 ·cases (d:cW σ X.F X.w .tU u);subst h;exact⟨_,rfl,rfl⟩
 ·cases (d:cW σ X.F X.w (.fp _ _) u);subst h;exact⟨_,rfl,rfl⟩
 ·obtain⟨L,_,d⟩:=d;subst h;split at d
  ·subst d;exact⟨_,rfl,rfl⟩
  ·obtain⟨_,_,a,rfl⟩:=d;exact⟨_,rfl,rfl⟩
  ·exact d.elim
 ·cases (d:cW σ X.F X.w .aC u);subst h;exact⟨_,_,_,rfl,rfl⟩
 ·cases (d:cW σ X.F X.w .es u);subst h;exact⟨_,_,_,rfl,rfl⟩
 ·cases (d:cW σ X.F X.w (.fs _ _) u)<;>(subst h;exact⟨_,_,_,rfl,rfl⟩)
 ·rename_i m o l c q sz;simp only [CR,fT]at d;split at h
  ·rename_i g;rw [g]at d;obtain⟨L,_,_,rfl⟩:=d;simp only [AI]at h;subst h;exact⟨_,_,_,rfl,rfl⟩
  ·rename_i s cs fl e st g;rw [g]at d;split at h
   ·rename_i j;have:=d.2.1 j.1 j.2;simp only [AI]at h;subst h;cases st with
    | loc=>obtain⟨L,_,k,_,_,rfl⟩:=this;exact⟨_,_,_,rfl,rfl⟩
    | nil=>obtain⟨_,_,rfl⟩:=this;exact⟨_,_,_,rfl,rfl⟩
    | es=>obtain⟨_,_,a,rfl⟩:=this;exact⟨_,_,_,rfl,rfl⟩
   ·simp at h
  ·simp at h
 ·cases (d:cW σ X.F X.w .jM u);subst h;exact .inl ⟨rfl,rfl⟩
 ·cases (d:cW σ X.F X.w (.fn _ _) u);subst h;exact .inr ⟨_,_,_,rfl,rfl⟩
 ·obtain⟨us,rfl,_⟩:=d;subst h;exact .inr ⟨_,_,_,rfl,rfl⟩
 ·obtain⟨us,rfl,_⟩:=d;subst h;exact .inr ⟨_,_,_,rfl,rfl⟩
 ·cases (d:cW σ X.F X.w .oJ u);subst h;exact⟨rfl,rfl⟩
theorem AX{d:Nat}{t:TypeId}{b:List CK}(h:gZ Q d t=aa b):dI Q t b.length=ae:=by
 cases d with
 | zero=>simp [gZ]at h
 | succ d=>
  unfold gZ at h;split at h
  ·split at h
   ·simp only [AI]at h;subst h;assumption
   ·simp at h
  ·split at h
   ·simp only [AI]at h;subst h;assumption
   ·simp at h
  ·split at h
   ·simp only [AI]at h;subst h;assumption
   ·simp at h
  ·split at h
   ·simp at h
   ·split at h
    ·split at h
     ·simp only [AI]at h;subst h;assumption
     ·simp at h
    ·simp at h
  ·simp at h
theorem VG{t e:TypeId}(b:Q.underlying t=aa (.pointer e))(D:Nat)(a:Option Addr)(w:World):(Op.equalIn (D+1) t (.pointer a) (.pointer ab)).run Q w=.ok a.isNone w:=by
 cases a<;>simp [Op.equalIn,a5 b]
theorem abV{t e:TypeId}(b:Q.underlying t=aa (.slice e))(D:Nat)(a:Option Addr)(n c:Nat)(w:World):(Op.equalIn (D+1) t (.slice a n c) (.slice ab 0 0)).run Q w=.ok a.isNone w:=by
 cases a<;>simp [Op.equalIn,a5 b]
theorem abT{t:TypeId}{p r:Array TypeId}{v:Bool}(b:Q.underlying t=aa (.func p r v))(D:Nat)(w:World):(Op.equalIn (D+1) t .nilFunc .nilFunc).run Q w=.ok ae w:=by
 simp [Op.equalIn,a5 b]
theorem abS{t:TypeId}{p r:Array TypeId}{v:Bool}(b:Q.underlying t=aa (.func p r v))(D:Nat)(f:Fn)(x y:Array Value)(w:World):(Op.equalIn (D+1) t (.func f x y) .nilFunc).run Q w=.ok ag w:=by
 simp [Op.equalIn,a5 b]
theorem abU{t:TypeId}{d:Array (String × TypeId)}(b:Q.underlying t=aa (.interface d))(D:Nat)(w:World):(Op.equalIn (D+1) t .nilIface .nilIface).run Q w=.ok ae w:=by
 simp [Op.equalIn,a5 b]
theorem Kq{t:TypeId}{x y:Operand}(b:(rE x||rE y)=ae)(op:BinOp)(w:World):(eqGuard op t x y .nilIface .nilIface).run Q w=.ok () w:=by
 simp only [Bool.or_eq_true]at b;rcases b with b | b
 ·cases x<;>simp only [rE,anF]at b;cases op<;>rfl
 ·cases y<;>simp only [rE,anF]at b;cases x<;>cases op<;>rfl
theorem aga{k:Li}{t:TypeId}{x y:Operand}(v:mEq Q k t x y=ae){H I:V}{l d:Value}(s:VR σ X H l)(u:VR σ X I d){b:Bool}
  (h:Dc X.H k H I=aa b) (neg:Bool) (w:World) :
  (do eqGuard (if neg then .neq else .eql) t x y l d;binOp (if neg then .neq else .eql) t l d).run Q w=.ok (.bool (if neg then !b else b)) w:=by
 have g:(binOp .eql t l d=do pure (.bool (←Op.equal t l d)))→(binOp .neq t l d=do pure (.bool (!(←Op.equal t l d)))) →
   (∀ op,(eqGuard op t x y l d).run Q w=.ok () w)→(Op.equalIn 10000 t l d).run Q w=.ok b w →
   (do eqGuard (if neg then .neq else .eql) t x y l d;binOp (if neg then .neq else .eql) t l d).run Q w=.ok (.bool (if neg then !b else b)) w:=by
  intro B E z N;cases neg
  ·simp only [anF,if_false,Sem.run_bind,z,Result.andThen_ok,B,Op.equal,Op.maxDepth,N,Sem.run_pure]
  ·simp only [if_true,Sem.run_bind,z,Result.andThen_ok,E,Op.equal,Op.maxDepth,N,Sem.run_pure]
 unfold mEq at v;unfold Dc at h;split at v
 ·rename_i j;split at h<;>try simp only [reduceCtorEq]at *
  obtain⟨p,q,rfl,rfl,rfl⟩:=sx h s u;exact g rfl rfl (fun op=>by cases op<;>rfl) (run_equalIn_bool' w 9999 t _ _ j)
 ·rename_i j;split at h<;>try simp only [reduceCtorEq]at *
  obtain⟨a,rfl,rfl⟩:=pK s h;cases (u:cW σ X.F X.w .tU d);exact g rfl rfl (fun op=>by cases op<;>rfl) (VG j 9999 a w)
 ·rename_i j;split at h<;>try simp only [reduceCtorEq]at *
  obtain⟨a,n,c,rfl,rfl⟩:=pK s h;cases (u:cW σ X.F X.w .aC d);exact g rfl rfl (fun op=>by cases op<;>rfl) (abV j 9999 a n c w)
 ·rename_i j;split at h<;>try simp only [reduceCtorEq]at *
  cases (u:cW σ X.F X.w .jM d);rcases pK s h with⟨rfl,rfl⟩ | ⟨f,p,q,rfl,rfl⟩
  ·exact g rfl rfl (fun op=>by cases op<;>rfl) (abT j 9999 w)
  ·exact g rfl rfl (fun op=>by cases op<;>rfl) (abS j 9999 f p q w)
 ·rename_i j;split at h<;>try simp only [reduceCtorEq]at *
  cases (u:cW σ X.F X.w .oJ d);obtain⟨rfl,rfl⟩:=pK s h;refine g rfl rfl (fun op=>?_) ?_
  ·have M:(rE x||rE y)=ae:=v;exact Kq M op w
  ·exact abU j 9999 w
 ·rename_i e F j;obtain⟨xs,ys,rfl,rfl,h⟩:∃ xs ys,H=.a xs∧I=.a ys∧rA F xs ys=aa b:=by
   cases H<;>cases I<;>first | exact⟨_,_,rfl,rfl,h⟩ | simp at h
  simp only [If,decide_eq_true_eq,Bool.not_eq_true']at v;obtain⟨W,U⟩:=v;obtain⟨us,rfl,O⟩:=s;obtain⟨J,rfl,S⟩:=u;have i:=sw h;have A:=AX W;have m:(isAgg t).run Q w=.ok ae w:=by simp [isAgg,a5 j]
  have Y:us.take F.length=us:=anA (by have:=O.len;omega);have Z:J.take F.length=J:=anA (by have:=S.len;omega);obtain⟨a,c,B,E,z⟩:=AY 20 t F W 10000 (by omega) us J 0 _ _ b w h (by simpa [Y]using O) (by simpa [Z]using S);have K:a=.agg us.toArray:=by
   simp [part,m,dm A,aoX,Y]at B;exact B.symm
  have L:c=.agg J.toArray:=by
   simp [part,m,dm A,aoX,Z]at E;exact E.symm
  subst K;subst L;cases neg
  ·simp only [anF,if_false,Sem.run_bind,run_eqGuard_agg w _ t x y _ _ U,Result.andThen_ok,run_eql_struct,z]
  ·simp only [if_true,Sem.run_bind,run_eqGuard_agg w _ t x y _ _ U,Result.andThen_ok,run_neq_struct,z]
 ·simp at v
end
section
variable{Q:Program}{σ:Nat→FuncId}{X:Wd}
theorem iW{x:V}{u:Value}(h:VR σ X x u){i:Int}(hi:gA x=aa i):∃ k,u=.int k i:=by
 unfold gA at hi;split at hi
 ·simp only [AI]at hi;subst hi;exact⟨_,VR.int h⟩
 ·simp at hi
theorem qQ{x:V}{u:Value}(h:VR σ X x u){y i:Nat}(b:yR x y=aa i){g:Nat}(q:y≤g)(d:BoundsCode)(w:World) :
  i≤y∧(Instr.sliceBound u g d).run Q w=.ok i w:=by
 unfold yR at b;split at b
 ·rename_i j l;obtain⟨k,rfl⟩:=iW h l;split at b
  ·rename_i m;simp only [AI]at b;subst b;refine⟨by omega,?_⟩;have:0≤j∧j≤(g:Int):=by omega
   simp [Instr.sliceBound,asIntOf,this]
  ·simp at b
 ·simp at b
def OR(X:Wd)(σ:Nat→FuncId):Option V→Option Value→Prop
 | none,ab=>True| some x,aa u=>VR σ X x u| _,_=>False
theorem dR{lo hi mx:Option V}{d j mx':Option Value}(v:OR X σ lo d)(A:OR X σ hi j)(F:OR X σ mx mx'){len c l h m:Nat}
  (b:bH len c lo hi mx=aa (l,h,m)) {cap:Nat} (J:c≤cap) (O:len≤c) (s:Bool) (w:World) :
  (Instr.sliceBounds s len cap d j mx').run Q w=.ok (l,h,if mx.isSome then m else cap) w∧l≤h∧h≤m∧m≤c:=by
 unfold bH at b;cases mx with
 | some z=>
  cases mx'<;>simp only [OR]at F;rename_i U;simp only [apH,anN]at b;obtain⟨S,M,b⟩:=b;obtain⟨N,E⟩:=qQ (Q:=Q) F M J (if s then .slice3Acap else .slice3Alen) w;cases hi with
  | none=>simp at b
  | some y=>
   cases j<;>simp only [OR]at A;simp only [anR,anN]at b;obtain⟨L,H,b⟩:=b;obtain⟨I,g⟩:=qQ (Q:=Q) A H (anl _) .slice3B w;cases lo with
   | none=>
    cases d<;>simp only [OR]at v;simp at b;obtain⟨rfl,rfl,rfl⟩:=b;simp [Instr.sliceBounds,E,g];omega
   | some x=>
    cases d<;>simp only [OR]at v;simp only [anN]at b;obtain⟨K,q,b⟩:=b;obtain⟨B,u⟩:=qQ (Q:=Q) v q (anl _) .slice3C w;simp at b;obtain⟨rfl,rfl,rfl⟩:=b;simp [Instr.sliceBounds,E,g,u];omega
 | none=>
  cases mx'<;>simp only [OR]at F;cases hi with
  | none=>
   cases j<;>simp only [OR]at A;cases lo with
   | none=>
    cases d<;>simp only [OR]at v;simp at b;obtain⟨rfl,rfl,rfl⟩:=b;simp [Instr.sliceBounds];omega
   | some x=>
    cases d<;>simp only [OR]at v;simp only [apH,anR,anN]at b;obtain⟨K,q,b⟩:=b;obtain⟨B,u⟩:=qQ (Q:=Q) v q (anl _) .sliceB w;simp at b;obtain⟨rfl,rfl,rfl⟩:=b;simp [Instr.sliceBounds,u];omega
  | some y=>
   cases j<;>simp only [OR]at A;simp only [apH,anR,anN]at b;obtain⟨L,H,b⟩:=b;obtain⟨I,g⟩:=qQ (Q:=Q) A H J (if s then .sliceAcap else .sliceAlen) w;cases lo with
   | none=>
    cases d<;>simp only [OR]at v;simp at b;obtain⟨rfl,rfl,rfl⟩:=b;simp [Instr.sliceBounds,g];omega
   | some x=>
    cases d<;>simp only [OR]at v;simp only [anN]at b;obtain⟨K,q,b⟩:=b;obtain⟨B,u⟩:=qQ (Q:=Q) v q (anl _) .sliceB w;simp at b;obtain⟨rfl,rfl,rfl⟩:=b;simp [Instr.sliceBounds,g,u];omega
theorem eI{t e:TypeId}{sz:Nat}(g:Q.underlying t=aa (.slice e))(b:dI Q e sz=ae){a:Option Addr}{len cap:Nat}{lo hi mx:Option Value}{l h m:Nat}{w:World}
  (d:(Instr.sliceBounds ae len cap lo hi mx).run Q w=.ok (l,h,m) w) :
  (Instr.sliceAt t (.slice a len cap) lo hi mx).run Q w=.ok (.slice (if m=l then a else a.map (·.add (l*sz))) (h-l) (m-l)) w:=by
 simp [Instr.sliceAt,Instr.slice,a5 g,d,dm b]
theorem xd(hS:SR Q σ X){t e:TypeId}{sz:Nat}(g:Q.underlying t=aa (.slice e))(j:dI Q e sz=ae){x:V}{u:Value}(F:VR σ X x u)
  {lo hi mx:Option V} {b_ a8 mx':Option Value} (I:OR X σ lo b_) (J:OR X σ hi a8) (K:OR X σ mx mx') {v:V} (h:bM X.H sz x lo hi mx=aa v) :
  ∃ r,(Instr.sliceAt t u b_ a8 mx').run Q X.w=.ok r X.w∧VR σ X v r:=by
 unfold bM at h;split at h
 ·
  split at h
  ·rename_i r z;obtain⟨l,y,m⟩:=r;simp only [AI]at h;subst h;cases (F:cW σ X.F X.w .aC u);obtain⟨q,N,O,S⟩:=dR (Q:=Q) I J K z (anl 0) (anl 0) ae X.w;refine⟨_,eI g j q,?_⟩;have:l=0∧y=0∧m=0:=by omega
   obtain⟨rfl,rfl,rfl⟩:=this;simp;exact cW.aC
  ·simp at h
 ·split at h
  ·rename_i r z;obtain⟨l,y,m⟩:=r;simp only [AI]at h;subst h;cases (F:cW σ X.F X.w .es u);obtain⟨q,N,O,S⟩:=dR (Q:=Q) I J K z (anl 0) (anl 0) ae X.w;refine⟨_,eI g j q,?_⟩;have:l=0∧y=0∧m=0:=by omega
   obtain⟨rfl,rfl,rfl⟩:=this;simp;exact cW.es _
  ·simp at h
 ·
  rename_i cs n;split at h
  ·rename_i l y m z;have d_:(∃(c o cap:Nat) (us:List Value),n≤cap∧us.length=cs.length∧(∀ i,i<cs.length→X.F c (o+i))∧(∀(i:Nat) u,us[i]?=aa u→X.w.cell? ⟨c,o+i,ab⟩=aa u) ∧
     (∀(i:Nat) x u,cs[i]?=aa x→us[i]?=aa u→cW σ X.F X.w x u)∧u=.slice (aa ⟨c,o,ab⟩) n cap)∨(cs=[]∧n=0∧∃ a cap,u=.slice (aa a) 0 cap):=by
    cases (F:cW σ X.F X.w (.fs cs n) u)with
    | fs _ _ c o cap us d hl hF hc hr=>exact .inl ⟨c,o,cap,us,d,hl,hF,hc,hr,rfl⟩| fs0 a cap=>exact .inr ⟨rfl,rfl,a,cap,rfl⟩
   rcases d_ with⟨c,o,cap,us,d,hl,hF,hc,hr,rfl⟩ | ⟨rfl,rfl,a,cap,rfl⟩
   ·obtain⟨q,N,O,S⟩:=dR (Q:=Q) I J K z d (anl n) ae X.w;split at h
    ·rename_i B;simp only [AI]at h;subst h;rw [bf B.1]at q;obtain⟨_,rfl⟩:=B;refine⟨_,eI g j q,?_⟩;rw [show y-m=0 by omega,show m-m=0 by omega,bf rfl];exact cW.es _
    ·simp only [AI]at h;subst h;refine⟨_,eI g j q,?_⟩;generalize U:(if mx.isSome=ae then m else cap)=M;have c9:y≤M:=by rw [←U];split<;>omega
     by_cases E:M=l
     ·rw [bf E,show y-l=0 by omega];simp;exact cW.fs0 _ _
     ·rw [aT E];simp only [anZ,er];refine cW.fs _ _ c (o+l*sz) _ ((us.drop (l*sz)).take ((y-l)*sz)) (by omega) (by simp [hl]) (fun i hi=>?_) (fun i u g=>?_) (fun i x u F g=>?_)
      ·have:=hF (l*sz+i) (by simp at hi;omega);rwa [show o+(l*sz+i)=o+l*sz+i by omega]at this
      ·rw [an4]at g;split at g
       ·rw [anI]at g;have:=hc _ u g;rwa [show o+(l*sz+i)=o+l*sz+i by omega]at this
       ·simp at g
      ·rw [an4]at g F;split at g
       ·rename_i hi;rw [bf hi]at F;rw [anI]at g F;exact hr _ x u F g
       ·simp at g
   ·obtain⟨q,N,O,S⟩:=dR (Q:=Q) I J K z (Nat.zero_le cap) (anl 0) ae X.w;have:l=0∧y=0∧m=0:=by omega
    obtain⟨rfl,rfl,rfl⟩:=this;refine⟨_,eI g j q,?_⟩;split at h
    ·rename_i B;simp only [AI]at h;subst h;simp [B.1];exact cW.es _
    ·simp only [AI]at h;subst h;have ho:∀ M,∃ a',(if M=0 then aa a else Option.map (fun(x:Addr)=>x.add (0*sz)) (aa a))=aa a':=by intro M;split<;>exact⟨_,rfl⟩
     obtain⟨a',W⟩:=ho (if mx.isSome=ae then 0 else cap);rw [W];simp;exact cW.fs0 _ _
  ·simp at h
 ·
  rename_i b o n cap ep s;simp only [VR,iM,CR,fT]at F;split at h
  ·rename_i A;rw [A]at F;obtain⟨L,hL,d,rfl⟩:=F;split at h
   ·rename_i l y m z;obtain⟨q,N,O,S⟩:=dR (Q:=Q) I J K z (anl cap) d ae X.w;have hm:(if mx.isSome=ae then m else cap)=m:=by
     split
     ·rfl
     ·rename_i hn;cases mx with
      | some _=>simp at hn| none=>unfold bH at z;cases hi<;>cases lo<;>simp [anN]at z<;>omega
    rw [hm]at q;refine⟨_,eI g j q,?_⟩;split at h
    ·rename_i E;simp only [AI]at h;subst h;rw [bf E,show y-l=0 by omega,show m-l=0 by omega];exact cW.es _
    ·rename_i E;simp only [AI]at h;subst h;rw [aT E];simp only [anZ,er,VR,iM,CR,fT,A];exact⟨L,hL,by omega,rfl⟩
   ·simp at h
  ·rename_i H cs fl e st A;rw [A]at F;split at h
   ·rename_i hc;obtain⟨rfl,rfl,rfl⟩:=hc;have Z:=F.2.1 rfl rfl;cases st with
    | loc=>
     obtain⟨L,hL,k,rfl,hk,rfl⟩:=Z;simp only at h;split at h
     ·rename_i l y m z;obtain⟨q,N,O,S⟩:=dR (Q:=Q) I J K z (show n≤L.cap-k by omega) (anl n) ae X.w;refine⟨_,eI g j q,?_⟩;generalize U:(if mx.isSome=ae then m else L.cap-k)=M;have c9:y≤M:=by rw [←U];split<;>omega
      split at h
      ·rename_i B;simp only [AI]at h;subst h;rw [bf B.1]at U;subst U;obtain⟨_,rfl⟩:=B;rw [show y-m=0 by omega,show m-m=0 by omega,bf rfl];exact cW.es _
      ·split at h
       ·rename_i B;simp only [AI]at h;subst h;rw [show y-l=0 by omega];have ho:∃ a',(if M=l then aa (⟨L.c,k*H,ab⟩:Addr)else Option.map (fun(x:Addr)=>x.add (l*H)) (aa ⟨L.c,k*H,ab⟩))=aa a':=by split<;>exact⟨_,rfl⟩
        obtain⟨a',W⟩:=ho;rw [W];exact cW.fs0 _ _
       ·rename_i e_;split at h
        ·split at h
         ·simp only [AI]at h;subst h;simp only [VR,iM,CR,fT,A];exact⟨anl _,fun _ e=>by omega,_,_,_,rfl⟩
         ·simp at h
        ·rename_i hn;simp only [AI]at h;subst h;rw [aT hn]at U;have Y:(if M=l then aa (⟨L.c,k*H,ab⟩:Addr)else Option.map (fun(x:Addr)=>x.add (l*H)) (aa ⟨L.c,k*H,ab⟩))=aa ⟨L.c,k*H+l*H,ab⟩:=by
          split
          ·have:l=0:=by omega
           subst this;simp
          ·simp [er]
         rw [Y];simp only [VR,iM,CR,fT,A];refine⟨anl _,fun _ _=>⟨L,hL,k+l,by rw [anM],by omega,by rw [←U];congr 1;omega⟩,_,_,_,rfl⟩
     ·
      cases mx with
      | some _=>simp at h
      | none=>
       simp only at h;split at h
       ·rename_i l y m z;split at h
        ·rename_i d9;simp only [AI]at h;subst h;obtain⟨_,_,bX,a7,c_⟩:=hS.br b L hL;rw [A]at a7;cases a7;obtain⟨-,us,rest,-,hA,a_,f8,-,-⟩:=c_;have f7:cs.length≤L.cap*H:=by rw [←a_,ank,←hA.1];omega
         have d:(cs.length-k*H) / H≤L.cap-k:=by
          refine Nat.div_le_of_le_mul ?_;rw [Nat.mul_sub,Nat.mul_comm H L.cap,Nat.mul_comm H k];omega
         obtain⟨q,N,O,S⟩:=dR (Q:=Q) I J K z d d9.1 ae X.w;refine⟨_,eI g j q,?_⟩;simp only [Option.isSome_none,anF,if_false,anZ,er];rw [aT (by omega)];simp only [VR,iM,CR,fT,A];refine⟨anl _,fun _ _=>⟨L,hL,k+l,by rw [anM],by omega,by congr 1;omega⟩,_,_,_,rfl⟩
        ·simp at h
       ·simp at h
    | nil=>
     obtain⟨rfl,rfl,rfl⟩:=Z;simp only at h;split at h
     ·rename_i r z;obtain⟨l,y,m⟩:=r;simp only [AI]at h;subst h;obtain⟨q,N,O,S⟩:=dR (Q:=Q) I J K z (anl 0) (anl 0) ae X.w;refine⟨_,eI g j q,?_⟩;have:l=0∧y=0∧m=0:=by omega
      obtain⟨rfl,rfl,rfl⟩:=this;simp;exact cW.aC
     ·simp at h
    | es=>
     obtain⟨rfl,rfl,a,rfl⟩:=Z;simp only at h;split at h
     ·rename_i r z;obtain⟨l,y,m⟩:=r;simp only [AI]at h;subst h;obtain⟨q,N,O,S⟩:=dR (Q:=Q) I J K z (anl 0) (anl 0) ae X.w;refine⟨_,eI g j q,?_⟩;have:l=0∧y=0∧m=0:=by omega
      obtain⟨rfl,rfl,rfl⟩:=this;simp;exact cW.es _
     ·simp at h
   ·simp at h
  ·simp at h
 ·simp at h
end
section
variable{Q:Program}{σ:Nat→FuncId}{X:Wd}
theorem K'{t:TypeId}(A:Q.underlying t=aa .string){x:V}{u:Value}(B:VR σ X x u){lo hi:Option V}{d b:Option Value}(g:OR X σ lo d)(j:OR X σ hi b)
  {v:V} (h:yJ x lo hi=aa v) (w:World):∃ r,(Instr.sliceAt t u d b ab).run Q w=.ok r w∧VR σ X v r:=by
 unfold yJ at h;split at h
 ·rename_i s;have:=VR.str B;subst this;split at h
  ·rename_i l z m y;simp only [AI]at h;subst h;obtain⟨q,_⟩:=dR (Q:=Q) (mx:=ab) (mx':=ab) g j trivial y (anl _) (anl _) ag w;exact⟨.string (s.extract l z),by simp [Instr.sliceAt,Instr.slice,a5 A,q],VR.mkStr _⟩
  ·simp at h
 ·simp at h
theorem K9(hS:SR Q σ X){t e:TypeId}{n sz:Nat}(j:Q.underlying t=aa (.array n e))(F:dI Q e sz=ae){x:V}{u:Value}(s:VR σ X x u)
  {lo hi mx:Option V} {A z mx':Option Value} (H:OR X σ lo A) (I:OR X σ hi z) (J:OR X σ mx mx') {v:V} (h:nh X.H n sz x lo hi mx=aa v) :
  ∃ r,(Instr.sliceAt t u A z mx').run Q X.w=.ok r X.w∧VR σ X v r:=by
 have run:∀(a:Addr) l q m,(Instr.sliceBounds ag n n A z mx').run Q X.w=.ok (l,q,m) X.w →
   (Instr.sliceAt t (.pointer (aa a)) A z mx').run Q X.w=.ok (.slice (aa (if m=l then a else a.add (l*sz))) (q-l) (m-l)) X.w:=by
  intro a l q m y;simp [Instr.sliceAt,a5 j,Instr.sureAddr,y,dm F]
 have mm:∀ {l q m:Nat},bH n n lo hi mx=aa (l,q,m)→(if mx.isSome=ae then m else n)=m:=by
  intro l q m y;split
  ·rfl
  ·rename_i Y;cases mx with
   | some _=>simp at Y| none=>unfold bH at y;cases hi<;>cases lo<;>simp [anN]at y<;>omega
 unfold nh at h;split at h
 ·rename_i b d ep;obtain⟨L,S,s⟩:=s;split at h
  ·rename_i cs fl E;rw [E]at s;simp only at s;subst s;split at h
   ·rename_i l q m y;obtain⟨B,K,M,N⟩:=dR (Q:=Q) H I J y (anl n) (anl n) ag X.w;rw [mm y]at B;split at h
    ·refine⟨_,run _ _ _ _ B,?_⟩;split at h
     ·rename_i g;simp only [AI]at h;subst h;rw [bf g,show q-l=0 by omega,show m-l=0 by omega];exact cW.es _
     ·rename_i g;simp only [AI]at h;subst h;rw [aT g];simp only [er,VR,iM,CR,fT,E];exact⟨L,S,by omega,rfl⟩
    ·simp at h
   ·simp at h
  ·simp at h
 ·rename_i cs d;cases (s:cW σ X.F X.w (.fp cs d) u)with
  | fp _ _ c o us W O U Z=>
   split at h
   ·rename_i l q m y;obtain⟨B,K,M,N⟩:=dR (Q:=Q) H I J y (anl n) (anl n) ag X.w;rw [mm y]at B;split at h
    ·refine⟨_,run _ _ _ _ B,?_⟩;split at h
     ·rename_i g;simp only [AI]at h;subst h;rw [bf g,show q-l=0 by omega,show m-l=0 by omega];exact cW.es _
     ·rename_i g;simp only [AI]at h;subst h;rw [aT g,er];refine cW.fs _ _ c (o+d+l*sz) _ ((us.drop (d+l*sz)).take ((q-l)*sz)) (by omega) (by simp [W]) (fun i hi=>?_) (fun i u j=>?_) (fun i x u s j=>?_)
      ·have:=O (d+l*sz+i) (by simp at hi;omega);rwa [show o+(d+l*sz+i)=o+d+l*sz+i by omega]at this
      ·rw [an4]at j;split at j
       ·rw [anI]at j;have:=U _ u j;rwa [show o+(d+l*sz+i)=o+d+l*sz+i by omega]at this
       ·simp at j
      ·rw [an4]at j s;split at j
       ·rename_i hi;rw [bf hi]at s;rw [anI]at j s;exact Z _ x u s j
       ·simp at j
    ·simp at h
   ·simp at h
 ·simp at h
theorem BG{t:TypeId}{l:Array Field}(I:Q.underlying t=aa (.struct l)){i:Nat}{f:Field}(E:l[i]?=aa f)(j:(Q.info? f.type).any (fun i=>i.size != 0)=ae)
  {x:V} {u:Value} (g:VR σ X x u) {v:V} (h:nG f.offset x=aa v) (w:World):∃ r,(Instr.fieldAt t u i).run Q w=.ok r w∧VR σ X v r:=by
 have run:∀ a:Addr,(Instr.fieldAt t (.pointer (aa a)) i).run Q w=.ok (.pointer (aa (a.add f.offset))) w:=by
  intro a;cases hi:Q.info? f.type with
  | none=>simp [hi]at j
  | some J=>
   simp [hi]at j;simp [Instr.fieldAt,a5 I,E,Instr.sureAddr,fieldPlace,Go.sizeOf,typeInfo,hi,j]
 unfold nG at h;split at h
 ·rename_i b o K;simp only [AI]at h;subst h;obtain⟨L,m,g⟩:=g;split at g
  ·rename_i d;subst g;exact⟨_,run _,L,m,by rw [d,er]⟩
  ·rename_i s cs fl e d;obtain⟨q,y,a,rfl⟩:=g;refine⟨_,run _,L,m,?_⟩;rw [d];refine⟨q,fun B=>?_,_,rfl⟩;have:=y B;simp only [Value.pointer.injEq,AI]at this;rw [this,er]
  ·exact g.elim
 ·rename_i cs o;simp only [AI]at h;subst h;cases (g:cW σ X.F X.w (.fp cs o) u)with
  | fp _ _ c o' us F z A H=>
   refine⟨_,run _,?_⟩;rw [er,Nat.add_assoc];exact cW.fp cs _ c o' us F z A H
 ·simp at h
theorem BK{t e:TypeId}{sz:Nat}{q:Option Nat}(I:dI Q e sz=ae)
  (H:(q=ab∧Q.underlying t=aa (.slice e))∨∃ n,q=aa n∧Q.underlying t=aa (.array n e)) {x i:V} {u j:Value} (m:VR σ X x u) (hi:VR σ X i j)
  {v:V} (h:bC X.H sz q x i=aa v):∃ r,(Instr.indexAt t u j).run Q X.w=.ok r X.w∧VR σ X v r:=by
 unfold bC at h;split at h
 ·simp at h
 rename_i k hk;obtain⟨S,rfl⟩:=iW hi hk;split at h
 ·rename_i N;have z:q=ab→∀(a:Addr) (l c:Nat),k<l→(Instr.indexAt t (.slice (aa a) l c) (.int S k)).run Q X.w=.ok (.pointer (aa (a.add (k.toNat*sz)))) X.w:=by
   intro J a l c g;rcases H with⟨_,H⟩ | ⟨n,A,_⟩
   ·simp [Instr.indexAt,asIntOf,a5 H,N,g,dm I]
   ·rw [J]at A;simp at A
  have y:∀ n,q=aa n→∀(a:Addr),k<n→(Instr.indexAt t (.pointer (aa a)) (.int S k)).run Q X.w=.ok (.pointer (aa (a.add (k.toNat*sz)))) X.w:=by
   intro n J a g;rcases H with⟨A,_⟩ | ⟨n',A,H⟩
   ·rw [J]at A;simp at A
   ·rw [J]at A;simp only [AI]at A;subst A;simp [Instr.indexAt,asIntOf,a5 H,Instr.sureAddr,N,g,dm I]
  split at h
  ·rename_i b o l c W s;split at h
   ·rename_i g;simp only [VR,iM,CR,fT]at m;split at h
    ·rename_i d;rw [d]at m;obtain⟨L,E,_,rfl⟩:=m;simp only [AI]at h;subst h;exact⟨_,z rfl _ _ _ g,L,E,by rw [d,er]⟩
    ·rename_i s' cs fl U d;rw [d]at m;split at h
     ·rename_i F;simp only [AI]at h;subst h;obtain⟨L,E,kq,_,_,rfl⟩:=m.2.1 F.1 F.2;exact⟨_,z rfl _ _ _ g,L,E,by rw [d,er];exact⟨m.1,fun _=>rfl,_,rfl⟩⟩
     ·simp at h
    ·simp at h
   ·simp at h
  ·rename_i cs l;split at h
   ·rename_i g;simp only [AI]at h;subst h;cases (m:cW σ X.F X.w (.fs cs l) u)with
    | fs _ _ c o cap us O B K F M=>
     refine⟨_,z rfl _ _ _ g,?_⟩;rw [er];exact cW.fp cs _ c o us B K F M
    | fs0 a cap=>simp at g;omega
   ·simp at h
  ·rename_i n b o W;split at h
   ·rename_i g;simp only [AI]at h;subst h;obtain⟨L,E,m⟩:=m;split at m
    ·rename_i d;subst m;exact⟨_,y n rfl _ g,L,E,by rw [d,er]⟩
    ·rename_i s cs fl U d;obtain⟨Y,Z,a,rfl⟩:=m;refine⟨_,y n rfl _ g,L,E,?_⟩;rw [d];refine⟨Y,fun he=>?_,_,rfl⟩;have:=Z he;simp only [Value.pointer.injEq,AI]at this;rw [this,er]
    ·exact m.elim
   ·simp at h
  ·rename_i n cs o;split at h
   ·rename_i g;simp only [AI]at h;subst h;cases (m:cW σ X.F X.w (.fp cs o) u)with
    | fp _ _ c o' us B K F M=>
     refine⟨_,y n rfl _ g,?_⟩;rw [er,Nat.add_assoc];exact cW.fp cs _ c o' us B K F M
   ·simp at h
  ·simp at h
 ·simp at h
theorem uG{t:TypeId}{n:Option Nat}(y:uE Q t n=ae){xs:List C}{us:List Value}(m:A2 (CR σ X) xs us)(b:Nat){v:V}(d:aW n (xs.drop b)=aa v)(w:World) :
  ∃ u,(part t us.toArray b).run Q w=.ok u w∧VR σ X v u:=by
 obtain⟨q,s⟩:=DU y w;cases n with
 | none=>
  cases g:xs.drop b with
  | nil=>rw [g]at d;simp [aW]at d
  | cons x cs=>
   rw [g]at d;simp only [aW,AI]at d;subst d;obtain⟨u,z,l⟩:=(m.drop b).get (i:=0) (x:=x) (by rw [g];rfl);have j:us[b]?=aa u:=by simpa [anI]using z
   exact⟨u,by simp [part,q,j],l⟩
 | some n=>
  simp only [aW]at d;split at d
  ·simp only [AI]at d;subst d;exact⟨.agg ((us.drop b).take n).toArray,by simp [part,q,dm (s n rfl),aoX],_,rfl,(m.drop b).take n⟩
  ·simp at d
theorem Kk{t:TypeId}{b:Array Field}(q:Q.underlying t=aa (.struct b)){i:Nat}{f:Field}(l:b[i]?=aa f){n:Option Nat}(m:uE Q f.type n=ae)
  {x:V} {u:Value} (s:VR σ X x u) {v:V} (h:tC f.offset n x=aa v) (w:World):∃ r,(Instr.field t u i).run Q w=.ok r w∧VR σ X v r:=by
 unfold tC at h;split at h
 ·obtain⟨us,rfl,d⟩:=s;obtain⟨r,g,j⟩:=uG m d f.offset h w;exact⟨r,by simp [Instr.field,a5 q,l,asAgg,g],j⟩
 ·simp at h
theorem VN{t e:TypeId}{len sz:Nat}(y:Q.underlying t=aa (.array len e))(b:dI Q e sz=ae){n:Option Nat}(s:uE Q e n=ae)
  {x i:V} {u j:Value} (z:VR σ X x u) (hi:VR σ X i j) {v:V} (h:Dj len sz n x i=aa v) (w:World):∃ r,(Instr.index t u j).run Q w=.ok r w∧VR σ X v r:=by
 unfold Dj at h;split at h
 ·rename_i xs k q;obtain⟨A,rfl⟩:=iW hi q;split at h
  ·rename_i m;obtain⟨us,rfl,d⟩:=z;obtain⟨r,g,l⟩:=uG s d _ h w;exact⟨r,by simp [Instr.index,asIntOf,a5 y,m,dm b,g],l⟩
  ·simp at h
 ·simp at h
theorem VO{t:TypeId}(m:Q.underlying t=aa .string){x i:V}{u j:Value}(q:VR σ X x u)(hi:VR σ X i j){v:V}(h:Dk x i=aa v)(w:World) :
  ∃ r,(Instr.index t u j).run Q w=.ok r w∧VR σ X v r:=by
 unfold Dk at h;split at h
 ·rename_i s k l;obtain⟨y,rfl⟩:=iW hi l;have:=VR.str q;subst this;split at h
  ·rename_i d;simp only [IN]at h;obtain⟨b,g,rfl⟩:=h;exact⟨_,by simp [Instr.index,asIntOf,a5 m,d,g],VR.mkInt _ _⟩
  ·simp at h
 ·simp at h
end
section
variable{Q:Program}{σ:Nat→FuncId}{X:Wd}
theorem A2.over{α β:Type}{R:α→β→Prop}{cs xs:List α}{us d:List β}(h:A2 R cs us)(b:A2 R xs d)(off:Nat):A2 R (over cs off xs) (over us off d):=by
 unfold Km.over;rw [b.len];exact((h.take off).append b).append (h.drop _)
theorem AR{α:Type}(cs:List α)(b:Nat)(xs:List α)(h:b+xs.length≤cs.length):(over cs b xs).length=cs.length:=by
 simp [over];omega
theorem Ao(d:Nat):∀(g:List Value) (k:Nat) (b:List Value),d+k+g.length≤b.length →
  ((g.zipIdx k).foldl (fun(cs:Array Value) p=>cs.setIfInBounds (d+p.2) p.1) b.toArray)=(over b (d+k) g).toArray
 | [],k,b,_=>by simp [over]
 | v::g,k,b,h=>by
  simp only [List.zipIdx_cons,ao7];have j:b.toArray.setIfInBounds (d+k) v=(b.set (d+k) v).toArray:=by simp
  rw [j,Ao d g (k+1) _ (by simp at h ⊢;omega)]
  congr 1
  unfold over;simp only [an2]at h ⊢;rw [List.take_set,List.drop_set_of_lt (by omega),show d+(k+1)=d+k+1 by omega,show d+k+1+g.length=d+k+(g.length+1) by omega];rw [apA (by omega)];have l:(List.take (d+k) b).length=d+k:=by simp;omega
  have e:(List.take (d+k) b++[b[d+k]]).set (d+k) v=List.take (d+k) b++[v]:=by
   rw [List.set_append,aT (by omega),l];simp
  rw [e];simp
theorem pj{x:V}{u:Value}(b:VR σ X x u){xs:List C}(h:x.cells?=aa xs):∃ us,u.cells=us.toArray∧A2 (CR σ X) xs us:=by
 unfold V.cells? at h;split at h
 ·rename_i x;simp only [AI]at h;subst h;have d:=CR.one σ b;refine⟨[u],?_,A2.cons b A2.nil⟩;cases u<;>simp_all [Value.cells,Value.oneCell']
 ·simp only [AI]at h;subst h;obtain⟨us,rfl,h⟩:=b;exact⟨us,rfl,h⟩
 ·simp at h
theorem nH{a:Act}{aG:T}(z:RR σ X aG a.tmps){place:Nat→Option (Nat × Nat)}:∀ {qs:List (Nat × Nat × Arg)} {ps:List (Nat × Operand)},
  A2 (fun(q:Nat × Nat × Arg) (p:Nat × Operand)=>place p.1=aa (q.1,q.2.1)∧mA σ q.2.2 p.2=ae) qs ps→∀ {cs cs':List C} {us:List Value},A2 (CR σ X) cs us →
  fG aG cs qs=aa cs'→∃ d,Instr.fill place us.toArray (ps.map fun p=>(p.1,a.eval p.2))=aa d.toArray∧A2 (CR σ X) cs' d
 | [],[],_,cs,cs',us,h,b=>by
  simp only [fG,AI]at b;subst b;exact⟨us,rfl,h⟩
 | [],_::_,g,_,_,_,_,_=>by have:=g.len;simp at this
 | _::_,[],g,_,_,_,_,_=>by have:=g.len;simp at this
 | (l,n,x)::qs,(i,y)::ps,g,cs,cs',us,h,b=>by
  obtain⟨⟨u,v⟩,m⟩:=g.of_cons;simp only at u v;simp only [fG]at b;split at b
  ·rename_i xs s;split at b
   ·rename_i I;obtain⟨H,F,j⟩:=pj (bT z v) s;obtain⟨d,A,B⟩:=nH z m (h.over j l) b;refine⟨d,?_,B⟩;have J:=j.len;have E:=h.len;simp only [List.map_cons,Instr.fill,u,F];rw [aT (by simp;omega)];rw [←A]
    congr 1
    have:=Ao l H 0 us (by omega);simp only [Nat.add_zero]at this;rw [←this];simp [←Array.foldl_toList]
   ·simp at b
  ·simp at b
theorem fk{t:TypeId}{zs:List FC}(h:kz Q t zs=ae)(w:World):∃ z us,(zeroValue t).run Q w=.ok z w∧z.cells=us.toArray∧A2 (CR σ X) (zs.map .f) us ∧
  ∃ i,Q.info? t=aa i∧i.zero=aa z:=by
 unfold kz at h;cases hi:Q.info? t with
 | none=>simp [hi]at h
 | some i=>
  simp only [hi,Option.any_some]at h;split at h
  ·rename_i z d;refine⟨z,z.cells.toList,by simp [zeroValue,typeInfo,hi,d],by simp,A2.map ((eT h).kB fun x u b=>B3 b),i,rfl,d⟩
  ·simp at h
end
section
variable{Q:Program}{σ:Nat→FuncId}{X:Wd}
theorem kY{b:CK}{t:TypeId}(h:KG Q b t=ae):(b=.int∧∃ j,Q.underlying t=aa (.int j))∨(b=.str∧Q.underlying t=aa .string)∨(b=.bool∧Q.underlying t=aa .bool):=by
 unfold KG at h;split at h
 ·exact .inl ⟨rfl,_,by assumption⟩
 ·exact .inr (.inl ⟨rfl,by assumption⟩)
 ·exact .inr (.inr ⟨rfl,by assumption⟩)
 ·simp at h
theorem tz{l:CK}{d:TypeDesc}(m:(l=.int∧∃ j,d=.int j)∨(l=.str∧d=.string)∨(l=.bool∧d=.bool)){F:Nat→Nat→Prop}{w:World}{x y:FC}{u v:Value}
  (q:cW σ F w x u) (s:cW σ F w y v) {b:Bool} (h:eqK l x y=aa b):Instr.sameNow d u v=aa b:=by
 unfold eqK at h;split at h
 ·cases q;cases s;rcases m with⟨_,j,rfl⟩ | ⟨g,_⟩ | ⟨g,_⟩
  ·simpa [Instr.sameNow]using h
  ·cases g
  ·cases g
 ·cases q;cases s;rcases m with⟨g,_⟩ | ⟨_,rfl⟩ | ⟨g,_⟩
  ·cases g
  ·simpa [Instr.sameNow]using h
  ·cases g
 ·cases q;cases s;rcases m with⟨g,_⟩ | ⟨g,_⟩ | ⟨_,rfl⟩
  ·cases g
  ·cases g
  ·simpa [Instr.sameNow]using h
 ·simp at h
theorem wK{l:CK}{d:TypeDesc}(q:(l=.int∧∃ j,d=.int j)∨(l=.str∧d=.string)∨(l=.bool∧d=.bool)){F:Nat→Nat→Prop}{w:World}{k:FC}{B:Value}(v:cW σ F w k B) :
  ∀ {R:C→Value→Prop} {y:List (FC × C)} {b:List MapEntry},A2 (fun e m=>cW σ F w e.1 m.key∧R e.2 m.val) y b→∀ {r:Option C} (i:Nat),oH l k y=aa r →
  match r with
  | none=>Instr.findNow d B b i=aa ab| some x=>∃ j u,Instr.findNow d B b i=aa (aa (j,u))∧R x u
 | _,[],[],_,r,i,h=>by
  simp only [oH,AI]at h;subst h;rfl
 | _,[],_::_,g,_,_,_=>by have:=g.len;simp at this
 | _,_::_,[],g,_,_,_=>by have:=g.len;simp at this
 | _,e::y,m::b,g,r,i,h=>by
  obtain⟨⟨z,E⟩,A⟩:=g.of_cons;simp only [oH]at h;split at h
  ·rename_i s;simp only [AI]at h;subst h;exact⟨i,m.val,by simp [Instr.findNow,tz q v z s],E⟩
  ·rename_i s;have:=wK q v A (i+1) h;cases r with
   | none=>simpa [Instr.findNow,tz q v z s]using this| some x=>obtain⟨j,u,H,I⟩:=this;exact⟨j,u,by simp [Instr.findNow,tz q v z s,H],I⟩
  ·simp at h
theorem iz{l:CK}{t:TypeId}(h:KG Q l t=ae){k:FC}{F:Nat→Nat→Prop}{q:World}{g:Value}(m:cW σ F q k g)(hi:isKey l k=ae)(b:Bool)(w:World) :
  (Instr.checkKey b 10000 t g).run Q w=.ok () w:=by
 have:∀ n,(Instr.checkKey b (n+1) t g).run Q w=.ok () w:=by
  intro n;rcases kY h with⟨rfl,j,d⟩ | ⟨rfl,d⟩ | ⟨rfl,d⟩<;>cases m<;>simp_all [isKey,Instr.checkKey,a5 d]
 exact this 9999
theorem BT{z:FC}{r:Option C}{u:Value}{ok:Bool}(b:ok=(qS z).isSome)(h:iM σ X ((r.map mV).getD (zV ((qS z).getD z))) u):VR σ X (lkR z r) (if ok=ae then .tuple #[u,.bool r.isSome]else u):=by
 unfold lkR;cases d:qS z with
 | none=>rw [d]at h b;subst b;exact VR.Xn σ h| some g=>rw [d]at h b;subst b;exact⟨[u,.bool r.isSome],rfl,A2.cons h (A2.cons (cW.bool _) A2.nil)⟩
theorem KA(hS:SR Q σ X){t kt e:TypeId}{J:CK}(Y:Q.underlying t=aa (.map kt e))(K:KG Q J kt=ae){z:FC}{ok:Bool}(H:ok=(qS z).isSome)(hz:kz Q e (rm ((qS z).getD z))=ae)
  (l:(Q.info? e).any (fun i=>i.zero.any fun u=>if CD ((qS z).getD z)then afU u else agG u)=ae) {m k:V} {um uk:Value} (hm:VR σ X m um) (s:VR σ X k uk) {v:V} (h:iq X.H J z m k=aa v) :
  ∃ u,(Instr.lookup t um uk ok).run Q X.w=.ok u X.w∧VR σ X v u:=by
 obtain⟨I,zs,M,A,B,i0,U,W⟩:=fk (σ:=σ) (X:=X) hz X.w;have N:iM σ X (zV ((qS z).getD z)) I:=by
  simp only [U,Option.any_some,W]at l;generalize (qS z).getD z=z0 at *;cases O:CD z0 with
  | true=>
   rw [aic O];simp only [O,if_true]at l;cases I with
   | agg cs=>exact⟨zs,by simp only [Value.cells]at A;rw [A],B⟩
   | _=>simp [afU]at l
  | false=>
   obtain⟨e1,e2⟩:=aid O;rw [e1];rw [e2]at B;simp only [O,anF,if_false]at l;obtain⟨u,Z,a7⟩:=B.get (i:=0) (x:=.f z0) rfl;have hl:=B.len;have a8:zs=[u]:=by
    match zs,hl,Z with
    | [y],_,h=>simp at h;rw [h]
   subst a8;cases I with
   | agg cs=>simp [agG]at l| _=>simp only [Value.cells]at A;have:=congrArg Array.toList A;simp at this;subst this;exact a7
 unfold iq at h;split at h
 ·rename_i kc;split at h
  ·rename_i q;simp only [AI]at h;subst h;cases (hm:cW σ X.F X.w .pZ um);refine⟨if ok=ae then .tuple #[I,.bool ag]else I,?_,BT (r:=ab) H N⟩;rcases kY K with⟨_,j,g⟩ | ⟨_,g⟩ | ⟨_,g⟩ <;>
    simp [Instr.lookup,a5 Y,iz K s q,Instr.findKey,a5 g,Instr.findNow,M]
  ·simp at h
 ·rename_i b kc;split at h
  ·rename_i es hb;split at h
   ·rename_i q;simp only [IN]at h;obtain⟨r,hr,rfl⟩:=h;obtain⟨L,hL,_,rfl⟩:=hm;obtain⟨_,_,bX,F,S⟩:=hS.br b L hL;rw [hb]at F;simp only [AI]at F;subst F;obtain⟨a_,h1,h2,_⟩:=S;have go:∀ d,Q.underlying kt=aa d→((J=.int∧∃ j,d=.int j)∨(J=.str∧d=.string)∨(J=.bool∧d=.bool))→∃ u,(Instr.lookup t (.map (aa L.c)) uk ok).run Q X.w=.ok u X.w∧VR σ X (lkR z r) u:=by
     intro d g hd;have h3:=wK (R:=fun c u=>iM σ X (mV c) u) hd s h2 0 hr;cases r with
     | none=>
      refine⟨if ok=ae then .tuple #[I,.bool ag]else I,?_,BT (r:=ab) H N⟩;simp [Instr.lookup,a5 Y,getObj,Sem.run,h1,iz K s q,Instr.findKey,a5 g,h3,M]
     | some x=>
      obtain⟨j,u,E,h5⟩:=h3;refine⟨if ok=ae then .tuple #[u,.bool ae]else u,?_,BT (r:=aa x) H h5⟩;simp [Instr.lookup,a5 Y,getObj,Sem.run,h1,iz K s q,Instr.findKey,a5 g,E]
    rcases kY K with⟨E,j,g⟩ | ⟨E,g⟩ | ⟨E,g⟩
    ·exact go _ g (.inl ⟨E,j,rfl⟩)
    ·exact go _ g (.inr (.inl ⟨E,rfl⟩))
    ·exact go _ g (.inr (.inr ⟨E,rfl⟩))
   ·simp at h
  ·simp at h
 ·simp at h
end
section
variable{Q:Program}{σ:Nat→FuncId}{X:Wd}
theorem eu{s:Sem Value}{u:Value}{w w':World}(h:s.run Q w=.ok u w'):(do pure (Next.value (←s)):Sem Next).run Q w=.ok (.value u) w':=by simp [h]
theorem ru{a:Act}{aG:T}(b:RR σ X aG a.tmps){x:Option Arg}{y:Option Operand}(h:mO σ x y=ae):OR X σ (x.map (·.ev aG)) (y.map a.eval):=by
 rcases akm b h with⟨rfl,rfl⟩ | ⟨g,j,rfl,rfl,d⟩
 ·trivial
 ·exact d
theorem il{t:TypeId}{p:TypeId→Bool}(h:(mn Q t).any p=ae):∃ e,Q.underlying t=aa (.slice e)∧p e=ae:=by
 unfold mn at h;split at h
 ·exact⟨_,by assumption,by simpa using h⟩
 ·simp at h
theorem ky{x:C}{u:Value}(b:CR σ X x u){l:Nat}(h:bu X.H x=aa l):∃ a c,u=.slice a l c:=by
 unfold bu at h;split at h<;>try simp only [AI,reduceCtorEq]at h
 ·simp only [CR,fT]at b;split at h
  ·rename_i d;rw [d]at b;obtain⟨L,_,_,rfl⟩:=b;simp only [AI]at h;subst h;exact⟨_,_,rfl⟩
  ·rename_i s cs fl e st d;rw [d]at b;split at h
   ·rename_i g;have:=b.2.1 g.1 g.2;simp only [AI]at h;subst h;cases st with
    | loc=>obtain⟨L,_,k,_,_,rfl⟩:=this;exact⟨_,_,rfl⟩
    | nil=>obtain⟨_,rfl,rfl⟩:=this;exact⟨_,_,rfl⟩
    | es=>obtain⟨_,rfl,a,rfl⟩:=this;exact⟨_,_,rfl⟩
   ·simp at h
  ·simp at h
 ·subst h;cases (b:cW σ X.F X.w .aC u);exact⟨_,_,rfl⟩
 ·subst h;cases (b:cW σ X.F X.w .es u);exact⟨_,_,rfl⟩
 ·subst h;cases (b:cW σ X.F X.w (.fs _ _) u)<;>exact⟨_,_,rfl⟩
theorem lF(K:SR Q σ X){sz:Nat}{x:C}{u:Value}(y:CR σ X x u){l:Nat}(m:bu X.H x=aa l){cs:List C}(h:cV X.H sz x=aa cs) :
  ∃ us,(Builtin.firstCells sz l u).run Q X.w=.ok us.toArray X.w∧A2 (CR σ X) cs us∧cs.length=l*sz:=by
 have row:∀(c o:Nat) (us:List Value) (cap:Nat),us.length=l*sz→(∀(i:Nat) u,us[i]?=aa u→X.w.cell? ⟨c,o+i,ab⟩=aa u) →
   (Builtin.firstCells sz l (.slice (aa ⟨c,o,ab⟩) l cap)).run Q X.w=.ok us.toArray X.w:=by
  intro c o us cap g F;have:=run_loadCells_list (P:=Q) X.w ⟨c,o,ab⟩ us (fun j v N=>by rw [er];exact F j v N);rw [g]at this;simpa [Builtin.firstCells]using this
 unfold cV at h;split at h<;>try simp only [reduceCtorEq]at h
 ·rename_i b o I cap S s;simp only [CR,fT]at y;simp only [bu]at m;split at h
  ·rename_i cs' fl E;rw [E]at y m;simp only [AI]at m;subst m;obtain⟨L,J,_,rfl⟩:=y;split at h
   ·rename_i q;simp only [AI]at h;subst h;obtain⟨_,_,bX,d,z⟩:=K.br b L J;rw [E]at d;simp only [AI]at d;subst d;obtain⟨us,H,B,_⟩:=z;have:=B.len;refine⟨(us.drop o).take (I*sz),row _ _ _ _ (by simp;omega) (fun i u g=>?_),(B.drop o).take _,by simp;omega⟩;rw [ec H];rw [an4]at g;split at g
    ·rw [anI]at g;exact g
    ·simp at g
   ·simp at h
  ·rename_i W cs' fl e st E;rw [E]at y m;split at h
   ·rename_i F;obtain⟨rfl,rfl,q⟩:=F;simp only [and_self,if_true,AI]at m;subst m;simp only [AI]at h;subst h;have A:=y.2.1 rfl rfl;cases st with
    | loc=>
     obtain⟨L,J,k,_,_,rfl⟩:=A;obtain⟨_,_,bX,d,z⟩:=K.br b L J;rw [E]at d;simp only [AI]at d;subst d;obtain⟨_,us,rest,H,B,_⟩:=z;have:=B.len;refine⟨(us.drop o).take (I*sz),row _ _ _ _ (by simp;omega) (fun i u g=>?_),(B.drop o).take _,by simp;omega⟩;rw [ec H];rw [an4]at g;split at g
     ·rw [anI]at g;rw [AT (IT.1 g).1];exact g
     ·simp at g
    | nil=>
     obtain⟨rfl,rfl,rfl⟩:=A;exact⟨[],by simp [Builtin.firstCells],by simpa using A2.nil,by simp⟩
    | es=>
     obtain⟨rfl,rfl,a,rfl⟩:=A;exact⟨[],by simp [Builtin.firstCells,loadCells,loadCellsFrom],by simpa using A2.nil,by simp⟩
   ·simp at h
  ·simp at h
 ·simp only [AI]at h;subst h;simp only [bu,AI]at m;subst m;cases (y:cW σ X.F X.w .aC u);exact⟨[],by simp [Builtin.firstCells],A2.nil,by simp⟩
 ·simp only [AI]at h;subst h;simp only [bu,AI]at m;subst m;cases (y:cW σ X.F X.w .es u);exact⟨[],by simp [Builtin.firstCells,loadCells,loadCellsFrom],A2.nil,by simp⟩
 ·rename_i cs' I;simp only [bu,AI]at m;subst m;split at h
  ·rename_i q;simp only [AI]at h;subst h;cases (y:cW σ X.F X.w (.fs cs' I) u)with
   | fs _ _ c o cap us M O U F H=>
    exact⟨us,row _ _ _ _ (by omega) F,A2.map ⟨by omega,H⟩,by simp;omega⟩
   | fs0 a cap=>exact⟨[],by simp [Builtin.firstCells,loadCells,loadCellsFrom],A2.nil,by simp⟩
  ·simp at h
theorem abD{v:V}{u:Value}(h:VR σ X v u){c:C}(l:uS v=aa c):fT σ X c u:=by
 unfold uS at l;split at l
 ·simp at l
 ·simp at l
 ·rename_i x q m;simp only [AI]at l;subst l;cases x with
  | cl f j=>exact absurd rfl (q f j)| bm f j=>exact absurd rfl (m f j)| mi b=>exact h| f y=>exact h| ptr a b c=>exact h| sl a b c d e g=>exact h| yl b=>exact h| mp b=>exact h| it b=>exact h
 ·simp at l
theorem zT{xs:List V}{us:List Value}(h:A2 (VR σ X) xs us){cs:List C}(b:aZ uS xs=aa cs):A2 (fT σ X) cs us:=by
 induction xs generalizing us cs with
 | nil=>
  simp only [aZ,AI]at b;subst b
  match us,h.len with
  | [],_=>exact A2.nil
 | cons x xs m=>
  match us,h with
  | u::us,h=>
   obtain⟨g,j⟩:=h.of_cons;simp only [aZ]at b;split at b
   ·simp at b
   ·rename_i y l;split at b
    ·simp at b
    ·rename_i ys d;simp only [AI]at b;subst b;exact A2.cons (abD g l) (m j d)
  | [],h=>have:=h.len;simp at this
theorem dQ{d:Operand→Value}{o:Oper}{c:Call}{b:Builtin}(j:o.op=.call c)(g:c.callee=.builtin b){r:Result Next}{w:World}
  (h:∀ cs,(builtin b c.argTypes o.type cs (c.args.map d)).run Q w=r):(execOp d o).run Q w=r:=by
 simp only [execOp,j,resolve,g,Sem.run_bind,Sem.run_pure,Result.andThen_ok,invoke];exact h _
theorem uR{α:Type}{a:Array α}{x:α}(h:a.toList=[x]):a=#[x]:=by
 apply Array.ext';simp [h]
theorem aby{α:Type}{a:Array α}{x y:α}(h:a.toList=[x,y]):a=#[x,y]:=by
 apply Array.ext';simp [h]
theorem KF{c:Call}{x:Arg}(h:dY Q σ c (.len x)=ae):∃ y t e,c.callee=.builtin .len∧c.args=#[y]∧c.argTypes=#[t]∧mA σ x y=ae∧Q.underlying t=aa (.slice e):=by
 simp only [dY]at h;split at h
 ·rename_i y t b d g;simp only [If]at h;have:=h.2;split at this
  ·exact⟨y,t,_,b,uR d,uR g,h.1,by assumption⟩
  ·simp at this
 ·simp at h
theorem BW{c:Call}{x:Arg}(h:dY Q σ c (.lens x)=ae):∃ y t,c.callee=.builtin .len∧c.args=#[y]∧c.argTypes=#[t]∧mA σ x y=ae∧Q.underlying t=aa .string:=by
 simp only [dY]at h;split at h
 ·rename_i y t b d g;simp only [If]at h;have:=h.2;split at this
  ·exact⟨y,t,b,uR d,uR g,h.1,by assumption⟩
  ·simp at this
 ·simp at h
theorem BV{c:Call}{n:Nat}(h:dY Q σ c (.oi n)=ae):∃ y t e,c.callee=.builtin .len∧c.args=#[y]∧c.argTypes=#[t]∧Q.underlying t=aa (.array n e):=by
 simp only [dY]at h;split at h
 ·rename_i y t b d g;split at h
  ·rename_i m e j;simp only [decide_eq_true_eq]at h;subst h;exact⟨y,t,e,b,uR d,uR g,j⟩
  ·simp at h
 ·simp at h
theorem BZ{c:Call}{lo:Bool}{xs:List Arg}(h:dY Q σ c (.fP lo xs)=ae):c.callee=.builtin (if lo then .min else .max)∧Xm σ xs c.args=ae:=by
 simp only [dY]at h;split at h
 ·rename_i b;exact⟨b,h⟩
 ·rename_i b;exact⟨b,h⟩
 ·simp at h
theorem V7{lo:Bool}{x y z:V}{u v:Value}(b:VR σ X x u)(d:VR σ X y v)(h:wG lo x y=aa z)(w:World):∃ r,(if lo then Builtin.min2 u v else Builtin.max2 u v).run Q w=.ok r w∧VR σ X z r:=by
 unfold wG at h;split at h
 ·simp only [AI]at h;subst h;have b:=VR.int b;have d:=VR.int d;subst b;subst d;cases lo
  ·exact⟨_,by simp [Builtin.max2],VR.mkInt _ _⟩
  ·exact⟨_,by simp [Builtin.min2],VR.mkInt _ _⟩
 ·simp at h
theorem AD{lo:Bool}(w:World):∀ {ys:List V} {d:List Value} {x z:V} {u:Value},VR σ X x u→A2 (VR σ X) ys d→rK lo x ys=aa z→∃ r,(d.foldlM (fun u v=>if lo then Builtin.min2 u v else Builtin.max2 u v) u).run Q w=.ok r w∧VR σ X z r
 | [],d,x,z,u,g,b,h=>by
  have:d=[]:=anz b.len.symm;subst this;simp only [rK,AI]at h;subst h;exact⟨u,rfl,g⟩
 | y::ys,[],x,z,u,g,b,h=>by have:=b.len;simp at this
 | y::ys,v::d,x,z,u,g,b,h=>by
  obtain⟨A,b⟩:=b.of_cons;simp only [rK]at h;split at h
  ·rename_i q B;obtain⟨E,j,l⟩:=V7 (Q:=Q) g A B w;obtain⟨r,m,s⟩:=AD w l b h;exact⟨r,by rw [List.foldlM_cons,Sem.run_bind,j];exact m,s⟩
  ·simp at h
theorem KB{c:Call}{x:Arg}(h:dY Q σ c (.cap x)=ae):∃ y t e,c.callee=.builtin .cap∧c.args=#[y]∧c.argTypes=#[t]∧mA σ x y=ae∧Q.underlying t=aa (.slice e):=by
 simp only [dY]at h;split at h
 ·rename_i y t g j l;simp only [If]at h;obtain⟨m,d⟩:=h;split at d
  ·rename_i e b;exact⟨y,t,e,g,uR j,uR l,m,b⟩
  ·simp at d
 ·simp at h
theorem WW{x:C}{u:Value}(d:CR σ X x u){n:Nat}(h:kv X.H x=aa n):∃ a l,u=.slice a l n:=by
 cases x with
 | sl b o l c m sz=>
  simp only [kv]at h;simp only [CR,fT]at d;split at h
  ·rename_i g;rw [g]at d;obtain⟨L,_,_,rfl⟩:=d;simp only [AI]at h;subst h;exact⟨_,_,rfl⟩
  ·rename_i g;rw [g]at d;split at h
   ·rename_i j;have:=d.2.1 j.1 j.2;simp only [AI]at h;subst h;obtain⟨_,_,rfl⟩:=this;exact⟨_,_,rfl⟩
   ·simp at h
  ·rename_i g;rw [g]at d;split at h
   ·rename_i j;have:=d.2.1 j.1 j.2;simp only [AI]at h;subst h;obtain⟨_,_,a,rfl⟩:=this;exact⟨_,_,rfl⟩
   ·simp at h
  ·simp at h
 | f y=>
  cases y<;>simp only [kv,AI,reduceCtorEq]at h
  ·subst h;cases (d:cW σ X.F X.w .aC u);exact⟨_,_,rfl⟩
  ·subst h;cases (d:cW σ X.F X.w .es u);exact⟨_,_,rfl⟩
 | _=>simp [kv]at h
theorem Dw(v:SR Q σ X){m:Nat}{L:Loc}(u:X.cF m=aa L){e:FC × C}(x:X.H[m]?=aa (.map [e])):∃ d:MapEntry,X.w.heap[L.c]?=aa (.map #[d] 1)∧cW σ X.F X.w e.1 d.key∧iM σ X (mV e.2) d.val∧d.born=0:=by
 obtain⟨_,_,bX,g,l⟩:=v.br m L u;rw [x]at g;cases g;obtain⟨j,q,b,s⟩:=l
 match j,b with
 | [d],b=>exact⟨d,q,b.of_cons.1.1,b.of_cons.1.2,s 0 d rfl⟩| [],b=>have:=b.len;simp at this| _::_::_,b=>have:=b.len;simp at this
theorem Kd(q:SR Q σ X){x:V}{u:Value}(K:VR σ X x u){v:V}(h:oD X.H x=aa v):∃ r,(Instr.entry u).run Q X.w=.ok r X.w∧VR σ X v r:=by
 unfold oD at h;split at h
 ·rename_i b;obtain⟨L,H,_,rfl⟩:=K;split at h
  ·rename_i m s I;split at h
   ·rename_i e J;simp only [AI]at h;subst h;obtain⟨_,_,bX,d,j⟩:=q.br b L H;rw [I]at d;cases d;obtain⟨M,N,st,E,_,F,l⟩:=j;simp only [if_true]at l;obtain⟨rfl,rfl⟩:=l;obtain⟨g,y,z,A,B⟩:=Dw q E J;refine⟨.tuple #[g.key,g.val],?_,[g.key,g.val],rfl,A2.cons z (A2.cons A A2.nil)⟩;simp [Instr.entry,getObj,Sem.run,F,y,B,Result.andThen]
   ·simp at h
  ·simp at h
 ·simp at h
theorem zZ:∀ {cs:List C} {us:List Value} {bs:List UInt8},A2 (CR σ X) cs us→aZ (fun c=>match c with | C.f (.int .u8 n)=>aa (UInt8.ofNat n.toNat) | _=>ab) cs=aa bs →
  ∃ g:List Int,us=g.map (Value.int .u8)∧bs=g.map fun n=>UInt8.ofNat n.toNat
 | [],us,bs,h,b=>by
  simp only [aZ,AI]at b;subst b
  match us,h.len with
  | [],_=>exact⟨[],rfl,rfl⟩
 | c::cs,[],bs,h,b=>by have:=h.len;simp at this
 | c::cs,u::us,bs,h,b=>by
  obtain⟨l,m⟩:=h.of_cons;simp only [aZ]at b;split at b
  ·simp at b
  ·rename_i y d;split at b
   ·simp at b
   ·rename_i ys j;simp only [AI]at b;subst b;obtain⟨g,rfl,rfl⟩:=zZ m j;split at d
    ·rename_i n;simp only [AI]at d;subst d;cases (l:cW σ X.F X.w (.int .u8 n) u);exact⟨n::g,rfl,rfl⟩
    ·simp at d
theorem foldl_push:∀(b:List Int) (s:ByteArray),b.foldl (fun(r:ByteArray) n=>r.push (UInt8.ofNat n.toNat)) s=⟨s.data++(b.map fun n=>UInt8.ofNat n.toNat).toArray⟩
 | [],s=>by simp
 | n::b,s=>by
  rw [ao7,foldl_push b]
  congr 1
  simp [ByteArray.push]
theorem Vy(y:SR Q σ X){x:V}{u:Value}(q:VR σ X x u){v:V}(h:rz X.H x=aa v):∃ r,(Conv.bytesToString u).run Q X.w=.ok r X.w∧VR σ X v r:=by
 unfold rz at h;split at h
 ·rename_i x;split at h
  ·rename_i l m;split at h
   ·rename_i cs j;simp only [IN]at h;obtain⟨bs,z,rfl⟩:=h;obtain⟨us,g,s,A⟩:=lF y q m j;obtain⟨d,c,rfl⟩:=ky q m;obtain⟨b,rfl,rfl⟩:=zZ s z;refine⟨.string (b.foldl (fun(r:ByteArray) n=>r.push (UInt8.ofNat n.toNat)) ByteArray.empty),?_,?_⟩
    ·cases d with
     | none=>
      simp only [Builtin.firstCells,Sem.run_pure,Result.ok.injEq,and_true]at g;have:b=[]:=by
       have:=congrArg Array.toList g;simpa using this.symm
      subst this;simp only [Conv.bytesToString,List.foldl_nil,List.map_nil,Sem.run_pure]
     | some d=>exact run_bytesToString X.w d l c b (by simpa [Builtin.firstCells]using g)
    ·rw [foldl_push];rw [show(ByteArray.empty.data++(List.map (fun n:Int=>UInt8.ofNat n.toNat) b).toArray)=(List.map (fun n:Int=>UInt8.ofNat n.toNat) b).toArray from Array.empty_append];exact VR.mkStr _
   ·simp at h
  ·simp at h
 ·simp at h
theorem aeh(hS:SR Q σ X){a:Act}{aG:T}(H:RR σ X aG a.tmps){o:Oper}{op:dq}(A:dX Q σ o op=ae)(hc:cls op=.p∨cls op=.r)(f7:op.fsl=ag){v:V}{H':an}
  (h:bE aG X.H op=aa (v,H')):H'=X.H∧∃ u,(execOp a.eval o).run Q X.w=.ok (.value u) X.w∧VR σ X v u:=by
 cases op<;>first | (simp only [cls,reduceCtorEq,or_self]at hc;done) | (simp [dq.fsl]at f7;done) | clear f7
 case cX x=>
  simp only [bE,AI,anc]at h;obtain⟨rfl,rfl⟩:=h;refine⟨rfl,?_⟩;simp only [dX]at A;split at A
  ·rename_i y E;exact⟨_,by simp [execOp,E],bT H A⟩
  ·rename_i y E;exact⟨_,by simp [execOp,E],bT H A⟩
  ·simp at A
 case pick c x y=>
  simp only [dX]at A;split at A
  ·rename_i c' x' y' E;simp only [If]at A;simp only [bE]at h;have b_:=bT H A.1.1;split at h
   ·rename_i b Z;rw [Z]at b_;have b_:=VR.bool b_;simp only [AI,anc]at h;obtain⟨rfl,rfl⟩:=h;cases b
    ·exact⟨rfl,_,by simp [execOp,E,b_,asBool],bT H A.2⟩
    ·exact⟨rfl,_,by simp [execOp,E,b_,asBool],bT H A.1.2⟩
   ·simp at h
  ·simp at A
 case build zs qs=>
  simp only [dX]at A;split at A
  ·rename_i t ps E;simp only [If]at A;simp only [bE,IN,anc]at h;obtain⟨cs,a8,rfl,rfl⟩:=h;obtain⟨z,us,i9,i_,j4,_⟩:=fk (σ:=σ) (X:=X) A.1 X.w;refine⟨rfl,?_⟩;have Z:=A.2;unfold V3 at Z;split at Z
   ·rename_i fs K;split at Z
    ·rename_i pl l_;obtain⟨c_,N,h6⟩:=nH (place:=(pl.toArray[·]?)) H ((eT Z).kB fun q p W=>by
      simp only [If,decide_eq_true_eq]at W;exact⟨by simpa using W.1,W.2⟩) j4 a8
     refine⟨.agg c_.toArray,?_,c_,rfl,h6⟩;have hp:=run_places (P:=Q) X.w fs.toList pl l_;simp only [execOp,E];refine eu ?_;simp [Instr.build,i9,a5 K,Array.mapM_eq_mapM_toList,hp,i_];simp at N;simp [N]
    ·simp at Z
   ·rename_i n e K;split at Z
    ·rename_i j7 hi;obtain⟨c_,N,h6⟩:=nH (place:=fun i=>aa (i*j7.size,j7.size)) H ((eT Z).kB fun q p W=>by
      simp only [If,beq_iff_eq]at W;exact⟨by rw [W.1.2,W.1.1],W.2⟩) j4 a8
     refine⟨.agg c_.toArray,?_,c_,rfl,h6⟩;simp only [execOp,E];refine eu ?_;simp [Instr.build,i9,a5 K,Go.sizeOf,typeInfo,hi,i_,N]
    ·simp at Z
   ·simp at Z
  ·simp at A
 case load k x=>
  simp only [dX]at A;split at A
  ·rename_i t y E;simp only [If]at A;simp only [bE,IN,anc]at h;obtain⟨v',F,rfl,rfl⟩:=h;obtain⟨u,J,M⟩:=agw hS A.1 (bT H A.2) F;exact⟨rfl,u,by simp only [execOp,E];exact eu J,M⟩
  ·simp at A
 case dP x=>
  simp only [dX]at A;split at A
  ·rename_i y E;have B:=bT H A;simp only [bE]at h;have f8:∀ ad,a.eval y=.pointer (aa ad)→(execOp a.eval o).run Q X.w=.ok (.value (a.eval y)) X.w:=by
    intro ad a_;simp [execOp,E,a_]
   split at h
   ·rename_i b e_ e Z;simp only [AI,anc]at h;obtain⟨rfl,rfl⟩:=h;rw [Z]at B;have d_:=B;obtain⟨L,hL,B⟩:=B;split at B
    ·exact⟨rfl,_,f8 _ B,d_⟩
    ·obtain⟨_,_,ad,a_⟩:=B;exact⟨rfl,_,f8 _ a_,d_⟩
    ·exact B.elim
   ·rename_i cs e_ Z;simp only [AI,anc]at h;obtain⟨rfl,rfl⟩:=h;rw [Z]at B;have d_:=B;have:∃ ad,a.eval y=.pointer (aa ad):=by
     generalize a.eval y=u at B;cases (B:cW σ X.F X.w (.fp cs e_) u);exact⟨_,rfl⟩
    obtain⟨ad,a_⟩:=this;exact⟨rfl,_,f8 _ a_,d_⟩
   ·simp at h
  ·simp at A
 case bin op x y=>
  simp only [dX]at A;split at A
  ·rename_i j9 t x' y' yt E;simp only [If,decide_eq_true_eq]at A;obtain⟨⟨rfl,B⟩,S⟩:=A;simp only [bE,IN,anc]at h;obtain⟨v',F,rfl,rfl⟩:=h;have B:=bT H B;have S:=bT H S;refine⟨rfl,?_⟩;have guard:∀ op,(∀ xs,a.eval x'≠.agg xs)→a.eval x'≠.nilIface→(eqGuard op t x' y' (a.eval x') (a.eval y')).run Q X.w=.ok () X.w:=by
    intro op J M;cases op<;>simp [eqGuard]<;>(generalize a.eval x'=ux at *;cases ux<;>simp at J M ⊢)
   unfold bR at F;split at F
   ·rename_i k n k' m J M;rw [J]at B;rw [M]at S;have B:=VR.int B;have S:=VR.int S;split at F
    ·simp at F
    ·rename_i A;simp only [AI]at F;subst F;exact⟨_,by simp only [execOp,E];refine eu ?_;rw [Sem.run_bind,guard _ (by simp [B]) (by simp [B])];simp [B,S,binOp,Op.shift,A],VR.mkInt _ _⟩
   ·rename_i k n k' m J M;rw [J]at B;rw [M]at S;have B:=VR.int B;have S:=VR.int S;split at F
    ·simp at F
    ·rename_i A;simp only [AI]at F;subst F;exact⟨_,by simp only [execOp,E];refine eu ?_;rw [Sem.run_bind,guard _ (by simp [B]) (by simp [B])];simp [B,S,binOp,Op.shift,A],VR.mkInt _ _⟩
   ·rename_i k n k' m _ _ J M;rw [J]at B;rw [M]at S;have B:=VR.int B;have S:=VR.int S;split at F
    ·rename_i hk;subst hk;obtain⟨u,Y,O,N⟩:=abB (Q:=Q) (σ:=σ) (X:=X) F X.w;exact⟨u,by simp only [execOp,E];refine eu ?_;rw [Sem.run_bind,guard _ (by simp [B]) (by simp [B])];simp [B,S,N,Y],O⟩
    ·simp at F
   ·rename_i s1 s2 J M;rw [J]at B;rw [M]at S;have B:=VR.str B;have S:=VR.str S;obtain⟨u,Y,O⟩:=abC (Q:=Q) (σ:=σ) (X:=X) F X.w t;exact⟨u,by simp only [execOp,E];refine eu ?_;rw [Sem.run_bind,guard _ (by simp [B]) (by simp [B])];simp [B,S,Y],O⟩
   ·simp at F
  ·simp at A
 case eq neg k x y=>
  simp only [dX]at A;split at A
  ·rename_i j9 t x' y' yt E;simp only [If,decide_eq_true_eq]at A;obtain⟨⟨⟨rfl,B⟩,S⟩,hk⟩:=A;simp only [bE,IN,anc]at h;obtain⟨b,F,rfl,rfl⟩:=h;refine⟨rfl,_,?_,VR.tQ _⟩;simp only [execOp,E];exact eu (aga hk (bT H B) (bT H S) F neg X.w)
  ·simp at A
 case un op x=>
  simp only [dX]at A;split at A
  ·rename_i j9 t y E;simp only [If,decide_eq_true_eq]at A;obtain⟨rfl,B⟩:=A;simp only [bE,IN,anc]at h;obtain⟨v',F,rfl,rfl⟩:=h;have B:=bT H B;refine⟨rfl,?_⟩;unfold unV at F;split at F
   ·rename_i k n J;rw [J]at B;have B:=VR.int B;simp only [AI]at F;subst F;exact⟨_,by simp [execOp,E,B,Op.unary,Op.intArith],VR.mkInt _ _⟩
   ·rename_i b J;rw [J]at B;have B:=VR.bool B;simp only [AI]at F;subst F;exact⟨_,by simp [execOp,E,B,Op.unary],VR.tQ _⟩
   ·simp at F
  ·simp at A
 case jJ k x=>
  simp only [dX]at A;split at A
  ·rename_i s d y E;simp only [If]at A;obtain⟨⟨B,hs⟩,hd⟩:=A;have B:=bT H B;simp only [bE]at h;split at h
   ·rename_i q n J;rw [J]at B;have B:=VR.int B;simp only [AI,anc]at h;obtain⟨rfl,rfl⟩:=h;split at hd
    ·rename_i k' K;simp only [decide_eq_true_eq]at hd;subst hd;obtain⟨ds,j_⟩:=Option.isSome_iff_exists.1 hs;exact⟨rfl,_,by simp only [execOp,E];refine eu ?_;simp [convert,a5 j_,a5 K,B,Conv.intToInt],VR.mkInt _ _⟩
    ·simp at hd
   ·simp at h
  ·simp at A
 case BA x=>
  simp only [dX]at A;split at A
  ·rename_i s d y E;simp only [If]at A;obtain⟨B,hd⟩:=A;have B:=bT H B;simp only [bE]at h;split at h
   ·rename_i q J;rw [J]at B;have B:=VR.str B;simp only [AI,anc]at h;obtain⟨rfl,rfl⟩:=h;split at hd
    ·rename_i h_ i3;exact⟨rfl,_,by simp only [execOp,E];refine eu ?_;simp [convert,a5 h_,a5 i3,B],VR.mkStr _⟩
    ·simp at hd
   ·simp at h
  ·simp at A
 case iE f xs=>
  simp only [dX]at A;split at A
  ·rename_i g fst a7 E;simp only [If,beq_iff_eq]at A;obtain⟨⟨I,rfl⟩,B⟩:=A;simp only [bE,IN,anc]at h;obtain⟨cs,a8,rfl,rfl⟩:=h;have:=zT (mW H B) a8;have i7:fst=#[]:=by simpa using I
   exact⟨rfl,.func (.func (σ f)) #[] (a7.map a.eval),by simp only [execOp,E,Instr.makeFunc,i7];exact eu (by simp),(a7.map a.eval).toList,congrArg _ Array.toArray_toList.symm,this⟩
  ·simp at A
 case slice sz x lo hi mx=>
  simp only [dX]at A;split at A
  ·rename_i t y j8 i8 mx' E;simp only [If,decide_eq_true_eq]at A;obtain⟨⟨⟨⟨⟨B,J⟩,M⟩,Y⟩,he⟩,hz⟩:=A;obtain⟨e,K,U⟩:=il he;simp only [bE,IN,anc]at h;obtain⟨v',F,rfl,rfl⟩:=h;obtain⟨r,O,N⟩:=xd hS K U (bT H B) (ru H J) (ru H M) (ru H Y) F;exact⟨rfl,r,by simp only [execOp,E];exact eu O,N⟩
  ·simp at A
 case qu n sz x lo hi mx=>
  simp only [dX]at A;split at A
  ·rename_i t y j8 i8 mx' E;simp only [If,decide_eq_true_eq]at A;obtain⟨⟨⟨⟨⟨B,J⟩,M⟩,Y⟩,he⟩,hz⟩:=A;split at he
   ·rename_i n' e K;simp only [If,beq_iff_eq]at he;obtain⟨rfl,U⟩:=he;simp only [bE,IN,anc]at h;obtain⟨v',F,rfl,rfl⟩:=h;obtain⟨r,O,N⟩:=K9 hS K U (bT H B) (ru H J) (ru H M) (ru H Y) F;exact⟨rfl,r,by simp only [execOp,E];exact eu O,N⟩
   ·simp at he
  ·simp at A
 case rQ x lo hi=>
  simp only [dX]at A;split at A
  ·rename_i t y j8 i8 E;simp only [If]at A;obtain⟨⟨⟨B,J⟩,M⟩,he⟩:=A;split at he
   ·rename_i K;simp only [bE,IN,anc]at h;obtain⟨v',F,rfl,rfl⟩:=h;obtain⟨r,O,N⟩:=K' K (bT H B) (ru H J) (ru H M) F X.w;exact⟨rfl,r,by simp only [execOp,E,Option.map_none];exact eu O,N⟩
   ·simp at he
  ·simp at A
 case bz e_ x=>
  simp only [dX]at A;split at A
  ·rename_i t y i E;simp only [If]at A;obtain⟨B,I⟩:=A;split at I
   ·rename_i fs K;split at I
    ·rename_i f f_;simp only [If,beq_iff_eq]at I;obtain⟨rfl,hz⟩:=I;simp only [bE,IN,anc]at h;obtain⟨v',F,rfl,rfl⟩:=h;obtain⟨r,O,N⟩:=BG K f_ hz (bT H B) F X.w;exact⟨rfl,r,by simp only [execOp,E];exact eu O,N⟩
    ·simp at I
   ·simp at I
  ·simp at A
 case field e_ n x=>
  simp only [dX]at A;split at A
  ·rename_i t y i E;simp only [If]at A;obtain⟨B,I⟩:=A;split at I
   ·rename_i fs K;split at I
    ·rename_i f f_;simp only [If,beq_iff_eq]at I;obtain⟨rfl,hz⟩:=I;simp only [bE,IN,anc]at h;obtain⟨v',F,rfl,rfl⟩:=h;obtain⟨r,O,N⟩:=Kk K f_ hz (bT H B) F X.w;exact⟨rfl,r,by simp only [execOp,E];exact eu O,N⟩
    ·simp at I
   ·simp at I
  ·simp at A
 case bN sz i4 x i=>
  simp only [dX]at A;split at A
  ·rename_i t y j E;simp only [If]at A;obtain⟨⟨B,hi⟩,I⟩:=A;simp only [bE,IN,anc]at h;obtain⟨v',F,rfl,rfl⟩:=h;have:∃ e,dI Q e sz=ae∧((i4=ab∧Q.underlying t=aa (.slice e))∨∃ n,i4=aa n∧Q.underlying t=aa (.array n e)):=by
    split at I
    ·rename_i e K;exact⟨e,I,.inl ⟨rfl,K⟩⟩
    ·rename_i n e n' K;simp only [If,beq_iff_eq]at I;obtain⟨rfl,U⟩:=I;exact⟨e,U,.inr ⟨_,rfl,K⟩⟩
    ·simp at I
   obtain⟨e,U,K⟩:=this;obtain⟨r,O,N⟩:=BK U K (bT H B) (bT H hi) F;exact⟨rfl,r,by simp only [execOp,E];exact eu O,N⟩
  ·simp at A
 case idxs x i=>
  simp only [dX]at A;split at A
  ·rename_i t y j E;simp only [If]at A;obtain⟨⟨B,hi⟩,I⟩:=A;simp only [bE,IN,anc]at h;obtain⟨v',F,rfl,rfl⟩:=h;split at I
   ·rename_i K;obtain⟨r,O,N⟩:=VO K (bT H B) (bT H hi) F X.w;exact⟨rfl,r,by simp only [execOp,E];exact eu O,N⟩
   ·simp at I
  ·simp at A
 case Aq n sz k x i=>
  simp only [dX]at A;split at A
  ·rename_i t y j E;simp only [If]at A;obtain⟨⟨B,hi⟩,I⟩:=A;simp only [bE,IN,anc]at h;obtain⟨v',F,rfl,rfl⟩:=h;split at I
   ·rename_i n' e K;simp only [If,beq_iff_eq]at I;obtain⟨⟨rfl,U⟩,hk⟩:=I;obtain⟨r,O,N⟩:=VN K U hk (bT H B) (bT H hi) F X.w;exact⟨rfl,r,by simp only [execOp,E];exact eu O,N⟩
   ·simp at I
  ·simp at A
 case lookup ck z m k=>
  simp only [dX]at A;split at A
  ·rename_i t m' k' ok E;simp only [If,beq_iff_eq]at A;obtain⟨⟨⟨J,M⟩,k_⟩,I⟩:=A;simp only [bE,IN,anc]at h;obtain⟨v',F,rfl,rfl⟩:=h;split at I
   ·rename_i kt e K;simp only [If]at I;obtain⟨u,O,N⟩:=KA hS K I.1.1 k_ I.1.2 I.2 (bT H J) (bT H M) F;exact⟨rfl,u,by simp only [execOp,E];exact eu O,N⟩
   ·simp at I
  ·simp at A
 case extract x i=>
  simp only [dX]at A;split at A
  ·rename_i y j E;simp only [If,beq_iff_eq]at A;obtain⟨B,rfl⟩:=A;have B:=bT H B;simp only [bE]at h;split at h
   ·rename_i vs m_;rw [m_]at B;simp only [IN,anc]at h;obtain⟨v',F,rfl,rfl⟩:=h;obtain⟨us,d9,M⟩:=B;obtain⟨u,K,n6⟩:=M.get F;exact⟨rfl,u,by simp only [execOp,E];refine eu ?_;simp [Instr.extract,d9,K],VR.Xn σ n6⟩
   ·simp at h
  ·simp at A
 case oi n=>
  simp only [dX]at A;split at A
  ·rename_i c E;obtain⟨y,t,e,J,M,Y,K⟩:=BV A;simp only [bE,AI,anc]at h;obtain⟨rfl,rfl⟩:=h;exact⟨rfl,_,dQ E J (fun cs=>by simp [builtin,M,Y,Builtin.len_,a5 K,goInt]),VR.mkInt _ _⟩
  ·simp at A
 case lens x=>
  simp only [dX]at A;split at A
  ·rename_i c E;obtain⟨y,t,J,M,Y,B,K⟩:=BW A;have B:=bT H B;simp only [bE]at h;split at h
   ·rename_i s hs;rw [hs]at B;have B:=VR.str B;simp only [AI,anc]at h;obtain⟨rfl,rfl⟩:=h;exact⟨rfl,_,dQ E J (fun cs=>by simp [builtin,M,Y,Builtin.len_,a5 K,B,goInt]),VR.mkInt _ _⟩
   ·simp at h
  ·simp at A
 case len x=>
  simp only [dX]at A;split at A
  ·rename_i c E;obtain⟨y,t,e,J,M,Y,B,K⟩:=KF A;have B:=bT H B;simp only [bE]at h;split at h
   ·rename_i z hz;rw [hz]at B;split at h
    ·rename_i n hn;simp only [AI,anc]at h;obtain⟨rfl,rfl⟩:=h;obtain⟨ad,cp,g_⟩:=ky B hn;exact⟨rfl,_,dQ E J (fun cs=>by simp [builtin,M,Y,Builtin.len_,a5 K,g_,goInt]),VR.mkInt _ _⟩
    ·simp at h
   ·simp at h
  ·simp at A
 case fP lo xs=>
  simp only [dX]at A;split at A
  ·rename_i c E;obtain⟨J,M⟩:=BZ A;have hA:=mW H M;simp only [bE,IN,anc]at h;obtain⟨v',F,rfl,rfl⟩:=h;refine⟨rfl,?_⟩;unfold yg at F;split at F
   ·simp at F
   ·rename_i x ys n8;rw [n8]at hA
    match d9:(c.args.map a.eval).toList,hA with
    | [],hA=>have:=hA.len;simp at this
    | u::us,hA=>
     obtain⟨B,hA⟩:=hA.of_cons;obtain⟨r,g1,g2⟩:=AD (Q:=Q) (lo:=lo) X.w B hA F;refine⟨r,dQ E J (fun cs=>?_),g2⟩;cases lo
     ·simp only [anF,if_false]at g1 ⊢;have g1:(us.foldlM Builtin.max2 u).run Q X.w=.ok r X.w:=g1;have c9:List.map a.eval c.args.toList=u::us:=by simpa using d9
      simp [builtin,Builtin.max_,c9,g1]
     ·simp only [if_true]at g1 ⊢;have g1:(us.foldlM Builtin.min2 u).run Q X.w=.ok r X.w:=g1;have c9:List.map a.eval c.args.toList=u::us:=by simpa using d9
      simp [builtin,Builtin.min_,c9,g1]
  ·simp at A
 case cap x=>
  simp only [dX]at A;split at A
  ·rename_i c E;obtain⟨y,t,e,J,M,Y,B,K⟩:=KB A;have B:=bT H B;simp only [bE]at h;split at h
   ·rename_i z hz;rw [hz]at B;split at h
    ·rename_i n hn;simp only [AI,anc]at h;obtain⟨rfl,rfl⟩:=h;obtain⟨ad,l,g_⟩:=WW B hn;exact⟨rfl,_,dQ E J (fun cs=>by simp [builtin,M,Y,Builtin.cap_,a5 K,g_,goInt]),VR.mkInt _ _⟩
    ·simp at h
   ·simp at h
  ·simp at A
 case entry x=>
  simp only [dX]at A;split at A
  ·rename_i y E;simp only [bE,IN,anc]at h;obtain⟨v',F,rfl,rfl⟩:=h;obtain⟨r,g1,g2⟩:=Kd hS (bT H A) F;exact⟨rfl,r,by simp only [execOp,E];exact eu g1,g2⟩
  ·simp at A
 case AJ f xs=>
  simp only [dX]at A;split at A
  ·rename_i g fst a7 E;simp only [If,beq_iff_eq]at A;obtain⟨⟨I,rfl⟩,B⟩:=A;simp only [bE,IN,anc]at h;obtain⟨cs,a8,rfl,rfl⟩:=h;have:=zT (mW H B) a8;have i6:a7=#[]:=by simpa using I
   exact⟨rfl,.func (.func (σ f)) (fst.map a.eval) #[],by simp only [execOp,E,Instr.makeFunc,i6];exact eu (by simp),(fst.map a.eval).toList,by rw [Array.toArray_toList],this⟩
  ·simp at A
 case call f args h'=>cases h'<;>simp [cls]at hc
 case Ag x=>
  simp only [dX]at A;split at A
  ·rename_i s d y E;simp only [If]at A;obtain⟨B,hd⟩:=A;have B:=bT H B;split at hd
   ·rename_i e h_ i3;simp only [If]at hd;have m9:Q.underlying e=aa (.int .u8):=by
     have:=hd.1;unfold ake at this;split at this
     ·assumption
     ·simp at this
    simp only [bE,IN,anc]at h;obtain⟨v',F,rfl,rfl⟩:=h;obtain⟨u,O,N⟩:=Vy hS B F;refine⟨rfl,u,?_,N⟩;simp only [execOp,E];refine eu ?_;simp only [convert,Sem.run_bind,a5 h_,a5 i3,Result.andThen_ok];have:∃ ad l c,a.eval y=.slice ad l c:=by
     unfold rz at F;split at F
     ·rename_i z hz;rw [hz]at B;split at F
      ·rename_i l hl;obtain⟨ad,c,h⟩:=ky B hl;exact⟨_,_,_,h⟩
      ·simp at F
     ·simp at F
    obtain⟨ad,l,c,h6⟩:=this;rw [h6]at O ⊢;simp only [Sem.run_bind,a5 m9,Result.andThen_ok,O]
   ·simp at hd
  ·simp at A
end
section
variable{Q:Program}{σ:Nat→FuncId}{X:Wd}
theorem SR.lt(d:SR Q σ X){b:Nat}{L:Loc}(h:X.cF b=aa L):b<X.H.length:=by
 obtain⟨_,_,bX,hb,_⟩:=d.br b L h;exact(IT.1 hb).1
theorem SR.qY(b:SR Q σ X):X.cF X.H.length=ab:=by
 cases h:X.cF X.H.length with
 | none=>rfl| some L=>have:=SR.lt b h;omega
theorem Ext.one(y:SR Q σ X){X':Wd}(b0:Nat)(v:X'.B=X.B)(s:∀ c i,X'.F c i↔X.F c i)
  (u:∀ k,k<X.w.heap.size→(∀ L,X.cF b0=aa L→k≠L.c)→X'.w.heap[k]?=X.w.heap[k]?)
  (m:∀ L i,X.cF b0=aa L→X.F L.c i→X'.w.cell? ⟨L.c,i,ab⟩=X.w.cell? ⟨L.c,i,ab⟩) (j:b0<X.H.length→lP X X' b0)
  (x:∀ b,b≠b0→b<X.H.length→X'.H[b]?=X.H[b]?) (d:∀ b,b≠b0→X'.cF b=X.cF b)
  (q:∀ L,X'.cF b0=aa L→(∃ L0,X.cF b0=aa L0∧L0.c=L.c)∨X.w.heap.size≤L.c) (E:X.w.heap.size≤X'.w.heap.size) (ho:X'.w.os=X.w.os) (H:X'.w.tape=X.w.tape)
  (hu:X'.w.output=X.w.output):Ext X.H.length X X' where
 B:=v
 F:=fun c i h=>(s c i).2 h
 oX:=fun c i h=>.inl ((s c i).1 h)
 fw:=fun c i h=>by
  by_cases hc:∃ L,X.cF b0=aa L∧c=L.c
  ·obtain⟨L,g,rfl⟩:=hc;exact m L i g h
  ·exact World.cell?_of_block (u c (y.fb c i h) fun L g e=>hc ⟨L,g,e⟩)
 ba:=fun b hb=>by
  by_cases h:b=b0
  ·subst h;exact j hb
  ·intro bX l;refine⟨bX,(x b h hb).trans l,?_⟩;have:∀ L,X.cF b=aa L→X'.cF b=aa L:=fun L g=>(d b h).trans g;cases bX<;>simp_all
 wi:=fun b L hb=>by
  by_cases h:b=b0
  ·subst h;rcases q L hb with⟨L0,h1,h2⟩ | h1
   ·exact .inl ⟨b,L0,h1,h2⟩
   ·exact .inr h1
  ·rw [d b h]at hb;exact .inl ⟨b,L,hb,rfl⟩
 size:=E
 os:=ho
 tape:=H
 output:=hu
 frame:=fun k z A=>u k z fun L g e=>A b0 L g e.symm
theorem SR.grow(d:SR Q σ X)(bX:bV):SR Q σ { X with H:=X.H++[bX] }∧Ext X.H.length X { X with H:=X.H++[bX] }:=by
 have g:Ext X.H.length X { X with H:=X.H++[bX] }:=Ext.one d X.H.length rfl (fun _ _=>Iff.rfl) (fun _ _ _=>rfl) (fun _ _ _ _=>rfl) (fun h=>by omega)
  (fun b _ h=>by simp [AT h]) (fun _ _=>rfl) (fun L h=>by rw [SR.qY d]at h;simp at h) (anl _) rfl rfl rfl
 refine⟨⟨fun b L hb=>?_,d.inj,d.fb⟩,g⟩;obtain⟨h1,h2,blk',h3,h4⟩:=d.br b L hb;exact⟨h1,h2,blk',by rw [AT (SR.lt d hb)];exact h3,BR.ext Q σ g rfl (fun _ h=>h) h4⟩
structure ea(w w':World)(o:Obj):Prop where
 heap:w'.heap=w.heap.push o
 os:w'.os=w.os
 tape:w'.tape=w.tape
 output:w'.output=w.output
theorem ea.alloc(w:World)(o:Obj):ea w (w.alloc o) o:=⟨rfl,rfl,rfl,rfl⟩
theorem ea.Bi{w w':World}{o:Obj}(h:ea w w' o){k:Nat}(b:k<w.heap.size):w'.heap[k]?=w.heap[k]?:=by
 rw [h.heap,Array.getElem?_push,aT (by omega)]
theorem ea.new{w w':World}{o:Obj}(h:ea w w' o):w'.heap[w.heap.size]?=aa o:=by
 rw [h.heap];simp
theorem ea.size{w w':World}{o:Obj}(h:ea w w' o):w'.heap.size=w.heap.size+1:=by
 rw [h.heap];simp
theorem SR.fill(g:SR Q σ X)(x:X.B≤X.w.heap.size){n:Nat}{bX:bV}(y:X.H[n]?=aa bX)(u:X.cF n=ab){w':World}{o:Obj}(d:ea X.w w' o)(cap:Nat)
  (l:Ext X.H.length X { X with cF:=fun b=>if b=n then aa ⟨X.w.heap.size,cap⟩else X.cF b,w:=w' }→BR Q σ { X with cF:=fun b=>if b=n then aa ⟨X.w.heap.size,cap⟩else X.cF b,w:=w' } bX ⟨X.w.heap.size,cap⟩) :
  SR Q σ { X with cF:=fun b=>if b=n then aa ⟨X.w.heap.size,cap⟩else X.cF b,w:=w' }∧Ext X.H.length X { X with cF:=fun b=>if b=n then aa ⟨X.w.heap.size,cap⟩else X.cF b,w:=w' }:=by
 have m:Ext X.H.length X { X with cF:=fun b=>if b=n then aa ⟨X.w.heap.size,cap⟩else X.cF b,w:=w' }:=
  Ext.one g n rfl (fun _ _=>Iff.rfl) (fun k h _=>d.Bi h) (fun L i s _=>by rw [u]at s;simp at s)
   (fun _ q j=>⟨q,j,by
    cases q<;>simp [u]⟩)
   (fun _ _ _=>rfl) (fun b h=>by simp [h]) (fun L h=>by simp at h;subst h;exact .inr (anl _)) (by rw [d.size];omega) d.os d.tape d.output
 refine⟨SR.step Q σ g m n (fun _ _=>rfl) (fun b h=>by simp [h]) (fun b L _ hb=>d.Bi (g.br b L hb).2.1) (fun _ _ _ _ _ h=>h) (fun L h=>?_) (fun c i h=>by rw [d.size];have:=g.fb c i h;omega),m⟩;simp at h;subst h;refine⟨x,by simp [d.size],⟨bX,y,l m⟩,fun b v _ hb=>?_⟩;have:=(g.br b v hb).2.1;simp;omega
theorem SR.new(d:SR Q σ X)(j:X.B≤X.w.heap.size)(bX:bV){w':World}{o:Obj}(g:ea X.w w' o)(cap:Nat)
  (b:∀ X',Ext X.H.length X X'→X'.w=w'→X'.F=X.F→X'.H=X.H++[bX]→BR Q σ X' bX ⟨X.w.heap.size,cap⟩) :
  ∃ X',X'.w=w'∧X'.H=X.H++[bX]∧SR Q σ X'∧Ext X.H.length X X'∧X'.cF X.H.length=aa ⟨X.w.heap.size,cap⟩∧X'.B≤X'.w.heap.size:=by
 obtain⟨h1,h2⟩:=SR.grow d bX;have l:(X.H++[bX])[X.H.length]?=aa bX:=by simp
 obtain⟨h3,h4⟩:=SR.fill h1 j l (SR.qY d) g cap (fun m=>b _ (h2.trans (m.mono (by simp))) rfl rfl rfl);exact⟨_,rfl,rfl,h3,h2.trans (h4.mono (by simp)),by simp,by simp [g.size];omega⟩
theorem SR.turn(m:SR Q σ X){b:Nat}{bX blk':bV}{L:Loc}(hb:X.H[b]?=aa bX)(l:X.cF b=aa L){w':World}(x:w'.heap.size=X.w.heap.size)
  (y:∀ k,k≠L.c→w'.heap[k]?=X.w.heap[k]?) (z:∀ i,X.F L.c i→w'.cell? ⟨L.c,i,ab⟩=X.w.cell? ⟨L.c,i,ab⟩) (ho:w'.os=X.w.os) (A:w'.tape=X.w.tape) (hu:w'.output=X.w.output)
  (j:lP X { X with H:=X.H.set b blk',w:=w' } b)
  (s:Ext X.H.length X { X with H:=X.H.set b blk',w:=w' }→BR Q σ { X with H:=X.H.set b blk',w:=w' } blk' L) :
  SR Q σ { X with H:=X.H.set b blk',w:=w' }∧Ext X.H.length X { X with H:=X.H.set b blk',w:=w' }:=by
 have u:b<X.H.length:=(IT.1 hb).1;have v:Ext X.H.length X { X with H:=X.H.set b blk',w:=w' }:=
  Ext.one m b rfl (fun _ _=>Iff.rfl) (fun k _ h=>y k (h L l)) (fun d i h=>by rw [l]at h;cases h;exact z i) (fun _=>j)
   (fun q h _=>by simp [sh (Ne.symm h)]) (fun _ _=>rfl) (fun d h=>.inl ⟨d,h,rfl⟩) (Nat.le_of_eq x.symm) ho A hu
 refine⟨SR.step Q σ m v b (fun q h=>by simp [sh (Ne.symm h)]) (fun _ _=>rfl) (fun q d h g=>y _ fun e=>h (m.inj q b d L g l e)) (fun _ _ _ _ _ h=>h)
  (fun d h=>?_) (fun c i h=>by rw [x];exact m.fb c i h),v⟩
 change X.cF b=aa d at h;rw [l]at h;cases h;obtain⟨h1,h2,_⟩:=m.br b L l;exact⟨h1,by show L.c<w'.heap.size;omega,⟨blk',by simp [u],s v⟩,fun q d h g e=>h (m.inj q b d L g l e)⟩
theorem ja{w:World}{c:Nat}{us:List Value}(h:rowAt w c us):∀(d:List Value) (b:Nat),b+d.length≤us.length →
  (w.setCells c b d).heap.size=w.heap.size∧(∀ k,k≠c→(w.setCells c b d).heap[k]?=w.heap[k]?)∧(w.setCells c b d).os=w.os∧(w.setCells c b d).tape=w.tape ∧
  (w.setCells c b d).output=w.output∧rowAt (w.setCells c b d) c (over us b d)
 | [],b,_=>⟨rfl,fun _ _=>rfl,rfl,rfl,rfl,by simpa [World.setCells,over]using h⟩
 | v::d,b,l=>by
  simp only [an2]at l;have g:rowAt (w.setCell ⟨c,b,ab⟩ v) c (us.set b v):=by
   obtain⟨e,q,g,j⟩:=h;refine⟨e,q,?_,by simpa using j⟩;simp [World.setCell,Array.getElem?_modify,g]
  obtain⟨j,s,u,x,y,z⟩:=ja g d (b+1) (by simp;omega);simp only [World.setCells];refine⟨by rw [j];simp,fun k m=>(s k m).trans ?_,u,x,y,?_⟩
  ·simp only [World.setCell,Array.getElem?_modify];rw [aT (by simpa using Ne.symm m)]
  ·have:over (us.set b v) (b+1) d=over us b (v::d):=by
    unfold over;simp only [an2];rw [List.take_set,List.drop_set_of_lt (by omega),show b+1+d.length=b+(d.length+1) by omega];rw [apA (by omega)];have l:(List.take b us).length=b:=by simp;omega
    have e:(List.take b us++[us[b]]).set b v=List.take b us++[v]:=by
     rw [List.set_append,aT (by omega),l];simp
    rw [e];simp
   rw [←this];exact z
theorem rk{w:World}{c:Nat}{us:List Value}(h:rowAt w c us)(d:List Value)(b:Nat)(m:b+d.length≤us.length)(g:∀ v ∈ d,v.oneCell'=ae) :
  (storeCells ⟨c,b,ab⟩ d).run Q w=.ok () (w.setCells c b d):=by
 have:=run_storeCells_cells (P:=Q) c b d 0 w (fun j l=>by rw [ec h];simp;omega) (fun j l=>BH h (by omega)) g;simpa using this
theorem AP{α:Type}(us:List α)(b:Nat)(d:List α)(h:b+d.length≤us.length)(i:Nat)(hi:i<b):(over us b d)[i]?=us[i]?:=by
 unfold over;rw [AT (by simp;omega),AT (by simp;omega),an4];simp [hi]
end
section
variable{Q:Program}{σ:Nat→FuncId}{X:Wd}
def gV(Q:Program)(σ:Nat→FuncId)(X:Wd)(v:V)(H':an)(s:Sem Next):Prop:=
 ∃ u X',(s.run Q X.w=.ok (.value u) X'.w∨(s.run Q X.w=.ok .skip X'.w∧u=undef))∧X'.H=H'∧SR Q σ X'∧VR σ X' v u∧Ext X.H.length X X'∧X'.B≤X'.w.heap.size
theorem gV.akF(b:X.B≤X.w.heap.size)(d:SR Q σ X){v:V}{H':an}{s:Sem Next}(h:H'=X.H∧∃ u,s.run Q X.w=.ok (.value u) X.w∧VR σ X v u):gV Q σ X v H' s:=by
 obtain⟨rfl,u,h1,h2⟩:=h;exact⟨u,X,.inl h1,rfl,d,h2,Ext.refl _ _,b⟩
theorem ku{w w':World}{us:List Value}{e:TypeId}(h:ea w w' (.cells us.toArray e)):rowAt w' w.heap.size us:=⟨e,(0,0),h.new,fun i _=>by simp⟩
theorem Cb(b:SR Q σ X)(g:X.B≤X.w.heap.size){cs:List C}{us:List Value}(h:A2 (CR σ X) cs us)(e:TypeId) :
  ∃ X',X'.w=X.w.alloc (.cells us.toArray e)∧X'.H=X.H++[.box cs 0]∧SR Q σ X'∧Ext X.H.length X X'∧X'.cF X.H.length=aa ⟨X.w.heap.size,0⟩∧X'.B≤X'.w.heap.size:=
 SR.new b g (.box cs 0) (ea.alloc _ _) 0 fun X' m l j _=>⟨us,by rw [l];exact ku (ea.alloc _ _),A2.ext' σ m h,fun i _ d=>by
  rw [j]at d;have:=b.fb _ _ d;simp at this⟩
theorem tS(u:SR Q σ X)(q:X.B≤X.w.heap.size){cs:List C}{us:List Value}(h:A2 (CR σ X) cs us)(e:TypeId){s:Sem Next}
  (v:s.run Q X.w=.ok (.value (.pointer (aa ⟨X.w.heap.size,0,ab⟩))) (X.w.alloc (.cells us.toArray e))):gV Q σ X (.c (.ptr X.H.length 0 0)) (X.H++[.box cs 0]) s:=by
 obtain⟨X',d,b,g,j,l,m⟩:=Cb u q h e;refine⟨_,X',.inl (by rw [d];exact v),b,g,?_,j,m⟩;exact⟨_,l,by rw [b];simp⟩
theorem Va(m:SR Q σ X)(l:X.B≤X.w.heap.size){a:Act}{o:Oper}{zs:List FC}(b:dX Q σ o (.alloc zs)=ae) :
  gV Q σ X (.c (.ptr X.H.length 0 0)) (X.H++[.box (zs.map .f) 0]) (execOp a.eval o):=by
 simp only [dX]at b;split at b
 ·rename_i t q;obtain⟨z,us,d,g,j,_⟩:=fk (σ:=σ) (X:=X) b X.w;refine tS m l j t ?_;simp only [execOp,q];refine eu ?_;simp [Instr.alloc,d,newVar,newRow,g]
 ·simp at b
theorem afX(m:SR Q σ X)(j:X.B≤X.w.heap.size){a:Act}{aG:T}(l:RR σ X aG a.tmps){o:Oper}{x:Arg}(b:dX Q σ o (.box x)=ae){xs:List C}(s:(x.ev aG).cells?=aa xs) :
  gV Q σ X (.c (.ptr X.H.length 0 0)) (X.H++[.box xs 0]) (execOp a.eval o):=by
 simp only [dX]at b;split at b
 ·rename_i t y q;obtain⟨us,d,g⟩:=pj (bT l b) s;refine tS m j g t ?_;simp only [execOp,q];refine eu ?_;simp [Instr.box,newVar,newRow,d]
 ·simp at b
theorem ju{zs:List FC}{us:List Value}(h:A2 (CR σ X) (zs.map .f) us)(n:Nat):A2 (CR σ X) ((cQ n zs).map .f) (cQ n us):=by
 induction n with
 | zero=>exact A2.nil
 | succ n b=>
  simp only [cQ,List.replicate_succ,List.flatten_cons,List.map_append]at b ⊢;exact h.append b
theorem kr{α:Type}(n:Nat)(xs:List α):(cQ n xs).length=n*xs.length:=by simp [cQ]
theorem A1{α:Type}(us:List α):∀(n i:Nat),i<n*us.length→(cQ n us)[i]?=us[i % us.length]?
 | 0,i,h=>by simp at h
 | n+1,i,h=>by
  have b:cQ (n+1) us=us++cQ n us:=by simp [cQ,List.replicate_succ]
  rw [b];by_cases hi:i<us.length
  ·rw [AT hi,Nat.mod_eq_of_lt hi]
  ·have d:(n+1)*us.length=n*us.length+us.length:=by rw [anM];omega
   rw [ann (by omega),A1 us n (i-us.length) (by omega)];rw [←Nat.mod_eq_sub_mod (by omega)]
theorem iL(us:List Value)(n:Nat)(q:0<us.length):((Array.range (n*us.length)).map fun i=>us.toArray[i % us.toArray.size]!)=(cQ n us).toArray:=by
 apply Array.ext
 ·simp [kr]
 ·intro i g j;have l:i<n*us.length:=by simpa using g
  have b:=A1 us n i l;have d:i % us.length<us.length:=Nat.mod_lt _ q;have m:i<(cQ n us).length:=by simpa using j
  rw [By m,By d,AI]at b;simp [b,d]
theorem JB(d:SR Q σ X)(hB:X.B≤X.w.heap.size){a:Act}{aG:T}(hR:RR σ X aG a.tmps){o:Oper}{sz n:Nat}{zs:List FC}{ps:List (Nat × Arg)}
  (m:dX Q σ o (.bS sz zs n ps)=ae) {v:V} {H':an} (h:bE aG X.H (.bS sz zs n ps)=aa (v,H')):gV Q σ X v H' (execOp a.eval o):=by
 simp only [dX]at m;split at m
 ·rename_i t l qs Z;simp only [If,beq_iff_eq,decide_eq_true_eq]at m;obtain⟨⟨⟨⟨rfl,W⟩,B⟩,r⟩,f⟩:=m;obtain⟨e,hu,B⟩:=il B;simp only [If,decide_eq_true_eq]at B;obtain⟨⟨u,hz⟩,a7⟩:=B;obtain⟨z,us,O,S,x,_⟩:=fk (σ:=σ) (X:=X) hz X.w;have N:us.length=sz:=by have:=x.len;simp at this;omega
  simp only [bE]at h;split at h
  ·
   rename_i Y;subst Y;split at h
   ·rename_i s;simp only [AI,anc]at h;obtain⟨rfl,rfl⟩:=h;have j:qs.toList=[]:=by
     have:=(eT f).len;simp only [List.isEmpty_iff]at s;rw [s]at this;exact anz this.symm
    have j:qs=#[]:=by apply Array.ext';simpa using j
    obtain⟨X',F,A,H,I,U,J⟩:∃ X':Wd,X'.w=X.w.alloc (.cells #[] e)∧X'.H=X.H∧SR Q σ X'∧Ext X.H.length X X'∧True∧X'.B≤X'.w.heap.size:=by
     have hx:Ext X.H.length X { X with w:=X.w.alloc (.cells #[] e) }:=Ext.one d X.H.length rfl (fun _ _=>Iff.rfl) (fun k hk _=>(ea.alloc _ _).Bi hk)
      (fun L i h=>by rw [SR.qY d]at h;simp at h) (fun h=>by omega) (fun _ _ _=>rfl) (fun _ _=>rfl) (fun L h=>by rw [SR.qY d]at h;simp at h) (by simp) rfl rfl rfl
     refine⟨{ X with w:=X.w.alloc (.cells #[] e) },rfl,rfl,SR.step Q σ d hx X.H.length (fun _ _=>rfl) (fun _ _=>rfl) (fun b L _ hb=>(ea.alloc _ _).Bi (d.br b L hb).2.1)
      (fun _ _ _ _ _ h=>h) (fun L h=>by rw [SR.qY d]at h;simp at h) (fun c i h=>?_),hx,trivial,?_⟩
     ·have:=d.fb c i h;simp;omega
     ·simp;omega
    refine⟨.slice (aa ⟨X.w.heap.size,0,ab⟩) 0 0,X',.inl ?_,A,H,cW.es _,I,J⟩;rw [F];simp only [execOp,Z];refine eu ?_;simp [Instr.buildSlice,a5 hu,dm u,j,Instr.fill,newRow,show Array.range 0=(#[]:Array Nat) from rfl]
   ·simp at h
  ·rename_i Y;simp only [IN,anc]at h;obtain⟨cs,K,rfl,rfl⟩:=h;obtain⟨a8,U,J⟩:=nH (place:=fun i=>aa (i*sz,sz)) (ps:=qs.toList) hR (qs:=ps.map fun p=>(p.1*sz,sz,p.2)) (A2.map ((eT f).kB fun q p g=>by
    simp only [If,beq_iff_eq]at g;exact⟨by rw [g.1],g.2⟩)) (ju x l) K
   obtain⟨X',F,A,H,I,h7,h8⟩:=Cb d hB J e;refine⟨.slice (aa ⟨X.w.heap.size,0,ab⟩) l l,X',.inl ?_,A,H,?_,I,h8⟩
   ·rw [F];simp only [execOp,Z];refine eu ?_;have M:l*sz≠0:=by
     intro E;rcases apt.1 E with E | E<;>omega
    have y:=iL us l (by omega);rw [N]at y;simp only [Instr.buildSlice,Sem.run_bind,a5 hu,dm u,Result.andThen_ok,aT (show¬ l*sz>2 ^ 24 by omega),Sem.run_ite,aT M,O,Sem.run_pure,S];simp only [Array.toList_map];rw [y];simp [U,newRow]
   ·simp only [VR,iM,CR,fT,A];simp;exact⟨_,h7,rfl⟩
 ·simp at m
theorem Dd:∀ {cs:List C} {b:List FC},fcL cs=aa b→cs=b.map .f
 | [],b,h=>by simp [fcL]at h;subst h;rfl
 | c::cs,b,h=>by
  cases c with
  | f x=>
   simp only [fcL,IN]at h;obtain⟨g,d,rfl⟩:=h;rw [Dd d];rfl
  | _=>simp [fcL]at h
theorem vZ(y:SR Q σ X)(hB:X.B≤X.w.heap.size){a:Act}{aG:T}(hR:RR σ X aG a.tmps){o:Oper}{sz n:Nat}{zs:List FC}{ps:List (Nat × Arg)}
  (K:dX Q σ o (.jK sz zs n ps)=ae) {v:V} {H H':an} (h:bE aG H (.jK sz zs n ps)=aa (v,H')) :
  H'=H∧∃ u X',(execOp a.eval o).run Q X.w=.ok (.value u) X'.w∧X'.H=X.H∧SR Q σ X'∧VR σ X' v u∧Ext X.H.length X X'∧X'.B≤X'.w.heap.size∧X'.cF=X.cF:=by
 simp only [dX]at K;split at K
 ·rename_i t j qs ho;simp only [If,beq_iff_eq,decide_eq_true_eq]at K;obtain⟨⟨⟨⟨rfl,b_⟩,U⟩,c9⟩,hq⟩:=K;obtain⟨e,M,U⟩:=il U;simp only [If,decide_eq_true_eq]at U;obtain⟨⟨f,hz⟩,c_⟩:=U;obtain⟨z,us,a8,a_,O,_⟩:=fk (σ:=σ) (X:=X) hz X.w;have r:us.length=sz:=by have:=O.len;simp at this;omega
  simp only [bE,IN,anN,anc]at h;obtain⟨fs,⟨cs,Y,l⟩,rfl,rfl⟩:=h;split at l
  ·simp at l
  rename_i hn;have E:=Dd l;obtain⟨d,h5,h6⟩:=nH (place:=fun i=>aa (i*sz,sz)) (ps:=qs.toList) hR (qs:=ps.map fun p=>(p.1*sz,sz,p.2)) (A2.map ((eT hq).kB fun q p m=>by
   simp only [If,beq_iff_eq]at m;exact⟨by rw [m.1],m.2⟩)) (ju O j) Y
  have g:ea X.w (X.w.alloc (.cells d.toArray e)) (.cells d.toArray e):=ea.alloc _ _;obtain⟨w',s⟩:=aM (X.w.alloc (.cells d.toArray e));rw [←s]at g;have I:∀ c i,X.F c i→w'.cell? ⟨c,i,ab⟩=X.w.cell? ⟨c,i,ab⟩:=fun c i h=>World.cell?_of_block (g.Bi (y.fb c i h));have hx:Ext X.H.length X { X with w:=w',F:=fun c i=>X.F c i∨(c=X.w.heap.size∧i<d.length) }:={
   B:=rfl
   F:=fun c i h=>.inl h
   oX:=fun c i h=>h.elim .inl fun h=>.inr (.inl (by rw [h.1];exact anl _))
   fw:=I
   ba:=fun b _ bX A=>⟨bX,A,by cases bX<;>simp⟩
   wi:=fun b L h=>.inl ⟨b,L,h,rfl⟩
   size:=by show _≤w'.heap.size;rw [g.size];omega
   os:=g.os
   tape:=g.tape
   output:=g.output
   frame:=fun k hk _=>g.Bi hk }
  refine⟨rfl,.slice (aa ⟨X.w.heap.size,0,ab⟩) j j,{ X with w:=w',F:=fun c i=>X.F c i∨(c=X.w.heap.size∧i<d.length) },?_,rfl,?_,?_,hx,?_,rfl⟩
  ·simp only [execOp,ho];refine eu ?_;have Z:j*sz≠0:=by
    intro W;rcases apt.1 W with W | W<;>omega
   have S:=iL us j (by omega);rw [r]at S;simp only [Instr.buildSlice,Sem.run_bind,a5 M,dm f,Result.andThen_ok,aT (show¬ j*sz>2 ^ 24 by omega),Sem.run_ite,aT Z,a8,Sem.run_pure,a_];simp only [Array.toList_map];rw [S];simp [h5,newRow,s]
  ·exact SR.step Q σ y hx X.H.length (fun _ _=>rfl) (fun _ _=>rfl) (fun b L _ A=>g.Bi (y.br b L A).2.1)
    (fun b L _ A i h=>h.elim id fun h=>by have:=(y.br b L A).2.1;omega) (fun L h=>by change X.cF X.H.length=aa L at h;rw [SR.qY y]at h;simp at h)
    (fun c i h=>by
     show c<w'.heap.size;rw [g.size];rcases h with h | h
     ·have:=y.fb c i h;omega
     ·omega)
  ·have J:d.length=fs.length:=by have:=h6.len;rw [E]at this;simp at this;omega
   refine cW.fs fs j X.w.heap.size 0 j d (anl _) J (fun i hi=>.inr ⟨rfl,by omega⟩) (fun i u M=>?_) fun i x u a7 M=>?_
   ·show w'.cell? _=_;rw [ec (show rowAt w' X.w.heap.size d by rw [s];exact ku (ea.alloc _ _)),Nat.zero_add];exact M
   ·obtain⟨u',N,hr⟩:=h6.get (i:=i) (x:=.f x) (by rw [E,aoj,a7];rfl);rw [M]at N;cases N;exact cW.mono (fun c i h=>.inl h) I hr
  ·show X.B≤w'.heap.size;rw [g.size];omega
 ·simp at K
end
section
variable{Q:Program}{σ:Nat→FuncId}{X:Wd}
theorem AO{α:Type}(us rest:List α)(b:Nat)(d:List α)(h:b+d.length≤us.length):over (us++rest) b d=over us b d++rest:=by
 unfold over;rw [List.take_append_of_le_length (by omega),List.drop_append_of_le_length (by omega)];simp
theorem A2.one{cs:List C}{us:List Value}(h:A2 (CR σ X) cs us):∀ v ∈ us,v.oneCell'=ae:=by
 intro v d;obtain⟨i,hi⟩:=aot d;have b:i<cs.length:=by rw [h.len];exact(IT.1 hi).1
 exact CR.one σ (h.2 i _ v (By b) hi)
theorem Be(A:SR Q σ X){b:Nat}{cs:List C}{fl:Nat}{L:Loc}(q:X.H[b]?=aa (.box cs fl))(z:X.cF b=aa L){xs:List C}{l:List Value}(v:A2 (CR σ X) xs l){d:Nat}
  (J:fl≤d) (W:d+xs.length≤cs.length):∃ X',(storeCells ⟨L.c,d,ab⟩ l).run Q X.w=.ok () X'.w∧X'.H=X.H.set b (.box (over cs d xs) fl)∧SR Q σ X'∧Ext X.H.length X X' ∧
   (∀ b,X'.cF b=X.cF b)∧X'.w.heap.size=X.w.heap.size∧X'.B=X.B:=by
 obtain⟨_,_,bX,j,s⟩:=A.br b L z;rw [q]at j;simp only [AI]at j;subst j;obtain⟨us,u,x,y⟩:=s;have M:=v.len;have K:=x.len;obtain⟨B,N,O,S,U,E⟩:=ja u l d (by omega);obtain⟨F,H⟩:=SR.turn A (blk':=.box (over cs d xs) fl) q z B N (fun i I=>by
   rw [ec E,ec u];have:i<d:=by
    rcases anQ i d with h | h
    ·exact h
    ·exact absurd I (y i (by omega))
   exact AP us d l (by omega) i this) O S U
  (fun bX g=>⟨.box (over cs d xs) fl,by simp [(IT.1 q).1],by rw [q]at g;simp only [AI]at g;subst g;exact fun L h=>h⟩)
  (fun m=>⟨over us d l,E,A2.over (A2.ext' σ m x) (A2.ext' σ m v) d,y⟩)
 exact⟨_,rk u l d (by omega) (A2.one v),rfl,F,H,fun _=>rfl,B,rfl⟩
theorem Bf(E:SR Q σ X){b:Nat}{sz:Nat}{cs:List C}{fl q:Nat}{L:Loc}(s:X.H[b]?=aa (.cS sz cs fl q .loc))(B:X.cF b=aa L){xs:List C}{l:List Value}(x:A2 (CR σ X) xs l){d:Nat}
  (O:fl≤d) (S:d+xs.length≤cs.length):∃ X',(storeCells ⟨L.c,d,ab⟩ l).run Q X.w=.ok () X'.w∧X'.H=X.H.set b (.cS sz (over cs d xs) fl q .loc)∧SR Q σ X'∧Ext X.H.length X X' ∧
   (∀ b,X'.cF b=X.cF b)∧X'.w.heap.size=X.w.heap.size∧X'.B=X.B:=by
 obtain⟨_,_,bX,j,u⟩:=E.br b L B;rw [s]at j;simp only [AI]at j;subst j;obtain⟨W,us,rest,v,z,J,K,M,A⟩:=u;have Z:=x.len;have Y:=z.len;obtain⟨F,a,c,e,f,y⟩:=ja v l d (by simp;omega);rw [AO _ _ _ _ (by omega)]at y;have U:=AR us d l (by omega);obtain⟨H,I⟩:=SR.turn E (blk':=.cS sz (over cs d xs) fl q .loc) s B F a (fun i N=>by
   rw [ec y,ec v];have:i<d:=by
    rcases anQ i d with h | h
    ·exact h
    ·exact absurd N (A i (by omega))
   rw [AT (by omega),AT (by omega)];exact AP us d l (by omega) i this) c e f
  (fun bX g=>⟨.cS sz (over cs d xs) fl q .loc,by simp [(IT.1 s).1],by rw [s]at g;simp only [AI]at g;subst g;exact⟨rfl,.inl ⟨rfl,rfl,fun L h=>h⟩⟩⟩)
  (fun m=>⟨rfl,over us d l,rest,y,A2.over (A2.ext' σ m z) (A2.ext' σ m x) d,by simp only [ank]at J ⊢;omega,K,by rw [AR cs d xs S];exact M,A⟩)
 exact⟨_,rk v l d (by simp;omega) (A2.one x),rfl,H,I,fun _=>rfl,F,rfl⟩
theorem W6(E:SR Q σ X){x:C}{u:Value}(d:CR σ X x u){xs:List C}{F:List Value}(m:A2 (CR σ X) xs F){H':an}(h:cZ X.H x xs=aa H') :
  ∃ c g X',u=.pointer (aa ⟨c,g,ab⟩)∧(storeCells ⟨c,g,ab⟩ F).run Q X.w=.ok () X'.w∧X'.H=H'∧SR Q σ X'∧Ext X.H.length X X'∧X'.w.heap.size=X.w.heap.size∧X'.B=X.B:=by
 unfold cZ at h;split at h
 ·rename_i b g H;obtain⟨L,B,d⟩:=d;split at h
  ·rename_i cs fl l;rw [l]at d;simp only at d;subst d;split at h
   ·rename_i j;simp only [AI]at h;subst h;obtain⟨X',q,s,v,y,_,z,A⟩:=Be E l B m j.1 j.2;exact⟨_,_,X',rfl,q,s,v,y,z,A⟩
   ·simp at h
  ·rename_i sz cs fl e l;rw [l]at d;split at h
   ·rename_i j;have d:=d.2.1 j.1;subst d;simp only [AI]at h;subst h;obtain⟨X',q,s,v,y,_,z,A⟩:=Bf E l B m j.2.1 j.2.2;exact⟨_,_,X',rfl,q,s,v,y,z,A⟩
   ·simp at h
  ·simp at h
 ·simp at h
theorem W8(E:SR Q σ X)(Y:X.B≤X.w.heap.size){a:Act}{aG:T}(q:RR σ X aG a.tmps){o:Oper}{n:Nat}{x y:Arg}(b:dX Q σ o (.store n x y)=ae){v:V}{H':an}
  (h:bE aG X.H (.store n x y)=aa (v,H')):gV Q σ X v H' (execOp a.eval o):=by
 simp only [dX]at b;split at b
 ·rename_i t N O H;simp only [If]at b;obtain⟨⟨F,g⟩,m⟩:=b;have g:=bT q g;have m:=bT q m;simp only [bE]at h;split at h
  ·rename_i p xs I l;rw [I]at g;split at h
   ·rename_i s;simp only [IN,anc]at h;obtain⟨S,j,rfl,rfl⟩:=h;obtain⟨Z,K,d⟩:=pj m l;obtain⟨c,M,X',J,u,z,A,B,U,W⟩:=W6 E g d j;refine⟨undef,X',.inr ⟨?_,rfl⟩,z,A,trivial,B,by omega⟩;have L:=d.len;simp only [execOp,H,Sem.run_bind];have:(Instr.storeAt t (a.eval N) (a.eval O)).run Q X.w=.ok () X'.w:=by
     rw [J];simp [Instr.storeAt,Instr.sureAddr,storeVar,dm F,K];rw [bf (by omega)];exact u
    simp [this]
   ·simp at h
  ·simp at h
 ·simp at b
end
end Km
