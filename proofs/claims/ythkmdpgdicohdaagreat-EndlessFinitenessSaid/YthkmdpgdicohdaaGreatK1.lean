/-
  Our own small machine for Go code by value, held qR the model: part 1. No program in Co.
-/
import GoSem.Step
import GoSem.Dispatch
import GoSem.Machine.Exec
import Derived.Calls
import Derived.Laws.World
import Derived.Laws.Cells
import Derived.Laws.IdiomCopy
import Derived.Below
import Derived.Laws.Slices
import Derived.Laws.Strings
import Derived.Laws.StructEq
import Derived.Laws.BytesString
import Derived.Laws.Tables
import Derived.Laws.AppendOwn
open Option renaming some → aa,none → ab
open Bool renaming true → ae,false → ag
open Option.some renaming injEq → AI
open Bool renaming false_eq_true → ajo, and_eq_true → BY
open List renaming getElem?_eq_some_iff → IS, getElem?_eq_getElem → By, getElem?_append_left → AT, getElem?_append_right → aje, getElem?_take → ajO, getElem?_drop → ajv, getElem?_map → aj3, all_eq_true → aji, getElem?_of_mem → akc, extract_eq_take_drop → akE, take_of_length_le → ajl, length_append → ai7, foldl_cons → akP, length_cons → ajL, take_succ_eq_append_getElem → alj, eq_nil_of_length_eq_zero → ajk, getElem?_set_ne → sh
open Nat renaming le_refl → ai8, le_trans → ajw, lt_of_lt_of_le → aj5, add_mul → ajy, mul_comm → ak5, mul_eq_zero → alc, lt_or_ge → ajz
open Option renaming bind_eq_some_iff → ajx, map_eq_some_iff → IN, bind_eq_bind → alr, bind_some → ajC, map_some → ajK
open Prod.mk renaming injEq → OF
set_option linter.unusedVariables false
set_option linter.constructorNameAsVariable false
set_option linter.unusedSimpArgs false
set_option linter.unusedSectionVars false
set_option maxRecDepth 100000
namespace Km
open Go
theorem aL.{u}{α:Sort u}(a:α):∃ b,b=a:=⟨a,rfl⟩
theorem aR.{u}{c:Prop}{h:Decidable c}(b:¬c){α:Sort u}{t e:α}:(ite c t e)=e:=if_neg b
theorem ba.{u}{c:Prop}{h:Decidable c}(hc:c){α:Sort u}{t e:α}:(ite c t e)=t:=if_pos hc
inductive FC where
 | bool (b:Bool)
 | int (k:IntKind) (n:Int)
 | str (s:ByteArray)
 | sH | aA | es | jY | nP | oV
 | fp (cs:List FC) (off:Nat)
 | fs (cs:List FC) (len:Nat)
 | fn (f:Nat) (GZ:List FC)
 deriving Inhabited
inductive C where
 | f (x:FC)
 | ptr (b off ep:Nat)
 | sl (b off len cap ep sz:Nat)
 | cl (f:Nat) (GZ:List C)
 | yl (b:Nat)
 | mp (b:Nat)
 | it (b:Nat)
 | bm (f:Nat) (first:List C)
 | mi (b:Nat)
 deriving Inhabited
inductive V where
 | top
 | c (x:C)
 | a (xs:List C)
 | t (xs:List V)
 deriving Inhabited
def zQ:Nat:=1000000007
def mV:C→V
 | .cl f cs=>if f=zQ then .a cs else .c (.cl f cs)| x=>.c x
def qn:V→Option C
 | .c (.cl f cs)=>if f=zQ then ab else aa (.cl f cs)| .c x=>aa x| .a cs=>aa (.cl zQ cs)| _=>ab
def zV:FC→V
 | .fn f zs=>if f=zQ then .a (zs.map .f)else .c (.f (.fn f zs))| z=>.c (.f z)
def qd:FC→List FC
 | .fn f zs=>if f=zQ then zs else [.fn f zs]| z=>[z]
def A8:FC→Bool
 | .fn f _=>decide (f=zQ)| _=>ag
theorem R8{v:V}{c:C}(h:qn v=aa c):mV c=v:=by
 cases v with
 | c x=>
  cases x<;>simp only [qn,AI]at h
  case cl f cs=>
   split at h
   ·cases h
   ·rename_i b;simp only [AI]at h;subst h;simp only [mV,aR b]
  all_goals (subst h;rfl)
 | a cs=>simp only [qn,AI]at h;subst h;simp [mV]| _=>simp [qn]at h
theorem ad7{z:FC}(h:A8 z=ae):zV z=.a ((qd z).map .f):=by
 cases z<;>simp only [A8,decide_eq_true_eq,reduceCtorEq,ajo]at h;simp only [zV,qd,ba h]
theorem ad8{z:FC}(h:A8 z=ag):zV z=.c (.f z)∧qd z=[z]:=by
 cases z<;>simp only [A8,decide_eq_false_iff_not]at h
 case fn f zs=>simp only [zV,qd,aR h,and_self]
 all_goals exact⟨rfl,rfl⟩
inductive Os where | loc | nil | es
 deriving DecidableEq,Inhabited
inductive P where
 | h
 | o (p:P)
 | i (p:P)
 deriving DecidableEq,Inhabited
def P.toNat:P→Nat
 | .h=>0| .o p=>2*p.toNat+1| .i p=>2*p.toNat+2
inductive T where
 | e
 | n (l:T) (v:V) (r:T)
 deriving Inhabited
def T.get:T→P→V
 | .e,_=>.top| .n _ v _,.h=>v| .n l _ _,.o p=>l.get p| .n _ _ r,.i p=>r.get p
def T.set:T→P→V→T
 | .e,.h,w=>.n .e w .e| .e,.o p,w=>.n (T.set .e p w) .top .e| .e,.i p,w=>.n .e .top (T.set .e p w)| .n l _ r,.h,w=>.n l w r| .n l v r,.o p,w=>.n (l.set p w) v r| .n l v r,.i p,w=>.n l v (r.set p w)
inductive Arg where
 | r (n:P)
 | k (v:V)
 deriving Inhabited
inductive CK where | bool | int | str
 deriving DecidableEq,Inhabited
inductive II where
 | bool | ptr | sl | fn | ifc
 | st (ks:List CK)
 deriving Inhabited
inductive cY where
 | cU (x:Arg)
 | pre (o:Os) (sz:Nat)
 | pick (c a b:Arg)
 | alloc (zs:List FC)
 | box (x:Arg)
 | build (zs:List FC) (parts:List (Nat × Nat × Arg))
 | bQ (sz:Nat) (zs:List FC) (len:Nat) (parts:List (Nat × Arg))
 | load (n:Option Nat) (x:Arg)
 | store (n:Nat) (x y:Arg)
 | dE (x:Arg)
 | bin (op:BinOp) (x y:Arg)
 | eq (neg:Bool) (k:II) (x y:Arg)
 | un (op:UnOp) (x:Arg)
 | jm (k:IntKind) (x:Arg)
 | z6 (x:Arg)
 | yv (x:Arg)
 | XK (x:Arg)
 | iQ (f:Nat) (GZ:List Arg)
 | jX
 | lookup (ck:CK) (zero:FC) (m k:Arg)
 | lN (ck:CK) (m k v:Arg)
 | dD (sz bytes:Nat) (zs:List FC) (l c:Arg)
 | slice (sz:Nat) (x:Arg) (lo hi mx:Option Arg)
 | pj (n sz:Nat) (x:Arg) (lo hi mx:Option Arg)
 | qH (x:Arg) (lo hi:Option Arg)
 | bB (off:Nat) (x:Arg)
 | field (off:Nat) (n:Option Nat) (x:Arg)
 | bI (sz:Nat) (arr:Option Nat) (x i:Arg)
 | idxs (x i:Arg)
 | yF (len sz:Nat) (n:Option Nat) (x i:Arg)
 | range (x:Arg)
 | next (x:Arg)
 | extract (x:Arg) (i:Nat)
 | call (f:Nat) (args:List Arg) (h:Bool)
 | bT (x:Arg) (args:List Arg) (h:Bool)
 | len (x:Arg)
 | oL (n:Nat)
 | lens (x:Arg)
 | cap (x:Arg)
 | append (sz bytes:Nat) (x y:Arg)
 | copy (sz:Nat) (x y:Arg)
 | fT (lo:Bool) (xs:List Arg)
 | lU (sz bytes:Nat) (zs:List FC) (x n:Arg)
 | clear (sz:Nat) (zs:List FC) (x:Arg)
 | mz (x:Arg)
 | qE (x:Arg)
 | entry (x:Arg)
 | yW (f:Nat) (xs:List Arg)
 | qP (sz:Nat) (x hi mx:Arg)
 | ji (sz:Nat) (zs:List FC) (len:Nat) (parts:List (Nat × Arg))
 | recover
 | defer (x:Arg) (args:List Arg)
 | bad
 deriving Inhabited
def cY.fsl:cY→Bool
 | .ji ..=>ae| _=>ag
structure aO where
 dst:Option P
 op:cY
 g:Option (P × Bool):=ab
 deriving Inhabited
inductive av where
 | skip
 | region (ops:List aO) (iF:List (Nat × Nat))
 | seq (a b:av)
 | cond (c:Arg) (a b:av)
 | block (id:Nat) (a:av)
 | loop (a:av)
 | gj (f:Arg) (ps:List P) (assign body:av)
 | exit (id:Nat)
 | ret
 | bad
 | scope (a:av)
 | label (l:Nat)
 | goto (l:Nat)
 deriving Inhabited
inductive dz where | ready | busy | done | exhausted
 deriving DecidableEq,Inhabited
inductive bZ where
 | box (cs:List C) (fl:Nat)
 | cE (sz:Nat) (cs:List C) (fl ep:Nat) (st:Os)
 | map (es:List (FC × C))
 | it (s:ByteArray) (pos:Nat)
 | yU (m since:Nat) (done:Bool)
 | fg (open_:Bool)
 | lp (fn:Nat) (tmps:T) (ps:List P) (assign body:av) (st:dz) (pending:Option av) (fg:Nat)
 deriving Inhabited
abbrev an:=List bZ
inductive eU where
 | er (b:Nat)
 | fn (f:Nat) (args:List V)
 deriving Inhabited
inductive gA where
 | tmp (t:P)
 | cell (t:P) (n:Option Nat)
 deriving Inhabited
structure aK where
 ps:List P
 results:List gA
 body:av
 deriving Inhabited
def Arg.ev(aB:T):Arg→V
 | .r n=>aB.get n| .k v=>v
def V.int(k:IntKind)(n:Int):V:=.c (.f (.int k n))
def V.bool(b:Bool):V:=.c (.f (.bool b))
def aC(H:an):C→Option (List C)
 | .ptr b d g=>match H[b]? with
  | some (.box cs _)=>aa (cs.drop d)| some (.cE _ cs _ e .loc)=>if g=e then aa (cs.drop d)else ab| _=>ab
 | .f (.fp cs d)=>aa ((cs.drop d).map .f)| _=>ab
def aW:Option Nat→List C→Option V
 | none,c::_=>aa (.c c)| none,[]=>ab| some n,cs=>if n≤cs.length then aa (.a (cs.take n))else ab
def aU(H:an)(n:Option Nat):V→Option V
 | .c x=>(aC H x).bind (aW n)| _=>ab
def V.cells? : V→Option (List C)
 | .c x=>aa [x]| .a xs=>aa xs| _=>ab
def over{α:Type}(cs:List α)(b:Nat)(xs:List α):List α:=cs.take b++xs++cs.drop (b+xs.length)
def di(H:an)(x:C)(xs:List C):Option an:=
 match x with
 | .ptr b d g=>match H[b]? with
  | some (.box cs fl)=>if fl≤d∧d+xs.length≤cs.length then aa (H.set b (.box (over cs d xs) fl))else ab| some (.cE sz cs fl e .loc)=>if g=e∧fl≤d∧d+xs.length≤cs.length then aa (H.set b (.cE sz (over cs d xs) fl e .loc))else ab| _=>ab
 | _=>ab
def bg(H:an):C→Option Nat
 | .sl b _ l _ d sz=>match H[b]? with
  | some (.box _ _)=>aa l| some (.cE s _ _ e _)=>if d=e∧sz=s then aa l else ab| _=>ab
 | .f .aA=>aa 0| .f .es=>aa 0| .f (.fs _ l)=>aa l| _=>ab
def cH(H:an)(sz:Nat):C→Option (List C)
 | .sl b o l _ d s=>match H[b]? with
  | some (.box cs _)=>if o+l*sz≤cs.length then aa ((cs.drop o).take (l*sz))else ab| some (.cE g cs _ e _)=>if d=e∧s=g∧o+l*sz≤cs.length then aa ((cs.drop o).take (l*sz))else ab| _=>ab
 | .f .aA=>aa []| .f .es=>aa []| .f (.fs cs l)=>if cs.length=l*sz then aa (cs.map .f)else ab| _=>ab
def aZ{α β:Type}(g:α→Option β):List α→Option (List β)
 | []=>aa []
 | x::xs=>match g x with
  | none=>ab
  | some y=>match aZ g xs with
   | none=>ab| some ys=>aa (y::ys)
def et:Nat→an→C→Option FC
 | _,_,.f x=>aa x| 0,_,_=>ab
 | n+1,H,.ptr b j _=>match H[b]? with
  | some (.box cs _)=>(aZ (et n H) cs).map (.fp · j)| _=>ab
 | n+1,H,.sl b o l _ g sz=>match H[b]? with
  | some (.box cs _)=>if o+l*sz≤cs.length then(aZ (et n H) ((cs.drop o).take (l*sz))).map (.fs · l)else ab| some (.cE s cs _ e .loc)=>if g=e∧sz=s∧o+l*sz≤cs.length then(aZ (et n H) ((cs.drop o).take (l*sz))).map (.fs · l)else ab| some (.cE s _ _ e .nil)=>if g=e∧sz=s then aa .aA else ab| some (.cE s _ _ e .es)=>if g=e∧sz=s then aa .es else ab| _=>ab
 | n+1,H,.cl f d=>(aZ (et n H) d).map (.fn f)| _+1,_,_=>ab
def dI(n:Nat)(H:an):V→Option V
 | .c x=>(et n H x).map fun y=>.c (.f y)
 | .a xs=>(aZ (et n H) xs).map fun ys=>.a (ys.map .f)
 | _=>ab
def mR(n:Nat)(H:an):V→Option V
 | .t b=>(aZ (dI n H) b).map .t| v=>dI n H v
def eK:Nat→C→an→an
 | _,.f _,H=>H| 0,_,H=>H
 | n+1,.ptr b _ _,H=>match H[b]? with
  | some (.box cs fl)=>cs.foldl (fun H x=>eK n x H) (H.set b (.box cs (Nat.max fl cs.length)))
  | _=>H
 | n+1,.sl b o l _ _ sz,H=>match H[b]? with
  | some (.box cs fl)=>((cs.drop o).take (l*sz)).foldl (fun H x=>eK n x H) (H.set b (.box cs (Nat.max fl (o+l*sz))))
  | some (.cE s cs fl e st)=>((cs.drop o).take (l*sz)).foldl (fun H x=>eK n x H) (H.set b (.cE s cs (Nat.max fl (o+l*sz)) e st))
  | _=>H
 | n+1,.cl _ d,H=>d.foldl (fun H x=>eK n x H) H
 | _+1,_,H=>H
def YH(n:Nat)(H:an):V→an
 | .c x=>eK n x H| .a xs=>xs.foldl (fun H x=>eK n x H) H
 | _=>H
def ky(op:BinOp)(k:IntKind)(x y:Int):Option V:=
 match op with
 | .add=>aa (.int k (k.wrap (x+y)))| .sub=>aa (.int k (k.wrap (x-y)))| .mul=>aa (.int k (k.wrap (x*y)))| .quo=>if y=0 then ab else aa (.int k (k.wrap (x.tdiv y)))| .rem=>if y=0 then ab else aa (.int k (x.tmod y))| .and=>aa (.int k (k.wrap (BitVec.ofInt k.bits x &&& BitVec.ofInt k.bits y).toNat))| .or=>aa (.int k (k.wrap (BitVec.ofInt k.bits x ||| BitVec.ofInt k.bits y).toNat))| .xor=>aa (.int k (k.wrap (BitVec.ofInt k.bits x ^^^ BitVec.ofInt k.bits y).toNat))| .andNot=>aa (.int k (k.wrap (BitVec.ofInt k.bits x &&& ~~~ (BitVec.ofInt k.bits y)).toNat))| .eql=>aa (.bool (x == y))| .neq=>aa (.bool (x != y))| .lss=>aa (.bool (decide (x<y)))| .leq=>aa (.bool (decide (x≤y)))| .gtr=>aa (.bool (decide (x>y)))| .geq=>aa (.bool (decide (x≥y)))| _=>ab
def abL(op:BinOp)(x y:ByteArray):Option V:=
 match op with
 | .add=>if((x.size+y.size:Nat):Int)>IntKind.i64.max then ab else aa (.c (.f (.str (x++y))))| .eql=>aa (.bool (x.toList == y.toList))| .neq=>aa (.bool !(x.toList == y.toList))| .lss=>aa (.bool (Op.bytesLess x.toList y.toList))| .leq=>aa (.bool (Op.bytesLess x.toList y.toList||x.toList == y.toList))| .gtr=>aa (.bool !(Op.bytesLess x.toList y.toList||x.toList == y.toList))| .geq=>aa (.bool !(Op.bytesLess x.toList y.toList))| _=>ab
def Hm:CK→C→C→Option Bool
 | .bool,.f (.bool a),.f (.bool b)=>aa (a == b)| .int,.f (.int k a),.f (.int k' b)=>if k=k' then aa (a == b)else ab| .str,.f (.str a),.f (.str b)=>aa (a == b)| _,_,_=>ab
def qp:List CK→List C→List C→Option Bool
 | [],[],[]=>aa ae
 | k::d,x::xs,y::ys=>match Hm k x y,qp d xs ys with
  | some a,aa b=>aa (a&&b)| _,_=>ab
 | _,_,_=>ab
def isNil(H:an):II→C→Option Bool
 | .ptr,.f .sH=>aa ae| .ptr,.f (.fp _ _)=>aa ag| .ptr,.ptr _ _ _=>aa ag| .sl,.f .aA=>aa ae| .sl,.f .es=>aa ag| .sl,.f (.fs _ _)=>aa ag
 | .sl,.sl b _ _ _ d sz=>match H[b]? with
  | some (.box _ _)=>aa ag| some (.cE s _ _ e st)=>if d=e∧sz=s then aa (st == .nil)else ab| _=>ab
 | .fn,.f .jY=>aa ae| .fn,.f (.fn _ _)=>aa ag| .fn,.cl _ _=>aa ag| .fn,.bm _ _=>aa ag| .ifc,.f .nP=>aa ae| _,_=>ab
def BF(H:an):II→V→V→Option Bool
 | .bool,.c x,.c y=>Hm .bool x y| .st b,.a xs,.a ys=>qp b xs ys| .ptr,.c x,.c (.f .sH)=>isNil H .ptr x| .sl,.c x,.c (.f .aA)=>isNil H .sl x| .fn,.c x,.c (.f .jY)=>isNil H .fn x| .ifc,.c x,.c (.f .nP)=>isNil H .ifc x| _,_,_=>ab
def bM(op:BinOp)(x y:V):Option V:=
 match op,x,y with
 | .shl,.c (.f (.int k a)),.c (.f (.int _ b))=>if b<0 then ab else aa (.int k (k.wrap (a*2 ^ (min b.toNat k.bits))))| .shr,.c (.f (.int k a)),.c (.f (.int _ b))=>if b<0 then ab else aa (.int k (a.fdiv (2 ^ (min b.toNat k.bits))))| op,.c (.f (.int k a)),.c (.f (.int k' b))=>if k=k' then ky op k a b else ab| op,.c (.f (.str a)),.c (.f (.str b))=>abL op a b| _,_,_=>ab
def unV(op:UnOp)(x:V):Option V:=
 match op,x with
 | .neg,.c (.f (.int k n))=>aa (.int k (k.wrap (0-n)))| .not,.c (.f (.bool b))=>aa (.bool !b)| _,_=>ab
def fS:V→Option Int
 | .c (.f (.int _ n))=>aa n| _=>ab
def wR(x:V)(y:Nat):Option Nat:=
 match fS x with
 | some i=>if 0≤i∧i≤y then aa i.toNat else ab| none=>ab
def bE(len cap:Nat)(lo hi mx:Option V):Option (Nat × Nat × Nat):=do
 let m ←match mx with
  | some v=>wR v cap| none=>aa cap
 let h ←match hi,mx with
  | some v,_=>wR v m| none,ab=>aa len| none,aa _=>ab
 let l ←match lo with
  | some v=>wR v h| none=>aa 0
 pure (l,h,m)
def bG(H:an)(sz:Nat)(x:V)(lo hi mx:Option V):Option V:=
 match x with
 | .c (.f .aA)=>match bE 0 0 lo hi mx with
  | some _=>aa (.c (.f .aA))| none=>ab
 | .c (.f .es)=>match bE 0 0 lo hi mx with
  | some _=>aa (.c (.f .es))| none=>ab
 | .c (.f (.fs cs n))=>match bE n n lo hi mx with
  | some (l,h,m)=>
   if mx.isSome∧m=l then aa (.c (.f .es))else
   aa (.c (.f (.fs ((cs.drop (l*sz)).take ((h-l)*sz)) (h-l))))
  | none=>ab
 | .c (.sl b o n cap d s)=>match H[b]? with
  | some (.box _ _)=>match bE n cap lo hi mx with
   | some (l,h,m)=>if m=l then aa (.c (.f .es))else aa (.c (.sl b (o+l*sz) (h-l) (m-l) d s))| none=>ab
  | some (.cE g cs _ e st)=>
   if d=e∧s=sz∧g=sz then
    match st with
    | .loc=>match bE n n lo hi mx with
     | some (l,h,m)=>
      if mx.isSome∧m=l then aa (.c (.f .es))
      else if l=h∧0<l then aa (.c (.f (.fs [] 0)))
      else if mx.isSome then(if 0<l then aa (.c (.sl b 0 0 0 d (g+1)))else ab)
      else aa (.c (.sl b (o+l*sz) (h-l) 0 d s))
     | none=>match mx with
      | some _=>ab
      | none=>match bE n ((cs.length-o) / sz) lo hi ab with
       | some (l,h,_)=>if n≤(cs.length-o) / sz∧l<h then aa (.c (.sl b (o+l*sz) (h-l) 0 d s))else ab| none=>ab
    | .nil=>match bE 0 0 lo hi mx with
     | some _=>aa (.c (.f .aA))| none=>ab
    | .es=>match bE 0 0 lo hi mx with
     | some _=>aa (.c (.f .es))| none=>ab
   else ab
  | _=>ab
 | _=>ab
def wJ(x:V)(lo hi:Option V):Option V:=
 match x with
 | .c (.f (.str s))=>match bE s.size s.size lo hi ab with
  | some (l,h,_)=>aa (.c (.f (.str (s.extract l h))))| none=>ab
 | _=>ab
def mC(H:an)(n sz:Nat)(x:V)(lo hi mx:Option V):Option V:=
 match x with
 | .c (.ptr b d _)=>match H[b]? with
  | some (.box cs _)=>match bE n n lo hi mx with
   | some (l,h,m)=>if d+n*sz≤cs.length then(if m=l then aa (.c (.f .es))else aa (.c (.sl b (d+l*sz) (h-l) (m-l) 0 sz)))else ab| none=>ab
  | _=>ab
 | .c (.f (.fp cs d))=>match bE n n lo hi mx with
   | some (l,h,m)=>if d+n*sz≤cs.length then(if m=l then aa (.c (.f .es))else aa (.c (.f (.fs ((cs.drop (d+l*sz)).take ((h-l)*sz)) (h-l)))))else ab| none=>ab
 | _=>ab
def bz(H:an)(sz:Nat)(g:Option Nat)(x i:V):Option V:=
 match fS i with
 | none=>ab
 | some i=>
  if 0≤i then
   match g,x with
   | none,.c (.sl b o l _ d s)=>if i<l then
     (match H[b]? with
      | some (.box _ _)=>aa (.c (.ptr b (o+i.toNat*sz) d))| some (.cE j _ _ e .loc)=>if d=e∧s=j then aa (.c (.ptr b (o+i.toNat*sz) d))else ab
      | _=>ab)else ab
   | none,.c (.f (.fs cs l))=>if i<l then aa (.c (.f (.fp cs (i.toNat*sz))))else ab| some n,.c (.ptr b o d)=>if i<n then aa (.c (.ptr b (o+i.toNat*sz) d))else ab| some n,.c (.f (.fp cs o))=>if i<n then aa (.c (.f (.fp cs (o+i.toNat*sz))))else ab| _,_=>ab
  else ab
def mT(d:Nat):V→Option V
 | .c (.ptr b o g)=>aa (.c (.ptr b (o+d) g))| .c (.f (.fp cs o))=>aa (.c (.f (.fp cs (o+d))))| _=>ab
def rS(b:Nat)(n:Option Nat):V→Option V
 | .a xs=>aW n (xs.drop b)| _=>ab
def BN(x i:V):Option V:=
 match x,fS i with
 | .c (.f (.str s)),aa i=>if 0≤i then(s[i.toNat]?).map fun b=>.int .u8 b.toNat else ab
 | _,_=>ab
def BM(len sz:Nat)(n:Option Nat)(x i:V):Option V:=
 match x,fS i with
 | .a xs,aa i=>if 0≤i∧i<len then aW n (xs.drop (i.toNat*sz))else ab| _,_=>ab
def aae(H:an):V→Option (V × an)
 | .c (.it b)=>match H[b]? with
  | some (.it s pos)=>
   if pos<s.size then
    let r:=Utf8.decode s pos
    aa (.t [.bool ae,.int .i64 pos,.int .i32 r.1],H.set b (.it s (pos+r.2)))
   else aa (.t [.bool ag],H)
  | _=>ab
 | _=>ab
def cO(need bytes:Nat):Bool:=decide ((2*need+768)*bytes≤2 ^ 48)&&decide (need<2 ^ 48)
def de(H:an)(sz:Nat):V→Option (Nat × List C)
 | .c (.f (.str s))=>if sz=1 then aa (s.size,s.toList.map fun b=>.f (.int .u8 b.toNat))else ab
 | .c x=>match bg H x,cH H sz x with
  | some l,aa cs=>aa (l,cs)| _,_=>ab
 | _=>ab
def bD(H:an)(sz bytes:Nat)(x y:V):Option (V × an):=
 match de H sz y with
 | none=>ab
 | some (m,ys)=>
  if sz=0 then ab else
  match x with
  | .c (.f .aA)=>if m=0 then aa (.c (.f .aA),H)else
    if cO m bytes then aa (.c (.sl H.length 0 m 0 0 sz),H++[.cE sz ys 0 0 .loc])else ab
  | .c (.f .es)=>if m=0 then aa (.c (.f .es),H)else
    if cO m bytes then aa (.c (.sl H.length 0 m 0 0 sz),H++[.cE sz ys 0 0 .loc])else ab
  | .c (.sl b o l cap d s)=>match H[b]? with
   | some (.box cs fl)=>
    if l+m≤cap then
     if fl≤o+l*sz∧o+l*sz+ys.length≤cs.length then aa (.c (.sl b o (l+m) cap d s),H.set b (.box (over cs (o+l*sz) ys) fl))else ab
    else if cO (l+m) bytes∧o+l*sz≤cs.length then aa (.c (.sl H.length 0 (l+m) 0 0 sz),H++[.cE sz ((cs.drop o).take (l*sz)++ys) 0 0 .loc])else ab
   | some (.cE g cs fl e st)=>
    if d=e∧g=sz∧s=sz then
     if m=0 then aa (x,H)
     else if o=0∧l*sz=cs.length∧fl≤cs.length then
      if cO (l+m) bytes then aa (.c (.sl b 0 (l+m) 0 (d+1) sz),H.set b (.cE sz (cs++ys) fl (e+1) .loc))else ab
     else if st=.loc∧fl≤o+l*sz∧o+l*sz+ys.length≤cs.length then
      aa (.c (.sl b o (l+m) 0 d sz),H.set b (.cE sz (over cs (o+l*sz) ys) fl e .loc))
     else ab
    else ab
   | _=>ab
  | _=>ab
def copyV(H:an)(sz:Nat)(x y:V):Option (V × an):=
 match de H sz y,x with
 | some _,.c (.f .aA)=>aa (.int .i64 0,H)| some _,.c (.f .es)=>aa (.int .i64 0,H)
 | some (m,ys),.c (.sl b o l _ d g)=>
  let n:=Nat.min m l
  match H[b]? with
  | some (.box cs fl)=>if fl≤o∧o+n*sz≤cs.length then aa (.int .i64 n,H.set b (.box (over cs o (ys.take (n*sz))) fl))else ab| some (.cE s cs fl e .loc)=>if d=e∧g=s∧s=sz∧fl≤o∧o+n*sz≤cs.length then aa (.int .i64 n,H.set b (.cE s (over cs o (ys.take (n*sz))) fl e .loc))else ab| _=>ab
 | _,_=>ab
def qo(H:an):V→Option V
 | .c x=>match bg H x with
  | some _=>match cH H 1 x with
   | some cs=>(aZ (fun c=>match c with | C.f (.int .u8 n)=>aa (UInt8.ofNat n.toNat) | _=>ab) cs).map fun l=>.c (.f (.str ⟨l.toArray⟩))
   | none=>ab
  | none=>ab
 | _=>ab
def eZ(aB:T)(cs:List C):List (Nat × Nat × Arg)→Option (List C)
 | []=>aa cs
 | (b,n,x)::rest=>match (x.ev aB).cells? with
  | some xs=>if xs.length=n∧b+xs.length≤cs.length then eZ aB (over cs b xs) rest else ab| none=>ab
def dm(aB:T)(xs:List Arg):List V:=xs.map (·.ev aB)
def tA:V→Option C
 | .c (.cl _ _)=>ab| .c (.bm _ _)=>ab| .c x=>aa x| _=>ab
def cB{α:Type}(n:Nat)(xs:List α):List α:=(List.replicate n xs).flatten
def eqK:CK→FC→FC→Option Bool
 | .int,.int k a,.int k' b=>if k=k' then aa (a == b)else ab| .str,.str a,.str b=>aa (a == b)| .bool,.bool a,.bool b=>aa (a == b)| _,_,_=>ab
def nN(b:CK)(k:FC):List (FC × C)→Option (Option C)
 | []=>aa ab
 | e::d=>match eqK b k e.1 with
  | some ae=>aa (aa e.2)| some ag=>nN b k d| none=>ab
def qD(b:CK)(k:FC)(v:C):List (FC × C)→Option (List (FC × C))
 | []=>aa [(k,v)]
 | e::d=>match eqK b k e.1 with
  | some ae=>aa ((k,v)::d)| some ag=>(qD b k v d).map (e::·)| none=>ab
def isKey:CK→FC→Bool
 | .int,.int _ _=>ae| .str,.str _=>ae| .bool,.bool _=>ae| _,_=>ag
def pN:FC→Option FC
 | .fp [z] 77=>aa z| _=>ab
def lkR(z:FC)(r:Option C):V:=match pN z with
 | some b=>.t [(r.map mV).getD (zV b),.c (.f (.bool r.isSome))]| none=>(r.map mV).getD (zV z)
def gQ(H:an)(d:CK)(z:FC):V→V→Option V
 | .c (.f .oV),.c (.f k)=>if isKey d k then aa (lkR z ab)else ab
 | .c (.mp b),.c (.f k)=>match H[b]? with
  | some (.map g)=>if isKey d k then(nN d k g).map (lkR z)else ab| _=>ab
 | _,_=>ab
def kh(H:an):C→Option Nat
 | .sl b _ _ c d sz=>match H[b]? with
  | some (.box _ _)=>aa c| some (.cE s _ _ e .nil)=>if d=e∧sz=s then aa 0 else ab| some (.cE s _ _ e .es)=>if d=e∧sz=s then aa 0 else ab| _=>ab
 | .f .aA=>aa 0| .f .es=>aa 0| _=>ab
def uT(lo:Bool)(x y:V):Option V:=
 match x,y with
 | .c (.f (.int k a)),.c (.f (.int _ b))=>aa (.int k (if lo then(if b<a then b else a)else(if b>a then b else a)))| _,_=>ab
def qB(lo:Bool):V→List V→Option V
 | x,[]=>aa x
 | x,y::ys=>match uT lo x y with
  | some z=>qB lo z ys| none=>ab
def wj(lo:Bool):List V→Option V
 | []=>ab| x::xs=>qB lo x xs
def jf(H:an)(sz:Nat)(zs:List FC)(x:V):Option an:=
 match x with
 | .c y=>match bg H y with
  | some 0=>aa H
  | some l=>
   if zs.length=sz then
    match y with
    | .sl b o _ _ d s=>match H[b]? with
     | some (.box _ _)=>di H (.ptr b o d) ((cB l zs).map .f)| some (.cE g _ _ e .loc)=>if d=e∧s=g then di H (.ptr b o d) ((cB l zs).map .f)else ab| _=>ab
    | _=>ab
   else ab
  | none=>ab
 | _=>ab
def xU(H:an)(sz bytes:Nat)(zs:List FC)(x n:V):Option (V × an):=
 match fS n with
 | some n=>
  if 0≤n∧zs.length=sz then
   match x with
   | .c (.f .aA)=>if n.toNat=0 then aa (.c (.f .aA),H)else
     if cO n.toNat bytes then aa (.c (.sl H.length 0 n.toNat 0 0 sz),H++[.cE sz ((cB n.toNat zs).map .f) 0 0 .loc])else ab
   | .c (.f .es)=>if n.toNat=0 then aa (.c (.f .es),H)else
     if cO n.toNat bytes then aa (.c (.sl H.length 0 n.toNat 0 0 sz),H++[.cE sz ((cB n.toNat zs).map .f) 0 0 .loc])else ab
   | _=>ab
  else ab
 | none=>ab
def fcC:C→Option FC
 | .f x=>aa x| _=>ab
def vp(H:an)(sz:Nat)(x hi mx:V):Option (V × an):=
 match bG H sz x ab (aa hi) (aa mx)with
 | some v=>aa (v,H)
 | none=>match x with
  | .c (.sl b o n _ g s)=>match H[b]? with
   | some (.cE d cs fl e .loc)=>
    if g=e∧s=sz∧d=sz∧o=0 then
     match wR hi n,wR mx n with
     | some i,aa j=>
      if i=j∧0<i∧i*sz≤cs.length then
       match aZ fcC (cs.take (i*sz))with
       | some ys=>aa (.c (.f (.fs ys i)),H.set b (.cE d cs (Nat.max fl (i*sz)) e .loc))| none=>ab
      else ab
     | _,_=>ab
    else ab
   | _=>ab
  | _=>ab
def Sj(H:an):V→Option (V × an)
 | .c (.mi b)=>match H[b]? with
  | some (.yU m d done)=>match H[m]? with
   | some (.map [])=>if done then ab else aa (.t [.bool ag],H)| some (.map [e])=>if done then aa (.t [.bool ag],H)else if d=1 then aa (.t [.bool ae,.c (.f e.1),mV e.2],H.set b (.yU m 1 ae))else ab| _=>ab
  | _=>ab
 | _=>ab
def nL(H:an):V→Option V
 | .c (.mi b)=>match H[b]? with
  | some (.yU m _ ae)=>match H[m]? with
   | some (.map [e])=>aa (.t [.c (.f e.1),mV e.2])| _=>ab
  | _=>ab
 | _=>ab
def Cc(H:an):V→Option (V × an)
 | .c (.mp b)=>match H[b]? with
  | some (.map d)=>if d.length≤1 then aa (.c (.mi H.length),H++[.yU b d.length ag])else ab| _=>ab
 | _=>ab
def fcL:List C→Option (List FC)
 | []=>aa []| .f x::xs=>(fcL xs).map (x::·)| _::_=>ab
def bC(aB:T)(H:an):cY→Option (V × an)
 | .cU x=>aa (x.ev aB,H)| .pre o sz=>if o=.loc∨sz=0 then ab else aa (.c (.sl H.length 0 0 0 0 sz),H++[.cE sz [] 0 0 o])
 | .pick c a b=>match c.ev aB with
  | .c (.f (.bool v))=>aa ((if v then a else b).ev aB,H)| _=>ab
 | .alloc zs=>aa (.c (.ptr H.length 0 0),H++[.box (zs.map .f) 0])
 | .box x=>match (x.ev aB).cells? with
  | some xs=>aa (.c (.ptr H.length 0 0),H++[.box xs 0])| none=>ab
 | .build zs ps=>(eZ aB (zs.map .f) ps).map fun cs=>(.a cs,H)
 | .bQ sz zs n ps=>
  if n=0 then(if ps.isEmpty then aa (.c (.f .es),H)else ab)else
  (eZ aB ((cB n zs).map .f) (ps.map fun p=>(p.1*sz,sz,p.2))).map fun cs=>(.c (.sl H.length 0 n n 0 sz),H++[.box cs 0])
 | .load n x=>(aU H n (x.ev aB)).map (·,H)
 | .store n x y=>match x.ev aB,(y.ev aB).cells? with
  | .c p,aa xs=>if xs.length=n then(di H p xs).map (.top,·)else ab| _,_=>ab
 | .dE x=>match x.ev aB with
  | .c (.ptr b o e)=>aa (.c (.ptr b o e),H)| .c (.f (.fp cs o))=>aa (.c (.f (.fp cs o)),H)| _=>ab
 | .bin op x y=>(bM op (x.ev aB) (y.ev aB)).map (·,H)| .eq neg k x y=>(BF H k (x.ev aB) (y.ev aB)).map fun b=>(.bool (if neg then !b else b),H)
 | .un op x=>(unV op (x.ev aB)).map (·,H)
 | .jm k x=>match x.ev aB with
  | .c (.f (.int _ n))=>aa (.int k (k.wrap n),H)| _=>ab
 | .z6 x=>match x.ev aB with
  | .c (.f (.str s))=>aa (.c (.f (.str s)),H)| _=>ab
 | .yv x=>(qo H (x.ev aB)).map (·,H)
 | .XK x=>match x.ev aB with
  | .c (.f (.str s))=>if s.size<2 ^ 48 then aa (.c (.sl H.length 0 s.size 0 0 1),H++[.cE 1 (s.toList.map fun b=>.f (.int .u8 b.toNat)) 0 0 .loc])else ab
  | _=>ab
 | .iQ f g=>(aZ tA (dm aB g)).map fun xs=>(.c (.cl f xs),H)
 | .jX=>aa (.c (.mp H.length),H++[.map []])| .lookup j z m k=>(gQ H j z (m.ev aB) (k.ev aB)).map (·,H)
 | .lN j m k v=>match m.ev aB,k.ev aB,qn (v.ev aB)with
  | .c (.mp b),.c (.f k),aa v=>match H[b]? with
   | some (.map u)=>if isKey j k then(qD j k v u).map fun u=>(.top,H.set b (.map u))else ab
   | _=>ab
  | _,_,_=>ab
 | .dD sz bytes zs l c=>match fS (l.ev aB),fS (c.ev aB)with
  | some l,aa c=>
   if 0≤l∧l≤c∧cO c.toNat bytes=ae∧zs.length=sz then
    (if c=0 then aa (.c (.f .es),H)else
    aa (.c (.sl H.length 0 l.toNat c.toNat 0 sz),H++[.box ((cB c.toNat zs).map .f) 0]))
   else ab
  | _,_=>ab
 | .slice sz x lo hi mx=>(bG H sz (x.ev aB) (lo.map (·.ev aB)) (hi.map (·.ev aB)) (mx.map (·.ev aB))).map (·,H)| .pj n sz x lo hi mx=>(mC H n sz (x.ev aB) (lo.map (·.ev aB)) (hi.map (·.ev aB)) (mx.map (·.ev aB))).map (·,H)| .qH x lo hi=>(wJ (x.ev aB) (lo.map (·.ev aB)) (hi.map (·.ev aB))).map (·,H)| .bB d x=>(mT d (x.ev aB)).map (·,H)| .field d n x=>(rS d n (x.ev aB)).map (·,H)| .bI sz q x i=>(bz H sz q (x.ev aB) (i.ev aB)).map (·,H)| .idxs x i=>(BN (x.ev aB) (i.ev aB)).map (·,H)| .yF len sz n x i=>(BM len sz n (x.ev aB) (i.ev aB)).map (·,H)
 | .range x=>match x.ev aB with
  | .c (.f (.str s))=>aa (.c (.it H.length),H++[.it s 0])| _=>ab
 | .next x=>aae H (x.ev aB)
 | .extract x i=>match x.ev aB with
  | .t B=>(B[i]?).map (·,H)| _=>ab
 | .oL n=>aa (.int .i64 n,H)
 | .lens x=>match x.ev aB with
  | .c (.f (.str s))=>aa (.int .i64 (s.size:Nat),H)| _=>ab
 | .len x=>match x.ev aB with
  | .c y=>match bg H y with
   | some n=>aa (.int .i64 (n:Nat),H)| none=>ab
  | _=>ab
 | .append sz bytes x y=>bD H sz bytes (x.ev aB) (y.ev aB)| .copy sz x y=>copyV H sz (x.ev aB) (y.ev aB)| .fT lo xs=>(wj lo (dm aB xs)).map (·,H)| .clear sz zs x=>(jf H sz zs (x.ev aB)).map (.t [],·)| .lU sz bytes zs x n=>xU H sz bytes zs (x.ev aB) (n.ev aB)| .mz x=>Cc H (x.ev aB)| .qE x=>Sj H (x.ev aB)| .entry x=>(nL H (x.ev aB)).map (·,H)| .ji sz zs n ps=>((eZ aB ((cB n zs).map .f) (ps.map fun p=>(p.1*sz,sz,p.2))).bind fun cs=>if n=0 then ab else fcL cs).map fun A=>(.c (.f (.fs A n)),H)
 | .qP sz x hi mx=>vp H sz (x.ev aB) (hi.ev aB) (mx.ev aB)| .yW f xs=>(aZ tA (dm aB xs)).map fun xs=>(.c (.bm f xs),H)
 | .cap x=>match x.ev aB with
  | .c y=>match kh H y with
   | some n=>aa (.int .i64 (n:Nat),H)| none=>ab
  | _=>ab
 | _=>ab
inductive Callee where
 | fn (f:Nat)
 | yield (b:Nat)
abbrev dj:=Callee→List V→an→Option (V × an)
def deep:Nat:=64
def eG(call:dj)(c:Nat)(args:List V)(H:an):Option (V × an):=
 match aZ (dI deep H) args with
 | none=>ab
 | some b=>match call (.fn c) b []with
  | none=>ab
  | some (r,H')=>match mR deep H' r with
   | none=>ab| some r'=>aa (r',args.foldl (YH deep) H)
def bS:V→List V→Option (Callee × List V)
 | .c (.f (.fn f d)),args=>aa (.fn f,args++d.map fun x=>.c (.f x))
 | .c (.cl f d),args=>aa (.fn f,args++d.map .c)| .c (.yl b),args=>aa (.yield b,args)| .c (.bm f first),args=>aa (.fn f,first.map .c++args)
 | _,_=>ab
def gi(call:dj)(h:Bool)(c:Nat)(args:List V)(H:an):Option (V × an):=
 if h then call (.fn c) args H else eG call c args H
structure St where
 aB:T
 defs:List eU
 heap:an
def hZ(aB:T)(d:Option P)(v:V):T:=
 match d with
 | some d=>aB.set d v| none=>aB
def eu(call:dj)(s:St)(op:cY):Option (V × St):=
 match op with
 | .call f args h=>(gi call h f (dm s.aB args) s.heap).map fun r=>(r.1,{ s with heap:=r.2 })
 | .bT x args _=>match bS (x.ev s.aB) (dm s.aB args)with
  | some (c,args)=>(call c args s.heap).map fun r=>(r.1,{ s with heap:=r.2 })
  | none=>ab
 | .recover=>aa (.c (.f .nP),s)
 | .defer x args=>match bS (x.ev s.aB) (dm s.aB args)with
  | some (.fn f,args)=>aa (.top,{ s with defs:=.fn f args::s.defs })
  | _=>ab
 | op=>(bC s.aB s.heap op).map fun r=>(r.1,{ s with heap:=r.2 })
def nE{α:Type}(f:α→α→Bool):List α→List α→Bool
 | [],[]=>ae| x::xs,y::ys=>f x y&&nE f xs ys| _,_=>ag
def FC.beq:Nat→FC→FC→Bool
 | _,.bool a,.bool b=>a == b| _,.int j a,.int k b=>decide (j=k)&&a == b| _,.str a,.str b=>decide (a=b)| _,.sH,.sH | _,.aA,.aA | _,.es,.es | _,.jY,.jY | _,.nP,.nP | _,.oV,.oV=>ae| n+1,.fp xs o,.fp ys o'=>o == o'&&nE (FC.beq n) xs ys| n+1,.fs xs l,.fs ys d=>l == d&&nE (FC.beq n) xs ys| n+1,.fn f xs,.fn g ys=>f == g&&nE (FC.beq n) xs ys| _,_,_=>ag
def C.beq:C→C→Bool
 | .f a,.f b=>FC.beq 64 a b| .ptr a b c,.ptr a' j l=>a == a'&&b == j&&c == l| .sl a b c d e g,.sl a' j l d' m g'=>a == a'&&b == j&&c == l&&d == d'&&e == m&&g == g'| .mp a,.mp b=>a == b| _,_=>ag
def V.beq:V→V→Bool
 | .c x,.c y=>x.beq y| .a xs,.a ys=>xs.length == ys.length&&(xs.zip ys).all fun p=>p.1.beq p.2
 | _,_=>ag
def wanted(aB:T):Option (P × Bool)→Option Bool
 | none=>aa ae
 | some (r,w)=>match aB.get r with
  | .c (.f (.bool b))=>aa (b == w)| .t []=>aa ag| _=>ab
def eT(call:dj)(s:St)(o:aO):Option St:=
 match wanted s.aB o.g with
 | some ae=>match eu call s o.op with
  | some (v,b)=>aa { b with aB:=hZ b.aB o.dst v }
  | none=>ab
 | some ag=>aa { s with aB:=hZ s.aB o.dst (.t []) }
 | none=>ab
def ff(call:dj):List aO→St→Option St
 | [],s=>aa s
 | o::os,s=>match eT call s o with
  | some b=>ff call os b| none=>ab
def ec(call:dj):List aO→St→Option (List St)
 | [],s=>aa [s]
 | o::os,s=>match eT call s o with
  | some b=>match ec call os b with
   | some ss=>aa (s::ss)| none=>ab
  | none=>ab
def sameAt(ops:List aO)(ss:List St)(c:Nat × Nat):Bool:=
 match ops[c.1]?,ss[c.1]?,ss[c.2]? with
 | some o,aa s,aa b=>match wanted s.aB o.g with
  | some ag=>ae
  | _=>match bC s.aB s.heap o.op,bC s.aB b.heap o.op with
   | some (v,_),aa (d,_)=>v.beq d| _,_=>ag
 | _,_,_=>ag
def gn(call:dj)(ops:List aO)(b:List (Nat × Nat))(s:St):Option St:=
 match b with
 | []=>ff call ops s
 | _=>match ec call ops s with
  | some ss=>if b.all (sameAt ops ss)then ss.getLast? else ab| none=>ab
def cY.eC:cY→Bool
 | .defer _ _ | .recover=>ag| _=>ae
inductive cD where
 | code (c:av)
 | inBlock (id:Nat)
 | inLoop (c:av)
 | iO (b:Nat)
 | ny
 | inScope (a:av)
def exitTo(id:Nat):List cD→Option (List cD)
 | []=>ab| .inBlock b::k=>if b == id then aa k else exitTo id k| _::k=>exitTo id k
def findLabel:av→Nat→Option av
 | .seq a b,l=>match findLabel a l with
  | some rest=>aa (.seq rest b)| none=>findLabel b l
 | .label d,l=>if d == l then aa .skip else ab| _,_=>ab
def gotoIn(l:Nat):List cD→Option (List cD)
 | []=>ab
 | .inScope body::k=>match findLabel body l with
  | some rest=>aa (.code rest::.inScope body::k)| none=>gotoIn l k
 | _::k=>gotoIn l k
def C.eQ(n:Nat):C→Bool
 | .f _=>ae| .ptr b _ _=>decide (b<n)| .sl b _ _ _ _ _=>decide (b<n)| .cl _ _=>ag| .yl b=>decide (b<n)| .mp b=>decide (b<n)| .it b=>decide (b<n)| .mi b=>decide (b<n)| .bm _ _=>ag
def C.under(n:Nat):C→Bool
 | .cl _ d=>d.all (·.eQ n)| .f _=>ae| .ptr b _ _=>decide (b<n)| .sl b _ _ _ _ _=>decide (b<n)| .yl b=>decide (b<n)| .mp b=>decide (b<n)| .it b=>decide (b<n)| .mi b=>decide (b<n)| .bm _ first=>first.all (·.eQ n)
def run(call:dj)(fn:Nat):Nat→Option Nat→List cD→St→Option (Option av × St)
 | 0,_,_,_=>ab
 | m+1,j,q,s=>
  match q with
  | []=>aa (ab,s)| .inBlock _::k=>run call fn m j k s| .inLoop c::k=>run call fn m j (.code c::.inLoop c::k) s
  | .iO b::k=>match s.heap[b]? with
   | some (.lp f tmps ps as bd st pending d)=>
    if st=.busy then ab else
    let s:={ s with heap:=s.heap.set b (.lp f tmps ps as bd .exhausted pending d) }
    match pending with
    | none=>run call fn m j k s| some .ret=>run call fn m j (.code .ret::k) s| some (.exit id)=>run call fn m j (.code (.exit id)::k) s| some _=>ab
   | _=>ab
  | .ny::k=>match j with
   | none=>ab
   | some b=>match s.heap[b]? with
    | some (.lp f tmps ps as bd .ready pending d)=>run call fn m j k { s with heap:=s.heap.set b (.lp f tmps ps as bd .busy pending d) }
    | _=>ab
  | .code .skip::k=>run call fn m j k s| .inScope _::k=>run call fn m j k s| .code (.label _)::k=>run call fn m j k s| .code (.scope a)::k=>run call fn m j (.code a::.inScope a::k) s
  | .code (.goto l)::k=>match gotoIn l k with
   | some k=>run call fn m j k s| none=>ab
  | .code .bad::_=>ab| .code .ret::_=>aa (aa .ret,s)
  | .code (.exit id)::k=>match exitTo id k with
   | some k=>run call fn m j k s| none=>if j.isSome then aa (aa (.exit id),s)else ab
  | .code (.seq a b)::k=>run call fn m j (.code a::.code b::k) s| .code (.block id a)::k=>run call fn m j (.code a::.inBlock id::k) s| .code (.loop a)::k=>run call fn m j (.code a::.inLoop a::k) s
  | .code (.cond c a b)::k=>match c.ev s.aB with
   | .c (.f (.bool v))=>run call fn m j (.code (if v then a else b)::k) s| _=>ab
  | .code (.region ops u)::k=>
   if j.isSome&&!ops.all (·.op.eC)then ab else
   match gn call ops u s with
   | some s=>run call fn m j k s| none=>ab
  | .code (.gj f ps as bd)::k=>
   if j.isSome then ab else
   let d:=s.heap.length
   let H:=s.heap++[.fg ae,.lp fn s.aB ps as bd .ready ab d]
   match bS (f.ev s.aB) [.c (.yl (d+1))]with
   | some (.fn g,args)=>match call (.fn g) args H with
    | some (_,H)=>run call fn m j (.iO (d+1)::k) { aB:=s.aB,defs:=.er d::s.defs,heap:=H }| none=>ab
   | _=>ab
def vY:Nat:=1000000000
def dV(call:dj):List eU→an→Option an
 | [],H=>aa H
 | .er b::d,H=>match H[b]? with
  | some (.fg ae)=>dV call d (H.set b (.fg ag))| _=>ab
 | .fn f args::d,H=>if f=vY then ab else match call (.fn f) args H with
  | some (_,H)=>dV call d H| none=>ab
def cC(aB:T)(H:an):gA→Option V
 | .tmp t=>match aB.get t with
  | .t _=>ab| v=>aa v
 | .cell t n=>aU H n (aB.get t)
def results(aB:T)(H:an)(b:List gA):Option V:=
 match aZ (cC aB H) b with
 | some [v]=>aa v| some d=>aa (.t d)| none=>ab
def bV:List P→List V→T→T
 | p::ps,v::b,aB=>bV ps b (aB.set p v)| _,_,aB=>aB
def ew(tab:Nat→Option aK)(g:Nat→List V→an→Option (Option (V × an)))(m:Nat):Nat→dj
 | 0,_,_,_=>ab
 | d+1,.fn f,args,H=>
  match g f args H with
  | some r=>r
  | none=>match tab f with
   | none=>ab
   | some q=>if args.length=q.ps.length then match run (ew tab g m d) f m ab [.code q.body] ⟨bV q.ps args .e,[],H⟩with
    | some (_,s)=>match dV (ew tab g m d) s.defs s.heap with
     | some H=>(results s.aB H q.results).map (·,H)| none=>ab
    | none=>ab
    else ab
 | d+1,.yield b,args,H=>
  match H[b]? with
  | some (.lp f tmps ps as bd _ _ _)=>
   if args.length=ps.length then
    match run (ew tab g m d) f m (aa b) [.code as,.ny,.code bd] ⟨bV ps args tmps,[],H⟩with
    | some (j,s)=>
     if s.defs.isEmpty then
      match s.heap[b]? with
      | some (.lp x l v as' u _ _ d')=>aa (.bool j.isNone,s.heap.set b (.lp x l v as' u (if j.isNone then .ready else .done) j d'))| _=>ab
     else ab
    | none=>ab
   else ab
  | _=>ab
section
variable(Q:Program)(σ:Nat→FuncId)
def acx:Value→Bool
 | .agg _ | .tuple _=>ag| _=>ae
def abJ:Value→Bool
 | .agg _=>ae| _=>ag
def mK1:FC→Value→Bool
 | .bool a,.bool b=>a == b| .int j a,.int k b=>decide (j=k)&&decide (a=b)| .str a,.string b=>decide (a=b)| .sH,.pointer ab=>ae| .aA,.slice ab 0 0=>ae| .jY,.nilFunc=>ae| .nP,.nilIface=>ae| .oV,.map ab=>ae| _,_=>ag
def fo{α β:Type}(f:α→β→Bool):List α→List β→Bool
 | [],[]=>ae| x::xs,y::ys=>f x y&&fo f xs ys| _,_=>ag
def mK:V→Value→Bool
 | .c (.f x),v=>mK1 x v| .a xs,.agg us=>fo (fun x u=>match x with | C.f x=>mK1 x u | _=>ag) xs us.toList
 | .top,.tuple us=>us.isEmpty| _,_=>ag
def mA:Arg→Operand→Bool
 | .r p,.tmp t=>p.toNat == t| .k v,.const u=>mK v u| .k (.c (.f (.fn f []))),.func g=>σ f == g| _,_=>ag
def TE(xs:List Arg)(ys:Array Operand):Bool:=fo (mA σ) xs ys.toList
def mO:Option Arg→Option Operand→Bool
 | none,ab=>ae| some x,aa y=>mA σ x y| _,_=>ag
def dy(t:TypeId)(n:Nat):Bool:=(Q.info? t).any fun i=>i.size == n
def mF(t:TypeId)(n:Nat):Bool:=(Q.info? t).any fun i=>i.bytes == n
def km(t:TypeId)(zs:List FC):Bool:=(Q.info? t).any fun i=>match i.zero with
 | some z=>fo mK1 zs z.cells.toList| none=>ag
def th(t:TypeId)(n:Option Nat):Bool:=match Q.underlying t,n with
 | some (.struct _),aa n | some (.array _ _),aa n=>dy Q t n| some (.struct _),ab | some (.array _ _),ab=>ag| some _,ab=>ae| _,_=>ag
def gE:Nat→TypeId→Option (List CK)
 | 0,_=>ab
 | d+1,t=>match Q.underlying t with
  | some .bool=>if dy Q t 1 then aa [.bool]else ab| some (.int _)=>if dy Q t 1 then aa [.int]else ab| some .string=>if dy Q t 1 then aa [.str]else ab
  | some (.struct fs)=>if Q.stoodInHeld t then ab else match oC (gE d) 0 fs.toList with
   | some ks=>if dy Q t ks.length then aa ks else ab| none=>ab
  | _=>ab
 where
 oC (rec:TypeId→Option (List CK)) (off:Nat):List Field→Option (List CK)
  | []=>aa []
  | f::fs=>if f.name≠ "_"∧f.offset=off then match rec f.type with
    | some ks=>match oC rec (off+ks.length) fs with
     | some r=>aa (ks++r)| none=>ab
    | none=>ab
   else ab
def qw:Operand→Bool
 | .const _=>ae| _=>ag
def mEq(k:II)(t:TypeId)(x y:Operand):Bool:=match Q.underlying t,k with
 | some .bool,.bool | some (.pointer _),.ptr | some (.slice _),.sl | some (.func _ _ _),.fn=>ae| some (.interface _),.ifc=>qw x||qw y| some (.struct _),.st b=>decide (gE Q 20 t=aa b)&&!Q.eqGuardType Q.depth t| _,_=>ag
def ma(t:TypeId):Option TypeId:=match Q.underlying t with
 | some (.slice e)=>aa e| _=>ab
def af1(t:TypeId):Bool:=match Q.underlying t with
 | some (.int .u8)=>ae| _=>ag
def dP(c:Call):cY→Bool
 | .len x=>match c.callee,c.args.toList,c.argTypes.toList with
  | .builtin .len,[y],[t]=>mA σ x y&&(match Q.underlying t with | some (.slice _)=>ae | _=>ag)
  | _,_,_=>ag
 | .lens x=>match c.callee,c.args.toList,c.argTypes.toList with
  | .builtin .len,[y],[t]=>mA σ x y&&(match Q.underlying t with | some .string=>ae | _=>ag)
  | _,_,_=>ag
 | .oL n=>match c.callee,c.args.toList,c.argTypes.toList with
  | .builtin .len,[_],[t]=>(match Q.underlying t with | some (.array m _)=>decide (n=m) | _=>ag)
  | _,_,_=>ag
 | .append sz bytes x y=>match c.callee,c.args.toList,c.argTypes.toList with
  | .builtin .append,[u,v],[t,b]=>mA σ x u&&mA σ y v&&(ma Q t).any (fun e=>dy Q e sz&&mF Q e bytes&&decide (0<sz)&&(Q.info? e).any (fun i=>i.zero.any fun z=>decide (z.cells.size=sz)))
    && (match Q.underlying b with | some .string=>ae | some (.slice _)=>ae | _=>ag)
  | _,_,_=>ag
 | .lU sz bytes zs x y=>match c.callee,c.args.toList,c.argTypes.toList with
  | .builtin .append,[u,v],[t,b]=>mA σ x u&&mA σ y v&&(ma Q t).any (fun e=>dy Q e sz&&mF Q e bytes&&decide (0<sz)&&km Q e zs)
    && (match Q.underlying b with | some (.int _)=>ae | _=>ag)
  | _,_,_=>ag
 | .copy sz x y=>match c.callee,c.args.toList,c.argTypes.toList with
  | .builtin .copy,[u,v],[t,_]=>mA σ x u&&mA σ y v&&(ma Q t).any (fun e=>dy Q e sz)
  | _,_,_=>ag
 | .fT lo xs=>match c.callee,lo with
  | .builtin .max,ag | .builtin .min,ae=>TE σ xs c.args| _,_=>ag
 | .cap x=>match c.callee,c.args.toList,c.argTypes.toList with
  | .builtin .cap,[y],[t]=>mA σ x y&&(match Q.underlying t with | some (.slice _)=>ae | _=>ag)
  | _,_,_=>ag
 | .clear sz zs x=>match c.callee,c.args.toList,c.argTypes.toList with
  | .builtin .clear,[y],[t]=>mA σ x y&&(ma Q t).any (fun e=>dy Q e sz&&km Q e zs)
  | _,_,_=>ag
 | .recover=>match c.callee with
  | .builtin .recover=>ae| _=>ag
 | .call f xs _=>match c.callee with
  | .value (.func g)=>σ f == g&&TE σ xs c.args| _=>ag
 | .bT x xs _=>match c.callee with
  | .value y=>mA σ x y&&TE σ xs c.args| _=>ag
 | _=>ag
def HW(b:CK)(t:TypeId):Bool:=match Q.underlying t,b with
 | some (.int _),.int | some .string,.str | some .bool,.bool=>ae| _,_=>ag
def R7(t:TypeId)(qs:List (Nat × Nat × Arg))(ps:List (Nat × Operand)):Bool:=match Q.underlying t with
 | some (.struct b)=>match b.toList.mapM (fun f=>(Q.info? f.type).map fun i=>(f.offset,i.size))with
  | some pl=>fo (fun(q:Nat × Nat × Arg) (p:Nat × Operand)=>decide (pl[p.1]?=aa (q.1,q.2.1))&&mA σ q.2.2 p.2) qs ps
  | none=>ag
 | some (.array _ e)=>match Q.info? e with
  | some i=>fo (fun(q:Nat × Nat × Arg) (p:Nat × Operand)=>i.size == q.2.1&&q.1 == p.1*q.2.1&&mA σ q.2.2 p.2) qs ps
  | none=>ag
 | _=>ag
def dN(o:Oper)(a:cY):Bool:=match a with
 | .bad=>ae| .cU y=>(match o.op with | .move x | .assign x=>mA σ y x | _=>ag)
 | .pre .nil sz=>(match o.op with | .move (.const (.slice ab 0 0)) | .assign (.const (.slice ab 0 0))=>decide (0<sz) | _=>ag)
 | .pick M A J=>(match o.op with | .pick c x y=>mA σ M c&&mA σ A x&&mA σ J y | _=>ag)
 | .alloc zs=>(match o.op with | .alloc t=>km Q t zs | _=>ag)
 | .box y=>(match o.op with | .box _ x=>mA σ y x | _=>ag)
 | .build zs qs=>(match o.op with | .build t ps=>km Q t zs&&R7 Q σ t qs ps.toList | _=>ag)
 | .bQ sz zs F qs=>(match o.op with | .buildSlice t n ps=>n == F&&decide (n*sz≤2 ^ 24)&&(ma Q t).any (fun e=>dy Q e sz&&km Q e zs&&decide (zs.length=sz))&&decide (0<sz)&&fo (fun(q:Nat × Arg) (p:Nat × Operand)=>q.1 == p.1&&mA σ q.2 p.2) qs ps.toList | _=>ag)
 | .ji sz zs F qs=>(match o.op with | .buildSlice t n ps=>n == F&&decide (n*sz≤2 ^ 24)&&(ma Q t).any (fun e=>dy Q e sz&&km Q e zs&&decide (zs.length=sz))&&decide (0<sz)&&fo (fun(q:Nat × Arg) (p:Nat × Operand)=>q.1 == p.1&&mA σ q.2 p.2) qs ps.toList | _=>ag)
 | .load n y=>(match o.op with | .load t x=>th Q t n&&mA σ y x | _=>ag)
 | .store n A J=>(match o.op with | .store t x y=>dy Q t n&&mA σ A x&&mA σ J y | _=>ag)
 | .dE y=>(match o.op with | .nilCheck x=>mA σ y x | _=>ag)
 | .bin I A J=>(match o.op with | .binOp op t x y _=>decide (op=I)&&mA σ A x&&mA σ J y | _=>ag)
 | .eq neg k A J=>(match o.op with | .binOp op t x y _=>decide (op=if neg then .neq else .eql)&&mA σ A x&&mA σ J y&&mEq Q k t x y | _=>ag)
 | .un I y=>(match o.op with | .unOp op _ x=>decide (op=I)&&mA σ y x | _=>ag)
 | .jm k y=>(match o.op with | .convert s d x=>mA σ y x&&(Q.underlying s).isSome&&(match Q.underlying d with | some (.int k')=>decide (k=k') | _=>ag) | _=>ag)
 | .z6 y=>(match o.op with | .convert s d x=>mA σ y x&&(match Q.underlying s,Q.underlying d with | some .string,aa .string=>ae | _,_=>ag) | _=>ag)
 | .yv y=>(match o.op with | .convert s d x=>mA σ y x&&(match Q.underlying s,Q.underlying d with | some (.slice e),aa .string=>af1 Q e&&dy Q e 1 | _,_=>ag) | _=>ag)
 | .iQ g ys=>(match o.op with | .makeFunc (.func f) fst B=>fst.isEmpty&&σ g == f&&TE σ ys B | _=>ag)
 | .jX=>(match o.op with | .makeMap _ ab=>ae | _=>ag)
 | .dD sz bytes zs U M=>(match o.op with | .makeSlice t l c=>mA σ U l&&mA σ M c&&(ma Q t).any (fun e=>dy Q e sz&&mF Q e bytes&&km Q e zs)&&decide (0<sz) | _=>ag)
 | .slice sz y E b mx'=>(match o.op with | .slice t x lo hi mx=>mA σ y x&&mO σ E lo&&mO σ b hi&&mO σ mx' mx&&(ma Q t).any (fun e=>dy Q e sz)&&decide (0<sz) | _=>ag)
 | .qP sz y b mx'=>(match o.op with | .slice t x ab (aa hi) (aa mx)=>mA σ y x&&mA σ b hi&&mA σ mx' mx&&(ma Q t).any (fun e=>dy Q e sz)&&decide (0<sz) | _=>ag)
 | .qH y E b=>(match o.op with | .slice t x lo hi ab=>mA σ y x&&mO σ E lo&&mO σ b hi&&(match Q.underlying t with | some .string=>ae | _=>ag) | _=>ag)
 | .pj n sz y E b mx'=>(match o.op with | .slice t x lo hi mx=>mA σ y x&&mO σ E lo&&mO σ b hi&&mO σ mx' mx&&(match Q.underlying t with | some (.array F e)=>n == F&&dy Q e sz | _=>ag)&&decide (0<sz) | _=>ag)
 | .bB H y=>(match o.op with | .fieldAddr t x i=>mA σ y x&&(match Q.underlying t with | some (.struct O)=>(match O[i]? with | some f=>f.offset == H&&(Q.info? f.type).any (fun i=>i.size != 0) | none=>ag) | _=>ag) | _=>ag)
 | .field H n y=>(match o.op with | .field t x i=>mA σ y x&&(match Q.underlying t with | some (.struct O)=>(match O[i]? with | some f=>f.offset == H&&th Q f.type n | none=>ag) | _=>ag) | _=>ag)
 | .bI sz L A K=>(match o.op with | .indexAddr t x i=>mA σ A x&&mA σ K i&&(match Q.underlying t,L with | some (.slice e),ab=>dy Q e sz | some (.array n e),aa F=>n == F&&dy Q e sz | _,_=>ag) | _=>ag)
 | .idxs A K=>(match o.op with | .index t x i=>mA σ A x&&mA σ K i&&(match Q.underlying t with | some .string=>ae | _=>ag) | _=>ag)
 | .yF n sz k A K=>(match o.op with | .index t x i=>mA σ A x&&mA σ K i&&(match Q.underlying t with | some (.array F e)=>n == F&&dy Q e sz&&th Q e k | _=>ag) | _=>ag)
 | .lookup N z S k'=>(match o.op with | .lookup t m k ok=>mA σ S m&&mA σ k' k&&(ok ==(pN z).isSome)&&(match Q.underlying t with | some (.map kt e)=>HW Q N kt&&km Q e (qd ((pN z).getD z))&&(Q.info? e).any (fun i=>i.zero.any fun u=>if A8 ((pN z).getD z)then abJ u else acx u) | _=>ag) | _=>ag)
 | .lN N S k' W=>(match o.op with | .mapUpdate t m k v=>mA σ S m&&mA σ k' k&&mA σ W v&&(match Q.underlying t with | some (.map kt _)=>HW Q N kt | _=>ag) | _=>ag)
 | .range y=>(match o.op with | .range t x=>mA σ y x&&(match Q.underlying t with | some .string=>ae | _=>ag) | _=>ag)
 | .next y=>(match o.op with | .next x ae=>mA σ y x | _=>ag)
 | .extract y j=>(match o.op with | .extract x i=>mA σ y x&&i == j | _=>ag)
 | .defer x xs=>(match o.op with | .defer c=>(match c.callee with | .value y=>mA σ x y&&TE σ xs c.args | _=>ag) | _=>ag)
 | .len x=>(match o.op with | .call c=>dP Q σ c (.len x) | _=>ag)
 | .lens x=>(match o.op with | .call c=>dP Q σ c (.lens x) | _=>ag)
 | .oL n=>(match o.op with | .call c=>dP Q σ c (.oL n) | _=>ag)
 | .append sz bytes x y=>(match o.op with | .call c=>dP Q σ c (.append sz bytes x y) | _=>ag)
 | .fT lo xs=>(match o.op with | .call c=>dP Q σ c (.fT lo xs) | _=>ag)
 | .lU sz bytes zs x y=>(match o.op with | .call c=>dP Q σ c (.lU sz bytes zs x y) | _=>ag)
 | .cap x=>(match o.op with | .call c=>dP Q σ c (.cap x) | _=>ag)
 | .clear sz zs x=>(match o.op with | .call c=>dP Q σ c (.clear sz zs x) | _=>ag)
 | .mz y=>(match o.op with | .range t x=>mA σ y x&&(match Q.underlying t with | some (.map _ _)=>ae | _=>ag) | _=>ag)
 | .qE y=>(match o.op with | .next x ag=>mA σ y x | _=>ag)
 | .entry y=>(match o.op with | .entry x=>mA σ y x | _=>ag)
 | .yW g ys=>(match o.op with | .makeFunc (.func f) fst B=>B.isEmpty&&σ g == f&&TE σ ys fst | _=>ag)
 | .recover=>(match o.op with | .call c=>dP Q σ c (.recover) | _=>ag)
 | .call f xs h=>(match o.op with | .call c=>dP Q σ c (.call f xs h) | _=>ag)
 | .bT x xs h=>(match o.op with | .call c=>dP Q σ c (.bT x xs h) | _=>ag)
 | _=>ag
inductive Cls where | p | r | a | c | w
 deriving DecidableEq
def cls:cY→Cls
 | .cU _ | .pick .. | .build .. | .un .. | .jm .. | .z6 _ | .iQ .. | .qH .. | .bB .. | .field .. | .idxs .. | .yF .. | .extract .. | .fT .. | .yW .. | .dE _ | .bin .. | .oL _ | .lens _ | .ji ..=>.p| .load .. | .eq .. | .len _ | .slice .. | .pj .. | .bI .. | .lookup .. | .yv _ | .cap _ | .entry _=>.r| .alloc _ | .box _ | .jX=>.a| .bQ .. | .dD ..=>.a| .call _ _ ag=>.c| _=>.w
def Arg.rd:Arg→List P
 | .r p=>[p]| .k _=>[]
def oRd:Option Arg→List P
 | some x=>x.rd| none=>[]
def cY.rd:cY→List P
 | .cU x | .box x | .load _ x | .dE x | .un _ x | .jm _ x | .z6 x | .yv x | .XK x | .bB _ x | .field _ _ x | .range x | .next x | .extract x _ | .len x | .lens x | .cap x | .clear _ _ x | .mz x | .qE x | .entry x=>x.rd| .pre _ _ | .alloc _ | .jX | .recover | .oL _ | .bad=>[]| .pick c a b=>c.rd++a.rd++b.rd| .build _ ps=>ps.flatMap fun p=>p.2.2.rd
 | .bQ _ _ _ ps | .ji _ _ _ ps=>ps.flatMap fun p=>p.2.rd
 | .store _ x y | .bin _ x y | .eq _ _ x y | .bI _ _ x y | .idxs x y | .yF _ _ _ x y | .append _ _ x y | .copy _ x y | .lU _ _ _ x y | .lookup _ _ x y | .dD _ _ _ x y=>x.rd++y.rd| .lN _ x y z | .qP _ x y z=>x.rd++y.rd++z.rd| .iQ _ xs | .call _ xs _ | .fT _ xs | .yW _ xs=>xs.flatMap Arg.rd| .bT x xs _ | .defer x xs=>x.rd++xs.flatMap Arg.rd| .slice _ x a b c | .pj _ _ x a b c=>x.rd++oRd a++oRd b++oRd c| .qH x a b=>x.rd++oRd a++oRd b
def aO.rd(o:aO):List P:=(match o.g with | some (p,_)=>[p] | none=>[])++o.op.rd
def aO.apart(x y:aO):Bool:=
 (match x.dst with | some d=>!y.rd.contains d&&y.dst != aa d | none=>ae)&&(match y.dst with | some d=>!x.rd.contains d | none=>ae)
def rG(x y:aO):Bool:=
 match cls x.op,cls y.op with
 | .p,_ | _,.p=>ae| .r,.w | .w,.r=>ae| .w,_ | _,.w=>ag| _,_=>ae
def mq(b:List Nat)(o:Oper):Nat:=o.after.toList.foldl (fun s e=>if Region.binds .any e then s ||| 2 ^ e.on ||| b.getD e.on 0 else s) 0
def dx:List Oper→List Nat→List Nat
 | [],b=>b| o::os,b=>dx os (b++[mq b o])
def wQ(b:List Nat)(i j:Nat):Bool:=(b.getD j 0).testBit i
def lG(aos:List aO):List Nat:=(List.range aos.length).filter fun j=>match aos[j]? with
 | some y=>decide (cls y.op=.w)| none=>ag
def phase(aos:List aO)(i:Nat):Nat:=i+((aos.drop i).takeWhile fun y=>decide (cls y.op≠.w)).length
def yR(b:List Nat)(aos:List aO)(i e:Nat):Bool:=
 (lG aos).all fun j=>if j<e then !wQ b i j else !wQ b j i
def XQ(b:List Nat)(aos:List aO)(j:Nat):Bool:=match aos[j]? with
 | some y=>(match y.op with | .alloc _=>ae | _=>ag)&&(lG aos).any fun e=>decide (e<j)&&!wQ b e j
 | none=>ag
def jR(b:List Nat)(aos:List aO):Nat:=((List.range aos.length).find? (XQ b aos)).getD aos.length
def BD(b:List Nat)(aos:List aO)(j:Nat):Bool:=match aos[j]? with
 | some y=>y.g.isNone&&(match y.op with | .alloc _=>ae | _=>ag)&&(match y.dst with
  | some p=>(List.range aos.length).all fun i=>match aos[i]? with
   | some z=>!z.rd.contains p||(lG aos).all fun e=>!decide (e<j)||wQ b e i
   | none=>ae
  | none=>ag)
 | none=>ae
def Sr(ops:List Oper)(aos:List aO)(d:List (Nat × Nat)):Bool:=
 let b:=dx ops []
 let n:=aos.length
 ((ops.zip (List.range n)).all fun o=>o.1.after.toList.all fun e=>!Region.binds .any e||decide (e.on<o.2)) &&
 ((List.range n).all fun j=>(List.range j).all fun i=>wQ b i j||(match aos[i]?,aos[j]? with
  | some x,aa y=>x.apart y&&(rG x y||(decide (j=jR b aos)&&decide (cls x.op=.w)))
  | _,_=>ag)) &&
 BD b aos (jR b aos) &&
 ((List.range n).all fun i=>match aos[i]? with
  | some x=>if cls x.op=.r then(lG aos++[n]).all fun e=>e == phase aos i||!yR b aos i e||d.contains (i,e)else ae
  | none=>ag)
variable(Q:Program)(σ:Nat→FuncId)
def jW(n:Nat)(ops:Array Oper)(o:Oper)(a:aO):Bool:=
 dN Q σ o a.op &&
 (match o.dst,a.dst with | some d,aa p=>p.toNat == d&&decide (d<n) | none,ab=>ae | _,_=>ag) &&
 (match o.guard,a.g with
  | some (j,w),aa (p,w')=>w == w'&&(match (ops[j]?).bind (·.dst)with | some d=>p.toNat == d&&decide (d<n) | none=>ag)
  | none,ab=>ae
  | _,_=>ag)
def jd:av→Bool
 | .seq a b=>jd a&&jd b| .bad=>ag| _=>ae
def bL(n:Nat):Code→av→Bool
 | _,.bad=>ae| .skip,.skip=>ae| .region _ ops g,.region aos j=>fo (jW Q σ n ops) ops.toList aos&&(!g||Sr ops.toList aos j)| .seq a b,.seq a' d=>bL n a a'&&bL n b d| .cond c a b,.cond v a' d=>mA σ v c&&bL n a a'&&bL n b d| .block i a,.block m a'=>i == m&&bL n a a'| .loop a,.loop a'=>bL n a a'| .rangeFunc f ps a b,.gj x u a' d=>mA σ x f&&fo (fun p (q:P)=>q.toNat == p&&decide (p<n)) ps.toList u&&bL n a a'&&bL n b d
 | .exit i,.exit m=>i == m| .scope a,.scope a'=>bL n a a'&&jd a'| .label l,.label s=>l == s| .goto l,.goto s=>l == s| .ret,.ret=>ae| _,_=>ag
def tE(n:Nat):ResultVar→gA→Bool
 | .tmp t,.tmp p=>p.toNat == t&&decide (t<n)| .cell t b,.cell p k=>p.toNat == t&&decide (t<n)&&th Q b k| _,_=>ag
def uO(f:Func)(a:aK):Bool:=
 f.name != "runtime.NumGoroutine" &&
 (match f.body with | some b=>bL Q σ f.ntmps b a.body | none=>ag) &&
 fo (tE Q f.ntmps) f.results.toList a.results &&
 decide (a.ps.map P.toNat=List.range a.ps.length)
end
section
def A2{α β:Type}(R:α→β→Prop)(xs:List α)(ys:List β):Prop:=
 xs.length=ys.length∧∀(i:Nat) x y,xs[i]?=aa x→ys[i]?=aa y→R x y
section A2
variable{α β:Type}{R S:α→β→Prop}{xs xs':List α}{ys ys':List β}
theorem A2.len(h:A2 R xs ys):xs.length=ys.length:=h.1
theorem A2.nil:A2 R [] []:=⟨rfl,by simp⟩
theorem A2.mono(h:A2 R xs ys)(d:∀ x y,x ∈ xs→R x y→S x y):A2 S xs ys:=
 ⟨h.1,fun i x y b hy=>d x y (List.mem_of_getElem? b) (h.2 i x y b hy)⟩
theorem A2.get(h:A2 R xs ys){i:Nat}{x:α}(b:xs[i]?=aa x):∃ y,ys[i]?=aa y∧R x y:=by
 have hi:i<xs.length:=(IS.1 b).1;have hy:i<ys.length:=h.1▸hi;exact⟨ys[i],By hy,h.2 i x _ b (By hy)⟩
theorem A2.cons{x:α}{y:β}(g:R x y)(h:A2 R xs ys):A2 R (x::xs) (y::ys):=
 ⟨by simp [h.1],fun i a b d hb=>by
  cases i with
  | zero=>simp at d hb;subst d;subst hb;exact g
  | succ i=>simp at d hb;exact h.2 i a b d hb⟩
theorem A2.of_cons{x:α}{y:β}(h:A2 R (x::xs) (y::ys)):R x y∧A2 R xs ys:=
 ⟨h.2 0 x y rfl rfl,by simpa using h.1,fun i a b d hb=>h.2 (i+1) a b (by simpa using d) (by simpa using hb)⟩
theorem A2.append(h:A2 R xs ys)(g:A2 R xs' ys'):A2 R (xs++xs') (ys++ys'):=
 ⟨by simp [h.1,g.1],fun i a b d hb=>by
  by_cases hi:i<xs.length
  ·rw [AT hi]at d;rw [AT (h.1▸hi)]at hb;exact h.2 i a b d hb
  ·rw [aje (by omega)]at d;rw [aje (by have:=h.1;omega),←h.1]at hb;exact g.2 _ a b d hb⟩
theorem A2.take(h:A2 R xs ys)(n:Nat):A2 R (xs.take n) (ys.take n):=
 ⟨by simp [h.1],fun i a b d hb=>by
  rw [ajO]at d hb;split at d
  ·rename_i hi;simp only [hi,if_true]at hb;exact h.2 i a b d hb
  ·simp at d⟩
theorem A2.drop(h:A2 R xs ys)(n:Nat):A2 R (xs.drop n) (ys.drop n):=
 ⟨by simp [h.1],fun i a b d hb=>by
  rw [ajv]at d hb;exact h.2 _ a b d hb⟩
theorem A2.map{l:Type}{g:l→α}{zs:List l}(h:A2 (fun z y=>R (g z) y) zs ys):A2 R (zs.map g) ys:=
 ⟨by simpa using h.1,fun i a b d hb=>by
  rw [aj3]at d;cases j:zs[i]? with
  | none=>rw [j]at d;simp at d
  | some z=>rw [j]at d;simp at d;subst d;exact h.2 i z b j hb⟩
theorem A2.ko(h:A2 R xs ys)(b:∀ x y,R x y→S x y):A2 S xs ys:=h.mono fun x y _=>b x y
end A2
inductive cJ(σ:Nat→FuncId)(F:Nat→Nat→Prop)(w:World):FC→Value→Prop
 | bool (b:Bool):cJ σ F w (.bool b) (.bool b)
 | int (k:IntKind) (n:Int):cJ σ F w (.int k n) (.int k n)
 | str (s:ByteArray):cJ σ F w (.str s) (.string s)
 | sH:cJ σ F w .sH (.pointer ab)
 | aA:cJ σ F w .aA (.slice ab 0 0)
 | es (a:Addr):cJ σ F w .es (.slice (aa a) 0 0)
 | jY:cJ σ F w .jY .nilFunc
 | nP:cJ σ F w .nP .nilIface
 | oV:cJ σ F w .oV (.map ab)
 | fp (cs:List FC) (off c o:Nat) (us:List Value) (hl:us.length=cs.length) (hF:∀ i,i<cs.length→F c (o+i))
   (hc:∀(i:Nat) u,us[i]?=aa u→w.cell? ⟨c,o+i,ab⟩=aa u) (hr:∀(i:Nat) x u,cs[i]?=aa x→us[i]?=aa u→cJ σ F w x u) :
   cJ σ F w (.fp cs off) (.pointer (aa ⟨c,o+off,ab⟩))
 | fs (cs:List FC) (l c o cap:Nat) (us:List Value) (aiY:l≤cap) (hl:us.length=cs.length) (hF:∀ i,i<cs.length→F c (o+i))
   (hc:∀(i:Nat) u,us[i]?=aa u→w.cell? ⟨c,o+i,ab⟩=aa u) (hr:∀(i:Nat) x u,cs[i]?=aa x→us[i]?=aa u→cJ σ F w x u) :
   cJ σ F w (.fs cs l) (.slice (aa ⟨c,o,ab⟩) l cap)
 | fs0 (a:Addr) (cap:Nat):cJ σ F w (.fs [] 0) (.slice (aa a) 0 cap)
 | fn (f:Nat) (GZ:List FC) (us:List Value) (hl:us.length=GZ.length) (hr:∀(i:Nat) x u,GZ[i]?=aa x→us[i]?=aa u→cJ σ F w x u) :
   cJ σ F w (.fn f GZ) (.func (.func (σ f)) #[] us.toArray)
theorem cJ.mono{σ:Nat→FuncId}{F m:Nat→Nat→Prop}{w w':World}(q:∀ c i,F c i→m c i)
  (y:∀ c i,F c i→w'.cell? ⟨c,i,ab⟩=w.cell? ⟨c,i,ab⟩) {x:FC} {v:Value} (h:cJ σ F w x v):cJ σ m w' x v:=by
 induction h with
 | fp cs off c o us hl b hc s j=>
  refine .fp cs off c o us hl (fun i hi=>q _ _ (b i hi)) (fun i u hu=>?_) j;rw [y c (o+i) (b i (by rw [←hl];exact(IS.1 hu).1))];exact hc i u hu
 | fs cs l c o cap us g hl b hc s j=>
  refine .fs cs l c o cap us g hl (fun i hi=>q _ _ (b i hi)) (fun i u hu=>?_) j;rw [y c (o+i) (b i (by rw [←hl];exact(IS.1 hu).1))];exact hc i u hu
 | fn f d us hl s j=>exact .fn f d us hl j| _=>constructor
theorem cJ.one{σ:Nat→FuncId}{F:Nat→Nat→Prop}{w:World}{x:FC}{v:Value}(h:cJ σ F w x v):v.oneCell'=ae:=by
 cases h<;>rfl
structure Loc where
 c:Nat
 cap:Nat
structure Wd where
 cd:Nat→Option Loc
 F:Nat→Nat→Prop
 H:an
 w:World
 B:Nat
variable(σ:Nat→FuncId)
def fC(X:Wd):C→Value→Prop
 | .f x,v=>cJ σ X.F X.w x v
 | .ptr b j g,v=>∃ L,X.cd b=aa L∧match X.H[b]? with
  | some (.box _ _)=>v=.pointer (aa ⟨L.c,j,ab⟩)| some (.cE _ _ _ e .loc)=>g≤e∧(g=e→v=.pointer (aa ⟨L.c,j,ab⟩))∧∃ a,v=.pointer (aa a)| _=>False
 | .sl b o l cap g sz,v=>match X.H[b]? with
  | some (.box _ _)=>∃ L,X.cd b=aa L∧l≤cap∧v=.slice (aa ⟨L.c,o,ab⟩) l cap
  | some (.cE s _ _ e st)=>g≤e∧(g=e→sz=s→match st with
    | .loc=>∃ L,X.cd b=aa L∧∃ k,o=k*s∧k+l≤L.cap∧v=.slice (aa ⟨L.c,o,ab⟩) l (L.cap-k)| .nil=>o=0∧l=0∧v=.slice ab 0 0
    | .es=>o=0∧l=0∧∃ a,v=.slice (aa a) 0 0)∧∃ a n c,v=.slice a n c
  | _=>False
 | .cl _ _,_=>False| .yl b,v=>∃ L,X.cd b=aa L∧(∃ f t p a u s q d,X.H[b]?=aa (.lp f t p a u s q d))∧v=.func (.yield L.c) #[] #[]| .mp b,v=>∃ L,X.cd b=aa L∧(∃ y,X.H[b]?=aa (.map y))∧v=.map (aa L.c)| .it b,v=>∃ L,X.cd b=aa L∧(∃ s p,X.H[b]?=aa (.it s p))∧v=.pointer (aa ⟨L.c,0,ab⟩)| .mi b,v=>∃ L,X.cd b=aa L∧(∃ m s d,X.H[b]?=aa (.yU m s d))∧v=.pointer (aa ⟨L.c,0,ab⟩)| .bm _ _,_=>False
def CR(X:Wd):C→Value→Prop
 | .cl f b,v=>∃ us,v=.func (.func (σ f)) #[] us.toArray∧A2 (fC σ X) b us| .bm f first,v=>∃ us,v=.func (.func (σ f)) us.toArray #[]∧A2 (fC σ X) first us
 | x,v=>fC σ X x v
theorem fC.one{X:Wd}{x:C}{v:Value}(h:fC σ X x v):v.oneCell'=ae:=by
 cases x with
 | f x=>exact cJ.one h
 | ptr b off g=>
  obtain⟨L,_,h⟩:=h;split at h
  ·subst h;rfl
  ·obtain⟨_,_,a,rfl⟩:=h;rfl
  ·exact h.elim
 | sl b o l cap g sz=>
  simp only [fC]at h;split at h
  ·obtain⟨L,_,_,rfl⟩:=h;rfl
  ·obtain⟨_,_,a,n,c,rfl⟩:=h;rfl
  ·exact h.elim
 | cl f d=>exact h.elim| yl b=>obtain⟨L,_,_,rfl⟩:=h;rfl
 | mp b=>obtain⟨L,_,_,rfl⟩:=h;rfl
 | it b=>obtain⟨L,_,_,rfl⟩:=h;rfl
 | mi b=>obtain⟨L,_,_,rfl⟩:=h;rfl
 | bm f first=>exact h.elim
theorem CR.one{X:Wd}{x:C}{v:Value}(h:CR σ X x v):v.oneCell'=ae:=by
 cases x with
 | cl f j=>obtain⟨us,rfl,_⟩:=h;rfl
 | bm f first=>obtain⟨us,rfl,_⟩:=h;rfl
 | mi b=>exact fC.one σ (x:=.mi b) h| f y=>exact fC.one σ (x:=.f y) h| ptr a b c=>exact fC.one σ (x:=.ptr a b c) h| sl a b c d e g=>exact fC.one σ (x:=.sl a b c d e g) h| yl b=>exact fC.one σ (x:=.yl b) h| mp b=>exact fC.one σ (x:=.mp b) h| it b=>exact fC.one σ (x:=.it b) h
theorem CR.TF{X:Wd}{x:C}{v:Value}(h:fC σ X x v):CR σ X x v:=by
 cases x with
 | cl f b=>exact h.elim| bm f first=>exact h.elim
 | _=>exact h
def ig(X:Wd):V→Value→Prop
 | .top,_=>True| .c x,v=>CR σ X x v| .a xs,v=>∃ us,v=.agg us.toArray∧A2 (CR σ X) xs us| .t _,_=>False
def VR(X:Wd):V→Value→Prop
 | .t b,v=>∃ us,v=.tuple us.toArray∧A2 (ig σ X) b us| x,v=>ig σ X x v
theorem VR.TF{X:Wd}{x:V}{v:Value}(h:ig σ X x v):VR σ X x v:=by
 cases x with
 | t b=>exact h.elim| _=>exact h
def rowAt(w:World)(c:Nat)(us:List Value):Prop:=
 ∃ e fr,w.heap[c]?=aa (.cells us.toArray e fr)∧∀ i,i≤us.length→¬(fr.1≤i∧i<fr.2)
def lK(X X':Wd)(b:Nat):Prop:=
 ∀ bO,X.H[b]?=aa bO→∃ blk',X'.H[b]?=aa blk'∧match bO,blk' with
  | .box _ _,.box _ _=>∀ L,X.cd b=aa L→X'.cd b=aa L| .cE s _ _ e st,.cE g _ _ j st'=>s=g∧((e=j∧st=st'∧∀ L,X.cd b=aa L→X'.cd b=aa L)∨(e<j∧st'=.loc∧∃ L,X'.cd b=aa L))| .map _,.map _=>∀ L,X.cd b=aa L→X'.cd b=aa L| .it _ _,.it _ _=>∀ L,X.cd b=aa L→X'.cd b=aa L| .fg _,.fg _=>∀ L,X.cd b=aa L→X'.cd b=aa L| .yU m s _,.yU u g _=>(m=u∧s=g)∧∀ L,X.cd b=aa L→X'.cd b=aa L| .lp f t p a c _ _ d,.lp q x v a' l _ _ d'=>(f=q∧t=x∧p=v∧a=a'∧c=l∧d=d')∧∀ L,X.cd b=aa L→X'.cd b=aa L| _,_=>False
structure Ext(N:Nat)(X X':Wd):Prop where
 B:X'.B=X.B
 F:∀ c i,X.F c i→X'.F c i
 oc:∀ c i,X'.F c i→X.F c i∨X.w.heap.size≤c∨∃ b L,X.cd b=aa L∧L.c=c
 fw:∀ c i,X.F c i→X'.w.cell? ⟨c,i,ab⟩=X.w.cell? ⟨c,i,ab⟩
 bf:∀ b,b<N→lK X X' b
 uF:∀ b L,X'.cd b=aa L→(∃ b0 L0,X.cd b0=aa L0∧L0.c=L.c)∨X.w.heap.size≤L.c
 size:X.w.heap.size≤X'.w.heap.size
 os:X'.w.os=X.w.os
 tape:X'.w.tape=X.w.tape
 output:X'.w.output=X.w.output
 frame:∀ k,k<X.w.heap.size→(∀ b L,X.cd b=aa L→L.c≠k)→X'.w.heap[k]?=X.w.heap[k]?
structure oa(N:Nat)(X X':Wd):Prop where
 F:∀ c i,X.F c i→X'.F c i
 fw:∀ c i,X.F c i→X'.w.cell? ⟨c,i,ab⟩=X.w.cell? ⟨c,i,ab⟩
 bf:∀ b,b<N→lK X X' b
theorem Ext.W{N:Nat}{X X':Wd}(h:Ext N X X'):oa N X X':=⟨h.F,h.fw,h.bf⟩
theorem lK.refl(X:Wd)(b:Nat):lK X X b:=fun bO h=>⟨bO,h,by cases bO<;>simp⟩
theorem lK.trans{X Y Z:Wd}{b:Nat}(h:lK X Y b)(k:lK Y Z b):lK X Z b:=by
 intro bO hb;obtain⟨blk',m,h1⟩:=h bO hb;obtain⟨g,j,h2⟩:=k blk' m;refine⟨g,j,?_⟩;cases bO<;>cases blk'<;>simp only at h1<;>cases g<;>simp only at h2 ⊢
 case box=>exact fun L d=>h2 L (h1 L d)
 case map=>exact fun L d=>h2 L (h1 L d)
 case it=>exact fun L d=>h2 L (h1 L d)
 case fg=>exact fun L d=>h2 L (h1 L d)
 case yU=>
  obtain⟨⟨rfl,rfl⟩,h1⟩:=h1;obtain⟨⟨rfl,rfl⟩,h2⟩:=h2;exact⟨⟨rfl,rfl⟩,fun L d=>h2 L (h1 L d)⟩
 case lp=>
  obtain⟨⟨rfl,rfl,rfl,rfl,rfl,rfl⟩,h1⟩:=h1;obtain⟨⟨rfl,rfl,rfl,rfl,rfl,rfl⟩,h2⟩:=h2;exact⟨⟨rfl,rfl,rfl,rfl,rfl,rfl⟩,fun L d=>h2 L (h1 L d)⟩
 case cE=>
  obtain⟨rfl,h1⟩:=h1;obtain⟨rfl,h2⟩:=h2;refine⟨rfl,?_⟩;rcases h1 with⟨rfl,rfl,h1⟩ | ⟨h1,rfl,L,d⟩
  ·rcases h2 with⟨rfl,rfl,h2⟩ | ⟨h2,rfl,L,d⟩
   ·exact .inl ⟨rfl,rfl,fun L d=>h2 L (h1 L d)⟩
   ·exact .inr ⟨h2,rfl,L,d⟩
  ·rcases h2 with⟨rfl,rfl,h2⟩ | ⟨h2,rfl,q,l⟩
   ·exact .inr ⟨h1,rfl,L,h2 L d⟩
   ·exact .inr ⟨by omega,rfl,q,l⟩
theorem Ext.refl(N:Nat)(X:Wd):Ext N X X:=
 ⟨rfl,fun _ _ h=>h,fun _ _ h=>.inl h,fun _ _ _=>rfl,fun b _=>lK.refl X b,fun b L h=>.inl ⟨b,L,h,rfl⟩,ai8 _,rfl,rfl,rfl,fun _ _ _=>rfl⟩
theorem Ext.trans{N:Nat}{X Y Z:Wd}(h:Ext N X Y)(k:Ext N Y Z):Ext N X Z where
 B:=k.B.trans h.B
 F:=fun c i d=>k.F c i (h.F c i d)
 oc:=fun c i d=>by
  rcases k.oc c i d with h1 | h1 | ⟨b,L,hb,rfl⟩
  ·exact h.oc c i h1
  ·exact .inr (.inl (ajw h.size h1))
  ·rcases h.uF b L hb with⟨b0,L0,h0,h1⟩ | h1
   ·exact .inr (.inr ⟨b0,L0,h0,h1⟩)
   ·exact .inr (.inl h1)
 fw:=fun c i d=>(k.fw c i (h.F c i d)).trans (h.fw c i d)
 bf:=fun b hb=>(h.bf b hb).trans (k.bf b hb)
 uF:=fun b L hb=>by
  rcases k.uF b L hb with⟨b0,L0,h0,h1⟩ | h1
  ·rcases h.uF b0 L0 h0 with⟨b1,m,h2,h3⟩ | h2
   ·exact .inl ⟨b1,m,h2,h3.trans h1⟩
   ·exact .inr (h1▸h2)
  ·exact .inr (ajw h.size h1)
 size:=ajw h.size k.size
 os:=k.os.trans h.os
 tape:=k.tape.trans h.tape
 output:=k.output.trans h.output
 frame:=fun j g l=>by
  rw [k.frame j (aj5 g h.size) (fun b L hb hc=>?_)]
  ·exact h.frame j g l
  ·rcases h.uF b L hb with⟨b0,L0,h0,h1⟩ | h1
   ·exact l b0 L0 h0 (h1.trans hc)
   ·omega
theorem Ext.mono{N M:Nat}{X Y:Wd}(h:Ext N X Y)(d:M≤N):Ext M X Y:=
 {h with bf:=fun b hb=>h.bf b (aj5 hb d) }
theorem fC.under{X:Wd}{x:C}{v:Value}(h:fC σ X x v):x.eQ X.H.length=ae:=by
 have lt:∀(b:Nat) bO,X.H[b]?=aa bO→b<X.H.length:=fun b bO hb=>(IS.1 hb).1;cases x with
 | f x=>rfl
 | ptr b off j=>
  obtain⟨L,_,h⟩:=h;split at h
  ·rename_i hb;simpa [C.eQ]using lt _ _ hb
  ·rename_i hb;simpa [C.eQ]using lt _ _ hb
  ·exact h.elim
 | sl b o l cap j sz=>
  simp only [fC]at h;split at h
  ·rename_i hb;simpa [C.eQ]using lt _ _ hb
  ·rename_i hb;simpa [C.eQ]using lt _ _ hb
  ·exact h.elim
 | cl f g=>exact h.elim| yl b=>obtain⟨L,_,⟨f,t,p,a,u,s,q,d,hb⟩,rfl⟩:=h;simpa [C.eQ]using lt _ _ hb
 | mp b=>obtain⟨L,_,⟨es,hb⟩,rfl⟩:=h;simpa [C.eQ]using lt _ _ hb
 | it b=>obtain⟨L,_,⟨s,p,hb⟩,rfl⟩:=h;simpa [C.eQ]using lt _ _ hb
 | mi b=>obtain⟨L,_,⟨m,s,d,hb⟩,rfl⟩:=h;simpa [C.eQ]using lt _ _ hb
 | bm f first=>exact h.elim
theorem fC.oB{N:Nat}{X X':Wd}(u:oa N X X'){x:C}{v:Value}(hu:x.eQ N=ae)(h:fC σ X x v):fC σ X' x v:=by
 cases x with
 | f x=>exact cJ.mono u.F u.fw h
 | ptr b off E=>
  obtain⟨L,j,h⟩:=h;have z:=u.bf b (by simpa [C.eQ]using hu);split at h
  ·rename_i cs fl hb;obtain⟨blk',g,h1⟩:=z _ hb;cases blk'<;>simp only at h1;exact⟨L,h1 L j,by rw [g];exact h⟩
  ·rename_i s cs fl e hb;obtain⟨blk',g,h1⟩:=z _ hb;cases blk'<;>simp only at h1;obtain⟨rfl,⟨rfl,rfl,h2⟩ | ⟨h2,rfl,A,y⟩⟩:=h1
   ·exact⟨L,h2 L j,by rw [g];exact h⟩
   ·exact⟨A,y,by rw [g];exact⟨by omega,fun h3=>by omega,h.2.2⟩⟩
  ·exact h.elim
 | sl b o l cap E sz=>
  simp only [fC]at h ⊢;have z:=u.bf b (by simpa [C.eQ]using hu);split at h
  ·rename_i cs fl hb;obtain⟨L,j,h⟩:=h;obtain⟨blk',g,h1⟩:=z _ hb;cases blk'<;>simp only at h1;rw [g];exact⟨L,h1 L j,h⟩
  ·rename_i s cs fl e st hb;obtain⟨blk',g,h1⟩:=z _ hb;cases blk'<;>simp only at h1;rw [g];obtain⟨rfl,⟨rfl,rfl,h2⟩ | ⟨h2,rfl,A,y⟩⟩:=h1
   ·refine⟨h.1,fun h3 h4=>?_,h.2.2⟩;have h5:=h.2.1 h3 h4;cases st with
    | loc=>obtain⟨L,j,h6⟩:=h5;exact⟨L,h2 L j,h6⟩
    | nil=>exact h5| es=>exact h5
   ·exact⟨by omega,fun h3=>by omega,h.2.2⟩
  ·exact h.elim
 | cl f B=>exact h.elim
 | yl b=>
  obtain⟨L,j,⟨f,t,p,a,F,s,q,d,hb⟩,rfl⟩:=h;obtain⟨blk',g,h1⟩:=u.bf b (by simpa [C.eQ]using hu) _ hb;cases blk'<;>simp only at h1;exact⟨L,h1.2 L j,⟨_,_,_,_,_,_,_,_,g⟩,rfl⟩
 | mp b=>
  obtain⟨L,j,⟨es,hb⟩,rfl⟩:=h;obtain⟨blk',g,h1⟩:=u.bf b (by simpa [C.eQ]using hu) _ hb;cases blk'<;>simp only at h1;exact⟨L,h1 L j,⟨_,g⟩,rfl⟩
 | it b=>
  obtain⟨L,j,⟨s,p,hb⟩,rfl⟩:=h;obtain⟨blk',g,h1⟩:=u.bf b (by simpa [C.eQ]using hu) _ hb;cases blk'<;>simp only at h1;exact⟨L,h1 L j,⟨_,_,g⟩,rfl⟩
 | mi b=>
  obtain⟨L,j,⟨m,s,d,hb⟩,rfl⟩:=h;obtain⟨blk',g,h1⟩:=u.bf b (by simpa [C.eQ]using hu) _ hb;cases blk'<;>simp only at h1;exact⟨L,h1.2 L j,⟨_,_,_,g⟩,rfl⟩
 | bm f first=>exact h.elim
theorem CR.oB{N:Nat}{X X':Wd}(j:oa N X X'){x:C}{v:Value}(hu:x.under N=ae)(h:CR σ X x v):CR σ X' x v:=by
 cases x with
 | cl f m=>
  obtain⟨us,rfl,h⟩:=h;refine⟨us,rfl,h.mono fun y u hy l=>fC.oB σ j ?_ l⟩;exact aji.1 hu y hy
 | bm f first=>
  obtain⟨us,rfl,h⟩:=h;refine⟨us,rfl,h.mono fun y u hy l=>fC.oB σ j ?_ l⟩;exact aji.1 hu y hy
 | mi b=>exact fC.oB σ j (x:=.mi b) hu h| f y=>exact fC.oB σ j (x:=.f y) hu h| ptr a b c=>exact fC.oB σ j (x:=.ptr a b c) hu h| sl a b c d e g=>exact fC.oB σ j (x:=.sl a b c d e g) hu h| yl b=>exact fC.oB σ j (x:=.yl b) hu h| mp b=>exact fC.oB σ j (x:=.mp b) hu h| it b=>exact fC.oB σ j (x:=.it b) hu h
end
section
variable(Q:Program)(σ:Nat→FuncId)
theorem CR.under{X:Wd}{x:C}{v:Value}(h:CR σ X x v):x.under X.H.length=ae:=by
 cases x with
 | cl f j=>
  obtain⟨us,rfl,h⟩:=h;simp only [C.under,aji];intro y hy;obtain⟨i,hi⟩:=akc hy;obtain⟨u,_,hu⟩:=h.get hi;exact fC.under σ hu
 | bm f j=>
  obtain⟨us,rfl,h⟩:=h;simp only [C.under,aji];intro y hy;obtain⟨i,hi⟩:=akc hy;obtain⟨u,_,hu⟩:=h.get hi;exact fC.under σ hu
 | mi b=>exact fC.under σ (x:=.mi b) h| f y=>rfl| ptr a b c=>exact fC.under σ (x:=.ptr a b c) h| sl a b c d e g=>exact fC.under σ (x:=.sl a b c d e g) h| yl b=>exact fC.under σ (x:=.yl b) h| mp b=>exact fC.under σ (x:=.mp b) h| it b=>exact fC.under σ (x:=.it b) h
theorem CR.dT{X X':Wd}(b:oa X.H.length X X'){x:C}{v:Value}(h:CR σ X x v):CR σ X' x v:=CR.oB σ b (CR.under σ h) h
theorem A2.dT{X X':Wd}(b:oa X.H.length X X'){xs:List C}{us:List Value}(h:A2 (CR σ X) xs us):A2 (CR σ X') xs us:=
 h.ko fun _ _ h=>CR.dT σ b h
theorem ig.dT{X X':Wd}(b:oa X.H.length X X'){x:V}{v:Value}(h:ig σ X x v):ig σ X' x v:=by
 cases x with
 | top=>trivial| c x=>exact CR.dT σ b h| a xs=>obtain⟨us,rfl,h⟩:=h;exact⟨us,rfl,A2.dT σ b h⟩
 | t d=>exact h.elim
theorem VR.dT{X X':Wd}(b:oa X.H.length X X'){x:V}{v:Value}(h:VR σ X x v):VR σ X' x v:=by
 cases x with
 | t d=>obtain⟨us,rfl,h⟩:=h;exact⟨us,rfl,h.ko fun _ _ h=>ig.dT σ b h⟩
 | top=>trivial| c x=>exact ig.dT σ (x:=.c x) b h| a xs=>exact ig.dT σ (x:=.a xs) b h
def RR(X:Wd)(aB:T)(tmps:Array Value):Prop:=∀ p,VR σ X (aB.get p) (tmps.getD p.toNat undef)
theorem RR.dT{X X':Wd}(b:oa X.H.length X X'){aB:T}{tmps:Array Value}(h:RR σ X aB tmps):RR σ X' aB tmps:=fun p=>VR.dT σ b (h p)
theorem CR.ext'{X X':Wd}(b:Ext X.H.length X X'){x:C}{v:Value}(h:CR σ X x v):CR σ X' x v:=CR.dT σ b.W h
theorem A2.ext'{X X':Wd}(b:Ext X.H.length X X'){xs:List C}{us:List Value}(h:A2 (CR σ X) xs us):A2 (CR σ X') xs us:=A2.dT σ b.W h
theorem ig.ext'{X X':Wd}(b:Ext X.H.length X X'){x:V}{v:Value}(h:ig σ X x v):ig σ X' x v:=ig.dT σ b.W h
theorem VR.ext'{X X':Wd}(b:Ext X.H.length X X'){x:V}{v:Value}(h:VR σ X x v):VR σ X' x v:=VR.dT σ b.W h
theorem RR.ext'{X X':Wd}(b:Ext X.H.length X X'){aB:T}{tmps:Array Value}(h:RR σ X aB tmps):RR σ X' aB tmps:=RR.dT σ b.W h
theorem T.oE(t:T)(p q:P)(v:V):(t.set p v).get q=if p=q then v else t.get q:=by
 induction t generalizing p q with
 | e=>
  induction p generalizing q with
  | h=>cases q<;>simp [T.set,T.get]
  | o p b=>cases q<;>simp [T.set,T.get,b]
  | i p b=>cases q<;>simp [T.set,T.get,b]
 | n l j r d g=>cases p<;>cases q<;>simp [T.set,T.get,d,g]
theorem P.toNat_inj{p q:P}(h:p.toNat=q.toNat):p=q:=by
 induction p generalizing q with
 | h=>cases q<;>simp [P.toNat]at h ⊢
 | o p b=>
  cases q with
  | h=>simp [P.toNat]at h| o q=>simp only [P.toNat]at h;rw [b (q:=q) (by omega)]
  | i q=>simp [P.toNat]at h;omega
 | i p b=>
  cases q with
  | h=>simp [P.toNat]at h| o q=>simp [P.toNat]at h;omega| i q=>simp only [P.toNat]at h;rw [b (q:=q) (by omega)]
theorem RR.set{X:Wd}{aB:T}{tmps:Array Value}(h:RR σ X aB tmps){p:P}(g:p.toNat<tmps.size){v:V}{u:Value}(j:VR σ X v u) :
  RR σ X (aB.set p v) (tmps.setIfInBounds p.toNat u):=by
 intro q;rw [T.oE];by_cases d:p=q
 ·subst d;simpa [g]using j
 ·have b:p.toNat≠q.toNat:=fun e=>d (P.toNat_inj e);simpa [d,Array.getD_eq_getD_getElem?,Array.getElem?_setIfInBounds_ne b]using h q
def dz.of:dz→LoopState
 | .ready=>.ready| .busy=>.busy| .done=>.done| .exhausted=>.exhausted
def uP(n:Nat):Option av→Option Code→Prop
 | none,ab=>True| some a,aa c=>bL Q σ n c a=ae| _,_=>False
def BR(X:Wd):bZ→Loc→Prop
 | .box cs fl,L=>∃ us,rowAt X.w L.c us∧A2 (CR σ X) cs us∧∀ i,fl≤i→¬ X.F L.c i| .cE sz cs fl _ st,L=>st=.loc∧∃ us rest,rowAt X.w L.c (us++rest)∧A2 (CR σ X) cs us∧(us++rest).length=L.cap*sz∧0<sz∧(∃ n,cs.length=n*sz)∧∀ i,fl≤i→¬ X.F L.c i| .map x,L=>∃ g:List MapEntry,X.w.heap[L.c]?=aa (.map g.toArray g.length)∧A2 (fun e m=>cJ σ X.F X.w e.1 m.key∧ig σ X (mV e.2) m.val) x g∧∀(i:Nat) m,g[i]?=aa m→m.born=i
 | .yU m j done,L=>∃(A:Loc) (y:Array Nat) (st:Nat),X.cd m=aa A∧(∃ x,X.H[m]?=aa (.map x))∧X.w.heap[L.c]?=aa (.mapIter (aa A.c) j y st)∧(if done then y=#[0]∧st=1 else y=#[])| .it s pos,L=>X.w.heap[L.c]?=aa (.stringIter s pos)| .fg b,L=>X.w.heap[L.c]?=aa (.deferred (if b then aa []else ab))
 | .lp f tmps ps as bd st u d,L=>∃(n:Nat) (us:Array Value) (v:Array Tmp) (as' l:Code) (pend':Option Code) (z:Loc),
   X.w.heap[L.c]?=aa (.loop { state:=st.of,pending:=pend',fn:=σ f,tmps:=us,params:=v,assign:=as',body:=l,defers:=z.c }) ∧
   n≤us.size∧RR σ X tmps us∧fo (fun p (q:P)=>q.toNat == p&&decide (p<n)) v.toList ps=ae∧bL Q σ n as' as=ae∧bL Q σ n l bd=ae∧uP Q σ n u pend'∧X.cd d=aa z∧∃ o,X.H[d]?=aa (.fg o)
theorem BR.oB{X X':Wd}(g:oa X.H.length X X'){bO:bZ}{L:Loc}(l:X'.w.heap[L.c]?=X.w.heap[L.c]?)(F:∀ i,X'.F L.c i→X.F L.c i)(h:BR Q σ X bO L):BR Q σ X' bO L:=by
 cases bO with
 | box cs fl=>
  obtain⟨us,⟨e,fr,h1,h2⟩,h3,h4⟩:=h;exact⟨us,⟨e,fr,l.trans h1,h2⟩,A2.dT σ g h3,fun i hi x=>h4 i hi (F i x)⟩
 | cE sz cs fl K st=>
  obtain⟨y,us,rest,⟨e,fr,h1,h2⟩,h3,h4,h5,h6,h7⟩:=h;exact⟨y,us,rest,⟨e,fr,l.trans h1,h2⟩,A2.dT σ g h3,h4,h5,h6,fun i hi x=>h7 i hi (F i x)⟩
 | map es=>
  obtain⟨u,h1,h2,h3⟩:=h;exact⟨u,l.trans h1,h2.ko fun _ _ h=>⟨cJ.mono g.F g.fw h.1,ig.dT σ g h.2⟩,h3⟩
 | yU m A done=>
  obtain⟨E,J,st,h1,⟨es,h2⟩,h3,h4⟩:=h;obtain⟨blk',j,h5⟩:=g.bf m (IS.1 h2).1 _ h2;cases blk'<;>simp only at h5;exact⟨E,J,st,h5 E h1,⟨_,j⟩,l.trans h3,h4⟩
 | it s pos=>exact l.trans h| fg b=>exact l.trans h
 | lp f tmps ps as bd st H d=>
  obtain⟨n,us,z,as',v,pend',B,h1,h2,h3,h4,h5,h6,h7,h8,o,h9⟩:=h;have I:d<X.H.length:=(IS.1 h9).1;obtain⟨blk',j,q⟩:=g.bf d I _ h9;cases blk'<;>simp only at q;exact⟨n,us,z,as',v,pend',B,l.trans h1,h2,RR.dT σ g h3,h4,h5,h6,h7,q B h8,_,j⟩
theorem BR.ext{X X':Wd}(g:Ext X.H.length X X'){bO:bZ}{L:Loc}(d:X'.w.heap[L.c]?=X.w.heap[L.c]?)(b:∀ i,X'.F L.c i→X.F L.c i)(h:BR Q σ X bO L):BR Q σ X' bO L:=BR.oB Q σ g.W d b h
structure SR(X:Wd):Prop where
 br:∀ b L,X.cd b=aa L→X.B≤L.c∧L.c<X.w.heap.size∧∃ bO,X.H[b]?=aa bO∧BR Q σ X bO L
 inj:∀ b b' L L',X.cd b=aa L→X.cd b'=aa L'→L.c=L'.c→b=b'
 fb:∀ c i,X.F c i→c<X.w.heap.size
theorem SR.step{X X':Wd}(u:SR Q σ X)(s:Ext X.H.length X X')(b0:Nat)(x:∀ b,b≠b0→X'.H[b]?=X.H[b]?)(d:∀ b,b≠b0→X'.cd b=X.cd b)
  (y:∀ b L,b≠b0→X.cd b=aa L→X'.w.heap[L.c]?=X.w.heap[L.c]?) (v:∀ b L,b≠b0→X.cd b=aa L→∀ i,X'.F L.c i→X.F L.c i)
  (h0:∀ L,X'.cd b0=aa L→X.B≤L.c∧L.c<X'.w.heap.size∧(∃ bO,X'.H[b0]?=aa bO∧BR Q σ X' bO L)∧∀ b j,b≠b0→X.cd b=aa j→j.c≠L.c)
  (q:∀ c i,X'.F c i→c<X'.w.heap.size):SR Q σ X' where
 br:=fun b L hb=>by
  rw [s.B];by_cases h:b=b0
  ·subst h;obtain⟨h1,h2,h3,_⟩:=h0 L hb;exact⟨h1,h2,h3⟩
  ·rw [d b h]at hb;obtain⟨h1,h2,bO,h3,h4⟩:=u.br b L hb;exact⟨h1,aj5 h2 s.size,bO,(x b h).trans h3,BR.ext Q σ s (y b L h hb) (v b L h hb) h4⟩
 fb:=fun c i h=>q c i h
 inj:=fun b l L j hb g hc=>by
  by_cases h:b=b0<;>by_cases m:l=b0
  ·rw [h,m]
  ·subst h;rw [d l m]at g;exact absurd hc.symm ((h0 L hb).2.2.2 l j m g)
  ·subst m;rw [d b h]at hb;exact absurd hc ((h0 j g).2.2.2 b L h hb)
  ·rw [d b h]at hb;rw [d l m]at g;exact u.inj b l L j hb g hc
end
section
variable{Q:Program}{σ:Nat→FuncId}{X:Wd}
theorem aY{t:TypeId}{d:TypeDesc}(h:Q.underlying t=aa d)(w:World):(underlying t).run Q w=.ok d w:=by
 simp [underlying,h]
theorem cV{t:TypeId}{n:Nat}(h:dy Q t n=ae)(w:World):(Go.sizeOf t).run Q w=.ok n w:=by
 unfold dy at h;cases hi:Q.info? t with
 | none=>simp [hi]at h| some i=>simp [hi]at h;simp [Go.sizeOf,typeInfo,hi,h]
theorem wF{t:TypeId}{n:Nat}(h:mF Q t n=ae)(w:World):∃ i,(typeInfo t).run Q w=.ok i w∧i.bytes=n:=by
 unfold mF at h;cases hi:Q.info? t with
 | none=>simp [hi]at h| some i=>simp [hi]at h;exact⟨i,by simp [typeInfo,hi],h⟩
theorem Ch{t:TypeId}{n:Option Nat}(h:th Q t n=ae)(w:World):(isAgg t).run Q w=.ok n.isSome w∧∀ k,n=aa k→dy Q t k=ae:=by
 unfold th at h;cases b:Q.underlying t with
 | none=>simp [b]at h
 | some d=>
  cases d<;>cases n<;>simp_all [isAgg,aY b]
theorem dW(c o k:Nat):(⟨c,o,ab⟩:Addr).add k=⟨c,o+k,ab⟩:=by unfold Addr.add;split<;>simp_all
theorem dS{w:World}{c:Nat}{us:List Value}(h:rowAt w c us)(i:Nat):w.cell? ⟨c,i,ab⟩=us[i]?:=by
 obtain⟨e,fr,h,_⟩:=h;simp [World.cell?,h]
theorem Ac{w:World}{c:Nat}{us:List Value}(h:rowAt w c us){i:Nat}(hi:i<us.length):w.frozen? ⟨c,i,ab⟩=ag:=by
 obtain⟨e,fr,h,b⟩:=h;have:=b i (Nat.le_of_lt hi);simp only [World.frozen?,h];simp only [Bool.and_eq_false_iff,decide_eq_false_iff_not];omega
theorem rE(B:SR Q σ X){x:C}{v:Value}(j:CR σ X x v){cs:List C}(h:aC X.H x=aa cs) :
  ∃ c o us,v=.pointer (aa ⟨c,o,ab⟩)∧(∀(i:Nat) u,us[i]?=aa u→X.w.cell? ⟨c,o+i,ab⟩=aa u)∧A2 (CR σ X) cs us:=by
 cases x with
 | ptr b d I=>
  obtain⟨L,A,j⟩:=j;obtain⟨_,_,bO,y,l⟩:=B.br b L A;simp only [aC,y]at h;rw [y]at j;cases bO with
  | box cs' fl=>
   simp only [AI]at h;subst h;subst j;obtain⟨us,m,q,_⟩:=l;exact⟨L.c,d,us.drop d,rfl,fun i u g=>by rw [dS m];rw [ajv]at g;exact g,q.drop d⟩
  | cE s cs' fl e st=>
   cases st<;>simp only at h j
   ·split at h
    ·rename_i F;simp only [AI]at h;subst h;obtain⟨_,j,_⟩:=j;have j:=j F;subst j;obtain⟨_,us,rest,m,q,_⟩:=l;refine⟨L.c,d,us.drop d,rfl,fun i u g=>?_,q.drop d⟩;rw [dS m];rw [ajv]at g;rw [AT (IS.1 g).1];exact g
    ·simp at h
   all_goals exact j.elim
  | _=>simp at h
 | f x=>
  cases x with
  | fp cs' d=>
   simp only [aC,AI]at h;subst h;cases j with
   | fp _ _ c o us H J E m=>
    refine⟨c,o+d,us.drop d,rfl,fun i u g=>?_,A2.map ⟨by simp [H],fun i x u z g=>?_⟩⟩
    ·rw [ajv]at g;have:=E _ u g;rwa [show o+(d+i)=o+d+i by omega]at this
    ·rw [ajv]at z g;exact m _ x u z g
  | _=>simp [aC]at h
 | _=>simp [aC]at h
theorem zA{t:TypeId}{n:Option Nat}(z:th Q t n=ae){c o:Nat}{us:List Value}{cs:List C}{w:World}
  (q:∀(i:Nat) u,us[i]?=aa u→w.cell? ⟨c,o+i,ab⟩=aa u) (g:A2 (CR σ X) cs us) {v:V} (b:aW n cs=aa v) :
  ∃ u,(loadVar t ⟨c,o,ab⟩).run Q w=.ok u w∧VR σ X v u:=by
 obtain⟨m,s⟩:=Ch z w;cases n with
 | none=>
  cases cs with
  | nil=>simp [aW]at b
  | cons x cs=>
   simp only [aW,AI]at b;subst b;obtain⟨u,A,l⟩:=g.get (i:=0) (x:=x) rfl;have:=q 0 u A;simp only [Nat.add_zero]at this;exact⟨u,by simp [loadVar,m,this],l⟩
 | some n=>
  simp only [aW]at b;split at b
  ·rename_i B;simp only [AI]at b;subst b;have y:(us.take n).length=n:=by have:=g.len;simp;omega
   have:=run_loadCells_list (P:=Q) w ⟨c,o,ab⟩ (us.take n) (fun j v d=>by
    rw [dW];rw [ajO]at d;split at d
    ·exact q j v d
    ·simp at d)
   rw [y]at this;refine⟨.agg (us.take n).toArray,?_,⟨us.take n,rfl,g.take n⟩⟩;simp [loadVar,m,cV (s n rfl),this]
  ·simp at b
theorem ack(q:SR Q σ X){t:TypeId}{n:Option Nat}(s:th Q t n=ae){x:V}{p:Value}(y:VR σ X x p){v:V}(h:aU X.H n x=aa v) :
  ∃ u,(Instr.loadAt t p).run Q X.w=.ok u X.w∧VR σ X v u:=by
 cases x with
 | c x=>
  simp only [aU,ajx]at h;obtain⟨cs,b,d⟩:=h;obtain⟨c,o,us,rfl,g,j⟩:=rE q y b;obtain⟨u,l,m⟩:=zA s g j d;exact⟨u,by simp [Instr.loadAt,Instr.sureAddr,l],m⟩
 | _=>simp [aU]at h
end
section
variable{Q:Program}{σ:Nat→FuncId}{X:Wd}
theorem VR.int{k:IntKind}{n:Int}{u:Value}(h:VR σ X (.c (.f (.int k n))) u):u=.int k n:=by cases (h:cJ σ X.F X.w (.int k n) u);rfl
theorem VR.bool{b:Bool}{u:Value}(h:VR σ X (.c (.f (.bool b))) u):u=.bool b:=by cases (h:cJ σ X.F X.w (.bool b) u);rfl
theorem VR.str{s:ByteArray}{u:Value}(h:VR σ X (.c (.f (.str s))) u):u=.string s:=by cases (h:cJ σ X.F X.w (.str s) u);rfl
theorem VR.mkInt(k:IntKind)(n:Int):VR σ X (V.int k n) (.int k n):=cJ.int k n
theorem VR.sD(b:Bool):VR σ X (V.bool b) (.bool b):=cJ.bool b
theorem VR.mkStr(s:ByteArray):VR σ X (.c (.f (.str s))) (.string s):=cJ.str s
theorem eA{α β:Type}{f:α→β→Bool}:∀ {xs:List α} {ys:List β},fo f xs ys=ae→A2 (fun x y=>f x y=ae) xs ys
 | [],[],_=>A2.nil
 | x::xs,y::ys,h=>by
  simp only [fo,BY]at h;exact A2.cons h.1 (eA h.2)
 | [],_::_,h=>by simp [fo]at h
 | _::_,[],h=>by simp [fo]at h
theorem At{F:Nat→Nat→Prop}{w:World}{x:FC}{u:Value}(h:mK1 x u=ae):cJ σ F w x u:=by
 unfold mK1 at h;split at h
 ·simp only [beq_iff_eq]at h;subst h;exact .bool _
 ·simp only [BY,decide_eq_true_eq]at h;obtain⟨rfl,rfl⟩:=h;exact .int _ _
 ·simp only [decide_eq_true_eq]at h;subst h;exact .str _
 ·exact .sH
 ·exact .aA
 ·exact .jY
 ·exact .nP
 ·exact .oV
 ·simp at h
theorem af9{x:V}{u:Value}(h:mK x u=ae):VR σ X x u:=by
 unfold mK at h;split at h
 ·exact At h
 ·refine⟨_,by simp,(eA h).ko fun y w b=>?_⟩;split at b
  ·exact At b
  ·simp at b
 ·trivial
 ·simp at h
theorem bN{a:Act}{aB:T}(b:RR σ X aB a.tmps){x:Arg}{y:Operand}(h:mA σ x y=ae):VR σ X (x.ev aB) (a.eval y):=by
 unfold mA at h;split at h
 ·rename_i p t;simp only [beq_iff_eq]at h;subst h;exact b p
 ·exact af9 h
 ·simp only [beq_iff_eq]at h;subst h;exact cJ.fn _ [] [] rfl (by simp)
 ·simp at h
theorem mn{a:Act}{aB:T}(j:RR σ X aB a.tmps){xs:List Arg}{ys:Array Operand}(h:TE σ xs ys=ae):A2 (VR σ X) (dm aB xs) (ys.map a.eval).toList:=by
 have:=(eA h).ko fun x y b=>bN j b;refine⟨by simpa [dm]using this.len,fun i v u g d=>?_⟩;simp only [dm,aj3,IN]at g;simp only [Array.toList_map,aj3,IN]at d;obtain⟨x,l,rfl⟩:=g;obtain⟨y,m,rfl⟩:=d;exact this.2 i x y l m
theorem af'{a:Act}{aB:T}(g:RR σ X aB a.tmps){x:Option Arg}{y:Option Operand}(h:mO σ x y=ae) :
  (x=ab∧y=ab)∨∃ b d,x=aa b∧y=aa d∧VR σ X (b.ev aB) (a.eval d):=by
 unfold mO at h;split at h
 ·exact .inl ⟨rfl,rfl⟩
 ·exact .inr ⟨_,_,rfl,rfl,bN g h⟩
 ·simp at h
theorem XC{op:BinOp}{k:IntKind}{x y:Int}{v:V}(h:ky op k x y=aa v)(w:World) :
  ∃ u,(binOp op 0 (.int k x) (.int k y)).run Q w=.ok u w∧VR σ X v u∧∀ t,binOp op t (.int k x) (.int k y)=binOp op 0 (.int k x) (.int k y):=by
 unfold ky at h;split at h<;>(try split at h)<;>(try simp only [AI,reduceCtorEq]at h)<;>(try subst h)
 all_goals first
  | (refine⟨_,?_,VR.mkInt _ _,fun _=>by simp [binOp]⟩;simp [binOp,Op.intArith,Op.intBits];done)
  | (refine⟨_,?_,VR.sD _,fun _=>by simp [binOp]⟩;simp [binOp,Op.intCmp];done)
  | (rename_i b;refine⟨_,?_,VR.mkInt _ _,fun _=>by simp [binOp]⟩;simp [binOp,Op.intDiv,b];done)
theorem XD{op:BinOp}{x y:ByteArray}{v:V}(h:abL op x y=aa v)(w:World)(t:TypeId) :
  ∃ u,(binOp op t (.string x) (.string y)).run Q w=.ok u w∧VR σ X v u:=by
 unfold abL at h;split at h<;>(try split at h)<;>(try simp only [AI,reduceCtorEq]at h)<;>(try subst h)
 all_goals first
  | exact⟨_,by simp [binOp,Op.stringOp],VR.sD _⟩
  | (rename_i b;exact⟨_,by simp only [binOp,Op.stringOp];rw [aR b];rfl,VR.mkStr _⟩)
  | skip
end
section
variable{Q:Program}{σ:Nat→FuncId}{X:Wd}
theorem qS:∀ {d:List CK} {xs ys:List C} {b:Bool},qp d xs ys=aa b→xs.length=d.length∧ys.length=d.length
 | [],[],[],_,_=>⟨rfl,rfl⟩
 | k::d,x::xs,y::ys,b,h=>by
  simp only [qp]at h;split at h
  ·rename_i g;have:=qS g;simp [this]
  ·simp at h
 | [],_::_,_,_,h=>by simp [qp]at h
 | [],[],_::_,_,h=>by simp [qp]at h
 | _::_,[],_,_,h=>by simp [qp]at h
 | _::_,_::_,[],_,h=>by simp [qp]at h
theorem rP:∀ {d g:List CK} {xs ys:List C} {b:Bool},qp (d++g) xs ys=aa b →
  ∃ j l,qp d (xs.take d.length) (ys.take d.length)=aa j∧qp g (xs.drop d.length) (ys.drop d.length)=aa l∧b=(j&&l)
 | [],g,xs,ys,b,h=>⟨ae,b,rfl,by simpa using h,by simp⟩
 | k::d,g,[],ys,b,h=>by simp [qp]at h
 | k::d,g,x::xs,[],b,h=>by simp [qp]at h
 | k::d,g,x::xs,y::ys,b,h=>by
  simp only [List.cons_append,qp]at h;split at h
  ·rename_i a c s u;simp only [AI]at h;obtain⟨j,l,m,q,rfl⟩:=rP u;refine⟨a&&j,l,?_,by simpa using q,by rw [←h,Bool.and_assoc]⟩;simp [qp,s,m]
  ·simp at h
def CKv:CK→Value→Value→Bool→Prop
 | .bool,u,v,b=>∃ p q,u=.bool p∧v=.bool q∧b=(p == q)| .int,u,v,b=>∃ j p q,u=.int j p∧v=.int j q∧b=(p == q)| .str,u,v,b=>∃ p q,u=.string p∧v=.string q∧b=(p == q)
theorem qT{k:CK}{x y:C}{b:Bool}(h:Hm k x y=aa b){u v:Value}(d:CR σ X x u)(g:CR σ X y v):CKv k u v b:=by
 unfold Hm at h;split at h
 ·simp only [AI]at h;exact⟨_,_,VR.bool (σ:=σ) (X:=X) d,VR.bool (σ:=σ) (X:=X) g,h.symm⟩
 ·split at h
  ·rename_i j;subst j;simp only [AI]at h;exact⟨_,_,_,VR.int (σ:=σ) (X:=X) d,VR.int (σ:=σ) (X:=X) g,h.symm⟩
  ·simp at h
 ·simp only [AI]at h;exact⟨_,_,VR.str (σ:=σ) (X:=X) d,VR.str (σ:=σ) (X:=X) g,h.symm⟩
 ·simp at h
theorem zm:∀(d:Nat) (t:TypeId) (W:List CK),gE Q d t=aa W→∀(D:Nat),d≤D→∀(us Z:List Value) (g:Nat) (xs ys:List C) (b:Bool) (w:World),
  qp W xs ys=aa b→A2 (CR σ X) xs ((us.drop g).take W.length)→A2 (CR σ X) ys ((Z.drop g).take W.length) →
  ∃ a c,(part t us.toArray g).run Q w=.ok a w∧(part t Z.toArray g).run Q w=.ok c w∧(Op.equalIn D t a c).run Q w=.ok b w
 | 0,_,_,h,_,_,_,_,_,_,_,_,_,_,_,_=>by simp [gE]at h
 | d+1,t,W,h,0,hD,_,_,_,_,_,_,_,_,_,_=>by omega
 | d+1,t,W,h,D+1,hD,us,Z,g,xs,ys,b,w,N,hx,hy=>by
  have hl:=qS N;have s:∀(k:CK),W=[k]→(∀ J,Q.underlying t=aa J→(match J with | .struct _ | .array _ _=>False | _=>True))→(∃ J,Q.underlying t=aa J) →
    ∃ x y u v,xs=[x]∧ys=[y]∧Hm k x y=aa b∧CR σ X x u∧CR σ X y v∧(part t us.toArray g).run Q w=.ok u w∧(part t Z.toArray g).run Q w=.ok v w:=by
   intro k A a8 m;subst A;obtain⟨J,m⟩:=m;have a8:=a8 J m
   match xs,ys,hl with
   | [x],[y],_=>
    simp only [qp]at N;split at N
    ·rename_i a c ha hc;simp only [AI]at hc N;subst hc;simp at N;subst N;obtain⟨u,f7,f8⟩:=hx.get (i:=0) (x:=x) rfl;obtain⟨v,f_,g_⟩:=hy.get (i:=0) (x:=y) rfl;have e1:us[g]?=aa u:=by simpa [ajO,ajv]using f7
     have e2:Z[g]?=aa v:=by simpa [ajO,ajv]using f_
     have a7:(isAgg t).run Q w=.ok ag w:=by
      cases J<;>simp_all [isAgg,aY m]
     exact⟨x,y,u,v,rfl,rfl,ha,f8,g_,by simp [part,a7,e1],by simp [part,a7,e2]⟩
    ·simp at N
  unfold gE at h;split at h
  ·rename_i m;split at h
   ·simp only [AI]at h;obtain⟨x,y,u,v,rfl,rfl,F,h1,h2,O,h4⟩:=s .bool h.symm (fun J z=>by rw [m]at z;cases z;trivial) ⟨_,m⟩;obtain⟨p,q,rfl,rfl,rfl⟩:=qT F h1 h2;exact⟨_,_,O,h4,run_equalIn_bool' w D t _ _ m⟩
   ·simp at h
  ·rename_i j m;split at h
   ·simp only [AI]at h;obtain⟨x,y,u,v,rfl,rfl,F,h1,h2,O,h4⟩:=s .int h.symm (fun J z=>by rw [m]at z;cases z;trivial) ⟨_,m⟩;obtain⟨j',p,q,rfl,rfl,rfl⟩:=qT F h1 h2;exact⟨_,_,O,h4,run_equalIn_int w D t _ _ _ _ m⟩
   ·simp at h
  ·rename_i m;split at h
   ·simp only [AI]at h;obtain⟨x,y,u,v,rfl,rfl,F,h1,h2,O,h4⟩:=s .str h.symm (fun J z=>by rw [m]at z;cases z;trivial) ⟨_,m⟩;obtain⟨p,q,rfl,rfl,rfl⟩:=qT F h1 h2;exact⟨_,_,O,h4,by rw [run_equalIn_string w D t _ _ m,beq_toListBytes]⟩
   ·simp at h
  ·rename_i fs m;split at h
   ·simp at h
   ·rename_i e_;split at h
    ·rename_i Y hf;split at h
     ·rename_i a_;simp only [AI]at h;subst h;have M:(isAgg t).run Q w=.ok ae w:=by simp [isAgg,aY m]
      have U:Q.underlying t=aa (.struct (Q.fieldsOf t)):=by simp [Program.fieldsOf,m]
      have d_:Q.fieldsOf t=fs:=by rw [m]at U;simpa using U.symm
      refine⟨.agg ((us.drop g).take Y.length).toArray,.agg ((Z.drop g).take Y.length).toArray,?_,?_,?_⟩
      ·simp [part,M,cV a_,akE]
      ·simp [part,M,cV a_,akE]
      ·rw [run_equalIn_struct w D t _ _ U (by simpa using e_),d_];have key:∀(l:List Field) (k:Nat) (K:List CK) (b2:Bool),gE.oC (gE Q d) k l=aa K→∀(B E:List Value) (H I:List C),
         qp K (H.drop k) (I.drop k)=aa b2→A2 (CR σ X) H B→A2 (CR σ X) I E→(Op.eqFields D B.toArray E.toArray l).run Q w=.ok b2 w:=by
        intro l;induction l with
        | nil=>
         intro k K b2 A B E H I F _ _;simp only [gE.oC,AI]at A;subst A;have:=qS F;simp only [List.length_nil,List.length_eq_zero_iff]at this;rw [this.1,this.2]at F;simp only [qp,AI]at F;subst F;simp [Op.eqFields]
        | cons f l ih=>
         intro k K b2 A B E H I F b_ c9;simp only [gE.oC]at A;split at A
         ·rename_i S;obtain⟨hn,ho⟩:=S;subst ho;split at A
          ·rename_i L O;split at A
           ·rename_i r hr;simp only [AI]at A;subst A;obtain⟨b1,b3,c_,d9,rfl⟩:=rP F;obtain⟨a,c,h5,h6,h7⟩:=zm d f.type L O D (by omega) B E f.offset _ _ b1 w c_ (by have:=(b_.drop f.offset).take L.length;simpa using this) (by have:=(c9.drop f.offset).take L.length;simpa using this);have h_:=ih (f.offset+L.length) r b3 hr B E H I (by simpa [List.drop_drop]using d9) b_ c9;simp only [Op.eqFields,hn,ne_eq,not_false_eq_true,if_true,Sem.run_bind,h5,h6,h7,Result.andThen_ok];cases b1<;>simp [h_]
           ·simp at A
          ·simp at A
         ·simp at A
       exact key fs.toList 0 Y b hf _ _ xs ys (by simpa using N) hx hy
     ·simp at h
    ·simp at h
  ·simp at h
def ah5:II→Value→Bool→Prop
 | .ptr,u,b=>∃ a,u=.pointer a∧b=a.isNone| .sl,u,b=>∃ a n c,u=.slice a n c∧b=a.isNone| .fn,u,b=>(u=.nilFunc∧b=ae)∨∃ f p q,u=.func f p q∧b=ag| .ifc,u,b=>u=.nilIface∧b=ae| _,_,_=>False
theorem oH{k:II}{x:C}{u:Value}(d:CR σ X x u){b:Bool}(h:isNil X.H k x=aa b):ah5 k u b:=by
 unfold isNil at h;split at h<;>try simp only [AI,reduceCtorEq]at h
 ·cases (d:cJ σ X.F X.w .sH u);subst h;exact⟨_,rfl,rfl⟩
 ·cases (d:cJ σ X.F X.w (.fp _ _) u);subst h;exact⟨_,rfl,rfl⟩
 ·obtain⟨L,_,d⟩:=d;subst h;split at d
  ·subst d;exact⟨_,rfl,rfl⟩
  ·obtain⟨_,_,a,rfl⟩:=d;exact⟨_,rfl,rfl⟩
  ·exact d.elim
 ·cases (d:cJ σ X.F X.w .aA u);subst h;exact⟨_,_,_,rfl,rfl⟩
 ·cases (d:cJ σ X.F X.w .es u);subst h;exact⟨_,_,_,rfl,rfl⟩
 ·cases (d:cJ σ X.F X.w (.fs _ _) u)<;>(subst h;exact⟨_,_,_,rfl,rfl⟩)
 ·rename_i m o l c q sz;simp only [CR,fC]at d;split at h
  ·rename_i g;rw [g]at d;obtain⟨L,_,_,rfl⟩:=d;simp only [AI]at h;subst h;exact⟨_,_,_,rfl,rfl⟩
  ·rename_i s cs fl e st g;rw [g]at d;split at h
   ·rename_i j;have:=d.2.1 j.1 j.2;simp only [AI]at h;subst h;cases st with
    | loc=>obtain⟨L,_,k,_,_,rfl⟩:=this;exact⟨_,_,_,rfl,rfl⟩
    | nil=>obtain⟨_,_,rfl⟩:=this;exact⟨_,_,_,rfl,rfl⟩
    | es=>obtain⟨_,_,a,rfl⟩:=this;exact⟨_,_,_,rfl,rfl⟩
   ·simp at h
  ·simp at h
 ·cases (d:cJ σ X.F X.w .jY u);subst h;exact .inl ⟨rfl,rfl⟩
 ·cases (d:cJ σ X.F X.w (.fn _ _) u);subst h;exact .inr ⟨_,_,_,rfl,rfl⟩
 ·obtain⟨us,rfl,_⟩:=d;subst h;exact .inr ⟨_,_,_,rfl,rfl⟩
 ·obtain⟨us,rfl,_⟩:=d;subst h;exact .inr ⟨_,_,_,rfl,rfl⟩
 ·cases (d:cJ σ X.F X.w .nP u);subst h;exact⟨rfl,rfl⟩
theorem zl{d:Nat}{t:TypeId}{b:List CK}(h:gE Q d t=aa b):dy Q t b.length=ae:=by
 cases d with
 | zero=>simp [gE]at h
 | succ d=>
  unfold gE at h;split at h
  ·split at h
   ·simp only [AI]at h;subst h;assumption
   ·simp at h
  ·split at h
   ·simp only [AI]at h;subst h;assumption
   ·simp at h
  ·split at h
   ·simp only [AI]at h;subst h;assumption
   ·simp at h
  ·split at h
   ·simp at h
   ·split at h
    ·split at h
     ·simp only [AI]at h;subst h;assumption
     ·simp at h
    ·simp at h
  ·simp at h
theorem RL{t e:TypeId}(b:Q.underlying t=aa (.pointer e))(D:Nat)(a:Option Addr)(w:World):(Op.equalIn (D+1) t (.pointer a) (.pointer ab)).run Q w=.ok a.isNone w:=by
 cases a<;>simp [Op.equalIn,aY b]
theorem XV{t e:TypeId}(b:Q.underlying t=aa (.slice e))(D:Nat)(a:Option Addr)(n c:Nat)(w:World):(Op.equalIn (D+1) t (.slice a n c) (.slice ab 0 0)).run Q w=.ok a.isNone w:=by
 cases a<;>simp [Op.equalIn,aY b]
theorem XT{t:TypeId}{p r:Array TypeId}{v:Bool}(b:Q.underlying t=aa (.func p r v))(D:Nat)(w:World):(Op.equalIn (D+1) t .nilFunc .nilFunc).run Q w=.ok ae w:=by
 simp [Op.equalIn,aY b]
theorem XR{t:TypeId}{p r:Array TypeId}{v:Bool}(b:Q.underlying t=aa (.func p r v))(D:Nat)(f:Fn)(x y:Array Value)(w:World):(Op.equalIn (D+1) t (.func f x y) .nilFunc).run Q w=.ok ag w:=by
 simp [Op.equalIn,aY b]
theorem XU{t:TypeId}{d:Array (String × TypeId)}(b:Q.underlying t=aa (.interface d))(D:Nat)(w:World):(Op.equalIn (D+1) t .nilIface .nilIface).run Q w=.ok ae w:=by
 simp [Op.equalIn,aY b]
theorem Hv{t:TypeId}{x y:Operand}(b:(qw x||qw y)=ae)(op:BinOp)(w:World):(eqGuard op t x y .nilIface .nilIface).run Q w=.ok () w:=by
 simp only [Bool.or_eq_true]at b;rcases b with b | b
 ·cases x<;>simp only [qw,ajo]at b;cases op<;>rfl
 ·cases y<;>simp only [qw,ajo]at b;cases x<;>cases op<;>rfl
theorem ab0{k:II}{t:TypeId}{x y:Operand}(v:mEq Q k t x y=ae){H I:V}{l d:Value}(s:VR σ X H l)(u:VR σ X I d){b:Bool}
  (h:BF X.H k H I=aa b) (neg:Bool) (w:World) :
  (do eqGuard (if neg then .neq else .eql) t x y l d;binOp (if neg then .neq else .eql) t l d).run Q w=.ok (.bool (if neg then !b else b)) w:=by
 have g:(binOp .eql t l d=do pure (.bool (←Op.equal t l d)))→(binOp .neq t l d=do pure (.bool (!(←Op.equal t l d)))) →
   (∀ op,(eqGuard op t x y l d).run Q w=.ok () w)→(Op.equalIn 10000 t l d).run Q w=.ok b w →
   (do eqGuard (if neg then .neq else .eql) t x y l d;binOp (if neg then .neq else .eql) t l d).run Q w=.ok (.bool (if neg then !b else b)) w:=by
  intro B E z N;cases neg
  ·simp only [ajo,if_false,Sem.run_bind,z,Result.andThen_ok,B,Op.equal,Op.maxDepth,N,Sem.run_pure]
  ·simp only [if_true,Sem.run_bind,z,Result.andThen_ok,E,Op.equal,Op.maxDepth,N,Sem.run_pure]
 unfold mEq at v;unfold BF at h;split at v
 ·rename_i j;split at h<;>try simp only [reduceCtorEq]at *
  obtain⟨p,q,rfl,rfl,rfl⟩:=qT h s u;exact g rfl rfl (fun op=>by cases op<;>rfl) (run_equalIn_bool' w 9999 t _ _ j)
 ·rename_i j;split at h<;>try simp only [reduceCtorEq]at *
  obtain⟨a,rfl,rfl⟩:=oH s h;cases (u:cJ σ X.F X.w .sH d);exact g rfl rfl (fun op=>by cases op<;>rfl) (RL j 9999 a w)
 ·rename_i j;split at h<;>try simp only [reduceCtorEq]at *
  obtain⟨a,n,c,rfl,rfl⟩:=oH s h;cases (u:cJ σ X.F X.w .aA d);exact g rfl rfl (fun op=>by cases op<;>rfl) (XV j 9999 a n c w)
 ·rename_i j;split at h<;>try simp only [reduceCtorEq]at *
  cases (u:cJ σ X.F X.w .jY d);rcases oH s h with⟨rfl,rfl⟩ | ⟨f,p,q,rfl,rfl⟩
  ·exact g rfl rfl (fun op=>by cases op<;>rfl) (XT j 9999 w)
  ·exact g rfl rfl (fun op=>by cases op<;>rfl) (XR j 9999 f p q w)
 ·rename_i j;split at h<;>try simp only [reduceCtorEq]at *
  cases (u:cJ σ X.F X.w .nP d);obtain⟨rfl,rfl⟩:=oH s h;refine g rfl rfl (fun op=>?_) ?_
  ·have M:(qw x||qw y)=ae:=v;exact Hv M op w
  ·exact XU j 9999 w
 ·rename_i e F j;obtain⟨xs,ys,rfl,rfl,h⟩:∃ xs ys,H=.a xs∧I=.a ys∧qp F xs ys=aa b:=by
   cases H<;>cases I<;>first | exact⟨_,_,rfl,rfl,h⟩ | simp at h
  simp only [BY,decide_eq_true_eq,Bool.not_eq_true']at v;obtain⟨W,U⟩:=v;obtain⟨us,rfl,O⟩:=s;obtain⟨J,rfl,S⟩:=u;have i:=qS h;have A:=zl W;have m:(isAgg t).run Q w=.ok ae w:=by simp [isAgg,aY j]
  have Y:us.take F.length=us:=ajl (by have:=O.len;omega);have Z:J.take F.length=J:=ajl (by have:=S.len;omega);obtain⟨a,c,B,E,z⟩:=zm 20 t F W 10000 (by omega) us J 0 _ _ b w h (by simpa [Y]using O) (by simpa [Z]using S);have K:a=.agg us.toArray:=by
   simp [part,m,cV A,akE,Y]at B;exact B.symm
  have L:c=.agg J.toArray:=by
   simp [part,m,cV A,akE,Z]at E;exact E.symm
  subst K;subst L;cases neg
  ·simp only [ajo,if_false,Sem.run_bind,run_eqGuard_agg w _ t x y _ _ U,Result.andThen_ok,run_eql_struct,z]
  ·simp only [if_true,Sem.run_bind,run_eqGuard_agg w _ t x y _ _ U,Result.andThen_ok,run_neq_struct,z]
 ·simp at v
end
section
variable{Q:Program}{σ:Nat→FuncId}{X:Wd}
theorem iv{x:V}{u:Value}(h:VR σ X x u){i:Int}(hi:fS x=aa i):∃ k,u=.int k i:=by
 unfold fS at hi;split at hi
 ·simp only [AI]at hi;subst hi;exact⟨_,VR.int h⟩
 ·simp at hi
theorem pL{x:V}{u:Value}(h:VR σ X x u){y i:Nat}(b:wR x y=aa i){g:Nat}(q:y≤g)(d:BoundsCode)(w:World) :
  i≤y∧(Instr.sliceBound u g d).run Q w=.ok i w:=by
 unfold wR at b;split at b
 ·rename_i j l;obtain⟨k,rfl⟩:=iv h l;split at b
  ·rename_i m;simp only [AI]at b;subst b;refine⟨by omega,?_⟩;have:0≤j∧j≤(g:Int):=by omega
   simp [Instr.sliceBound,asIntOf,this]
  ·simp at b
 ·simp at b
def OR(X:Wd)(σ:Nat→FuncId):Option V→Option Value→Prop
 | none,ab=>True| some x,aa u=>VR σ X x u| _,_=>False
theorem dH{lo hi mx:Option V}{d j mx':Option Value}(v:OR X σ lo d)(A:OR X σ hi j)(F:OR X σ mx mx'){len c l h m:Nat}
  (b:bE len c lo hi mx=aa (l,h,m)) {cap:Nat} (J:c≤cap) (O:len≤c) (s:Bool) (w:World) :
  (Instr.sliceBounds s len cap d j mx').run Q w=.ok (l,h,if mx.isSome then m else cap) w∧l≤h∧h≤m∧m≤c:=by
 unfold bE at b;cases mx with
 | some z=>
  cases mx'<;>simp only [OR]at F;rename_i U;simp only [alr,ajx]at b;obtain⟨S,M,b⟩:=b;obtain⟨N,E⟩:=pL (Q:=Q) F M J (if s then .slice3Acap else .slice3Alen) w;cases hi with
  | none=>simp at b
  | some y=>
   cases j<;>simp only [OR]at A;simp only [ajC,ajx]at b;obtain⟨L,H,b⟩:=b;obtain⟨I,g⟩:=pL (Q:=Q) A H (ai8 _) .slice3B w;cases lo with
   | none=>
    cases d<;>simp only [OR]at v;simp at b;obtain⟨rfl,rfl,rfl⟩:=b;simp [Instr.sliceBounds,E,g];omega
   | some x=>
    cases d<;>simp only [OR]at v;simp only [ajx]at b;obtain⟨K,q,b⟩:=b;obtain⟨B,u⟩:=pL (Q:=Q) v q (ai8 _) .slice3C w;simp at b;obtain⟨rfl,rfl,rfl⟩:=b;simp [Instr.sliceBounds,E,g,u];omega
 | none=>
  cases mx'<;>simp only [OR]at F;cases hi with
  | none=>
   cases j<;>simp only [OR]at A;cases lo with
   | none=>
    cases d<;>simp only [OR]at v;simp at b;obtain⟨rfl,rfl,rfl⟩:=b;simp [Instr.sliceBounds];omega
   | some x=>
    cases d<;>simp only [OR]at v;simp only [alr,ajC,ajx]at b;obtain⟨K,q,b⟩:=b;obtain⟨B,u⟩:=pL (Q:=Q) v q (ai8 _) .sliceB w;simp at b;obtain⟨rfl,rfl,rfl⟩:=b;simp [Instr.sliceBounds,u];omega
  | some y=>
   cases j<;>simp only [OR]at A;simp only [alr,ajC,ajx]at b;obtain⟨L,H,b⟩:=b;obtain⟨I,g⟩:=pL (Q:=Q) A H J (if s then .sliceAcap else .sliceAlen) w;cases lo with
   | none=>
    cases d<;>simp only [OR]at v;simp at b;obtain⟨rfl,rfl,rfl⟩:=b;simp [Instr.sliceBounds,g];omega
   | some x=>
    cases d<;>simp only [OR]at v;simp only [ajx]at b;obtain⟨K,q,b⟩:=b;obtain⟨B,u⟩:=pL (Q:=Q) v q (ai8 _) .sliceB w;simp at b;obtain⟨rfl,rfl,rfl⟩:=b;simp [Instr.sliceBounds,g,u];omega
theorem eh{t e:TypeId}{sz:Nat}(g:Q.underlying t=aa (.slice e))(b:dy Q e sz=ae){a:Option Addr}{len cap:Nat}{lo hi mx:Option Value}{l h m:Nat}{w:World}
  (d:(Instr.sliceBounds ae len cap lo hi mx).run Q w=.ok (l,h,m) w) :
  (Instr.sliceAt t (.slice a len cap) lo hi mx).run Q w=.ok (.slice (if m=l then a else a.map (·.add (l*sz))) (h-l) (m-l)) w:=by
 simp [Instr.sliceAt,Instr.slice,aY g,d,cV b]
theorem vq(hS:SR Q σ X){t e:TypeId}{sz:Nat}(g:Q.underlying t=aa (.slice e))(j:dy Q e sz=ae){x:V}{u:Value}(F:VR σ X x u)
  {lo hi mx:Option V} {b_ a8 mx':Option Value} (I:OR X σ lo b_) (J:OR X σ hi a8) (K:OR X σ mx mx') {v:V} (h:bG X.H sz x lo hi mx=aa v) :
  ∃ r,(Instr.sliceAt t u b_ a8 mx').run Q X.w=.ok r X.w∧VR σ X v r:=by
 unfold bG at h;split at h
 ·
  split at h
  ·rename_i r z;obtain⟨l,y,m⟩:=r;simp only [AI]at h;subst h;cases (F:cJ σ X.F X.w .aA u);obtain⟨q,N,O,S⟩:=dH (Q:=Q) I J K z (ai8 0) (ai8 0) ae X.w;refine⟨_,eh g j q,?_⟩;have:l=0∧y=0∧m=0:=by omega
   obtain⟨rfl,rfl,rfl⟩:=this;simp;exact cJ.aA
  ·simp at h
 ·split at h
  ·rename_i r z;obtain⟨l,y,m⟩:=r;simp only [AI]at h;subst h;cases (F:cJ σ X.F X.w .es u);obtain⟨q,N,O,S⟩:=dH (Q:=Q) I J K z (ai8 0) (ai8 0) ae X.w;refine⟨_,eh g j q,?_⟩;have:l=0∧y=0∧m=0:=by omega
   obtain⟨rfl,rfl,rfl⟩:=this;simp;exact cJ.es _
  ·simp at h
 ·
  rename_i cs n;split at h
  ·rename_i l y m z;have d_:(∃(c o cap:Nat) (us:List Value),n≤cap∧us.length=cs.length∧(∀ i,i<cs.length→X.F c (o+i))∧(∀(i:Nat) u,us[i]?=aa u→X.w.cell? ⟨c,o+i,ab⟩=aa u) ∧
     (∀(i:Nat) x u,cs[i]?=aa x→us[i]?=aa u→cJ σ X.F X.w x u)∧u=.slice (aa ⟨c,o,ab⟩) n cap)∨(cs=[]∧n=0∧∃ a cap,u=.slice (aa a) 0 cap):=by
    cases (F:cJ σ X.F X.w (.fs cs n) u)with
    | fs _ _ c o cap us d hl hF hc hr=>exact .inl ⟨c,o,cap,us,d,hl,hF,hc,hr,rfl⟩| fs0 a cap=>exact .inr ⟨rfl,rfl,a,cap,rfl⟩
   rcases d_ with⟨c,o,cap,us,d,hl,hF,hc,hr,rfl⟩ | ⟨rfl,rfl,a,cap,rfl⟩
   ·obtain⟨q,N,O,S⟩:=dH (Q:=Q) I J K z d (ai8 n) ae X.w;split at h
    ·rename_i B;simp only [AI]at h;subst h;rw [ba B.1]at q;obtain⟨_,rfl⟩:=B;refine⟨_,eh g j q,?_⟩;rw [show y-m=0 by omega,show m-m=0 by omega,ba rfl];exact cJ.es _
    ·simp only [AI]at h;subst h;refine⟨_,eh g j q,?_⟩;generalize U:(if mx.isSome=ae then m else cap)=M;have c9:y≤M:=by rw [←U];split<;>omega
     by_cases E:M=l
     ·rw [ba E,show y-l=0 by omega];simp;exact cJ.fs0 _ _
     ·rw [aR E];simp only [ajK,dW];refine cJ.fs _ _ c (o+l*sz) _ ((us.drop (l*sz)).take ((y-l)*sz)) (by omega) (by simp [hl]) (fun i hi=>?_) (fun i u g=>?_) (fun i x u F g=>?_)
      ·have:=hF (l*sz+i) (by simp at hi;omega);rwa [show o+(l*sz+i)=o+l*sz+i by omega]at this
      ·rw [ajO]at g;split at g
       ·rw [ajv]at g;have:=hc _ u g;rwa [show o+(l*sz+i)=o+l*sz+i by omega]at this
       ·simp at g
      ·rw [ajO]at g F;split at g
       ·rename_i hi;rw [ba hi]at F;rw [ajv]at g F;exact hr _ x u F g
       ·simp at g
   ·obtain⟨q,N,O,S⟩:=dH (Q:=Q) I J K z (Nat.zero_le cap) (ai8 0) ae X.w;have:l=0∧y=0∧m=0:=by omega
    obtain⟨rfl,rfl,rfl⟩:=this;refine⟨_,eh g j q,?_⟩;split at h
    ·rename_i B;simp only [AI]at h;subst h;simp [B.1];exact cJ.es _
    ·simp only [AI]at h;subst h;have ho:∀ M,∃ a',(if M=0 then aa a else Option.map (fun(x:Addr)=>x.add (0*sz)) (aa a))=aa a':=by intro M;split<;>exact⟨_,rfl⟩
     obtain⟨a',W⟩:=ho (if mx.isSome=ae then 0 else cap);rw [W];simp;exact cJ.fs0 _ _
  ·simp at h
 ·
  rename_i b o n cap ep s;simp only [VR,ig,CR,fC]at F;split at h
  ·rename_i A;rw [A]at F;obtain⟨L,hL,d,rfl⟩:=F;split at h
   ·rename_i l y m z;obtain⟨q,N,O,S⟩:=dH (Q:=Q) I J K z (ai8 cap) d ae X.w;have hm:(if mx.isSome=ae then m else cap)=m:=by
     split
     ·rfl
     ·rename_i hn;cases mx with
      | some _=>simp at hn| none=>unfold bE at z;cases hi<;>cases lo<;>simp [ajx]at z<;>omega
    rw [hm]at q;refine⟨_,eh g j q,?_⟩;split at h
    ·rename_i E;simp only [AI]at h;subst h;rw [ba E,show y-l=0 by omega,show m-l=0 by omega];exact cJ.es _
    ·rename_i E;simp only [AI]at h;subst h;rw [aR E];simp only [ajK,dW,VR,ig,CR,fC,A];exact⟨L,hL,by omega,rfl⟩
   ·simp at h
  ·rename_i H cs fl e st A;rw [A]at F;split at h
   ·rename_i hc;obtain⟨rfl,rfl,rfl⟩:=hc;have Z:=F.2.1 rfl rfl;cases st with
    | loc=>
     obtain⟨L,hL,k,rfl,hk,rfl⟩:=Z;simp only at h;split at h
     ·rename_i l y m z;obtain⟨q,N,O,S⟩:=dH (Q:=Q) I J K z (show n≤L.cap-k by omega) (ai8 n) ae X.w;refine⟨_,eh g j q,?_⟩;generalize U:(if mx.isSome=ae then m else L.cap-k)=M;have c9:y≤M:=by rw [←U];split<;>omega
      split at h
      ·rename_i B;simp only [AI]at h;subst h;rw [ba B.1]at U;subst U;obtain⟨_,rfl⟩:=B;rw [show y-m=0 by omega,show m-m=0 by omega,ba rfl];exact cJ.es _
      ·split at h
       ·rename_i B;simp only [AI]at h;subst h;rw [show y-l=0 by omega];have ho:∃ a',(if M=l then aa (⟨L.c,k*H,ab⟩:Addr)else Option.map (fun(x:Addr)=>x.add (l*H)) (aa ⟨L.c,k*H,ab⟩))=aa a':=by split<;>exact⟨_,rfl⟩
        obtain⟨a',W⟩:=ho;rw [W];exact cJ.fs0 _ _
       ·rename_i e_;split at h
        ·split at h
         ·simp only [AI]at h;subst h;simp only [VR,ig,CR,fC,A];exact⟨ai8 _,fun _ e=>by omega,_,_,_,rfl⟩
         ·simp at h
        ·rename_i hn;simp only [AI]at h;subst h;rw [aR hn]at U;have Y:(if M=l then aa (⟨L.c,k*H,ab⟩:Addr)else Option.map (fun(x:Addr)=>x.add (l*H)) (aa ⟨L.c,k*H,ab⟩))=aa ⟨L.c,k*H+l*H,ab⟩:=by
          split
          ·have:l=0:=by omega
           subst this;simp
          ·simp [dW]
         rw [Y];simp only [VR,ig,CR,fC,A];refine⟨ai8 _,fun _ _=>⟨L,hL,k+l,by rw [ajy],by omega,by rw [←U];congr 1;omega⟩,_,_,_,rfl⟩
     ·
      cases mx with
      | some _=>simp at h
      | none=>
       simp only at h;split at h
       ·rename_i l y m z;split at h
        ·rename_i d9;simp only [AI]at h;subst h;obtain⟨_,_,bO,a7,c_⟩:=hS.br b L hL;rw [A]at a7;cases a7;obtain⟨-,us,rest,-,hA,a_,f8,-,-⟩:=c_;have f7:cs.length≤L.cap*H:=by rw [←a_,ai7,←hA.1];omega
         have d:(cs.length-k*H) / H≤L.cap-k:=by
          refine Nat.div_le_of_le_mul ?_;rw [Nat.mul_sub,ak5 H L.cap,ak5 H k];omega
         obtain⟨q,N,O,S⟩:=dH (Q:=Q) I J K z d d9.1 ae X.w;refine⟨_,eh g j q,?_⟩;simp only [Option.isSome_none,ajo,if_false,ajK,dW];rw [aR (by omega)];simp only [VR,ig,CR,fC,A];refine⟨ai8 _,fun _ _=>⟨L,hL,k+l,by rw [ajy],by omega,by congr 1;omega⟩,_,_,_,rfl⟩
        ·simp at h
       ·simp at h
    | nil=>
     obtain⟨rfl,rfl,rfl⟩:=Z;simp only at h;split at h
     ·rename_i r z;obtain⟨l,y,m⟩:=r;simp only [AI]at h;subst h;obtain⟨q,N,O,S⟩:=dH (Q:=Q) I J K z (ai8 0) (ai8 0) ae X.w;refine⟨_,eh g j q,?_⟩;have:l=0∧y=0∧m=0:=by omega
      obtain⟨rfl,rfl,rfl⟩:=this;simp;exact cJ.aA
     ·simp at h
    | es=>
     obtain⟨rfl,rfl,a,rfl⟩:=Z;simp only at h;split at h
     ·rename_i r z;obtain⟨l,y,m⟩:=r;simp only [AI]at h;subst h;obtain⟨q,N,O,S⟩:=dH (Q:=Q) I J K z (ai8 0) (ai8 0) ae X.w;refine⟨_,eh g j q,?_⟩;have:l=0∧y=0∧m=0:=by omega
      obtain⟨rfl,rfl,rfl⟩:=this;simp;exact cJ.es _
     ·simp at h
   ·simp at h
  ·simp at h
 ·simp at h
end
section
variable{Q:Program}{σ:Nat→FuncId}{X:Wd}
theorem Iy{t:TypeId}(A:Q.underlying t=aa .string){x:V}{u:Value}(B:VR σ X x u){lo hi:Option V}{d b:Option Value}(g:OR X σ lo d)(j:OR X σ hi b)
  {v:V} (h:wJ x lo hi=aa v) (w:World):∃ r,(Instr.sliceAt t u d b ab).run Q w=.ok r w∧VR σ X v r:=by
 unfold wJ at h;split at h
 ·rename_i s;have:=VR.str B;subst this;split at h
  ·rename_i l z m y;simp only [AI]at h;subst h;obtain⟨q,_⟩:=dH (Q:=Q) (mx:=ab) (mx':=ab) g j trivial y (ai8 _) (ai8 _) ag w;exact⟨.string (s.extract l z),by simp [Instr.sliceAt,Instr.slice,aY A,q],VR.mkStr _⟩
  ·simp at h
 ·simp at h
theorem Ix(hS:SR Q σ X){t e:TypeId}{n sz:Nat}(j:Q.underlying t=aa (.array n e))(F:dy Q e sz=ae){x:V}{u:Value}(s:VR σ X x u)
  {lo hi mx:Option V} {A z mx':Option Value} (H:OR X σ lo A) (I:OR X σ hi z) (J:OR X σ mx mx') {v:V} (h:mC X.H n sz x lo hi mx=aa v) :
  ∃ r,(Instr.sliceAt t u A z mx').run Q X.w=.ok r X.w∧VR σ X v r:=by
 have run:∀(a:Addr) l q m,(Instr.sliceBounds ag n n A z mx').run Q X.w=.ok (l,q,m) X.w →
   (Instr.sliceAt t (.pointer (aa a)) A z mx').run Q X.w=.ok (.slice (aa (if m=l then a else a.add (l*sz))) (q-l) (m-l)) X.w:=by
  intro a l q m y;simp [Instr.sliceAt,aY j,Instr.sureAddr,y,cV F]
 have mm:∀ {l q m:Nat},bE n n lo hi mx=aa (l,q,m)→(if mx.isSome=ae then m else n)=m:=by
  intro l q m y;split
  ·rfl
  ·rename_i Y;cases mx with
   | some _=>simp at Y| none=>unfold bE at y;cases hi<;>cases lo<;>simp [ajx]at y<;>omega
 unfold mC at h;split at h
 ·rename_i b d ep;obtain⟨L,S,s⟩:=s;split at h
  ·rename_i cs fl E;rw [E]at s;simp only at s;subst s;split at h
   ·rename_i l q m y;obtain⟨B,K,M,N⟩:=dH (Q:=Q) H I J y (ai8 n) (ai8 n) ag X.w;rw [mm y]at B;split at h
    ·refine⟨_,run _ _ _ _ B,?_⟩;split at h
     ·rename_i g;simp only [AI]at h;subst h;rw [ba g,show q-l=0 by omega,show m-l=0 by omega];exact cJ.es _
     ·rename_i g;simp only [AI]at h;subst h;rw [aR g];simp only [dW,VR,ig,CR,fC,E];exact⟨L,S,by omega,rfl⟩
    ·simp at h
   ·simp at h
  ·simp at h
 ·rename_i cs d;cases (s:cJ σ X.F X.w (.fp cs d) u)with
  | fp _ _ c o us W O U Z=>
   split at h
   ·rename_i l q m y;obtain⟨B,K,M,N⟩:=dH (Q:=Q) H I J y (ai8 n) (ai8 n) ag X.w;rw [mm y]at B;split at h
    ·refine⟨_,run _ _ _ _ B,?_⟩;split at h
     ·rename_i g;simp only [AI]at h;subst h;rw [ba g,show q-l=0 by omega,show m-l=0 by omega];exact cJ.es _
     ·rename_i g;simp only [AI]at h;subst h;rw [aR g,dW];refine cJ.fs _ _ c (o+d+l*sz) _ ((us.drop (d+l*sz)).take ((q-l)*sz)) (by omega) (by simp [W]) (fun i hi=>?_) (fun i u j=>?_) (fun i x u s j=>?_)
      ·have:=O (d+l*sz+i) (by simp at hi;omega);rwa [show o+(d+l*sz+i)=o+d+l*sz+i by omega]at this
      ·rw [ajO]at j;split at j
       ·rw [ajv]at j;have:=U _ u j;rwa [show o+(d+l*sz+i)=o+d+l*sz+i by omega]at this
       ·simp at j
      ·rw [ajO]at j s;split at j
       ·rename_i hi;rw [ba hi]at s;rw [ajv]at j s;exact Z _ x u s j
       ·simp at j
    ·simp at h
   ·simp at h
 ·simp at h
theorem Ab{t:TypeId}{l:Array Field}(I:Q.underlying t=aa (.struct l)){i:Nat}{f:Field}(E:l[i]?=aa f)(j:(Q.info? f.type).any (fun i=>i.size != 0)=ae)
  {x:V} {u:Value} (g:VR σ X x u) {v:V} (h:mT f.offset x=aa v) (w:World):∃ r,(Instr.fieldAt t u i).run Q w=.ok r w∧VR σ X v r:=by
 have run:∀ a:Addr,(Instr.fieldAt t (.pointer (aa a)) i).run Q w=.ok (.pointer (aa (a.add f.offset))) w:=by
  intro a;cases hi:Q.info? f.type with
  | none=>simp [hi]at j
  | some J=>
   simp [hi]at j;simp [Instr.fieldAt,aY I,E,Instr.sureAddr,fieldPlace,Go.sizeOf,typeInfo,hi,j]
 unfold mT at h;split at h
 ·rename_i b o K;simp only [AI]at h;subst h;obtain⟨L,m,g⟩:=g;split at g
  ·rename_i d;subst g;exact⟨_,run _,L,m,by rw [d,dW]⟩
  ·rename_i s cs fl e d;obtain⟨q,y,a,rfl⟩:=g;refine⟨_,run _,L,m,?_⟩;rw [d];refine⟨q,fun B=>?_,_,rfl⟩;have:=y B;simp only [Value.pointer.injEq,AI]at this;rw [this,dW]
  ·exact g.elim
 ·rename_i cs o;simp only [AI]at h;subst h;cases (g:cJ σ X.F X.w (.fp cs o) u)with
  | fp _ _ c o' us F z A H=>
   refine⟨_,run _,?_⟩;rw [dW,Nat.add_assoc];exact cJ.fp cs _ c o' us F z A H
 ·simp at h
theorem Ag{t e:TypeId}{sz:Nat}{q:Option Nat}(I:dy Q e sz=ae)
  (H:(q=ab∧Q.underlying t=aa (.slice e))∨∃ n,q=aa n∧Q.underlying t=aa (.array n e)) {x i:V} {u j:Value} (m:VR σ X x u) (hi:VR σ X i j)
  {v:V} (h:bz X.H sz q x i=aa v):∃ r,(Instr.indexAt t u j).run Q X.w=.ok r X.w∧VR σ X v r:=by
 unfold bz at h;split at h
 ·simp at h
 rename_i k hk;obtain⟨S,rfl⟩:=iv hi hk;split at h
 ·rename_i N;have z:q=ab→∀(a:Addr) (l c:Nat),k<l→(Instr.indexAt t (.slice (aa a) l c) (.int S k)).run Q X.w=.ok (.pointer (aa (a.add (k.toNat*sz)))) X.w:=by
   intro J a l c g;rcases H with⟨_,H⟩ | ⟨n,A,_⟩
   ·simp [Instr.indexAt,asIntOf,aY H,N,g,cV I]
   ·rw [J]at A;simp at A
  have y:∀ n,q=aa n→∀(a:Addr),k<n→(Instr.indexAt t (.pointer (aa a)) (.int S k)).run Q X.w=.ok (.pointer (aa (a.add (k.toNat*sz)))) X.w:=by
   intro n J a g;rcases H with⟨A,_⟩ | ⟨n',A,H⟩
   ·rw [J]at A;simp at A
   ·rw [J]at A;simp only [AI]at A;subst A;simp [Instr.indexAt,asIntOf,aY H,Instr.sureAddr,N,g,cV I]
  split at h
  ·rename_i b o l c W s;split at h
   ·rename_i g;simp only [VR,ig,CR,fC]at m;split at h
    ·rename_i d;rw [d]at m;obtain⟨L,E,_,rfl⟩:=m;simp only [AI]at h;subst h;exact⟨_,z rfl _ _ _ g,L,E,by rw [d,dW]⟩
    ·rename_i s' cs fl U d;rw [d]at m;split at h
     ·rename_i F;simp only [AI]at h;subst h;obtain⟨L,E,kq,_,_,rfl⟩:=m.2.1 F.1 F.2;exact⟨_,z rfl _ _ _ g,L,E,by rw [d,dW];exact⟨m.1,fun _=>rfl,_,rfl⟩⟩
     ·simp at h
    ·simp at h
   ·simp at h
  ·rename_i cs l;split at h
   ·rename_i g;simp only [AI]at h;subst h;cases (m:cJ σ X.F X.w (.fs cs l) u)with
    | fs _ _ c o cap us O B K F M=>
     refine⟨_,z rfl _ _ _ g,?_⟩;rw [dW];exact cJ.fp cs _ c o us B K F M
    | fs0 a cap=>simp at g;omega
   ·simp at h
  ·rename_i n b o W;split at h
   ·rename_i g;simp only [AI]at h;subst h;obtain⟨L,E,m⟩:=m;split at m
    ·rename_i d;subst m;exact⟨_,y n rfl _ g,L,E,by rw [d,dW]⟩
    ·rename_i s cs fl U d;obtain⟨Y,Z,a,rfl⟩:=m;refine⟨_,y n rfl _ g,L,E,?_⟩;rw [d];refine⟨Y,fun he=>?_,_,rfl⟩;have:=Z he;simp only [Value.pointer.injEq,AI]at this;rw [this,dW]
    ·exact m.elim
   ·simp at h
  ·rename_i n cs o;split at h
   ·rename_i g;simp only [AI]at h;subst h;cases (m:cJ σ X.F X.w (.fp cs o) u)with
    | fp _ _ c o' us B K F M=>
     refine⟨_,y n rfl _ g,?_⟩;rw [dW,Nat.add_assoc];exact cJ.fp cs _ c o' us B K F M
   ·simp at h
  ·simp at h
 ·simp at h
theorem tj{t:TypeId}{n:Option Nat}(y:th Q t n=ae){xs:List C}{us:List Value}(m:A2 (CR σ X) xs us)(b:Nat){v:V}(d:aW n (xs.drop b)=aa v)(w:World) :
  ∃ u,(part t us.toArray b).run Q w=.ok u w∧VR σ X v u:=by
 obtain⟨q,s⟩:=Ch y w;cases n with
 | none=>
  cases g:xs.drop b with
  | nil=>rw [g]at d;simp [aW]at d
  | cons x cs=>
   rw [g]at d;simp only [aW,AI]at d;subst d;obtain⟨u,z,l⟩:=(m.drop b).get (i:=0) (x:=x) (by rw [g];rfl);have j:us[b]?=aa u:=by simpa [ajv]using z
   exact⟨u,by simp [part,q,j],l⟩
 | some n=>
  simp only [aW]at d;split at d
  ·simp only [AI]at d;subst d;exact⟨.agg ((us.drop b).take n).toArray,by simp [part,q,cV (s n rfl),akE],_,rfl,(m.drop b).take n⟩
  ·simp at d
theorem Hr{t:TypeId}{b:Array Field}(q:Q.underlying t=aa (.struct b)){i:Nat}{f:Field}(l:b[i]?=aa f){n:Option Nat}(m:th Q f.type n=ae)
  {x:V} {u:Value} (s:VR σ X x u) {v:V} (h:rS f.offset n x=aa v) (w:World):∃ r,(Instr.field t u i).run Q w=.ok r w∧VR σ X v r:=by
 unfold rS at h;split at h
 ·obtain⟨us,rfl,d⟩:=s;obtain⟨r,g,j⟩:=tj m d f.offset h w;exact⟨r,by simp [Instr.field,aY q,l,asAgg,g],j⟩
 ·simp at h
theorem RT{t e:TypeId}{len sz:Nat}(y:Q.underlying t=aa (.array len e))(b:dy Q e sz=ae){n:Option Nat}(s:th Q e n=ae)
  {x i:V} {u j:Value} (z:VR σ X x u) (hi:VR σ X i j) {v:V} (h:BM len sz n x i=aa v) (w:World):∃ r,(Instr.index t u j).run Q w=.ok r w∧VR σ X v r:=by
 unfold BM at h;split at h
 ·rename_i xs k q;obtain⟨A,rfl⟩:=iv hi q;split at h
  ·rename_i m;obtain⟨us,rfl,d⟩:=z;obtain⟨r,g,l⟩:=tj s d _ h w;exact⟨r,by simp [Instr.index,asIntOf,aY y,m,cV b,g],l⟩
  ·simp at h
 ·simp at h
theorem RU{t:TypeId}(m:Q.underlying t=aa .string){x i:V}{u j:Value}(q:VR σ X x u)(hi:VR σ X i j){v:V}(h:BN x i=aa v)(w:World) :
  ∃ r,(Instr.index t u j).run Q w=.ok r w∧VR σ X v r:=by
 unfold BN at h;split at h
 ·rename_i s k l;obtain⟨y,rfl⟩:=iv hi l;have:=VR.str q;subst this;split at h
  ·rename_i d;simp only [IN]at h;obtain⟨b,g,rfl⟩:=h;exact⟨_,by simp [Instr.index,asIntOf,aY m,d,g],VR.mkInt _ _⟩
  ·simp at h
 ·simp at h
end
section
variable{Q:Program}{σ:Nat→FuncId}{X:Wd}
theorem A2.over{α β:Type}{R:α→β→Prop}{cs xs:List α}{us d:List β}(h:A2 R cs us)(b:A2 R xs d)(off:Nat):A2 R (over cs off xs) (over us off d):=by
 unfold Km.over;rw [b.len];exact((h.take off).append b).append (h.drop _)
theorem ze{α:Type}(cs:List α)(b:Nat)(xs:List α)(h:b+xs.length≤cs.length):(over cs b xs).length=cs.length:=by
 simp [over];omega
theorem yD(d:Nat):∀(g:List Value) (k:Nat) (b:List Value),d+k+g.length≤b.length →
  ((g.zipIdx k).foldl (fun(cs:Array Value) p=>cs.setIfInBounds (d+p.2) p.1) b.toArray)=(over b (d+k) g).toArray
 | [],k,b,_=>by simp [over]
 | v::g,k,b,h=>by
  simp only [List.zipIdx_cons,akP];have j:b.toArray.setIfInBounds (d+k) v=(b.set (d+k) v).toArray:=by simp
  rw [j,yD d g (k+1) _ (by simp at h ⊢;omega)]
  congr 1
  unfold over;simp only [ajL]at h ⊢;rw [List.take_set,List.drop_set_of_lt (by omega),show d+(k+1)=d+k+1 by omega,show d+k+1+g.length=d+k+(g.length+1) by omega];rw [alj (by omega)];have l:(List.take (d+k) b).length=d+k:=by simp;omega
  have e:(List.take (d+k) b++[b[d+k]]).set (d+k) v=List.take (d+k) b++[v]:=by
   rw [List.set_append,aR (by omega),l];simp
  rw [e];simp
theorem ou{x:V}{u:Value}(b:VR σ X x u){xs:List C}(h:x.cells?=aa xs):∃ us,u.cells=us.toArray∧A2 (CR σ X) xs us:=by
 unfold V.cells? at h;split at h
 ·rename_i x;simp only [AI]at h;subst h;have d:=CR.one σ b;refine⟨[u],?_,A2.cons b A2.nil⟩;cases u<;>simp_all [Value.cells,Value.oneCell']
 ·simp only [AI]at h;subst h;obtain⟨us,rfl,h⟩:=b;exact⟨us,rfl,h⟩
 ·simp at h
theorem mU{a:Act}{aB:T}(z:RR σ X aB a.tmps){place:Nat→Option (Nat × Nat)}:∀ {qs:List (Nat × Nat × Arg)} {ps:List (Nat × Operand)},
  A2 (fun(q:Nat × Nat × Arg) (p:Nat × Operand)=>place p.1=aa (q.1,q.2.1)∧mA σ q.2.2 p.2=ae) qs ps→∀ {cs cs':List C} {us:List Value},A2 (CR σ X) cs us →
  eZ aB cs qs=aa cs'→∃ d,Instr.fill place us.toArray (ps.map fun p=>(p.1,a.eval p.2))=aa d.toArray∧A2 (CR σ X) cs' d
 | [],[],_,cs,cs',us,h,b=>by
  simp only [eZ,AI]at b;subst b;exact⟨us,rfl,h⟩
 | [],_::_,g,_,_,_,_,_=>by have:=g.len;simp at this
 | _::_,[],g,_,_,_,_,_=>by have:=g.len;simp at this
 | (l,n,x)::qs,(i,y)::ps,g,cs,cs',us,h,b=>by
  obtain⟨⟨u,v⟩,m⟩:=g.of_cons;simp only at u v;simp only [eZ]at b;split at b
  ·rename_i xs s;split at b
   ·rename_i I;obtain⟨H,F,j⟩:=ou (bN z v) s;obtain⟨d,A,B⟩:=mU z m (h.over j l) b;refine⟨d,?_,B⟩;have J:=j.len;have E:=h.len;simp only [List.map_cons,Instr.fill,u,F];rw [aR (by simp;omega)];rw [←A]
    congr 1
    have:=yD l H 0 us (by omega);simp only [Nat.add_zero]at this;rw [←this];simp [←Array.foldl_toList]
   ·simp at b
  ·simp at b
theorem eI{t:TypeId}{zs:List FC}(h:km Q t zs=ae)(w:World):∃ z us,(zeroValue t).run Q w=.ok z w∧z.cells=us.toArray∧A2 (CR σ X) (zs.map .f) us ∧
  ∃ i,Q.info? t=aa i∧i.zero=aa z:=by
 unfold km at h;cases hi:Q.info? t with
 | none=>simp [hi]at h
 | some i=>
  simp only [hi,Option.any_some]at h;split at h
  ·rename_i z d;refine⟨z,z.cells.toList,by simp [zeroValue,typeInfo,hi,d],by simp,A2.map ((eA h).ko fun x u b=>At b),i,rfl,d⟩
  ·simp at h
end
section
variable{Q:Program}{σ:Nat→FuncId}{X:Wd}
theorem kY{b:CK}{t:TypeId}(h:HW Q b t=ae):(b=.int∧∃ j,Q.underlying t=aa (.int j))∨(b=.str∧Q.underlying t=aa .string)∨(b=.bool∧Q.underlying t=aa .bool):=by
 unfold HW at h;split at h
 ·exact .inl ⟨rfl,_,by assumption⟩
 ·exact .inr (.inl ⟨rfl,by assumption⟩)
 ·exact .inr (.inr ⟨rfl,by assumption⟩)
 ·simp at h
theorem rO{l:CK}{d:TypeDesc}(m:(l=.int∧∃ j,d=.int j)∨(l=.str∧d=.string)∨(l=.bool∧d=.bool)){F:Nat→Nat→Prop}{w:World}{x y:FC}{u v:Value}
  (q:cJ σ F w x u) (s:cJ σ F w y v) {b:Bool} (h:eqK l x y=aa b):Instr.sameNow d u v=aa b:=by
 unfold eqK at h;split at h
 ·cases q;cases s;rcases m with⟨_,j,rfl⟩ | ⟨g,_⟩ | ⟨g,_⟩
  ·simpa [Instr.sameNow]using h
  ·cases g
  ·cases g
 ·cases q;cases s;rcases m with⟨g,_⟩ | ⟨_,rfl⟩ | ⟨g,_⟩
  ·cases g
  ·simpa [Instr.sameNow]using h
  ·cases g
 ·cases q;cases s;rcases m with⟨g,_⟩ | ⟨g,_⟩ | ⟨_,rfl⟩
  ·cases g
  ·cases g
  ·simpa [Instr.sameNow]using h
 ·simp at h
theorem uW{l:CK}{d:TypeDesc}(q:(l=.int∧∃ j,d=.int j)∨(l=.str∧d=.string)∨(l=.bool∧d=.bool)){F:Nat→Nat→Prop}{w:World}{k:FC}{B:Value}(v:cJ σ F w k B) :
  ∀ {R:C→Value→Prop} {y:List (FC × C)} {b:List MapEntry},A2 (fun e m=>cJ σ F w e.1 m.key∧R e.2 m.val) y b→∀ {r:Option C} (i:Nat),nN l k y=aa r →
  match r with
  | none=>Instr.findNow d B b i=aa ab| some x=>∃ j u,Instr.findNow d B b i=aa (aa (j,u))∧R x u
 | _,[],[],_,r,i,h=>by
  simp only [nN,AI]at h;subst h;rfl
 | _,[],_::_,g,_,_,_=>by have:=g.len;simp at this
 | _,_::_,[],g,_,_,_=>by have:=g.len;simp at this
 | _,e::y,m::b,g,r,i,h=>by
  obtain⟨⟨z,E⟩,A⟩:=g.of_cons;simp only [nN]at h;split at h
  ·rename_i s;simp only [AI]at h;subst h;exact⟨i,m.val,by simp [Instr.findNow,rO q v z s],E⟩
  ·rename_i s;have:=uW q v A (i+1) h;cases r with
   | none=>simpa [Instr.findNow,rO q v z s]using this| some x=>obtain⟨j,u,H,I⟩:=this;exact⟨j,u,by simp [Instr.findNow,rO q v z s,H],I⟩
  ·simp at h
theorem gT{l:CK}{t:TypeId}(h:HW Q l t=ae){k:FC}{F:Nat→Nat→Prop}{q:World}{g:Value}(m:cJ σ F q k g)(hi:isKey l k=ae)(b:Bool)(w:World) :
  (Instr.checkKey b 10000 t g).run Q w=.ok () w:=by
 have:∀ n,(Instr.checkKey b (n+1) t g).run Q w=.ok () w:=by
  intro n;rcases kY h with⟨rfl,j,d⟩ | ⟨rfl,d⟩ | ⟨rfl,d⟩<;>cases m<;>simp_all [isKey,Instr.checkKey,aY d]
 exact this 9999
theorem An{z:FC}{r:Option C}{u:Value}{ok:Bool}(b:ok=(pN z).isSome)(h:ig σ X ((r.map mV).getD (zV ((pN z).getD z))) u):VR σ X (lkR z r) (if ok=ae then .tuple #[u,.bool r.isSome]else u):=by
 unfold lkR;cases d:pN z with
 | none=>rw [d]at h b;subst b;exact VR.TF σ h| some g=>rw [d]at h b;subst b;exact⟨[u,.bool r.isSome],rfl,A2.cons h (A2.cons (cJ.bool _) A2.nil)⟩
theorem HT(hS:SR Q σ X){t kt e:TypeId}{J:CK}(Y:Q.underlying t=aa (.map kt e))(K:HW Q J kt=ae){z:FC}{ok:Bool}(H:ok=(pN z).isSome)(hz:km Q e (qd ((pN z).getD z))=ae)
  (l:(Q.info? e).any (fun i=>i.zero.any fun u=>if A8 ((pN z).getD z)then abJ u else acx u)=ae) {m k:V} {um uk:Value} (hm:VR σ X m um) (s:VR σ X k uk) {v:V} (h:gQ X.H J z m k=aa v) :
  ∃ u,(Instr.lookup t um uk ok).run Q X.w=.ok u X.w∧VR σ X v u:=by
 obtain⟨I,zs,M,A,B,i0,U,W⟩:=eI (σ:=σ) (X:=X) hz X.w;have N:ig σ X (zV ((pN z).getD z)) I:=by
  simp only [U,Option.any_some,W]at l;generalize (pN z).getD z=z0 at *;cases O:A8 z0 with
  | true=>
   rw [ad7 O];simp only [O,if_true]at l;cases I with
   | agg cs=>exact⟨zs,by simp only [Value.cells]at A;rw [A],B⟩
   | _=>simp [abJ]at l
  | false=>
   obtain⟨e1,e2⟩:=ad8 O;rw [e1];rw [e2]at B;simp only [O,ajo,if_false]at l;obtain⟨u,Z,a7⟩:=B.get (i:=0) (x:=.f z0) rfl;have hl:=B.len;have a8:zs=[u]:=by
    match zs,hl,Z with
    | [y],_,h=>simp at h;rw [h]
   subst a8;cases I with
   | agg cs=>simp [acx]at l| _=>simp only [Value.cells]at A;have:=congrArg Array.toList A;simp at this;subst this;exact a7
 unfold gQ at h;split at h
 ·rename_i kc;split at h
  ·rename_i q;simp only [AI]at h;subst h;cases (hm:cJ σ X.F X.w .oV um);refine⟨if ok=ae then .tuple #[I,.bool ag]else I,?_,An (r:=ab) H N⟩;rcases kY K with⟨_,j,g⟩ | ⟨_,g⟩ | ⟨_,g⟩ <;>
    simp [Instr.lookup,aY Y,gT K s q,Instr.findKey,aY g,Instr.findNow,M]
  ·simp at h
 ·rename_i b kc;split at h
  ·rename_i es hb;split at h
   ·rename_i q;simp only [IN]at h;obtain⟨r,hr,rfl⟩:=h;obtain⟨L,hL,_,rfl⟩:=hm;obtain⟨_,_,bO,F,S⟩:=hS.br b L hL;rw [hb]at F;simp only [AI]at F;subst F;obtain⟨a_,h1,h2,_⟩:=S;have go:∀ d,Q.underlying kt=aa d→((J=.int∧∃ j,d=.int j)∨(J=.str∧d=.string)∨(J=.bool∧d=.bool))→∃ u,(Instr.lookup t (.map (aa L.c)) uk ok).run Q X.w=.ok u X.w∧VR σ X (lkR z r) u:=by
     intro d g hd;have h3:=uW (R:=fun c u=>ig σ X (mV c) u) hd s h2 0 hr;cases r with
     | none=>
      refine⟨if ok=ae then .tuple #[I,.bool ag]else I,?_,An (r:=ab) H N⟩;simp [Instr.lookup,aY Y,getObj,Sem.run,h1,gT K s q,Instr.findKey,aY g,h3,M]
     | some x=>
      obtain⟨j,u,E,h5⟩:=h3;refine⟨if ok=ae then .tuple #[u,.bool ae]else u,?_,An (r:=aa x) H h5⟩;simp [Instr.lookup,aY Y,getObj,Sem.run,h1,gT K s q,Instr.findKey,aY g,E]
    rcases kY K with⟨E,j,g⟩ | ⟨E,g⟩ | ⟨E,g⟩
    ·exact go _ g (.inl ⟨E,j,rfl⟩)
    ·exact go _ g (.inr (.inl ⟨E,rfl⟩))
    ·exact go _ g (.inr (.inr ⟨E,rfl⟩))
   ·simp at h
  ·simp at h
 ·simp at h
end
section
variable{Q:Program}{σ:Nat→FuncId}{X:Wd}
theorem dX{s:Sem Value}{u:Value}{w w':World}(h:s.run Q w=.ok u w'):(do pure (Next.value (←s)):Sem Next).run Q w=.ok (.value u) w':=by simp [h]
theorem qg{a:Act}{aB:T}(b:RR σ X aB a.tmps){x:Option Arg}{y:Option Operand}(h:mO σ x y=ae):OR X σ (x.map (·.ev aB)) (y.map a.eval):=by
 rcases af' b h with⟨rfl,rfl⟩ | ⟨g,j,rfl,rfl,d⟩
 ·trivial
 ·exact d
theorem gP{t:TypeId}{p:TypeId→Bool}(h:(ma Q t).any p=ae):∃ e,Q.underlying t=aa (.slice e)∧p e=ae:=by
 unfold ma at h;split at h
 ·exact⟨_,by assumption,by simpa using h⟩
 ·simp at h
theorem kj{x:C}{u:Value}(b:CR σ X x u){l:Nat}(h:bg X.H x=aa l):∃ a c,u=.slice a l c:=by
 unfold bg at h;split at h<;>try simp only [AI,reduceCtorEq]at h
 ·simp only [CR,fC]at b;split at h
  ·rename_i d;rw [d]at b;obtain⟨L,_,_,rfl⟩:=b;simp only [AI]at h;subst h;exact⟨_,_,rfl⟩
  ·rename_i s cs fl e st d;rw [d]at b;split at h
   ·rename_i g;have:=b.2.1 g.1 g.2;simp only [AI]at h;subst h;cases st with
    | loc=>obtain⟨L,_,k,_,_,rfl⟩:=this;exact⟨_,_,rfl⟩
    | nil=>obtain⟨_,rfl,rfl⟩:=this;exact⟨_,_,rfl⟩
    | es=>obtain⟨_,rfl,a,rfl⟩:=this;exact⟨_,_,rfl⟩
   ·simp at h
  ·simp at h
 ·subst h;cases (b:cJ σ X.F X.w .aA u);exact⟨_,_,rfl⟩
 ·subst h;cases (b:cJ σ X.F X.w .es u);exact⟨_,_,rfl⟩
 ·subst h;cases (b:cJ σ X.F X.w (.fs _ _) u)<;>exact⟨_,_,rfl⟩
theorem lE(K:SR Q σ X){sz:Nat}{x:C}{u:Value}(y:CR σ X x u){l:Nat}(m:bg X.H x=aa l){cs:List C}(h:cH X.H sz x=aa cs) :
  ∃ us,(Builtin.firstCells sz l u).run Q X.w=.ok us.toArray X.w∧A2 (CR σ X) cs us∧cs.length=l*sz:=by
 have row:∀(c o:Nat) (us:List Value) (cap:Nat),us.length=l*sz→(∀(i:Nat) u,us[i]?=aa u→X.w.cell? ⟨c,o+i,ab⟩=aa u) →
   (Builtin.firstCells sz l (.slice (aa ⟨c,o,ab⟩) l cap)).run Q X.w=.ok us.toArray X.w:=by
  intro c o us cap g F;have:=run_loadCells_list (P:=Q) X.w ⟨c,o,ab⟩ us (fun j v N=>by rw [dW];exact F j v N);rw [g]at this;simpa [Builtin.firstCells]using this
 unfold cH at h;split at h<;>try simp only [reduceCtorEq]at h
 ·rename_i b o I cap S s;simp only [CR,fC]at y;simp only [bg]at m;split at h
  ·rename_i cs' fl E;rw [E]at y m;simp only [AI]at m;subst m;obtain⟨L,J,_,rfl⟩:=y;split at h
   ·rename_i q;simp only [AI]at h;subst h;obtain⟨_,_,bO,d,z⟩:=K.br b L J;rw [E]at d;simp only [AI]at d;subst d;obtain⟨us,H,B,_⟩:=z;have:=B.len;refine⟨(us.drop o).take (I*sz),row _ _ _ _ (by simp;omega) (fun i u g=>?_),(B.drop o).take _,by simp;omega⟩;rw [dS H];rw [ajO]at g;split at g
    ·rw [ajv]at g;exact g
    ·simp at g
   ·simp at h
  ·rename_i W cs' fl e st E;rw [E]at y m;split at h
   ·rename_i F;obtain⟨rfl,rfl,q⟩:=F;simp only [and_self,if_true,AI]at m;subst m;simp only [AI]at h;subst h;have A:=y.2.1 rfl rfl;cases st with
    | loc=>
     obtain⟨L,J,k,_,_,rfl⟩:=A;obtain⟨_,_,bO,d,z⟩:=K.br b L J;rw [E]at d;simp only [AI]at d;subst d;obtain⟨_,us,rest,H,B,_⟩:=z;have:=B.len;refine⟨(us.drop o).take (I*sz),row _ _ _ _ (by simp;omega) (fun i u g=>?_),(B.drop o).take _,by simp;omega⟩;rw [dS H];rw [ajO]at g;split at g
     ·rw [ajv]at g;rw [AT (IS.1 g).1];exact g
     ·simp at g
    | nil=>
     obtain⟨rfl,rfl,rfl⟩:=A;exact⟨[],by simp [Builtin.firstCells],by simpa using A2.nil,by simp⟩
    | es=>
     obtain⟨rfl,rfl,a,rfl⟩:=A;exact⟨[],by simp [Builtin.firstCells,loadCells,loadCellsFrom],by simpa using A2.nil,by simp⟩
   ·simp at h
  ·simp at h
 ·simp only [AI]at h;subst h;simp only [bg,AI]at m;subst m;cases (y:cJ σ X.F X.w .aA u);exact⟨[],by simp [Builtin.firstCells],A2.nil,by simp⟩
 ·simp only [AI]at h;subst h;simp only [bg,AI]at m;subst m;cases (y:cJ σ X.F X.w .es u);exact⟨[],by simp [Builtin.firstCells,loadCells,loadCellsFrom],A2.nil,by simp⟩
 ·rename_i cs' I;simp only [bg,AI]at m;subst m;split at h
  ·rename_i q;simp only [AI]at h;subst h;cases (y:cJ σ X.F X.w (.fs cs' I) u)with
   | fs _ _ c o cap us M O U F H=>
    exact⟨us,row _ _ _ _ (by omega) F,A2.map ⟨by omega,H⟩,by simp;omega⟩
   | fs0 a cap=>exact⟨[],by simp [Builtin.firstCells,loadCells,loadCellsFrom],A2.nil,by simp⟩
  ·simp at h
theorem XE{v:V}{u:Value}(h:VR σ X v u){c:C}(l:tA v=aa c):fC σ X c u:=by
 unfold tA at l;split at l
 ·simp at l
 ·simp at l
 ·rename_i x q m;simp only [AI]at l;subst l;cases x with
  | cl f j=>exact absurd rfl (q f j)| bm f j=>exact absurd rfl (m f j)| mi b=>exact h| f y=>exact h| ptr a b c=>exact h| sl a b c d e g=>exact h| yl b=>exact h| mp b=>exact h| it b=>exact h
 ·simp at l
theorem xV{xs:List V}{us:List Value}(h:A2 (VR σ X) xs us){cs:List C}(b:aZ tA xs=aa cs):A2 (fC σ X) cs us:=by
 induction xs generalizing us cs with
 | nil=>
  simp only [aZ,AI]at b;subst b
  match us,h.len with
  | [],_=>exact A2.nil
 | cons x xs m=>
  match us,h with
  | u::us,h=>
   obtain⟨g,j⟩:=h.of_cons;simp only [aZ]at b;split at b
   ·simp at b
   ·rename_i y l;split at b
    ·simp at b
    ·rename_i ys d;simp only [AI]at b;subst b;exact A2.cons (XE g l) (m j d)
  | [],h=>have:=h.len;simp at this
theorem dG{d:Operand→Value}{o:Oper}{c:Call}{b:Builtin}(j:o.op=.call c)(g:c.callee=.builtin b){r:Result Next}{w:World}
  (h:∀ cs,(builtin b c.argTypes o.type cs (c.args.map d)).run Q w=r):(execOp d o).run Q w=r:=by
 simp only [execOp,j,resolve,g,Sem.run_bind,Sem.run_pure,Result.andThen_ok,invoke];exact h _
theorem tz{α:Type}{a:Array α}{x:α}(h:a.toList=[x]):a=#[x]:=by
 apply Array.ext';simp [h]
theorem XA{α:Type}{a:Array α}{x y:α}(h:a.toList=[x,y]):a=#[x,y]:=by
 apply Array.ext';simp [h]
theorem HV{c:Call}{x:Arg}(h:dP Q σ c (.len x)=ae):∃ y t e,c.callee=.builtin .len∧c.args=#[y]∧c.argTypes=#[t]∧mA σ x y=ae∧Q.underlying t=aa (.slice e):=by
 simp only [dP]at h;split at h
 ·rename_i y t b d g;simp only [BY]at h;have:=h.2;split at this
  ·exact⟨y,t,_,b,tz d,tz g,h.1,by assumption⟩
  ·simp at this
 ·simp at h
theorem Aq{c:Call}{x:Arg}(h:dP Q σ c (.lens x)=ae):∃ y t,c.callee=.builtin .len∧c.args=#[y]∧c.argTypes=#[t]∧mA σ x y=ae∧Q.underlying t=aa .string:=by
 simp only [dP]at h;split at h
 ·rename_i y t b d g;simp only [BY]at h;have:=h.2;split at this
  ·exact⟨y,t,b,tz d,tz g,h.1,by assumption⟩
  ·simp at this
 ·simp at h
theorem Ap{c:Call}{n:Nat}(h:dP Q σ c (.oL n)=ae):∃ y t e,c.callee=.builtin .len∧c.args=#[y]∧c.argTypes=#[t]∧Q.underlying t=aa (.array n e):=by
 simp only [dP]at h;split at h
 ·rename_i y t b d g;split at h
  ·rename_i m e j;simp only [decide_eq_true_eq]at h;subst h;exact⟨y,t,e,b,tz d,tz g,j⟩
  ·simp at h
 ·simp at h
theorem Ar{c:Call}{lo:Bool}{xs:List Arg}(h:dP Q σ c (.fT lo xs)=ae):c.callee=.builtin (if lo then .min else .max)∧TE σ xs c.args=ae:=by
 simp only [dP]at h;split at h
 ·rename_i b;exact⟨b,h⟩
 ·rename_i b;exact⟨b,h⟩
 ·simp at h
theorem Sa{lo:Bool}{x y z:V}{u v:Value}(b:VR σ X x u)(d:VR σ X y v)(h:uT lo x y=aa z)(w:World):∃ r,(if lo then Builtin.min2 u v else Builtin.max2 u v).run Q w=.ok r w∧VR σ X z r:=by
 unfold uT at h;split at h
 ·simp only [AI]at h;subst h;have b:=VR.int b;have d:=VR.int d;subst b;subst d;cases lo
  ·exact⟨_,by simp [Builtin.max2],VR.mkInt _ _⟩
  ·exact⟨_,by simp [Builtin.min2],VR.mkInt _ _⟩
 ·simp at h
theorem yQ{lo:Bool}(w:World):∀ {ys:List V} {d:List Value} {x z:V} {u:Value},VR σ X x u→A2 (VR σ X) ys d→qB lo x ys=aa z→∃ r,(d.foldlM (fun u v=>if lo then Builtin.min2 u v else Builtin.max2 u v) u).run Q w=.ok r w∧VR σ X z r
 | [],d,x,z,u,g,b,h=>by
  have:d=[]:=ajk b.len.symm;subst this;simp only [qB,AI]at h;subst h;exact⟨u,rfl,g⟩
 | y::ys,[],x,z,u,g,b,h=>by have:=b.len;simp at this
 | y::ys,v::d,x,z,u,g,b,h=>by
  obtain⟨A,b⟩:=b.of_cons;simp only [qB]at h;split at h
  ·rename_i q B;obtain⟨E,j,l⟩:=Sa (Q:=Q) g A B w;obtain⟨r,m,s⟩:=yQ w l b h;exact⟨r,by rw [List.foldlM_cons,Sem.run_bind,j];exact m,s⟩
  ·simp at h
theorem HU{c:Call}{x:Arg}(h:dP Q σ c (.cap x)=ae):∃ y t e,c.callee=.builtin .cap∧c.args=#[y]∧c.argTypes=#[t]∧mA σ x y=ae∧Q.underlying t=aa (.slice e):=by
 simp only [dP]at h;split at h
 ·rename_i y t g j l;simp only [BY]at h;obtain⟨m,d⟩:=h;split at d
  ·rename_i e b;exact⟨y,t,e,g,tz j,tz l,m,b⟩
  ·simp at d
 ·simp at h
theorem Tb{x:C}{u:Value}(d:CR σ X x u){n:Nat}(h:kh X.H x=aa n):∃ a l,u=.slice a l n:=by
 cases x with
 | sl b o l c m sz=>
  simp only [kh]at h;simp only [CR,fC]at d;split at h
  ·rename_i g;rw [g]at d;obtain⟨L,_,_,rfl⟩:=d;simp only [AI]at h;subst h;exact⟨_,_,rfl⟩
  ·rename_i g;rw [g]at d;split at h
   ·rename_i j;have:=d.2.1 j.1 j.2;simp only [AI]at h;subst h;obtain⟨_,_,rfl⟩:=this;exact⟨_,_,rfl⟩
   ·simp at h
  ·rename_i g;rw [g]at d;split at h
   ·rename_i j;have:=d.2.1 j.1 j.2;simp only [AI]at h;subst h;obtain⟨_,_,a,rfl⟩:=this;exact⟨_,_,rfl⟩
   ·simp at h
  ·simp at h
 | f y=>
  cases y<;>simp only [kh,AI,reduceCtorEq]at h
  ·subst h;cases (d:cJ σ X.F X.w .aA u);exact⟨_,_,rfl⟩
  ·subst h;cases (d:cJ σ X.F X.w .es u);exact⟨_,_,rfl⟩
 | _=>simp [kh]at h
theorem BZ(v:SR Q σ X){m:Nat}{L:Loc}(u:X.cd m=aa L){e:FC × C}(x:X.H[m]?=aa (.map [e])):∃ d:MapEntry,X.w.heap[L.c]?=aa (.map #[d] 1)∧cJ σ X.F X.w e.1 d.key∧ig σ X (mV e.2) d.val∧d.born=0:=by
 obtain⟨_,_,bO,g,l⟩:=v.br m L u;rw [x]at g;cases g;obtain⟨j,q,b,s⟩:=l
 match j,b with
 | [d],b=>exact⟨d,q,b.of_cons.1.1,b.of_cons.1.2,s 0 d rfl⟩| [],b=>have:=b.len;simp at this| _::_::_,b=>have:=b.len;simp at this
theorem Hk(q:SR Q σ X){x:V}{u:Value}(K:VR σ X x u){v:V}(h:nL X.H x=aa v):∃ r,(Instr.entry u).run Q X.w=.ok r X.w∧VR σ X v r:=by
 unfold nL at h;split at h
 ·rename_i b;obtain⟨L,H,_,rfl⟩:=K;split at h
  ·rename_i m s I;split at h
   ·rename_i e J;simp only [AI]at h;subst h;obtain⟨_,_,bO,d,j⟩:=q.br b L H;rw [I]at d;cases d;obtain⟨M,N,st,E,_,F,l⟩:=j;simp only [if_true]at l;obtain⟨rfl,rfl⟩:=l;obtain⟨g,y,z,A,B⟩:=BZ q E J;refine⟨.tuple #[g.key,g.val],?_,[g.key,g.val],rfl,A2.cons z (A2.cons A A2.nil)⟩;simp [Instr.entry,getObj,Sem.run,F,y,B,Result.andThen]
   ·simp at h
  ·simp at h
 ·simp at h
theorem xZ:∀ {cs:List C} {us:List Value} {bs:List UInt8},A2 (CR σ X) cs us→aZ (fun c=>match c with | C.f (.int .u8 n)=>aa (UInt8.ofNat n.toNat) | _=>ab) cs=aa bs →
  ∃ g:List Int,us=g.map (Value.int .u8)∧bs=g.map fun n=>UInt8.ofNat n.toNat
 | [],us,bs,h,b=>by
  simp only [aZ,AI]at b;subst b
  match us,h.len with
  | [],_=>exact⟨[],rfl,rfl⟩
 | c::cs,[],bs,h,b=>by have:=h.len;simp at this
 | c::cs,u::us,bs,h,b=>by
  obtain⟨l,m⟩:=h.of_cons;simp only [aZ]at b;split at b
  ·simp at b
  ·rename_i y d;split at b
   ·simp at b
   ·rename_i ys j;simp only [AI]at b;subst b;obtain⟨g,rfl,rfl⟩:=xZ m j;split at d
    ·rename_i n;simp only [AI]at d;subst d;cases (l:cJ σ X.F X.w (.int .u8 n) u);exact⟨n::g,rfl,rfl⟩
    ·simp at d
theorem foldl_push:∀(b:List Int) (s:ByteArray),b.foldl (fun(r:ByteArray) n=>r.push (UInt8.ofNat n.toNat)) s=⟨s.data++(b.map fun n=>UInt8.ofNat n.toNat).toArray⟩
 | [],s=>by simp
 | n::b,s=>by
  rw [akP,foldl_push b]
  congr 1
  simp [ByteArray.push]
theorem RC(y:SR Q σ X){x:V}{u:Value}(q:VR σ X x u){v:V}(h:qo X.H x=aa v):∃ r,(Conv.bytesToString u).run Q X.w=.ok r X.w∧VR σ X v r:=by
 unfold qo at h;split at h
 ·rename_i x;split at h
  ·rename_i l m;split at h
   ·rename_i cs j;simp only [IN]at h;obtain⟨bs,z,rfl⟩:=h;obtain⟨us,g,s,A⟩:=lE y q m j;obtain⟨d,c,rfl⟩:=kj q m;obtain⟨b,rfl,rfl⟩:=xZ s z;refine⟨.string (b.foldl (fun(r:ByteArray) n=>r.push (UInt8.ofNat n.toNat)) ByteArray.empty),?_,?_⟩
    ·cases d with
     | none=>
      simp only [Builtin.firstCells,Sem.run_pure,Result.ok.injEq,and_true]at g;have:b=[]:=by
       have:=congrArg Array.toList g;simpa using this.symm
      subst this;simp only [Conv.bytesToString,List.foldl_nil,List.map_nil,Sem.run_pure]
     | some d=>exact run_bytesToString X.w d l c b (by simpa [Builtin.firstCells]using g)
    ·rw [foldl_push];rw [show(ByteArray.empty.data++(List.map (fun n:Int=>UInt8.ofNat n.toNat) b).toArray)=(List.map (fun n:Int=>UInt8.ofNat n.toNat) b).toArray from Array.empty_append];exact VR.mkStr _
   ·simp at h
  ·simp at h
 ·simp at h
theorem aal(hS:SR Q σ X){a:Act}{aB:T}(H:RR σ X aB a.tmps){o:Oper}{op:cY}(A:dN Q σ o op=ae)(hc:cls op=.p∨cls op=.r)(f7:op.fsl=ag){v:V}{H':an}
  (h:bC aB X.H op=aa (v,H')):H'=X.H∧∃ u,(execOp a.eval o).run Q X.w=.ok (.value u) X.w∧VR σ X v u:=by
 cases op<;>first | (simp only [cls,reduceCtorEq,or_self]at hc;done) | (simp [cY.fsl]at f7;done) | clear f7
 case cU x=>
  simp only [bC,AI,OF]at h;obtain⟨rfl,rfl⟩:=h;refine⟨rfl,?_⟩;simp only [dN]at A;split at A
  ·rename_i y E;exact⟨_,by simp [execOp,E],bN H A⟩
  ·rename_i y E;exact⟨_,by simp [execOp,E],bN H A⟩
  ·simp at A
 case pick c x y=>
  simp only [dN]at A;split at A
  ·rename_i c' x' y' E;simp only [BY]at A;simp only [bC]at h;have b_:=bN H A.1.1;split at h
   ·rename_i b Z;rw [Z]at b_;have b_:=VR.bool b_;simp only [AI,OF]at h;obtain⟨rfl,rfl⟩:=h;cases b
    ·exact⟨rfl,_,by simp [execOp,E,b_,asBool],bN H A.2⟩
    ·exact⟨rfl,_,by simp [execOp,E,b_,asBool],bN H A.1.2⟩
   ·simp at h
  ·simp at A
 case build zs qs=>
  simp only [dN]at A;split at A
  ·rename_i t ps E;simp only [BY]at A;simp only [bC,IN,OF]at h;obtain⟨cs,a8,rfl,rfl⟩:=h;obtain⟨z,us,i9,i_,j3,_⟩:=eI (σ:=σ) (X:=X) A.1 X.w;refine⟨rfl,?_⟩;have Z:=A.2;unfold R7 at Z;split at Z
   ·rename_i fs K;split at Z
    ·rename_i pl k_;obtain⟨c_,N,h6⟩:=mU (place:=(pl.toArray[·]?)) H ((eA Z).ko fun q p W=>by
      simp only [BY,decide_eq_true_eq]at W;exact⟨by simpa using W.1,W.2⟩) j3 a8
     refine⟨.agg c_.toArray,?_,c_,rfl,h6⟩;have hp:=run_places (P:=Q) X.w fs.toList pl k_;simp only [execOp,E];refine dX ?_;simp [Instr.build,i9,aY K,Array.mapM_eq_mapM_toList,hp,i_];simp at N;simp [N]
    ·simp at Z
   ·rename_i n e K;split at Z
    ·rename_i j4 hi;obtain⟨c_,N,h6⟩:=mU (place:=fun i=>aa (i*j4.size,j4.size)) H ((eA Z).ko fun q p W=>by
      simp only [BY,beq_iff_eq]at W;exact⟨by rw [W.1.2,W.1.1],W.2⟩) j3 a8
     refine⟨.agg c_.toArray,?_,c_,rfl,h6⟩;simp only [execOp,E];refine dX ?_;simp [Instr.build,i9,aY K,Go.sizeOf,typeInfo,hi,i_,N]
    ·simp at Z
   ·simp at Z
  ·simp at A
 case load k x=>
  simp only [dN]at A;split at A
  ·rename_i t y E;simp only [BY]at A;simp only [bC,IN,OF]at h;obtain⟨v',F,rfl,rfl⟩:=h;obtain⟨u,J,M⟩:=ack hS A.1 (bN H A.2) F;exact⟨rfl,u,by simp only [execOp,E];exact dX J,M⟩
  ·simp at A
 case dE x=>
  simp only [dN]at A;split at A
  ·rename_i y E;have B:=bN H A;simp only [bC]at h;have f8:∀ ad,a.eval y=.pointer (aa ad)→(execOp a.eval o).run Q X.w=.ok (.value (a.eval y)) X.w:=by
    intro ad a_;simp [execOp,E,a_]
   split at h
   ·rename_i b e_ e Z;simp only [AI,OF]at h;obtain⟨rfl,rfl⟩:=h;rw [Z]at B;have d_:=B;obtain⟨L,hL,B⟩:=B;split at B
    ·exact⟨rfl,_,f8 _ B,d_⟩
    ·obtain⟨_,_,ad,a_⟩:=B;exact⟨rfl,_,f8 _ a_,d_⟩
    ·exact B.elim
   ·rename_i cs e_ Z;simp only [AI,OF]at h;obtain⟨rfl,rfl⟩:=h;rw [Z]at B;have d_:=B;have:∃ ad,a.eval y=.pointer (aa ad):=by
     generalize a.eval y=u at B;cases (B:cJ σ X.F X.w (.fp cs e_) u);exact⟨_,rfl⟩
    obtain⟨ad,a_⟩:=this;exact⟨rfl,_,f8 _ a_,d_⟩
   ·simp at h
  ·simp at A
 case bin op x y=>
  simp only [dN]at A;split at A
  ·rename_i j8 t x' y' yt E;simp only [BY,decide_eq_true_eq]at A;obtain⟨⟨rfl,B⟩,S⟩:=A;simp only [bC,IN,OF]at h;obtain⟨v',F,rfl,rfl⟩:=h;have B:=bN H B;have S:=bN H S;refine⟨rfl,?_⟩;have guard:∀ op,(∀ xs,a.eval x'≠.agg xs)→a.eval x'≠.nilIface→(eqGuard op t x' y' (a.eval x') (a.eval y')).run Q X.w=.ok () X.w:=by
    intro op J M;cases op<;>simp [eqGuard]<;>(generalize a.eval x'=ux at *;cases ux<;>simp at J M ⊢)
   unfold bM at F;split at F
   ·rename_i k n k' m J M;rw [J]at B;rw [M]at S;have B:=VR.int B;have S:=VR.int S;split at F
    ·simp at F
    ·rename_i A;simp only [AI]at F;subst F;exact⟨_,by simp only [execOp,E];refine dX ?_;rw [Sem.run_bind,guard _ (by simp [B]) (by simp [B])];simp [B,S,binOp,Op.shift,A],VR.mkInt _ _⟩
   ·rename_i k n k' m J M;rw [J]at B;rw [M]at S;have B:=VR.int B;have S:=VR.int S;split at F
    ·simp at F
    ·rename_i A;simp only [AI]at F;subst F;exact⟨_,by simp only [execOp,E];refine dX ?_;rw [Sem.run_bind,guard _ (by simp [B]) (by simp [B])];simp [B,S,binOp,Op.shift,A],VR.mkInt _ _⟩
   ·rename_i k n k' m _ _ J M;rw [J]at B;rw [M]at S;have B:=VR.int B;have S:=VR.int S;split at F
    ·rename_i hk;subst hk;obtain⟨u,Y,O,N⟩:=XC (Q:=Q) (σ:=σ) (X:=X) F X.w;exact⟨u,by simp only [execOp,E];refine dX ?_;rw [Sem.run_bind,guard _ (by simp [B]) (by simp [B])];simp [B,S,N,Y],O⟩
    ·simp at F
   ·rename_i s1 s2 J M;rw [J]at B;rw [M]at S;have B:=VR.str B;have S:=VR.str S;obtain⟨u,Y,O⟩:=XD (Q:=Q) (σ:=σ) (X:=X) F X.w t;exact⟨u,by simp only [execOp,E];refine dX ?_;rw [Sem.run_bind,guard _ (by simp [B]) (by simp [B])];simp [B,S,Y],O⟩
   ·simp at F
  ·simp at A
 case eq neg k x y=>
  simp only [dN]at A;split at A
  ·rename_i j8 t x' y' yt E;simp only [BY,decide_eq_true_eq]at A;obtain⟨⟨⟨rfl,B⟩,S⟩,hk⟩:=A;simp only [bC,IN,OF]at h;obtain⟨b,F,rfl,rfl⟩:=h;refine⟨rfl,_,?_,VR.sD _⟩;simp only [execOp,E];exact dX (ab0 hk (bN H B) (bN H S) F neg X.w)
  ·simp at A
 case un op x=>
  simp only [dN]at A;split at A
  ·rename_i j8 t y E;simp only [BY,decide_eq_true_eq]at A;obtain⟨rfl,B⟩:=A;simp only [bC,IN,OF]at h;obtain⟨v',F,rfl,rfl⟩:=h;have B:=bN H B;refine⟨rfl,?_⟩;unfold unV at F;split at F
   ·rename_i k n J;rw [J]at B;have B:=VR.int B;simp only [AI]at F;subst F;exact⟨_,by simp [execOp,E,B,Op.unary,Op.intArith],VR.mkInt _ _⟩
   ·rename_i b J;rw [J]at B;have B:=VR.bool B;simp only [AI]at F;subst F;exact⟨_,by simp [execOp,E,B,Op.unary],VR.sD _⟩
   ·simp at F
  ·simp at A
 case jm k x=>
  simp only [dN]at A;split at A
  ·rename_i s d y E;simp only [BY]at A;obtain⟨⟨B,hs⟩,hd⟩:=A;have B:=bN H B;simp only [bC]at h;split at h
   ·rename_i q n J;rw [J]at B;have B:=VR.int B;simp only [AI,OF]at h;obtain⟨rfl,rfl⟩:=h;split at hd
    ·rename_i k' K;simp only [decide_eq_true_eq]at hd;subst hd;obtain⟨ds,j9⟩:=Option.isSome_iff_exists.1 hs;exact⟨rfl,_,by simp only [execOp,E];refine dX ?_;simp [convert,aY j9,aY K,B,Conv.intToInt],VR.mkInt _ _⟩
    ·simp at hd
   ·simp at h
  ·simp at A
 case z6 x=>
  simp only [dN]at A;split at A
  ·rename_i s d y E;simp only [BY]at A;obtain⟨B,hd⟩:=A;have B:=bN H B;simp only [bC]at h;split at h
   ·rename_i q J;rw [J]at B;have B:=VR.str B;simp only [AI,OF]at h;obtain⟨rfl,rfl⟩:=h;split at hd
    ·rename_i h_ i3;exact⟨rfl,_,by simp only [execOp,E];refine dX ?_;simp [convert,aY h_,aY i3,B],VR.mkStr _⟩
    ·simp at hd
   ·simp at h
  ·simp at A
 case iQ f xs=>
  simp only [dN]at A;split at A
  ·rename_i g fst a7 E;simp only [BY,beq_iff_eq]at A;obtain⟨⟨I,rfl⟩,B⟩:=A;simp only [bC,IN,OF]at h;obtain⟨cs,a8,rfl,rfl⟩:=h;have:=xV (mn H B) a8;have i7:fst=#[]:=by simpa using I
   exact⟨rfl,.func (.func (σ f)) #[] (a7.map a.eval),by simp only [execOp,E,Instr.makeFunc,i7];exact dX (by simp),(a7.map a.eval).toList,congrArg _ Array.toArray_toList.symm,this⟩
  ·simp at A
 case slice sz x lo hi mx=>
  simp only [dN]at A;split at A
  ·rename_i t y j7 i8 mx' E;simp only [BY,decide_eq_true_eq]at A;obtain⟨⟨⟨⟨⟨B,J⟩,M⟩,Y⟩,he⟩,hz⟩:=A;obtain⟨e,K,U⟩:=gP he;simp only [bC,IN,OF]at h;obtain⟨v',F,rfl,rfl⟩:=h;obtain⟨r,O,N⟩:=vq hS K U (bN H B) (qg H J) (qg H M) (qg H Y) F;exact⟨rfl,r,by simp only [execOp,E];exact dX O,N⟩
  ·simp at A
 case pj n sz x lo hi mx=>
  simp only [dN]at A;split at A
  ·rename_i t y j7 i8 mx' E;simp only [BY,decide_eq_true_eq]at A;obtain⟨⟨⟨⟨⟨B,J⟩,M⟩,Y⟩,he⟩,hz⟩:=A;split at he
   ·rename_i n' e K;simp only [BY,beq_iff_eq]at he;obtain⟨rfl,U⟩:=he;simp only [bC,IN,OF]at h;obtain⟨v',F,rfl,rfl⟩:=h;obtain⟨r,O,N⟩:=Ix hS K U (bN H B) (qg H J) (qg H M) (qg H Y) F;exact⟨rfl,r,by simp only [execOp,E];exact dX O,N⟩
   ·simp at he
  ·simp at A
 case qH x lo hi=>
  simp only [dN]at A;split at A
  ·rename_i t y j7 i8 E;simp only [BY]at A;obtain⟨⟨⟨B,J⟩,M⟩,he⟩:=A;split at he
   ·rename_i K;simp only [bC,IN,OF]at h;obtain⟨v',F,rfl,rfl⟩:=h;obtain⟨r,O,N⟩:=Iy K (bN H B) (qg H J) (qg H M) F X.w;exact⟨rfl,r,by simp only [execOp,E,Option.map_none];exact dX O,N⟩
   ·simp at he
  ·simp at A
 case bB e_ x=>
  simp only [dN]at A;split at A
  ·rename_i t y i E;simp only [BY]at A;obtain⟨B,I⟩:=A;split at I
   ·rename_i fs K;split at I
    ·rename_i f f_;simp only [BY,beq_iff_eq]at I;obtain⟨rfl,hz⟩:=I;simp only [bC,IN,OF]at h;obtain⟨v',F,rfl,rfl⟩:=h;obtain⟨r,O,N⟩:=Ab K f_ hz (bN H B) F X.w;exact⟨rfl,r,by simp only [execOp,E];exact dX O,N⟩
    ·simp at I
   ·simp at I
  ·simp at A
 case field e_ n x=>
  simp only [dN]at A;split at A
  ·rename_i t y i E;simp only [BY]at A;obtain⟨B,I⟩:=A;split at I
   ·rename_i fs K;split at I
    ·rename_i f f_;simp only [BY,beq_iff_eq]at I;obtain⟨rfl,hz⟩:=I;simp only [bC,IN,OF]at h;obtain⟨v',F,rfl,rfl⟩:=h;obtain⟨r,O,N⟩:=Hr K f_ hz (bN H B) F X.w;exact⟨rfl,r,by simp only [execOp,E];exact dX O,N⟩
    ·simp at I
   ·simp at I
  ·simp at A
 case bI sz i4 x i=>
  simp only [dN]at A;split at A
  ·rename_i t y j E;simp only [BY]at A;obtain⟨⟨B,hi⟩,I⟩:=A;simp only [bC,IN,OF]at h;obtain⟨v',F,rfl,rfl⟩:=h;have:∃ e,dy Q e sz=ae∧((i4=ab∧Q.underlying t=aa (.slice e))∨∃ n,i4=aa n∧Q.underlying t=aa (.array n e)):=by
    split at I
    ·rename_i e K;exact⟨e,I,.inl ⟨rfl,K⟩⟩
    ·rename_i n e n' K;simp only [BY,beq_iff_eq]at I;obtain⟨rfl,U⟩:=I;exact⟨e,U,.inr ⟨_,rfl,K⟩⟩
    ·simp at I
   obtain⟨e,U,K⟩:=this;obtain⟨r,O,N⟩:=Ag U K (bN H B) (bN H hi) F;exact⟨rfl,r,by simp only [execOp,E];exact dX O,N⟩
  ·simp at A
 case idxs x i=>
  simp only [dN]at A;split at A
  ·rename_i t y j E;simp only [BY]at A;obtain⟨⟨B,hi⟩,I⟩:=A;simp only [bC,IN,OF]at h;obtain⟨v',F,rfl,rfl⟩:=h;split at I
   ·rename_i K;obtain⟨r,O,N⟩:=RU K (bN H B) (bN H hi) F X.w;exact⟨rfl,r,by simp only [execOp,E];exact dX O,N⟩
   ·simp at I
  ·simp at A
 case yF n sz k x i=>
  simp only [dN]at A;split at A
  ·rename_i t y j E;simp only [BY]at A;obtain⟨⟨B,hi⟩,I⟩:=A;simp only [bC,IN,OF]at h;obtain⟨v',F,rfl,rfl⟩:=h;split at I
   ·rename_i n' e K;simp only [BY,beq_iff_eq]at I;obtain⟨⟨rfl,U⟩,hk⟩:=I;obtain⟨r,O,N⟩:=RT K U hk (bN H B) (bN H hi) F X.w;exact⟨rfl,r,by simp only [execOp,E];exact dX O,N⟩
   ·simp at I
  ·simp at A
 case lookup ck z m k=>
  simp only [dN]at A;split at A
  ·rename_i t m' k' ok E;simp only [BY,beq_iff_eq]at A;obtain⟨⟨⟨J,M⟩,j_⟩,I⟩:=A;simp only [bC,IN,OF]at h;obtain⟨v',F,rfl,rfl⟩:=h;split at I
   ·rename_i kt e K;simp only [BY]at I;obtain⟨u,O,N⟩:=HT hS K I.1.1 j_ I.1.2 I.2 (bN H J) (bN H M) F;exact⟨rfl,u,by simp only [execOp,E];exact dX O,N⟩
   ·simp at I
  ·simp at A
 case extract x i=>
  simp only [dN]at A;split at A
  ·rename_i y j E;simp only [BY,beq_iff_eq]at A;obtain⟨B,rfl⟩:=A;have B:=bN H B;simp only [bC]at h;split at h
   ·rename_i vs m9;rw [m9]at B;simp only [IN,OF]at h;obtain⟨v',F,rfl,rfl⟩:=h;obtain⟨us,d9,M⟩:=B;obtain⟨u,K,m_⟩:=M.get F;exact⟨rfl,u,by simp only [execOp,E];refine dX ?_;simp [Instr.extract,d9,K],VR.TF σ m_⟩
   ·simp at h
  ·simp at A
 case oL n=>
  simp only [dN]at A;split at A
  ·rename_i c E;obtain⟨y,t,e,J,M,Y,K⟩:=Ap A;simp only [bC,AI,OF]at h;obtain⟨rfl,rfl⟩:=h;exact⟨rfl,_,dG E J (fun cs=>by simp [builtin,M,Y,Builtin.len_,aY K,goInt]),VR.mkInt _ _⟩
  ·simp at A
 case lens x=>
  simp only [dN]at A;split at A
  ·rename_i c E;obtain⟨y,t,J,M,Y,B,K⟩:=Aq A;have B:=bN H B;simp only [bC]at h;split at h
   ·rename_i s hs;rw [hs]at B;have B:=VR.str B;simp only [AI,OF]at h;obtain⟨rfl,rfl⟩:=h;exact⟨rfl,_,dG E J (fun cs=>by simp [builtin,M,Y,Builtin.len_,aY K,B,goInt]),VR.mkInt _ _⟩
   ·simp at h
  ·simp at A
 case len x=>
  simp only [dN]at A;split at A
  ·rename_i c E;obtain⟨y,t,e,J,M,Y,B,K⟩:=HV A;have B:=bN H B;simp only [bC]at h;split at h
   ·rename_i z hz;rw [hz]at B;split at h
    ·rename_i n hn;simp only [AI,OF]at h;obtain⟨rfl,rfl⟩:=h;obtain⟨ad,cp,g_⟩:=kj B hn;exact⟨rfl,_,dG E J (fun cs=>by simp [builtin,M,Y,Builtin.len_,aY K,g_,goInt]),VR.mkInt _ _⟩
    ·simp at h
   ·simp at h
  ·simp at A
 case fT lo xs=>
  simp only [dN]at A;split at A
  ·rename_i c E;obtain⟨J,M⟩:=Ar A;have hA:=mn H M;simp only [bC,IN,OF]at h;obtain⟨v',F,rfl,rfl⟩:=h;refine⟨rfl,?_⟩;unfold wj at F;split at F
   ·simp at F
   ·rename_i x ys n6;rw [n6]at hA
    match d9:(c.args.map a.eval).toList,hA with
    | [],hA=>have:=hA.len;simp at this
    | u::us,hA=>
     obtain⟨B,hA⟩:=hA.of_cons;obtain⟨r,g1,g2⟩:=yQ (Q:=Q) (lo:=lo) X.w B hA F;refine⟨r,dG E J (fun cs=>?_),g2⟩;cases lo
     ·simp only [ajo,if_false]at g1 ⊢;have g1:(us.foldlM Builtin.max2 u).run Q X.w=.ok r X.w:=g1;have c9:List.map a.eval c.args.toList=u::us:=by simpa using d9
      simp [builtin,Builtin.max_,c9,g1]
     ·simp only [if_true]at g1 ⊢;have g1:(us.foldlM Builtin.min2 u).run Q X.w=.ok r X.w:=g1;have c9:List.map a.eval c.args.toList=u::us:=by simpa using d9
      simp [builtin,Builtin.min_,c9,g1]
  ·simp at A
 case cap x=>
  simp only [dN]at A;split at A
  ·rename_i c E;obtain⟨y,t,e,J,M,Y,B,K⟩:=HU A;have B:=bN H B;simp only [bC]at h;split at h
   ·rename_i z hz;rw [hz]at B;split at h
    ·rename_i n hn;simp only [AI,OF]at h;obtain⟨rfl,rfl⟩:=h;obtain⟨ad,l,g_⟩:=Tb B hn;exact⟨rfl,_,dG E J (fun cs=>by simp [builtin,M,Y,Builtin.cap_,aY K,g_,goInt]),VR.mkInt _ _⟩
    ·simp at h
   ·simp at h
  ·simp at A
 case entry x=>
  simp only [dN]at A;split at A
  ·rename_i y E;simp only [bC,IN,OF]at h;obtain⟨v',F,rfl,rfl⟩:=h;obtain⟨r,g1,g2⟩:=Hk hS (bN H A) F;exact⟨rfl,r,by simp only [execOp,E];exact dX g1,g2⟩
  ·simp at A
 case yW f xs=>
  simp only [dN]at A;split at A
  ·rename_i g fst a7 E;simp only [BY,beq_iff_eq]at A;obtain⟨⟨I,rfl⟩,B⟩:=A;simp only [bC,IN,OF]at h;obtain⟨cs,a8,rfl,rfl⟩:=h;have:=xV (mn H B) a8;have i6:a7=#[]:=by simpa using I
   exact⟨rfl,.func (.func (σ f)) (fst.map a.eval) #[],by simp only [execOp,E,Instr.makeFunc,i6];exact dX (by simp),(fst.map a.eval).toList,by rw [Array.toArray_toList],this⟩
  ·simp at A
 case call f args h'=>cases h'<;>simp [cls]at hc
 case yv x=>
  simp only [dN]at A;split at A
  ·rename_i s d y E;simp only [BY]at A;obtain⟨B,hd⟩:=A;have B:=bN H B;split at hd
   ·rename_i e h_ i3;simp only [BY]at hd;have l_:Q.underlying e=aa (.int .u8):=by
     have:=hd.1;unfold af1 at this;split at this
     ·assumption
     ·simp at this
    simp only [bC,IN,OF]at h;obtain⟨v',F,rfl,rfl⟩:=h;obtain⟨u,O,N⟩:=RC hS B F;refine⟨rfl,u,?_,N⟩;simp only [execOp,E];refine dX ?_;simp only [convert,Sem.run_bind,aY h_,aY i3,Result.andThen_ok];have:∃ ad l c,a.eval y=.slice ad l c:=by
     unfold qo at F;split at F
     ·rename_i z hz;rw [hz]at B;split at F
      ·rename_i l hl;obtain⟨ad,c,h⟩:=kj B hl;exact⟨_,_,_,h⟩
      ·simp at F
     ·simp at F
    obtain⟨ad,l,c,h6⟩:=this;rw [h6]at O ⊢;simp only [Sem.run_bind,aY l_,Result.andThen_ok,O]
   ·simp at hd
  ·simp at A
end
section
variable{Q:Program}{σ:Nat→FuncId}{X:Wd}
theorem SR.lt(d:SR Q σ X){b:Nat}{L:Loc}(h:X.cd b=aa L):b<X.H.length:=by
 obtain⟨_,_,bO,hb,_⟩:=d.br b L h;exact(IS.1 hb).1
theorem SR.pU(b:SR Q σ X):X.cd X.H.length=ab:=by
 cases h:X.cd X.H.length with
 | none=>rfl| some L=>have:=SR.lt b h;omega
theorem Ext.one(y:SR Q σ X){X':Wd}(b0:Nat)(v:X'.B=X.B)(s:∀ c i,X'.F c i↔X.F c i)
  (u:∀ k,k<X.w.heap.size→(∀ L,X.cd b0=aa L→k≠L.c)→X'.w.heap[k]?=X.w.heap[k]?)
  (m:∀ L i,X.cd b0=aa L→X.F L.c i→X'.w.cell? ⟨L.c,i,ab⟩=X.w.cell? ⟨L.c,i,ab⟩) (j:b0<X.H.length→lK X X' b0)
  (x:∀ b,b≠b0→b<X.H.length→X'.H[b]?=X.H[b]?) (d:∀ b,b≠b0→X'.cd b=X.cd b)
  (q:∀ L,X'.cd b0=aa L→(∃ L0,X.cd b0=aa L0∧L0.c=L.c)∨X.w.heap.size≤L.c) (E:X.w.heap.size≤X'.w.heap.size) (ho:X'.w.os=X.w.os) (H:X'.w.tape=X.w.tape)
  (hu:X'.w.output=X.w.output):Ext X.H.length X X' where
 B:=v
 F:=fun c i h=>(s c i).2 h
 oc:=fun c i h=>.inl ((s c i).1 h)
 fw:=fun c i h=>by
  by_cases hc:∃ L,X.cd b0=aa L∧c=L.c
  ·obtain⟨L,g,rfl⟩:=hc;exact m L i g h
  ·exact World.cell?_of_block (u c (y.fb c i h) fun L g e=>hc ⟨L,g,e⟩)
 bf:=fun b hb=>by
  by_cases h:b=b0
  ·subst h;exact j hb
  ·intro bO l;refine⟨bO,(x b h hb).trans l,?_⟩;have:∀ L,X.cd b=aa L→X'.cd b=aa L:=fun L g=>(d b h).trans g;cases bO<;>simp_all
 uF:=fun b L hb=>by
  by_cases h:b=b0
  ·subst h;rcases q L hb with⟨L0,h1,h2⟩ | h1
   ·exact .inl ⟨b,L0,h1,h2⟩
   ·exact .inr h1
  ·rw [d b h]at hb;exact .inl ⟨b,L,hb,rfl⟩
 size:=E
 os:=ho
 tape:=H
 output:=hu
 frame:=fun k z A=>u k z fun L g e=>A b0 L g e.symm
theorem SR.grow(d:SR Q σ X)(bO:bZ):SR Q σ { X with H:=X.H++[bO] }∧Ext X.H.length X { X with H:=X.H++[bO] }:=by
 have g:Ext X.H.length X { X with H:=X.H++[bO] }:=Ext.one d X.H.length rfl (fun _ _=>Iff.rfl) (fun _ _ _=>rfl) (fun _ _ _ _=>rfl) (fun h=>by omega)
  (fun b _ h=>by simp [AT h]) (fun _ _=>rfl) (fun L h=>by rw [SR.pU d]at h;simp at h) (ai8 _) rfl rfl rfl
 refine⟨⟨fun b L hb=>?_,d.inj,d.fb⟩,g⟩;obtain⟨h1,h2,blk',h3,h4⟩:=d.br b L hb;exact⟨h1,h2,blk',by rw [AT (SR.lt d hb)];exact h3,BR.ext Q σ g rfl (fun _ h=>h) h4⟩
structure dR(w w':World)(o:Obj):Prop where
 heap:w'.heap=w.heap.push o
 os:w'.os=w.os
 tape:w'.tape=w.tape
 output:w'.output=w.output
theorem dR.alloc(w:World)(o:Obj):dR w (w.alloc o) o:=⟨rfl,rfl,rfl,rfl⟩
theorem dR.zI{w w':World}{o:Obj}(h:dR w w' o){k:Nat}(b:k<w.heap.size):w'.heap[k]?=w.heap[k]?:=by
 rw [h.heap,Array.getElem?_push,aR (by omega)]
theorem dR.new{w w':World}{o:Obj}(h:dR w w' o):w'.heap[w.heap.size]?=aa o:=by
 rw [h.heap];simp
theorem dR.size{w w':World}{o:Obj}(h:dR w w' o):w'.heap.size=w.heap.size+1:=by
 rw [h.heap];simp
theorem SR.fill(g:SR Q σ X)(x:X.B≤X.w.heap.size){n:Nat}{bO:bZ}(y:X.H[n]?=aa bO)(u:X.cd n=ab){w':World}{o:Obj}(d:dR X.w w' o)(cap:Nat)
  (l:Ext X.H.length X { X with cd:=fun b=>if b=n then aa ⟨X.w.heap.size,cap⟩else X.cd b,w:=w' }→BR Q σ { X with cd:=fun b=>if b=n then aa ⟨X.w.heap.size,cap⟩else X.cd b,w:=w' } bO ⟨X.w.heap.size,cap⟩) :
  SR Q σ { X with cd:=fun b=>if b=n then aa ⟨X.w.heap.size,cap⟩else X.cd b,w:=w' }∧Ext X.H.length X { X with cd:=fun b=>if b=n then aa ⟨X.w.heap.size,cap⟩else X.cd b,w:=w' }:=by
 have m:Ext X.H.length X { X with cd:=fun b=>if b=n then aa ⟨X.w.heap.size,cap⟩else X.cd b,w:=w' }:=
  Ext.one g n rfl (fun _ _=>Iff.rfl) (fun k h _=>d.zI h) (fun L i s _=>by rw [u]at s;simp at s)
   (fun _ q j=>⟨q,j,by
    cases q<;>simp [u]⟩)
   (fun _ _ _=>rfl) (fun b h=>by simp [h]) (fun L h=>by simp at h;subst h;exact .inr (ai8 _)) (by rw [d.size];omega) d.os d.tape d.output
 refine⟨SR.step Q σ g m n (fun _ _=>rfl) (fun b h=>by simp [h]) (fun b L _ hb=>d.zI (g.br b L hb).2.1) (fun _ _ _ _ _ h=>h) (fun L h=>?_) (fun c i h=>by rw [d.size];have:=g.fb c i h;omega),m⟩;simp at h;subst h;refine⟨x,by simp [d.size],⟨bO,y,l m⟩,fun b v _ hb=>?_⟩;have:=(g.br b v hb).2.1;simp;omega
theorem SR.new(d:SR Q σ X)(j:X.B≤X.w.heap.size)(bO:bZ){w':World}{o:Obj}(g:dR X.w w' o)(cap:Nat)
  (b:∀ X',Ext X.H.length X X'→X'.w=w'→X'.F=X.F→X'.H=X.H++[bO]→BR Q σ X' bO ⟨X.w.heap.size,cap⟩) :
  ∃ X',X'.w=w'∧X'.H=X.H++[bO]∧SR Q σ X'∧Ext X.H.length X X'∧X'.cd X.H.length=aa ⟨X.w.heap.size,cap⟩∧X'.B≤X'.w.heap.size:=by
 obtain⟨h1,h2⟩:=SR.grow d bO;have l:(X.H++[bO])[X.H.length]?=aa bO:=by simp
 obtain⟨h3,h4⟩:=SR.fill h1 j l (SR.pU d) g cap (fun m=>b _ (h2.trans (m.mono (by simp))) rfl rfl rfl);exact⟨_,rfl,rfl,h3,h2.trans (h4.mono (by simp)),by simp,by simp [g.size];omega⟩
theorem SR.turn(m:SR Q σ X){b:Nat}{bO blk':bZ}{L:Loc}(hb:X.H[b]?=aa bO)(l:X.cd b=aa L){w':World}(x:w'.heap.size=X.w.heap.size)
  (y:∀ k,k≠L.c→w'.heap[k]?=X.w.heap[k]?) (z:∀ i,X.F L.c i→w'.cell? ⟨L.c,i,ab⟩=X.w.cell? ⟨L.c,i,ab⟩) (ho:w'.os=X.w.os) (A:w'.tape=X.w.tape) (hu:w'.output=X.w.output)
  (j:lK X { X with H:=X.H.set b blk',w:=w' } b)
  (s:Ext X.H.length X { X with H:=X.H.set b blk',w:=w' }→BR Q σ { X with H:=X.H.set b blk',w:=w' } blk' L) :
  SR Q σ { X with H:=X.H.set b blk',w:=w' }∧Ext X.H.length X { X with H:=X.H.set b blk',w:=w' }:=by
 have u:b<X.H.length:=(IS.1 hb).1;have v:Ext X.H.length X { X with H:=X.H.set b blk',w:=w' }:=
  Ext.one m b rfl (fun _ _=>Iff.rfl) (fun k _ h=>y k (h L l)) (fun d i h=>by rw [l]at h;cases h;exact z i) (fun _=>j)
   (fun q h _=>by simp [sh (Ne.symm h)]) (fun _ _=>rfl) (fun d h=>.inl ⟨d,h,rfl⟩) (Nat.le_of_eq x.symm) ho A hu
 refine⟨SR.step Q σ m v b (fun q h=>by simp [sh (Ne.symm h)]) (fun _ _=>rfl) (fun q d h g=>y _ fun e=>h (m.inj q b d L g l e)) (fun _ _ _ _ _ h=>h)
  (fun d h=>?_) (fun c i h=>by rw [x];exact m.fb c i h),v⟩
 change X.cd b=aa d at h;rw [l]at h;cases h;obtain⟨h1,h2,_⟩:=m.br b L l;exact⟨h1,by show L.c<w'.heap.size;omega,⟨blk',by simp [u],s v⟩,fun q d h g e=>h (m.inj q b d L g l e)⟩
theorem iA{w:World}{c:Nat}{us:List Value}(h:rowAt w c us):∀(d:List Value) (b:Nat),b+d.length≤us.length →
  (w.setCells c b d).heap.size=w.heap.size∧(∀ k,k≠c→(w.setCells c b d).heap[k]?=w.heap[k]?)∧(w.setCells c b d).os=w.os∧(w.setCells c b d).tape=w.tape ∧
  (w.setCells c b d).output=w.output∧rowAt (w.setCells c b d) c (over us b d)
 | [],b,_=>⟨rfl,fun _ _=>rfl,rfl,rfl,rfl,by simpa [World.setCells,over]using h⟩
 | v::d,b,l=>by
  simp only [ajL]at l;have g:rowAt (w.setCell ⟨c,b,ab⟩ v) c (us.set b v):=by
   obtain⟨e,fr,g,j⟩:=h;refine⟨e,fr,?_,by simpa using j⟩;simp [World.setCell,Array.getElem?_modify,g]
  obtain⟨j,q,s,u,x,y⟩:=iA g d (b+1) (by simp;omega);simp only [World.setCells];refine⟨by rw [j];simp,fun k m=>(q k m).trans ?_,s,u,x,?_⟩
  ·simp only [World.setCell,Array.getElem?_modify];rw [aR (by simpa using Ne.symm m)]
  ·have:over (us.set b v) (b+1) d=over us b (v::d):=by
    unfold over;simp only [ajL];rw [List.take_set,List.drop_set_of_lt (by omega),show b+1+d.length=b+(d.length+1) by omega];rw [alj (by omega)];have l:(List.take b us).length=b:=by simp;omega
    have e:(List.take b us++[us[b]]).set b v=List.take b us++[v]:=by
     rw [List.set_append,aR (by omega),l];simp
    rw [e];simp
   rw [←this];exact y
theorem qc{w:World}{c:Nat}{us:List Value}(h:rowAt w c us)(d:List Value)(b:Nat)(m:b+d.length≤us.length)(g:∀ v ∈ d,v.oneCell'=ae) :
  (storeCells ⟨c,b,ab⟩ d).run Q w=.ok () (w.setCells c b d):=by
 have:=run_storeCells_cells (P:=Q) c b d 0 w (fun j l=>by rw [dS h];simp;omega) (fun j l=>Ac h (by omega)) g;simpa using this
theorem zd{α:Type}(us:List α)(b:Nat)(d:List α)(h:b+d.length≤us.length)(i:Nat)(hi:i<b):(over us b d)[i]?=us[i]?:=by
 unfold over;rw [AT (by simp;omega),AT (by simp;omega),ajO];simp [hi]
end
section
variable{Q:Program}{σ:Nat→FuncId}{X:Wd}
def gC(Q:Program)(σ:Nat→FuncId)(X:Wd)(v:V)(H':an)(s:Sem Next):Prop:=
 ∃ u X',(s.run Q X.w=.ok (.value u) X'.w∨(s.run Q X.w=.ok .skip X'.w∧u=undef))∧X'.H=H'∧SR Q σ X'∧VR σ X' v u∧Ext X.H.length X X'∧X'.B≤X'.w.heap.size
theorem gC.ags(b:X.B≤X.w.heap.size)(d:SR Q σ X){v:V}{H':an}{s:Sem Next}(h:H'=X.H∧∃ u,s.run Q X.w=.ok (.value u) X.w∧VR σ X v u):gC Q σ X v H' s:=by
 obtain⟨rfl,u,h1,h2⟩:=h;exact⟨u,X,.inl h1,rfl,d,h2,Ext.refl _ _,b⟩
theorem kg{w w':World}{us:List Value}{e:TypeId}(h:dR w w' (.cells us.toArray e)):rowAt w' w.heap.size us:=⟨e,(0,0),h.new,fun i _=>by simp⟩
theorem AA(b:SR Q σ X)(g:X.B≤X.w.heap.size){cs:List C}{us:List Value}(h:A2 (CR σ X) cs us)(e:TypeId) :
  ∃ X',X'.w=X.w.alloc (.cells us.toArray e)∧X'.H=X.H++[.box cs 0]∧SR Q σ X'∧Ext X.H.length X X'∧X'.cd X.H.length=aa ⟨X.w.heap.size,0⟩∧X'.B≤X'.w.heap.size:=
 SR.new b g (.box cs 0) (dR.alloc _ _) 0 fun X' m l j _=>⟨us,by rw [l];exact kg (dR.alloc _ _),A2.ext' σ m h,fun i _ d=>by
  rw [j]at d;have:=b.fb _ _ d;simp at this⟩
theorem sF(u:SR Q σ X)(q:X.B≤X.w.heap.size){cs:List C}{us:List Value}(h:A2 (CR σ X) cs us)(e:TypeId){s:Sem Next}
  (v:s.run Q X.w=.ok (.value (.pointer (aa ⟨X.w.heap.size,0,ab⟩))) (X.w.alloc (.cells us.toArray e))):gC Q σ X (.c (.ptr X.H.length 0 0)) (X.H++[.box cs 0]) s:=by
 obtain⟨X',d,b,g,j,l,m⟩:=AA u q h e;refine⟨_,X',.inl (by rw [d];exact v),b,g,?_,j,m⟩;exact⟨_,l,by rw [b];simp⟩
theorem Q_(m:SR Q σ X)(l:X.B≤X.w.heap.size){a:Act}{o:Oper}{zs:List FC}(b:dN Q σ o (.alloc zs)=ae) :
  gC Q σ X (.c (.ptr X.H.length 0 0)) (X.H++[.box (zs.map .f) 0]) (execOp a.eval o):=by
 simp only [dN]at b;split at b
 ·rename_i t q;obtain⟨z,us,d,g,j,_⟩:=eI (σ:=σ) (X:=X) b X.w;refine sF m l j t ?_;simp only [execOp,q];refine dX ?_;simp [Instr.alloc,d,newVar,newRow,g]
 ·simp at b
theorem abM(m:SR Q σ X)(j:X.B≤X.w.heap.size){a:Act}{aB:T}(l:RR σ X aB a.tmps){o:Oper}{x:Arg}(b:dN Q σ o (.box x)=ae){xs:List C}(s:(x.ev aB).cells?=aa xs) :
  gC Q σ X (.c (.ptr X.H.length 0 0)) (X.H++[.box xs 0]) (execOp a.eval o):=by
 simp only [dN]at b;split at b
 ·rename_i t y q;obtain⟨us,d,g⟩:=ou (bN l b) s;refine sF m j g t ?_;simp only [execOp,q];refine dX ?_;simp [Instr.box,newVar,newRow,d]
 ·simp at b
theorem iT{zs:List FC}{us:List Value}(h:A2 (CR σ X) (zs.map .f) us)(n:Nat):A2 (CR σ X) ((cB n zs).map .f) (cB n us):=by
 induction n with
 | zero=>exact A2.nil
 | succ n b=>
  simp only [cB,List.replicate_succ,List.flatten_cons,List.map_append]at b ⊢;exact h.append b
theorem ke{α:Type}(n:Nat)(xs:List α):(cB n xs).length=n*xs.length:=by simp [cB]
theorem zq{α:Type}(us:List α):∀(n i:Nat),i<n*us.length→(cB n us)[i]?=us[i % us.length]?
 | 0,i,h=>by simp at h
 | n+1,i,h=>by
  have b:cB (n+1) us=us++cB n us:=by simp [cB,List.replicate_succ]
  rw [b];by_cases hi:i<us.length
  ·rw [AT hi,Nat.mod_eq_of_lt hi]
  ·have d:(n+1)*us.length=n*us.length+us.length:=by rw [ajy];omega
   rw [aje (by omega),zq us n (i-us.length) (by omega)];rw [←Nat.mod_eq_sub_mod (by omega)]
theorem ie(us:List Value)(n:Nat)(q:0<us.length):((Array.range (n*us.length)).map fun i=>us.toArray[i % us.toArray.size]!)=(cB n us).toArray:=by
 apply Array.ext
 ·simp [ke]
 ·intro i g j;have l:i<n*us.length:=by simpa using g
  have b:=zq us n i l;have d:i % us.length<us.length:=Nat.mod_lt _ q;have m:i<(cB n us).length:=by simpa using j
  rw [By m,By d,AI]at b;simp [b,d]
theorem GU(d:SR Q σ X)(hB:X.B≤X.w.heap.size){a:Act}{aB:T}(hR:RR σ X aB a.tmps){o:Oper}{sz n:Nat}{zs:List FC}{ps:List (Nat × Arg)}
  (m:dN Q σ o (.bQ sz zs n ps)=ae) {v:V} {H':an} (h:bC aB X.H (.bQ sz zs n ps)=aa (v,H')):gC Q σ X v H' (execOp a.eval o):=by
 simp only [dN]at m;split at m
 ·rename_i t l qs Z;simp only [BY,beq_iff_eq,decide_eq_true_eq]at m;obtain⟨⟨⟨⟨rfl,W⟩,B⟩,r⟩,f⟩:=m;obtain⟨e,hu,B⟩:=gP B;simp only [BY,decide_eq_true_eq]at B;obtain⟨⟨u,hz⟩,a7⟩:=B;obtain⟨z,us,O,S,x,_⟩:=eI (σ:=σ) (X:=X) hz X.w;have N:us.length=sz:=by have:=x.len;simp at this;omega
  simp only [bC]at h;split at h
  ·
   rename_i Y;subst Y;split at h
   ·rename_i s;simp only [AI,OF]at h;obtain⟨rfl,rfl⟩:=h;have j:qs.toList=[]:=by
     have:=(eA f).len;simp only [List.isEmpty_iff]at s;rw [s]at this;exact ajk this.symm
    have j:qs=#[]:=by apply Array.ext';simpa using j
    obtain⟨X',F,A,H,I,U,J⟩:∃ X':Wd,X'.w=X.w.alloc (.cells #[] e)∧X'.H=X.H∧SR Q σ X'∧Ext X.H.length X X'∧True∧X'.B≤X'.w.heap.size:=by
     have hx:Ext X.H.length X { X with w:=X.w.alloc (.cells #[] e) }:=Ext.one d X.H.length rfl (fun _ _=>Iff.rfl) (fun k hk _=>(dR.alloc _ _).zI hk)
      (fun L i h=>by rw [SR.pU d]at h;simp at h) (fun h=>by omega) (fun _ _ _=>rfl) (fun _ _=>rfl) (fun L h=>by rw [SR.pU d]at h;simp at h) (by simp) rfl rfl rfl
     refine⟨{ X with w:=X.w.alloc (.cells #[] e) },rfl,rfl,SR.step Q σ d hx X.H.length (fun _ _=>rfl) (fun _ _=>rfl) (fun b L _ hb=>(dR.alloc _ _).zI (d.br b L hb).2.1)
      (fun _ _ _ _ _ h=>h) (fun L h=>by rw [SR.pU d]at h;simp at h) (fun c i h=>?_),hx,trivial,?_⟩
     ·have:=d.fb c i h;simp;omega
     ·simp;omega
    refine⟨.slice (aa ⟨X.w.heap.size,0,ab⟩) 0 0,X',.inl ?_,A,H,cJ.es _,I,J⟩;rw [F];simp only [execOp,Z];refine dX ?_;simp [Instr.buildSlice,aY hu,cV u,j,Instr.fill,newRow,show Array.range 0=(#[]:Array Nat) from rfl]
   ·simp at h
  ·rename_i Y;simp only [IN,OF]at h;obtain⟨cs,K,rfl,rfl⟩:=h;obtain⟨a8,U,J⟩:=mU (place:=fun i=>aa (i*sz,sz)) (ps:=qs.toList) hR (qs:=ps.map fun p=>(p.1*sz,sz,p.2)) (A2.map ((eA f).ko fun q p g=>by
    simp only [BY,beq_iff_eq]at g;exact⟨by rw [g.1],g.2⟩)) (iT x l) K
   obtain⟨X',F,A,H,I,h7,h8⟩:=AA d hB J e;refine⟨.slice (aa ⟨X.w.heap.size,0,ab⟩) l l,X',.inl ?_,A,H,?_,I,h8⟩
   ·rw [F];simp only [execOp,Z];refine dX ?_;have M:l*sz≠0:=by
     intro E;rcases alc.1 E with E | E<;>omega
    have y:=ie us l (by omega);rw [N]at y;simp only [Instr.buildSlice,Sem.run_bind,aY hu,cV u,Result.andThen_ok,aR (show¬ l*sz>2 ^ 24 by omega),Sem.run_ite,aR M,O,Sem.run_pure,S];simp only [Array.toList_map];rw [y];simp [U,newRow]
   ·simp only [VR,ig,CR,fC,A];simp;exact⟨_,h7,rfl⟩
 ·simp at m
theorem BG:∀ {cs:List C} {b:List FC},fcL cs=aa b→cs=b.map .f
 | [],b,h=>by simp [fcL]at h;subst h;rfl
 | c::cs,b,h=>by
  cases c with
  | f x=>
   simp only [fcL,IN]at h;obtain⟨g,d,rfl⟩:=h;rw [BG d];rfl
  | _=>simp [fcL]at h
theorem uu(y:SR Q σ X)(hB:X.B≤X.w.heap.size){a:Act}{aB:T}(hR:RR σ X aB a.tmps){o:Oper}{sz n:Nat}{zs:List FC}{ps:List (Nat × Arg)}
  (K:dN Q σ o (.ji sz zs n ps)=ae) {v:V} {H H':an} (h:bC aB H (.ji sz zs n ps)=aa (v,H')) :
  H'=H∧∃ u X',(execOp a.eval o).run Q X.w=.ok (.value u) X'.w∧X'.H=X.H∧SR Q σ X'∧VR σ X' v u∧Ext X.H.length X X'∧X'.B≤X'.w.heap.size∧X'.cd=X.cd:=by
 simp only [dN]at K;split at K
 ·rename_i t j qs ho;simp only [BY,beq_iff_eq,decide_eq_true_eq]at K;obtain⟨⟨⟨⟨rfl,b_⟩,U⟩,c9⟩,hq⟩:=K;obtain⟨e,M,U⟩:=gP U;simp only [BY,decide_eq_true_eq]at U;obtain⟨⟨f,hz⟩,c_⟩:=U;obtain⟨z,us,a8,a_,O,_⟩:=eI (σ:=σ) (X:=X) hz X.w;have r:us.length=sz:=by have:=O.len;simp at this;omega
  simp only [bC,IN,ajx,OF]at h;obtain⟨fs,⟨cs,Y,l⟩,rfl,rfl⟩:=h;split at l
  ·simp at l
  rename_i hn;have E:=BG l;obtain⟨d,h5,h6⟩:=mU (place:=fun i=>aa (i*sz,sz)) (ps:=qs.toList) hR (qs:=ps.map fun p=>(p.1*sz,sz,p.2)) (A2.map ((eA hq).ko fun q p m=>by
   simp only [BY,beq_iff_eq]at m;exact⟨by rw [m.1],m.2⟩)) (iT O j) Y
  have g:dR X.w (X.w.alloc (.cells d.toArray e)) (.cells d.toArray e):=dR.alloc _ _;obtain⟨w',s⟩:=aL (X.w.alloc (.cells d.toArray e));rw [←s]at g;have I:∀ c i,X.F c i→w'.cell? ⟨c,i,ab⟩=X.w.cell? ⟨c,i,ab⟩:=fun c i h=>World.cell?_of_block (g.zI (y.fb c i h));have hx:Ext X.H.length X { X with w:=w',F:=fun c i=>X.F c i∨(c=X.w.heap.size∧i<d.length) }:={
   B:=rfl
   F:=fun c i h=>.inl h
   oc:=fun c i h=>h.elim .inl fun h=>.inr (.inl (by rw [h.1];exact ai8 _))
   fw:=I
   bf:=fun b _ bO A=>⟨bO,A,by cases bO<;>simp⟩
   uF:=fun b L h=>.inl ⟨b,L,h,rfl⟩
   size:=by show _≤w'.heap.size;rw [g.size];omega
   os:=g.os
   tape:=g.tape
   output:=g.output
   frame:=fun k hk _=>g.zI hk }
  refine⟨rfl,.slice (aa ⟨X.w.heap.size,0,ab⟩) j j,{ X with w:=w',F:=fun c i=>X.F c i∨(c=X.w.heap.size∧i<d.length) },?_,rfl,?_,?_,hx,?_,rfl⟩
  ·simp only [execOp,ho];refine dX ?_;have Z:j*sz≠0:=by
    intro W;rcases alc.1 W with W | W<;>omega
   have S:=ie us j (by omega);rw [r]at S;simp only [Instr.buildSlice,Sem.run_bind,aY M,cV f,Result.andThen_ok,aR (show¬ j*sz>2 ^ 24 by omega),Sem.run_ite,aR Z,a8,Sem.run_pure,a_];simp only [Array.toList_map];rw [S];simp [h5,newRow,s]
  ·exact SR.step Q σ y hx X.H.length (fun _ _=>rfl) (fun _ _=>rfl) (fun b L _ A=>g.zI (y.br b L A).2.1)
    (fun b L _ A i h=>h.elim id fun h=>by have:=(y.br b L A).2.1;omega) (fun L h=>by change X.cd X.H.length=aa L at h;rw [SR.pU y]at h;simp at h)
    (fun c i h=>by
     show c<w'.heap.size;rw [g.size];rcases h with h | h
     ·have:=y.fb c i h;omega
     ·omega)
  ·have J:d.length=fs.length:=by have:=h6.len;rw [E]at this;simp at this;omega
   refine cJ.fs fs j X.w.heap.size 0 j d (ai8 _) J (fun i hi=>.inr ⟨rfl,by omega⟩) (fun i u M=>?_) fun i x u a7 M=>?_
   ·show w'.cell? _=_;rw [dS (show rowAt w' X.w.heap.size d by rw [s];exact kg (dR.alloc _ _)),Nat.zero_add];exact M
   ·obtain⟨u',N,hr⟩:=h6.get (i:=i) (x:=.f x) (by rw [E,aj3,a7];rfl);rw [M]at N;cases N;exact cJ.mono (fun c i h=>.inl h) I hr
  ·show X.B≤w'.heap.size;rw [g.size];omega
 ·simp at K
end
section
variable{Q:Program}{σ:Nat→FuncId}{X:Wd}
theorem zc{α:Type}(us rest:List α)(b:Nat)(d:List α)(h:b+d.length≤us.length):over (us++rest) b d=over us b d++rest:=by
 unfold over;rw [List.take_append_of_le_length (by omega),List.drop_append_of_le_length (by omega)];simp
theorem A2.one{cs:List C}{us:List Value}(h:A2 (CR σ X) cs us):∀ v ∈ us,v.oneCell'=ae:=by
 intro v d;obtain⟨i,hi⟩:=akc d;have b:i<cs.length:=by rw [h.len];exact(IS.1 hi).1
 exact CR.one σ (h.2 i _ v (By b) hi)
theorem zE(A:SR Q σ X){b:Nat}{cs:List C}{fl:Nat}{L:Loc}(q:X.H[b]?=aa (.box cs fl))(z:X.cd b=aa L){xs:List C}{l:List Value}(v:A2 (CR σ X) xs l){d:Nat}
  (J:fl≤d) (W:d+xs.length≤cs.length):∃ X',(storeCells ⟨L.c,d,ab⟩ l).run Q X.w=.ok () X'.w∧X'.H=X.H.set b (.box (over cs d xs) fl)∧SR Q σ X'∧Ext X.H.length X X' ∧
   (∀ b,X'.cd b=X.cd b)∧X'.w.heap.size=X.w.heap.size∧X'.B=X.B:=by
 obtain⟨_,_,bO,j,s⟩:=A.br b L z;rw [q]at j;simp only [AI]at j;subst j;obtain⟨us,u,x,y⟩:=s;have M:=v.len;have K:=x.len;obtain⟨B,N,O,S,U,E⟩:=iA u l d (by omega);obtain⟨F,H⟩:=SR.turn A (blk':=.box (over cs d xs) fl) q z B N (fun i I=>by
   rw [dS E,dS u];have:i<d:=by
    rcases ajz i d with h | h
    ·exact h
    ·exact absurd I (y i (by omega))
   exact zd us d l (by omega) i this) O S U
  (fun bO g=>⟨.box (over cs d xs) fl,by simp [(IS.1 q).1],by rw [q]at g;simp only [AI]at g;subst g;exact fun L h=>h⟩)
  (fun m=>⟨over us d l,E,A2.over (A2.ext' σ m x) (A2.ext' σ m v) d,y⟩)
 exact⟨_,qc u l d (by omega) (A2.one v),rfl,F,H,fun _=>rfl,B,rfl⟩
theorem zF(E:SR Q σ X){b:Nat}{sz:Nat}{cs:List C}{fl q:Nat}{L:Loc}(s:X.H[b]?=aa (.cE sz cs fl q .loc))(B:X.cd b=aa L){xs:List C}{l:List Value}(x:A2 (CR σ X) xs l){d:Nat}
  (O:fl≤d) (S:d+xs.length≤cs.length):∃ X',(storeCells ⟨L.c,d,ab⟩ l).run Q X.w=.ok () X'.w∧X'.H=X.H.set b (.cE sz (over cs d xs) fl q .loc)∧SR Q σ X'∧Ext X.H.length X X' ∧
   (∀ b,X'.cd b=X.cd b)∧X'.w.heap.size=X.w.heap.size∧X'.B=X.B:=by
 obtain⟨_,_,bO,j,u⟩:=E.br b L B;rw [s]at j;simp only [AI]at j;subst j;obtain⟨W,us,rest,v,z,J,K,M,A⟩:=u;have Z:=x.len;have Y:=z.len;obtain⟨F,a,c,e,f,y⟩:=iA v l d (by simp;omega);rw [zc _ _ _ _ (by omega)]at y;have U:=ze us d l (by omega);obtain⟨H,I⟩:=SR.turn E (blk':=.cE sz (over cs d xs) fl q .loc) s B F a (fun i N=>by
   rw [dS y,dS v];have:i<d:=by
    rcases ajz i d with h | h
    ·exact h
    ·exact absurd N (A i (by omega))
   rw [AT (by omega),AT (by omega)];exact zd us d l (by omega) i this) c e f
  (fun bO g=>⟨.cE sz (over cs d xs) fl q .loc,by simp [(IS.1 s).1],by rw [s]at g;simp only [AI]at g;subst g;exact⟨rfl,.inl ⟨rfl,rfl,fun L h=>h⟩⟩⟩)
  (fun m=>⟨rfl,over us d l,rest,y,A2.over (A2.ext' σ m z) (A2.ext' σ m x) d,by simp only [ai7]at J ⊢;omega,K,by rw [ze cs d xs S];exact M,A⟩)
 exact⟨_,qc v l d (by simp;omega) (A2.one x),rfl,H,I,fun _=>rfl,F,rfl⟩
theorem Tm(E:SR Q σ X){x:C}{u:Value}(d:CR σ X x u){xs:List C}{F:List Value}(m:A2 (CR σ X) xs F){H':an}(h:di X.H x xs=aa H') :
  ∃ c g X',u=.pointer (aa ⟨c,g,ab⟩)∧(storeCells ⟨c,g,ab⟩ F).run Q X.w=.ok () X'.w∧X'.H=H'∧SR Q σ X'∧Ext X.H.length X X'∧X'.w.heap.size=X.w.heap.size∧X'.B=X.B:=by
 unfold di at h;split at h
 ·rename_i b g H;obtain⟨L,B,d⟩:=d;split at h
  ·rename_i cs fl l;rw [l]at d;simp only at d;subst d;split at h
   ·rename_i j;simp only [AI]at h;subst h;obtain⟨X',q,s,v,y,_,z,A⟩:=zE E l B m j.1 j.2;exact⟨_,_,X',rfl,q,s,v,y,z,A⟩
   ·simp at h
  ·rename_i sz cs fl e l;rw [l]at d;split at h
   ·rename_i j;have d:=d.2.1 j.1;subst d;simp only [AI]at h;subst h;obtain⟨X',q,s,v,y,_,z,A⟩:=zF E l B m j.2.1 j.2.2;exact⟨_,_,X',rfl,q,s,v,y,z,A⟩
   ·simp at h
  ·simp at h
 ·simp at h
theorem To(E:SR Q σ X)(Y:X.B≤X.w.heap.size){a:Act}{aB:T}(q:RR σ X aB a.tmps){o:Oper}{n:Nat}{x y:Arg}(b:dN Q σ o (.store n x y)=ae){v:V}{H':an}
  (h:bC aB X.H (.store n x y)=aa (v,H')):gC Q σ X v H' (execOp a.eval o):=by
 simp only [dN]at b;split at b
 ·rename_i t N O H;simp only [BY]at b;obtain⟨⟨F,g⟩,m⟩:=b;have g:=bN q g;have m:=bN q m;simp only [bC]at h;split at h
  ·rename_i p xs I l;rw [I]at g;split at h
   ·rename_i s;simp only [IN,OF]at h;obtain⟨S,j,rfl,rfl⟩:=h;obtain⟨Z,K,d⟩:=ou m l;obtain⟨c,M,X',J,u,z,A,B,U,W⟩:=Tm E g d j;refine⟨undef,X',.inr ⟨?_,rfl⟩,z,A,trivial,B,by omega⟩;have L:=d.len;simp only [execOp,H,Sem.run_bind];have:(Instr.storeAt t (a.eval N) (a.eval O)).run Q X.w=.ok () X'.w:=by
     rw [J];simp [Instr.storeAt,Instr.sureAddr,storeVar,cV F,K];rw [ba (by omega)];exact u
    simp [this]
   ·simp at h
  ·simp at h
 ·simp at b
end
end Km
