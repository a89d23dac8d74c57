/-
  Our own small machine for Go code by value, held tq the model: part 1. No program in Gl.
-/
import GoSem.Step
import GoSem.Dispatch
import GoSem.Machine.Exec
import Derived.Calls
import Derived.Laws.World
import Derived.Laws.Cells
import Derived.Laws.IdiomCopy
import Derived.Below
import Derived.Laws.Slices
import Derived.Laws.Strings
import Derived.Laws.StructEq
import Derived.Laws.BytesString
import Derived.Laws.Tables
import Derived.Laws.AppendOwn
open Option renaming some → aa,none → ab
open Bool renaming true → ae,false → ag
open Option.some renaming injEq → sh
open Bool renaming false_eq_true → arQ, and_eq_true → BY
open List renaming getElem?_eq_some_iff → By, getElem?_eq_getElem → AT, getElem?_append_left → At, getElem?_append_right → arY, getElem?_take → asb, getElem?_drop → arV, getElem?_map → asD, all_eq_true → arX, getElem?_of_mem → asz, extract_eq_take_drop → asT, take_of_length_le → arT, foldl_cons → asL, length_cons → asc, take_succ_eq_append_getElem → aq8, eq_nil_of_length_eq_zero → anc, getElem?_set_ne → AI
open Nat renaming le_refl → OF, le_trans → arZ, lt_of_lt_of_le → asA, add_mul → asv, mul_eq_zero → atk, lt_or_ge → ar9
open Option renaming bind_eq_some_iff → ar6, map_eq_some_iff → IN, bind_eq_bind → atr, bind_some → ar7, map_some → asm
open Prod.mk renaming injEq → IS
set_option linter.unusedVariables false
set_option linter.constructorNameAsVariable false
set_option linter.unusedSimpArgs false
set_option linter.unusedSectionVars false
set_option maxRecDepth 100000
namespace Km
open Go
theorem aO.{u}{α:Sort u}(a:α):∃ b,b=a:=⟨a,rfl⟩
theorem aZ.{u}{c:Prop}{h:Decidable c}(b:¬c){α:Sort u}{t e:α}:(ite c t e)=e:=if_neg b
theorem bp.{u}{c:Prop}{h:Decidable c}(hc:c){α:Sort u}{t e:α}:(ite c t e)=t:=if_pos hc
inductive FC where
 | bool (b:Bool)
 | int (k:IntKind) (n:Int)
 | str (s:ByteArray)
 | gD | aF | es | ku | mQ | v_
 | fp (cs:List FC) (off:Nat)
 | fs (cs:List FC) (len:Nat)
 | fn (f:Nat) (Lj:List FC)
 deriving Inhabited
inductive C where
 | f (x:FC)
 | ptr (b off ep:Nat)
 | sl (b off len cap ep sz:Nat)
 | cl (f:Nat) (Lj:List C)
 | yl (b:Nat)
 | mp (b:Nat)
 | it (b:Nat)
 | bm (f:Nat) (first:List C)
 | mi (b:Nat)
 deriving Inhabited
inductive V where
 | top
 | c (x:C)
 | a (xs:List C)
 | t (xs:List V)
 deriving Inhabited
def Le:Nat:=1000000007
def mV:C→V
 | .cl f cs=>if f=Le then .a cs else .c (.cl f cs)| x=>.c x
def sw:V→Option C
 | .c (.cl f cs)=>if f=Le then ab else aa (.cl f cs)| .c x=>aa x| .a cs=>aa (.cl Le cs)| _=>ab
def zV:FC→V
 | .fn f zs=>if f=Le then .a (zs.map .f)else .c (.f (.fn f zs))| z=>.c (.f z)
def su:FC→List FC
 | .fn f zs=>if f=Le then zs else [.fn f zs]| z=>[z]
def E0:FC→Bool
 | .fn f _=>decide (f=Le)| _=>ag
theorem X5{v:V}{c:C}(h:sw v=aa c):mV c=v:=by
 cases v with
 | c x=>
  cases x<;>simp only [sw,sh]at h
  case cl f cs=>
   split at h
   ·cases h
   ·rename_i b;simp only [sh]at h;subst h;simp only [mV,aZ b]
  all_goals (subst h;rfl)
 | a cs=>simp only [sw,sh]at h;subst h;simp [mV]| _=>simp [sw]at h
theorem aj8{z:FC}(h:E0 z=ae):zV z=.a ((su z).map .f):=by
 cases z<;>simp only [E0,decide_eq_true_eq,reduceCtorEq,arQ]at h;simp only [zV,su,bp h]
theorem aj9{z:FC}(h:E0 z=ag):zV z=.c (.f z)∧su z=[z]:=by
 cases z<;>simp only [E0,decide_eq_false_iff_not]at h
 case fn f zs=>simp only [zV,su,aZ h,and_self]
 all_goals exact⟨rfl,rfl⟩
inductive Os where | loc | nil | es
 deriving DecidableEq,Inhabited
inductive P where
 | h
 | o (p:P)
 | i (p:P)
 deriving DecidableEq,Inhabited
def P.toNat:P→Nat
 | .h=>0| .o p=>2*p.toNat+1| .i p=>2*p.toNat+2
inductive T where
 | e
 | n (l:T) (v:V) (r:T)
 deriving Inhabited
def T.get:T→P→V
 | .e,_=>.top| .n _ v _,.h=>v| .n l _ _,.o p=>l.get p| .n _ _ r,.i p=>r.get p
def T.set:T→P→V→T
 | .e,.h,w=>.n .e w .e| .e,.o p,w=>.n (T.set .e p w) .top .e| .e,.i p,w=>.n .e .top (T.set .e p w)| .n l _ r,.h,w=>.n l w r| .n l v r,.o p,w=>.n (l.set p w) v r| .n l v r,.i p,w=>.n l v (r.set p w)
inductive Arg where
 | r (n:P)
 | k (v:V)
 deriving Inhabited
inductive CK where | bool | int | str
 deriving DecidableEq,Inhabited
inductive K8 where
 | bool | ptr | sl | fn | ifc
 | st (ks:List CK)
 deriving Inhabited
inductive cP where
 | bJ (x:Arg)
 | pre (o:Os) (sz:Nat)
 | pick (c a b:Arg)
 | alloc (zs:List FC)
 | box (x:Arg)
 | build (zs:List FC) (parts:List (Nat × Nat × Arg))
 | aV (sz:Nat) (zs:List FC) (len:Nat) (parts:List (Nat × Arg))
 | load (n:Option Nat) (x:Arg)
 | store (n:Nat) (x y:Arg)
 | bD (x:Arg)
 | bin (op:BinOp) (x y:Arg)
 | eq (neg:Bool) (k:K8) (x y:Arg)
 | un (op:UnOp) (x:Arg)
 | fA (k:IntKind) (x:Arg)
 | y6 (x:Arg)
 | vX (x:Arg)
 | DB (x:Arg)
 | lG (f:Nat) (Lj:List Arg)
 | kI
 | lookup (ck:CK) (zero:FC) (m k:Arg)
 | kG (ck:CK) (m k v:Arg)
 | cM (sz bytes:Nat) (zs:List FC) (l c:Arg)
 | slice (sz:Nat) (x:Arg) (lo hi mx:Option Arg)
 | oU (n sz:Nat) (x:Arg) (lo hi mx:Option Arg)
 | qH (x:Arg) (lo hi:Option Arg)
 | aD (off:Nat) (x:Arg)
 | field (off:Nat) (n:Option Nat) (x:Arg)
 | aW (sz:Nat) (arr:Option Nat) (x i:Arg)
 | idxs (x i:Arg)
 | qd (len sz:Nat) (n:Option Nat) (x i:Arg)
 | range (x:Arg)
 | next (x:Arg)
 | extract (x:Arg) (i:Nat)
 | call (f:Nat) (args:List Arg) (h:Bool)
 | bY (x:Arg) (args:List Arg) (h:Bool)
 | len (x:Arg)
 | uW (n:Nat)
 | lens (x:Arg)
 | cap (x:Arg)
 | append (sz bytes:Nat) (x y:Arg)
 | copy (sz:Nat) (x y:Arg)
 | mP (lo:Bool) (xs:List Arg)
 | sV (sz bytes:Nat) (zs:List FC) (x n:Arg)
 | clear (sz:Nat) (zs:List FC) (x:Arg)
 | mj (x:Arg)
 | qu (x:Arg)
 | entry (x:Arg)
 | v7 (f:Nat) (xs:List Arg)
 | wu (sz:Nat) (x hi mx:Arg)
 | fU (sz:Nat) (zs:List FC) (len:Nat) (parts:List (Nat × Arg))
 | recover
 | defer (x:Arg) (args:List Arg)
 | bad
 deriving Inhabited
def cP.fsl:cP→Bool
 | .fU ..=>ae| _=>ag
structure aS where
 dst:Option P
 op:cP
 g:Option (P × Bool):=ab
 deriving Inhabited
inductive az where
 | skip
 | region (ops:List aS) (gX:List (Nat × Nat))
 | seq (a b:az)
 | cond (c:Arg) (a b:az)
 | block (id:Nat) (a:az)
 | loop (a:az)
 | kX (f:Arg) (ps:List P) (assign body:az)
 | exit (id:Nat)
 | ret
 | bad
 | scope (a:az)
 | label (l:Nat)
 | goto (l:Nat)
 deriving Inhabited
inductive gk where | ready | busy | done | exhausted
 deriving DecidableEq,Inhabited
inductive cT where
 | box (cs:List C) (fl:Nat)
 | bM (sz:Nat) (cs:List C) (fl ep:Nat) (st:Os)
 | map (es:List (FC × C))
 | it (s:ByteArray) (pos:Nat)
 | vP (m since:Nat) (done:Bool)
 | kT (open_:Bool)
 | lp (fn:Nat) (tmps:T) (ps:List P) (assign body:az) (st:gk) (pending:Option az) (kT:Nat)
 deriving Inhabited
abbrev aj:=List cT
inductive dH where
 | pV (b:Nat)
 | fn (f:Nat) (args:List V)
 deriving Inhabited
inductive iK where
 | tmp (t:P)
 | cell (t:P) (n:Option Nat)
 deriving Inhabited
structure aE where
 ps:List P
 results:List iK
 body:az
 deriving Inhabited
def Arg.ev(aA:T):Arg→V
 | .r n=>aA.get n| .k v=>v
def V.int(k:IntKind)(n:Int):V:=.c (.f (.int k n))
def V.bool(b:Bool):V:=.c (.f (.bool b))
def aC(H:aj):C→Option (List C)
 | .ptr b off d=>match H[b]? with
  | some (.box cs _)=>aa (cs.drop off)| some (.bM _ cs _ e .loc)=>if d=e then aa (cs.drop off)else ab| _=>ab
 | .f (.fp cs off)=>aa ((cs.drop off).map .f)| _=>ab
def aK:Option Nat→List C→Option V
 | none,c::_=>aa (.c c)| none,[]=>ab| some n,cs=>if n≤cs.length then aa (.a (cs.take n))else ab
def aU(H:aj)(n:Option Nat):V→Option V
 | .c x=>(aC H x).bind (aK n)| _=>ab
def V.cells? : V→Option (List C)
 | .c x=>aa [x]| .a xs=>aa xs| _=>ab
def over{α:Type}(cs:List α)(off:Nat)(xs:List α):List α:=cs.take off++xs++cs.drop (off+xs.length)
def cE(H:aj)(x:C)(xs:List C):Option aj:=
 match x with
 | .ptr b off g=>match H[b]? with
  | some (.box cs d)=>if d≤off∧off+xs.length≤cs.length then aa (H.set b (.box (over cs off xs) d))else ab| some (.bM sz cs d e .loc)=>if g=e∧d≤off∧off+xs.length≤cs.length then aa (H.set b (.bM sz (over cs off xs) d e .loc))else ab| _=>ab
 | _=>ab
def bH(H:aj):C→Option Nat
 | .sl b _ l _ d sz=>match H[b]? with
  | some (.box _ _)=>aa l| some (.bM s _ _ e _)=>if d=e∧sz=s then aa l else ab| _=>ab
 | .f .aF=>aa 0| .f .es=>aa 0| .f (.fs _ l)=>aa l| _=>ab
def cO(H:aj)(sz:Nat):C→Option (List C)
 | .sl b o l _ d s=>match H[b]? with
  | some (.box cs _)=>if o+l*sz≤cs.length then aa ((cs.drop o).take (l*sz))else ab| some (.bM s' cs _ e _)=>if d=e∧s=s'∧o+l*sz≤cs.length then aa ((cs.drop o).take (l*sz))else ab| _=>ab
 | .f .aF=>aa []| .f .es=>aa []| .f (.fs cs l)=>if cs.length=l*sz then aa (cs.map .f)else ab| _=>ab
def ba{α β:Type}(g:α→Option β):List α→Option (List β)
 | []=>aa []
 | x::xs=>match g x with
  | none=>ab
  | some y=>match ba g xs with
   | none=>ab| some ys=>aa (y::ys)
def c8:Nat→aj→C→Option FC
 | _,_,.f x=>aa x| 0,_,_=>ab
 | n+1,H,.ptr b off _=>match H[b]? with
  | some (.box cs _)=>(ba (c8 n H) cs).map (.fp · off)| _=>ab
 | n+1,H,.sl b o l _ g sz=>match H[b]? with
  | some (.box cs _)=>if o+l*sz≤cs.length then(ba (c8 n H) ((cs.drop o).take (l*sz))).map (.fs · l)else ab| some (.bM s cs _ e .loc)=>if g=e∧sz=s∧o+l*sz≤cs.length then(ba (c8 n H) ((cs.drop o).take (l*sz))).map (.fs · l)else ab| some (.bM s _ _ e .nil)=>if g=e∧sz=s then aa .aF else ab| some (.bM s _ _ e .es)=>if g=e∧sz=s then aa .es else ab| _=>ab
 | n+1,H,.cl f d=>(ba (c8 n H) d).map (.fn f)| _+1,_,_=>ab
def bO(n:Nat)(H:aj):V→Option V
 | .c x=>(c8 n H x).map fun y=>.c (.f y)
 | .a xs=>(ba (c8 n H) xs).map fun ys=>.a (ys.map .f)
 | _=>ab
def fJ(n:Nat)(H:aj):V→Option V
 | .t b=>(ba (bO n H) b).map .t| v=>bO n H v
def jt:Nat→C→aj→aj
 | _,.f _,H=>H| 0,_,H=>H
 | n+1,.ptr b _ _,H=>match H[b]? with
  | some (.box cs g)=>cs.foldl (fun H x=>jt n x H) (H.set b (.box cs (Nat.max g cs.length)))
  | _=>H
 | n+1,.sl b o l _ _ sz,H=>match H[b]? with
  | some (.box cs g)=>((cs.drop o).take (l*sz)).foldl (fun H x=>jt n x H) (H.set b (.box cs (Nat.max g (o+l*sz))))
  | some (.bM s cs g e st)=>((cs.drop o).take (l*sz)).foldl (fun H x=>jt n x H) (H.set b (.bM s cs (Nat.max g (o+l*sz)) e st))
  | _=>H
 | n+1,.cl _ d,H=>d.foldl (fun H x=>jt n x H) H
 | _+1,_,H=>H
def ZR(n:Nat)(H:aj):V→aj
 | .c x=>jt n x H| .a xs=>xs.foldl (fun H x=>jt n x H) H
 | _=>H
def lu(op:BinOp)(k:IntKind)(x y:Int):Option V:=
 match op with
 | .add=>aa (.int k (k.wrap (x+y)))| .sub=>aa (.int k (k.wrap (x-y)))| .mul=>aa (.int k (k.wrap (x*y)))| .quo=>if y=0 then ab else aa (.int k (k.wrap (x.tdiv y)))| .rem=>if y=0 then ab else aa (.int k (x.tmod y))| .and=>aa (.int k (k.wrap (BitVec.ofInt k.bits x &&& BitVec.ofInt k.bits y).toNat))| .or=>aa (.int k (k.wrap (BitVec.ofInt k.bits x ||| BitVec.ofInt k.bits y).toNat))| .xor=>aa (.int k (k.wrap (BitVec.ofInt k.bits x ^^^ BitVec.ofInt k.bits y).toNat))| .andNot=>aa (.int k (k.wrap (BitVec.ofInt k.bits x &&& ~~~ (BitVec.ofInt k.bits y)).toNat))| .eql=>aa (.bool (x == y))| .neq=>aa (.bool (x != y))| .lss=>aa (.bool (decide (x<y)))| .leq=>aa (.bool (decide (x≤y)))| .gtr=>aa (.bool (decide (x>y)))| .geq=>aa (.bool (decide (x≥y)))| _=>ab
def Lg(op:BinOp)(x y:ByteArray):Option V:=
 match op with
 | .add=>if((x.size+y.size:Nat):Int)>IntKind.i64.max then ab else aa (.c (.f (.str (x++y))))| .eql=>aa (.bool (x.toList == y.toList))| .neq=>aa (.bool !(x.toList == y.toList))| .lss=>aa (.bool (Op.bytesLess x.toList y.toList))| .leq=>aa (.bool (Op.bytesLess x.toList y.toList||x.toList == y.toList))| .gtr=>aa (.bool !(Op.bytesLess x.toList y.toList||x.toList == y.toList))| .geq=>aa (.bool !(Op.bytesLess x.toList y.toList))| _=>ab
def MM:CK→C→C→Option Bool
 | .bool,.f (.bool a),.f (.bool b)=>aa (a == b)| .int,.f (.int k a),.f (.int k' b)=>if k=k' then aa (a == b)else ab| .str,.f (.str a),.f (.str b)=>aa (a == b)| _,_,_=>ab
def rC:List CK→List C→List C→Option Bool
 | [],[],[]=>aa ae
 | k::ks,x::xs,y::ys=>match MM k x y,rC ks xs ys with
  | some a,aa b=>aa (a&&b)| _,_=>ab
 | _,_,_=>ab
def isNil(H:aj):K8→C→Option Bool
 | .ptr,.f .gD=>aa ae| .ptr,.f (.fp _ _)=>aa ag| .ptr,.ptr _ _ _=>aa ag| .sl,.f .aF=>aa ae| .sl,.f .es=>aa ag| .sl,.f (.fs _ _)=>aa ag
 | .sl,.sl b _ _ _ d sz=>match H[b]? with
  | some (.box _ _)=>aa ag| some (.bM s _ _ e st)=>if d=e∧sz=s then aa (st == .nil)else ab| _=>ab
 | .fn,.f .ku=>aa ae| .fn,.f (.fn _ _)=>aa ag| .fn,.cl _ _=>aa ag| .fn,.bm _ _=>aa ag| .ifc,.f .mQ=>aa ae| _,_=>ab
def za(H:aj):K8→V→V→Option Bool
 | .bool,.c x,.c y=>MM .bool x y| .st ks,.a xs,.a ys=>rC ks xs ys| .ptr,.c x,.c (.f .gD)=>isNil H .ptr x| .sl,.c x,.c (.f .aF)=>isNil H .sl x| .fn,.c x,.c (.f .ku)=>isNil H .fn x| .ifc,.c x,.c (.f .mQ)=>isNil H .ifc x| _,_,_=>ab
def bS(op:BinOp)(x y:V):Option V:=
 match op,x,y with
 | .shl,.c (.f (.int k a)),.c (.f (.int _ b))=>if b<0 then ab else aa (.int k (k.wrap (a*2 ^ (min b.toNat k.bits))))| .shr,.c (.f (.int k a)),.c (.f (.int _ b))=>if b<0 then ab else aa (.int k (a.fdiv (2 ^ (min b.toNat k.bits))))| op,.c (.f (.int k a)),.c (.f (.int k' b))=>if k=k' then lu op k a b else ab| op,.c (.f (.str a)),.c (.f (.str b))=>Lg op a b| _,_,_=>ab
def unV(op:UnOp)(x:V):Option V:=
 match op,x with
 | .neg,.c (.f (.int k n))=>aa (.int k (k.wrap (0-n)))| .not,.c (.f (.bool b))=>aa (.bool !b)| _,_=>ab
def dy:V→Option Int
 | .c (.f (.int _ n))=>aa n| _=>ab
def Af(x:V)(y:Nat):Option Nat:=
 match dy x with
 | some i=>if 0≤i∧i≤y then aa i.toNat else ab| none=>ab
def cj(len cap:Nat)(lo hi mx:Option V):Option (Nat × Nat × Nat):=do
 let m ←match mx with
  | some v=>Af v cap| none=>aa cap
 let h ←match hi,mx with
  | some v,_=>Af v m| none,ab=>aa len| none,aa _=>ab
 let l ←match lo with
  | some v=>Af v h| none=>aa 0
 pure (l,h,m)
def dw(H:aj)(sz:Nat)(x:V)(lo hi mx:Option V):Option V:=
 match x with
 | .c (.f .aF)=>match cj 0 0 lo hi mx with
  | some _=>aa (.c (.f .aF))| none=>ab
 | .c (.f .es)=>match cj 0 0 lo hi mx with
  | some _=>aa (.c (.f .es))| none=>ab
 | .c (.f (.fs cs n))=>match cj n n lo hi mx with
  | some (l,h,m)=>
   if mx.isSome∧m=l then aa (.c (.f .es))else
   aa (.c (.f (.fs ((cs.drop (l*sz)).take ((h-l)*sz)) (h-l))))
  | none=>ab
 | .c (.sl b o n cap d s)=>match H[b]? with
  | some (.box _ _)=>match cj n cap lo hi mx with
   | some (l,h,m)=>if m=l then aa (.c (.f .es))else aa (.c (.sl b (o+l*sz) (h-l) (m-l) d s))| none=>ab
  | some (.bM s' _ _ e st)=>
   if d=e∧s=sz∧s'=sz then
    match st with
    | .loc=>match cj n n lo hi mx with
     | some (l,h,m)=>
      if mx.isSome∧m=l then aa (.c (.f .es))
      else if l=h∧0<l then aa (.c (.f (.fs [] 0)))
      else if mx.isSome then ab
      else aa (.c (.sl b (o+l*sz) (h-l) 0 d s))
     | none=>ab
    | .nil=>match cj 0 0 lo hi mx with
     | some _=>aa (.c (.f .aF))| none=>ab
    | .es=>match cj 0 0 lo hi mx with
     | some _=>aa (.c (.f .es))| none=>ab
   else ab
  | _=>ab
 | _=>ab
def vB(x:V)(lo hi:Option V):Option V:=
 match x with
 | .c (.f (.str s))=>match cj s.size s.size lo hi ab with
  | some (l,h,_)=>aa (.c (.f (.str (s.extract l h))))| none=>ab
 | _=>ab
def kZ(H:aj)(n sz:Nat)(x:V)(lo hi mx:Option V):Option V:=
 match x with
 | .c (.ptr b off _)=>match H[b]? with
  | some (.box cs _)=>match cj n n lo hi mx with
   | some (l,h,m)=>if off+n*sz≤cs.length then(if m=l then aa (.c (.f .es))else aa (.c (.sl b (off+l*sz) (h-l) (m-l) 0 sz)))else ab| none=>ab
  | _=>ab
 | .c (.f (.fp cs off))=>match cj n n lo hi mx with
   | some (l,h,m)=>if off+n*sz≤cs.length then(if m=l then aa (.c (.f .es))else aa (.c (.f (.fs ((cs.drop (off+l*sz)).take ((h-l)*sz)) (h-l)))))else ab| none=>ab
 | _=>ab
def aP(H:aj)(sz:Nat)(g:Option Nat)(x i:V):Option V:=
 match dy i with
 | none=>ab
 | some i=>
  if 0≤i then
   match g,x with
   | none,.c (.sl b o l _ d s)=>if i<l then
     (match H[b]? with
      | some (.box _ _)=>aa (.c (.ptr b (o+i.toNat*sz) d))| some (.bM s' _ _ e .loc)=>if d=e∧s=s' then aa (.c (.ptr b (o+i.toNat*sz) d))else ab
      | _=>ab)else ab
   | none,.c (.f (.fs cs l))=>if i<l then aa (.c (.f (.fp cs (i.toNat*sz))))else ab| some n,.c (.ptr b o d)=>if i<n then aa (.c (.ptr b (o+i.toNat*sz) d))else ab| some n,.c (.f (.fp cs o))=>if i<n then aa (.c (.f (.fp cs (o+i.toNat*sz))))else ab| _,_=>ab
  else ab
def jn(off:Nat):V→Option V
 | .c (.ptr b o d)=>aa (.c (.ptr b (o+off) d))| .c (.f (.fp cs o))=>aa (.c (.f (.fp cs (o+off))))| _=>ab
def nv(off:Nat)(n:Option Nat):V→Option V
 | .a xs=>aK n (xs.drop off)| _=>ab
def BD(x i:V):Option V:=
 match x,dy i with
 | .c (.f (.str s)),aa i=>if 0≤i then(s[i.toNat]?).map fun b=>.int .u8 b.toNat else ab
 | _,_=>ab
def mC(len sz:Nat)(n:Option Nat)(x i:V):Option V:=
 match x,dy i with
 | .a xs,aa i=>if 0≤i∧i<len then aK n (xs.drop (i.toNat*sz))else ab| _,_=>ab
def FQ(H:aj):V→Option (V × aj)
 | .c (.it b)=>match H[b]? with
  | some (.it s pos)=>
   if pos<s.size then
    let r:=Utf8.decode s pos
    aa (.t [.bool ae,.int .i64 pos,.int .i32 r.1],H.set b (.it s (pos+r.2)))
   else aa (.t [.bool ag],H)
  | _=>ab
 | _=>ab
def bW(need bytes:Nat):Bool:=decide ((2*need+768)*bytes≤2 ^ 48)&&decide (need<2 ^ 48)
def c4(H:aj)(sz:Nat):V→Option (Nat × List C)
 | .c (.f (.str s))=>if sz=1 then aa (s.size,s.toList.map fun b=>.f (.int .u8 b.toNat))else ab
 | .c x=>match bH H x,cO H sz x with
  | some l,aa cs=>aa (l,cs)| _,_=>ab
 | _=>ab
def bU(H:aj)(sz bytes:Nat)(x y:V):Option (V × aj):=
 match c4 H sz y with
 | none=>ab
 | some (m,ys)=>
  if sz=0 then ab else
  match x with
  | .c (.f .aF)=>if m=0 then aa (.c (.f .aF),H)else
    if bW m bytes then aa (.c (.sl H.length 0 m 0 0 sz),H++[.bM sz ys 0 0 .loc])else ab
  | .c (.f .es)=>if m=0 then aa (.c (.f .es),H)else
    if bW m bytes then aa (.c (.sl H.length 0 m 0 0 sz),H++[.bM sz ys 0 0 .loc])else ab
  | .c (.sl b o l cap g s)=>match H[b]? with
   | some (.box cs d)=>
    if l+m≤cap then
     if d≤o+l*sz∧o+l*sz+ys.length≤cs.length then aa (.c (.sl b o (l+m) cap g s),H.set b (.box (over cs (o+l*sz) ys) d))else ab
    else if bW (l+m) bytes∧o+l*sz≤cs.length then aa (.c (.sl H.length 0 (l+m) 0 0 sz),H++[.bM sz ((cs.drop o).take (l*sz)++ys) 0 0 .loc])else ab
   | some (.bM s' cs d e st)=>
    if g=e∧s'=sz∧s=sz then
     if m=0 then aa (x,H)
     else if o=0∧l*sz=cs.length∧d≤cs.length then
      if bW (l+m) bytes then aa (.c (.sl b 0 (l+m) 0 (g+1) sz),H.set b (.bM sz (cs++ys) d (e+1) .loc))else ab
     else if st=.loc∧d≤o+l*sz∧o+l*sz+ys.length≤cs.length then
      aa (.c (.sl b o (l+m) 0 g sz),H.set b (.bM sz (over cs (o+l*sz) ys) d e .loc))
     else ab
    else ab
   | _=>ab
  | _=>ab
def copyV(H:aj)(sz:Nat)(x y:V):Option (V × aj):=
 match c4 H sz y,x with
 | some _,.c (.f .aF)=>aa (.int .i64 0,H)| some _,.c (.f .es)=>aa (.int .i64 0,H)
 | some (m,ys),.c (.sl b o l _ g s')=>
  let n:=Nat.min m l
  match H[b]? with
  | some (.box cs d)=>if d≤o∧o+n*sz≤cs.length then aa (.int .i64 n,H.set b (.box (over cs o (ys.take (n*sz))) d))else ab| some (.bM s cs d e .loc)=>if g=e∧s'=s∧s=sz∧d≤o∧o+n*sz≤cs.length then aa (.int .i64 n,H.set b (.bM s (over cs o (ys.take (n*sz))) d e .loc))else ab| _=>ab
 | _,_=>ab
def oO(H:aj):V→Option V
 | .c x=>match bH H x with
  | some _=>match cO H 1 x with
   | some cs=>(ba (fun c=>match c with | C.f (.int .u8 n)=>aa (UInt8.ofNat n.toNat) | _=>ab) cs).map fun l=>.c (.f (.str ⟨l.toArray⟩))
   | none=>ab
  | none=>ab
 | _=>ab
def dv(aA:T)(cs:List C):List (Nat × Nat × Arg)→Option (List C)
 | []=>aa cs
 | (off,n,x)::rest=>match (x.ev aA).cells? with
  | some xs=>if xs.length=n∧off+xs.length≤cs.length then dv aA (over cs off xs) rest else ab| none=>ab
def dh(aA:T)(xs:List Arg):List V:=xs.map (·.ev aA)
def sX:V→Option C
 | .c (.cl _ _)=>ab| .c (.bm _ _)=>ab| .c x=>aa x| _=>ab
def cq{α:Type}(n:Nat)(xs:List α):List α:=(List.replicate n xs).flatten
def eqK:CK→FC→FC→Option Bool
 | .int,.int k a,.int k' b=>if k=k' then aa (a == b)else ab| .str,.str a,.str b=>aa (a == b)| .bool,.bool a,.bool b=>aa (a == b)| _,_,_=>ab
def nE(b:CK)(k:FC):List (FC × C)→Option (Option C)
 | []=>aa ab
 | e::d=>match eqK b k e.1 with
  | some ae=>aa (aa e.2)| some ag=>nE b k d| none=>ab
def xU(b:CK)(k:FC)(v:C):List (FC × C)→Option (List (FC × C))
 | []=>aa [(k,v)]
 | e::d=>match eqK b k e.1 with
  | some ae=>aa ((k,v)::d)| some ag=>(xU b k v d).map (e::·)| none=>ab
def isKey:CK→FC→Bool
 | .int,.int _ _=>ae| .str,.str _=>ae| .bool,.bool _=>ae| _,_=>ag
def s_:FC→Option FC
 | .fp [z] 77=>aa z| _=>ab
def lkR(z:FC)(r:Option C):V:=match s_ z with
 | some z0=>.t [(r.map mV).getD (zV z0),.c (.f (.bool r.isSome))]| none=>(r.map mV).getD (zV z)
def gv(H:aj)(d:CK)(z:FC):V→V→Option V
 | .c (.f .v_),.c (.f k)=>if isKey d k then aa (lkR z ab)else ab
 | .c (.mp b),.c (.f k)=>match H[b]? with
  | some (.map g)=>if isKey d k then(nE d k g).map (lkR z)else ab| _=>ab
 | _,_=>ab
def mH(H:aj):C→Option Nat
 | .sl b _ _ c d sz=>match H[b]? with
  | some (.box _ _)=>aa c| some (.bM s _ _ e .nil)=>if d=e∧sz=s then aa 0 else ab| some (.bM s _ _ e .es)=>if d=e∧sz=s then aa 0 else ab| _=>ab
 | .f .aF=>aa 0| .f .es=>aa 0| _=>ab
def FN(lo:Bool)(x y:V):Option V:=
 match x,y with
 | .c (.f (.int k a)),.c (.f (.int _ b))=>aa (.int k (if lo then(if b<a then b else a)else(if b>a then b else a)))| _,_=>ab
def xR(lo:Bool):V→List V→Option V
 | x,[]=>aa x
 | x,y::ys=>match FN lo x y with
  | some z=>xR lo z ys| none=>ab
def L9(lo:Bool):List V→Option V
 | []=>ab| x::xs=>xR lo x xs
def uA(H:aj)(sz:Nat)(zs:List FC)(x:V):Option aj:=
 match x with
 | .c y=>match bH H y with
  | some 0=>aa H
  | some l=>
   if zs.length=sz then
    match y with
    | .sl b o _ _ d s=>match H[b]? with
     | some (.box _ _)=>cE H (.ptr b o d) ((cq l zs).map .f)| some (.bM s' _ _ e .loc)=>if d=e∧s=s' then cE H (.ptr b o d) ((cq l zs).map .f)else ab| _=>ab
    | _=>ab
   else ab
  | none=>ab
 | _=>ab
def Fi(H:aj)(sz bytes:Nat)(zs:List FC)(x n:V):Option (V × aj):=
 match dy n with
 | some n=>
  if 0≤n∧zs.length=sz then
   match x with
   | .c (.f .aF)=>if n.toNat=0 then aa (.c (.f .aF),H)else
     if bW n.toNat bytes then aa (.c (.sl H.length 0 n.toNat 0 0 sz),H++[.bM sz ((cq n.toNat zs).map .f) 0 0 .loc])else ab
   | .c (.f .es)=>if n.toNat=0 then aa (.c (.f .es),H)else
     if bW n.toNat bytes then aa (.c (.sl H.length 0 n.toNat 0 0 sz),H++[.bM sz ((cq n.toNat zs).map .f) 0 0 .loc])else ab
   | _=>ab
  else ab
 | none=>ab
def fcC:C→Option FC
 | .f x=>aa x| _=>ab
def Cs(H:aj)(sz:Nat)(x hi mx:V):Option (V × aj):=
 match dw H sz x ab (aa hi) (aa mx)with
 | some v=>aa (v,H)
 | none=>match x with
  | .c (.sl b o n _ d s)=>match H[b]? with
   | some (.bM s' cs g e .loc)=>
    if d=e∧s=sz∧s'=sz∧o=0 then
     match Af hi n,Af mx n with
     | some i,aa j=>
      if i=j∧0<i∧i*sz≤cs.length then
       match ba fcC (cs.take (i*sz))with
       | some ys=>aa (.c (.f (.fs ys i)),H.set b (.bM s' cs (Nat.max g (i*sz)) e .loc))| none=>ab
      else ab
     | _,_=>ab
    else ab
   | _=>ab
  | _=>ab
def zy(H:aj):V→Option (V × aj)
 | .c (.mi b)=>match H[b]? with
  | some (.vP m d done)=>match H[m]? with
   | some (.map [])=>if done then ab else aa (.t [.bool ag],H)| some (.map [e])=>if done then aa (.t [.bool ag],H)else if d=1 then aa (.t [.bool ae,.c (.f e.1),mV e.2],H.set b (.vP m 1 ae))else ab| _=>ab
  | _=>ab
 | _=>ab
def lW(H:aj):V→Option V
 | .c (.mi b)=>match H[b]? with
  | some (.vP m _ ae)=>match H[m]? with
   | some (.map [e])=>aa (.t [.c (.f e.1),mV e.2])| _=>ab
  | _=>ab
 | _=>ab
def tK(H:aj):V→Option (V × aj)
 | .c (.mp b)=>match H[b]? with
  | some (.map d)=>if d.length≤1 then aa (.c (.mi H.length),H++[.vP b d.length ag])else ab| _=>ab
 | _=>ab
def ZN:List C→Option (List FC)
 | []=>aa []| .f x::xs=>(ZN xs).map (x::·)| _::_=>ab
def bz(aA:T)(H:aj):cP→Option (V × aj)
 | .bJ x=>aa (x.ev aA,H)| .pre o sz=>if o=.loc∨sz=0 then ab else aa (.c (.sl H.length 0 0 0 0 sz),H++[.bM sz [] 0 0 o])
 | .pick c a b=>match c.ev aA with
  | .c (.f (.bool v))=>aa ((if v then a else b).ev aA,H)| _=>ab
 | .alloc zs=>aa (.c (.ptr H.length 0 0),H++[.box (zs.map .f) 0])
 | .box x=>match (x.ev aA).cells? with
  | some xs=>aa (.c (.ptr H.length 0 0),H++[.box xs 0])| none=>ab
 | .build zs ps=>(dv aA (zs.map .f) ps).map fun cs=>(.a cs,H)
 | .aV sz zs n ps=>
  if n=0 then(if ps.isEmpty then aa (.c (.f .es),H)else ab)else
  (dv aA ((cq n zs).map .f) (ps.map fun p=>(p.1*sz,sz,p.2))).map fun cs=>(.c (.sl H.length 0 n n 0 sz),H++[.box cs 0])
 | .load n x=>(aU H n (x.ev aA)).map (·,H)
 | .store n x y=>match x.ev aA,(y.ev aA).cells? with
  | .c p,aa xs=>if xs.length=n then(cE H p xs).map (.top,·)else ab| _,_=>ab
 | .bD x=>match x.ev aA with
  | .c (.ptr b o e)=>aa (.c (.ptr b o e),H)| .c (.f (.fp cs o))=>aa (.c (.f (.fp cs o)),H)| _=>ab
 | .bin op x y=>(bS op (x.ev aA) (y.ev aA)).map (·,H)| .eq neg k x y=>(za H k (x.ev aA) (y.ev aA)).map fun b=>(.bool (if neg then !b else b),H)
 | .un op x=>(unV op (x.ev aA)).map (·,H)
 | .fA k x=>match x.ev aA with
  | .c (.f (.int _ n))=>aa (.int k (k.wrap n),H)| _=>ab
 | .y6 x=>match x.ev aA with
  | .c (.f (.str s))=>aa (.c (.f (.str s)),H)| _=>ab
 | .vX x=>(oO H (x.ev aA)).map (·,H)
 | .DB x=>match x.ev aA with
  | .c (.f (.str s))=>if s.size<2 ^ 48 then aa (.c (.sl H.length 0 s.size 0 0 1),H++[.bM 1 (s.toList.map fun b=>.f (.int .u8 b.toNat)) 0 0 .loc])else ab
  | _=>ab
 | .lG f d=>(ba sX (dh aA d)).map fun xs=>(.c (.cl f xs),H)
 | .kI=>aa (.c (.mp H.length),H++[.map []])| .lookup g z m k=>(gv H g z (m.ev aA) (k.ev aA)).map (·,H)
 | .kG g m k v=>match m.ev aA,k.ev aA,sw (v.ev aA)with
  | .c (.mp b),.c (.f k),aa v=>match H[b]? with
   | some (.map q)=>if isKey g k then(xU g k v q).map fun q=>(.top,H.set b (.map q))else ab
   | _=>ab
  | _,_,_=>ab
 | .cM sz bytes zs l c=>match dy (l.ev aA),dy (c.ev aA)with
  | some l,aa c=>
   if 0≤l∧l≤c∧bW c.toNat bytes=ae∧zs.length=sz then
    (if c=0 then aa (.c (.f .es),H)else
    aa (.c (.sl H.length 0 l.toNat c.toNat 0 sz),H++[.box ((cq c.toNat zs).map .f) 0]))
   else ab
  | _,_=>ab
 | .slice sz x lo hi mx=>(dw H sz (x.ev aA) (lo.map (·.ev aA)) (hi.map (·.ev aA)) (mx.map (·.ev aA))).map (·,H)| .oU n sz x lo hi mx=>(kZ H n sz (x.ev aA) (lo.map (·.ev aA)) (hi.map (·.ev aA)) (mx.map (·.ev aA))).map (·,H)| .qH x lo hi=>(vB (x.ev aA) (lo.map (·.ev aA)) (hi.map (·.ev aA))).map (·,H)| .aD off x=>(jn off (x.ev aA)).map (·,H)| .field off n x=>(nv off n (x.ev aA)).map (·,H)| .aW sz j x i=>(aP H sz j (x.ev aA) (i.ev aA)).map (·,H)| .idxs x i=>(BD (x.ev aA) (i.ev aA)).map (·,H)| .qd len sz n x i=>(mC len sz n (x.ev aA) (i.ev aA)).map (·,H)
 | .range x=>match x.ev aA with
  | .c (.f (.str s))=>aa (.c (.it H.length),H++[.it s 0])| _=>ab
 | .next x=>FQ H (x.ev aA)
 | .extract x i=>match x.ev aA with
  | .t A=>(A[i]?).map (·,H)| _=>ab
 | .uW n=>aa (.int .i64 n,H)
 | .lens x=>match x.ev aA with
  | .c (.f (.str s))=>aa (.int .i64 (s.size:Nat),H)| _=>ab
 | .len x=>match x.ev aA with
  | .c y=>match bH H y with
   | some n=>aa (.int .i64 (n:Nat),H)| none=>ab
  | _=>ab
 | .append sz bytes x y=>bU H sz bytes (x.ev aA) (y.ev aA)| .copy sz x y=>copyV H sz (x.ev aA) (y.ev aA)| .mP lo xs=>(L9 lo (dh aA xs)).map (·,H)| .clear sz zs x=>(uA H sz zs (x.ev aA)).map (.t [],·)| .sV sz bytes zs x n=>Fi H sz bytes zs (x.ev aA) (n.ev aA)| .mj x=>tK H (x.ev aA)| .qu x=>zy H (x.ev aA)| .entry x=>(lW H (x.ev aA)).map (·,H)| .fU sz zs n ps=>((dv aA ((cq n zs).map .f) (ps.map fun p=>(p.1*sz,sz,p.2))).bind fun cs=>if n=0 then ab else ZN cs).map fun u=>(.c (.f (.fs u n)),H)
 | .wu sz x hi mx=>Cs H sz (x.ev aA) (hi.ev aA) (mx.ev aA)| .v7 f xs=>(ba sX (dh aA xs)).map fun xs=>(.c (.bm f xs),H)
 | .cap x=>match x.ev aA with
  | .c y=>match mH H y with
   | some n=>aa (.int .i64 (n:Nat),H)| none=>ab
  | _=>ab
 | _=>ab
inductive Callee where
 | fn (f:Nat)
 | yield (b:Nat)
abbrev cJ:=Callee→List V→aj→Option (V × aj)
def deep:Nat:=64
def eo(call:cJ)(c:Nat)(args:List V)(H:aj):Option (V × aj):=
 match ba (bO deep H) args with
 | none=>ab
 | some b=>match call (.fn c) b []with
  | none=>ab
  | some (r,H')=>match fJ deep H' r with
   | none=>ab| some r'=>aa (r',args.foldl (ZR deep) H)
def bZ:V→List V→Option (Callee × List V)
 | .c (.f (.fn f d)),args=>aa (.fn f,args++d.map fun x=>.c (.f x))
 | .c (.cl f d),args=>aa (.fn f,args++d.map .c)| .c (.yl b),args=>aa (.yield b,args)| .c (.bm f first),args=>aa (.fn f,first.map .c++args)
 | _,_=>ab
def gF(call:cJ)(h:Bool)(c:Nat)(args:List V)(H:aj):Option (V × aj):=
 if h then call (.fn c) args H else eo call c args H
structure St where
 aA:T
 defs:List dH
 heap:aj
def ke(aA:T)(d:Option P)(v:V):T:=
 match d with
 | some d=>aA.set d v| none=>aA
def eI(call:cJ)(s:St)(op:cP):Option (V × St):=
 match op with
 | .call f args h=>(gF call h f (dh s.aA args) s.heap).map fun r=>(r.1,{ s with heap:=r.2 })
 | .bY x args _=>match bZ (x.ev s.aA) (dh s.aA args)with
  | some (c,args)=>(call c args s.heap).map fun r=>(r.1,{ s with heap:=r.2 })
  | none=>ab
 | .recover=>aa (.c (.f .mQ),s)
 | .defer x args=>match bZ (x.ev s.aA) (dh s.aA args)with
  | some (.fn f,args)=>aa (.top,{ s with defs:=.fn f args::s.defs })
  | _=>ab
 | op=>(bz s.aA s.heap op).map fun r=>(r.1,{ s with heap:=r.2 })
def jS{α:Type}(f:α→α→Bool):List α→List α→Bool
 | [],[]=>ae| x::xs,y::ys=>f x y&&jS f xs ys| _,_=>ag
def FC.beq:Nat→FC→FC→Bool
 | _,.bool a,.bool b=>a == b| _,.int j a,.int k b=>decide (j=k)&&a == b| _,.str a,.str b=>decide (a=b)| _,.gD,.gD | _,.aF,.aF | _,.es,.es | _,.ku,.ku | _,.mQ,.mQ | _,.v_,.v_=>ae| n+1,.fp xs o,.fp ys o'=>o == o'&&jS (FC.beq n) xs ys| n+1,.fs xs l,.fs ys d=>l == d&&jS (FC.beq n) xs ys| n+1,.fn f xs,.fn g ys=>f == g&&jS (FC.beq n) xs ys| _,_,_=>ag
def C.beq:C→C→Bool
 | .f a,.f b=>FC.beq 64 a b| .ptr a b c,.ptr a' j l=>a == a'&&b == j&&c == l| .sl a b c d e g,.sl a' j l m q s=>a == a'&&b == j&&c == l&&d == m&&e == q&&g == s| .mp a,.mp b=>a == b| _,_=>ag
def V.beq:V→V→Bool
 | .c x,.c y=>x.beq y| .a xs,.a ys=>xs.length == ys.length&&(xs.zip ys).all fun p=>p.1.beq p.2
 | _,_=>ag
def wanted(aA:T):Option (P × Bool)→Option Bool
 | none=>aa ae
 | some (r,w)=>match aA.get r with
  | .c (.f (.bool b))=>aa (b == w)| .t []=>aa ag| _=>ab
def fC(call:cJ)(s:St)(o:aS):Option St:=
 match wanted s.aA o.g with
 | some ae=>match eI call s o.op with
  | some (v,s')=>aa { s' with aA:=ke s'.aA o.dst v }
  | none=>ab
 | some ag=>aa { s with aA:=ke s.aA o.dst (.t []) }
 | none=>ab
def fx(call:cJ):List aS→St→Option St
 | [],s=>aa s
 | o::os,s=>match fC call s o with
  | some s'=>fx call os s'| none=>ab
def dG(call:cJ):List aS→St→Option (List St)
 | [],s=>aa [s]
 | o::os,s=>match fC call s o with
  | some s'=>match dG call os s' with
   | some b=>aa (s::b)| none=>ab
  | none=>ab
def sameAt(ops:List aS)(b:List St)(c:Nat × Nat):Bool:=
 match ops[c.1]?,b[c.1]?,b[c.2]? with
 | some o,aa s,aa s'=>match wanted s.aA o.g with
  | some ag=>ae
  | _=>match bz s.aA s.heap o.op,bz s.aA s'.heap o.op with
   | some (v,_),aa (d,_)=>v.beq d| _,_=>ag
 | _,_,_=>ag
def fS(call:cJ)(ops:List aS)(b:List (Nat × Nat))(s:St):Option St:=
 match b with
 | []=>fx call ops s
 | _=>match dG call ops s with
  | some d=>if b.all (sameAt ops d)then d.getLast? else ab| none=>ab
def cP.ee:cP→Bool
 | .defer _ _ | .recover=>ag| _=>ae
inductive cA where
 | code (c:az)
 | inBlock (id:Nat)
 | inLoop (c:az)
 | ji (b:Nat)
 | nf
 | inScope (a:az)
def exitTo(id:Nat):List cA→Option (List cA)
 | []=>ab| .inBlock b::k=>if b == id then aa k else exitTo id k| _::k=>exitTo id k
def findLabel:az→Nat→Option az
 | .seq a b,l=>match findLabel a l with
  | some rest=>aa (.seq rest b)| none=>findLabel b l
 | .label d,l=>if d == l then aa .skip else ab| _,_=>ab
def gotoIn(l:Nat):List cA→Option (List cA)
 | []=>ab
 | .inScope body::k=>match findLabel body l with
  | some rest=>aa (.code rest::.inScope body::k)| none=>gotoIn l k
 | _::k=>gotoIn l k
def C.eS(n:Nat):C→Bool
 | .f _=>ae| .ptr b _ _=>decide (b<n)| .sl b _ _ _ _ _=>decide (b<n)| .cl _ _=>ag| .yl b=>decide (b<n)| .mp b=>decide (b<n)| .it b=>decide (b<n)| .mi b=>decide (b<n)| .bm _ _=>ag
def C.under(n:Nat):C→Bool
 | .cl _ d=>d.all (·.eS n)| .f _=>ae| .ptr b _ _=>decide (b<n)| .sl b _ _ _ _ _=>decide (b<n)| .yl b=>decide (b<n)| .mp b=>decide (b<n)| .it b=>decide (b<n)| .mi b=>decide (b<n)| .bm _ first=>first.all (·.eS n)
def run(call:cJ)(fn:Nat):Nat→Option Nat→List cA→St→Option (Option az × St)
 | 0,_,_,_=>ab
 | m+1,j,q,s=>
  match q with
  | []=>aa (ab,s)| .inBlock _::k=>run call fn m j k s| .inLoop c::k=>run call fn m j (.code c::.inLoop c::k) s
  | .ji b::k=>match s.heap[b]? with
   | some (.lp f tmps ps as bd st pending d)=>
    if st=.busy then ab else
    let s:={ s with heap:=s.heap.set b (.lp f tmps ps as bd .exhausted pending d) }
    match pending with
    | none=>run call fn m j k s| some .ret=>run call fn m j (.code .ret::k) s| some (.exit id)=>run call fn m j (.code (.exit id)::k) s| some _=>ab
   | _=>ab
  | .nf::k=>match j with
   | none=>ab
   | some b=>match s.heap[b]? with
    | some (.lp f tmps ps as bd .ready pending d)=>run call fn m j k { s with heap:=s.heap.set b (.lp f tmps ps as bd .busy pending d) }
    | _=>ab
  | .code .skip::k=>run call fn m j k s| .inScope _::k=>run call fn m j k s| .code (.label _)::k=>run call fn m j k s| .code (.scope a)::k=>run call fn m j (.code a::.inScope a::k) s
  | .code (.goto l)::k=>match gotoIn l k with
   | some k=>run call fn m j k s| none=>ab
  | .code .bad::_=>ab| .code .ret::_=>aa (aa .ret,s)
  | .code (.exit id)::k=>match exitTo id k with
   | some k=>run call fn m j k s| none=>if j.isSome then aa (aa (.exit id),s)else ab
  | .code (.seq a b)::k=>run call fn m j (.code a::.code b::k) s| .code (.block id a)::k=>run call fn m j (.code a::.inBlock id::k) s| .code (.loop a)::k=>run call fn m j (.code a::.inLoop a::k) s
  | .code (.cond c a b)::k=>match c.ev s.aA with
   | .c (.f (.bool v))=>run call fn m j (.code (if v then a else b)::k) s| _=>ab
  | .code (.region ops u)::k=>
   if j.isSome&&!ops.all (·.op.ee)then ab else
   match fS call ops u s with
   | some s=>run call fn m j k s| none=>ab
  | .code (.kX f ps as bd)::k=>
   if j.isSome then ab else
   let d:=s.heap.length
   let H:=s.heap++[.kT ae,.lp fn s.aA ps as bd .ready ab d]
   match bZ (f.ev s.aA) [.c (.yl (d+1))]with
   | some (.fn g,args)=>match call (.fn g) args H with
    | some (_,H)=>run call fn m j (.ji (d+1)::k) { aA:=s.aA,defs:=.pV d::s.defs,heap:=H }| none=>ab
   | _=>ab
def mN:Nat:=1000000000
def dW(call:cJ):List dH→aj→Option aj
 | [],H=>aa H
 | .pV b::ds,H=>match H[b]? with
  | some (.kT ae)=>dW call ds (H.set b (.kT ag))| _=>ab
 | .fn f args::ds,H=>if f=mN then ab else match call (.fn f) args H with
  | some (_,H)=>dW call ds H| none=>ab
def bs(aA:T)(H:aj):iK→Option V
 | .tmp t=>match aA.get t with
  | .t _=>ab| v=>aa v
 | .cell t n=>aU H n (aA.get t)
def results(aA:T)(H:aj)(b:List iK):Option V:=
 match ba (bs aA H) b with
 | some [v]=>aa v| some d=>aa (.t d)| none=>ab
def cG:List P→List V→T→T
 | p::ps,v::b,aA=>cG ps b (aA.set p v)| _,_,aA=>aA
def dS(tab:Nat→Option aE)(g:Nat→List V→aj→Option (Option (V × aj)))(m:Nat):Nat→cJ
 | 0,_,_,_=>ab
 | d+1,.fn f,args,H=>
  match g f args H with
  | some r=>r
  | none=>match tab f with
   | none=>ab
   | some q=>if args.length=q.ps.length then match run (dS tab g m d) f m ab [.code q.body] ⟨cG q.ps args .e,[],H⟩with
    | some (_,s)=>match dW (dS tab g m d) s.defs s.heap with
     | some H=>(results s.aA H q.results).map (·,H)| none=>ab
    | none=>ab
    else ab
 | d+1,.yield b,args,H=>
  match H[b]? with
  | some (.lp f tmps ps as bd _ _ _)=>
   if args.length=ps.length then
    match run (dS tab g m d) f m (aa b) [.code as,.nf,.code bd] ⟨cG ps args tmps,[],H⟩with
    | some (j,s)=>
     if s.defs.isEmpty then
      match s.heap[b]? with
      | some (.lp y l v as' u _ _ x)=>aa (.bool j.isNone,s.heap.set b (.lp y l v as' u (if j.isNone then .ready else .done) j x))| _=>ab
     else ab
    | none=>ab
   else ab
  | _=>ab
section
variable(Q:Program)(σ:Nat→FuncId)
def aim:Value→Bool
 | .agg _ | .tuple _=>ag| _=>ae
def ahm:Value→Bool
 | .agg _=>ae| _=>ag
def mK1:FC→Value→Bool
 | .bool a,.bool b=>a == b| .int j a,.int k b=>decide (j=k)&&decide (a=b)| .str a,.string b=>decide (a=b)| .gD,.pointer ab=>ae| .aF,.slice ab 0 0=>ae| .ku,.nilFunc=>ae| .mQ,.nilIface=>ae| .v_,.map ab=>ae| _,_=>ag
def fI{α β:Type}(f:α→β→Bool):List α→List β→Bool
 | [],[]=>ae| x::xs,y::ys=>f x y&&fI f xs ys| _,_=>ag
def mK:V→Value→Bool
 | .c (.f x),v=>mK1 x v| .a xs,.agg us=>fI (fun x u=>match x with | C.f x=>mK1 x u | _=>ag) xs us.toList
 | .top,.tuple us=>us.isEmpty| _,_=>ag
def mA:Arg→Operand→Bool
 | .r p,.tmp t=>p.toNat == t| .k v,.const u=>mK v u| .k (.c (.f (.fn f []))),.func g=>σ f == g| _,_=>ag
def ZP(xs:List Arg)(ys:Array Operand):Bool:=fI (mA σ) xs ys.toList
def mO:Option Arg→Option Operand→Bool
 | none,ab=>ae| some x,aa y=>mA σ x y| _,_=>ag
def di(t:TypeId)(n:Nat):Bool:=(Q.info? t).any fun i=>i.size == n
def nT(t:TypeId)(n:Nat):Bool:=(Q.info? t).any fun i=>i.bytes == n
def lN(t:TypeId)(zs:List FC):Bool:=(Q.info? t).any fun i=>match i.zero with
 | some z=>fI mK1 zs z.cells.toList| none=>ag
def vF(t:TypeId)(n:Option Nat):Bool:=match Q.underlying t,n with
 | some (.struct _),aa n | some (.array _ _),aa n=>di Q t n| some (.struct _),ab | some (.array _ _),ab=>ag| some _,ab=>ae| _,_=>ag
def iM:Nat→TypeId→Option (List CK)
 | 0,_=>ab
 | d+1,t=>match Q.underlying t with
  | some .bool=>if di Q t 1 then aa [.bool]else ab| some (.int _)=>if di Q t 1 then aa [.int]else ab| some .string=>if di Q t 1 then aa [.str]else ab
  | some (.struct fs)=>if Q.stoodInHeld t then ab else match qa (iM d) 0 fs.toList with
   | some ks=>if di Q t ks.length then aa ks else ab| none=>ab
  | _=>ab
 where
 qa (rec:TypeId→Option (List CK)) (off:Nat):List Field→Option (List CK)
  | []=>aa []
  | f::fs=>if f.name≠ "_"∧f.offset=off then match rec f.type with
    | some ks=>match qa rec (off+ks.length) fs with
     | some r=>aa (ks++r)| none=>ab
    | none=>ab
   else ab
def sC:Operand→Bool
 | .const _=>ae| _=>ag
def mEq(k:K8)(t:TypeId)(x y:Operand):Bool:=match Q.underlying t,k with
 | some .bool,.bool | some (.pointer _),.ptr | some (.slice _),.sl | some (.func _ _ _),.fn=>ae| some (.interface _),.ifc=>sC x||sC y| some (.struct _),.st ks=>decide (iM Q 20 t=aa ks)&&!Q.eqGuardType Q.depth t| _,_=>ag
def ns(t:TypeId):Option TypeId:=match Q.underlying t with
 | some (.slice e)=>aa e| _=>ab
def al4(t:TypeId):Bool:=match Q.underlying t with
 | some (.int .u8)=>ae| _=>ag
def dL(c:Call):cP→Bool
 | .len x=>match c.callee,c.args.toList,c.argTypes.toList with
  | .builtin .len,[y],[t]=>mA σ x y&&(match Q.underlying t with | some (.slice _)=>ae | _=>ag)
  | _,_,_=>ag
 | .lens x=>match c.callee,c.args.toList,c.argTypes.toList with
  | .builtin .len,[y],[t]=>mA σ x y&&(match Q.underlying t with | some .string=>ae | _=>ag)
  | _,_,_=>ag
 | .uW n=>match c.callee,c.args.toList,c.argTypes.toList with
  | .builtin .len,[_],[t]=>(match Q.underlying t with | some (.array m _)=>decide (n=m) | _=>ag)
  | _,_,_=>ag
 | .append sz bytes x y=>match c.callee,c.args.toList,c.argTypes.toList with
  | .builtin .append,[u,v],[t,b]=>mA σ x u&&mA σ y v&&(ns Q t).any (fun e=>di Q e sz&&nT Q e bytes&&decide (0<sz)&&(Q.info? e).any (fun i=>i.zero.any fun z=>decide (z.cells.size=sz)))
    && (match Q.underlying b with | some .string=>ae | some (.slice _)=>ae | _=>ag)
  | _,_,_=>ag
 | .sV sz bytes zs x y=>match c.callee,c.args.toList,c.argTypes.toList with
  | .builtin .append,[u,v],[t,b]=>mA σ x u&&mA σ y v&&(ns Q t).any (fun e=>di Q e sz&&nT Q e bytes&&decide (0<sz)&&lN Q e zs)
    && (match Q.underlying b with | some (.int _)=>ae | _=>ag)
  | _,_,_=>ag
 | .copy sz x y=>match c.callee,c.args.toList,c.argTypes.toList with
  | .builtin .copy,[u,v],[t,_]=>mA σ x u&&mA σ y v&&(ns Q t).any (fun e=>di Q e sz)
  | _,_,_=>ag
 | .mP lo xs=>match c.callee,lo with
  | .builtin .max,ag | .builtin .min,ae=>ZP σ xs c.args| _,_=>ag
 | .cap x=>match c.callee,c.args.toList,c.argTypes.toList with
  | .builtin .cap,[y],[t]=>mA σ x y&&(match Q.underlying t with | some (.slice _)=>ae | _=>ag)
  | _,_,_=>ag
 | .clear sz zs x=>match c.callee,c.args.toList,c.argTypes.toList with
  | .builtin .clear,[y],[t]=>mA σ x y&&(ns Q t).any (fun e=>di Q e sz&&lN Q e zs)
  | _,_,_=>ag
 | .recover=>match c.callee with
  | .builtin .recover=>ae| _=>ag
 | .call f xs _=>match c.callee with
  | .value (.func g)=>σ f == g&&ZP σ xs c.args| _=>ag
 | .bY x xs _=>match c.callee with
  | .value y=>mA σ x y&&ZP σ xs c.args| _=>ag
 | _=>ag
def L6(b:CK)(t:TypeId):Bool:=match Q.underlying t,b with
 | some (.int _),.int | some .string,.str | some .bool,.bool=>ae| _,_=>ag
def X4(t:TypeId)(qs:List (Nat × Nat × Arg))(ps:List (Nat × Operand)):Bool:=match Q.underlying t with
 | some (.struct b)=>match b.toList.mapM (fun f=>(Q.info? f.type).map fun i=>(f.offset,i.size))with
  | some d=>fI (fun(q:Nat × Nat × Arg) (p:Nat × Operand)=>decide (d[p.1]?=aa (q.1,q.2.1))&&mA σ q.2.2 p.2) qs ps
  | none=>ag
 | some (.array _ e)=>match Q.info? e with
  | some i=>fI (fun(q:Nat × Nat × Arg) (p:Nat × Operand)=>i.size == q.2.1&&q.1 == p.1*q.2.1&&mA σ q.2.2 p.2) qs ps
  | none=>ag
 | _=>ag
def dD(o:Oper)(a:cP):Bool:=match a with
 | .bad=>ae| .bJ y=>(match o.op with | .move x | .assign x=>mA σ y x | _=>ag)
 | .pre .nil sz=>(match o.op with | .move (.const (.slice ab 0 0)) | .assign (.const (.slice ab 0 0))=>decide (0<sz) | _=>ag)
 | .pick K A H=>(match o.op with | .pick c x y=>mA σ K c&&mA σ A x&&mA σ H y | _=>ag)
 | .alloc zs=>(match o.op with | .alloc t=>lN Q t zs | _=>ag)
 | .box y=>(match o.op with | .box _ x=>mA σ y x | _=>ag)
 | .build zs qs=>(match o.op with | .build t ps=>lN Q t zs&&X4 Q σ t qs ps.toList | _=>ag)
 | .aV sz zs n' qs=>(match o.op with | .buildSlice t n ps=>n == n'&&decide (n*sz≤2 ^ 24)&&(ns Q t).any (fun e=>di Q e sz&&lN Q e zs&&decide (zs.length=sz))&&decide (0<sz)&&fI (fun(q:Nat × Arg) (p:Nat × Operand)=>q.1 == p.1&&mA σ q.2 p.2) qs ps.toList | _=>ag)
 | .fU sz zs n' qs=>(match o.op with | .buildSlice t n ps=>n == n'&&decide (n*sz≤2 ^ 24)&&(ns Q t).any (fun e=>di Q e sz&&lN Q e zs&&decide (zs.length=sz))&&decide (0<sz)&&fI (fun(q:Nat × Arg) (p:Nat × Operand)=>q.1 == p.1&&mA σ q.2 p.2) qs ps.toList | _=>ag)
 | .load n y=>(match o.op with | .load t x=>vF Q t n&&mA σ y x | _=>ag)
 | .store n A H=>(match o.op with | .store t x y=>di Q t n&&mA σ A x&&mA σ H y | _=>ag)
 | .bD y=>(match o.op with | .nilCheck x=>mA σ y x | _=>ag)
 | .bin F A H=>(match o.op with | .binOp op t x y _=>decide (op=F)&&mA σ A x&&mA σ H y | _=>ag)
 | .eq neg k A H=>(match o.op with | .binOp op t x y _=>decide (op=if neg then .neq else .eql)&&mA σ A x&&mA σ H y&&mEq Q k t x y | _=>ag)
 | .un F y=>(match o.op with | .unOp op _ x=>decide (op=F)&&mA σ y x | _=>ag)
 | .fA k y=>(match o.op with | .convert s d x=>mA σ y x&&(Q.underlying s).isSome&&(match Q.underlying d with | some (.int k')=>decide (k=k') | _=>ag) | _=>ag)
 | .y6 y=>(match o.op with | .convert s d x=>mA σ y x&&(match Q.underlying s,Q.underlying d with | some .string,aa .string=>ae | _,_=>ag) | _=>ag)
 | .vX y=>(match o.op with | .convert s d x=>mA σ y x&&(match Q.underlying s,Q.underlying d with | some (.slice e),aa .string=>al4 Q e&&di Q e 1 | _,_=>ag) | _=>ag)
 | .lG g ys=>(match o.op with | .makeFunc (.func f) fst B=>fst.isEmpty&&σ g == f&&ZP σ ys B | _=>ag)
 | .kI=>(match o.op with | .makeMap _ ab=>ae | _=>ag)
 | .cM sz bytes zs O K=>(match o.op with | .makeSlice t l c=>mA σ O l&&mA σ K c&&(ns Q t).any (fun e=>di Q e sz&&nT Q e bytes&&lN Q e zs)&&decide (0<sz) | _=>ag)
 | .slice sz y E b mx'=>(match o.op with | .slice t x lo hi mx=>mA σ y x&&mO σ E lo&&mO σ b hi&&mO σ mx' mx&&(ns Q t).any (fun e=>di Q e sz)&&decide (0<sz) | _=>ag)
 | .wu sz y b mx'=>(match o.op with | .slice t x ab (aa hi) (aa mx)=>mA σ y x&&mA σ b hi&&mA σ mx' mx&&(ns Q t).any (fun e=>di Q e sz)&&decide (0<sz) | _=>ag)
 | .qH y E b=>(match o.op with | .slice t x lo hi ab=>mA σ y x&&mO σ E lo&&mO σ b hi&&(match Q.underlying t with | some .string=>ae | _=>ag) | _=>ag)
 | .oU n sz y E b mx'=>(match o.op with | .slice t x lo hi mx=>mA σ y x&&mO σ E lo&&mO σ b hi&&mO σ mx' mx&&(match Q.underlying t with | some (.array n' e)=>n == n'&&di Q e sz | _=>ag)&&decide (0<sz) | _=>ag)
 | .aD off y=>(match o.op with | .fieldAddr t x i=>mA σ y x&&(match Q.underlying t with | some (.struct M)=>(match M[i]? with | some f=>f.offset == off&&(Q.info? f.type).any (fun i=>i.size != 0) | none=>ag) | _=>ag) | _=>ag)
 | .field off n y=>(match o.op with | .field t x i=>mA σ y x&&(match Q.underlying t with | some (.struct M)=>(match M[i]? with | some f=>f.offset == off&&vF Q f.type n | none=>ag) | _=>ag) | _=>ag)
 | .aW sz J A I=>(match o.op with | .indexAddr t x i=>mA σ A x&&mA σ I i&&(match Q.underlying t,J with | some (.slice e),ab=>di Q e sz | some (.array n e),aa n'=>n == n'&&di Q e sz | _,_=>ag) | _=>ag)
 | .idxs A I=>(match o.op with | .index t x i=>mA σ A x&&mA σ I i&&(match Q.underlying t with | some .string=>ae | _=>ag) | _=>ag)
 | .qd n sz k A I=>(match o.op with | .index t x i=>mA σ A x&&mA σ I i&&(match Q.underlying t with | some (.array n' e)=>n == n'&&di Q e sz&&vF Q e k | _=>ag) | _=>ag)
 | .lookup L z N k'=>(match o.op with | .lookup t m k S=>mA σ N m&&mA σ k' k&&(S ==(s_ z).isSome)&&(match Q.underlying t with | some (.map kt e)=>L6 Q L kt&&lN Q e (su ((s_ z).getD z))&&(Q.info? e).any (fun i=>i.zero.any fun u=>if E0 ((s_ z).getD z)then ahm u else aim u) | _=>ag) | _=>ag)
 | .kG L N k' U=>(match o.op with | .mapUpdate t m k v=>mA σ N m&&mA σ k' k&&mA σ U v&&(match Q.underlying t with | some (.map kt _)=>L6 Q L kt | _=>ag) | _=>ag)
 | .range y=>(match o.op with | .range t x=>mA σ y x&&(match Q.underlying t with | some .string=>ae | _=>ag) | _=>ag)
 | .next y=>(match o.op with | .next x ae=>mA σ y x | _=>ag)
 | .extract y j=>(match o.op with | .extract x i=>mA σ y x&&i == j | _=>ag)
 | .defer x xs=>(match o.op with | .defer c=>(match c.callee with | .value y=>mA σ x y&&ZP σ xs c.args | _=>ag) | _=>ag)
 | .len x=>(match o.op with | .call c=>dL Q σ c (.len x) | _=>ag)
 | .lens x=>(match o.op with | .call c=>dL Q σ c (.lens x) | _=>ag)
 | .uW n=>(match o.op with | .call c=>dL Q σ c (.uW n) | _=>ag)
 | .append sz bytes x y=>(match o.op with | .call c=>dL Q σ c (.append sz bytes x y) | _=>ag)
 | .mP lo xs=>(match o.op with | .call c=>dL Q σ c (.mP lo xs) | _=>ag)
 | .sV sz bytes zs x y=>(match o.op with | .call c=>dL Q σ c (.sV sz bytes zs x y) | _=>ag)
 | .cap x=>(match o.op with | .call c=>dL Q σ c (.cap x) | _=>ag)
 | .clear sz zs x=>(match o.op with | .call c=>dL Q σ c (.clear sz zs x) | _=>ag)
 | .mj y=>(match o.op with | .range t x=>mA σ y x&&(match Q.underlying t with | some (.map _ _)=>ae | _=>ag) | _=>ag)
 | .qu y=>(match o.op with | .next x ag=>mA σ y x | _=>ag)
 | .entry y=>(match o.op with | .entry x=>mA σ y x | _=>ag)
 | .v7 g ys=>(match o.op with | .makeFunc (.func f) fst B=>B.isEmpty&&σ g == f&&ZP σ ys fst | _=>ag)
 | .recover=>(match o.op with | .call c=>dL Q σ c (.recover) | _=>ag)
 | .call f xs h=>(match o.op with | .call c=>dL Q σ c (.call f xs h) | _=>ag)
 | .bY x xs h=>(match o.op with | .call c=>dL Q σ c (.bY x xs h) | _=>ag)
 | _=>ag
inductive Cls where | p | r | a | c | w
 deriving DecidableEq
def cls:cP→Cls
 | .bJ _ | .pick .. | .build .. | .un .. | .fA .. | .y6 _ | .lG .. | .qH .. | .aD .. | .field .. | .idxs .. | .qd .. | .extract .. | .mP .. | .v7 .. | .bD _ | .bin .. | .uW _ | .lens _ | .fU ..=>.p| .load .. | .eq .. | .len _ | .slice .. | .oU .. | .aW .. | .lookup .. | .vX _ | .cap _ | .entry _=>.r| .alloc _ | .box _ | .kI=>.a| .aV .. | .cM ..=>.a| .call _ _ ag=>.c| _=>.w
def Arg.rd:Arg→List P
 | .r p=>[p]| .k _=>[]
def oRd:Option Arg→List P
 | some x=>x.rd| none=>[]
def cP.rd:cP→List P
 | .bJ x | .box x | .load _ x | .bD x | .un _ x | .fA _ x | .y6 x | .vX x | .DB x | .aD _ x | .field _ _ x | .range x | .next x | .extract x _ | .len x | .lens x | .cap x | .clear _ _ x | .mj x | .qu x | .entry x=>x.rd| .pre _ _ | .alloc _ | .kI | .recover | .uW _ | .bad=>[]| .pick c a b=>c.rd++a.rd++b.rd| .build _ ps=>ps.flatMap fun p=>p.2.2.rd
 | .aV _ _ _ ps | .fU _ _ _ ps=>ps.flatMap fun p=>p.2.rd
 | .store _ x y | .bin _ x y | .eq _ _ x y | .aW _ _ x y | .idxs x y | .qd _ _ _ x y | .append _ _ x y | .copy _ x y | .sV _ _ _ x y | .lookup _ _ x y | .cM _ _ _ x y=>x.rd++y.rd| .kG _ x y z | .wu _ x y z=>x.rd++y.rd++z.rd| .lG _ xs | .call _ xs _ | .mP _ xs | .v7 _ xs=>xs.flatMap Arg.rd| .bY x xs _ | .defer x xs=>x.rd++xs.flatMap Arg.rd| .slice _ x a b c | .oU _ _ x a b c=>x.rd++oRd a++oRd b++oRd c| .qH x a b=>x.rd++oRd a++oRd b
def aS.rd(o:aS):List P:=(match o.g with | some (p,_)=>[p] | none=>[])++o.op.rd
def aS.apart(x y:aS):Bool:=
 (match x.dst with | some d=>!y.rd.contains d&&y.dst != aa d | none=>ae)&&(match y.dst with | some d=>!x.rd.contains d | none=>ae)
def uC(x y:aS):Bool:=
 match cls x.op,cls y.op with
 | .p,_ | _,.p=>ae| .r,.w | .w,.r=>ae| .w,_ | _,.w=>ag| _,_=>ae
def nC(b:List Nat)(o:Oper):Nat:=o.after.toList.foldl (fun s e=>if Region.binds .any e then s ||| 2 ^ e.on ||| b.getD e.on 0 else s) 0
def dt:List Oper→List Nat→List Nat
 | [],b=>b| o::os,b=>dt os (b++[nC b o])
def Ae(b:List Nat)(i j:Nat):Bool:=(b.getD j 0).testBit i
def oF(aos:List aS):List Nat:=(List.range aos.length).filter fun j=>match aos[j]? with
 | some y=>decide (cls y.op=.w)| none=>ag
def phase(aos:List aS)(i:Nat):Nat:=i+((aos.drop i).takeWhile fun y=>decide (cls y.op≠.w)).length
def FO(b:List Nat)(aos:List aS)(i e:Nat):Bool:=
 (oF aos).all fun j=>if j<e then !Ae b i j else !Ae b j i
def adn(b:List Nat)(aos:List aS)(j:Nat):Bool:=match aos[j]? with
 | some y=>(match y.op with | .alloc _=>ae | _=>ag)&&(oF aos).any fun e=>decide (e<j)&&!Ae b e j
 | none=>ag
def lE(b:List Nat)(aos:List aS):Nat:=((List.range aos.length).find? (adn b aos)).getD aos.length
def Fq(b:List Nat)(aos:List aS)(j:Nat):Bool:=match aos[j]? with
 | some y=>y.g.isNone&&(match y.op with | .alloc _=>ae | _=>ag)&&(match y.dst with
  | some p=>(List.range aos.length).all fun i=>match aos[i]? with
   | some z=>!z.rd.contains p||(oF aos).all fun e=>!decide (e<j)||Ae b e i
   | none=>ae
  | none=>ag)
 | none=>ae
def Yl(ops:List Oper)(aos:List aS)(d:List (Nat × Nat)):Bool:=
 let b:=dt ops []
 let n:=aos.length
 ((ops.zip (List.range n)).all fun o=>o.1.after.toList.all fun e=>!Region.binds .any e||decide (e.on<o.2)) &&
 ((List.range n).all fun j=>(List.range j).all fun i=>Ae b i j||(match aos[i]?,aos[j]? with
  | some x,aa y=>x.apart y&&(uC x y||(decide (j=lE b aos)&&decide (cls x.op=.w)))
  | _,_=>ag)) &&
 Fq b aos (lE b aos) &&
 ((List.range n).all fun i=>match aos[i]? with
  | some x=>if cls x.op=.r then(oF aos++[n]).all fun e=>e == phase aos i||!FO b aos i e||d.contains (i,e)else ae
  | none=>ag)
variable(Q:Program)(σ:Nat→FuncId)
def lF(n:Nat)(ops:Array Oper)(o:Oper)(a:aS):Bool:=
 dD Q σ o a.op &&
 (match o.dst,a.dst with | some d,aa p=>p.toNat == d&&decide (d<n) | none,ab=>ae | _,_=>ag) &&
 (match o.guard,a.g with
  | some (j,w),aa (p,w')=>w == w'&&(match (ops[j]?).bind (·.dst)with | some d=>p.toNat == d&&decide (d<n) | none=>ag)
  | none,ab=>ae
  | _,_=>ag)
def mu:az→Bool
 | .seq a b=>mu a&&mu b| .bad=>ag| _=>ae
def cd(n:Nat):Code→az→Bool
 | _,.bad=>ae| .skip,.skip=>ae| .region _ ops g,.region aos j=>fI (lF Q σ n ops) ops.toList aos&&(!g||Yl ops.toList aos j)| .seq a b,.seq a' d=>cd n a a'&&cd n b d| .cond c a b,.cond v a' d=>mA σ v c&&cd n a a'&&cd n b d| .block i a,.block m a'=>i == m&&cd n a a'| .loop a,.loop a'=>cd n a a'| .rangeFunc f ps a b,.kX x u a' d=>mA σ x f&&fI (fun p (q:P)=>q.toNat == p&&decide (p<n)) ps.toList u&&cd n a a'&&cd n b d
 | .exit i,.exit m=>i == m| .scope a,.scope a'=>cd n a a'&&mu a'| .label l,.label s=>l == s| .goto l,.goto s=>l == s| .ret,.ret=>ae| _,_=>ag
def zt(n:Nat):ResultVar→iK→Bool
 | .tmp t,.tmp p=>p.toNat == t&&decide (t<n)| .cell t b,.cell p k=>p.toNat == t&&decide (t<n)&&vF Q b k| _,_=>ag
def FK(f:Func)(a:aE):Bool:=
 f.name != "runtime.NumGoroutine" &&
 (match f.body with | some b=>cd Q σ f.ntmps b a.body | none=>ag) &&
 fI (zt Q f.ntmps) f.results.toList a.results &&
 decide (a.ps.map P.toNat=List.range a.ps.length)
end
section
def A2{α β:Type}(R:α→β→Prop)(xs:List α)(ys:List β):Prop:=
 xs.length=ys.length∧∀(i:Nat) x y,xs[i]?=aa x→ys[i]?=aa y→R x y
section A2
variable{α β:Type}{R S:α→β→Prop}{xs xs':List α}{ys ys':List β}
theorem A2.len(h:A2 R xs ys):xs.length=ys.length:=h.1
theorem A2.nil:A2 R [] []:=⟨rfl,by simp⟩
theorem A2.mono(h:A2 R xs ys)(d:∀ x y,x ∈ xs→R x y→S x y):A2 S xs ys:=
 ⟨h.1,fun i x y b hy=>d x y (List.mem_of_getElem? b) (h.2 i x y b hy)⟩
theorem A2.get(h:A2 R xs ys){i:Nat}{x:α}(b:xs[i]?=aa x):∃ y,ys[i]?=aa y∧R x y:=by
 have hi:i<xs.length:=(By.1 b).1;have hy:i<ys.length:=h.1▸hi;exact⟨ys[i],AT hy,h.2 i x _ b (AT hy)⟩
theorem A2.cons{x:α}{y:β}(j:R x y)(h:A2 R xs ys):A2 R (x::xs) (y::ys):=
 ⟨by simp [h.1],fun i a b d g=>by
  cases i with
  | zero=>simp at d g;subst d;subst g;exact j
  | succ i=>simp at d g;exact h.2 i a b d g⟩
theorem A2.of_cons{x:α}{y:β}(h:A2 R (x::xs) (y::ys)):R x y∧A2 R xs ys:=
 ⟨h.2 0 x y rfl rfl,by simpa using h.1,fun i a b d g=>h.2 (i+1) a b (by simpa using d) (by simpa using g)⟩
theorem A2.append(h:A2 R xs ys)(j:A2 R xs' ys'):A2 R (xs++xs') (ys++ys'):=
 ⟨by simp [h.1,j.1],fun i a b d g=>by
  by_cases hi:i<xs.length
  ·rw [At hi]at d;rw [At (h.1▸hi)]at g;exact h.2 i a b d g
  ·rw [arY (by omega)]at d;rw [arY (by have:=h.1;omega),←h.1]at g;exact j.2 _ a b d g⟩
theorem A2.take(h:A2 R xs ys)(n:Nat):A2 R (xs.take n) (ys.take n):=
 ⟨by simp [h.1],fun i a b d g=>by
  rw [asb]at d g;split at d
  ·rename_i hi;simp only [hi,if_true]at g;exact h.2 i a b d g
  ·simp at d⟩
theorem A2.drop(h:A2 R xs ys)(n:Nat):A2 R (xs.drop n) (ys.drop n):=
 ⟨by simp [h.1],fun i a b d g=>by
  rw [arV]at d g;exact h.2 _ a b d g⟩
theorem A2.map{l:Type}{g:l→α}{zs:List l}(h:A2 (fun z y=>R (g z) y) zs ys):A2 R (zs.map g) ys:=
 ⟨by simpa using h.1,fun i a b d m=>by
  rw [asD]at d;cases j:zs[i]? with
  | none=>rw [j]at d;simp at d
  | some z=>rw [j]at d;simp at d;subst d;exact h.2 i z b j m⟩
theorem A2.lP(h:A2 R xs ys)(b:∀ x y,R x y→S x y):A2 S xs ys:=h.mono fun x y _=>b x y
end A2
inductive cH(σ:Nat→FuncId)(F:Nat→Nat→Prop)(w:World):FC→Value→Prop
 | bool (b:Bool):cH σ F w (.bool b) (.bool b)
 | int (k:IntKind) (n:Int):cH σ F w (.int k n) (.int k n)
 | str (s:ByteArray):cH σ F w (.str s) (.string s)
 | gD:cH σ F w .gD (.pointer ab)
 | aF:cH σ F w .aF (.slice ab 0 0)
 | es (a:Addr):cH σ F w .es (.slice (aa a) 0 0)
 | ku:cH σ F w .ku .nilFunc
 | mQ:cH σ F w .mQ .nilIface
 | v_:cH σ F w .v_ (.map ab)
 | fp (cs:List FC) (off c o:Nat) (us:List Value) (hl:us.length=cs.length) (hF:∀ i,i<cs.length→F c (o+i))
   (hc:∀(i:Nat) u,us[i]?=aa u→w.cell? ⟨c,o+i,ab⟩=aa u) (hr:∀(i:Nat) x u,cs[i]?=aa x→us[i]?=aa u→cH σ F w x u) :
   cH σ F w (.fp cs off) (.pointer (aa ⟨c,o+off,ab⟩))
 | fs (cs:List FC) (l c o cap:Nat) (us:List Value) (DL:l≤cap) (hl:us.length=cs.length) (hF:∀ i,i<cs.length→F c (o+i))
   (hc:∀(i:Nat) u,us[i]?=aa u→w.cell? ⟨c,o+i,ab⟩=aa u) (hr:∀(i:Nat) x u,cs[i]?=aa x→us[i]?=aa u→cH σ F w x u) :
   cH σ F w (.fs cs l) (.slice (aa ⟨c,o,ab⟩) l cap)
 | fs0 (a:Addr) (cap:Nat):cH σ F w (.fs [] 0) (.slice (aa a) 0 cap)
 | fn (f:Nat) (Lj:List FC) (us:List Value) (hl:us.length=Lj.length) (hr:∀(i:Nat) x u,Lj[i]?=aa x→us[i]?=aa u→cH σ F w x u) :
   cH σ F w (.fn f Lj) (.func (.func (σ f)) #[] us.toArray)
theorem cH.mono{σ:Nat→FuncId}{F q:Nat→Nat→Prop}{w w':World}(s:∀ c i,F c i→q c i)
  (y:∀ c i,F c i→w'.cell? ⟨c,i,ab⟩=w.cell? ⟨c,i,ab⟩) {x:FC} {v:Value} (h:cH σ F w x v):cH σ q w' x v:=by
 induction h with
 | fp cs off c o us d b hc hr m=>
  refine .fp cs off c o us d (fun i hi=>s _ _ (b i hi)) (fun i u hu=>?_) m;rw [y c (o+i) (b i (by rw [←d];exact(By.1 hu).1))];exact hc i u hu
 | fs cs l c o cap us j d b hc hr m=>
  refine .fs cs l c o cap us j d (fun i hi=>s _ _ (b i hi)) (fun i u hu=>?_) m;rw [y c (o+i) (b i (by rw [←d];exact(By.1 hu).1))];exact hc i u hu
 | fn f g us d hr m=>exact .fn f g us d m| _=>constructor
theorem cH.one{σ:Nat→FuncId}{F:Nat→Nat→Prop}{w:World}{x:FC}{v:Value}(h:cH σ F w x v):v.oneCell'=ae:=by
 cases h<;>rfl
structure Loc where
 c:Nat
 cap:Nat
structure Wd where
 cr:Nat→Option Loc
 F:Nat→Nat→Prop
 H:aj
 w:World
 B:Nat
variable(σ:Nat→FuncId)
def fD(X:Wd):C→Value→Prop
 | .f x,v=>cH σ X.F X.w x v
 | .ptr b off g,v=>∃ L,X.cr b=aa L∧match X.H[b]? with
  | some (.box _ _)=>v=.pointer (aa ⟨L.c,off,ab⟩)| some (.bM _ _ _ e .loc)=>g≤e∧(g=e→v=.pointer (aa ⟨L.c,off,ab⟩))∧∃ a,v=.pointer (aa a)| _=>False
 | .sl b o l cap g sz,v=>match X.H[b]? with
  | some (.box _ _)=>∃ L,X.cr b=aa L∧l≤cap∧v=.slice (aa ⟨L.c,o,ab⟩) l cap
  | some (.bM s _ _ e st)=>g≤e∧(g=e→sz=s→match st with
    | .loc=>∃ L,X.cr b=aa L∧∃ k,o=k*s∧k+l≤L.cap∧v=.slice (aa ⟨L.c,o,ab⟩) l (L.cap-k)| .nil=>o=0∧l=0∧v=.slice ab 0 0
    | .es=>o=0∧l=0∧∃ a,v=.slice (aa a) 0 0)∧∃ a n c,v=.slice a n c
  | _=>False
 | .cl _ _,_=>False| .yl b,v=>∃ L,X.cr b=aa L∧(∃ f t p a j s q d,X.H[b]?=aa (.lp f t p a j s q d))∧v=.func (.yield L.c) #[] #[]| .mp b,v=>∃ L,X.cr b=aa L∧(∃ u,X.H[b]?=aa (.map u))∧v=.map (aa L.c)| .it b,v=>∃ L,X.cr b=aa L∧(∃ s p,X.H[b]?=aa (.it s p))∧v=.pointer (aa ⟨L.c,0,ab⟩)| .mi b,v=>∃ L,X.cr b=aa L∧(∃ m s d,X.H[b]?=aa (.vP m s d))∧v=.pointer (aa ⟨L.c,0,ab⟩)| .bm _ _,_=>False
def CR(X:Wd):C→Value→Prop
 | .cl f b,v=>∃ us,v=.func (.func (σ f)) #[] us.toArray∧A2 (fD σ X) b us| .bm f first,v=>∃ us,v=.func (.func (σ f)) us.toArray #[]∧A2 (fD σ X) first us
 | x,v=>fD σ X x v
theorem fD.one{X:Wd}{x:C}{v:Value}(h:fD σ X x v):v.oneCell'=ae:=by
 cases x with
 | f x=>exact cH.one h
 | ptr b off g=>
  obtain⟨L,_,h⟩:=h;split at h
  ·subst h;rfl
  ·obtain⟨_,_,a,rfl⟩:=h;rfl
  ·exact h.elim
 | sl b o l cap g sz=>
  simp only [fD]at h;split at h
  ·obtain⟨L,_,_,rfl⟩:=h;rfl
  ·obtain⟨_,_,a,n,c,rfl⟩:=h;rfl
  ·exact h.elim
 | cl f d=>exact h.elim| yl b=>obtain⟨L,_,_,rfl⟩:=h;rfl
 | mp b=>obtain⟨L,_,_,rfl⟩:=h;rfl
 | it b=>obtain⟨L,_,_,rfl⟩:=h;rfl
 | mi b=>obtain⟨L,_,_,rfl⟩:=h;rfl
 | bm f first=>exact h.elim
theorem CR.one{X:Wd}{x:C}{v:Value}(h:CR σ X x v):v.oneCell'=ae:=by
 cases x with
 | cl f j=>obtain⟨us,rfl,_⟩:=h;rfl
 | bm f first=>obtain⟨us,rfl,_⟩:=h;rfl
 | mi b=>exact fD.one σ (x:=.mi b) h| f y=>exact fD.one σ (x:=.f y) h| ptr a b c=>exact fD.one σ (x:=.ptr a b c) h| sl a b c d e g=>exact fD.one σ (x:=.sl a b c d e g) h| yl b=>exact fD.one σ (x:=.yl b) h| mp b=>exact fD.one σ (x:=.mp b) h| it b=>exact fD.one σ (x:=.it b) h
theorem CR.ZS{X:Wd}{x:C}{v:Value}(h:fD σ X x v):CR σ X x v:=by
 cases x with
 | cl f b=>exact h.elim| bm f first=>exact h.elim
 | _=>exact h
def gU(X:Wd):V→Value→Prop
 | .top,_=>True| .c x,v=>CR σ X x v| .a xs,v=>∃ us,v=.agg us.toArray∧A2 (CR σ X) xs us| .t _,_=>False
def VR(X:Wd):V→Value→Prop
 | .t b,v=>∃ us,v=.tuple us.toArray∧A2 (gU σ X) b us| x,v=>gU σ X x v
theorem VR.ZS{X:Wd}{x:V}{v:Value}(h:gU σ X x v):VR σ X x v:=by
 cases x with
 | t b=>exact h.elim| _=>exact h
def rowAt(w:World)(c:Nat)(us:List Value):Prop:=
 ∃ e b,w.heap[c]?=aa (.cells us.toArray e b)∧∀ i,i≤us.length→¬(b.1≤i∧i<b.2)
def mz(X X':Wd)(b:Nat):Prop:=
 ∀ bu,X.H[b]?=aa bu→∃ blk',X'.H[b]?=aa blk'∧match bu,blk' with
  | .box _ _,.box _ _=>∀ L,X.cr b=aa L→X'.cr b=aa L| .bM s _ _ e st,.bM s' _ _ j g=>s=s'∧((e=j∧st=g∧∀ L,X.cr b=aa L→X'.cr b=aa L)∨(e<j∧g=.loc∧∃ L,X'.cr b=aa L))| .map _,.map _=>∀ L,X.cr b=aa L→X'.cr b=aa L| .it _ _,.it _ _=>∀ L,X.cr b=aa L→X'.cr b=aa L| .kT _,.kT _=>∀ L,X.cr b=aa L→X'.cr b=aa L| .vP m s _,.vP v s' _=>(m=v∧s=s')∧∀ L,X.cr b=aa L→X'.cr b=aa L| .lp f t p a c _ _ d,.lp u y x a' l _ _ q=>(f=u∧t=y∧p=x∧a=a'∧c=l∧d=q)∧∀ L,X.cr b=aa L→X'.cr b=aa L| _,_=>False
structure Ext(N:Nat)(X X':Wd):Prop where
 B:X'.B=X.B
 F:∀ c i,X.F c i→X'.F c i
 pO:∀ c i,X'.F c i→X.F c i∨X.w.heap.size≤c∨∃ b L,X.cr b=aa L∧L.c=c
 fw:∀ c i,X.F c i→X'.w.cell? ⟨c,i,ab⟩=X.w.cell? ⟨c,i,ab⟩
 bT:∀ b,b<N→mz X X' b
 xH:∀ b L,X'.cr b=aa L→(∃ b0 L0,X.cr b0=aa L0∧L0.c=L.c)∨X.w.heap.size≤L.c
 size:X.w.heap.size≤X'.w.heap.size
 os:X'.w.os=X.w.os
 tape:X'.w.tape=X.w.tape
 output:X'.w.output=X.w.output
 frame:∀ k,k<X.w.heap.size→(∀ b L,X.cr b=aa L→L.c≠k)→X'.w.heap[k]?=X.w.heap[k]?
structure pN(N:Nat)(X X':Wd):Prop where
 F:∀ c i,X.F c i→X'.F c i
 fw:∀ c i,X.F c i→X'.w.cell? ⟨c,i,ab⟩=X.w.cell? ⟨c,i,ab⟩
 bT:∀ b,b<N→mz X X' b
theorem Ext.W{N:Nat}{X X':Wd}(h:Ext N X X'):pN N X X':=⟨h.F,h.fw,h.bT⟩
theorem mz.refl(X:Wd)(b:Nat):mz X X b:=fun bu h=>⟨bu,h,by cases bu<;>simp⟩
theorem mz.trans{X Y Z:Wd}{b:Nat}(h:mz X Y b)(k:mz Y Z b):mz X Z b:=by
 intro bu v;obtain⟨blk',s,g⟩:=h bu v;obtain⟨l,m,d⟩:=k blk' s;refine⟨l,m,?_⟩;cases bu<;>cases blk'<;>simp only at g<;>cases l<;>simp only at d ⊢
 case box=>exact fun L j=>d L (g L j)
 case map=>exact fun L j=>d L (g L j)
 case it=>exact fun L j=>d L (g L j)
 case kT=>exact fun L j=>d L (g L j)
 case vP=>
  obtain⟨⟨rfl,rfl⟩,g⟩:=g;obtain⟨⟨rfl,rfl⟩,d⟩:=d;exact⟨⟨rfl,rfl⟩,fun L j=>d L (g L j)⟩
 case lp=>
  obtain⟨⟨rfl,rfl,rfl,rfl,rfl,rfl⟩,g⟩:=g;obtain⟨⟨rfl,rfl,rfl,rfl,rfl,rfl⟩,d⟩:=d;exact⟨⟨rfl,rfl,rfl,rfl,rfl,rfl⟩,fun L j=>d L (g L j)⟩
 case bM=>
  obtain⟨rfl,g⟩:=g;obtain⟨rfl,d⟩:=d;refine⟨rfl,?_⟩;rcases g with⟨rfl,rfl,g⟩ | ⟨g,rfl,L,j⟩
  ·rcases d with⟨rfl,rfl,d⟩ | ⟨d,rfl,L,j⟩
   ·exact .inl ⟨rfl,rfl,fun L j=>d L (g L j)⟩
   ·exact .inr ⟨d,rfl,L,j⟩
  ·rcases d with⟨rfl,rfl,d⟩ | ⟨d,rfl,u,q⟩
   ·exact .inr ⟨g,rfl,L,d L j⟩
   ·exact .inr ⟨by omega,rfl,u,q⟩
theorem Ext.refl(N:Nat)(X:Wd):Ext N X X:=
 ⟨rfl,fun _ _ h=>h,fun _ _ h=>.inl h,fun _ _ _=>rfl,fun b _=>mz.refl X b,fun b L h=>.inl ⟨b,L,h,rfl⟩,OF _,rfl,rfl,rfl,fun _ _ _=>rfl⟩
theorem Ext.trans{N:Nat}{X Y Z:Wd}(h:Ext N X Y)(k:Ext N Y Z):Ext N X Z where
 B:=k.B.trans h.B
 F:=fun c i l=>k.F c i (h.F c i l)
 pO:=fun c i l=>by
  rcases k.pO c i l with d | d | ⟨b,L,g,rfl⟩
  ·exact h.pO c i d
  ·exact .inr (.inl (arZ h.size d))
  ·rcases h.xH b L g with⟨b0,m,q,d⟩ | d
   ·exact .inr (.inr ⟨b0,m,q,d⟩)
   ·exact .inr (.inl d)
 fw:=fun c i l=>(k.fw c i (h.F c i l)).trans (h.fw c i l)
 bT:=fun b g=>(h.bT b g).trans (k.bT b g)
 xH:=fun b L g=>by
  rcases k.xH b L g with⟨b0,m,q,d⟩ | d
  ·rcases h.xH b0 m q with⟨b1,x,s,y⟩ | s
   ·exact .inl ⟨b1,x,s,y.trans d⟩
   ·exact .inr (d▸s)
  ·exact .inr (arZ h.size d)
 size:=arZ h.size k.size
 os:=k.os.trans h.os
 tape:=k.tape.trans h.tape
 output:=k.output.trans h.output
 frame:=fun j u v=>by
  rw [k.frame j (asA u h.size) (fun b L g hc=>?_)]
  ·exact h.frame j u v
  ·rcases h.xH b L g with⟨b0,m,q,d⟩ | d
   ·exact v b0 m q (d.trans hc)
   ·omega
theorem Ext.mono{N M:Nat}{X Y:Wd}(h:Ext N X Y)(g:M≤N):Ext M X Y:=
 {h with bT:=fun b d=>h.bT b (asA d g) }
theorem fD.under{X:Wd}{x:C}{v:Value}(h:fD σ X x v):x.eS X.H.length=ae:=by
 have lt:∀(b:Nat) bu,X.H[b]?=aa bu→b<X.H.length:=fun b bu g=>(By.1 g).1;cases x with
 | f x=>rfl
 | ptr b off u=>
  obtain⟨L,_,h⟩:=h;split at h
  ·rename_i g;simpa [C.eS]using lt _ _ g
  ·rename_i g;simpa [C.eS]using lt _ _ g
  ·exact h.elim
 | sl b o l cap u sz=>
  simp only [fD]at h;split at h
  ·rename_i g;simpa [C.eS]using lt _ _ g
  ·rename_i g;simpa [C.eS]using lt _ _ g
  ·exact h.elim
 | cl f j=>exact h.elim| yl b=>obtain⟨L,_,⟨f,t,p,a,y,s,q,d,g⟩,rfl⟩:=h;simpa [C.eS]using lt _ _ g
 | mp b=>obtain⟨L,_,⟨es,g⟩,rfl⟩:=h;simpa [C.eS]using lt _ _ g
 | it b=>obtain⟨L,_,⟨s,p,g⟩,rfl⟩:=h;simpa [C.eS]using lt _ _ g
 | mi b=>obtain⟨L,_,⟨m,s,d,g⟩,rfl⟩:=h;simpa [C.eS]using lt _ _ g
 | bm f first=>exact h.elim
theorem fD.pZ{N:Nat}{X X':Wd}(z:pN N X X'){x:C}{v:Value}(hu:x.eS N=ae)(h:fD σ X x v):fD σ X' x v:=by
 cases x with
 | f x=>exact cH.mono z.F z.fw h
 | ptr b off M=>
  obtain⟨L,y,h⟩:=h;have E:=z.bT b (by simpa [C.eS]using hu);split at h
  ·rename_i cs F u;obtain⟨blk',g,j⟩:=E _ u;cases blk'<;>simp only at j;exact⟨L,j L y,by rw [g];exact h⟩
  ·rename_i s cs F e u;obtain⟨blk',g,j⟩:=E _ u;cases blk'<;>simp only at j;obtain⟨rfl,⟨rfl,rfl,A⟩ | ⟨A,rfl,J,B⟩⟩:=j
   ·exact⟨L,A L y,by rw [g];exact h⟩
   ·exact⟨J,B,by rw [g];exact⟨by omega,fun H=>by omega,h.2.2⟩⟩
  ·exact h.elim
 | sl b o l cap M sz=>
  simp only [fD]at h ⊢;have E:=z.bT b (by simpa [C.eS]using hu);split at h
  ·rename_i cs F u;obtain⟨L,y,h⟩:=h;obtain⟨blk',g,j⟩:=E _ u;cases blk'<;>simp only at j;rw [g];exact⟨L,j L y,h⟩
  ·rename_i s cs F e st u;obtain⟨blk',g,j⟩:=E _ u;cases blk'<;>simp only at j;rw [g];obtain⟨rfl,⟨rfl,rfl,A⟩ | ⟨A,rfl,J,B⟩⟩:=j
   ·refine⟨h.1,fun H O=>?_,h.2.2⟩;have I:=h.2.1 H O;cases st with
    | loc=>obtain⟨L,y,Q⟩:=I;exact⟨L,A L y,Q⟩
    | nil=>exact I| es=>exact I
   ·exact⟨by omega,fun H=>by omega,h.2.2⟩
  ·exact h.elim
 | cl f K=>exact h.elim
 | yl b=>
  obtain⟨L,y,⟨f,t,p,a,S,s,q,d,u⟩,rfl⟩:=h;obtain⟨blk',g,j⟩:=z.bT b (by simpa [C.eS]using hu) _ u;cases blk'<;>simp only at j;exact⟨L,j.2 L y,⟨_,_,_,_,_,_,_,_,g⟩,rfl⟩
 | mp b=>
  obtain⟨L,y,⟨es,u⟩,rfl⟩:=h;obtain⟨blk',g,j⟩:=z.bT b (by simpa [C.eS]using hu) _ u;cases blk'<;>simp only at j;exact⟨L,j L y,⟨_,g⟩,rfl⟩
 | it b=>
  obtain⟨L,y,⟨s,p,u⟩,rfl⟩:=h;obtain⟨blk',g,j⟩:=z.bT b (by simpa [C.eS]using hu) _ u;cases blk'<;>simp only at j;exact⟨L,j L y,⟨_,_,g⟩,rfl⟩
 | mi b=>
  obtain⟨L,y,⟨m,s,d,u⟩,rfl⟩:=h;obtain⟨blk',g,j⟩:=z.bT b (by simpa [C.eS]using hu) _ u;cases blk'<;>simp only at j;exact⟨L,j.2 L y,⟨_,_,_,g⟩,rfl⟩
 | bm f first=>exact h.elim
theorem CR.pZ{N:Nat}{X X':Wd}(j:pN N X X'){x:C}{v:Value}(hu:x.under N=ae)(h:CR σ X x v):CR σ X' x v:=by
 cases x with
 | cl f m=>
  obtain⟨us,rfl,h⟩:=h;refine⟨us,rfl,h.mono fun y u hy l=>fD.pZ σ j ?_ l⟩;exact arX.1 hu y hy
 | bm f first=>
  obtain⟨us,rfl,h⟩:=h;refine⟨us,rfl,h.mono fun y u hy l=>fD.pZ σ j ?_ l⟩;exact arX.1 hu y hy
 | mi b=>exact fD.pZ σ j (x:=.mi b) hu h| f y=>exact fD.pZ σ j (x:=.f y) hu h| ptr a b c=>exact fD.pZ σ j (x:=.ptr a b c) hu h| sl a b c d e g=>exact fD.pZ σ j (x:=.sl a b c d e g) hu h| yl b=>exact fD.pZ σ j (x:=.yl b) hu h| mp b=>exact fD.pZ σ j (x:=.mp b) hu h| it b=>exact fD.pZ σ j (x:=.it b) hu h
end
section
variable(Q:Program)(σ:Nat→FuncId)
theorem CR.under{X:Wd}{x:C}{v:Value}(h:CR σ X x v):x.under X.H.length=ae:=by
 cases x with
 | cl f j=>
  obtain⟨us,rfl,h⟩:=h;simp only [C.under,arX];intro y hy;obtain⟨i,hi⟩:=asz hy;obtain⟨u,_,hu⟩:=h.get hi;exact fD.under σ hu
 | bm f j=>
  obtain⟨us,rfl,h⟩:=h;simp only [C.under,arX];intro y hy;obtain⟨i,hi⟩:=asz hy;obtain⟨u,_,hu⟩:=h.get hi;exact fD.under σ hu
 | mi b=>exact fD.under σ (x:=.mi b) h| f y=>rfl| ptr a b c=>exact fD.under σ (x:=.ptr a b c) h| sl a b c d e g=>exact fD.under σ (x:=.sl a b c d e g) h| yl b=>exact fD.under σ (x:=.yl b) h| mp b=>exact fD.under σ (x:=.mp b) h| it b=>exact fD.under σ (x:=.it b) h
theorem CR.dU{X X':Wd}(b:pN X.H.length X X'){x:C}{v:Value}(h:CR σ X x v):CR σ X' x v:=CR.pZ σ b (CR.under σ h) h
theorem A2.dU{X X':Wd}(b:pN X.H.length X X'){xs:List C}{us:List Value}(h:A2 (CR σ X) xs us):A2 (CR σ X') xs us:=
 h.lP fun _ _ h=>CR.dU σ b h
theorem gU.dU{X X':Wd}(b:pN X.H.length X X'){x:V}{v:Value}(h:gU σ X x v):gU σ X' x v:=by
 cases x with
 | top=>trivial| c x=>exact CR.dU σ b h| a xs=>obtain⟨us,rfl,h⟩:=h;exact⟨us,rfl,A2.dU σ b h⟩
 | t d=>exact h.elim
theorem VR.dU{X X':Wd}(b:pN X.H.length X X'){x:V}{v:Value}(h:VR σ X x v):VR σ X' x v:=by
 cases x with
 | t d=>obtain⟨us,rfl,h⟩:=h;exact⟨us,rfl,h.lP fun _ _ h=>gU.dU σ b h⟩
 | top=>trivial| c x=>exact gU.dU σ (x:=.c x) b h| a xs=>exact gU.dU σ (x:=.a xs) b h
def RR(X:Wd)(aA:T)(tmps:Array Value):Prop:=∀ p,VR σ X (aA.get p) (tmps.getD p.toNat undef)
theorem RR.dU{X X':Wd}(b:pN X.H.length X X'){aA:T}{tmps:Array Value}(h:RR σ X aA tmps):RR σ X' aA tmps:=fun p=>VR.dU σ b (h p)
theorem CR.ext'{X X':Wd}(b:Ext X.H.length X X'){x:C}{v:Value}(h:CR σ X x v):CR σ X' x v:=CR.dU σ b.W h
theorem A2.ext'{X X':Wd}(b:Ext X.H.length X X'){xs:List C}{us:List Value}(h:A2 (CR σ X) xs us):A2 (CR σ X') xs us:=A2.dU σ b.W h
theorem gU.ext'{X X':Wd}(b:Ext X.H.length X X'){x:V}{v:Value}(h:gU σ X x v):gU σ X' x v:=gU.dU σ b.W h
theorem VR.ext'{X X':Wd}(b:Ext X.H.length X X'){x:V}{v:Value}(h:VR σ X x v):VR σ X' x v:=VR.dU σ b.W h
theorem RR.ext'{X X':Wd}(b:Ext X.H.length X X'){aA:T}{tmps:Array Value}(h:RR σ X aA tmps):RR σ X' aA tmps:=RR.dU σ b.W h
theorem T.qb(t:T)(p q:P)(v:V):(t.set p v).get q=if p=q then v else t.get q:=by
 induction t generalizing p q with
 | e=>
  induction p generalizing q with
  | h=>cases q<;>simp [T.set,T.get]
  | o p b=>cases q<;>simp [T.set,T.get,b]
  | i p b=>cases q<;>simp [T.set,T.get,b]
 | n l j r d g=>cases p<;>cases q<;>simp [T.set,T.get,d,g]
theorem P.toNat_inj{p q:P}(h:p.toNat=q.toNat):p=q:=by
 induction p generalizing q with
 | h=>cases q<;>simp [P.toNat]at h ⊢
 | o p b=>
  cases q with
  | h=>simp [P.toNat]at h| o q=>simp only [P.toNat]at h;rw [b (q:=q) (by omega)]
  | i q=>simp [P.toNat]at h;omega
 | i p b=>
  cases q with
  | h=>simp [P.toNat]at h| o q=>simp [P.toNat]at h;omega| i q=>simp only [P.toNat]at h;rw [b (q:=q) (by omega)]
theorem RR.set{X:Wd}{aA:T}{tmps:Array Value}(h:RR σ X aA tmps){p:P}(g:p.toNat<tmps.size){v:V}{u:Value}(j:VR σ X v u) :
  RR σ X (aA.set p v) (tmps.setIfInBounds p.toNat u):=by
 intro q;rw [T.qb];by_cases d:p=q
 ·subst d;simpa [g]using j
 ·have b:p.toNat≠q.toNat:=fun e=>d (P.toNat_inj e);simpa [d,Array.getD_eq_getD_getElem?,Array.getElem?_setIfInBounds_ne b]using h q
def gk.of:gk→LoopState
 | .ready=>.ready| .busy=>.busy| .done=>.done| .exhausted=>.exhausted
def xO(n:Nat):Option az→Option Code→Prop
 | none,ab=>True| some a,aa c=>cd Q σ n c a=ae| _,_=>False
def BR(X:Wd):cT→Loc→Prop
 | .box cs y,L=>∃ us,rowAt X.w L.c us∧A2 (CR σ X) cs us∧∀ i,y≤i→¬ X.F L.c i| .bM sz cs y _ st,L=>st=.loc∧∃ us rest,rowAt X.w L.c (us++rest)∧A2 (CR σ X) cs us∧(us++rest).length=L.cap*sz∧0<sz∧(∃ n,cs.length=n*sz)∧∀ i,y≤i→¬ X.F L.c i| .map x,L=>∃ g:List MapEntry,X.w.heap[L.c]?=aa (.map g.toArray g.length)∧A2 (fun e m=>cH σ X.F X.w e.1 m.key∧gU σ X (mV e.2) m.val) x g∧∀(i:Nat) m,g[i]?=aa m→m.born=i
 | .vP m j done,L=>∃(B:Loc) (z:Array Nat) (st:Nat),X.cr m=aa B∧(∃ x,X.H[m]?=aa (.map x))∧X.w.heap[L.c]?=aa (.mapIter (aa B.c) j z st)∧(if done then z=#[0]∧st=1 else z=#[])| .it s pos,L=>X.w.heap[L.c]?=aa (.stringIter s pos)| .kT b,L=>X.w.heap[L.c]?=aa (.deferred (if b then aa []else ab))
 | .lp f tmps ps as bd st u d,L=>∃(n:Nat) (us:Array Value) (v:Array Tmp) (as' l:Code) (pend':Option Code) (A:Loc),
   X.w.heap[L.c]?=aa (.loop { state:=st.of,pending:=pend',fn:=σ f,tmps:=us,params:=v,assign:=as',body:=l,defers:=A.c }) ∧
   n≤us.size∧RR σ X tmps us∧fI (fun p (q:P)=>q.toNat == p&&decide (p<n)) v.toList ps=ae∧cd Q σ n as' as=ae∧cd Q σ n l bd=ae∧xO Q σ n u pend'∧X.cr d=aa A∧∃ o,X.H[d]?=aa (.kT o)
theorem BR.pZ{X X':Wd}(q:pN X.H.length X X'){bu:cT}{L:Loc}(x:X'.w.heap[L.c]?=X.w.heap[L.c]?)(S:∀ i,X'.F L.c i→X.F L.c i)(h:BR Q σ X bu L):BR Q σ X' bu L:=by
 cases bu with
 | box cs W=>
  obtain⟨us,⟨e,fr,j,g⟩,l,u⟩:=h;exact⟨us,⟨e,fr,x.trans j,g⟩,A2.dU σ q l,fun i hi H=>u i hi (S i H)⟩
 | bM sz cs W ep st=>
  obtain⟨I,us,rest,⟨e,fr,j,g⟩,l,u,y,E,F⟩:=h;exact⟨I,us,rest,⟨e,fr,x.trans j,g⟩,A2.dU σ q l,u,y,E,fun i hi H=>F i hi (S i H)⟩
 | map es=>
  obtain⟨A,j,g,l⟩:=h;exact⟨A,x.trans j,g.lP fun _ _ h=>⟨cH.mono q.F q.fw h.1,gU.dU σ q h.2⟩,l⟩
 | vP m K done=>
  obtain⟨N,sn,st,j,⟨es,g⟩,l,u⟩:=h;obtain⟨blk',v,y⟩:=q.bT m (By.1 g).1 _ g;cases blk'<;>simp only at y;exact⟨N,sn,st,y N j,⟨_,v⟩,x.trans l,u⟩
 | it s pos=>exact x.trans h| kT b=>exact x.trans h
 | lp f tmps ps as bd st U d=>
  obtain⟨n,us,J,as',B,pend',M,j,g,l,u,y,E,F,Y,o,O⟩:=h;have Z:d<X.H.length:=(By.1 O).1;obtain⟨blk',v,z⟩:=q.bT d Z _ O;cases blk'<;>simp only at z;exact⟨n,us,J,as',B,pend',M,x.trans j,g,RR.dU σ q l,u,y,E,F,z M Y,_,v⟩
theorem BR.ext{X X':Wd}(g:Ext X.H.length X X'){bu:cT}{L:Loc}(d:X'.w.heap[L.c]?=X.w.heap[L.c]?)(b:∀ i,X'.F L.c i→X.F L.c i)(h:BR Q σ X bu L):BR Q σ X' bu L:=BR.pZ Q σ g.W d b h
structure SR(X:Wd):Prop where
 br:∀ b L,X.cr b=aa L→X.B≤L.c∧L.c<X.w.heap.size∧∃ bu,X.H[b]?=aa bu∧BR Q σ X bu L
 inj:∀ b b' L L',X.cr b=aa L→X.cr b'=aa L'→L.c=L'.c→b=b'
 fb:∀ c i,X.F c i→c<X.w.heap.size
theorem SR.step{X X':Wd}(A:SR Q σ X)(z:Ext X.H.length X X')(b0:Nat)(F:∀ b,b≠b0→X'.H[b]?=X.H[b]?)(d:∀ b,b≠b0→X'.cr b=X.cr b)
  (H:∀ b L,b≠b0→X.cr b=aa L→X'.w.heap[L.c]?=X.w.heap[L.c]?) (E:∀ b L,b≠b0→X.cr b=aa L→∀ i,X'.F L.c i→X.F L.c i)
  (s:∀ L,X'.cr b0=aa L→X.B≤L.c∧L.c<X'.w.heap.size∧(∃ bu,X'.H[b0]?=aa bu∧BR Q σ X' bu L)∧∀ b l,b≠b0→X.cr b=aa l→l.c≠L.c)
  (y:∀ c i,X'.F c i→c<X'.w.heap.size):SR Q σ X' where
 br:=fun b L g=>by
  rw [z.B];by_cases h:b=b0
  ·subst h;obtain⟨u,v,x,_⟩:=s L g;exact⟨u,v,x⟩
  ·rw [d b h]at g;obtain⟨u,v,bu,x,B⟩:=A.br b L g;exact⟨u,asA v z.size,bu,(F b h).trans x,BR.ext Q σ z (H b L h g) (E b L h g) B⟩
 fb:=fun c i h=>y c i h
 inj:=fun b m L l g j hc=>by
  by_cases h:b=b0<;>by_cases q:m=b0
  ·rw [h,q]
  ·subst h;rw [d m q]at j;exact absurd hc.symm ((s L g).2.2.2 m l q j)
  ·subst q;rw [d b h]at g;exact absurd hc ((s l j).2.2.2 b L h g)
  ·rw [d b h]at g;rw [d m q]at j;exact A.inj b m L l g j hc
end
section
variable{Q:Program}{σ:Nat→FuncId}{X:Wd}
theorem bj{t:TypeId}{d:TypeDesc}(h:Q.underlying t=aa d)(w:World):(underlying t).run Q w=.ok d w:=by
 simp [underlying,h]
theorem cY{t:TypeId}{n:Nat}(h:di Q t n=ae)(w:World):(Go.sizeOf t).run Q w=.ok n w:=by
 unfold di at h;cases hi:Q.info? t with
 | none=>simp [hi]at h| some i=>simp [hi]at h;simp [Go.sizeOf,typeInfo,hi,h]
theorem zM{t:TypeId}{n:Nat}(h:nT Q t n=ae)(w:World):∃ i,(typeInfo t).run Q w=.ok i w∧i.bytes=n:=by
 unfold nT at h;cases hi:Q.info? t with
 | none=>simp [hi]at h| some i=>simp [hi]at h;exact⟨i,by simp [typeInfo,hi],h⟩
theorem Gf{t:TypeId}{n:Option Nat}(h:vF Q t n=ae)(w:World):(isAgg t).run Q w=.ok n.isSome w∧∀ k,n=aa k→di Q t k=ae:=by
 unfold vF at h;cases b:Q.underlying t with
 | none=>simp [b]at h
 | some d=>
  cases d<;>cases n<;>simp_all [isAgg,bj b]
theorem eg(c o k:Nat):(⟨c,o,ab⟩:Addr).add k=⟨c,o+k,ab⟩:=by unfold Addr.add;split<;>simp_all
theorem dd{w:World}{c:Nat}{us:List Value}(h:rowAt w c us)(i:Nat):w.cell? ⟨c,i,ab⟩=us[i]?:=by
 obtain⟨e,b,h,_⟩:=h;simp [World.cell?,h]
theorem DI{w:World}{c:Nat}{us:List Value}(h:rowAt w c us){i:Nat}(hi:i<us.length):w.frozen? ⟨c,i,ab⟩=ag:=by
 obtain⟨e,d,h,b⟩:=h;have:=b i (Nat.le_of_lt hi);simp only [World.frozen?,h];simp only [Bool.and_eq_false_iff,decide_eq_false_iff_not];omega
theorem uw(A:SR Q σ X){x:C}{v:Value}(g:CR σ X x v){cs:List C}(h:aC X.H x=aa cs) :
  ∃ c o us,v=.pointer (aa ⟨c,o,ab⟩)∧(∀(i:Nat) u,us[i]?=aa u→X.w.cell? ⟨c,o+i,ab⟩=aa u)∧A2 (CR σ X) cs us:=by
 cases x with
 | ptr b off H=>
  obtain⟨L,z,g⟩:=g;obtain⟨_,_,bu,m,j⟩:=A.br b L z;simp only [aC,m]at h;rw [m]at g;cases bu with
  | box cs' y=>
   simp only [sh]at h;subst h;subst g;obtain⟨us,hr,l,_⟩:=j;exact⟨L.c,off,us.drop off,rfl,fun i u d=>by rw [dd hr];rw [arV]at d;exact d,l.drop off⟩
  | bM s cs' y e st=>
   cases st<;>simp only at h g
   ·split at h
    ·rename_i E;simp only [sh]at h;subst h;obtain⟨_,g,_⟩:=g;have g:=g E;subst g;obtain⟨_,us,rest,hr,l,_⟩:=j;refine⟨L.c,off,us.drop off,rfl,fun i u d=>?_,l.drop off⟩;rw [dd hr];rw [arV]at d;rw [At (By.1 d).1];exact d
    ·simp at h
   all_goals exact g.elim
  | _=>simp at h
 | f x=>
  cases x with
  | fp cs' off=>
   simp only [aC,sh]at h;subst h;cases g with
   | fp _ _ c o us F I B hr=>
    refine⟨c,o+off,us.drop off,rfl,fun i u d=>?_,A2.map ⟨by simp [F],fun i x u q d=>?_⟩⟩
    ·rw [arV]at d;have:=B _ u d;rwa [show o+(off+i)=o+off+i by omega]at this
    ·rw [arV]at q d;exact hr _ x u q d
  | _=>simp [aC]at h
 | _=>simp [aC]at h
theorem CA{t:TypeId}{n:Option Nat}(z:vF Q t n=ae){c o:Nat}{us:List Value}{cs:List C}{w:World}
  (q:∀(i:Nat) u,us[i]?=aa u→w.cell? ⟨c,o+i,ab⟩=aa u) (g:A2 (CR σ X) cs us) {v:V} (b:aK n cs=aa v) :
  ∃ u,(loadVar t ⟨c,o,ab⟩).run Q w=.ok u w∧VR σ X v u:=by
 obtain⟨m,s⟩:=Gf z w;cases n with
 | none=>
  cases cs with
  | nil=>simp [aK]at b
  | cons x cs=>
   simp only [aK,sh]at b;subst b;obtain⟨u,A,l⟩:=g.get (i:=0) (x:=x) rfl;have:=q 0 u A;simp only [Nat.add_zero]at this;exact⟨u,by simp [loadVar,m,this],l⟩
 | some n=>
  simp only [aK]at b;split at b
  ·rename_i B;simp only [sh]at b;subst b;have y:(us.take n).length=n:=by have:=g.len;simp;omega
   have:=run_loadCells_list (P:=Q) w ⟨c,o,ab⟩ (us.take n) (fun j v d=>by
    rw [eg];rw [asb]at d;split at d
    ·exact q j v d
    ·simp at d)
   rw [y]at this;refine⟨.agg (us.take n).toArray,?_,⟨us.take n,rfl,g.take n⟩⟩;simp [loadVar,m,cY (s n rfl),this]
  ·simp at b
theorem ah8(q:SR Q σ X){t:TypeId}{n:Option Nat}(s:vF Q t n=ae){x:V}{p:Value}(y:VR σ X x p){v:V}(h:aU X.H n x=aa v) :
  ∃ u,(Instr.loadAt t p).run Q X.w=.ok u X.w∧VR σ X v u:=by
 cases x with
 | c x=>
  simp only [aU,ar6]at h;obtain⟨cs,b,d⟩:=h;obtain⟨c,o,us,rfl,g,j⟩:=uw q y b;obtain⟨u,l,m⟩:=CA s g j d;exact⟨u,by simp [Instr.loadAt,Instr.sureAddr,l],m⟩
 | _=>simp [aU]at h
end
section
variable{Q:Program}{σ:Nat→FuncId}{X:Wd}
theorem VR.int{k:IntKind}{n:Int}{u:Value}(h:VR σ X (.c (.f (.int k n))) u):u=.int k n:=by cases (h:cH σ X.F X.w (.int k n) u);rfl
theorem VR.bool{b:Bool}{u:Value}(h:VR σ X (.c (.f (.bool b))) u):u=.bool b:=by cases (h:cH σ X.F X.w (.bool b) u);rfl
theorem VR.str{s:ByteArray}{u:Value}(h:VR σ X (.c (.f (.str s))) u):u=.string s:=by cases (h:cH σ X.F X.w (.str s) u);rfl
theorem VR.mkInt(k:IntKind)(n:Int):VR σ X (V.int k n) (.int k n):=cH.int k n
theorem VR.u4(b:Bool):VR σ X (V.bool b) (.bool b):=cH.bool b
theorem VR.mkStr(s:ByteArray):VR σ X (.c (.f (.str s))) (.string s):=cH.str s
theorem ez{α β:Type}{f:α→β→Bool}:∀ {xs:List α} {ys:List β},fI f xs ys=ae→A2 (fun x y=>f x y=ae) xs ys
 | [],[],_=>A2.nil
 | x::xs,y::ys,h=>by
  simp only [fI,BY]at h;exact A2.cons h.1 (ez h.2)
 | [],_::_,h=>by simp [fI]at h
 | _::_,[],h=>by simp [fI]at h
theorem DY{F:Nat→Nat→Prop}{w:World}{x:FC}{u:Value}(h:mK1 x u=ae):cH σ F w x u:=by
 unfold mK1 at h;split at h
 ·simp only [beq_iff_eq]at h;subst h;exact .bool _
 ·simp only [BY,decide_eq_true_eq]at h;obtain⟨rfl,rfl⟩:=h;exact .int _ _
 ·simp only [decide_eq_true_eq]at h;subst h;exact .str _
 ·exact .gD
 ·exact .aF
 ·exact .ku
 ·exact .mQ
 ·exact .v_
 ·simp at h
theorem ama{x:V}{u:Value}(h:mK x u=ae):VR σ X x u:=by
 unfold mK at h;split at h
 ·exact DY h
 ·refine⟨_,by simp,(ez h).lP fun y w b=>?_⟩;split at b
  ·exact DY b
  ·simp at b
 ·trivial
 ·simp at h
theorem bN{a:Act}{aA:T}(b:RR σ X aA a.tmps){x:Arg}{y:Operand}(h:mA σ x y=ae):VR σ X (x.ev aA) (a.eval y):=by
 unfold mA at h;split at h
 ·rename_i p t;simp only [beq_iff_eq]at h;subst h;exact b p
 ·exact ama h
 ·simp only [beq_iff_eq]at h;subst h;exact cH.fn _ [] [] rfl (by simp)
 ·simp at h
theorem nB{a:Act}{aA:T}(j:RR σ X aA a.tmps){xs:List Arg}{ys:Array Operand}(h:ZP σ xs ys=ae):A2 (VR σ X) (dh aA xs) (ys.map a.eval).toList:=by
 have:=(ez h).lP fun x y b=>bN j b;refine⟨by simpa [dh]using this.len,fun i v u g d=>?_⟩;simp only [dh,asD,IN]at g;simp only [Array.toList_map,asD,IN]at d;obtain⟨x,l,rfl⟩:=g;obtain⟨y,m,rfl⟩:=d;exact this.2 i x y l m
theorem amb{a:Act}{aA:T}(g:RR σ X aA a.tmps){x:Option Arg}{y:Option Operand}(h:mO σ x y=ae) :
  (x=ab∧y=ab)∨∃ b d,x=aa b∧y=aa d∧VR σ X (b.ev aA) (a.eval d):=by
 unfold mO at h;split at h
 ·exact .inl ⟨rfl,rfl⟩
 ·exact .inr ⟨_,_,rfl,rfl,bN g h⟩
 ·simp at h
theorem adb{op:BinOp}{k:IntKind}{x y:Int}{v:V}(h:lu op k x y=aa v)(w:World) :
  ∃ u,(binOp op 0 (.int k x) (.int k y)).run Q w=.ok u w∧VR σ X v u∧∀ t,binOp op t (.int k x) (.int k y)=binOp op 0 (.int k x) (.int k y):=by
 unfold lu at h;split at h<;>(try split at h)<;>(try simp only [sh,reduceCtorEq]at h)<;>(try subst h)
 all_goals first
  | (refine⟨_,?_,VR.mkInt _ _,fun _=>by simp [binOp]⟩;simp [binOp,Op.intArith,Op.intBits];done)
  | (refine⟨_,?_,VR.u4 _,fun _=>by simp [binOp]⟩;simp [binOp,Op.intCmp];done)
  | (rename_i b;refine⟨_,?_,VR.mkInt _ _,fun _=>by simp [binOp]⟩;simp [binOp,Op.intDiv,b];done)
theorem adf{op:BinOp}{x y:ByteArray}{v:V}(h:Lg op x y=aa v)(w:World)(t:TypeId) :
  ∃ u,(binOp op t (.string x) (.string y)).run Q w=.ok u w∧VR σ X v u:=by
 unfold Lg at h;split at h<;>(try split at h)<;>(try simp only [sh,reduceCtorEq]at h)<;>(try subst h)
 all_goals first
  | exact⟨_,by simp [binOp,Op.stringOp],VR.u4 _⟩
  | (rename_i b;exact⟨_,by simp only [binOp,Op.stringOp];rw [aZ b];rfl,VR.mkStr _⟩)
  | skip
end
section
variable{Q:Program}{σ:Nat→FuncId}{X:Wd}
theorem tv:∀ {ks:List CK} {xs ys:List C} {b:Bool},rC ks xs ys=aa b→xs.length=ks.length∧ys.length=ks.length
 | [],[],[],_,_=>⟨rfl,rfl⟩
 | k::ks,x::xs,y::ys,b,h=>by
  simp only [rC]at h;split at h
  ·rename_i d;have:=tv d;simp [this]
  ·simp at h
 | [],_::_,_,_,h=>by simp [rC]at h
 | [],[],_::_,_,h=>by simp [rC]at h
 | _::_,[],_,_,h=>by simp [rC]at h
 | _::_,_::_,[],_,h=>by simp [rC]at h
theorem uK:∀ {ks d:List CK} {xs ys:List C} {b:Bool},rC (ks++d) xs ys=aa b →
  ∃ b1 g,rC ks (xs.take ks.length) (ys.take ks.length)=aa b1∧rC d (xs.drop ks.length) (ys.drop ks.length)=aa g∧b=(b1&&g)
 | [],d,xs,ys,b,h=>⟨ae,b,rfl,by simpa using h,by simp⟩
 | k::ks,d,[],ys,b,h=>by simp [rC]at h
 | k::ks,d,x::xs,[],b,h=>by simp [rC]at h
 | k::ks,d,x::xs,y::ys,b,h=>by
  simp only [List.cons_append,rC]at h;split at h
  ·rename_i a c m q;simp only [sh]at h;obtain⟨b1,g,j,l,rfl⟩:=uK q;refine⟨a&&b1,g,?_,by simpa using l,by rw [←h,Bool.and_assoc]⟩;simp [rC,m,j]
  ·simp at h
def CKv:CK→Value→Value→Bool→Prop
 | .bool,u,v,b=>∃ p q,u=.bool p∧v=.bool q∧b=(p == q)| .int,u,v,b=>∃ j p q,u=.int j p∧v=.int j q∧b=(p == q)| .str,u,v,b=>∃ p q,u=.string p∧v=.string q∧b=(p == q)
theorem tw{k:CK}{x y:C}{b:Bool}(h:MM k x y=aa b){u v:Value}(d:CR σ X x u)(g:CR σ X y v):CKv k u v b:=by
 unfold MM at h;split at h
 ·simp only [sh]at h;exact⟨_,_,VR.bool (σ:=σ) (X:=X) d,VR.bool (σ:=σ) (X:=X) g,h.symm⟩
 ·split at h
  ·rename_i j;subst j;simp only [sh]at h;exact⟨_,_,_,VR.int (σ:=σ) (X:=X) d,VR.int (σ:=σ) (X:=X) g,h.symm⟩
  ·simp at h
 ·simp only [sh]at h;exact⟨_,_,VR.str (σ:=σ) (X:=X) d,VR.str (σ:=σ) (X:=X) g,h.symm⟩
 ·simp at h
theorem B':∀(d:Nat) (t:TypeId) (ks:List CK),iM Q d t=aa ks→∀(D:Nat),d≤D→∀(us W:List Value) (off:Nat) (xs ys:List C) (b:Bool) (w:World),
  rC ks xs ys=aa b→A2 (CR σ X) xs ((us.drop off).take ks.length)→A2 (CR σ X) ys ((W.drop off).take ks.length) →
  ∃ a c,(part t us.toArray off).run Q w=.ok a w∧(part t W.toArray off).run Q w=.ok c w∧(Op.equalIn D t a c).run Q w=.ok b w
 | 0,_,_,h,_,_,_,_,_,_,_,_,_,_,_,_=>by simp [iM]at h
 | d+1,t,ks,h,0,hD,_,_,_,_,_,_,_,_,_,_=>by omega
 | d+1,t,ks,h,D+1,hD,us,W,off,xs,ys,b,w,M,hx,hy=>by
  have hl:=tv M;have m:∀(k:CK),ks=[k]→(∀ I,Q.underlying t=aa I→(match I with | .struct _ | .array _ _=>False | _=>True))→(∃ I,Q.underlying t=aa I) →
    ∃ x y u v,xs=[x]∧ys=[y]∧MM k x y=aa b∧CR σ X x u∧CR σ X y v∧(part t us.toArray off).run Q w=.ok u w∧(part t W.toArray off).run Q w=.ok v w:=by
   intro k z a9 g;subst z;obtain⟨I,g⟩:=g;have a9:=a9 I g
   match xs,ys,hl with
   | [x],[y],_=>
    simp only [rC]at M;split at M
    ·rename_i a c ha hc;simp only [sh]at hc M;subst hc;simp at M;subst M;obtain⟨u,d6,d7⟩:=hx.get (i:=0) (x:=x) rfl;obtain⟨v,d8,d9⟩:=hy.get (i:=0) (x:=y) rfl;have e1:us[off]?=aa u:=by simpa [asb,arV]using d6
     have e2:W[off]?=aa v:=by simpa [asb,arV]using d8
     have a8:(isAgg t).run Q w=.ok ag w:=by
      cases I<;>simp_all [isAgg,bj g]
     exact⟨x,y,u,v,rfl,rfl,ha,d7,d9,by simp [part,a8,e1],by simp [part,a8,e2]⟩
    ·simp at M
  unfold iM at h;split at h
  ·rename_i g;split at h
   ·simp only [sh]at h;obtain⟨x,y,u,v,rfl,rfl,E,Y,Z,N,h4⟩:=m .bool h.symm (fun I s=>by rw [g]at s;cases s;trivial) ⟨_,g⟩;obtain⟨p,q,rfl,rfl,rfl⟩:=tw E Y Z;exact⟨_,_,N,h4,run_equalIn_bool' w D t _ _ g⟩
   ·simp at h
  ·rename_i j g;split at h
   ·simp only [sh]at h;obtain⟨x,y,u,v,rfl,rfl,E,Y,Z,N,h4⟩:=m .int h.symm (fun I s=>by rw [g]at s;cases s;trivial) ⟨_,g⟩;obtain⟨j',p,q,rfl,rfl,rfl⟩:=tw E Y Z;exact⟨_,_,N,h4,run_equalIn_int w D t _ _ _ _ g⟩
   ·simp at h
  ·rename_i g;split at h
   ·simp only [sh]at h;obtain⟨x,y,u,v,rfl,rfl,E,Y,Z,N,h4⟩:=m .str h.symm (fun I s=>by rw [g]at s;cases s;trivial) ⟨_,g⟩;obtain⟨p,q,rfl,rfl,rfl⟩:=tw E Y Z;exact⟨_,_,N,h4,by rw [run_equalIn_string w D t _ _ g,beq_toListBytes]⟩
   ·simp at h
  ·rename_i fs g;split at h
   ·simp at h
   ·rename_i d5;split at h
    ·rename_i U hf;split at h
     ·rename_i a_;simp only [sh]at h;subst h;have L:(isAgg t).run Q w=.ok ae w:=by simp [isAgg,bj g]
      have S:Q.underlying t=aa (.struct (Q.fieldsOf t)):=by simp [Program.fieldsOf,g]
      have d3:Q.fieldsOf t=fs:=by rw [g]at S;simpa using S.symm
      refine⟨.agg ((us.drop off).take U.length).toArray,.agg ((W.drop off).take U.length).toArray,?_,?_,?_⟩
      ·simp [part,L,cY a_,asT]
      ·simp [part,L,cY a_,asT]
      ·rw [run_equalIn_struct w D t _ _ S (by simpa using d5),d3];have key:∀(l:List Field) (k:Nat) (J:List CK) (b2:Bool),iM.qa (iM Q d) k l=aa J→∀(A B:List Value) (F H:List C),
         rC J (F.drop k) (H.drop k)=aa b2→A2 (CR σ X) F A→A2 (CR σ X) H B→(Op.eqFields D A.toArray B.toArray l).run Q w=.ok b2 w:=by
        intro l;induction l with
        | nil=>
         intro k J b2 z A B F H E _ _;simp only [iM.qa,sh]at z;subst z;have:=tv E;simp only [List.length_nil,List.length_eq_zero_iff]at this;rw [this.1,this.2]at E;simp only [rC,sh]at E;subst E;simp [Op.eqFields]
        | cons f l ih=>
         intro k J b2 z A B F H E b9 b_;simp only [iM.qa]at z;split at z
         ·rename_i O;obtain⟨hn,ho⟩:=O;subst ho;split at z
          ·rename_i K N;split at z
           ·rename_i r hr;simp only [sh]at z;subst z;obtain⟨b1,b3,c9,c_,rfl⟩:=uK E;obtain⟨a,c,h5,h6,h7⟩:=B' d f.type K N D (by omega) A B f.offset _ _ b1 w c9 (by have:=(b9.drop f.offset).take K.length;simpa using this) (by have:=(b_.drop f.offset).take K.length;simpa using this);have d_:=ih (f.offset+K.length) r b3 hr A B F H (by simpa [List.drop_drop]using c_) b9 b_;simp only [Op.eqFields,hn,ne_eq,not_false_eq_true,if_true,Sem.run_bind,h5,h6,h7,Result.andThen_ok];cases b1<;>simp [d_]
           ·simp at z
          ·simp at z
         ·simp at z
       exact key fs.toList 0 U b hf _ _ xs ys (by simpa using M) hx hy
     ·simp at h
    ·simp at h
  ·simp at h
def ao5:K8→Value→Bool→Prop
 | .ptr,u,b=>∃ a,u=.pointer a∧b=a.isNone| .sl,u,b=>∃ a n c,u=.slice a n c∧b=a.isNone| .fn,u,b=>(u=.nilFunc∧b=ae)∨∃ f p q,u=.func f p q∧b=ag| .ifc,u,b=>u=.nilIface∧b=ae| _,_,_=>False
theorem qg{k:K8}{x:C}{u:Value}(d:CR σ X x u){b:Bool}(h:isNil X.H k x=aa b):ao5 k u b:=by
 unfold isNil at h;split at h<;>try simp only [sh,reduceCtorEq]at h
 ·cases (d:cH σ X.F X.w .gD u);subst h;exact⟨_,rfl,rfl⟩
 ·cases (d:cH σ X.F X.w (.fp _ _) u);subst h;exact⟨_,rfl,rfl⟩
 ·obtain⟨L,_,d⟩:=d;subst h;split at d
  ·subst d;exact⟨_,rfl,rfl⟩
  ·obtain⟨_,_,a,rfl⟩:=d;exact⟨_,rfl,rfl⟩
  ·exact d.elim
 ·cases (d:cH σ X.F X.w .aF u);subst h;exact⟨_,_,_,rfl,rfl⟩
 ·cases (d:cH σ X.F X.w .es u);subst h;exact⟨_,_,_,rfl,rfl⟩
 ·cases (d:cH σ X.F X.w (.fs _ _) u)<;>(subst h;exact⟨_,_,_,rfl,rfl⟩)
 ·rename_i m o l c q sz;simp only [CR,fD]at d;split at h
  ·rename_i g;rw [g]at d;obtain⟨L,_,_,rfl⟩:=d;simp only [sh]at h;subst h;exact⟨_,_,_,rfl,rfl⟩
  ·rename_i s cs v e st g;rw [g]at d;split at h
   ·rename_i j;have:=d.2.1 j.1 j.2;simp only [sh]at h;subst h;cases st with
    | loc=>obtain⟨L,_,k,_,_,rfl⟩:=this;exact⟨_,_,_,rfl,rfl⟩
    | nil=>obtain⟨_,_,rfl⟩:=this;exact⟨_,_,_,rfl,rfl⟩
    | es=>obtain⟨_,_,a,rfl⟩:=this;exact⟨_,_,_,rfl,rfl⟩
   ·simp at h
  ·simp at h
 ·cases (d:cH σ X.F X.w .ku u);subst h;exact .inl ⟨rfl,rfl⟩
 ·cases (d:cH σ X.F X.w (.fn _ _) u);subst h;exact .inr ⟨_,_,_,rfl,rfl⟩
 ·obtain⟨us,rfl,_⟩:=d;subst h;exact .inr ⟨_,_,_,rfl,rfl⟩
 ·obtain⟨us,rfl,_⟩:=d;subst h;exact .inr ⟨_,_,_,rfl,rfl⟩
 ·cases (d:cH σ X.F X.w .mQ u);subst h;exact⟨rfl,rfl⟩
theorem B9{d:Nat}{t:TypeId}{ks:List CK}(h:iM Q d t=aa ks):di Q t ks.length=ae:=by
 cases d with
 | zero=>simp [iM]at h
 | succ d=>
  unfold iM at h;split at h
  ·split at h
   ·simp only [sh]at h;subst h;assumption
   ·simp at h
  ·split at h
   ·simp only [sh]at h;subst h;assumption
   ·simp at h
  ·split at h
   ·simp only [sh]at h;subst h;assumption
   ·simp at h
  ·split at h
   ·simp at h
   ·split at h
    ·split at h
     ·simp only [sh]at h;subst h;assumption
     ·simp at h
    ·simp at h
  ·simp at h
theorem Xx{t e:TypeId}(b:Q.underlying t=aa (.pointer e))(D:Nat)(a:Option Addr)(w:World):(Op.equalIn (D+1) t (.pointer a) (.pointer ab)).run Q w=.ok a.isNone w:=by
 cases a<;>simp [Op.equalIn,bj b]
theorem adt{t e:TypeId}(b:Q.underlying t=aa (.slice e))(D:Nat)(a:Option Addr)(n c:Nat)(w:World):(Op.equalIn (D+1) t (.slice a n c) (.slice ab 0 0)).run Q w=.ok a.isNone w:=by
 cases a<;>simp [Op.equalIn,bj b]
theorem adr{t:TypeId}{p r:Array TypeId}{v:Bool}(b:Q.underlying t=aa (.func p r v))(D:Nat)(w:World):(Op.equalIn (D+1) t .nilFunc .nilFunc).run Q w=.ok ae w:=by
 simp [Op.equalIn,bj b]
theorem adq{t:TypeId}{p r:Array TypeId}{v:Bool}(b:Q.underlying t=aa (.func p r v))(D:Nat)(f:Fn)(x y:Array Value)(w:World):(Op.equalIn (D+1) t (.func f x y) .nilFunc).run Q w=.ok ag w:=by
 simp [Op.equalIn,bj b]
theorem ads{t:TypeId}{d:Array (String × TypeId)}(b:Q.underlying t=aa (.interface d))(D:Nat)(w:World):(Op.equalIn (D+1) t .nilIface .nilIface).run Q w=.ok ae w:=by
 simp [Op.equalIn,bj b]
theorem LG{t:TypeId}{x y:Operand}(b:(sC x||sC y)=ae)(op:BinOp)(w:World):(eqGuard op t x y .nilIface .nilIface).run Q w=.ok () w:=by
 simp only [Bool.or_eq_true]at b;rcases b with b | b
 ·cases x<;>simp only [sC,arQ]at b;cases op<;>rfl
 ·cases y<;>simp only [sC,arQ]at b;cases x<;>cases op<;>rfl
theorem ahI{k:K8}{t:TypeId}{x y:Operand}(v:mEq Q k t x y=ae){F H:V}{l d:Value}(s:VR σ X F l)(u:VR σ X H d){b:Bool}
  (h:za X.H k F H=aa b) (neg:Bool) (w:World) :
  (do eqGuard (if neg then .neq else .eql) t x y l d;binOp (if neg then .neq else .eql) t l d).run Q w=.ok (.bool (if neg then !b else b)) w:=by
 have g:(binOp .eql t l d=do pure (.bool (←Op.equal t l d)))→(binOp .neq t l d=do pure (.bool (!(←Op.equal t l d)))) →
   (∀ op,(eqGuard op t x y l d).run Q w=.ok () w)→(Op.equalIn 10000 t l d).run Q w=.ok b w →
   (do eqGuard (if neg then .neq else .eql) t x y l d;binOp (if neg then .neq else .eql) t l d).run Q w=.ok (.bool (if neg then !b else b)) w:=by
  intro B E z M;cases neg
  ·simp only [arQ,if_false,Sem.run_bind,z,Result.andThen_ok,B,Op.equal,Op.maxDepth,M,Sem.run_pure]
  ·simp only [if_true,Sem.run_bind,z,Result.andThen_ok,E,Op.equal,Op.maxDepth,M,Sem.run_pure]
 unfold mEq at v;unfold za at h;split at v
 ·rename_i j;split at h<;>try simp only [reduceCtorEq]at *
  obtain⟨p,q,rfl,rfl,rfl⟩:=tw h s u;exact g rfl rfl (fun op=>by cases op<;>rfl) (run_equalIn_bool' w 9999 t _ _ j)
 ·rename_i j;split at h<;>try simp only [reduceCtorEq]at *
  obtain⟨a,rfl,rfl⟩:=qg s h;cases (u:cH σ X.F X.w .gD d);exact g rfl rfl (fun op=>by cases op<;>rfl) (Xx j 9999 a w)
 ·rename_i j;split at h<;>try simp only [reduceCtorEq]at *
  obtain⟨a,n,c,rfl,rfl⟩:=qg s h;cases (u:cH σ X.F X.w .aF d);exact g rfl rfl (fun op=>by cases op<;>rfl) (adt j 9999 a n c w)
 ·rename_i j;split at h<;>try simp only [reduceCtorEq]at *
  cases (u:cH σ X.F X.w .ku d);rcases qg s h with⟨rfl,rfl⟩ | ⟨f,p,q,rfl,rfl⟩
  ·exact g rfl rfl (fun op=>by cases op<;>rfl) (adr j 9999 w)
  ·exact g rfl rfl (fun op=>by cases op<;>rfl) (adq j 9999 f p q w)
 ·rename_i j;split at h<;>try simp only [reduceCtorEq]at *
  cases (u:cH σ X.F X.w .mQ d);obtain⟨rfl,rfl⟩:=qg s h;refine g rfl rfl (fun op=>?_) ?_
  ·have L:(sC x||sC y)=ae:=v;exact LG L op w
  ·exact ads j 9999 w
 ·rename_i W ks j;obtain⟨xs,ys,rfl,rfl,h⟩:∃ xs ys,F=.a xs∧H=.a ys∧rC ks xs ys=aa b:=by
   cases F<;>cases H<;>first | exact⟨_,_,rfl,rfl,h⟩ | simp at h
  simp only [BY,decide_eq_true_eq,Bool.not_eq_true']at v;obtain⟨U,S⟩:=v;obtain⟨us,rfl,N⟩:=s;obtain⟨I,rfl,O⟩:=u;have Y:=tv h;have A:=B9 U;have m:(isAgg t).run Q w=.ok ae w:=by simp [isAgg,bj j]
  have t1:us.take ks.length=us:=arT (by have:=N.len;omega);have t2:I.take ks.length=I:=arT (by have:=O.len;omega);obtain⟨a,c,B,E,z⟩:=B' 20 t ks U 10000 (by omega) us I 0 _ _ b w h (by simpa [t1]using N) (by simpa [t2]using O);have J:a=.agg us.toArray:=by
   simp [part,m,cY A,asT,t1]at B;exact B.symm
  have K:c=.agg I.toArray:=by
   simp [part,m,cY A,asT,t2]at E;exact E.symm
  subst J;subst K;cases neg
  ·simp only [arQ,if_false,Sem.run_bind,run_eqGuard_agg w _ t x y _ _ S,Result.andThen_ok,run_eql_struct,z]
  ·simp only [if_true,Sem.run_bind,run_eqGuard_agg w _ t x y _ _ S,Result.andThen_ok,run_neq_struct,z]
 ·simp at v
end
section
variable{Q:Program}{σ:Nat→FuncId}{X:Wd}
theorem jr{x:V}{u:Value}(h:VR σ X x u){i:Int}(hi:dy x=aa i):∃ k,u=.int k i:=by
 unfold dy at hi;split at hi
 ·simp only [sh]at hi;subst hi;exact⟨_,VR.int h⟩
 ·simp at hi
theorem rv{x:V}{u:Value}(h:VR σ X x u){y i:Nat}(b:Af x y=aa i){g:Nat}(q:y≤g)(d:BoundsCode)(w:World) :
  i≤y∧(Instr.sliceBound u g d).run Q w=.ok i w:=by
 unfold Af at b;split at b
 ·rename_i j l;obtain⟨k,rfl⟩:=jr h l;split at b
  ·rename_i m;simp only [sh]at b;subst b;refine⟨by omega,?_⟩;have:0≤j∧j≤(g:Int):=by omega
   simp [Instr.sliceBound,asIntOf,this]
  ·simp at b
 ·simp at b
def OR(X:Wd)(σ:Nat→FuncId):Option V→Option Value→Prop
 | none,ab=>True| some x,aa u=>VR σ X x u| _,_=>False
theorem dR{lo hi mx:Option V}{d j mx':Option Value}(v:OR X σ lo d)(A:OR X σ hi j)(F:OR X σ mx mx'){len c l h m:Nat}
  (b:cj len c lo hi mx=aa (l,h,m)) {cap:Nat} (J:c≤cap) (O:len≤c) (s:Bool) (w:World) :
  (Instr.sliceBounds s len cap d j mx').run Q w=.ok (l,h,if mx.isSome then m else cap) w∧l≤h∧h≤m∧m≤c:=by
 unfold cj at b;cases mx with
 | some z=>
  cases mx'<;>simp only [OR]at F;rename_i U;simp only [atr,ar6]at b;obtain⟨S,M,b⟩:=b;obtain⟨N,E⟩:=rv (Q:=Q) F M J (if s then .slice3Acap else .slice3Alen) w;cases hi with
  | none=>simp at b
  | some y=>
   cases j<;>simp only [OR]at A;simp only [ar7,ar6]at b;obtain⟨L,H,b⟩:=b;obtain⟨I,g⟩:=rv (Q:=Q) A H (OF _) .slice3B w;cases lo with
   | none=>
    cases d<;>simp only [OR]at v;simp at b;obtain⟨rfl,rfl,rfl⟩:=b;simp [Instr.sliceBounds,E,g];omega
   | some x=>
    cases d<;>simp only [OR]at v;simp only [ar6]at b;obtain⟨K,q,b⟩:=b;obtain⟨B,u⟩:=rv (Q:=Q) v q (OF _) .slice3C w;simp at b;obtain⟨rfl,rfl,rfl⟩:=b;simp [Instr.sliceBounds,E,g,u];omega
 | none=>
  cases mx'<;>simp only [OR]at F;cases hi with
  | none=>
   cases j<;>simp only [OR]at A;cases lo with
   | none=>
    cases d<;>simp only [OR]at v;simp at b;obtain⟨rfl,rfl,rfl⟩:=b;simp [Instr.sliceBounds];omega
   | some x=>
    cases d<;>simp only [OR]at v;simp only [atr,ar7,ar6]at b;obtain⟨K,q,b⟩:=b;obtain⟨B,u⟩:=rv (Q:=Q) v q (OF _) .sliceB w;simp at b;obtain⟨rfl,rfl,rfl⟩:=b;simp [Instr.sliceBounds,u];omega
  | some y=>
   cases j<;>simp only [OR]at A;simp only [atr,ar7,ar6]at b;obtain⟨L,H,b⟩:=b;obtain⟨I,g⟩:=rv (Q:=Q) A H J (if s then .sliceAcap else .sliceAlen) w;cases lo with
   | none=>
    cases d<;>simp only [OR]at v;simp at b;obtain⟨rfl,rfl,rfl⟩:=b;simp [Instr.sliceBounds,g];omega
   | some x=>
    cases d<;>simp only [OR]at v;simp only [ar6]at b;obtain⟨K,q,b⟩:=b;obtain⟨B,u⟩:=rv (Q:=Q) v q (OF _) .sliceB w;simp at b;obtain⟨rfl,rfl,rfl⟩:=b;simp [Instr.sliceBounds,g,u];omega
theorem eP{t e:TypeId}{sz:Nat}(g:Q.underlying t=aa (.slice e))(b:di Q e sz=ae){a:Option Addr}{len cap:Nat}{lo hi mx:Option Value}{l h m:Nat}{w:World}
  (d:(Instr.sliceBounds ae len cap lo hi mx).run Q w=.ok (l,h,m) w) :
  (Instr.sliceAt t (.slice a len cap) lo hi mx).run Q w=.ok (.slice (if m=l then a else a.map (·.add (l*sz))) (h-l) (m-l)) w:=by
 simp [Instr.sliceAt,Instr.slice,bj g,d,cY b]
theorem yu{t e:TypeId}{sz:Nat}(d:Q.underlying t=aa (.slice e))(j:di Q e sz=ae){x:V}{u:Value}(E:VR σ X x u)
  {lo hi mx:Option V} {a9 a8 mx':Option Value} (H:OR X σ lo a9) (I:OR X σ hi a8) (J:OR X σ mx mx') {v:V} (h:dw X.H sz x lo hi mx=aa v) :
  ∃ r,(Instr.sliceAt t u a9 a8 mx').run Q X.w=.ok r X.w∧VR σ X v r:=by
 unfold dw at h;split at h
 ·
  split at h
  ·rename_i r A;obtain⟨l,g,m⟩:=r;simp only [sh]at h;subst h;cases (E:cH σ X.F X.w .aF u);obtain⟨q,K,N,O⟩:=dR (Q:=Q) H I J A (OF 0) (OF 0) ae X.w;refine⟨_,eP d j q,?_⟩;have:l=0∧g=0∧m=0:=by omega
   obtain⟨rfl,rfl,rfl⟩:=this;simp;exact cH.aF
  ·simp at h
 ·split at h
  ·rename_i r A;obtain⟨l,g,m⟩:=r;simp only [sh]at h;subst h;cases (E:cH σ X.F X.w .es u);obtain⟨q,K,N,O⟩:=dR (Q:=Q) H I J A (OF 0) (OF 0) ae X.w;refine⟨_,eP d j q,?_⟩;have:l=0∧g=0∧m=0:=by omega
   obtain⟨rfl,rfl,rfl⟩:=this;simp;exact cH.es _
  ·simp at h
 ·
  rename_i cs n;split at h
  ·rename_i l g m A;have b9:(∃(c o cap:Nat) (us:List Value),n≤cap∧us.length=cs.length∧(∀ i,i<cs.length→X.F c (o+i))∧(∀(i:Nat) u,us[i]?=aa u→X.w.cell? ⟨c,o+i,ab⟩=aa u) ∧
     (∀(i:Nat) x u,cs[i]?=aa x→us[i]?=aa u→cH σ X.F X.w x u)∧u=.slice (aa ⟨c,o,ab⟩) n cap)∨(cs=[]∧n=0∧∃ a cap,u=.slice (aa a) 0 cap):=by
    cases (E:cH σ X.F X.w (.fs cs n) u)with
    | fs _ _ c o cap us z hl hF Z hr=>exact .inl ⟨c,o,cap,us,z,hl,hF,Z,hr,rfl⟩| fs0 a cap=>exact .inr ⟨rfl,rfl,a,cap,rfl⟩
   rcases b9 with⟨c,o,cap,us,z,hl,hF,Z,hr,rfl⟩ | ⟨rfl,rfl,a,cap,rfl⟩
   ·obtain⟨q,K,N,O⟩:=dR (Q:=Q) H I J A z (OF n) ae X.w;split at h
    ·rename_i y;simp only [sh]at h;subst h;rw [bp y.1]at q;obtain⟨_,rfl⟩:=y;refine⟨_,eP d j q,?_⟩;rw [show g-m=0 by omega,show m-m=0 by omega,bp rfl];exact cH.es _
    ·simp only [sh]at h;subst h;refine⟨_,eP d j q,?_⟩;generalize S:(if mx.isSome=ae then m else cap)=M;have a_:g≤M:=by rw [←S];split<;>omega
     by_cases B:M=l
     ·rw [bp B,show g-l=0 by omega];simp;exact cH.fs0 _ _
     ·rw [aZ B];simp only [asm,eg];refine cH.fs _ _ c (o+l*sz) _ ((us.drop (l*sz)).take ((g-l)*sz)) (by omega) (by simp [hl]) (fun i hi=>?_) (fun i u d=>?_) (fun i x u E d=>?_)
      ·have:=hF (l*sz+i) (by simp at hi;omega);rwa [show o+(l*sz+i)=o+l*sz+i by omega]at this
      ·rw [asb]at d;split at d
       ·rw [arV]at d;have:=Z _ u d;rwa [show o+(l*sz+i)=o+l*sz+i by omega]at this
       ·simp at d
      ·rw [asb]at d E;split at d
       ·rename_i hi;rw [bp hi]at E;rw [arV]at d E;exact hr _ x u E d
       ·simp at d
   ·obtain⟨q,K,N,O⟩:=dR (Q:=Q) H I J A (Nat.zero_le cap) (OF 0) ae X.w;have:l=0∧g=0∧m=0:=by omega
    obtain⟨rfl,rfl,rfl⟩:=this;refine⟨_,eP d j q,?_⟩;split at h
    ·rename_i y;simp only [sh]at h;subst h;simp [y.1];exact cH.es _
    ·simp only [sh]at h;subst h;have ho:∀ M,∃ a',(if M=0 then aa a else Option.map (fun(x:Addr)=>x.add (0*sz)) (aa a))=aa a':=by intro M;split<;>exact⟨_,rfl⟩
     obtain⟨a',U⟩:=ho (if mx.isSome=ae then 0 else cap);rw [U];simp;exact cH.fs0 _ _
  ·simp at h
 ·
  rename_i b o n cap ep s;simp only [VR,gU,CR,fD]at E;split at h
  ·rename_i F;rw [F]at E;obtain⟨L,hL,z,rfl⟩:=E;split at h
   ·rename_i l g m A;obtain⟨q,K,N,O⟩:=dR (Q:=Q) H I J A (OF cap) z ae X.w;have hm:(if mx.isSome=ae then m else cap)=m:=by
     split
     ·rfl
     ·rename_i hn;cases mx with
      | some _=>simp at hn| none=>unfold cj at A;cases hi<;>cases lo<;>simp [ar6]at A<;>omega
    rw [hm]at q;refine⟨_,eP d j q,?_⟩;split at h
    ·rename_i B;simp only [sh]at h;subst h;rw [bp B,show g-l=0 by omega,show m-l=0 by omega];exact cH.es _
    ·rename_i B;simp only [sh]at h;subst h;rw [aZ B];simp only [asm,eg,VR,gU,CR,fD,F];exact⟨L,hL,by omega,rfl⟩
   ·simp at h
  ·rename_i s' cs fl e st F;rw [F]at E;split at h
   ·rename_i Z;obtain⟨rfl,rfl,rfl⟩:=Z;have Y:=E.2.1 rfl rfl;cases st with
    | loc=>
     obtain⟨L,hL,k,rfl,hk,rfl⟩:=Y;simp only at h;split at h
     ·rename_i l g m A;obtain⟨q,K,N,O⟩:=dR (Q:=Q) H I J A (show n≤L.cap-k by omega) (OF n) ae X.w;refine⟨_,eP d j q,?_⟩;generalize S:(if mx.isSome=ae then m else L.cap-k)=M;have a_:g≤M:=by rw [←S];split<;>omega
      split at h
      ·rename_i y;simp only [sh]at h;subst h;rw [bp y.1]at S;subst S;obtain⟨_,rfl⟩:=y;rw [show g-m=0 by omega,show m-m=0 by omega,bp rfl];exact cH.es _
      ·split at h
       ·rename_i y;simp only [sh]at h;subst h;rw [show g-l=0 by omega];have ho:∃ a',(if M=l then aa (⟨L.c,k*s',ab⟩:Addr)else Option.map (fun(x:Addr)=>x.add (l*s')) (aa ⟨L.c,k*s',ab⟩))=aa a':=by split<;>exact⟨_,rfl⟩
        obtain⟨a',U⟩:=ho;rw [U];exact cH.fs0 _ _
       ·rename_i b_;split at h
        ·simp at h
        ·rename_i hn;simp only [sh]at h;subst h;rw [aZ hn]at S;have W:(if M=l then aa (⟨L.c,k*s',ab⟩:Addr)else Option.map (fun(x:Addr)=>x.add (l*s')) (aa ⟨L.c,k*s',ab⟩))=aa ⟨L.c,k*s'+l*s',ab⟩:=by
          split
          ·have:l=0:=by omega
           subst this;simp
          ·simp [eg]
         rw [W];simp only [VR,gU,CR,fD,F];refine⟨OF _,fun _ _=>⟨L,hL,k+l,by rw [asv],by omega,by rw [←S];congr 1;omega⟩,_,_,_,rfl⟩
     ·simp at h
    | nil=>
     obtain⟨rfl,rfl,rfl⟩:=Y;simp only at h;split at h
     ·rename_i r A;obtain⟨l,g,m⟩:=r;simp only [sh]at h;subst h;obtain⟨q,K,N,O⟩:=dR (Q:=Q) H I J A (OF 0) (OF 0) ae X.w;refine⟨_,eP d j q,?_⟩;have:l=0∧g=0∧m=0:=by omega
      obtain⟨rfl,rfl,rfl⟩:=this;simp;exact cH.aF
     ·simp at h
    | es=>
     obtain⟨rfl,rfl,a,rfl⟩:=Y;simp only at h;split at h
     ·rename_i r A;obtain⟨l,g,m⟩:=r;simp only [sh]at h;subst h;obtain⟨q,K,N,O⟩:=dR (Q:=Q) H I J A (OF 0) (OF 0) ae X.w;refine⟨_,eP d j q,?_⟩;have:l=0∧g=0∧m=0:=by omega
      obtain⟨rfl,rfl,rfl⟩:=this;simp;exact cH.es _
     ·simp at h
   ·simp at h
  ·simp at h
 ·simp at h
end
section
variable{Q:Program}{σ:Nat→FuncId}{X:Wd}
theorem ME{t:TypeId}(A:Q.underlying t=aa .string){x:V}{u:Value}(B:VR σ X x u){lo hi:Option V}{d b:Option Value}(g:OR X σ lo d)(j:OR X σ hi b)
  {v:V} (h:vB x lo hi=aa v) (w:World):∃ r,(Instr.sliceAt t u d b ab).run Q w=.ok r w∧VR σ X v r:=by
 unfold vB at h;split at h
 ·rename_i s;have:=VR.str B;subst this;split at h
  ·rename_i l z m y;simp only [sh]at h;subst h;obtain⟨q,_⟩:=dR (Q:=Q) (mx:=ab) (mx':=ab) g j trivial y (OF _) (OF _) ag w;exact⟨.string (s.extract l z),by simp [Instr.sliceAt,Instr.slice,bj A,q],VR.mkStr _⟩
  ·simp at h
 ·simp at h
theorem MC(hS:SR Q σ X){t e:TypeId}{n sz:Nat}(g:Q.underlying t=aa (.array n e))(E:di Q e sz=ae){x:V}{u:Value}(q:VR σ X x u)
  {lo hi mx:Option V} {z y mx':Option Value} (F:OR X σ lo z) (H:OR X σ hi y) (I:OR X σ mx mx') {v:V} (h:kZ X.H n sz x lo hi mx=aa v) :
  ∃ r,(Instr.sliceAt t u z y mx').run Q X.w=.ok r X.w∧VR σ X v r:=by
 have run:∀(a:Addr) l j m,(Instr.sliceBounds ag n n z y mx').run Q X.w=.ok (l,j,m) X.w →
   (Instr.sliceAt t (.pointer (aa a)) z y mx').run Q X.w=.ok (.slice (aa (if m=l then a else a.add (l*sz))) (j-l) (m-l)) X.w:=by
  intro a l j m s;simp [Instr.sliceAt,bj g,Instr.sureAddr,s,cY E]
 have mm:∀ {l j m:Nat},cj n n lo hi mx=aa (l,j,m)→(if mx.isSome=ae then m else n)=m:=by
  intro l j m s;split
  ·rfl
  ·rename_i W;cases mx with
   | some _=>simp at W| none=>unfold cj at s;cases hi<;>cases lo<;>simp [ar6]at s<;>omega
 unfold kZ at h;split at h
 ·rename_i b off Y;obtain⟨L,O,q⟩:=q;split at h
  ·rename_i cs Z B;rw [B]at q;simp only at q;subst q;split at h
   ·rename_i l j m s;obtain⟨A,J,K,M⟩:=dR (Q:=Q) F H I s (OF n) (OF n) ag X.w;rw [mm s]at A;split at h
    ·refine⟨_,run _ _ _ _ A,?_⟩;split at h
     ·rename_i d;simp only [sh]at h;subst h;rw [bp d,show j-l=0 by omega,show m-l=0 by omega];exact cH.es _
     ·rename_i d;simp only [sh]at h;subst h;rw [aZ d];simp only [eg,VR,gU,CR,fD,B];exact⟨L,O,by omega,rfl⟩
    ·simp at h
   ·simp at h
  ·simp at h
 ·rename_i cs off;cases (q:cH σ X.F X.w (.fp cs off) u)with
  | fp _ _ c o us U N S hr=>
   split at h
   ·rename_i l j m s;obtain⟨A,J,K,M⟩:=dR (Q:=Q) F H I s (OF n) (OF n) ag X.w;rw [mm s]at A;split at h
    ·refine⟨_,run _ _ _ _ A,?_⟩;split at h
     ·rename_i d;simp only [sh]at h;subst h;rw [bp d,show j-l=0 by omega,show m-l=0 by omega];exact cH.es _
     ·rename_i d;simp only [sh]at h;subst h;rw [aZ d,eg];refine cH.fs _ _ c (o+off+l*sz) _ ((us.drop (off+l*sz)).take ((j-l)*sz)) (by omega) (by simp [U]) (fun i hi=>?_) (fun i u g=>?_) (fun i x u q g=>?_)
      ·have:=N (off+l*sz+i) (by simp at hi;omega);rwa [show o+(off+l*sz+i)=o+off+l*sz+i by omega]at this
      ·rw [asb]at g;split at g
       ·rw [arV]at g;have:=S _ u g;rwa [show o+(off+l*sz+i)=o+off+l*sz+i by omega]at this
       ·simp at g
      ·rw [asb]at g q;split at g
       ·rename_i hi;rw [bp hi]at q;rw [arV]at g q;exact hr _ x u q g
       ·simp at g
    ·simp at h
   ·simp at h
 ·simp at h
theorem DF{t:TypeId}{l:Array Field}(H:Q.underlying t=aa (.struct l)){i:Nat}{f:Field}(E:l[i]?=aa f)(j:(Q.info? f.type).any (fun i=>i.size != 0)=ae)
  {x:V} {u:Value} (g:VR σ X x u) {v:V} (h:jn f.offset x=aa v) (w:World):∃ r,(Instr.fieldAt t u i).run Q w=.ok r w∧VR σ X v r:=by
 have run:∀ a:Addr,(Instr.fieldAt t (.pointer (aa a)) i).run Q w=.ok (.pointer (aa (a.add f.offset))) w:=by
  intro a;cases hi:Q.info? f.type with
  | none=>simp [hi]at j
  | some I=>
   simp [hi]at j;simp [Instr.fieldAt,bj H,E,Instr.sureAddr,fieldPlace,Go.sizeOf,typeInfo,hi,j]
 unfold jn at h;split at h
 ·rename_i b o J;simp only [sh]at h;subst h;obtain⟨L,m,g⟩:=g;split at g
  ·rename_i d;subst g;exact⟨_,run _,L,m,by rw [d,eg]⟩
  ·rename_i s cs K e d;obtain⟨q,y,a,rfl⟩:=g;refine⟨_,run _,L,m,?_⟩;rw [d];refine⟨q,fun B=>?_,_,rfl⟩;have:=y B;simp only [Value.pointer.injEq,sh]at this;rw [this,eg]
  ·exact g.elim
 ·rename_i cs o;simp only [sh]at h;subst h;cases (g:cH σ X.F X.w (.fp cs o) u)with
  | fp _ _ c o' us F z A hr=>
   refine⟨_,run _,?_⟩;rw [eg,Nat.add_assoc];exact cH.fp cs _ c o' us F z A hr
 ·simp at h
theorem DO{t e:TypeId}{sz:Nat}{q:Option Nat}(I:di Q e sz=ae)
  (H:(q=ab∧Q.underlying t=aa (.slice e))∨∃ n,q=aa n∧Q.underlying t=aa (.array n e)) {x i:V} {u j:Value} (m:VR σ X x u) (hi:VR σ X i j)
  {v:V} (h:aP X.H sz q x i=aa v):∃ r,(Instr.indexAt t u j).run Q X.w=.ok r X.w∧VR σ X v r:=by
 unfold aP at h;split at h
 ·simp at h
 rename_i k hk;obtain⟨O,rfl⟩:=jr hi hk;split at h
 ·rename_i M;have z:q=ab→∀(a:Addr) (l c:Nat),k<l→(Instr.indexAt t (.slice (aa a) l c) (.int O k)).run Q X.w=.ok (.pointer (aa (a.add (k.toNat*sz)))) X.w:=by
   intro J a l c g;rcases H with⟨_,H⟩ | ⟨n,A,_⟩
   ·simp [Instr.indexAt,asIntOf,bj H,M,g,cY I]
   ·rw [J]at A;simp at A
  have y:∀ n,q=aa n→∀(a:Addr),k<n→(Instr.indexAt t (.pointer (aa a)) (.int O k)).run Q X.w=.ok (.pointer (aa (a.add (k.toNat*sz)))) X.w:=by
   intro n J a g;rcases H with⟨A,_⟩ | ⟨n',A,H⟩
   ·rw [J]at A;simp at A
   ·rw [J]at A;simp only [sh]at A;subst A;simp [Instr.indexAt,asIntOf,bj H,Instr.sureAddr,M,g,cY I]
  split at h
  ·rename_i b o l c U s;split at h
   ·rename_i g;simp only [VR,gU,CR,fD]at m;split at h
    ·rename_i d;rw [d]at m;obtain⟨L,E,_,rfl⟩:=m;simp only [sh]at h;subst h;exact⟨_,z rfl _ _ _ g,L,E,by rw [d,eg]⟩
    ·rename_i s' cs W S d;rw [d]at m;split at h
     ·rename_i F;simp only [sh]at h;subst h;obtain⟨L,E,kq,_,_,rfl⟩:=m.2.1 F.1 F.2;exact⟨_,z rfl _ _ _ g,L,E,by rw [d,eg];exact⟨m.1,fun _=>rfl,_,rfl⟩⟩
     ·simp at h
    ·simp at h
   ·simp at h
  ·rename_i cs l;split at h
   ·rename_i g;simp only [sh]at h;subst h;cases (m:cH σ X.F X.w (.fs cs l) u)with
    | fs _ _ c o cap us N B K F hr=>
     refine⟨_,z rfl _ _ _ g,?_⟩;rw [eg];exact cH.fp cs _ c o us B K F hr
    | fs0 a cap=>simp at g;omega
   ·simp at h
  ·rename_i n b o U;split at h
   ·rename_i g;simp only [sh]at h;subst h;obtain⟨L,E,m⟩:=m;split at m
    ·rename_i d;subst m;exact⟨_,y n rfl _ g,L,E,by rw [d,eg]⟩
    ·rename_i s cs W S d;obtain⟨Y,Z,a,rfl⟩:=m;refine⟨_,y n rfl _ g,L,E,?_⟩;rw [d];refine⟨Y,fun he=>?_,_,rfl⟩;have:=Z he;simp only [Value.pointer.injEq,sh]at this;rw [this,eg]
    ·exact m.elim
   ·simp at h
  ·rename_i n cs o;split at h
   ·rename_i g;simp only [sh]at h;subst h;cases (m:cH σ X.F X.w (.fp cs o) u)with
    | fp _ _ c o' us B K F hr=>
     refine⟨_,y n rfl _ g,?_⟩;rw [eg,Nat.add_assoc];exact cH.fp cs _ c o' us B K F hr
   ·simp at h
  ·simp at h
 ·simp at h
theorem vG{t:TypeId}{n:Option Nat}(s:vF Q t n=ae){xs:List C}{us:List Value}(l:A2 (CR σ X) xs us)(off:Nat){v:V}(b:aK n (xs.drop off)=aa v)(w:World) :
  ∃ u,(part t us.toArray off).run Q w=.ok u w∧VR σ X v u:=by
 obtain⟨m,q⟩:=Gf s w;cases n with
 | none=>
  cases d:xs.drop off with
  | nil=>rw [d]at b;simp [aK]at b
  | cons x cs=>
   rw [d]at b;simp only [aK,sh]at b;subst b;obtain⟨u,y,j⟩:=(l.drop off).get (i:=0) (x:=x) (by rw [d];rfl);have g:us[off]?=aa u:=by simpa [arV]using y
   exact⟨u,by simp [part,m,g],j⟩
 | some n=>
  simp only [aK]at b;split at b
  ·simp only [sh]at b;subst b;exact⟨.agg ((us.drop off).take n).toArray,by simp [part,m,cY (q n rfl),asT],_,rfl,(l.drop off).take n⟩
  ·simp at b
theorem Lw{t:TypeId}{b:Array Field}(q:Q.underlying t=aa (.struct b)){i:Nat}{f:Field}(l:b[i]?=aa f){n:Option Nat}(m:vF Q f.type n=ae)
  {x:V} {u:Value} (s:VR σ X x u) {v:V} (h:nv f.offset n x=aa v) (w:World):∃ r,(Instr.field t u i).run Q w=.ok r w∧VR σ X v r:=by
 unfold nv at h;split at h
 ·obtain⟨us,rfl,d⟩:=s;obtain⟨r,g,j⟩:=vG m d f.offset h w;exact⟨r,by simp [Instr.field,bj q,l,asAgg,g],j⟩
 ·simp at h
theorem XK{t e:TypeId}{len sz:Nat}(y:Q.underlying t=aa (.array len e))(b:di Q e sz=ae){n:Option Nat}(s:vF Q e n=ae)
  {x i:V} {u j:Value} (z:VR σ X x u) (hi:VR σ X i j) {v:V} (h:mC len sz n x i=aa v) (w:World):∃ r,(Instr.index t u j).run Q w=.ok r w∧VR σ X v r:=by
 unfold mC at h;split at h
 ·rename_i xs k q;obtain⟨A,rfl⟩:=jr hi q;split at h
  ·rename_i m;obtain⟨us,rfl,d⟩:=z;obtain⟨r,g,l⟩:=vG s d _ h w;exact⟨r,by simp [Instr.index,asIntOf,bj y,m,cY b,g],l⟩
  ·simp at h
 ·simp at h
theorem XL{t:TypeId}(m:Q.underlying t=aa .string){x i:V}{u j:Value}(q:VR σ X x u)(hi:VR σ X i j){v:V}(h:BD x i=aa v)(w:World) :
  ∃ r,(Instr.index t u j).run Q w=.ok r w∧VR σ X v r:=by
 unfold BD at h;split at h
 ·rename_i s k l;obtain⟨y,rfl⟩:=jr hi l;have:=VR.str q;subst this;split at h
  ·rename_i d;simp only [IN]at h;obtain⟨b,g,rfl⟩:=h;exact⟨_,by simp [Instr.index,asIntOf,bj m,d,g],VR.mkInt _ _⟩
  ·simp at h
 ·simp at h
end
section
variable{Q:Program}{σ:Nat→FuncId}{X:Wd}
theorem A2.over{α β:Type}{R:α→β→Prop}{cs xs:List α}{us d:List β}(h:A2 R cs us)(b:A2 R xs d)(off:Nat):A2 R (over cs off xs) (over us off d):=by
 unfold Km.over;rw [b.len];exact((h.take off).append b).append (h.drop _)
theorem B4{α:Type}(cs:List α)(off:Nat)(xs:List α)(h:off+xs.length≤cs.length):(over cs off xs).length=cs.length:=by
 simp [over];omega
theorem BB(off:Nat):∀(d:List Value) (k:Nat) (b:List Value),off+k+d.length≤b.length →
  ((d.zipIdx k).foldl (fun(cs:Array Value) p=>cs.setIfInBounds (off+p.2) p.1) b.toArray)=(over b (off+k) d).toArray
 | [],k,b,_=>by simp [over]
 | v::d,k,b,h=>by
  simp only [List.zipIdx_cons,asL];have g:b.toArray.setIfInBounds (off+k) v=(b.set (off+k) v).toArray:=by simp
  rw [g,BB off d (k+1) _ (by simp at h ⊢;omega)]
  congr 1
  unfold over;simp only [asc]at h ⊢;rw [List.take_set,List.drop_set_of_lt (by omega),show off+(k+1)=off+k+1 by omega,show off+k+1+d.length=off+k+(d.length+1) by omega];rw [aq8 (by omega)];have j:(List.take (off+k) b).length=off+k:=by simp;omega
  have e:(List.take (off+k) b++[b[off+k]]).set (off+k) v=List.take (off+k) b++[v]:=by
   rw [List.set_append,aZ (by omega),j];simp
  rw [e];simp
theorem pT{x:V}{u:Value}(b:VR σ X x u){xs:List C}(h:x.cells?=aa xs):∃ us,u.cells=us.toArray∧A2 (CR σ X) xs us:=by
 unfold V.cells? at h;split at h
 ·rename_i x;simp only [sh]at h;subst h;have d:=CR.one σ b;refine⟨[u],?_,A2.cons b A2.nil⟩;cases u<;>simp_all [Value.cells,Value.oneCell']
 ·simp only [sh]at h;subst h;obtain⟨us,rfl,h⟩:=b;exact⟨us,rfl,h⟩
 ·simp at h
theorem od{a:Act}{aA:T}(v:RR σ X aA a.tmps){place:Nat→Option (Nat × Nat)}:∀ {qs:List (Nat × Nat × Arg)} {ps:List (Nat × Operand)},
  A2 (fun(q:Nat × Nat × Arg) (p:Nat × Operand)=>place p.1=aa (q.1,q.2.1)∧mA σ q.2.2 p.2=ae) qs ps→∀ {cs cs':List C} {us:List Value},A2 (CR σ X) cs us →
  dv aA cs qs=aa cs'→∃ d,Instr.fill place us.toArray (ps.map fun p=>(p.1,a.eval p.2))=aa d.toArray∧A2 (CR σ X) cs' d
 | [],[],_,cs,cs',us,h,b=>by
  simp only [dv,sh]at b;subst b;exact⟨us,rfl,h⟩
 | [],_::_,g,_,_,_,_,_=>by have:=g.len;simp at this
 | _::_,[],g,_,_,_,_,_=>by have:=g.len;simp at this
 | (off,n,x)::qs,(i,y)::ps,g,cs,cs',us,h,b=>by
  obtain⟨⟨s,u⟩,l⟩:=g.of_cons;simp only at s u;simp only [dv]at b;split at b
  ·rename_i xs m;split at b
   ·rename_i H;obtain⟨F,E,j⟩:=pT (bN v u) m;obtain⟨d,z,A⟩:=od v l (h.over j off) b;refine⟨d,?_,A⟩;have I:=j.len;have B:=h.len;simp only [List.map_cons,Instr.fill,s,E];rw [aZ (by simp;omega)];rw [←z]
    congr 1
    have:=BB off F 0 us (by omega);simp only [Nat.add_zero]at this;rw [←this];simp [←Array.foldl_toList]
   ·simp at b
  ·simp at b
theorem eH{t:TypeId}{zs:List FC}(h:lN Q t zs=ae)(w:World):∃ z us,(zeroValue t).run Q w=.ok z w∧z.cells=us.toArray∧A2 (CR σ X) (zs.map .f) us ∧
  ∃ i,Q.info? t=aa i∧i.zero=aa z:=by
 unfold lN at h;cases hi:Q.info? t with
 | none=>simp [hi]at h
 | some i=>
  simp only [hi,Option.any_some]at h;split at h
  ·rename_i z d;refine⟨z,z.cells.toList,by simp [zeroValue,typeInfo,hi,d],by simp,A2.map ((ez h).lP fun x u b=>DY b),i,rfl,d⟩
  ·simp at h
end
section
variable{Q:Program}{σ:Nat→FuncId}{X:Wd}
theorem lZ{b:CK}{t:TypeId}(h:L6 Q b t=ae):(b=.int∧∃ j,Q.underlying t=aa (.int j))∨(b=.str∧Q.underlying t=aa .string)∨(b=.bool∧Q.underlying t=aa .bool):=by
 unfold L6 at h;split at h
 ·exact .inl ⟨rfl,_,by assumption⟩
 ·exact .inr (.inl ⟨rfl,by assumption⟩)
 ·exact .inr (.inr ⟨rfl,by assumption⟩)
 ·simp at h
theorem uJ{l:CK}{d:TypeDesc}(m:(l=.int∧∃ j,d=.int j)∨(l=.str∧d=.string)∨(l=.bool∧d=.bool)){F:Nat→Nat→Prop}{w:World}{x y:FC}{u v:Value}
  (q:cH σ F w x u) (s:cH σ F w y v) {b:Bool} (h:eqK l x y=aa b):Instr.sameNow d u v=aa b:=by
 unfold eqK at h;split at h
 ·cases q;cases s;rcases m with⟨_,j,rfl⟩ | ⟨g,_⟩ | ⟨g,_⟩
  ·simpa [Instr.sameNow]using h
  ·cases g
  ·cases g
 ·cases q;cases s;rcases m with⟨g,_⟩ | ⟨_,rfl⟩ | ⟨g,_⟩
  ·cases g
  ·simpa [Instr.sameNow]using h
  ·cases g
 ·cases q;cases s;rcases m with⟨g,_⟩ | ⟨g,_⟩ | ⟨_,rfl⟩
  ·cases g
  ·cases g
  ·simpa [Instr.sameNow]using h
 ·simp at h
theorem xT{l:CK}{d:TypeDesc}(q:(l=.int∧∃ j,d=.int j)∨(l=.str∧d=.string)∨(l=.bool∧d=.bool)){F:Nat→Nat→Prop}{w:World}{k:FC}{B:Value}(v:cH σ F w k B) :
  ∀ {R:C→Value→Prop} {y:List (FC × C)} {b:List MapEntry},A2 (fun e m=>cH σ F w e.1 m.key∧R e.2 m.val) y b→∀ {r:Option C} (i:Nat),nE l k y=aa r →
  match r with
  | none=>Instr.findNow d B b i=aa ab| some x=>∃ j u,Instr.findNow d B b i=aa (aa (j,u))∧R x u
 | _,[],[],_,r,i,h=>by
  simp only [nE,sh]at h;subst h;rfl
 | _,[],_::_,g,_,_,_=>by have:=g.len;simp at this
 | _,_::_,[],g,_,_,_=>by have:=g.len;simp at this
 | _,e::y,m::b,g,r,i,h=>by
  obtain⟨⟨z,E⟩,A⟩:=g.of_cons;simp only [nE]at h;split at h
  ·rename_i s;simp only [sh]at h;subst h;exact⟨i,m.val,by simp [Instr.findNow,uJ q v z s],E⟩
  ·rename_i s;have:=xT q v A (i+1) h;cases r with
   | none=>simpa [Instr.findNow,uJ q v z s]using this| some x=>obtain⟨j,u,H,I⟩:=this;exact⟨j,u,by simp [Instr.findNow,uJ q v z s,H],I⟩
  ·simp at h
theorem iq{l:CK}{t:TypeId}(h:L6 Q l t=ae){k:FC}{F:Nat→Nat→Prop}{q:World}{g:Value}(m:cH σ F q k g)(hi:isKey l k=ae)(b:Bool)(w:World) :
  (Instr.checkKey b 10000 t g).run Q w=.ok () w:=by
 have:∀ n,(Instr.checkKey b (n+1) t g).run Q w=.ok () w:=by
  intro n;rcases lZ h with⟨rfl,j,d⟩ | ⟨rfl,d⟩ | ⟨rfl,d⟩<;>cases m<;>simp_all [isKey,Instr.checkKey,bj d]
 exact this 9999
theorem DT{z:FC}{r:Option C}{u:Value}{g:Bool}(b:g=(s_ z).isSome)(h:gU σ X ((r.map mV).getD (zV ((s_ z).getD z))) u):VR σ X (lkR z r) (if g=ae then .tuple #[u,.bool r.isSome]else u):=by
 unfold lkR;cases d:s_ z with
 | none=>rw [d]at h b;subst b;exact VR.ZS σ h| some z0=>rw [d]at h b;subst b;exact⟨[u,.bool r.isSome],rfl,A2.cons h (A2.cons (cH.bool _) A2.nil)⟩
theorem L2(hS:SR Q σ X){t kt e:TypeId}{K:CK}(Z:Q.underlying t=aa (.map kt e))(M:L6 Q K kt=ae){z:FC}{J:Bool}(H:J=(s_ z).isSome)(hz:lN Q e (su ((s_ z).getD z))=ae)
  (l:(Q.info? e).any (fun i=>i.zero.any fun u=>if E0 ((s_ z).getD z)then ahm u else aim u)=ae) {m k:V} {um uk:Value} (hm:VR σ X m um) (s:VR σ X k uk) {v:V} (h:gv X.H K z m k=aa v) :
  ∃ u,(Instr.lookup t um uk J).run Q X.w=.ok u X.w∧VR σ X v u:=by
 obtain⟨I,zs,N,A,B,i0,W,Y⟩:=eH (σ:=σ) (X:=X) hz X.w;have O:gU σ X (zV ((s_ z).getD z)) I:=by
  simp only [W,Option.any_some,Y]at l;generalize (s_ z).getD z=z0 at *;cases S:E0 z0 with
  | true=>
   rw [aj8 S];simp only [S,if_true]at l;cases I with
   | agg cs=>exact⟨zs,by simp only [Value.cells]at A;rw [A],B⟩
   | _=>simp [ahm]at l
  | false=>
   obtain⟨e1,e2⟩:=aj9 S;rw [e1];rw [e2]at B;simp only [S,arQ,if_false]at l;obtain⟨u,a8,a9⟩:=B.get (i:=0) (x:=.f z0) rfl;have hl:=B.len;have a_:zs=[u]:=by
    match zs,hl,a8 with
    | [y],_,h=>simp at h;rw [h]
   subst a_;cases I with
   | agg cs=>simp [aim]at l| _=>simp only [Value.cells]at A;have:=congrArg Array.toList A;simp at this;subst this;exact a9
 unfold gv at h;split at h
 ·rename_i kc;split at h
  ·rename_i q;simp only [sh]at h;subst h;cases (hm:cH σ X.F X.w .v_ um);refine⟨if J=ae then .tuple #[I,.bool ag]else I,?_,DT (r:=ab) H O⟩;rcases lZ M with⟨_,j,g⟩ | ⟨_,g⟩ | ⟨_,g⟩ <;>
    simp [Instr.lookup,bj Z,iq M s q,Instr.findKey,bj g,Instr.findNow,N]
  ·simp at h
 ·rename_i b kc;split at h
  ·rename_i es hb;split at h
   ·rename_i q;simp only [IN]at h;obtain⟨r,hr,rfl⟩:=h;obtain⟨L,hL,_,rfl⟩:=hm;obtain⟨_,_,bu,F,U⟩:=hS.br b L hL;rw [hb]at F;simp only [sh]at F;subst F;obtain⟨b9,h1,h2,_⟩:=U;have go:∀ d,Q.underlying kt=aa d→((K=.int∧∃ j,d=.int j)∨(K=.str∧d=.string)∨(K=.bool∧d=.bool))→∃ u,(Instr.lookup t (.map (aa L.c)) uk J).run Q X.w=.ok u X.w∧VR σ X (lkR z r) u:=by
     intro d g hd;have h3:=xT (R:=fun c u=>gU σ X (mV c) u) hd s h2 0 hr;cases r with
     | none=>
      refine⟨if J=ae then .tuple #[I,.bool ag]else I,?_,DT (r:=ab) H O⟩;simp [Instr.lookup,bj Z,getObj,Sem.run,h1,iq M s q,Instr.findKey,bj g,h3,N]
     | some x=>
      obtain⟨j,u,E,h5⟩:=h3;refine⟨if J=ae then .tuple #[u,.bool ae]else u,?_,DT (r:=aa x) H h5⟩;simp [Instr.lookup,bj Z,getObj,Sem.run,h1,iq M s q,Instr.findKey,bj g,E]
    rcases lZ M with⟨E,j,g⟩ | ⟨E,g⟩ | ⟨E,g⟩
    ·exact go _ g (.inl ⟨E,j,rfl⟩)
    ·exact go _ g (.inr (.inl ⟨E,rfl⟩))
    ·exact go _ g (.inr (.inr ⟨E,rfl⟩))
   ·simp at h
  ·simp at h
 ·simp at h
end
section
variable{Q:Program}{σ:Nat→FuncId}{X:Wd}
theorem eb{s:Sem Value}{u:Value}{w w':World}(h:s.run Q w=.ok u w'):(do pure (Next.value (←s)):Sem Next).run Q w=.ok (.value u) w':=by simp [h]
theorem sv{a:Act}{aA:T}(b:RR σ X aA a.tmps){x:Option Arg}{y:Option Operand}(h:mO σ x y=ae):OR X σ (x.map (·.ev aA)) (y.map a.eval):=by
 rcases amb b h with⟨rfl,rfl⟩ | ⟨g,j,rfl,rfl,d⟩
 ·trivial
 ·exact d
theorem gY{t:TypeId}{p:TypeId→Bool}(h:(ns Q t).any p=ae):∃ e,Q.underlying t=aa (.slice e)∧p e=ae:=by
 unfold ns at h;split at h
 ·exact⟨_,by assumption,by simpa using h⟩
 ·simp at h
theorem iF{x:C}{u:Value}(b:CR σ X x u){l:Nat}(h:bH X.H x=aa l):∃ a c,u=.slice a l c:=by
 unfold bH at h;split at h<;>try simp only [sh,reduceCtorEq]at h
 ·simp only [CR,fD]at b;split at h
  ·rename_i d;rw [d]at b;obtain⟨L,_,_,rfl⟩:=b;simp only [sh]at h;subst h;exact⟨_,_,rfl⟩
  ·rename_i s cs j e st d;rw [d]at b;split at h
   ·rename_i g;have:=b.2.1 g.1 g.2;simp only [sh]at h;subst h;cases st with
    | loc=>obtain⟨L,_,k,_,_,rfl⟩:=this;exact⟨_,_,rfl⟩
    | nil=>obtain⟨_,rfl,rfl⟩:=this;exact⟨_,_,rfl⟩
    | es=>obtain⟨_,rfl,a,rfl⟩:=this;exact⟨_,_,rfl⟩
   ·simp at h
  ·simp at h
 ·subst h;cases (b:cH σ X.F X.w .aF u);exact⟨_,_,rfl⟩
 ·subst h;cases (b:cH σ X.F X.w .es u);exact⟨_,_,rfl⟩
 ·subst h;cases (b:cH σ X.F X.w (.fs _ _) u)<;>exact⟨_,_,rfl⟩
theorem mr(J:SR Q σ X){sz:Nat}{x:C}{u:Value}(y:CR σ X x u){l:Nat}(m:bH X.H x=aa l){cs:List C}(h:cO X.H sz x=aa cs) :
  ∃ us,(Builtin.firstCells sz l u).run Q X.w=.ok us.toArray X.w∧A2 (CR σ X) cs us∧cs.length=l*sz:=by
 have row:∀(c o:Nat) (us:List Value) (cap:Nat),us.length=l*sz→(∀(i:Nat) u,us[i]?=aa u→X.w.cell? ⟨c,o+i,ab⟩=aa u) →
   (Builtin.firstCells sz l (.slice (aa ⟨c,o,ab⟩) l cap)).run Q X.w=.ok us.toArray X.w:=by
  intro c o us cap g F;have:=run_loadCells_list (P:=Q) X.w ⟨c,o,ab⟩ us (fun j v N=>by rw [eg];exact F j v N);rw [g]at this;simpa [Builtin.firstCells]using this
 unfold cO at h;split at h<;>try simp only [reduceCtorEq]at h
 ·rename_i b o H cap S s;simp only [CR,fD]at y;simp only [bH]at m;split at h
  ·rename_i cs' M E;rw [E]at y m;simp only [sh]at m;subst m;obtain⟨L,I,_,rfl⟩:=y;split at h
   ·rename_i q;simp only [sh]at h;subst h;obtain⟨_,_,bu,d,z⟩:=J.br b L I;rw [E]at d;simp only [sh]at d;subst d;obtain⟨us,hr,B,_⟩:=z;have:=B.len;refine⟨(us.drop o).take (H*sz),row _ _ _ _ (by simp;omega) (fun i u g=>?_),(B.drop o).take _,by simp;omega⟩;rw [dd hr];rw [asb]at g;split at g
    ·rw [arV]at g;exact g
    ·simp at g
   ·simp at h
  ·rename_i s' cs' M e st E;rw [E]at y m;split at h
   ·rename_i F;obtain⟨rfl,rfl,q⟩:=F;simp only [and_self,if_true,sh]at m;subst m;simp only [sh]at h;subst h;have A:=y.2.1 rfl rfl;cases st with
    | loc=>
     obtain⟨L,I,k,_,_,rfl⟩:=A;obtain⟨_,_,bu,d,z⟩:=J.br b L I;rw [E]at d;simp only [sh]at d;subst d;obtain⟨_,us,rest,hr,B,_⟩:=z;have:=B.len;refine⟨(us.drop o).take (H*sz),row _ _ _ _ (by simp;omega) (fun i u g=>?_),(B.drop o).take _,by simp;omega⟩;rw [dd hr];rw [asb]at g;split at g
     ·rw [arV]at g;rw [At (By.1 g).1];exact g
     ·simp at g
    | nil=>
     obtain⟨rfl,rfl,rfl⟩:=A;exact⟨[],by simp [Builtin.firstCells],by simpa using A2.nil,by simp⟩
    | es=>
     obtain⟨rfl,rfl,a,rfl⟩:=A;exact⟨[],by simp [Builtin.firstCells,loadCells,loadCellsFrom],by simpa using A2.nil,by simp⟩
   ·simp at h
  ·simp at h
 ·simp only [sh]at h;subst h;simp only [bH,sh]at m;subst m;cases (y:cH σ X.F X.w .aF u);exact⟨[],by simp [Builtin.firstCells],A2.nil,by simp⟩
 ·simp only [sh]at h;subst h;simp only [bH,sh]at m;subst m;cases (y:cH σ X.F X.w .es u);exact⟨[],by simp [Builtin.firstCells,loadCells,loadCellsFrom],A2.nil,by simp⟩
 ·rename_i cs' H;simp only [bH,sh]at m;subst m;split at h
  ·rename_i q;simp only [sh]at h;subst h;cases (y:cH σ X.F X.w (.fs cs' H) u)with
   | fs _ _ c o cap us K O U F hr=>
    exact⟨us,row _ _ _ _ (by omega) F,A2.map ⟨by omega,hr⟩,by simp;omega⟩
   | fs0 a cap=>exact⟨[],by simp [Builtin.firstCells,loadCells,loadCellsFrom],A2.nil,by simp⟩
  ·simp at h
theorem adi{v:V}{u:Value}(h:VR σ X v u){c:C}(l:sX v=aa c):fD σ X c u:=by
 unfold sX at l;split at l
 ·simp at l
 ·simp at l
 ·rename_i x q m;simp only [sh]at l;subst l;cases x with
  | cl f j=>exact absurd rfl (q f j)| bm f j=>exact absurd rfl (m f j)| mi b=>exact h| f y=>exact h| ptr a b c=>exact h| sl a b c d e g=>exact h| yl b=>exact h| mp b=>exact h| it b=>exact h
 ·simp at l
theorem Bl{xs:List V}{us:List Value}(h:A2 (VR σ X) xs us){cs:List C}(b:ba sX xs=aa cs):A2 (fD σ X) cs us:=by
 induction xs generalizing us cs with
 | nil=>
  simp only [ba,sh]at b;subst b
  match us,h.len with
  | [],_=>exact A2.nil
 | cons x xs m=>
  match us,h with
  | u::us,h=>
   obtain⟨g,j⟩:=h.of_cons;simp only [ba]at b;split at b
   ·simp at b
   ·rename_i y l;split at b
    ·simp at b
    ·rename_i ys d;simp only [sh]at b;subst b;exact A2.cons (adi g l) (m j d)
  | [],h=>have:=h.len;simp at this
theorem df{d:Operand→Value}{o:Oper}{c:Call}{b:Builtin}(j:o.op=.call c)(g:c.callee=.builtin b){r:Result Next}{w:World}
  (h:∀ cs,(builtin b c.argTypes o.type cs (c.args.map d)).run Q w=r):(execOp d o).run Q w=r:=by
 simp only [execOp,j,resolve,g,Sem.run_bind,Sem.run_pure,Result.andThen_ok,invoke];exact h _
theorem vU{α:Type}{a:Array α}{x:α}(h:a.toList=[x]):a=#[x]:=by
 apply Array.ext';simp [h]
theorem ada{α:Type}{a:Array α}{x y:α}(h:a.toList=[x,y]):a=#[x,y]:=by
 apply Array.ext';simp [h]
theorem L5{c:Call}{x:Arg}(h:dL Q σ c (.len x)=ae):∃ y t e,c.callee=.builtin .len∧c.args=#[y]∧c.argTypes=#[t]∧mA σ x y=ae∧Q.underlying t=aa (.slice e):=by
 simp only [dL]at h;split at h
 ·rename_i y t b d g;simp only [BY]at h;have:=h.2;split at this
  ·exact⟨y,t,_,b,vU d,vU g,h.1,by assumption⟩
  ·simp at this
 ·simp at h
theorem DW{c:Call}{x:Arg}(h:dL Q σ c (.lens x)=ae):∃ y t,c.callee=.builtin .len∧c.args=#[y]∧c.argTypes=#[t]∧mA σ x y=ae∧Q.underlying t=aa .string:=by
 simp only [dL]at h;split at h
 ·rename_i y t b d g;simp only [BY]at h;have:=h.2;split at this
  ·exact⟨y,t,b,vU d,vU g,h.1,by assumption⟩
  ·simp at this
 ·simp at h
theorem DV{c:Call}{n:Nat}(h:dL Q σ c (.uW n)=ae):∃ y t e,c.callee=.builtin .len∧c.args=#[y]∧c.argTypes=#[t]∧Q.underlying t=aa (.array n e):=by
 simp only [dL]at h;split at h
 ·rename_i y t b d g;split at h
  ·rename_i m e j;simp only [decide_eq_true_eq]at h;subst h;exact⟨y,t,e,b,vU d,vU g,j⟩
  ·simp at h
 ·simp at h
theorem DX{c:Call}{lo:Bool}{xs:List Arg}(h:dL Q σ c (.mP lo xs)=ae):c.callee=.builtin (if lo then .min else .max)∧ZP σ xs c.args=ae:=by
 simp only [dL]at h;split at h
 ·rename_i b;exact⟨b,h⟩
 ·rename_i b;exact⟨b,h⟩
 ·simp at h
theorem X9{lo:Bool}{x y z:V}{u v:Value}(b:VR σ X x u)(d:VR σ X y v)(h:FN lo x y=aa z)(w:World):∃ r,(if lo then Builtin.min2 u v else Builtin.max2 u v).run Q w=.ok r w∧VR σ X z r:=by
 unfold FN at h;split at h
 ·simp only [sh]at h;subst h;have b:=VR.int b;have d:=VR.int d;subst b;subst d;cases lo
  ·exact⟨_,by simp [Builtin.max2],VR.mkInt _ _⟩
  ·exact⟨_,by simp [Builtin.min2],VR.mkInt _ _⟩
 ·simp at h
theorem BP{lo:Bool}(w:World):∀ {ys:List V} {d:List Value} {x z:V} {u:Value},VR σ X x u→A2 (VR σ X) ys d→xR lo x ys=aa z→∃ r,(d.foldlM (fun u v=>if lo then Builtin.min2 u v else Builtin.max2 u v) u).run Q w=.ok r w∧VR σ X z r
 | [],d,x,z,u,g,b,h=>by
  have:d=[]:=anc b.len.symm;subst this;simp only [xR,sh]at h;subst h;exact⟨u,rfl,g⟩
 | y::ys,[],x,z,u,g,b,h=>by have:=b.len;simp at this
 | y::ys,v::d,x,z,u,g,b,h=>by
  obtain⟨A,b⟩:=b.of_cons;simp only [xR]at h;split at h
  ·rename_i q B;obtain⟨r1,j,l⟩:=X9 (Q:=Q) g A B w;obtain⟨r,m,s⟩:=BP w l b h;exact⟨r,by rw [List.foldlM_cons,Sem.run_bind,j];exact m,s⟩
  ·simp at h
theorem L4{c:Call}{x:Arg}(h:dL Q σ c (.cap x)=ae):∃ y t e,c.callee=.builtin .cap∧c.args=#[y]∧c.argTypes=#[t]∧mA σ x y=ae∧Q.underlying t=aa (.slice e):=by
 simp only [dL]at h;split at h
 ·rename_i y t g j l;simp only [BY]at h;obtain⟨m,d⟩:=h;split at d
  ·rename_i e b;exact⟨y,t,e,g,vU j,vU l,m,b⟩
  ·simp at d
 ·simp at h
theorem Zh{x:C}{u:Value}(d:CR σ X x u){n:Nat}(h:mH X.H x=aa n):∃ a l,u=.slice a l n:=by
 cases x with
 | sl b o l c m sz=>
  simp only [mH]at h;simp only [CR,fD]at d;split at h
  ·rename_i g;rw [g]at d;obtain⟨L,_,_,rfl⟩:=d;simp only [sh]at h;subst h;exact⟨_,_,rfl⟩
  ·rename_i g;rw [g]at d;split at h
   ·rename_i j;have:=d.2.1 j.1 j.2;simp only [sh]at h;subst h;obtain⟨_,_,rfl⟩:=this;exact⟨_,_,rfl⟩
   ·simp at h
  ·rename_i g;rw [g]at d;split at h
   ·rename_i j;have:=d.2.1 j.1 j.2;simp only [sh]at h;subst h;obtain⟨_,_,a,rfl⟩:=this;exact⟨_,_,rfl⟩
   ·simp at h
  ·simp at h
 | f y=>
  cases y<;>simp only [mH,sh,reduceCtorEq]at h
  ·subst h;cases (d:cH σ X.F X.w .aF u);exact⟨_,_,rfl⟩
  ·subst h;cases (d:cH σ X.F X.w .es u);exact⟨_,_,rfl⟩
 | _=>simp [mH]at h
theorem FM(v:SR Q σ X){m:Nat}{L:Loc}(u:X.cr m=aa L){e:FC × C}(x:X.H[m]?=aa (.map [e])):∃ d:MapEntry,X.w.heap[L.c]?=aa (.map #[d] 1)∧cH σ X.F X.w e.1 d.key∧gU σ X (mV e.2) d.val∧d.born=0:=by
 obtain⟨_,_,bu,g,l⟩:=v.br m L u;rw [x]at g;cases g;obtain⟨j,q,b,s⟩:=l
 match j,b with
 | [d],b=>exact⟨d,q,b.of_cons.1.1,b.of_cons.1.2,s 0 d rfl⟩| [],b=>have:=b.len;simp at this| _::_::_,b=>have:=b.len;simp at this
theorem Lt(q:SR Q σ X){x:V}{u:Value}(K:VR σ X x u){v:V}(h:lW X.H x=aa v):∃ r,(Instr.entry u).run Q X.w=.ok r X.w∧VR σ X v r:=by
 unfold lW at h;split at h
 ·rename_i b;obtain⟨L,H,_,rfl⟩:=K;split at h
  ·rename_i m s I;split at h
   ·rename_i e J;simp only [sh]at h;subst h;obtain⟨_,_,bu,d,j⟩:=q.br b L H;rw [I]at d;cases d;obtain⟨M,N,st,E,_,F,l⟩:=j;simp only [if_true]at l;obtain⟨rfl,rfl⟩:=l;obtain⟨g,y,z,A,B⟩:=FM q E J;refine⟨.tuple #[g.key,g.val],?_,[g.key,g.val],rfl,A2.cons z (A2.cons A A2.nil)⟩;simp [Instr.entry,getObj,Sem.run,F,y,B,Result.andThen]
   ·simp at h
  ·simp at h
 ·simp at h
theorem Bq:∀ {cs:List C} {us:List Value} {d:List UInt8},A2 (CR σ X) cs us→ba (fun c=>match c with | C.f (.int .u8 n)=>aa (UInt8.ofNat n.toNat) | _=>ab) cs=aa d →
  ∃ j:List Int,us=j.map (Value.int .u8)∧d=j.map fun n=>UInt8.ofNat n.toNat
 | [],us,d,h,b=>by
  simp only [ba,sh]at b;subst b
  match us,h.len with
  | [],_=>exact⟨[],rfl,rfl⟩
 | c::cs,[],d,h,b=>by have:=h.len;simp at this
 | c::cs,u::us,d,h,b=>by
  obtain⟨m,q⟩:=h.of_cons;simp only [ba]at b;split at b
  ·simp at b
  ·rename_i y g;split at b
   ·simp at b
   ·rename_i ys l;simp only [sh]at b;subst b;obtain⟨j,rfl,rfl⟩:=Bq q l;split at g
    ·rename_i n;simp only [sh]at g;subst g;cases (m:cH σ X.F X.w (.int .u8 n) u);exact⟨n::j,rfl,rfl⟩
    ·simp at g
theorem foldl_push:∀(b:List Int) (s:ByteArray),b.foldl (fun(r:ByteArray) n=>r.push (UInt8.ofNat n.toNat)) s=⟨s.data++(b.map fun n=>UInt8.ofNat n.toNat).toArray⟩
 | [],s=>by simp
 | n::b,s=>by
  rw [asL,foldl_push b]
  congr 1
  simp [ByteArray.push]
theorem Xq(s:SR Q σ X){x:V}{u:Value}(m:VR σ X x u){v:V}(h:oO X.H x=aa v):∃ r,(Conv.bytesToString u).run Q X.w=.ok r X.w∧VR σ X v r:=by
 unfold oO at h;split at h
 ·rename_i x;split at h
  ·rename_i l j;split at h
   ·rename_i cs g;simp only [IN]at h;obtain⟨z,y,rfl⟩:=h;obtain⟨us,d,q,A⟩:=mr s m j g;obtain⟨ad,c,rfl⟩:=iF m j;obtain⟨b,rfl,rfl⟩:=Bq q y;refine⟨.string (b.foldl (fun(r:ByteArray) n=>r.push (UInt8.ofNat n.toNat)) ByteArray.empty),?_,?_⟩
    ·cases ad with
     | none=>
      simp only [Builtin.firstCells,Sem.run_pure,Result.ok.injEq,and_true]at d;have:b=[]:=by
       have:=congrArg Array.toList d;simpa using this.symm
      subst this;simp only [Conv.bytesToString,List.foldl_nil,List.map_nil,Sem.run_pure]
     | some ad=>exact run_bytesToString X.w ad l c b (by simpa [Builtin.firstCells]using d)
    ·rw [foldl_push];rw [show(ByteArray.empty.data++(List.map (fun n:Int=>UInt8.ofNat n.toNat) b).toArray)=(List.map (fun n:Int=>UInt8.ofNat n.toNat) b).toArray from Array.empty_append];exact VR.mkStr _
   ·simp at h
  ·simp at h
 ·simp at h
theorem agB(hS:SR Q σ X){a:Act}{aA:T}(H:RR σ X aA a.tmps){o:Oper}{op:cP}(A:dD Q σ o op=ae)(hc:cls op=.p∨cls op=.r)(d5:op.fsl=ag){v:V}{H':aj}
  (h:bz aA X.H op=aa (v,H')):H'=X.H∧∃ u,(execOp a.eval o).run Q X.w=.ok (.value u) X.w∧VR σ X v u:=by
 cases op<;>first | (simp only [cls,reduceCtorEq,or_self]at hc;done) | (simp [cP.fsl]at d5;done) | clear d5
 case bJ x=>
  simp only [bz,sh,IS]at h;obtain⟨rfl,rfl⟩:=h;refine⟨rfl,?_⟩;simp only [dD]at A;split at A
  ·rename_i y E;exact⟨_,by simp [execOp,E],bN H A⟩
  ·rename_i y E;exact⟨_,by simp [execOp,E],bN H A⟩
  ·simp at A
 case pick c x y=>
  simp only [dD]at A;split at A
  ·rename_i c' x' y' E;simp only [BY]at A;simp only [bz]at h;have b9:=bN H A.1.1;split at h
   ·rename_i b Z;rw [Z]at b9;have b9:=VR.bool b9;simp only [sh,IS]at h;obtain⟨rfl,rfl⟩:=h;cases b
    ·exact⟨rfl,_,by simp [execOp,E,b9,asBool],bN H A.2⟩
    ·exact⟨rfl,_,by simp [execOp,E,b9,asBool],bN H A.1.2⟩
   ·simp at h
  ·simp at A
 case build zs qs=>
  simp only [dD]at A;split at A
  ·rename_i t ps E;simp only [BY]at A;simp only [bz,IN,IS]at h;obtain⟨cs,a9,rfl,rfl⟩:=h;obtain⟨z,us,h_,i_,j7,_⟩:=eH (σ:=σ) (X:=X) A.1 X.w;refine⟨rfl,?_⟩;have Z:=A.2;unfold X4 at Z;split at Z
   ·rename_i fs K;split at Z
    ·rename_i pl l9;obtain⟨c9,N,h6⟩:=od (place:=(pl.toArray[·]?)) H ((ez Z).lP fun q p W=>by
      simp only [BY,decide_eq_true_eq]at W;exact⟨by simpa using W.1,W.2⟩) j7 a9
     refine⟨.agg c9.toArray,?_,c9,rfl,h6⟩;have hp:=run_places (P:=Q) X.w fs.toList pl l9;simp only [execOp,E];refine eb ?_;simp [Instr.build,h_,bj K,Array.mapM_eq_mapM_toList,hp,i_];simp at N;simp [N]
    ·simp at Z
   ·rename_i n e K;split at Z
    ·rename_i j8 hi;obtain⟨c9,N,h6⟩:=od (place:=fun i=>aa (i*j8.size,j8.size)) H ((ez Z).lP fun q p W=>by
      simp only [BY,beq_iff_eq]at W;exact⟨by rw [W.1.2,W.1.1],W.2⟩) j7 a9
     refine⟨.agg c9.toArray,?_,c9,rfl,h6⟩;simp only [execOp,E];refine eb ?_;simp [Instr.build,h_,bj K,Go.sizeOf,typeInfo,hi,i_,N]
    ·simp at Z
   ·simp at Z
  ·simp at A
 case load k x=>
  simp only [dD]at A;split at A
  ·rename_i t y E;simp only [BY]at A;simp only [bz,IN,IS]at h;obtain⟨v',F,rfl,rfl⟩:=h;obtain⟨u,J,M⟩:=ah8 hS A.1 (bN H A.2) F;exact⟨rfl,u,by simp only [execOp,E];exact eb J,M⟩
  ·simp at A
 case bD x=>
  simp only [dD]at A;split at A
  ·rename_i y E;have B:=bN H A;simp only [bz]at h;have d6:∀ ad,a.eval y=.pointer (aa ad)→(execOp a.eval o).run Q X.w=.ok (.value (a.eval y)) X.w:=by
    intro ad a_;simp [execOp,E,a_]
   split at h
   ·rename_i b off e Z;simp only [sh,IS]at h;obtain⟨rfl,rfl⟩:=h;rw [Z]at B;have d3:=B;obtain⟨L,hL,B⟩:=B;split at B
    ·exact⟨rfl,_,d6 _ B,d3⟩
    ·obtain⟨_,_,ad,a_⟩:=B;exact⟨rfl,_,d6 _ a_,d3⟩
    ·exact B.elim
   ·rename_i cs off Z;simp only [sh,IS]at h;obtain⟨rfl,rfl⟩:=h;rw [Z]at B;have d3:=B;have:∃ ad,a.eval y=.pointer (aa ad):=by
     generalize a.eval y=u at B;cases (B:cH σ X.F X.w (.fp cs off) u);exact⟨_,rfl⟩
    obtain⟨ad,a_⟩:=this;exact⟨rfl,_,d6 _ a_,d3⟩
   ·simp at h
  ·simp at A
 case bin op x y=>
  simp only [dD]at A;split at A
  ·rename_i j_ t x' y' yt E;simp only [BY,decide_eq_true_eq]at A;obtain⟨⟨rfl,B⟩,S⟩:=A;simp only [bz,IN,IS]at h;obtain⟨v',F,rfl,rfl⟩:=h;have B:=bN H B;have S:=bN H S;refine⟨rfl,?_⟩;have guard:∀ op,(∀ xs,a.eval x'≠.agg xs)→a.eval x'≠.nilIface→(eqGuard op t x' y' (a.eval x') (a.eval y')).run Q X.w=.ok () X.w:=by
    intro op J M;cases op<;>simp [eqGuard]<;>(generalize a.eval x'=ux at *;cases ux<;>simp at J M ⊢)
   unfold bS at F;split at F
   ·rename_i k n k' m J M;rw [J]at B;rw [M]at S;have B:=VR.int B;have S:=VR.int S;split at F
    ·simp at F
    ·rename_i A;simp only [sh]at F;subst F;exact⟨_,by simp only [execOp,E];refine eb ?_;rw [Sem.run_bind,guard _ (by simp [B]) (by simp [B])];simp [B,S,binOp,Op.shift,A],VR.mkInt _ _⟩
   ·rename_i k n k' m J M;rw [J]at B;rw [M]at S;have B:=VR.int B;have S:=VR.int S;split at F
    ·simp at F
    ·rename_i A;simp only [sh]at F;subst F;exact⟨_,by simp only [execOp,E];refine eb ?_;rw [Sem.run_bind,guard _ (by simp [B]) (by simp [B])];simp [B,S,binOp,Op.shift,A],VR.mkInt _ _⟩
   ·rename_i k n k' m _ _ J M;rw [J]at B;rw [M]at S;have B:=VR.int B;have S:=VR.int S;split at F
    ·rename_i hk;subst hk;obtain⟨u,Y,O,N⟩:=adb (Q:=Q) (σ:=σ) (X:=X) F X.w;exact⟨u,by simp only [execOp,E];refine eb ?_;rw [Sem.run_bind,guard _ (by simp [B]) (by simp [B])];simp [B,S,N,Y],O⟩
    ·simp at F
   ·rename_i s1 s2 J M;rw [J]at B;rw [M]at S;have B:=VR.str B;have S:=VR.str S;obtain⟨u,Y,O⟩:=adf (Q:=Q) (σ:=σ) (X:=X) F X.w t;exact⟨u,by simp only [execOp,E];refine eb ?_;rw [Sem.run_bind,guard _ (by simp [B]) (by simp [B])];simp [B,S,Y],O⟩
   ·simp at F
  ·simp at A
 case eq neg k x y=>
  simp only [dD]at A;split at A
  ·rename_i j_ t x' y' yt E;simp only [BY,decide_eq_true_eq]at A;obtain⟨⟨⟨rfl,B⟩,S⟩,hk⟩:=A;simp only [bz,IN,IS]at h;obtain⟨b,F,rfl,rfl⟩:=h;refine⟨rfl,_,?_,VR.u4 _⟩;simp only [execOp,E];exact eb (ahI hk (bN H B) (bN H S) F neg X.w)
  ·simp at A
 case un op x=>
  simp only [dD]at A;split at A
  ·rename_i j_ t y E;simp only [BY,decide_eq_true_eq]at A;obtain⟨rfl,B⟩:=A;simp only [bz,IN,IS]at h;obtain⟨v',F,rfl,rfl⟩:=h;have B:=bN H B;refine⟨rfl,?_⟩;unfold unV at F;split at F
   ·rename_i k n J;rw [J]at B;have B:=VR.int B;simp only [sh]at F;subst F;exact⟨_,by simp [execOp,E,B,Op.unary,Op.intArith],VR.mkInt _ _⟩
   ·rename_i b J;rw [J]at B;have B:=VR.bool B;simp only [sh]at F;subst F;exact⟨_,by simp [execOp,E,B,Op.unary],VR.u4 _⟩
   ·simp at F
  ·simp at A
 case fA k x=>
  simp only [dD]at A;split at A
  ·rename_i s d y E;simp only [BY]at A;obtain⟨⟨B,hs⟩,hd⟩:=A;have B:=bN H B;simp only [bz]at h;split at h
   ·rename_i q n J;rw [J]at B;have B:=VR.int B;simp only [sh,IS]at h;obtain⟨rfl,rfl⟩:=h;split at hd
    ·rename_i k' K;simp only [decide_eq_true_eq]at hd;subst hd;obtain⟨ds,k_⟩:=Option.isSome_iff_exists.1 hs;exact⟨rfl,_,by simp only [execOp,E];refine eb ?_;simp [convert,bj k_,bj K,B,Conv.intToInt],VR.mkInt _ _⟩
    ·simp at hd
   ·simp at h
  ·simp at A
 case y6 x=>
  simp only [dD]at A;split at A
  ·rename_i s d y E;simp only [BY]at A;obtain⟨B,hd⟩:=A;have B:=bN H B;simp only [bz]at h;split at h
   ·rename_i q J;rw [J]at B;have B:=VR.str B;simp only [sh,IS]at h;obtain⟨rfl,rfl⟩:=h;split at hd
    ·rename_i d9 d_;exact⟨rfl,_,by simp only [execOp,E];refine eb ?_;simp [convert,bj d9,bj d_,B],VR.mkStr _⟩
    ·simp at hd
   ·simp at h
  ·simp at A
 case lG f xs=>
  simp only [dD]at A;split at A
  ·rename_i g fst a8 E;simp only [BY,beq_iff_eq]at A;obtain⟨⟨I,rfl⟩,B⟩:=A;simp only [bz,IN,IS]at h;obtain⟨cs,a9,rfl,rfl⟩:=h;have:=Bl (nB H B) a9;have f_:fst=#[]:=by simpa using I
   exact⟨rfl,.func (.func (σ f)) #[] (a8.map a.eval),by simp only [execOp,E,Instr.makeFunc,f_];exact eb (by simp),(a8.map a.eval).toList,congrArg _ Array.toArray_toList.symm,this⟩
  ·simp at A
 case slice sz x lo hi mx=>
  simp only [dD]at A;split at A
  ·rename_i t y j9 g_ mx' E;simp only [BY,decide_eq_true_eq]at A;obtain⟨⟨⟨⟨⟨B,J⟩,M⟩,Y⟩,he⟩,hz⟩:=A;obtain⟨e,K,U⟩:=gY he;simp only [bz,IN,IS]at h;obtain⟨v',F,rfl,rfl⟩:=h;obtain⟨r,O,N⟩:=yu K U (bN H B) (sv H J) (sv H M) (sv H Y) F;exact⟨rfl,r,by simp only [execOp,E];exact eb O,N⟩
  ·simp at A
 case oU n sz x lo hi mx=>
  simp only [dD]at A;split at A
  ·rename_i t y j9 g_ mx' E;simp only [BY,decide_eq_true_eq]at A;obtain⟨⟨⟨⟨⟨B,J⟩,M⟩,Y⟩,he⟩,hz⟩:=A;split at he
   ·rename_i n' e K;simp only [BY,beq_iff_eq]at he;obtain⟨rfl,U⟩:=he;simp only [bz,IN,IS]at h;obtain⟨v',F,rfl,rfl⟩:=h;obtain⟨r,O,N⟩:=MC hS K U (bN H B) (sv H J) (sv H M) (sv H Y) F;exact⟨rfl,r,by simp only [execOp,E];exact eb O,N⟩
   ·simp at he
  ·simp at A
 case qH x lo hi=>
  simp only [dD]at A;split at A
  ·rename_i t y j9 g_ E;simp only [BY]at A;obtain⟨⟨⟨B,J⟩,M⟩,he⟩:=A;split at he
   ·rename_i K;simp only [bz,IN,IS]at h;obtain⟨v',F,rfl,rfl⟩:=h;obtain⟨r,O,N⟩:=ME K (bN H B) (sv H J) (sv H M) F X.w;exact⟨rfl,r,by simp only [execOp,E,Option.map_none];exact eb O,N⟩
   ·simp at he
  ·simp at A
 case aD off x=>
  simp only [dD]at A;split at A
  ·rename_i t y i E;simp only [BY]at A;obtain⟨B,I⟩:=A;split at I
   ·rename_i fs K;split at I
    ·rename_i f d7;simp only [BY,beq_iff_eq]at I;obtain⟨rfl,hz⟩:=I;simp only [bz,IN,IS]at h;obtain⟨v',F,rfl,rfl⟩:=h;obtain⟨r,O,N⟩:=DF K d7 hz (bN H B) F X.w;exact⟨rfl,r,by simp only [execOp,E];exact eb O,N⟩
    ·simp at I
   ·simp at I
  ·simp at A
 case field off n x=>
  simp only [dD]at A;split at A
  ·rename_i t y i E;simp only [BY]at A;obtain⟨B,I⟩:=A;split at I
   ·rename_i fs K;split at I
    ·rename_i f d7;simp only [BY,beq_iff_eq]at I;obtain⟨rfl,hz⟩:=I;simp only [bz,IN,IS]at h;obtain⟨v',F,rfl,rfl⟩:=h;obtain⟨r,O,N⟩:=Lw K d7 hz (bN H B) F X.w;exact⟨rfl,r,by simp only [execOp,E];exact eb O,N⟩
    ·simp at I
   ·simp at I
  ·simp at A
 case aW sz e_ x i=>
  simp only [dD]at A;split at A
  ·rename_i t y j E;simp only [BY]at A;obtain⟨⟨B,hi⟩,I⟩:=A;simp only [bz,IN,IS]at h;obtain⟨v',F,rfl,rfl⟩:=h;have:∃ e,di Q e sz=ae∧((e_=ab∧Q.underlying t=aa (.slice e))∨∃ n,e_=aa n∧Q.underlying t=aa (.array n e)):=by
    split at I
    ·rename_i e K;exact⟨e,I,.inl ⟨rfl,K⟩⟩
    ·rename_i n e n' K;simp only [BY,beq_iff_eq]at I;obtain⟨rfl,U⟩:=I;exact⟨e,U,.inr ⟨_,rfl,K⟩⟩
    ·simp at I
   obtain⟨e,U,K⟩:=this;obtain⟨r,O,N⟩:=DO U K (bN H B) (bN H hi) F;exact⟨rfl,r,by simp only [execOp,E];exact eb O,N⟩
  ·simp at A
 case idxs x i=>
  simp only [dD]at A;split at A
  ·rename_i t y j E;simp only [BY]at A;obtain⟨⟨B,hi⟩,I⟩:=A;simp only [bz,IN,IS]at h;obtain⟨v',F,rfl,rfl⟩:=h;split at I
   ·rename_i K;obtain⟨r,O,N⟩:=XL K (bN H B) (bN H hi) F X.w;exact⟨rfl,r,by simp only [execOp,E];exact eb O,N⟩
   ·simp at I
  ·simp at A
 case qd n sz k x i=>
  simp only [dD]at A;split at A
  ·rename_i t y j E;simp only [BY]at A;obtain⟨⟨B,hi⟩,I⟩:=A;simp only [bz,IN,IS]at h;obtain⟨v',F,rfl,rfl⟩:=h;split at I
   ·rename_i n' e K;simp only [BY,beq_iff_eq]at I;obtain⟨⟨rfl,U⟩,hk⟩:=I;obtain⟨r,O,N⟩:=XK K U hk (bN H B) (bN H hi) F X.w;exact⟨rfl,r,by simp only [execOp,E];exact eb O,N⟩
   ·simp at I
  ·simp at A
 case lookup ck z m k=>
  simp only [dD]at A;split at A
  ·rename_i t m' k' ok E;simp only [BY,beq_iff_eq]at A;obtain⟨⟨⟨J,M⟩,l7⟩,I⟩:=A;simp only [bz,IN,IS]at h;obtain⟨v',F,rfl,rfl⟩:=h;split at I
   ·rename_i kt e K;simp only [BY]at I;obtain⟨u,O,N⟩:=L2 hS K I.1.1 l7 I.1.2 I.2 (bN H J) (bN H M) F;exact⟨rfl,u,by simp only [execOp,E];exact eb O,N⟩
   ·simp at I
  ·simp at A
 case extract x i=>
  simp only [dD]at A;split at A
  ·rename_i y j E;simp only [BY,beq_iff_eq]at A;obtain⟨B,rfl⟩:=A;have B:=bN H B;simp only [bz]at h;split at h
   ·rename_i vs m4;rw [m4]at B;simp only [IN,IS]at h;obtain⟨v',F,rfl,rfl⟩:=h;obtain⟨us,c_,M⟩:=B;obtain⟨u,K,m6⟩:=M.get F;exact⟨rfl,u,by simp only [execOp,E];refine eb ?_;simp [Instr.extract,c_,K],VR.ZS σ m6⟩
   ·simp at h
  ·simp at A
 case uW n=>
  simp only [dD]at A;split at A
  ·rename_i c E;obtain⟨y,t,e,J,M,Y,K⟩:=DV A;simp only [bz,sh,IS]at h;obtain⟨rfl,rfl⟩:=h;exact⟨rfl,_,df E J (fun cs=>by simp [builtin,M,Y,Builtin.len_,bj K,goInt]),VR.mkInt _ _⟩
  ·simp at A
 case lens x=>
  simp only [dD]at A;split at A
  ·rename_i c E;obtain⟨y,t,J,M,Y,B,K⟩:=DW A;have B:=bN H B;simp only [bz]at h;split at h
   ·rename_i s hs;rw [hs]at B;have B:=VR.str B;simp only [sh,IS]at h;obtain⟨rfl,rfl⟩:=h;exact⟨rfl,_,df E J (fun cs=>by simp [builtin,M,Y,Builtin.len_,bj K,B,goInt]),VR.mkInt _ _⟩
   ·simp at h
  ·simp at A
 case len x=>
  simp only [dD]at A;split at A
  ·rename_i c E;obtain⟨y,t,e,J,M,Y,B,K⟩:=L5 A;have B:=bN H B;simp only [bz]at h;split at h
   ·rename_i z hz;rw [hz]at B;split at h
    ·rename_i n hn;simp only [sh,IS]at h;obtain⟨rfl,rfl⟩:=h;obtain⟨ad,cp,d8⟩:=iF B hn;exact⟨rfl,_,df E J (fun cs=>by simp [builtin,M,Y,Builtin.len_,bj K,d8,goInt]),VR.mkInt _ _⟩
    ·simp at h
   ·simp at h
  ·simp at A
 case mP lo xs=>
  simp only [dD]at A;split at A
  ·rename_i c E;obtain⟨J,M⟩:=DX A;have hA:=nB H M;simp only [bz,IN,IS]at h;obtain⟨v',F,rfl,rfl⟩:=h;refine⟨rfl,?_⟩;unfold L9 at F;split at F
   ·simp at F
   ·rename_i x ys m7;rw [m7]at hA
    match c_:(c.args.map a.eval).toList,hA with
    | [],hA=>have:=hA.len;simp at this
    | u::us,hA=>
     obtain⟨B,hA⟩:=hA.of_cons;obtain⟨r,g1,g2⟩:=BP (Q:=Q) (lo:=lo) X.w B hA F;refine⟨r,df E J (fun cs=>?_),g2⟩;cases lo
     ·simp only [arQ,if_false]at g1 ⊢;have g1:(us.foldlM Builtin.max2 u).run Q X.w=.ok r X.w:=g1;have b_:List.map a.eval c.args.toList=u::us:=by simpa using c_
      simp [builtin,Builtin.max_,b_,g1]
     ·simp only [if_true]at g1 ⊢;have g1:(us.foldlM Builtin.min2 u).run Q X.w=.ok r X.w:=g1;have b_:List.map a.eval c.args.toList=u::us:=by simpa using c_
      simp [builtin,Builtin.min_,b_,g1]
  ·simp at A
 case cap x=>
  simp only [dD]at A;split at A
  ·rename_i c E;obtain⟨y,t,e,J,M,Y,B,K⟩:=L4 A;have B:=bN H B;simp only [bz]at h;split at h
   ·rename_i z hz;rw [hz]at B;split at h
    ·rename_i n hn;simp only [sh,IS]at h;obtain⟨rfl,rfl⟩:=h;obtain⟨ad,l,d8⟩:=Zh B hn;exact⟨rfl,_,df E J (fun cs=>by simp [builtin,M,Y,Builtin.cap_,bj K,d8,goInt]),VR.mkInt _ _⟩
    ·simp at h
   ·simp at h
  ·simp at A
 case entry x=>
  simp only [dD]at A;split at A
  ·rename_i y E;simp only [bz,IN,IS]at h;obtain⟨v',F,rfl,rfl⟩:=h;obtain⟨r,g1,g2⟩:=Lt hS (bN H A) F;exact⟨rfl,r,by simp only [execOp,E];exact eb g1,g2⟩
  ·simp at A
 case v7 f xs=>
  simp only [dD]at A;split at A
  ·rename_i g fst a8 E;simp only [BY,beq_iff_eq]at A;obtain⟨⟨I,rfl⟩,B⟩:=A;simp only [bz,IN,IS]at h;obtain⟨cs,a9,rfl,rfl⟩:=h;have:=Bl (nB H B) a9;have f9:a8=#[]:=by simpa using I
   exact⟨rfl,.func (.func (σ f)) (fst.map a.eval) #[],by simp only [execOp,E,Instr.makeFunc,f9];exact eb (by simp),(fst.map a.eval).toList,by rw [Array.toArray_toList],this⟩
  ·simp at A
 case call f args h'=>cases h'<;>simp [cls]at hc
 case vX x=>
  simp only [dD]at A;split at A
  ·rename_i s d y E;simp only [BY]at A;obtain⟨B,hd⟩:=A;have B:=bN H B;split at hd
   ·rename_i e d9 d_;simp only [BY]at hd;have l_:Q.underlying e=aa (.int .u8):=by
     have:=hd.1;unfold al4 at this;split at this
     ·assumption
     ·simp at this
    simp only [bz,IN,IS]at h;obtain⟨v',F,rfl,rfl⟩:=h;obtain⟨u,O,N⟩:=Xq hS B F;refine⟨rfl,u,?_,N⟩;simp only [execOp,E];refine eb ?_;simp only [convert,Sem.run_bind,bj d9,bj d_,Result.andThen_ok];have:∃ ad l c,a.eval y=.slice ad l c:=by
     unfold oO at F;split at F
     ·rename_i z hz;rw [hz]at B;split at F
      ·rename_i l hl;obtain⟨ad,c,h⟩:=iF B hl;exact⟨_,_,_,h⟩
      ·simp at F
     ·simp at F
    obtain⟨ad,l,c,h6⟩:=this;rw [h6]at O ⊢;simp only [Sem.run_bind,bj l_,Result.andThen_ok,O]
   ·simp at hd
  ·simp at A
end
section
variable{Q:Program}{σ:Nat→FuncId}{X:Wd}
theorem SR.lt(d:SR Q σ X){b:Nat}{L:Loc}(h:X.cr b=aa L):b<X.H.length:=by
 obtain⟨_,_,bu,g,_⟩:=d.br b L h;exact(By.1 g).1
theorem SR.rY(b:SR Q σ X):X.cr X.H.length=ab:=by
 cases h:X.cr X.H.length with
 | none=>rfl| some L=>have:=SR.lt b h;omega
theorem Ext.one(H:SR Q σ X){X':Wd}(b0:Nat)(A:X'.B=X.B)(x:∀ c i,X'.F c i↔X.F c i)
  (y:∀ k,k<X.w.heap.size→(∀ L,X.cr b0=aa L→k≠L.c)→X'.w.heap[k]?=X.w.heap[k]?)
  (u:∀ L i,X.cr b0=aa L→X.F L.c i→X'.w.cell? ⟨L.c,i,ab⟩=X.w.cell? ⟨L.c,i,ab⟩) (j:b0<X.H.length→mz X X' b0)
  (E:∀ b,b≠b0→b<X.H.length→X'.H[b]?=X.H[b]?) (d:∀ b,b≠b0→X'.cr b=X.cr b)
  (v:∀ L,X'.cr b0=aa L→(∃ q,X.cr b0=aa q∧q.c=L.c)∨X.w.heap.size≤L.c) (K:X.w.heap.size≤X'.w.heap.size) (ho:X'.w.os=X.w.os) (M:X'.w.tape=X.w.tape)
  (hu:X'.w.output=X.w.output):Ext X.H.length X X' where
 B:=A
 F:=fun c i h=>(x c i).2 h
 pO:=fun c i h=>.inl ((x c i).1 h)
 fw:=fun c i h=>by
  by_cases hc:∃ L,X.cr b0=aa L∧c=L.c
  ·obtain⟨L,g,rfl⟩:=hc;exact u L i g h
  ·exact World.cell?_of_block (y c (H.fb c i h) fun L g e=>hc ⟨L,g,e⟩)
 bT:=fun b l=>by
  by_cases h:b=b0
  ·subst h;exact j l
  ·intro bu m;refine⟨bu,(E b h l).trans m,?_⟩;have:∀ L,X.cr b=aa L→X'.cr b=aa L:=fun L g=>(d b h).trans g;cases bu<;>simp_all
 xH:=fun b L l=>by
  by_cases h:b=b0
  ·subst h;rcases v L l with⟨q,s,z⟩ | s
   ·exact .inl ⟨b,q,s,z⟩
   ·exact .inr s
  ·rw [d b h]at l;exact .inl ⟨b,L,l,rfl⟩
 size:=K
 os:=ho
 tape:=M
 output:=hu
 frame:=fun k I J=>y k I fun L g e=>J b0 L g e.symm
theorem SR.grow(d:SR Q σ X)(bu:cT):SR Q σ { X with H:=X.H++[bu] }∧Ext X.H.length X { X with H:=X.H++[bu] }:=by
 have j:Ext X.H.length X { X with H:=X.H++[bu] }:=Ext.one d X.H.length rfl (fun _ _=>Iff.rfl) (fun _ _ _=>rfl) (fun _ _ _ _=>rfl) (fun h=>by omega)
  (fun b _ h=>by simp [At h]) (fun _ _=>rfl) (fun L h=>by rw [SR.rY d]at h;simp at h) (OF _) rfl rfl rfl
 refine⟨⟨fun b L g=>?_,d.inj,d.fb⟩,j⟩;obtain⟨l,m,blk',q,s⟩:=d.br b L g;exact⟨l,m,blk',by rw [At (SR.lt d g)];exact q,BR.ext Q σ j rfl (fun _ h=>h) s⟩
structure dI(w w':World)(o:Obj):Prop where
 heap:w'.heap=w.heap.push o
 os:w'.os=w.os
 tape:w'.tape=w.tape
 output:w'.output=w.output
theorem dI.alloc(w:World)(o:Obj):dI w (w.alloc o) o:=⟨rfl,rfl,rfl,rfl⟩
theorem dI.CP{w w':World}{o:Obj}(h:dI w w' o){k:Nat}(b:k<w.heap.size):w'.heap[k]?=w.heap[k]?:=by
 rw [h.heap,Array.getElem?_push,aZ (by omega)]
theorem dI.new{w w':World}{o:Obj}(h:dI w w' o):w'.heap[w.heap.size]?=aa o:=by
 rw [h.heap];simp
theorem dI.size{w w':World}{o:Obj}(h:dI w w' o):w'.heap.size=w.heap.size+1:=by
 rw [h.heap];simp
theorem SR.fill(g:SR Q σ X)(x:X.B≤X.w.heap.size){n:Nat}{bu:cT}(y:X.H[n]?=aa bu)(hr:X.cr n=ab){w':World}{o:Obj}(d:dI X.w w' o)(cap:Nat)
  (m:Ext X.H.length X { X with cr:=fun b=>if b=n then aa ⟨X.w.heap.size,cap⟩else X.cr b,w:=w' }→BR Q σ { X with cr:=fun b=>if b=n then aa ⟨X.w.heap.size,cap⟩else X.cr b,w:=w' } bu ⟨X.w.heap.size,cap⟩) :
  SR Q σ { X with cr:=fun b=>if b=n then aa ⟨X.w.heap.size,cap⟩else X.cr b,w:=w' }∧Ext X.H.length X { X with cr:=fun b=>if b=n then aa ⟨X.w.heap.size,cap⟩else X.cr b,w:=w' }:=by
 have q:Ext X.H.length X { X with cr:=fun b=>if b=n then aa ⟨X.w.heap.size,cap⟩else X.cr b,w:=w' }:=
  Ext.one g n rfl (fun _ _=>Iff.rfl) (fun k h _=>d.CP h) (fun L i u _=>by rw [hr]at u;simp at u)
   (fun _ s l=>⟨s,l,by
    cases s<;>simp [hr]⟩)
   (fun _ _ _=>rfl) (fun b h=>by simp [h]) (fun L h=>by simp at h;subst h;exact .inr (OF _)) (by rw [d.size];omega) d.os d.tape d.output
 refine⟨SR.step Q σ g q n (fun _ _=>rfl) (fun b h=>by simp [h]) (fun b L _ j=>d.CP (g.br b L j).2.1) (fun _ _ _ _ _ h=>h) (fun L h=>?_) (fun c i h=>by rw [d.size];have:=g.fb c i h;omega),q⟩;simp at h;subst h;refine⟨x,by simp [d.size],⟨bu,y,m q⟩,fun b v _ j=>?_⟩;have:=(g.br b v j).2.1;simp;omega
theorem SR.new(g:SR Q σ X)(s:X.B≤X.w.heap.size)(bu:cT){w':World}{o:Obj}(j:dI X.w w' o)(cap:Nat)
  (b:∀ X',Ext X.H.length X X'→X'.w=w'→X'.F=X.F→X'.H=X.H++[bu]→BR Q σ X' bu ⟨X.w.heap.size,cap⟩) :
  ∃ X',X'.w=w'∧X'.H=X.H++[bu]∧SR Q σ X'∧Ext X.H.length X X'∧X'.cr X.H.length=aa ⟨X.w.heap.size,cap⟩∧X'.B≤X'.w.heap.size:=by
 obtain⟨l,d⟩:=SR.grow g bu;have u:(X.H++[bu])[X.H.length]?=aa bu:=by simp
 obtain⟨m,q⟩:=SR.fill l s u (SR.rY g) j cap (fun v=>b _ (d.trans (v.mono (by simp))) rfl rfl rfl);exact⟨_,rfl,rfl,m,d.trans (q.mono (by simp)),by simp,by simp [j.size];omega⟩
theorem SR.turn(m:SR Q σ X){b:Nat}{bu blk':cT}{L:Loc}(B:X.H[b]?=aa bu)(l:X.cr b=aa L){w':World}(x:w'.heap.size=X.w.heap.size)
  (y:∀ k,k≠L.c→w'.heap[k]?=X.w.heap[k]?) (A:∀ i,X.F L.c i→w'.cell? ⟨L.c,i,ab⟩=X.w.cell? ⟨L.c,i,ab⟩) (ho:w'.os=X.w.os) (E:w'.tape=X.w.tape) (hu:w'.output=X.w.output)
  (j:mz X { X with H:=X.H.set b blk',w:=w' } b)
  (s:Ext X.H.length X { X with H:=X.H.set b blk',w:=w' }→BR Q σ { X with H:=X.H.set b blk',w:=w' } blk' L) :
  SR Q σ { X with H:=X.H.set b blk',w:=w' }∧Ext X.H.length X { X with H:=X.H.set b blk',w:=w' }:=by
 have u:b<X.H.length:=(By.1 B).1;have v:Ext X.H.length X { X with H:=X.H.set b blk',w:=w' }:=
  Ext.one m b rfl (fun _ _=>Iff.rfl) (fun k _ h=>y k (h L l)) (fun d i h=>by rw [l]at h;cases h;exact A i) (fun _=>j)
   (fun q h _=>by simp [AI (Ne.symm h)]) (fun _ _=>rfl) (fun d h=>.inl ⟨d,h,rfl⟩) (Nat.le_of_eq x.symm) ho E hu
 refine⟨SR.step Q σ m v b (fun q h=>by simp [AI (Ne.symm h)]) (fun _ _=>rfl) (fun q d h g=>y _ fun e=>h (m.inj q b d L g l e)) (fun _ _ _ _ _ h=>h)
  (fun d h=>?_) (fun c i h=>by rw [x];exact m.fb c i h),v⟩
 change X.cr b=aa d at h;rw [l]at h;cases h;obtain⟨z,F,_⟩:=m.br b L l;exact⟨z,by show L.c<w'.heap.size;omega,⟨blk',by simp [u],s v⟩,fun q d h g e=>h (m.inj q b d L g l e)⟩
theorem dX{w:World}{c:Nat}{us:List Value}(h:rowAt w c us):∀(b:List Value) (off:Nat),off+b.length≤us.length →
  (w.setCells c off b).heap.size=w.heap.size∧(∀ k,k≠c→(w.setCells c off b).heap[k]?=w.heap[k]?)∧(w.setCells c off b).os=w.os∧(w.setCells c off b).tape=w.tape ∧
  (w.setCells c off b).output=w.output∧rowAt (w.setCells c off b) c (over us off b)
 | [],off,_=>⟨rfl,fun _ _=>rfl,rfl,rfl,rfl,by simpa [World.setCells,over]using h⟩
 | v::b,off,j=>by
  simp only [asc]at j;have d:rowAt (w.setCell ⟨c,off,ab⟩ v) c (us.set off v):=by
   obtain⟨e,m,d,g⟩:=h;refine⟨e,m,?_,by simpa using g⟩;simp [World.setCell,Array.getElem?_modify,d]
  obtain⟨g,q,s,u,x,y⟩:=dX d b (off+1) (by simp;omega);simp only [World.setCells];refine⟨by rw [g];simp,fun k l=>(q k l).trans ?_,s,u,x,?_⟩
  ·simp only [World.setCell,Array.getElem?_modify];rw [aZ (by simpa using Ne.symm l)]
  ·have:over (us.set off v) (off+1) b=over us off (v::b):=by
    unfold over;simp only [asc];rw [List.take_set,List.drop_set_of_lt (by omega),show off+1+b.length=off+(b.length+1) by omega];rw [aq8 (by omega)];have j:(List.take off us).length=off:=by simp;omega
    have e:(List.take off us++[us[off]]).set off v=List.take off us++[v]:=by
     rw [List.set_append,aZ (by omega),j];simp
    rw [e];simp
   rw [←this];exact y
theorem si{w:World}{c:Nat}{us:List Value}(h:rowAt w c us)(b:List Value)(off:Nat)(l:off+b.length≤us.length)(d:∀ v ∈ b,v.oneCell'=ae) :
  (storeCells ⟨c,off,ab⟩ b).run Q w=.ok () (w.setCells c off b):=by
 have:=run_storeCells_cells (P:=Q) c off b 0 w (fun j g=>by rw [dd h];simp;omega) (fun j g=>DI h (by omega)) d;simpa using this
theorem B3{α:Type}(us:List α)(off:Nat)(b:List α)(h:off+b.length≤us.length)(i:Nat)(hi:i<off):(over us off b)[i]?=us[i]?:=by
 unfold over;rw [At (by simp;omega),At (by simp;omega),asb];simp [hi]
end
section
variable{Q:Program}{σ:Nat→FuncId}{X:Wd}
def gL(Q:Program)(σ:Nat→FuncId)(X:Wd)(v:V)(H':aj)(s:Sem Next):Prop:=
 ∃ u X',(s.run Q X.w=.ok (.value u) X'.w∨(s.run Q X.w=.ok .skip X'.w∧u=undef))∧X'.H=H'∧SR Q σ X'∧VR σ X' v u∧Ext X.H.length X X'∧X'.B≤X'.w.heap.size
theorem gL.amv(g:X.B≤X.w.heap.size)(j:SR Q σ X){v:V}{H':aj}{s:Sem Next}(h:H'=X.H∧∃ u,s.run Q X.w=.ok (.value u) X.w∧VR σ X v u):gL Q σ X v H' s:=by
 obtain⟨rfl,u,b,d⟩:=h;exact⟨u,X,.inl b,rfl,j,d,Ext.refl _ _,g⟩
theorem jQ{w w':World}{us:List Value}{e:TypeId}(h:dI w w' (.cells us.toArray e)):rowAt w' w.heap.size us:=⟨e,(0,0),h.new,fun i _=>by simp⟩
theorem D8(b:SR Q σ X)(g:X.B≤X.w.heap.size){cs:List C}{us:List Value}(h:A2 (CR σ X) cs us)(e:TypeId) :
  ∃ X',X'.w=X.w.alloc (.cells us.toArray e)∧X'.H=X.H++[.box cs 0]∧SR Q σ X'∧Ext X.H.length X X'∧X'.cr X.H.length=aa ⟨X.w.heap.size,0⟩∧X'.B≤X'.w.heap.size:=
 SR.new b g (.box cs 0) (dI.alloc _ _) 0 fun X' m l j _=>⟨us,by rw [l];exact jQ (dI.alloc _ _),A2.ext' σ m h,fun i _ d=>by
  rw [j]at d;have:=b.fb _ _ d;simp at this⟩
theorem u6(u:SR Q σ X)(q:X.B≤X.w.heap.size){cs:List C}{us:List Value}(h:A2 (CR σ X) cs us)(e:TypeId){s:Sem Next}
  (v:s.run Q X.w=.ok (.value (.pointer (aa ⟨X.w.heap.size,0,ab⟩))) (X.w.alloc (.cells us.toArray e))):gL Q σ X (.c (.ptr X.H.length 0 0)) (X.H++[.box cs 0]) s:=by
 obtain⟨X',d,b,g,j,l,m⟩:=D8 u q h e;refine⟨_,X',.inl (by rw [d];exact v),b,g,?_,j,m⟩;exact⟨_,l,by rw [b];simp⟩
theorem W2(m:SR Q σ X)(l:X.B≤X.w.heap.size){a:Act}{o:Oper}{zs:List FC}(b:dD Q σ o (.alloc zs)=ae) :
  gL Q σ X (.c (.ptr X.H.length 0 0)) (X.H++[.box (zs.map .f) 0]) (execOp a.eval o):=by
 simp only [dD]at b;split at b
 ·rename_i t q;obtain⟨z,us,d,g,j,_⟩:=eH (σ:=σ) (X:=X) b X.w;refine u6 m l j t ?_;simp only [execOp,q];refine eb ?_;simp [Instr.alloc,d,newVar,newRow,g]
 ·simp at b
theorem ahn(m:SR Q σ X)(j:X.B≤X.w.heap.size){a:Act}{aA:T}(l:RR σ X aA a.tmps){o:Oper}{x:Arg}(b:dD Q σ o (.box x)=ae){xs:List C}(s:(x.ev aA).cells?=aa xs) :
  gL Q σ X (.c (.ptr X.H.length 0 0)) (X.H++[.box xs 0]) (execOp a.eval o):=by
 simp only [dD]at b;split at b
 ·rename_i t y q;obtain⟨us,d,g⟩:=pT (bN l b) s;refine u6 m j g t ?_;simp only [execOp,q];refine eb ?_;simp [Instr.box,newVar,newRow,d]
 ·simp at b
theorem kk{zs:List FC}{us:List Value}(h:A2 (CR σ X) (zs.map .f) us)(n:Nat):A2 (CR σ X) ((cq n zs).map .f) (cq n us):=by
 induction n with
 | zero=>exact A2.nil
 | succ n b=>
  simp only [cq,List.replicate_succ,List.flatten_cons,List.map_append]at b ⊢;exact h.append b
theorem lJ{α:Type}(n:Nat)(xs:List α):(cq n xs).length=n*xs.length:=by simp [cq]
theorem Cf{α:Type}(us:List α):∀(n i:Nat),i<n*us.length→(cq n us)[i]?=us[i % us.length]?
 | 0,i,h=>by simp at h
 | n+1,i,h=>by
  have b:cq (n+1) us=us++cq n us:=by simp [cq,List.replicate_succ]
  rw [b];by_cases hi:i<us.length
  ·rw [At hi,Nat.mod_eq_of_lt hi]
  ·have d:(n+1)*us.length=n*us.length+us.length:=by rw [asv];omega
   rw [arY (by omega),Cf us n (i-us.length) (by omega)];rw [←Nat.mod_eq_sub_mod (by omega)]
theorem iI(us:List Value)(n:Nat)(q:0<us.length):((Array.range (n*us.length)).map fun i=>us.toArray[i % us.toArray.size]!)=(cq n us).toArray:=by
 apply Array.ext
 ·simp [lJ]
 ·intro i g j;have l:i<n*us.length:=by simpa using g
  have b:=Cf us n i l;have d:i % us.length<us.length:=Nat.mod_lt _ q;have m:i<(cq n us).length:=by simpa using j
  rw [AT m,AT d,sh]at b;simp [b,d]
theorem Li(d:SR Q σ X)(hB:X.B≤X.w.heap.size){a:Act}{aA:T}(hR:RR σ X aA a.tmps){o:Oper}{sz n:Nat}{zs:List FC}{ps:List (Nat × Arg)}
  (l:dD Q σ o (.aV sz zs n ps)=ae) {v:V} {H':aj} (h:bz aA X.H (.aV sz zs n ps)=aa (v,H')):gL Q σ X v H' (execOp a.eval o):=by
 simp only [dD]at l;split at l
 ·rename_i t n' qs Y;simp only [BY,beq_iff_eq,decide_eq_true_eq]at l;obtain⟨⟨⟨⟨rfl,U⟩,A⟩,f⟩,Z⟩:=l;obtain⟨e,r,A⟩:=gY A;simp only [BY,decide_eq_true_eq]at A;obtain⟨⟨s,hz⟩,a8⟩:=A;obtain⟨z,us,N,O,u,_⟩:=eH (σ:=σ) (X:=X) hz X.w;have M:us.length=sz:=by have:=u.len;simp at this;omega
  simp only [bz]at h;split at h
  ·
   rename_i W;subst W;split at h
   ·rename_i m;simp only [sh,IS]at h;obtain⟨rfl,rfl⟩:=h;have j:qs.toList=[]:=by
     have:=(ez Z).len;simp only [List.isEmpty_iff]at m;rw [m]at this;exact anc this.symm
    have j:qs=#[]:=by apply Array.ext';simpa using j
    obtain⟨X',E,y,F,H,S,I⟩:∃ X':Wd,X'.w=X.w.alloc (.cells #[] e)∧X'.H=X.H∧SR Q σ X'∧Ext X.H.length X X'∧True∧X'.B≤X'.w.heap.size:=by
     have hx:Ext X.H.length X { X with w:=X.w.alloc (.cells #[] e) }:=Ext.one d X.H.length rfl (fun _ _=>Iff.rfl) (fun k hk _=>(dI.alloc _ _).CP hk)
      (fun L i h=>by rw [SR.rY d]at h;simp at h) (fun h=>by omega) (fun _ _ _=>rfl) (fun _ _=>rfl) (fun L h=>by rw [SR.rY d]at h;simp at h) (by simp) rfl rfl rfl
     refine⟨{ X with w:=X.w.alloc (.cells #[] e) },rfl,rfl,SR.step Q σ d hx X.H.length (fun _ _=>rfl) (fun _ _=>rfl) (fun b L _ hb=>(dI.alloc _ _).CP (d.br b L hb).2.1)
      (fun _ _ _ _ _ h=>h) (fun L h=>by rw [SR.rY d]at h;simp at h) (fun c i h=>?_),hx,trivial,?_⟩
     ·have:=d.fb c i h;simp;omega
     ·simp;omega
    refine⟨.slice (aa ⟨X.w.heap.size,0,ab⟩) 0 0,X',.inl ?_,y,F,cH.es _,H,I⟩;rw [E];simp only [execOp,Y];refine eb ?_;simp [Instr.buildSlice,bj r,cY s,j,Instr.fill,newRow,show Array.range 0=(#[]:Array Nat) from rfl]
   ·simp at h
  ·rename_i W;simp only [IN,IS]at h;obtain⟨cs,J,rfl,rfl⟩:=h;obtain⟨a9,S,I⟩:=od (place:=fun i=>aa (i*sz,sz)) (ps:=qs.toList) hR (qs:=ps.map fun p=>(p.1*sz,sz,p.2)) (A2.map ((ez Z).lP fun q p g=>by
    simp only [BY,beq_iff_eq]at g;exact⟨by rw [g.1],g.2⟩)) (kk u n') J
   obtain⟨X',E,y,F,H,h7,h8⟩:=D8 d hB I e;refine⟨.slice (aa ⟨X.w.heap.size,0,ab⟩) n' n',X',.inl ?_,y,F,?_,H,h8⟩
   ·rw [E];simp only [execOp,Y];refine eb ?_;have K:n'*sz≠0:=by
     intro B;rcases atk.1 B with B | B<;>omega
    have x:=iI us n' (by omega);rw [M]at x;simp only [Instr.buildSlice,Sem.run_bind,bj r,cY s,Result.andThen_ok,aZ (show¬ n'*sz>2 ^ 24 by omega),Sem.run_ite,aZ K,N,Sem.run_pure,O];simp only [Array.toList_map];rw [x];simp [S,newRow]
   ·simp only [VR,gU,CR,fD,y];simp;exact⟨_,h7,rfl⟩
 ·simp at l
theorem Ft:∀ {cs:List C} {b:List FC},ZN cs=aa b→cs=b.map .f
 | [],b,h=>by simp [ZN]at h;subst h;rfl
 | c::cs,b,h=>by
  cases c with
  | f x=>
   simp only [ZN,IN]at h;obtain⟨g,d,rfl⟩:=h;rw [Ft d];rfl
  | _=>simp [ZN]at h
theorem xC(s:SR Q σ X)(hB:X.B≤X.w.heap.size){a:Act}{aA:T}(hR:RR σ X aA a.tmps){o:Oper}{sz n:Nat}{zs:List FC}{ps:List (Nat × Arg)}
  (J:dD Q σ o (.fU sz zs n ps)=ae) {v:V} {H H':aj} (h:bz aA H (.fU sz zs n ps)=aa (v,H')) :
  H'=H∧∃ u X',(execOp a.eval o).run Q X.w=.ok (.value u) X'.w∧X'.H=X.H∧SR Q σ X'∧VR σ X' v u∧Ext X.H.length X X'∧X'.B≤X'.w.heap.size∧X'.cr=X.cr:=by
 simp only [dD]at J;split at J
 ·rename_i t n' qs ho;simp only [BY,beq_iff_eq,decide_eq_true_eq]at J;obtain⟨⟨⟨⟨rfl,a_⟩,S⟩,b9⟩,hq⟩:=J;obtain⟨e,K,S⟩:=gY S;simp only [BY,decide_eq_true_eq]at S;obtain⟨⟨Z,hz⟩,b_⟩:=S;obtain⟨z,us,a8,a9,N,_⟩:=eH (σ:=σ) (X:=X) hz X.w;have f:us.length=sz:=by have:=N.len;simp at this;omega
  simp only [bz,IN,ar6,IS]at h;obtain⟨fs,⟨cs,W,j⟩,rfl,rfl⟩:=h;split at j
  ·simp at j
  rename_i hn;have A:=Ft j;obtain⟨d,h5,h6⟩:=od (place:=fun i=>aa (i*sz,sz)) (ps:=qs.toList) hR (qs:=ps.map fun p=>(p.1*sz,sz,p.2)) (A2.map ((ez hq).lP fun q p l=>by
   simp only [BY,beq_iff_eq]at l;exact⟨by rw [l.1],l.2⟩)) (kk N n') W
  have g:dI X.w (X.w.alloc (.cells d.toArray e)) (.cells d.toArray e):=dI.alloc _ _;obtain⟨w',m⟩:=aO (X.w.alloc (.cells d.toArray e));rw [←m]at g;have E:∀ c i,X.F c i→w'.cell? ⟨c,i,ab⟩=X.w.cell? ⟨c,i,ab⟩:=fun c i h=>World.cell?_of_block (g.CP (s.fb c i h));have hx:Ext X.H.length X { X with w:=w',F:=fun c i=>X.F c i∨(c=X.w.heap.size∧i<d.length) }:={
   B:=rfl
   F:=fun c i h=>.inl h
   pO:=fun c i h=>h.elim .inl fun h=>.inr (.inl (by rw [h.1];exact OF _))
   fw:=E
   bT:=fun b _ bu y=>⟨bu,y,by cases bu<;>simp⟩
   xH:=fun b L h=>.inl ⟨b,L,h,rfl⟩
   size:=by show _≤w'.heap.size;rw [g.size];omega
   os:=g.os
   tape:=g.tape
   output:=g.output
   frame:=fun k hk _=>g.CP hk }
  refine⟨rfl,.slice (aa ⟨X.w.heap.size,0,ab⟩) n' n',{ X with w:=w',F:=fun c i=>X.F c i∨(c=X.w.heap.size∧i<d.length) },?_,rfl,?_,?_,hx,?_,rfl⟩
  ·simp only [execOp,ho];refine eb ?_;have Y:n'*sz≠0:=by
    intro U;rcases atk.1 U with U | U<;>omega
   have O:=iI us n' (by omega);rw [f]at O;simp only [Instr.buildSlice,Sem.run_bind,bj K,cY Z,Result.andThen_ok,aZ (show¬ n'*sz>2 ^ 24 by omega),Sem.run_ite,aZ Y,a8,Sem.run_pure,a9];simp only [Array.toList_map];rw [O];simp [h5,newRow,m]
  ·exact SR.step Q σ s hx X.H.length (fun _ _=>rfl) (fun _ _=>rfl) (fun b L _ y=>g.CP (s.br b L y).2.1)
    (fun b L _ y i h=>h.elim id fun h=>by have:=(s.br b L y).2.1;omega) (fun L h=>by change X.cr X.H.length=aa L at h;rw [SR.rY s]at h;simp at h)
    (fun c i h=>by
     show c<w'.heap.size;rw [g.size];rcases h with h | h
     ·have:=s.fb c i h;omega
     ·omega)
  ·have I:d.length=fs.length:=by have:=h6.len;rw [A]at this;simp at this;omega
   refine cH.fs fs n' X.w.heap.size 0 n' d (OF _) I (fun i hi=>.inr ⟨rfl,by omega⟩) (fun i u K=>?_) fun i x u r K=>?_
   ·show w'.cell? _=_;rw [dd (show rowAt w' X.w.heap.size d by rw [m];exact jQ (dI.alloc _ _)),Nat.zero_add];exact K
   ·obtain⟨u',M,hr⟩:=h6.get (i:=i) (x:=.f x) (by rw [A,asD,r];rfl);rw [K]at M;cases M;exact cH.mono (fun c i h=>.inl h) E hr
  ·show X.B≤w'.heap.size;rw [g.size];omega
 ·simp at J
end
section
variable{Q:Program}{σ:Nat→FuncId}{X:Wd}
theorem BZ{α:Type}(us rest:List α)(off:Nat)(b:List α)(h:off+b.length≤us.length):over (us++rest) off b=over us off b++rest:=by
 unfold over;rw [List.take_append_of_le_length (by omega),List.drop_append_of_le_length (by omega)];simp
theorem A2.one{cs:List C}{us:List Value}(h:A2 (CR σ X) cs us):∀ v ∈ us,v.oneCell'=ae:=by
 intro v d;obtain⟨i,hi⟩:=asz d;have b:i<cs.length:=by rw [h.len];exact(By.1 hi).1
 exact CR.one σ (h.2 i _ v (AT b) hi)
theorem CJ(z:SR Q σ X){b:Nat}{cs:List C}{l:Nat}{L:Loc}(q:X.H[b]?=aa (.box cs l))(y:X.cr b=aa L){xs:List C}{j:List Value}(u:A2 (CR σ X) xs j){off:Nat}
  (I:l≤off) (U:off+xs.length≤cs.length):∃ X',(storeCells ⟨L.c,off,ab⟩ j).run Q X.w=.ok () X'.w∧X'.H=X.H.set b (.box (over cs off xs) l)∧SR Q σ X'∧Ext X.H.length X X' ∧
   (∀ b,X'.cr b=X.cr b)∧X'.w.heap.size=X.w.heap.size∧X'.B=X.B:=by
 obtain⟨_,_,bu,g,s⟩:=z.br b L y;rw [q]at g;simp only [sh]at g;subst g;obtain⟨us,hr,v,x⟩:=s;have K:=u.len;have J:=v.len;obtain⟨A,M,N,O,S,B⟩:=dX hr j off (by omega);obtain⟨E,F⟩:=SR.turn z (blk':=.box (over cs off xs) l) q y A M (fun i H=>by
   rw [dd B,dd hr];have:i<off:=by
    rcases ar9 i off with h | h
    ·exact h
    ·exact absurd H (x i (by omega))
   exact B3 us off j (by omega) i this) N O S
  (fun bu d=>⟨.box (over cs off xs) l,by simp [(By.1 q).1],by rw [q]at d;simp only [sh]at d;subst d;exact fun L h=>h⟩)
  (fun m=>⟨over us off j,B,A2.over (A2.ext' σ m v) (A2.ext' σ m u) off,x⟩)
 exact⟨_,si hr j off (by omega) (A2.one u),rfl,E,F,fun _=>rfl,A,rfl⟩
theorem CL(B:SR Q σ X){b:Nat}{sz:Nat}{cs:List C}{l q:Nat}{L:Loc}(s:X.H[b]?=aa (.bM sz cs l q .loc))(A:X.cr b=aa L){xs:List C}{j:List Value}(v:A2 (CR σ X) xs j){off:Nat}
  (N:l≤off) (O:off+xs.length≤cs.length):∃ X',(storeCells ⟨L.c,off,ab⟩ j).run Q X.w=.ok () X'.w∧X'.H=X.H.set b (.bM sz (over cs off xs) l q .loc)∧SR Q σ X'∧Ext X.H.length X X' ∧
   (∀ b,X'.cr b=X.cr b)∧X'.w.heap.size=X.w.heap.size∧X'.B=X.B:=by
 obtain⟨_,_,bu,g,u⟩:=B.br b L A;rw [s]at g;simp only [sh]at g;subst g;obtain⟨U,us,rest,hr,y,I,J,K,z⟩:=u;have Y:=v.len;have W:=y.len;obtain⟨E,Z,a,c,e,x⟩:=dX hr j off (by simp;omega);rw [BZ _ _ _ _ (by omega)]at x;have S:=B4 us off j (by omega);obtain⟨F,H⟩:=SR.turn B (blk':=.bM sz (over cs off xs) l q .loc) s A E Z (fun i M=>by
   rw [dd x,dd hr];have:i<off:=by
    rcases ar9 i off with h | h
    ·exact h
    ·exact absurd M (z i (by omega))
   rw [At (by omega),At (by omega)];exact B3 us off j (by omega) i this) a c e
  (fun bu d=>⟨.bM sz (over cs off xs) l q .loc,by simp [(By.1 s).1],by rw [s]at d;simp only [sh]at d;subst d;exact⟨rfl,.inl ⟨rfl,rfl,fun L h=>h⟩⟩⟩)
  (fun m=>⟨rfl,over us off j,rest,x,A2.over (A2.ext' σ m y) (A2.ext' σ m v) off,by simp only [List.length_append]at I ⊢;omega,J,by rw [B4 cs off xs O];exact K,z⟩)
 exact⟨_,si hr j off (by simp;omega) (A2.one v),rfl,F,H,fun _=>rfl,E,rfl⟩
theorem Zo(B:SR Q σ X){x:C}{u:Value}(d:CR σ X x u){xs:List C}{E:List Value}(l:A2 (CR σ X) xs E){H':aj}(h:cE X.H x xs=aa H') :
  ∃ c off X',u=.pointer (aa ⟨c,off,ab⟩)∧(storeCells ⟨c,off,ab⟩ E).run Q X.w=.ok () X'.w∧X'.H=H'∧SR Q σ X'∧Ext X.H.length X X'∧X'.w.heap.size=X.w.heap.size∧X'.B=X.B:=by
 unfold cE at h;split at h
 ·rename_i b off H;obtain⟨L,A,d⟩:=d;split at h
  ·rename_i cs F j;rw [j]at d;simp only at d;subst d;split at h
   ·rename_i g;simp only [sh]at h;subst h;obtain⟨X',m,q,s,v,_,y,z⟩:=CJ B j A l g.1 g.2;exact⟨_,_,X',rfl,m,q,s,v,y,z⟩
   ·simp at h
  ·rename_i sz cs F e j;rw [j]at d;split at h
   ·rename_i g;have d:=d.2.1 g.1;subst d;simp only [sh]at h;subst h;obtain⟨X',m,q,s,v,_,y,z⟩:=CL B j A l g.2.1 g.2.2;exact⟨_,_,X',rfl,m,q,s,v,y,z⟩
   ·simp at h
  ·simp at h
 ·simp at h
theorem Zq(E:SR Q σ X)(W:X.B≤X.w.heap.size){a:Act}{aA:T}(q:RR σ X aA a.tmps){o:Oper}{n:Nat}{x y:Arg}(b:dD Q σ o (.store n x y)=ae){v:V}{H':aj}
  (h:bz aA X.H (.store n x y)=aa (v,H')):gL Q σ X v H' (execOp a.eval o):=by
 simp only [dD]at b;split at b
 ·rename_i t M N H;simp only [BY]at b;obtain⟨⟨F,g⟩,m⟩:=b;have g:=bN q g;have m:=bN q m;simp only [bz]at h;split at h
  ·rename_i p xs I l;rw [I]at g;split at h
   ·rename_i s;simp only [IN,IS]at h;obtain⟨O,j,rfl,rfl⟩:=h;obtain⟨Y,K,d⟩:=pT m l;obtain⟨c,off,X',J,u,z,A,B,S,U⟩:=Zo E g d j;refine⟨undef,X',.inr ⟨?_,rfl⟩,z,A,trivial,B,by omega⟩;have L:=d.len;simp only [execOp,H,Sem.run_bind];have:(Instr.storeAt t (a.eval M) (a.eval N)).run Q X.w=.ok () X'.w:=by
     rw [J];simp [Instr.storeAt,Instr.sureAddr,storeVar,cY F,K];rw [bp (by omega)];exact u
    simp [this]
   ·simp at h
  ·simp at h
 ·simp at b
end
end Km
