/-
  Our own small machine for Go code by value, held s9 the model: part 1. No program in Gx.
-/
import GoSem.Step
import GoSem.Dispatch
import GoSem.Machine.Exec
import Derived.Calls
import Derived.Laws.World
import Derived.Laws.Cells
import Derived.Laws.IdiomCopy
import Derived.Below
import Derived.Laws.Slices
import Derived.Laws.Strings
import Derived.Laws.StructEq
import Derived.Laws.BytesString
import Derived.Laws.Tables
import Derived.Laws.AppendOwn
open Option renaming some → ab,none → ae
open Bool renaming true → ag,false → ah
open Option.some renaming injEq → sh
open Bool renaming false_eq_true → atY, and_eq_true → If
open List renaming getElem?_eq_some_iff → BY, getElem?_eq_getElem → AT, getElem?_append_left → AI, getElem?_append_right → at1, getElem?_take → auo, getElem?_drop → at8, getElem?_map → auN, all_eq_true → at4, getElem?_of_mem → auH, extract_eq_take_drop → au1, take_of_length_le → at6, foldl_cons → auV, length_cons → aup, take_succ_eq_append_getElem → at0, eq_nil_of_length_eq_zero → api, getElem?_set_ne → By
open Nat renaming le_refl → aft, le_trans → aua, lt_of_lt_of_le → auI, add_mul → auD, mul_eq_zero → avq, lt_or_ge → aut
open Option renaming bind_eq_some_iff → aue, map_eq_some_iff → IN, bind_eq_bind → avz, bind_some → auf, map_some → auz
open Prod.mk renaming injEq → IT
set_option linter.unusedVariables false
set_option linter.constructorNameAsVariable false
set_option linter.unusedSimpArgs false
set_option linter.unusedSectionVars false
set_option maxRecDepth 100000
namespace Km
open Go
theorem aP.{u}{α:Sort u}(a:α):∃ b,b=a:=⟨a,rfl⟩
theorem aY.{u}{c:Prop}{h:Decidable c}(b:¬c){α:Sort u}{t e:α}:(ite c t e)=e:=if_neg b
theorem bg.{u}{c:Prop}{h:Decidable c}(hc:c){α:Sort u}{t e:α}:(ite c t e)=t:=if_pos hc
inductive FC where
 | bool (b:Bool)
 | int (k:IntKind) (n:Int)
 | str (s:ByteArray)
 | gE | aG | es | kn | mZ | vQ
 | fp (cs:List FC) (off:Nat)
 | fs (cs:List FC) (len:Nat)
 | fn (f:Nat) (M9:List FC)
 deriving Inhabited
inductive C where
 | f (x:FC)
 | ptr (b off ep:Nat)
 | sl (b off len cap ep sz:Nat)
 | cl (f:Nat) (M9:List C)
 | yl (b:Nat)
 | mp (b:Nat)
 | it (b:Nat)
 | bm (f:Nat) (first:List C)
 | mi (b:Nat)
 deriving Inhabited
inductive V where
 | top
 | c (x:C)
 | a (xs:List C)
 | t (xs:List V)
 deriving Inhabited
def M0:Nat:=1000000007
def mV:C→V
 | .cl f cs=>if f=M0 then .a cs else .c (.cl f cs)| x=>.c x
def su:V→Option C
 | .c (.cl f cs)=>if f=M0 then ae else ab (.cl f cs)| .c x=>ab x| .a cs=>ab (.cl M0 cs)| _=>ae
def zV:FC→V
 | .fn f zs=>if f=M0 then .a (zs.map .f)else .c (.f (.fn f zs))| z=>.c (.f z)
def sj:FC→List FC
 | .fn f zs=>if f=M0 then zs else [.fn f zs]| z=>[z]
def E5:FC→Bool
 | .fn f _=>decide (f=M0)| _=>ah
theorem aai{v:V}{c:C}(h:su v=ab c):mV c=v:=by
 cases v with
 | c x=>
  cases x<;>simp only [su,sh]at h
  case cl f cs=>
   split at h
   ·cases h
   ·rename_i b;simp only [sh]at h;subst h;simp only [mV,aY b]
  all_goals (subst h;rfl)
 | a cs=>simp only [su,sh]at h;subst h;simp [mV]| _=>simp [su]at h
theorem amF{z:FC}(h:E5 z=ag):zV z=.a ((sj z).map .f):=by
 cases z<;>simp only [E5,decide_eq_true_eq,reduceCtorEq,atY]at h;simp only [zV,sj,bg h]
theorem amG{z:FC}(h:E5 z=ah):zV z=.c (.f z)∧sj z=[z]:=by
 cases z<;>simp only [E5,decide_eq_false_iff_not]at h
 case fn f zs=>simp only [zV,sj,aY h,and_self]
 all_goals exact⟨rfl,rfl⟩
inductive Os where | loc | nil | es
 deriving DecidableEq,Inhabited
inductive P where
 | h
 | o (p:P)
 | i (p:P)
 deriving DecidableEq,Inhabited
def P.toNat:P→Nat
 | .h=>0| .o p=>2*p.toNat+1| .i p=>2*p.toNat+2
inductive T where
 | e
 | n (l:T) (v:V) (r:T)
 deriving Inhabited
def T.get:T→P→V
 | .e,_=>.top| .n _ v _,.h=>v| .n l _ _,.o p=>l.get p| .n _ _ r,.i p=>r.get p
def T.set:T→P→V→T
 | .e,.h,w=>.n .e w .e| .e,.o p,w=>.n (T.set .e p w) .top .e| .e,.i p,w=>.n .e .top (T.set .e p w)| .n l _ r,.h,w=>.n l w r| .n l v r,.o p,w=>.n (l.set p w) v r| .n l v r,.i p,w=>.n l v (r.set p w)
inductive Arg where
 | r (n:P)
 | k (v:V)
 deriving Inhabited
inductive CK where | bool | int | str
 deriving DecidableEq,Inhabited
inductive MR where
 | bool | ptr | sl | fn | ifc
 | st (ks:List CK)
 deriving Inhabited
inductive cV where
 | bN (x:Arg)
 | pre (o:Os) (sz:Nat)
 | pick (c a b:Arg)
 | alloc (zs:List FC)
 | box (x:Arg)
 | build (zs:List FC) (parts:List (Nat × Nat × Arg))
 | aR (sz:Nat) (zs:List FC) (len:Nat) (parts:List (Nat × Arg))
 | load (n:Option Nat) (x:Arg)
 | store (n:Nat) (x y:Arg)
 | bE (x:Arg)
 | bin (op:BinOp) (x y:Arg)
 | eq (neg:Bool) (k:MR) (x y:Arg)
 | un (op:UnOp) (x:Arg)
 | eX (k:IntKind) (x:Arg)
 | yP (x:Arg)
 | vJ (x:Arg)
 | DJ (x:Arg)
 | lz (f:Nat) (M9:List Arg)
 | kD
 | lookup (ck:CK) (zero:FC) (m k:Arg)
 | kB (ck:CK) (m k v:Arg)
 | c4 (sz bytes:Nat) (zs:List FC) (l c:Arg)
 | slice (sz:Nat) (x:Arg) (lo hi mx:Option Arg)
 | lK (n sz:Nat) (x:Arg) (lo hi mx:Option Arg)
 | qM (x:Arg) (lo hi:Option Arg)
 | aC (off:Nat) (x:Arg)
 | field (off:Nat) (n:Option Nat) (x:Arg)
 | aS (sz:Nat) (arr:Option Nat) (x i:Arg)
 | idxs (x i:Arg)
 | qk (len sz:Nat) (n:Option Nat) (x i:Arg)
 | range (x:Arg)
 | next (x:Arg)
 | extract (x:Arg) (i:Nat)
 | call (f:Nat) (args:List Arg) (h:Bool)
 | cj (x:Arg) (args:List Arg) (h:Bool)
 | len (x:Arg)
 | uD (n:Nat)
 | lens (x:Arg)
 | cap (x:Arg)
 | append (sz bytes:Nat) (x y:Arg)
 | copy (sz:Nat) (x y:Arg)
 | mX (lo:Bool) (xs:List Arg)
 | sO (sz bytes:Nat) (zs:List FC) (x n:Arg)
 | clear (sz:Nat) (zs:List FC) (x:Arg)
 | mw (x:Arg)
 | qy (x:Arg)
 | entry (x:Arg)
 | vN (f:Nat) (xs:List Arg)
 | vY (sz:Nat) (x hi mx:Arg)
 | iM (sz:Nat) (zs:List FC) (len:Nat) (parts:List (Nat × Arg))
 | recover
 | defer (x:Arg) (args:List Arg)
 | bad
 deriving Inhabited
def cV.fsl:cV→Bool
 | .iM ..=>ag| _=>ah
structure aO where
 dst:Option P
 op:cV
 g:Option (P × Bool):=ae
 deriving Inhabited
inductive ay where
 | skip
 | region (ops:List aO) (iT:List (Nat × Nat))
 | seq (a b:ay)
 | cond (c:Arg) (a b:ay)
 | block (id:Nat) (a:ay)
 | loop (a:ay)
 | kR (f:Arg) (ps:List P) (assign body:ay)
 | exit (id:Nat)
 | ret
 | bad
 | scope (a:ay)
 | label (l:Nat)
 | goto (l:Nat)
 deriving Inhabited
inductive gm where | ready | busy | done | exhausted
 deriving DecidableEq,Inhabited
inductive c6 where
 | box (cs:List C) (fl:Nat)
 | bR (sz:Nat) (cs:List C) (fl ep:Nat) (st:Os)
 | map (es:List (FC × C))
 | it (s:ByteArray) (pos:Nat)
 | vw (m since:Nat) (done:Bool)
 | kM (open_:Bool)
 | lp (fn:Nat) (tmps:T) (ps:List P) (assign body:ay) (st:gm) (pending:Option ay) (kM:Nat)
 deriving Inhabited
abbrev an:=List c6
inductive dH where
 | qb (b:Nat)
 | fn (f:Nat) (args:List V)
 deriving Inhabited
inductive jr where
 | tmp (t:P)
 | cell (t:P) (n:Option Nat)
 deriving Inhabited
structure aB where
 ps:List P
 results:List jr
 body:ay
 deriving Inhabited
def Arg.ev(aA:T):Arg→V
 | .r n=>aA.get n| .k v=>v
def V.int(k:IntKind)(n:Int):V:=.c (.f (.int k n))
def V.bool(b:Bool):V:=.c (.f (.bool b))
def aF(H:an):C→Option (List C)
 | .ptr b off d=>match H[b]? with
  | some (.box cs _)=>ab (cs.drop off)| some (.bR _ cs _ e .loc)=>if d=e then ab (cs.drop off)else ae| _=>ae
 | .f (.fp cs off)=>ab ((cs.drop off).map .f)| _=>ae
def aK:Option Nat→List C→Option V
 | none,c::_=>ab (.c c)| none,[]=>ae| some n,cs=>if n≤cs.length then ab (.a (cs.take n))else ae
def aV(H:an)(n:Option Nat):V→Option V
 | .c x=>(aF H x).bind (aK n)| _=>ae
def V.cells? : V→Option (List C)
 | .c x=>ab [x]| .a xs=>ab xs| _=>ae
def over{α:Type}(cs:List α)(off:Nat)(xs:List α):List α:=cs.take off++xs++cs.drop (off+xs.length)
def dn(H:an)(x:C)(xs:List C):Option an:=
 match x with
 | .ptr b off g=>match H[b]? with
  | some (.box cs d)=>if d≤off∧off+xs.length≤cs.length then ab (H.set b (.box (over cs off xs) d))else ae| some (.bR sz cs d e .loc)=>if g=e∧d≤off∧off+xs.length≤cs.length then ab (H.set b (.bR sz (over cs off xs) d e .loc))else ae| _=>ae
 | _=>ae
def bJ(H:an):C→Option Nat
 | .sl b _ l _ d sz=>match H[b]? with
  | some (.box _ _)=>ab l| some (.bR s _ _ e _)=>if d=e∧sz=s then ab l else ae| _=>ae
 | .f .aG=>ab 0| .f .es=>ab 0| .f (.fs _ l)=>ab l| _=>ae
def cS(H:an)(sz:Nat):C→Option (List C)
 | .sl b o l _ d s=>match H[b]? with
  | some (.box cs _)=>if o+l*sz≤cs.length then ab ((cs.drop o).take (l*sz))else ae| some (.bR s' cs _ e _)=>if d=e∧s=s'∧o+l*sz≤cs.length then ab ((cs.drop o).take (l*sz))else ae| _=>ae
 | .f .aG=>ab []| .f .es=>ab []| .f (.fs cs l)=>if cs.length=l*sz then ab (cs.map .f)else ae| _=>ae
def aZ{α β:Type}(g:α→Option β):List α→Option (List β)
 | []=>ab []
 | x::xs=>match g x with
  | none=>ae
  | some y=>match aZ g xs with
   | none=>ae| some ys=>ab (y::ys)
def db:Nat→an→C→Option FC
 | _,_,.f x=>ab x| 0,_,_=>ae
 | n+1,H,.ptr b off _=>match H[b]? with
  | some (.box cs _)=>(aZ (db n H) cs).map (.fp · off)| _=>ae
 | n+1,H,.sl b o l _ g sz=>match H[b]? with
  | some (.box cs _)=>if o+l*sz≤cs.length then(aZ (db n H) ((cs.drop o).take (l*sz))).map (.fs · l)else ae| some (.bR s cs _ e .loc)=>if g=e∧sz=s∧o+l*sz≤cs.length then(aZ (db n H) ((cs.drop o).take (l*sz))).map (.fs · l)else ae| some (.bR s _ _ e .nil)=>if g=e∧sz=s then ab .aG else ae| some (.bR s _ _ e .es)=>if g=e∧sz=s then ab .es else ae| _=>ae
 | n+1,H,.cl f d=>(aZ (db n H) d).map (.fn f)| _+1,_,_=>ae
def bX(n:Nat)(H:an):V→Option V
 | .c x=>(db n H x).map fun y=>.c (.f y)
 | .a xs=>(aZ (db n H) xs).map fun ys=>.a (ys.map .f)
 | _=>ae
def fZ(n:Nat)(H:an):V→Option V
 | .t b=>(aZ (bX n H) b).map .t| v=>bX n H v
def iG:Nat→C→an→an
 | _,.f _,H=>H| 0,_,H=>H
 | n+1,.ptr b _ _,H=>match H[b]? with
  | some (.box cs g)=>cs.foldl (fun H x=>iG n x H) (H.set b (.box cs (Nat.max g cs.length)))
  | _=>H
 | n+1,.sl b o l _ _ sz,H=>match H[b]? with
  | some (.box cs g)=>((cs.drop o).take (l*sz)).foldl (fun H x=>iG n x H) (H.set b (.box cs (Nat.max g (o+l*sz))))
  | some (.bR s cs g e st)=>((cs.drop o).take (l*sz)).foldl (fun H x=>iG n x H) (H.set b (.bR s cs (Nat.max g (o+l*sz)) e st))
  | _=>H
 | n+1,.cl _ d,H=>d.foldl (fun H x=>iG n x H) H
 | _+1,_,H=>H
def mkV(n:Nat)(H:an):V→an
 | .c x=>iG n x H| .a xs=>xs.foldl (fun H x=>iG n x H) H
 | _=>H
def kJ(b:BinOp)(k:IntKind)(x y:Int):Option V:=
 match b with
 | .add=>ab (.int k (k.wrap (x+y)))| .sub=>ab (.int k (k.wrap (x-y)))| .mul=>ab (.int k (k.wrap (x*y)))| .quo=>if y=0 then ae else ab (.int k (k.wrap (x.tdiv y)))| .rem=>if y=0 then ae else ab (.int k (x.tmod y))| .and=>ab (.int k (k.wrap (BitVec.ofInt k.bits x &&& BitVec.ofInt k.bits y).toNat))| .or=>ab (.int k (k.wrap (BitVec.ofInt k.bits x ||| BitVec.ofInt k.bits y).toNat))| .xor=>ab (.int k (k.wrap (BitVec.ofInt k.bits x ^^^ BitVec.ofInt k.bits y).toNat))| .andNot=>ab (.int k (k.wrap (BitVec.ofInt k.bits x &&& ~~~ (BitVec.ofInt k.bits y)).toNat))| .eql=>ab (.bool (x == y))| .neq=>ab (.bool (x != y))| .lss=>ab (.bool (decide (x<y)))| .leq=>ab (.bool (decide (x≤y)))| .gtr=>ab (.bool (decide (x>y)))| .geq=>ab (.bool (decide (x≥y)))| _=>ae
def Zw(b:BinOp)(x y:ByteArray):Option V:=
 match b with
 | .add=>if((x.size+y.size:Nat):Int)>IntKind.i64.max then ae else ab (.c (.f (.str (x++y))))| .eql=>ab (.bool (x.toList == y.toList))| .neq=>ab (.bool !(x.toList == y.toList))| .lss=>ab (.bool (Op.bytesLess x.toList y.toList))| .leq=>ab (.bool (Op.bytesLess x.toList y.toList||x.toList == y.toList))| .gtr=>ab (.bool !(Op.bytesLess x.toList y.toList||x.toList == y.toList))| .geq=>ab (.bool !(Op.bytesLess x.toList y.toList))| _=>ae
def OB:CK→C→C→Option Bool
 | .bool,.f (.bool a),.f (.bool b)=>ab (a == b)| .int,.f (.int k a),.f (.int k' b)=>if k=k' then ab (a == b)else ae| .str,.f (.str a),.f (.str b)=>ab (a == b)| _,_,_=>ae
def rC:List CK→List C→List C→Option Bool
 | [],[],[]=>ab ag
 | k::ks,x::xs,y::ys=>match OB k x y,rC ks xs ys with
  | some a,ab b=>ab (a&&b)| _,_=>ae
 | _,_,_=>ae
def isNil(H:an):MR→C→Option Bool
 | .ptr,.f .gE=>ab ag| .ptr,.f (.fp _ _)=>ab ah| .ptr,.ptr _ _ _=>ab ah| .sl,.f .aG=>ab ag| .sl,.f .es=>ab ah| .sl,.f (.fs _ _)=>ab ah
 | .sl,.sl b _ _ _ d sz=>match H[b]? with
  | some (.box _ _)=>ab ah| some (.bR s _ _ e st)=>if d=e∧sz=s then ab (st == .nil)else ae| _=>ae
 | .fn,.f .kn=>ab ag| .fn,.f (.fn _ _)=>ab ah| .fn,.cl _ _=>ab ah| .fn,.bm _ _=>ab ah| .ifc,.f .mZ=>ab ag| _,_=>ae
def z6(H:an):MR→V→V→Option Bool
 | .bool,.c x,.c y=>OB .bool x y| .st ks,.a xs,.a ys=>rC ks xs ys| .ptr,.c x,.c (.f .gE)=>isNil H .ptr x| .sl,.c x,.c (.f .aG)=>isNil H .sl x| .fn,.c x,.c (.f .kn)=>isNil H .fn x| .ifc,.c x,.c (.f .mZ)=>isNil H .ifc x| _,_,_=>ae
def bV(op:BinOp)(x y:V):Option V:=
 match op,x,y with
 | .shl,.c (.f (.int k a)),.c (.f (.int _ b))=>if b<0 then ae else ab (.int k (k.wrap (a*2 ^ (min b.toNat k.bits))))| .shr,.c (.f (.int k a)),.c (.f (.int _ b))=>if b<0 then ae else ab (.int k (a.fdiv (2 ^ (min b.toNat k.bits))))| op,.c (.f (.int k a)),.c (.f (.int k' b))=>if k=k' then kJ op k a b else ae| op,.c (.f (.str a)),.c (.f (.str b))=>Zw op a b| _,_,_=>ae
def unV(d:UnOp)(x:V):Option V:=
 match d,x with
 | .neg,.c (.f (.int k n))=>ab (.int k (k.wrap (0-n)))| .not,.c (.f (.bool b))=>ab (.bool !b)| _,_=>ae
def dD:V→Option Int
 | .c (.f (.int _ n))=>ab n| _=>ae
def CD(x:V)(y:Nat):Option Nat:=
 match dD x with
 | some i=>if 0≤i∧i≤y then ab i.toNat else ae| none=>ae
def cL(len cap:Nat)(lo hi mx:Option V):Option (Nat × Nat × Nat):=do
 let m ←match mx with
  | some v=>CD v cap| none=>ab cap
 let h ←match hi,mx with
  | some v,_=>CD v m| none,ae=>ab len| none,ab _=>ae
 let l ←match lo with
  | some v=>CD v h| none=>ab 0
 pure (l,h,m)
def fH(H:an)(sz:Nat)(x:V)(lo hi mx:Option V):Option V:=
 match x with
 | .c (.f .aG)=>match cL 0 0 lo hi mx with
  | some _=>ab (.c (.f .aG))| none=>ae
 | .c (.f .es)=>match cL 0 0 lo hi mx with
  | some _=>ab (.c (.f .es))| none=>ae
 | .c (.f (.fs cs n))=>match cL n n lo hi mx with
  | some (l,h,m)=>
   if mx.isSome∧m=l then ab (.c (.f .es))else
   ab (.c (.f (.fs ((cs.drop (l*sz)).take ((h-l)*sz)) (h-l))))
  | none=>ae
 | .c (.sl b o n cap d s)=>match H[b]? with
  | some (.box _ _)=>match cL n cap lo hi mx with
   | some (l,h,m)=>if m=l then ab (.c (.f .es))else ab (.c (.sl b (o+l*sz) (h-l) (m-l) d s))| none=>ae
  | some (.bR s' _ _ e st)=>
   if d=e∧s=sz∧s'=sz then
    match st with
    | .loc=>match cL n n lo hi mx with
     | some (l,h,m)=>
      if mx.isSome∧m=l then ab (.c (.f .es))
      else if l=h∧0<l then ab (.c (.f (.fs [] 0)))
      else if mx.isSome then ae
      else ab (.c (.sl b (o+l*sz) (h-l) 0 d s))
     | none=>ae
    | .nil=>match cL 0 0 lo hi mx with
     | some _=>ab (.c (.f .aG))| none=>ae
    | .es=>match cL 0 0 lo hi mx with
     | some _=>ab (.c (.f .es))| none=>ae
   else ae
  | _=>ae
 | _=>ae
def vf(x:V)(lo hi:Option V):Option V:=
 match x with
 | .c (.f (.str s))=>match cL s.size s.size lo hi ae with
  | some (l,h,_)=>ab (.c (.f (.str (s.extract l h))))| none=>ae
 | _=>ae
def jt(H:an)(n sz:Nat)(x:V)(lo hi mx:Option V):Option V:=
 match x with
 | .c (.ptr b off _)=>match H[b]? with
  | some (.box cs _)=>match cL n n lo hi mx with
   | some (l,h,m)=>if off+n*sz≤cs.length then(if m=l then ab (.c (.f .es))else ab (.c (.sl b (off+l*sz) (h-l) (m-l) 0 sz)))else ae| none=>ae
  | _=>ae
 | .c (.f (.fp cs off))=>match cL n n lo hi mx with
   | some (l,h,m)=>if off+n*sz≤cs.length then(if m=l then ab (.c (.f .es))else ab (.c (.f (.fs ((cs.drop (off+l*sz)).take ((h-l)*sz)) (h-l)))))else ae| none=>ae
 | _=>ae
def aL(H:an)(sz:Nat)(g:Option Nat)(x i:V):Option V:=
 match dD i with
 | none=>ae
 | some i=>
  if 0≤i then
   match g,x with
   | none,.c (.sl b o l _ d s)=>if i<l then
     (match H[b]? with
      | some (.box _ _)=>ab (.c (.ptr b (o+i.toNat*sz) d))| some (.bR s' _ _ e .loc)=>if d=e∧s=s' then ab (.c (.ptr b (o+i.toNat*sz) d))else ae
      | _=>ae)else ae
   | none,.c (.f (.fs cs l))=>if i<l then ab (.c (.f (.fp cs (i.toNat*sz))))else ae| some n,.c (.ptr b o d)=>if i<n then ab (.c (.ptr b (o+i.toNat*sz) d))else ae| some n,.c (.f (.fp cs o))=>if i<n then ab (.c (.f (.fp cs (o+i.toNat*sz))))else ae| _,_=>ae
  else ae
def jB(off:Nat):V→Option V
 | .c (.ptr b o d)=>ab (.c (.ptr b (o+off) d))| .c (.f (.fp cs o))=>ab (.c (.f (.fp cs (o+off))))| _=>ae
def nB(off:Nat)(n:Option Nat):V→Option V
 | .a xs=>aK n (xs.drop off)| _=>ae
def Bv(x i:V):Option V:=
 match x,dD i with
 | .c (.f (.str s)),ab i=>if 0≤i then(s[i.toNat]?).map fun b=>.int .u8 b.toNat else ae
 | _,_=>ae
def mM(len sz:Nat)(n:Option Nat)(x i:V):Option V:=
 match x,dD i with
 | .a xs,ab i=>if 0≤i∧i<len then aK n (xs.drop (i.toNat*sz))else ae| _,_=>ae
def FW(H:an):V→Option (V × an)
 | .c (.it b)=>match H[b]? with
  | some (.it s pos)=>
   if pos<s.size then
    let r:=Utf8.decode s pos
    ab (.t [.bool ag,.int .i64 pos,.int .i32 r.1],H.set b (.it s (pos+r.2)))
   else ab (.t [.bool ah],H)
  | _=>ae
 | _=>ae
def bU(need bytes:Nat):Bool:=decide ((2*need+768)*bytes≤2 ^ 48)&&decide (need<2 ^ 48)
def cX(H:an)(sz:Nat):V→Option (Nat × List C)
 | .c (.f (.str s))=>if sz=1 then ab (s.size,s.toList.map fun b=>.f (.int .u8 b.toNat))else ae
 | .c x=>match bJ H x,cS H sz x with
  | some l,ab cs=>ab (l,cs)| _,_=>ae
 | _=>ae
def bK(H:an)(sz bytes:Nat)(x y:V):Option (V × an):=
 match cX H sz y with
 | none=>ae
 | some (m,ys)=>
  if sz=0 then ae else
  match x with
  | .c (.f .aG)=>if m=0 then ab (.c (.f .aG),H)else
    if bU m bytes then ab (.c (.sl H.length 0 m 0 0 sz),H++[.bR sz ys 0 0 .loc])else ae
  | .c (.f .es)=>if m=0 then ab (.c (.f .es),H)else
    if bU m bytes then ab (.c (.sl H.length 0 m 0 0 sz),H++[.bR sz ys 0 0 .loc])else ae
  | .c (.sl b o l cap g s)=>match H[b]? with
   | some (.box cs d)=>
    if l+m≤cap then
     if d≤o+l*sz∧o+l*sz+ys.length≤cs.length then ab (.c (.sl b o (l+m) cap g s),H.set b (.box (over cs (o+l*sz) ys) d))else ae
    else if bU (l+m) bytes∧o+l*sz≤cs.length then ab (.c (.sl H.length 0 (l+m) 0 0 sz),H++[.bR sz ((cs.drop o).take (l*sz)++ys) 0 0 .loc])else ae
   | some (.bR s' cs d e st)=>
    if g=e∧s'=sz∧s=sz then
     if m=0 then ab (x,H)
     else if o=0∧l*sz=cs.length∧d≤cs.length then
      if bU (l+m) bytes then ab (.c (.sl b 0 (l+m) 0 (g+1) sz),H.set b (.bR sz (cs++ys) d (e+1) .loc))else ae
     else if st=.loc∧d≤o+l*sz∧o+l*sz+ys.length≤cs.length then
      ab (.c (.sl b o (l+m) 0 g sz),H.set b (.bR sz (over cs (o+l*sz) ys) d e .loc))
     else ae
    else ae
   | _=>ae
  | _=>ae
def copyV(H:an)(sz:Nat)(x y:V):Option (V × an):=
 match cX H sz y,x with
 | some _,.c (.f .aG)=>ab (.int .i64 0,H)| some _,.c (.f .es)=>ab (.int .i64 0,H)
 | some (m,ys),.c (.sl b o l _ g s')=>
  let n:=Nat.min m l
  match H[b]? with
  | some (.box cs d)=>if d≤o∧o+n*sz≤cs.length then ab (.int .i64 n,H.set b (.box (over cs o (ys.take (n*sz))) d))else ae| some (.bR s cs d e .loc)=>if g=e∧s'=s∧s=sz∧d≤o∧o+n*sz≤cs.length then ab (.int .i64 n,H.set b (.bR s (over cs o (ys.take (n*sz))) d e .loc))else ae| _=>ae
 | _,_=>ae
def oX(H:an):V→Option V
 | .c x=>match bJ H x with
  | some _=>match cS H 1 x with
   | some cs=>(aZ (fun c=>match c with | C.f (.int .u8 n)=>ab (UInt8.ofNat n.toNat) | _=>ae) cs).map fun l=>.c (.f (.str ⟨l.toArray⟩))
   | none=>ae
  | none=>ae
 | _=>ae
def dw(aA:T)(cs:List C):List (Nat × Nat × Arg)→Option (List C)
 | []=>ab cs
 | (off,n,x)::rest=>match (x.ev aA).cells? with
  | some xs=>if xs.length=n∧off+xs.length≤cs.length then dw aA (over cs off xs) rest else ae| none=>ae
def dj(aA:T)(xs:List Arg):List V:=xs.map (·.ev aA)
def sQ:V→Option C
 | .c (.cl _ _)=>ae| .c (.bm _ _)=>ae| .c x=>ab x| _=>ae
def cP{α:Type}(n:Nat)(xs:List α):List α:=(List.replicate n xs).flatten
def eqK:CK→FC→FC→Option Bool
 | .int,.int k a,.int k' b=>if k=k' then ab (a == b)else ae| .str,.str a,.str b=>ab (a == b)| .bool,.bool a,.bool b=>ab (a == b)| _,_,_=>ae
def nK(b:CK)(k:FC):List (FC × C)→Option (Option C)
 | []=>ab ae
 | e::d=>match eqK b k e.1 with
  | some ag=>ab (ab e.2)| some ah=>nK b k d| none=>ae
def xJ(b:CK)(k:FC)(v:C):List (FC × C)→Option (List (FC × C))
 | []=>ab [(k,v)]
 | e::d=>match eqK b k e.1 with
  | some ag=>ab ((k,v)::d)| some ah=>(xJ b k v d).map (e::·)| none=>ae
def isKey:CK→FC→Bool
 | .int,.int _ _=>ag| .str,.str _=>ag| .bool,.bool _=>ag| _,_=>ah
def sW:FC→Option FC
 | .fp [z] 77=>ab z| _=>ae
def lkR(z:FC)(r:Option C):V:=match sW z with
 | some z0=>.t [(r.map mV).getD (zV z0),.c (.f (.bool r.isSome))]| none=>(r.map mV).getD (zV z)
def gw(H:an)(d:CK)(z:FC):V→V→Option V
 | .c (.f .vQ),.c (.f k)=>if isKey d k then ab (lkR z ae)else ae
 | .c (.mp b),.c (.f k)=>match H[b]? with
  | some (.map g)=>if isKey d k then(nK d k g).map (lkR z)else ae| _=>ae
 | _,_=>ae
def mR(H:an):C→Option Nat
 | .sl b _ _ c d sz=>match H[b]? with
  | some (.box _ _)=>ab c| some (.bR s _ _ e .nil)=>if d=e∧sz=s then ab 0 else ae| some (.bR s _ _ e .es)=>if d=e∧sz=s then ab 0 else ae| _=>ae
 | .f .aG=>ab 0| .f .es=>ab 0| _=>ae
def FR(lo:Bool)(x y:V):Option V:=
 match x,y with
 | .c (.f (.int k a)),.c (.f (.int _ b))=>ab (.int k (if lo then(if b<a then b else a)else(if b>a then b else a)))| _,_=>ae
def xF(lo:Bool):V→List V→Option V
 | x,[]=>ab x
 | x,y::ys=>match FR lo x y with
  | some z=>xF lo z ys| none=>ae
def NR(lo:Bool):List V→Option V
 | []=>ae| x::xs=>xF lo x xs
def t_(H:an)(sz:Nat)(zs:List FC)(x:V):Option an:=
 match x with
 | .c y=>match bJ H y with
  | some 0=>ab H
  | some l=>
   if zs.length=sz then
    match y with
    | .sl b o _ _ d s=>match H[b]? with
     | some (.box _ _)=>dn H (.ptr b o d) ((cP l zs).map .f)| some (.bR s' _ _ e .loc)=>if d=e∧s=s' then dn H (.ptr b o d) ((cP l zs).map .f)else ae| _=>ae
    | _=>ae
   else ae
  | none=>ae
 | _=>ae
def Fl(H:an)(sz bytes:Nat)(zs:List FC)(x n:V):Option (V × an):=
 match dD n with
 | some n=>
  if 0≤n∧zs.length=sz then
   match x with
   | .c (.f .aG)=>if n.toNat=0 then ab (.c (.f .aG),H)else
     if bU n.toNat bytes then ab (.c (.sl H.length 0 n.toNat 0 0 sz),H++[.bR sz ((cP n.toNat zs).map .f) 0 0 .loc])else ae
   | .c (.f .es)=>if n.toNat=0 then ab (.c (.f .es),H)else
     if bU n.toNat bytes then ab (.c (.sl H.length 0 n.toNat 0 0 sz),H++[.bR sz ((cP n.toNat zs).map .f) 0 0 .loc])else ae
   | _=>ae
  else ae
 | none=>ae
def fcC:C→Option FC
 | .f x=>ab x| _=>ae
def Cj(H:an)(sz:Nat)(x hi mx:V):Option (V × an):=
 match fH H sz x ae (ab hi) (ab mx)with
 | some v=>ab (v,H)
 | none=>match x with
  | .c (.sl b o n _ d s)=>match H[b]? with
   | some (.bR s' cs g e .loc)=>
    if d=e∧s=sz∧s'=sz∧o=0 then
     match CD hi n,CD mx n with
     | some i,ab j=>
      if i=j∧0<i∧i*sz≤cs.length then
       match aZ fcC (cs.take (i*sz))with
       | some ys=>ab (.c (.f (.fs ys i)),H.set b (.bR s' cs (Nat.max g (i*sz)) e .loc))| none=>ae
      else ae
     | _,_=>ae
    else ae
   | _=>ae
  | _=>ae
def zk(H:an):V→Option (V × an)
 | .c (.mi b)=>match H[b]? with
  | some (.vw m d done)=>match H[m]? with
   | some (.map [])=>if done then ae else ab (.t [.bool ah],H)| some (.map [e])=>if done then ab (.t [.bool ah],H)else if d=1 then ab (.t [.bool ag,.c (.f e.1),mV e.2],H.set b (.vw m 1 ag))else ae| _=>ae
  | _=>ae
 | _=>ae
def lW(H:an):V→Option V
 | .c (.mi b)=>match H[b]? with
  | some (.vw m _ ag)=>match H[m]? with
   | some (.map [e])=>ab (.t [.c (.f e.1),mV e.2])| _=>ae
  | _=>ae
 | _=>ae
def tn(H:an):V→Option (V × an)
 | .c (.mp b)=>match H[b]? with
  | some (.map d)=>if d.length≤1 then ab (.c (.mi H.length),H++[.vw b d.length ah])else ae| _=>ae
 | _=>ae
def fcL:List C→Option (List FC)
 | []=>ab []| .f x::xs=>(fcL xs).map (x::·)| _::_=>ae
def bu(aA:T)(H:an):cV→Option (V × an)
 | .bN x=>ab (x.ev aA,H)| .pre o sz=>if o=.loc∨sz=0 then ae else ab (.c (.sl H.length 0 0 0 0 sz),H++[.bR sz [] 0 0 o])
 | .pick c a b=>match c.ev aA with
  | .c (.f (.bool v))=>ab ((if v then a else b).ev aA,H)| _=>ae
 | .alloc zs=>ab (.c (.ptr H.length 0 0),H++[.box (zs.map .f) 0])
 | .box x=>match (x.ev aA).cells? with
  | some xs=>ab (.c (.ptr H.length 0 0),H++[.box xs 0])| none=>ae
 | .build zs ps=>(dw aA (zs.map .f) ps).map fun cs=>(.a cs,H)
 | .aR sz zs n ps=>
  if n=0 then(if ps.isEmpty then ab (.c (.f .es),H)else ae)else
  (dw aA ((cP n zs).map .f) (ps.map fun p=>(p.1*sz,sz,p.2))).map fun cs=>(.c (.sl H.length 0 n n 0 sz),H++[.box cs 0])
 | .load n x=>(aV H n (x.ev aA)).map (·,H)
 | .store n x y=>match x.ev aA,(y.ev aA).cells? with
  | .c p,ab xs=>if xs.length=n then(dn H p xs).map (.top,·)else ae| _,_=>ae
 | .bE x=>match x.ev aA with
  | .c (.ptr b o e)=>ab (.c (.ptr b o e),H)| .c (.f (.fp cs o))=>ab (.c (.f (.fp cs o)),H)| _=>ae
 | .bin u x y=>(bV u (x.ev aA) (y.ev aA)).map (·,H)| .eq neg k x y=>(z6 H k (x.ev aA) (y.ev aA)).map fun b=>(.bool (if neg then !b else b),H)
 | .un u x=>(unV u (x.ev aA)).map (·,H)
 | .eX k x=>match x.ev aA with
  | .c (.f (.int _ n))=>ab (.int k (k.wrap n),H)| _=>ae
 | .yP x=>match x.ev aA with
  | .c (.f (.str s))=>ab (.c (.f (.str s)),H)| _=>ae
 | .vJ x=>(oX H (x.ev aA)).map (·,H)
 | .DJ x=>match x.ev aA with
  | .c (.f (.str s))=>if s.size<2 ^ 48 then ab (.c (.sl H.length 0 s.size 0 0 1),H++[.bR 1 (s.toList.map fun b=>.f (.int .u8 b.toNat)) 0 0 .loc])else ae
  | _=>ae
 | .lz f d=>(aZ sQ (dj aA d)).map fun xs=>(.c (.cl f xs),H)
 | .kD=>ab (.c (.mp H.length),H++[.map []])| .lookup g z m k=>(gw H g z (m.ev aA) (k.ev aA)).map (·,H)
 | .kB g m k v=>match m.ev aA,k.ev aA,su (v.ev aA)with
  | .c (.mp b),.c (.f k),ab v=>match H[b]? with
   | some (.map q)=>if isKey g k then(xJ g k v q).map fun q=>(.top,H.set b (.map q))else ae
   | _=>ae
  | _,_,_=>ae
 | .c4 sz bytes zs l c=>match dD (l.ev aA),dD (c.ev aA)with
  | some l,ab c=>
   if 0≤l∧l≤c∧bU c.toNat bytes=ag∧zs.length=sz then
    (if c=0 then ab (.c (.f .es),H)else
    ab (.c (.sl H.length 0 l.toNat c.toNat 0 sz),H++[.box ((cP c.toNat zs).map .f) 0]))
   else ae
  | _,_=>ae
 | .slice sz x lo hi mx=>(fH H sz (x.ev aA) (lo.map (·.ev aA)) (hi.map (·.ev aA)) (mx.map (·.ev aA))).map (·,H)| .lK n sz x lo hi mx=>(jt H n sz (x.ev aA) (lo.map (·.ev aA)) (hi.map (·.ev aA)) (mx.map (·.ev aA))).map (·,H)| .qM x lo hi=>(vf (x.ev aA) (lo.map (·.ev aA)) (hi.map (·.ev aA))).map (·,H)| .aC off x=>(jB off (x.ev aA)).map (·,H)| .field off n x=>(nB off n (x.ev aA)).map (·,H)| .aS sz j x i=>(aL H sz j (x.ev aA) (i.ev aA)).map (·,H)| .idxs x i=>(Bv (x.ev aA) (i.ev aA)).map (·,H)| .qk len sz n x i=>(mM len sz n (x.ev aA) (i.ev aA)).map (·,H)
 | .range x=>match x.ev aA with
  | .c (.f (.str s))=>ab (.c (.it H.length),H++[.it s 0])| _=>ae
 | .next x=>FW H (x.ev aA)
 | .extract x i=>match x.ev aA with
  | .t B=>(B[i]?).map (·,H)| _=>ae
 | .uD n=>ab (.int .i64 n,H)
 | .lens x=>match x.ev aA with
  | .c (.f (.str s))=>ab (.int .i64 (s.size:Nat),H)| _=>ae
 | .len x=>match x.ev aA with
  | .c y=>match bJ H y with
   | some n=>ab (.int .i64 (n:Nat),H)| none=>ae
  | _=>ae
 | .append sz bytes x y=>bK H sz bytes (x.ev aA) (y.ev aA)| .copy sz x y=>copyV H sz (x.ev aA) (y.ev aA)| .mX lo xs=>(NR lo (dj aA xs)).map (·,H)| .clear sz zs x=>(t_ H sz zs (x.ev aA)).map (.t [],·)| .sO sz bytes zs x n=>Fl H sz bytes zs (x.ev aA) (n.ev aA)| .mw x=>tn H (x.ev aA)| .qy x=>zk H (x.ev aA)| .entry x=>(lW H (x.ev aA)).map (·,H)| .iM sz zs n ps=>((dw aA ((cP n zs).map .f) (ps.map fun p=>(p.1*sz,sz,p.2))).bind fun cs=>if n=0 then ae else fcL cs).map fun A=>(.c (.f (.fs A n)),H)
 | .vY sz x hi mx=>Cj H sz (x.ev aA) (hi.ev aA) (mx.ev aA)| .vN f xs=>(aZ sQ (dj aA xs)).map fun xs=>(.c (.bm f xs),H)
 | .cap x=>match x.ev aA with
  | .c y=>match mR H y with
   | some n=>ab (.int .i64 (n:Nat),H)| none=>ae
  | _=>ae
 | _=>ae
inductive Callee where
 | fn (f:Nat)
 | yield (b:Nat)
abbrev cO:=Callee→List V→an→Option (V × an)
def deep:Nat:=64
def en(call:cO)(c:Nat)(args:List V)(H:an):Option (V × an):=
 match aZ (bX deep H) args with
 | none=>ae
 | some d=>match call (.fn c) d []with
  | none=>ae
  | some (r,b)=>match fZ deep b r with
   | none=>ae| some r'=>ab (r',args.foldl (mkV deep) H)
def ca:V→List V→Option (Callee × List V)
 | .c (.f (.fn f d)),args=>ab (.fn f,args++d.map fun x=>.c (.f x))
 | .c (.cl f d),args=>ab (.fn f,args++d.map .c)| .c (.yl b),args=>ab (.yield b,args)| .c (.bm f first),args=>ab (.fn f,first.map .c++args)
 | _,_=>ae
def gG(call:cO)(h:Bool)(c:Nat)(args:List V)(H:an):Option (V × an):=
 if h then call (.fn c) args H else en call c args H
structure St where
 aA:T
 defs:List dH
 heap:an
def ka(aA:T)(d:Option P)(v:V):T:=
 match d with
 | some d=>aA.set d v| none=>aA
def eG(call:cO)(s:St)(op:cV):Option (V × St):=
 match op with
 | .call f args h=>(gG call h f (dj s.aA args) s.heap).map fun r=>(r.1,{ s with heap:=r.2 })
 | .cj x args _=>match ca (x.ev s.aA) (dj s.aA args)with
  | some (c,args)=>(call c args s.heap).map fun r=>(r.1,{ s with heap:=r.2 })
  | none=>ae
 | .recover=>ab (.c (.f .mZ),s)
 | .defer x args=>match ca (x.ev s.aA) (dj s.aA args)with
  | some (.fn f,args)=>ab (.top,{ s with defs:=.fn f args::s.defs })
  | _=>ae
 | op=>(bu s.aA s.heap op).map fun r=>(r.1,{ s with heap:=r.2 })
def nr{α:Type}(f:α→α→Bool):List α→List α→Bool
 | [],[]=>ag| x::xs,y::ys=>f x y&&nr f xs ys| _,_=>ah
def FC.beq:Nat→FC→FC→Bool
 | _,.bool a,.bool b=>a == b| _,.int j a,.int k b=>decide (j=k)&&a == b| _,.str a,.str b=>decide (a=b)| _,.gE,.gE | _,.aG,.aG | _,.es,.es | _,.kn,.kn | _,.mZ,.mZ | _,.vQ,.vQ=>ag| n+1,.fp xs o,.fp ys o'=>o == o'&&nr (FC.beq n) xs ys| n+1,.fs xs l,.fs ys d=>l == d&&nr (FC.beq n) xs ys| n+1,.fn f xs,.fn g ys=>f == g&&nr (FC.beq n) xs ys| _,_,_=>ah
def C.beq:C→C→Bool
 | .f a,.f b=>FC.beq 64 a b| .ptr a b c,.ptr a' j l=>a == a'&&b == j&&c == l| .sl a b c d e g,.sl a' j l m q g'=>a == a'&&b == j&&c == l&&d == m&&e == q&&g == g'| .mp a,.mp b=>a == b| _,_=>ah
def V.beq:V→V→Bool
 | .c x,.c y=>x.beq y| .a xs,.a ys=>xs.length == ys.length&&(xs.zip ys).all fun p=>p.1.beq p.2
 | _,_=>ah
def wanted(aA:T):Option (P × Bool)→Option Bool
 | none=>ab ag
 | some (r,w)=>match aA.get r with
  | .c (.f (.bool b))=>ab (b == w)| .t []=>ab ah| _=>ae
def fA(call:cO)(s:St)(o:aO):Option St:=
 match wanted s.aA o.g with
 | some ag=>match eG call s o.op with
  | some (v,s')=>ab { s' with aA:=ka s'.aA o.dst v }
  | none=>ae
 | some ah=>ab { s with aA:=ka s.aA o.dst (.t []) }
 | none=>ae
def fv(call:cO):List aO→St→Option St
 | [],s=>ab s
 | o::os,s=>match fA call s o with
  | some s'=>fv call os s'| none=>ae
def dG(call:cO):List aO→St→Option (List St)
 | [],s=>ab [s]
 | o::os,s=>match fA call s o with
  | some s'=>match dG call os s' with
   | some b=>ab (s::b)| none=>ae
  | none=>ae
def sameAt(ops:List aO)(b:List St)(c:Nat × Nat):Bool:=
 match ops[c.1]?,b[c.1]?,b[c.2]? with
 | some o,ab s,ab s'=>match wanted s.aA o.g with
  | some ah=>ag
  | _=>match bu s.aA s.heap o.op,bu s.aA s'.heap o.op with
   | some (v,_),ab (d,_)=>v.beq d| _,_=>ah
 | _,_,_=>ah
def fQ(call:cO)(ops:List aO)(b:List (Nat × Nat))(s:St):Option St:=
 match b with
 | []=>fv call ops s
 | _=>match dG call ops s with
  | some d=>if b.all (sameAt ops d)then d.getLast? else ae| none=>ae
def cV.ec:cV→Bool
 | .defer _ _ | .recover=>ah| _=>ag
inductive cG where
 | code (c:ay)
 | inBlock (id:Nat)
 | inLoop (c:ay)
 | jv (b:Nat)
 | ns
 | inScope (a:ay)
def exitTo(id:Nat):List cG→Option (List cG)
 | []=>ae| .inBlock b::k=>if b == id then ab k else exitTo id k| _::k=>exitTo id k
def findLabel:ay→Nat→Option ay
 | .seq a b,l=>match findLabel a l with
  | some rest=>ab (.seq rest b)| none=>findLabel b l
 | .label d,l=>if d == l then ab .skip else ae| _,_=>ae
def gotoIn(l:Nat):List cG→Option (List cG)
 | []=>ae
 | .inScope body::k=>match findLabel body l with
  | some rest=>ab (.code rest::.inScope body::k)| none=>gotoIn l k
 | _::k=>gotoIn l k
def C.eO(n:Nat):C→Bool
 | .f _=>ag| .ptr b _ _=>decide (b<n)| .sl b _ _ _ _ _=>decide (b<n)| .cl _ _=>ah| .yl b=>decide (b<n)| .mp b=>decide (b<n)| .it b=>decide (b<n)| .mi b=>decide (b<n)| .bm _ _=>ah
def C.under(n:Nat):C→Bool
 | .cl _ d=>d.all (·.eO n)| .f _=>ag| .ptr b _ _=>decide (b<n)| .sl b _ _ _ _ _=>decide (b<n)| .yl b=>decide (b<n)| .mp b=>decide (b<n)| .it b=>decide (b<n)| .mi b=>decide (b<n)| .bm _ first=>first.all (·.eO n)
def run(call:cO)(fn:Nat):Nat→Option Nat→List cG→St→Option (Option ay × St)
 | 0,_,_,_=>ae
 | m+1,j,q,s=>
  match q with
  | []=>ab (ae,s)| .inBlock _::k=>run call fn m j k s| .inLoop c::k=>run call fn m j (.code c::.inLoop c::k) s
  | .jv b::k=>match s.heap[b]? with
   | some (.lp f tmps ps as bd st pending d)=>
    if st=.busy then ae else
    let s:={ s with heap:=s.heap.set b (.lp f tmps ps as bd .exhausted pending d) }
    match pending with
    | none=>run call fn m j k s| some .ret=>run call fn m j (.code .ret::k) s| some (.exit id)=>run call fn m j (.code (.exit id)::k) s| some _=>ae
   | _=>ae
  | .ns::k=>match j with
   | none=>ae
   | some b=>match s.heap[b]? with
    | some (.lp f tmps ps as bd .ready pending d)=>run call fn m j k { s with heap:=s.heap.set b (.lp f tmps ps as bd .busy pending d) }
    | _=>ae
  | .code .skip::k=>run call fn m j k s| .inScope _::k=>run call fn m j k s| .code (.label _)::k=>run call fn m j k s| .code (.scope a)::k=>run call fn m j (.code a::.inScope a::k) s
  | .code (.goto l)::k=>match gotoIn l k with
   | some k=>run call fn m j k s| none=>ae
  | .code .bad::_=>ae| .code .ret::_=>ab (ab .ret,s)
  | .code (.exit id)::k=>match exitTo id k with
   | some k=>run call fn m j k s| none=>if j.isSome then ab (ab (.exit id),s)else ae
  | .code (.seq a b)::k=>run call fn m j (.code a::.code b::k) s| .code (.block id a)::k=>run call fn m j (.code a::.inBlock id::k) s| .code (.loop a)::k=>run call fn m j (.code a::.inLoop a::k) s
  | .code (.cond c a b)::k=>match c.ev s.aA with
   | .c (.f (.bool v))=>run call fn m j (.code (if v then a else b)::k) s| _=>ae
  | .code (.region ops u)::k=>
   if j.isSome&&!ops.all (·.op.ec)then ae else
   match fQ call ops u s with
   | some s=>run call fn m j k s| none=>ae
  | .code (.kR f ps as bd)::k=>
   if j.isSome then ae else
   let d:=s.heap.length
   let H:=s.heap++[.kM ag,.lp fn s.aA ps as bd .ready ae d]
   match ca (f.ev s.aA) [.c (.yl (d+1))]with
   | some (.fn g,args)=>match call (.fn g) args H with
    | some (_,H)=>run call fn m j (.jv (d+1)::k) { aA:=s.aA,defs:=.qb d::s.defs,heap:=H }| none=>ae
   | _=>ae
def dV(call:cO):List dH→an→Option an
 | [],H=>ab H
 | .qb b::ds,H=>match H[b]? with
  | some (.kM ag)=>dV call ds (H.set b (.kM ah))| _=>ae
 | .fn f args::ds,H=>match call (.fn f) args H with
  | some (_,H)=>dV call ds H| none=>ae
def bw(aA:T)(H:an):jr→Option V
 | .tmp t=>match aA.get t with
  | .t _=>ae| v=>ab v
 | .cell t n=>aV H n (aA.get t)
def results(aA:T)(H:an)(b:List jr):Option V:=
 match aZ (bw aA H) b with
 | some [v]=>ab v| some d=>ab (.t d)| none=>ae
def cM:List P→List V→T→T
 | p::ps,v::b,aA=>cM ps b (aA.set p v)| _,_,aA=>aA
def ef(tab:Nat→Option aB)(g:Nat→List V→an→Option (Option (V × an)))(m:Nat):Nat→cO
 | 0,_,_,_=>ae
 | d+1,.fn f,args,H=>
  match g f args H with
  | some r=>r
  | none=>match tab f with
   | none=>ae
   | some q=>if args.length=q.ps.length then match run (ef tab g m d) f m ae [.code q.body] ⟨cM q.ps args .e,[],H⟩with
    | some (_,s)=>match dV (ef tab g m d) s.defs s.heap with
     | some H=>(results s.aA H q.results).map (·,H)| none=>ae
    | none=>ae
    else ae
 | d+1,.yield b,args,H=>
  match H[b]? with
  | some (.lp f tmps ps as bd _ _ _)=>
   if args.length=ps.length then
    match run (ef tab g m d) f m (ab b) [.code as,.ns,.code bd] ⟨cM ps args tmps,[],H⟩with
    | some (j,s)=>
     if s.defs.isEmpty then
      match s.heap[b]? with
      | some (.lp y l v as' u _ _ x)=>ab (.bool j.isNone,s.heap.set b (.lp y l v as' u (if j.isNone then .ready else .done) j x))| _=>ae
     else ae
    | none=>ae
   else ae
  | _=>ae
section
variable(Q:Program)(σ:Nat→FuncId)
def akW:Value→Bool
 | .agg _ | .tuple _=>ah| _=>ag
def ajV:Value→Bool
 | .agg _=>ag| _=>ah
def mK1:FC→Value→Bool
 | .bool a,.bool b=>a == b| .int j a,.int k b=>decide (j=k)&&decide (a=b)| .str a,.string b=>decide (a=b)| .gE,.pointer ae=>ag| .aG,.slice ae 0 0=>ag| .kn,.nilFunc=>ag| .mZ,.nilIface=>ag| .vQ,.map ae=>ag| _,_=>ah
def fK{α β:Type}(f:α→β→Bool):List α→List β→Bool
 | [],[]=>ag| x::xs,y::ys=>f x y&&fK f xs ys| _,_=>ah
def mK:V→Value→Bool
 | .c (.f x),v=>mK1 x v| .a xs,.agg us=>fK (fun x u=>match x with | C.f x=>mK1 x u | _=>ah) xs us.toList
 | .top,.tuple us=>us.isEmpty| _,_=>ah
def mA:Arg→Operand→Bool
 | .r p,.tmp t=>p.toNat == t| .k v,.const u=>mK v u| .k (.c (.f (.fn f []))),.func g=>σ f == g| _,_=>ah
def mAs(xs:List Arg)(ys:Array Operand):Bool:=fK (mA σ) xs ys.toList
def mO:Option Arg→Option Operand→Bool
 | none,ae=>ag| some x,ab y=>mA σ x y| _,_=>ah
def dk(t:TypeId)(n:Nat):Bool:=(Q.info? t).any fun i=>i.size == n
def n8(t:TypeId)(n:Nat):Bool:=(Q.info? t).any fun i=>i.bytes == n
def lO(t:TypeId)(zs:List FC):Bool:=(Q.info? t).any fun i=>match i.zero with
 | some z=>fK mK1 zs z.cells.toList| none=>ah
def vl(t:TypeId)(n:Option Nat):Bool:=match Q.underlying t,n with
 | some (.struct _),ab n | some (.array _ _),ab n=>dk Q t n| some (.struct _),ae | some (.array _ _),ae=>ah| some _,ae=>ag| _,_=>ah
def js:Nat→TypeId→Option (List CK)
 | 0,_=>ae
 | d+1,t=>match Q.underlying t with
  | some .bool=>if dk Q t 1 then ab [.bool]else ae| some (.int _)=>if dk Q t 1 then ab [.int]else ae| some .string=>if dk Q t 1 then ab [.str]else ae
  | some (.struct fs)=>if Q.stoodInHeld t then ae else match qh (js d) 0 fs.toList with
   | some ks=>if dk Q t ks.length then ab ks else ae| none=>ae
  | _=>ae
 where
 qh (rec:TypeId→Option (List CK)) (off:Nat):List Field→Option (List CK)
  | []=>ab []
  | f::fs=>if f.name≠ "_"∧f.offset=off then match rec f.type with
    | some ks=>match qh rec (off+ks.length) fs with
     | some r=>ab (ks++r)| none=>ae
    | none=>ae
   else ae
def sw:Operand→Bool
 | .const _=>ag| _=>ah
def mEq(k:MR)(t:TypeId)(x y:Operand):Bool:=match Q.underlying t,k with
 | some .bool,.bool | some (.pointer _),.ptr | some (.slice _),.sl | some (.func _ _ _),.fn=>ag| some (.interface _),.ifc=>sw x||sw y| some (.struct _),.st ks=>decide (js Q 20 t=ab ks)&&!Q.eqGuardType Q.depth t| _,_=>ah
def nz(t:TypeId):Option TypeId:=match Q.underlying t with
 | some (.slice e)=>ab e| _=>ae
def aot(t:TypeId):Bool:=match Q.underlying t with
 | some (.int .u8)=>ag| _=>ah
def dJ(c:Call):cV→Bool
 | .len x=>match c.callee,c.args.toList,c.argTypes.toList with
  | .builtin .len,[y],[t]=>mA σ x y&&(match Q.underlying t with | some (.slice _)=>ag | _=>ah)
  | _,_,_=>ah
 | .lens x=>match c.callee,c.args.toList,c.argTypes.toList with
  | .builtin .len,[y],[t]=>mA σ x y&&(match Q.underlying t with | some .string=>ag | _=>ah)
  | _,_,_=>ah
 | .uD n=>match c.callee,c.args.toList,c.argTypes.toList with
  | .builtin .len,[_],[t]=>(match Q.underlying t with | some (.array m _)=>decide (n=m) | _=>ah)
  | _,_,_=>ah
 | .append sz bytes x y=>match c.callee,c.args.toList,c.argTypes.toList with
  | .builtin .append,[u,v],[t,b]=>mA σ x u&&mA σ y v&&(nz Q t).any (fun e=>dk Q e sz&&n8 Q e bytes&&decide (0<sz)&&(Q.info? e).any (fun i=>i.zero.any fun z=>decide (z.cells.size=sz)))
    && (match Q.underlying b with | some .string=>ag | some (.slice _)=>ag | _=>ah)
  | _,_,_=>ah
 | .sO sz bytes zs x y=>match c.callee,c.args.toList,c.argTypes.toList with
  | .builtin .append,[u,v],[t,b]=>mA σ x u&&mA σ y v&&(nz Q t).any (fun e=>dk Q e sz&&n8 Q e bytes&&decide (0<sz)&&lO Q e zs)
    && (match Q.underlying b with | some (.int _)=>ag | _=>ah)
  | _,_,_=>ah
 | .copy sz x y=>match c.callee,c.args.toList,c.argTypes.toList with
  | .builtin .copy,[u,v],[t,_]=>mA σ x u&&mA σ y v&&(nz Q t).any (fun e=>dk Q e sz)
  | _,_,_=>ah
 | .mX lo xs=>match c.callee,lo with
  | .builtin .max,ah | .builtin .min,ag=>mAs σ xs c.args| _,_=>ah
 | .cap x=>match c.callee,c.args.toList,c.argTypes.toList with
  | .builtin .cap,[y],[t]=>mA σ x y&&(match Q.underlying t with | some (.slice _)=>ag | _=>ah)
  | _,_,_=>ah
 | .clear sz zs x=>match c.callee,c.args.toList,c.argTypes.toList with
  | .builtin .clear,[y],[t]=>mA σ x y&&(nz Q t).any (fun e=>dk Q e sz&&lO Q e zs)
  | _,_,_=>ah
 | .recover=>match c.callee with
  | .builtin .recover=>ag| _=>ah
 | .call f xs _=>match c.callee with
  | .value (.func g)=>σ f == g&&mAs σ xs c.args| _=>ah
 | .cj x xs _=>match c.callee with
  | .value y=>mA σ x y&&mAs σ xs c.args| _=>ah
 | _=>ah
def NO(b:CK)(t:TypeId):Bool:=match Q.underlying t,b with
 | some (.int _),.int | some .string,.str | some .bool,.bool=>ag| _,_=>ah
def aah(t:TypeId)(qs:List (Nat × Nat × Arg))(ps:List (Nat × Operand)):Bool:=match Q.underlying t with
 | some (.struct b)=>match b.toList.mapM (fun f=>(Q.info? f.type).map fun i=>(f.offset,i.size))with
  | some d=>fK (fun(q:Nat × Nat × Arg) (p:Nat × Operand)=>decide (d[p.1]?=ab (q.1,q.2.1))&&mA σ q.2.2 p.2) qs ps
  | none=>ah
 | some (.array _ e)=>match Q.info? e with
  | some i=>fK (fun(q:Nat × Nat × Arg) (p:Nat × Operand)=>i.size == q.2.1&&q.1 == p.1*q.2.1&&mA σ q.2.2 p.2) qs ps
  | none=>ah
 | _=>ah
def dF(o:Oper)(a:cV):Bool:=match a with
 | .bad=>ag| .bN y=>(match o.op with | .move x | .assign x=>mA σ y x | _=>ah)
 | .pre .nil sz=>(match o.op with | .move (.const (.slice ae 0 0)) | .assign (.const (.slice ae 0 0))=>decide (0<sz) | _=>ah)
 | .pick L A H=>(match o.op with | .pick c x y=>mA σ L c&&mA σ A x&&mA σ H y | _=>ah)
 | .alloc zs=>(match o.op with | .alloc t=>lO Q t zs | _=>ah)
 | .box y=>(match o.op with | .box _ x=>mA σ y x | _=>ah)
 | .build zs qs=>(match o.op with | .build t ps=>lO Q t zs&&aah Q σ t qs ps.toList | _=>ah)
 | .aR sz zs n' qs=>(match o.op with | .buildSlice t n ps=>n == n'&&decide (n*sz≤2 ^ 24)&&(nz Q t).any (fun e=>dk Q e sz&&lO Q e zs&&decide (zs.length=sz))&&decide (0<sz)&&fK (fun(q:Nat × Arg) (p:Nat × Operand)=>q.1 == p.1&&mA σ q.2 p.2) qs ps.toList | _=>ah)
 | .iM sz zs n' qs=>(match o.op with | .buildSlice t n ps=>n == n'&&decide (n*sz≤2 ^ 24)&&(nz Q t).any (fun e=>dk Q e sz&&lO Q e zs&&decide (zs.length=sz))&&decide (0<sz)&&fK (fun(q:Nat × Arg) (p:Nat × Operand)=>q.1 == p.1&&mA σ q.2 p.2) qs ps.toList | _=>ah)
 | .load n y=>(match o.op with | .load t x=>vl Q t n&&mA σ y x | _=>ah)
 | .store n A H=>(match o.op with | .store t x y=>dk Q t n&&mA σ A x&&mA σ H y | _=>ah)
 | .bE y=>(match o.op with | .nilCheck x=>mA σ y x | _=>ah)
 | .bin F A H=>(match o.op with | .binOp J t x y _=>decide (J=F)&&mA σ A x&&mA σ H y | _=>ah)
 | .eq neg k A H=>(match o.op with | .binOp J t x y _=>decide (J=if neg then .neq else .eql)&&mA σ A x&&mA σ H y&&mEq Q k t x y | _=>ah)
 | .un F y=>(match o.op with | .unOp J _ x=>decide (J=F)&&mA σ y x | _=>ah)
 | .eX k y=>(match o.op with | .convert s d x=>mA σ y x&&(Q.underlying s).isSome&&(match Q.underlying d with | some (.int k')=>decide (k=k') | _=>ah) | _=>ah)
 | .yP y=>(match o.op with | .convert s d x=>mA σ y x&&(match Q.underlying s,Q.underlying d with | some .string,ab .string=>ag | _,_=>ah) | _=>ah)
 | .vJ y=>(match o.op with | .convert s d x=>mA σ y x&&(match Q.underlying s,Q.underlying d with | some (.slice e),ab .string=>aot Q e&&dk Q e 1 | _,_=>ah) | _=>ah)
 | .lz g ys=>(match o.op with | .makeFunc (.func f) fst B=>fst.isEmpty&&σ g == f&&mAs σ ys B | _=>ah)
 | .kD=>(match o.op with | .makeMap _ ae=>ag | _=>ah)
 | .c4 sz bytes zs S L=>(match o.op with | .makeSlice t l c=>mA σ S l&&mA σ L c&&(nz Q t).any (fun e=>dk Q e sz&&n8 Q e bytes&&lO Q e zs)&&decide (0<sz) | _=>ah)
 | .slice sz y E b mx'=>(match o.op with | .slice t x lo hi mx=>mA σ y x&&mO σ E lo&&mO σ b hi&&mO σ mx' mx&&(nz Q t).any (fun e=>dk Q e sz)&&decide (0<sz) | _=>ah)
 | .vY sz y b mx'=>(match o.op with | .slice t x ae (ab hi) (ab mx)=>mA σ y x&&mA σ b hi&&mA σ mx' mx&&(nz Q t).any (fun e=>dk Q e sz)&&decide (0<sz) | _=>ah)
 | .qM y E b=>(match o.op with | .slice t x lo hi ae=>mA σ y x&&mO σ E lo&&mO σ b hi&&(match Q.underlying t with | some .string=>ag | _=>ah) | _=>ah)
 | .lK n sz y E b mx'=>(match o.op with | .slice t x lo hi mx=>mA σ y x&&mO σ E lo&&mO σ b hi&&mO σ mx' mx&&(match Q.underlying t with | some (.array n' e)=>n == n'&&dk Q e sz | _=>ah)&&decide (0<sz) | _=>ah)
 | .aC off y=>(match o.op with | .fieldAddr t x i=>mA σ y x&&(match Q.underlying t with | some (.struct N)=>(match N[i]? with | some f=>f.offset == off&&(Q.info? f.type).any (fun i=>i.size != 0) | none=>ah) | _=>ah) | _=>ah)
 | .field off n y=>(match o.op with | .field t x i=>mA σ y x&&(match Q.underlying t with | some (.struct N)=>(match N[i]? with | some f=>f.offset == off&&vl Q f.type n | none=>ah) | _=>ah) | _=>ah)
 | .aS sz K A I=>(match o.op with | .indexAddr t x i=>mA σ A x&&mA σ I i&&(match Q.underlying t,K with | some (.slice e),ae=>dk Q e sz | some (.array n e),ab n'=>n == n'&&dk Q e sz | _,_=>ah) | _=>ah)
 | .idxs A I=>(match o.op with | .index t x i=>mA σ A x&&mA σ I i&&(match Q.underlying t with | some .string=>ag | _=>ah) | _=>ah)
 | .qk n sz k A I=>(match o.op with | .index t x i=>mA σ A x&&mA σ I i&&(match Q.underlying t with | some (.array n' e)=>n == n'&&dk Q e sz&&vl Q e k | _=>ah) | _=>ah)
 | .lookup M z O k'=>(match o.op with | .lookup t m k U=>mA σ O m&&mA σ k' k&&(U ==(sW z).isSome)&&(match Q.underlying t with | some (.map kt e)=>NO Q M kt&&lO Q e (sj ((sW z).getD z))&&(Q.info? e).any (fun i=>i.zero.any fun u=>if E5 ((sW z).getD z)then ajV u else akW u) | _=>ah) | _=>ah)
 | .kB M O k' W=>(match o.op with | .mapUpdate t m k v=>mA σ O m&&mA σ k' k&&mA σ W v&&(match Q.underlying t with | some (.map kt _)=>NO Q M kt | _=>ah) | _=>ah)
 | .range y=>(match o.op with | .range t x=>mA σ y x&&(match Q.underlying t with | some .string=>ag | _=>ah) | _=>ah)
 | .next y=>(match o.op with | .next x ag=>mA σ y x | _=>ah)
 | .extract y j=>(match o.op with | .extract x i=>mA σ y x&&i == j | _=>ah)
 | .defer x xs=>(match o.op with | .defer c=>(match c.callee with | .value y=>mA σ x y&&mAs σ xs c.args | _=>ah) | _=>ah)
 | .len x=>(match o.op with | .call c=>dJ Q σ c (.len x) | _=>ah)
 | .lens x=>(match o.op with | .call c=>dJ Q σ c (.lens x) | _=>ah)
 | .uD n=>(match o.op with | .call c=>dJ Q σ c (.uD n) | _=>ah)
 | .append sz bytes x y=>(match o.op with | .call c=>dJ Q σ c (.append sz bytes x y) | _=>ah)
 | .mX lo xs=>(match o.op with | .call c=>dJ Q σ c (.mX lo xs) | _=>ah)
 | .sO sz bytes zs x y=>(match o.op with | .call c=>dJ Q σ c (.sO sz bytes zs x y) | _=>ah)
 | .cap x=>(match o.op with | .call c=>dJ Q σ c (.cap x) | _=>ah)
 | .clear sz zs x=>(match o.op with | .call c=>dJ Q σ c (.clear sz zs x) | _=>ah)
 | .mw y=>(match o.op with | .range t x=>mA σ y x&&(match Q.underlying t with | some (.map _ _)=>ag | _=>ah) | _=>ah)
 | .qy y=>(match o.op with | .next x ah=>mA σ y x | _=>ah)
 | .entry y=>(match o.op with | .entry x=>mA σ y x | _=>ah)
 | .vN g ys=>(match o.op with | .makeFunc (.func f) fst B=>B.isEmpty&&σ g == f&&mAs σ ys fst | _=>ah)
 | .recover=>(match o.op with | .call c=>dJ Q σ c (.recover) | _=>ah)
 | .call f xs h=>(match o.op with | .call c=>dJ Q σ c (.call f xs h) | _=>ah)
 | .cj x xs h=>(match o.op with | .call c=>dJ Q σ c (.cj x xs h) | _=>ah)
 | _=>ah
inductive Cls where | p | r | a | c | w
 deriving DecidableEq
def cls:cV→Cls
 | .bN _ | .pick .. | .build .. | .un .. | .eX .. | .yP _ | .lz .. | .qM .. | .aC .. | .field .. | .idxs .. | .qk .. | .extract .. | .mX .. | .vN .. | .bE _ | .bin .. | .uD _ | .lens _ | .iM ..=>.p| .load .. | .eq .. | .len _ | .slice .. | .lK .. | .aS .. | .lookup .. | .vJ _ | .cap _ | .entry _=>.r| .alloc _ | .box _ | .kD=>.a| .aR .. | .c4 ..=>.a| .call _ _ ah=>.c| _=>.w
def Arg.rd:Arg→List P
 | .r p=>[p]| .k _=>[]
def oRd:Option Arg→List P
 | some x=>x.rd| none=>[]
def cV.rd:cV→List P
 | .bN x | .box x | .load _ x | .bE x | .un _ x | .eX _ x | .yP x | .vJ x | .DJ x | .aC _ x | .field _ _ x | .range x | .next x | .extract x _ | .len x | .lens x | .cap x | .clear _ _ x | .mw x | .qy x | .entry x=>x.rd| .pre _ _ | .alloc _ | .kD | .recover | .uD _ | .bad=>[]| .pick c a b=>c.rd++a.rd++b.rd| .build _ ps=>ps.flatMap fun p=>p.2.2.rd
 | .aR _ _ _ ps | .iM _ _ _ ps=>ps.flatMap fun p=>p.2.rd
 | .store _ x y | .bin _ x y | .eq _ _ x y | .aS _ _ x y | .idxs x y | .qk _ _ _ x y | .append _ _ x y | .copy _ x y | .sO _ _ _ x y | .lookup _ _ x y | .c4 _ _ _ x y=>x.rd++y.rd| .kB _ x y z | .vY _ x y z=>x.rd++y.rd++z.rd| .lz _ xs | .call _ xs _ | .mX _ xs | .vN _ xs=>xs.flatMap Arg.rd| .cj x xs _ | .defer x xs=>x.rd++xs.flatMap Arg.rd| .slice _ x a b c | .lK _ _ x a b c=>x.rd++oRd a++oRd b++oRd c| .qM x a b=>x.rd++oRd a++oRd b
def aO.rd(o:aO):List P:=(match o.g with | some (p,_)=>[p] | none=>[])++o.op.rd
def aO.apart(x y:aO):Bool:=
 (match x.dst with | some d=>!y.rd.contains d&&y.dst != ab d | none=>ag)&&(match y.dst with | some d=>!x.rd.contains d | none=>ag)
def ua(x y:aO):Bool:=
 match cls x.op,cls y.op with
 | .p,_ | _,.p=>ag| .r,.w | .w,.r=>ag| .w,_ | _,.w=>ah| _,_=>ag
def nI(b:List Nat)(o:Oper):Nat:=o.after.toList.foldl (fun s e=>if Region.binds .any e then s ||| 2 ^ e.on ||| b.getD e.on 0 else s) 0
def du:List Oper→List Nat→List Nat
 | [],b=>b| o::os,b=>du os (b++[nI b o])
def z5(b:List Nat)(i j:Nat):Bool:=(b.getD j 0).testBit i
def oP(aos:List aO):List Nat:=(List.range aos.length).filter fun j=>match aos[j]? with
 | some y=>decide (cls y.op=.w)| none=>ah
def phase(aos:List aO)(i:Nat):Nat:=i+((aos.drop i).takeWhile fun y=>decide (cls y.op≠.w)).length
def FT(b:List Nat)(aos:List aO)(i e:Nat):Bool:=
 (oP aos).all fun j=>if j<e then !z5 b i j else !z5 b j i
def afx(b:List Nat)(aos:List aO)(j:Nat):Bool:=match aos[j]? with
 | some y=>(match y.op with | .alloc _=>ag | _=>ah)&&(oP aos).any fun e=>decide (e<j)&&!z5 b e j
 | none=>ah
def lj(b:List Nat)(aos:List aO):Nat:=((List.range aos.length).find? (afx b aos)).getD aos.length
def Ft(b:List Nat)(aos:List aO)(j:Nat):Bool:=match aos[j]? with
 | some y=>y.g.isNone&&(match y.op with | .alloc _=>ag | _=>ah)&&(match y.dst with
  | some p=>(List.range aos.length).all fun i=>match aos[i]? with
   | some z=>!z.rd.contains p||(oP aos).all fun e=>!decide (e<j)||z5 b e i
   | none=>ag
  | none=>ah)
 | none=>ag
def aaz(ops:List Oper)(aos:List aO)(d:List (Nat × Nat)):Bool:=
 let b:=du ops []
 let n:=aos.length
 ((ops.zip (List.range n)).all fun o=>o.1.after.toList.all fun e=>!Region.binds .any e||decide (e.on<o.2)) &&
 ((List.range n).all fun j=>(List.range j).all fun i=>z5 b i j||(match aos[i]?,aos[j]? with
  | some x,ab y=>x.apart y&&(ua x y||(decide (j=lj b aos)&&decide (cls x.op=.w)))
  | _,_=>ah)) &&
 Ft b aos (lj b aos) &&
 ((List.range n).all fun i=>match aos[i]? with
  | some x=>if cls x.op=.r then(oP aos++[n]).all fun e=>e == phase aos i||!FT b aos i e||d.contains (i,e)else ag
  | none=>ah)
variable(Q:Program)(σ:Nat→FuncId)
def lv(n:Nat)(ops:Array Oper)(o:Oper)(a:aO):Bool:=
 dF Q σ o a.op &&
 (match o.dst,a.dst with | some d,ab p=>p.toNat == d&&decide (d<n) | none,ae=>ag | _,_=>ah) &&
 (match o.guard,a.g with
  | some (j,w),ab (p,w')=>w == w'&&(match (ops[j]?).bind (·.dst)with | some d=>p.toNat == d&&decide (d<n) | none=>ah)
  | none,ae=>ag
  | _,_=>ah)
def mD:ay→Bool
 | .seq a b=>mD a&&mD b| .bad=>ah| _=>ag
def cm(n:Nat):Code→ay→Bool
 | _,.bad=>ag| .skip,.skip=>ag| .region _ ops g,.region aos j=>fK (lv Q σ n ops) ops.toList aos&&(!g||aaz ops.toList aos j)| .seq a b,.seq a' d=>cm n a a'&&cm n b d| .cond c a b,.cond v a' d=>mA σ v c&&cm n a a'&&cm n b d| .block i a,.block m a'=>i == m&&cm n a a'| .loop a,.loop a'=>cm n a a'| .rangeFunc f ps a b,.kR x u a' d=>mA σ x f&&fK (fun p (q:P)=>q.toNat == p&&decide (p<n)) ps.toList u&&cm n a a'&&cm n b d
 | .exit i,.exit m=>i == m| .scope a,.scope a'=>cm n a a'&&mD a'| .label l,.label s=>l == s| .goto l,.goto s=>l == s| .ret,.ret=>ag| _,_=>ah
def zg(n:Nat):ResultVar→jr→Bool
 | .tmp t,.tmp p=>p.toNat == t&&decide (t<n)| .cell t b,.cell p k=>p.toNat == t&&decide (t<n)&&vl Q b k| _,_=>ah
def FP(f:Func)(a:aB):Bool:=
 f.name != "runtime.NumGoroutine" &&
 (match f.body with | some b=>cm Q σ f.ntmps b a.body | none=>ah) &&
 fK (zg Q f.ntmps) f.results.toList a.results &&
 decide (a.ps.map P.toNat=List.range a.ps.length)
end
section
def A2{α β:Type}(R:α→β→Prop)(xs:List α)(ys:List β):Prop:=
 xs.length=ys.length∧∀(i:Nat) x y,xs[i]?=ab x→ys[i]?=ab y→R x y
section A2
variable{α β:Type}{R S:α→β→Prop}{xs xs':List α}{ys ys':List β}
theorem A2.len(h:A2 R xs ys):xs.length=ys.length:=h.1
theorem A2.nil:A2 R [] []:=⟨rfl,by simp⟩
theorem A2.mono(h:A2 R xs ys)(d:∀ x y,x ∈ xs→R x y→S x y):A2 S xs ys:=
 ⟨h.1,fun i x y b hy=>d x y (List.mem_of_getElem? b) (h.2 i x y b hy)⟩
theorem A2.get(h:A2 R xs ys){i:Nat}{x:α}(b:xs[i]?=ab x):∃ y,ys[i]?=ab y∧R x y:=by
 have hi:i<xs.length:=(BY.1 b).1;have hy:i<ys.length:=h.1▸hi;exact⟨ys[i],AT hy,h.2 i x _ b (AT hy)⟩
theorem A2.cons{x:α}{y:β}(j:R x y)(h:A2 R xs ys):A2 R (x::xs) (y::ys):=
 ⟨by simp [h.1],fun i a b d g=>by
  cases i with
  | zero=>simp at d g;subst d;subst g;exact j
  | succ i=>simp at d g;exact h.2 i a b d g⟩
theorem A2.of_cons{x:α}{y:β}(h:A2 R (x::xs) (y::ys)):R x y∧A2 R xs ys:=
 ⟨h.2 0 x y rfl rfl,by simpa using h.1,fun i a b d g=>h.2 (i+1) a b (by simpa using d) (by simpa using g)⟩
theorem A2.append(h:A2 R xs ys)(j:A2 R xs' ys'):A2 R (xs++xs') (ys++ys'):=
 ⟨by simp [h.1,j.1],fun i a b d g=>by
  by_cases hi:i<xs.length
  ·rw [AI hi]at d;rw [AI (h.1▸hi)]at g;exact h.2 i a b d g
  ·rw [at1 (by omega)]at d;rw [at1 (by have:=h.1;omega),←h.1]at g;exact j.2 _ a b d g⟩
theorem A2.take(h:A2 R xs ys)(n:Nat):A2 R (xs.take n) (ys.take n):=
 ⟨by simp [h.1],fun i a b d g=>by
  rw [auo]at d g;split at d
  ·rename_i hi;simp only [hi,if_true]at g;exact h.2 i a b d g
  ·simp at d⟩
theorem A2.drop(h:A2 R xs ys)(n:Nat):A2 R (xs.drop n) (ys.drop n):=
 ⟨by simp [h.1],fun i a b d g=>by
  rw [at8]at d g;exact h.2 _ a b d g⟩
theorem A2.map{l:Type}{g:l→α}{zs:List l}(h:A2 (fun z y=>R (g z) y) zs ys):A2 R (zs.map g) ys:=
 ⟨by simpa using h.1,fun i a b d m=>by
  rw [auN]at d;cases j:zs[i]? with
  | none=>rw [j]at d;simp at d
  | some z=>rw [j]at d;simp at d;subst d;exact h.2 i z b j m⟩
theorem A2.lR(h:A2 R xs ys)(b:∀ x y,R x y→S x y):A2 S xs ys:=h.mono fun x y _=>b x y
end A2
inductive cN(σ:Nat→FuncId)(F:Nat→Nat→Prop)(w:World):FC→Value→Prop
 | bool (b:Bool):cN σ F w (.bool b) (.bool b)
 | int (k:IntKind) (n:Int):cN σ F w (.int k n) (.int k n)
 | str (s:ByteArray):cN σ F w (.str s) (.string s)
 | gE:cN σ F w .gE (.pointer ae)
 | aG:cN σ F w .aG (.slice ae 0 0)
 | es (a:Addr):cN σ F w .es (.slice (ab a) 0 0)
 | kn:cN σ F w .kn .nilFunc
 | mZ:cN σ F w .mZ .nilIface
 | vQ:cN σ F w .vQ (.map ae)
 | fp (cs:List FC) (off c o:Nat) (us:List Value) (hl:us.length=cs.length) (hF:∀ i,i<cs.length→F c (o+i))
   (hc:∀(i:Nat) u,us[i]?=ab u→w.cell? ⟨c,o+i,ae⟩=ab u) (hr:∀(i:Nat) x u,cs[i]?=ab x→us[i]?=ab u→cN σ F w x u) :
   cN σ F w (.fp cs off) (.pointer (ab ⟨c,o+off,ae⟩))
 | fs (cs:List FC) (l c o cap:Nat) (us:List Value) (atz:l≤cap) (hl:us.length=cs.length) (hF:∀ i,i<cs.length→F c (o+i))
   (hc:∀(i:Nat) u,us[i]?=ab u→w.cell? ⟨c,o+i,ae⟩=ab u) (hr:∀(i:Nat) x u,cs[i]?=ab x→us[i]?=ab u→cN σ F w x u) :
   cN σ F w (.fs cs l) (.slice (ab ⟨c,o,ae⟩) l cap)
 | fs0 (a:Addr) (cap:Nat):cN σ F w (.fs [] 0) (.slice (ab a) 0 cap)
 | fn (f:Nat) (M9:List FC) (us:List Value) (hl:us.length=M9.length) (hr:∀(i:Nat) x u,M9[i]?=ab x→us[i]?=ab u→cN σ F w x u) :
   cN σ F w (.fn f M9) (.func (.func (σ f)) #[] us.toArray)
theorem cN.mono{σ:Nat→FuncId}{F q:Nat→Nat→Prop}{w w':World}(s:∀ c i,F c i→q c i)
  (y:∀ c i,F c i→w'.cell? ⟨c,i,ae⟩=w.cell? ⟨c,i,ae⟩) {x:FC} {v:Value} (h:cN σ F w x v):cN σ q w' x v:=by
 induction h with
 | fp cs off c o us d b hc hr m=>
  refine .fp cs off c o us d (fun i hi=>s _ _ (b i hi)) (fun i u hu=>?_) m;rw [y c (o+i) (b i (by rw [←d];exact(BY.1 hu).1))];exact hc i u hu
 | fs cs l c o cap us j d b hc hr m=>
  refine .fs cs l c o cap us j d (fun i hi=>s _ _ (b i hi)) (fun i u hu=>?_) m;rw [y c (o+i) (b i (by rw [←d];exact(BY.1 hu).1))];exact hc i u hu
 | fn f g us d hr m=>exact .fn f g us d m| _=>constructor
theorem cN.one{σ:Nat→FuncId}{F:Nat→Nat→Prop}{w:World}{x:FC}{v:Value}(h:cN σ F w x v):v.oneCell'=ag:=by
 cases h<;>rfl
structure Loc where
 c:Nat
 cap:Nat
structure Wd where
 cC:Nat→Option Loc
 F:Nat→Nat→Prop
 H:an
 w:World
 B:Nat
variable(σ:Nat→FuncId)
def fR(X:Wd):C→Value→Prop
 | .f x,v=>cN σ X.F X.w x v
 | .ptr b off g,v=>∃ L,X.cC b=ab L∧match X.H[b]? with
  | some (.box _ _)=>v=.pointer (ab ⟨L.c,off,ae⟩)| some (.bR _ _ _ e .loc)=>g≤e∧(g=e→v=.pointer (ab ⟨L.c,off,ae⟩))∧∃ a,v=.pointer (ab a)| _=>False
 | .sl b o l cap g sz,v=>match X.H[b]? with
  | some (.box _ _)=>∃ L,X.cC b=ab L∧l≤cap∧v=.slice (ab ⟨L.c,o,ae⟩) l cap
  | some (.bR s _ _ e st)=>g≤e∧(g=e→sz=s→match st with
    | .loc=>∃ L,X.cC b=ab L∧∃ k,o=k*s∧k+l≤L.cap∧v=.slice (ab ⟨L.c,o,ae⟩) l (L.cap-k)| .nil=>o=0∧l=0∧v=.slice ae 0 0
    | .es=>o=0∧l=0∧∃ a,v=.slice (ab a) 0 0)∧∃ a n c,v=.slice a n c
  | _=>False
 | .cl _ _,_=>False| .yl b,v=>∃ L,X.cC b=ab L∧(∃ f t p a j s q d,X.H[b]?=ab (.lp f t p a j s q d))∧v=.func (.yield L.c) #[] #[]| .mp b,v=>∃ L,X.cC b=ab L∧(∃ u,X.H[b]?=ab (.map u))∧v=.map (ab L.c)| .it b,v=>∃ L,X.cC b=ab L∧(∃ s p,X.H[b]?=ab (.it s p))∧v=.pointer (ab ⟨L.c,0,ae⟩)| .mi b,v=>∃ L,X.cC b=ab L∧(∃ m s d,X.H[b]?=ab (.vw m s d))∧v=.pointer (ab ⟨L.c,0,ae⟩)| .bm _ _,_=>False
def CR(X:Wd):C→Value→Prop
 | .cl f b,v=>∃ us,v=.func (.func (σ f)) #[] us.toArray∧A2 (fR σ X) b us| .bm f first,v=>∃ us,v=.func (.func (σ f)) us.toArray #[]∧A2 (fR σ X) first us
 | x,v=>fR σ X x v
theorem fR.one{X:Wd}{x:C}{v:Value}(h:fR σ X x v):v.oneCell'=ag:=by
 cases x with
 | f x=>exact cN.one h
 | ptr b off g=>
  obtain⟨L,_,h⟩:=h;split at h
  ·subst h;rfl
  ·obtain⟨_,_,a,rfl⟩:=h;rfl
  ·exact h.elim
 | sl b o l cap g sz=>
  simp only [fR]at h;split at h
  ·obtain⟨L,_,_,rfl⟩:=h;rfl
  ·obtain⟨_,_,a,n,c,rfl⟩:=h;rfl
  ·exact h.elim
 | cl f d=>exact h.elim| yl b=>obtain⟨L,_,_,rfl⟩:=h;rfl
 | mp b=>obtain⟨L,_,_,rfl⟩:=h;rfl
 | it b=>obtain⟨L,_,_,rfl⟩:=h;rfl
 | mi b=>obtain⟨L,_,_,rfl⟩:=h;rfl
 | bm f first=>exact h.elim
theorem CR.one{X:Wd}{x:C}{v:Value}(h:CR σ X x v):v.oneCell'=ag:=by
 cases x with
 | cl f j=>obtain⟨us,rfl,_⟩:=h;rfl
 | bm f first=>obtain⟨us,rfl,_⟩:=h;rfl
 | mi b=>exact fR.one σ (x:=.mi b) h| f y=>exact fR.one σ (x:=.f y) h| ptr a b c=>exact fR.one σ (x:=.ptr a b c) h| sl a b c d e g=>exact fR.one σ (x:=.sl a b c d e g) h| yl b=>exact fR.one σ (x:=.yl b) h| mp b=>exact fR.one σ (x:=.mp b) h| it b=>exact fR.one σ (x:=.it b) h
theorem CR.of1{X:Wd}{x:C}{v:Value}(h:fR σ X x v):CR σ X x v:=by
 cases x with
 | cl f b=>exact h.elim| bm f first=>exact h.elim
 | _=>exact h
def ju(X:Wd):V→Value→Prop
 | .top,_=>True| .c x,v=>CR σ X x v| .a xs,v=>∃ us,v=.agg us.toArray∧A2 (CR σ X) xs us| .t _,_=>False
def VR(X:Wd):V→Value→Prop
 | .t b,v=>∃ us,v=.tuple us.toArray∧A2 (ju σ X) b us| x,v=>ju σ X x v
theorem VR.of1{X:Wd}{x:V}{v:Value}(h:ju σ X x v):VR σ X x v:=by
 cases x with
 | t b=>exact h.elim| _=>exact h
def rowAt(w:World)(c:Nat)(us:List Value):Prop:=
 ∃ e fr,w.heap[c]?=ab (.cells us.toArray e fr)∧∀ i,i<us.length→¬(fr.1≤i∧i<fr.2)
def mG(X X':Wd)(b:Nat):Prop:=
 ∀ bp,X.H[b]?=ab bp→∃ blk',X'.H[b]?=ab blk'∧match bp,blk' with
  | .box _ _,.box _ _=>∀ L,X.cC b=ab L→X'.cC b=ab L| .bR s _ _ e st,.bR s' _ _ j g=>s=s'∧((e=j∧st=g∧∀ L,X.cC b=ab L→X'.cC b=ab L)∨(e<j∧g=.loc∧∃ L,X'.cC b=ab L))| .map _,.map _=>∀ L,X.cC b=ab L→X'.cC b=ab L| .it _ _,.it _ _=>∀ L,X.cC b=ab L→X'.cC b=ab L| .kM _,.kM _=>∀ L,X.cC b=ab L→X'.cC b=ab L| .vw m s _,.vw v s' _=>(m=v∧s=s')∧∀ L,X.cC b=ab L→X'.cC b=ab L| .lp f t p a c _ _ d,.lp u y x a' l _ _ q=>(f=u∧t=y∧p=x∧a=a'∧c=l∧d=q)∧∀ L,X.cC b=ab L→X'.cC b=ab L| _,_=>False
structure Ext(N:Nat)(X X':Wd):Prop where
 B:X'.B=X.B
 F:∀ c i,X.F c i→X'.F c i
 pT:∀ c i,X'.F c i→X.F c i∨X.w.heap.size≤c∨∃ b L,X.cC b=ab L∧L.c=c
 fw:∀ c i,X.F c i→X'.w.cell? ⟨c,i,ae⟩=X.w.cell? ⟨c,i,ae⟩
 cu:∀ b,b<N→mG X X' b
 xp:∀ b L,X'.cC b=ab L→(∃ b0 L0,X.cC b0=ab L0∧L0.c=L.c)∨X.w.heap.size≤L.c
 size:X.w.heap.size≤X'.w.heap.size
 os:X'.w.os=X.w.os
 tape:X'.w.tape=X.w.tape
 output:X'.w.output=X.w.output
 frame:∀ k,k<X.w.heap.size→(∀ b L,X.cC b=ab L→L.c≠k)→X'.w.heap[k]?=X.w.heap[k]?
structure pS(N:Nat)(X X':Wd):Prop where
 F:∀ c i,X.F c i→X'.F c i
 fw:∀ c i,X.F c i→X'.w.cell? ⟨c,i,ae⟩=X.w.cell? ⟨c,i,ae⟩
 cu:∀ b,b<N→mG X X' b
theorem Ext.W{N:Nat}{X X':Wd}(h:Ext N X X'):pS N X X':=⟨h.F,h.fw,h.cu⟩
theorem mG.refl(X:Wd)(b:Nat):mG X X b:=fun bp h=>⟨bp,h,by cases bp<;>simp⟩
theorem mG.trans{X Y Z:Wd}{b:Nat}(h:mG X Y b)(k:mG Y Z b):mG X Z b:=by
 intro bp v;obtain⟨blk',s,g⟩:=h bp v;obtain⟨l,m,d⟩:=k blk' s;refine⟨l,m,?_⟩;cases bp<;>cases blk'<;>simp only at g<;>cases l<;>simp only at d ⊢
 case box=>exact fun L j=>d L (g L j)
 case map=>exact fun L j=>d L (g L j)
 case it=>exact fun L j=>d L (g L j)
 case kM=>exact fun L j=>d L (g L j)
 case vw=>
  obtain⟨⟨rfl,rfl⟩,g⟩:=g;obtain⟨⟨rfl,rfl⟩,d⟩:=d;exact⟨⟨rfl,rfl⟩,fun L j=>d L (g L j)⟩
 case lp=>
  obtain⟨⟨rfl,rfl,rfl,rfl,rfl,rfl⟩,g⟩:=g;obtain⟨⟨rfl,rfl,rfl,rfl,rfl,rfl⟩,d⟩:=d;exact⟨⟨rfl,rfl,rfl,rfl,rfl,rfl⟩,fun L j=>d L (g L j)⟩
 case bR=>
  obtain⟨rfl,g⟩:=g;obtain⟨rfl,d⟩:=d;refine⟨rfl,?_⟩;rcases g with⟨rfl,rfl,g⟩ | ⟨g,rfl,L,j⟩
  ·rcases d with⟨rfl,rfl,d⟩ | ⟨d,rfl,L,j⟩
   ·exact .inl ⟨rfl,rfl,fun L j=>d L (g L j)⟩
   ·exact .inr ⟨d,rfl,L,j⟩
  ·rcases d with⟨rfl,rfl,d⟩ | ⟨d,rfl,u,q⟩
   ·exact .inr ⟨g,rfl,L,d L j⟩
   ·exact .inr ⟨by omega,rfl,u,q⟩
theorem Ext.refl(N:Nat)(X:Wd):Ext N X X:=
 ⟨rfl,fun _ _ h=>h,fun _ _ h=>.inl h,fun _ _ _=>rfl,fun b _=>mG.refl X b,fun b L h=>.inl ⟨b,L,h,rfl⟩,aft _,rfl,rfl,rfl,fun _ _ _=>rfl⟩
theorem Ext.trans{N:Nat}{X Y Z:Wd}(h:Ext N X Y)(k:Ext N Y Z):Ext N X Z where
 B:=k.B.trans h.B
 F:=fun c i l=>k.F c i (h.F c i l)
 pT:=fun c i l=>by
  rcases k.pT c i l with d | d | ⟨b,L,g,rfl⟩
  ·exact h.pT c i d
  ·exact .inr (.inl (aua h.size d))
  ·rcases h.xp b L g with⟨b0,m,q,d⟩ | d
   ·exact .inr (.inr ⟨b0,m,q,d⟩)
   ·exact .inr (.inl d)
 fw:=fun c i l=>(k.fw c i (h.F c i l)).trans (h.fw c i l)
 cu:=fun b g=>(h.cu b g).trans (k.cu b g)
 xp:=fun b L g=>by
  rcases k.xp b L g with⟨b0,m,q,d⟩ | d
  ·rcases h.xp b0 m q with⟨b1,x,s,y⟩ | s
   ·exact .inl ⟨b1,x,s,y.trans d⟩
   ·exact .inr (d▸s)
  ·exact .inr (aua h.size d)
 size:=aua h.size k.size
 os:=k.os.trans h.os
 tape:=k.tape.trans h.tape
 output:=k.output.trans h.output
 frame:=fun j u v=>by
  rw [k.frame j (auI u h.size) (fun b L g hc=>?_)]
  ·exact h.frame j u v
  ·rcases h.xp b L g with⟨b0,m,q,d⟩ | d
   ·exact v b0 m q (d.trans hc)
   ·omega
theorem Ext.mono{N M:Nat}{X Y:Wd}(h:Ext N X Y)(g:M≤N):Ext M X Y:=
 {h with cu:=fun b d=>h.cu b (auI d g) }
theorem fR.under{X:Wd}{x:C}{v:Value}(h:fR σ X x v):x.eO X.H.length=ag:=by
 have lt:∀(b:Nat) bp,X.H[b]?=ab bp→b<X.H.length:=fun b bp g=>(BY.1 g).1;cases x with
 | f x=>rfl
 | ptr b off u=>
  obtain⟨L,_,h⟩:=h;split at h
  ·rename_i g;simpa [C.eO]using lt _ _ g
  ·rename_i g;simpa [C.eO]using lt _ _ g
  ·exact h.elim
 | sl b o l cap u sz=>
  simp only [fR]at h;split at h
  ·rename_i g;simpa [C.eO]using lt _ _ g
  ·rename_i g;simpa [C.eO]using lt _ _ g
  ·exact h.elim
 | cl f j=>exact h.elim| yl b=>obtain⟨L,_,⟨f,t,p,a,y,s,q,d,g⟩,rfl⟩:=h;simpa [C.eO]using lt _ _ g
 | mp b=>obtain⟨L,_,⟨es,g⟩,rfl⟩:=h;simpa [C.eO]using lt _ _ g
 | it b=>obtain⟨L,_,⟨s,p,g⟩,rfl⟩:=h;simpa [C.eO]using lt _ _ g
 | mi b=>obtain⟨L,_,⟨m,s,d,g⟩,rfl⟩:=h;simpa [C.eO]using lt _ _ g
 | bm f first=>exact h.elim
theorem fR.qg{N:Nat}{X X':Wd}(z:pS N X X'){x:C}{v:Value}(hu:x.eO N=ag)(h:fR σ X x v):fR σ X' x v:=by
 cases x with
 | f x=>exact cN.mono z.F z.fw h
 | ptr b off M=>
  obtain⟨L,y,h⟩:=h;have E:=z.cu b (by simpa [C.eO]using hu);split at h
  ·rename_i cs F u;obtain⟨blk',g,j⟩:=E _ u;cases blk'<;>simp only at j;exact⟨L,j L y,by rw [g];exact h⟩
  ·rename_i s cs F e u;obtain⟨blk',g,j⟩:=E _ u;cases blk'<;>simp only at j;obtain⟨rfl,⟨rfl,rfl,A⟩ | ⟨A,rfl,J,B⟩⟩:=j
   ·exact⟨L,A L y,by rw [g];exact h⟩
   ·exact⟨J,B,by rw [g];exact⟨by omega,fun H=>by omega,h.2.2⟩⟩
  ·exact h.elim
 | sl b o l cap M sz=>
  simp only [fR]at h ⊢;have E:=z.cu b (by simpa [C.eO]using hu);split at h
  ·rename_i cs F u;obtain⟨L,y,h⟩:=h;obtain⟨blk',g,j⟩:=E _ u;cases blk'<;>simp only at j;rw [g];exact⟨L,j L y,h⟩
  ·rename_i s cs F e st u;obtain⟨blk',g,j⟩:=E _ u;cases blk'<;>simp only at j;rw [g];obtain⟨rfl,⟨rfl,rfl,A⟩ | ⟨A,rfl,J,B⟩⟩:=j
   ·refine⟨h.1,fun H O=>?_,h.2.2⟩;have I:=h.2.1 H O;cases st with
    | loc=>obtain⟨L,y,Q⟩:=I;exact⟨L,A L y,Q⟩
    | nil=>exact I| es=>exact I
   ·exact⟨by omega,fun H=>by omega,h.2.2⟩
  ·exact h.elim
 | cl f K=>exact h.elim
 | yl b=>
  obtain⟨L,y,⟨f,t,p,a,S,s,q,d,u⟩,rfl⟩:=h;obtain⟨blk',g,j⟩:=z.cu b (by simpa [C.eO]using hu) _ u;cases blk'<;>simp only at j;exact⟨L,j.2 L y,⟨_,_,_,_,_,_,_,_,g⟩,rfl⟩
 | mp b=>
  obtain⟨L,y,⟨es,u⟩,rfl⟩:=h;obtain⟨blk',g,j⟩:=z.cu b (by simpa [C.eO]using hu) _ u;cases blk'<;>simp only at j;exact⟨L,j L y,⟨_,g⟩,rfl⟩
 | it b=>
  obtain⟨L,y,⟨s,p,u⟩,rfl⟩:=h;obtain⟨blk',g,j⟩:=z.cu b (by simpa [C.eO]using hu) _ u;cases blk'<;>simp only at j;exact⟨L,j L y,⟨_,_,g⟩,rfl⟩
 | mi b=>
  obtain⟨L,y,⟨m,s,d,u⟩,rfl⟩:=h;obtain⟨blk',g,j⟩:=z.cu b (by simpa [C.eO]using hu) _ u;cases blk'<;>simp only at j;exact⟨L,j.2 L y,⟨_,_,_,g⟩,rfl⟩
 | bm f first=>exact h.elim
theorem CR.qg{N:Nat}{X X':Wd}(j:pS N X X'){x:C}{v:Value}(hu:x.under N=ag)(h:CR σ X x v):CR σ X' x v:=by
 cases x with
 | cl f m=>
  obtain⟨us,rfl,h⟩:=h;refine⟨us,rfl,h.mono fun y u hy l=>fR.qg σ j ?_ l⟩;exact at4.1 hu y hy
 | bm f first=>
  obtain⟨us,rfl,h⟩:=h;refine⟨us,rfl,h.mono fun y u hy l=>fR.qg σ j ?_ l⟩;exact at4.1 hu y hy
 | mi b=>exact fR.qg σ j (x:=.mi b) hu h| f y=>exact fR.qg σ j (x:=.f y) hu h| ptr a b c=>exact fR.qg σ j (x:=.ptr a b c) hu h| sl a b c d e g=>exact fR.qg σ j (x:=.sl a b c d e g) hu h| yl b=>exact fR.qg σ j (x:=.yl b) hu h| mp b=>exact fR.qg σ j (x:=.mp b) hu h| it b=>exact fR.qg σ j (x:=.it b) hu h
end
section
variable(Q:Program)(σ:Nat→FuncId)
theorem CR.under{X:Wd}{x:C}{v:Value}(h:CR σ X x v):x.under X.H.length=ag:=by
 cases x with
 | cl f j=>
  obtain⟨us,rfl,h⟩:=h;simp only [C.under,at4];intro y hy;obtain⟨i,hi⟩:=auH hy;obtain⟨u,_,hu⟩:=h.get hi;exact fR.under σ hu
 | bm f j=>
  obtain⟨us,rfl,h⟩:=h;simp only [C.under,at4];intro y hy;obtain⟨i,hi⟩:=auH hy;obtain⟨u,_,hu⟩:=h.get hi;exact fR.under σ hu
 | mi b=>exact fR.under σ (x:=.mi b) h| f y=>rfl| ptr a b c=>exact fR.under σ (x:=.ptr a b c) h| sl a b c d e g=>exact fR.under σ (x:=.sl a b c d e g) h| yl b=>exact fR.under σ (x:=.yl b) h| mp b=>exact fR.under σ (x:=.mp b) h| it b=>exact fR.under σ (x:=.it b) h
theorem CR.dS{X X':Wd}(b:pS X.H.length X X'){x:C}{v:Value}(h:CR σ X x v):CR σ X' x v:=CR.qg σ b (CR.under σ h) h
theorem A2.dS{X X':Wd}(b:pS X.H.length X X'){xs:List C}{us:List Value}(h:A2 (CR σ X) xs us):A2 (CR σ X') xs us:=
 h.lR fun _ _ h=>CR.dS σ b h
theorem ju.dS{X X':Wd}(b:pS X.H.length X X'){x:V}{v:Value}(h:ju σ X x v):ju σ X' x v:=by
 cases x with
 | top=>trivial| c x=>exact CR.dS σ b h| a xs=>obtain⟨us,rfl,h⟩:=h;exact⟨us,rfl,A2.dS σ b h⟩
 | t d=>exact h.elim
theorem VR.dS{X X':Wd}(b:pS X.H.length X X'){x:V}{v:Value}(h:VR σ X x v):VR σ X' x v:=by
 cases x with
 | t d=>obtain⟨us,rfl,h⟩:=h;exact⟨us,rfl,h.lR fun _ _ h=>ju.dS σ b h⟩
 | top=>trivial| c x=>exact ju.dS σ (x:=.c x) b h| a xs=>exact ju.dS σ (x:=.a xs) b h
def RR(X:Wd)(aA:T)(tmps:Array Value):Prop:=∀ p,VR σ X (aA.get p) (tmps.getD p.toNat undef)
theorem RR.dS{X X':Wd}(b:pS X.H.length X X'){aA:T}{tmps:Array Value}(h:RR σ X aA tmps):RR σ X' aA tmps:=fun p=>VR.dS σ b (h p)
theorem CR.ext'{X X':Wd}(b:Ext X.H.length X X'){x:C}{v:Value}(h:CR σ X x v):CR σ X' x v:=CR.dS σ b.W h
theorem A2.ext'{X X':Wd}(b:Ext X.H.length X X'){xs:List C}{us:List Value}(h:A2 (CR σ X) xs us):A2 (CR σ X') xs us:=A2.dS σ b.W h
theorem ju.ext'{X X':Wd}(b:Ext X.H.length X X'){x:V}{v:Value}(h:ju σ X x v):ju σ X' x v:=ju.dS σ b.W h
theorem VR.ext'{X X':Wd}(b:Ext X.H.length X X'){x:V}{v:Value}(h:VR σ X x v):VR σ X' x v:=VR.dS σ b.W h
theorem RR.ext'{X X':Wd}(b:Ext X.H.length X X'){aA:T}{tmps:Array Value}(h:RR σ X aA tmps):RR σ X' aA tmps:=RR.dS σ b.W h
theorem T.qi(t:T)(p q:P)(v:V):(t.set p v).get q=if p=q then v else t.get q:=by
 induction t generalizing p q with
 | e=>
  induction p generalizing q with
  | h=>cases q<;>simp [T.set,T.get]
  | o p b=>cases q<;>simp [T.set,T.get,b]
  | i p b=>cases q<;>simp [T.set,T.get,b]
 | n l j r d g=>cases p<;>cases q<;>simp [T.set,T.get,d,g]
theorem P.toNat_inj{p q:P}(h:p.toNat=q.toNat):p=q:=by
 induction p generalizing q with
 | h=>cases q<;>simp [P.toNat]at h ⊢
 | o p b=>
  cases q with
  | h=>simp [P.toNat]at h| o q=>simp only [P.toNat]at h;rw [b (q:=q) (by omega)]
  | i q=>simp [P.toNat]at h;omega
 | i p b=>
  cases q with
  | h=>simp [P.toNat]at h| o q=>simp [P.toNat]at h;omega| i q=>simp only [P.toNat]at h;rw [b (q:=q) (by omega)]
theorem RR.set{X:Wd}{aA:T}{tmps:Array Value}(h:RR σ X aA tmps){p:P}(g:p.toNat<tmps.size){v:V}{u:Value}(j:VR σ X v u) :
  RR σ X (aA.set p v) (tmps.setIfInBounds p.toNat u):=by
 intro q;rw [T.qi];by_cases d:p=q
 ·subst d;simpa [g]using j
 ·have b:p.toNat≠q.toNat:=fun e=>d (P.toNat_inj e);simpa [d,Array.getD_eq_getD_getElem?,Array.getElem?_setIfInBounds_ne b]using h q
def gm.of:gm→LoopState
 | .ready=>.ready| .busy=>.busy| .done=>.done| .exhausted=>.exhausted
def xC(n:Nat):Option ay→Option Code→Prop
 | none,ae=>True| some a,ab c=>cm Q σ n c a=ag| _,_=>False
def BR(X:Wd):c6→Loc→Prop
 | .box cs y,L=>∃ us,rowAt X.w L.c us∧A2 (CR σ X) cs us∧∀ i,y≤i→¬ X.F L.c i| .bR sz cs y _ st,L=>st=.loc∧∃ us rest,rowAt X.w L.c (us++rest)∧A2 (CR σ X) cs us∧(us++rest).length=L.cap*sz∧0<sz∧(∃ n,cs.length=n*sz)∧∀ i,y≤i→¬ X.F L.c i| .map x,L=>∃ g:List MapEntry,X.w.heap[L.c]?=ab (.map g.toArray g.length)∧A2 (fun e m=>cN σ X.F X.w e.1 m.key∧ju σ X (mV e.2) m.val) x g∧∀(i:Nat) m,g[i]?=ab m→m.born=i
 | .vw m j done,L=>∃(B:Loc) (z:Array Nat) (st:Nat),X.cC m=ab B∧(∃ x,X.H[m]?=ab (.map x))∧X.w.heap[L.c]?=ab (.mapIter (ab B.c) j z st)∧(if done then z=#[0]∧st=1 else z=#[])| .it s pos,L=>X.w.heap[L.c]?=ab (.stringIter s pos)| .kM b,L=>X.w.heap[L.c]?=ab (.deferred (if b then ab []else ae))
 | .lp f tmps ps as bd st u d,L=>∃(n:Nat) (us:Array Value) (v:Array Tmp) (as' l:Code) (pend':Option Code) (A:Loc),
   X.w.heap[L.c]?=ab (.loop { state:=st.of,pending:=pend',fn:=σ f,tmps:=us,params:=v,assign:=as',body:=l,defers:=A.c }) ∧
   n≤us.size∧RR σ X tmps us∧fK (fun p (q:P)=>q.toNat == p&&decide (p<n)) v.toList ps=ag∧cm Q σ n as' as=ag∧cm Q σ n l bd=ag∧xC Q σ n u pend'∧X.cC d=ab A∧∃ o,X.H[d]?=ab (.kM o)
theorem BR.qg{X X':Wd}(q:pS X.H.length X X'){bp:c6}{L:Loc}(x:X'.w.heap[L.c]?=X.w.heap[L.c]?)(S:∀ i,X'.F L.c i→X.F L.c i)(h:BR Q σ X bp L):BR Q σ X' bp L:=by
 cases bp with
 | box cs W=>
  obtain⟨us,⟨e,fr,j,g⟩,l,u⟩:=h;exact⟨us,⟨e,fr,x.trans j,g⟩,A2.dS σ q l,fun i hi H=>u i hi (S i H)⟩
 | bR sz cs W ep st=>
  obtain⟨I,us,rest,⟨e,fr,j,g⟩,l,u,y,E,F⟩:=h;exact⟨I,us,rest,⟨e,fr,x.trans j,g⟩,A2.dS σ q l,u,y,E,fun i hi H=>F i hi (S i H)⟩
 | map es=>
  obtain⟨A,j,g,l⟩:=h;exact⟨A,x.trans j,g.lR fun _ _ h=>⟨cN.mono q.F q.fw h.1,ju.dS σ q h.2⟩,l⟩
 | vw m K done=>
  obtain⟨N,sn,st,j,⟨es,g⟩,l,u⟩:=h;obtain⟨blk',v,y⟩:=q.cu m (BY.1 g).1 _ g;cases blk'<;>simp only at y;exact⟨N,sn,st,y N j,⟨_,v⟩,x.trans l,u⟩
 | it s pos=>exact x.trans h| kM b=>exact x.trans h
 | lp f tmps ps as bd st U d=>
  obtain⟨n,us,J,as',B,pend',M,j,g,l,u,y,E,F,Y,o,O⟩:=h;have Z:d<X.H.length:=(BY.1 O).1;obtain⟨blk',v,z⟩:=q.cu d Z _ O;cases blk'<;>simp only at z;exact⟨n,us,J,as',B,pend',M,x.trans j,g,RR.dS σ q l,u,y,E,F,z M Y,_,v⟩
theorem BR.ext{X X':Wd}(g:Ext X.H.length X X'){bp:c6}{L:Loc}(d:X'.w.heap[L.c]?=X.w.heap[L.c]?)(b:∀ i,X'.F L.c i→X.F L.c i)(h:BR Q σ X bp L):BR Q σ X' bp L:=BR.qg Q σ g.W d b h
structure SR(X:Wd):Prop where
 br:∀ b L,X.cC b=ab L→X.B≤L.c∧L.c<X.w.heap.size∧∃ bp,X.H[b]?=ab bp∧BR Q σ X bp L
 inj:∀ b b' L L',X.cC b=ab L→X.cC b'=ab L'→L.c=L'.c→b=b'
 fb:∀ c i,X.F c i→c<X.w.heap.size
theorem SR.step{X X':Wd}(A:SR Q σ X)(z:Ext X.H.length X X')(b0:Nat)(F:∀ b,b≠b0→X'.H[b]?=X.H[b]?)(d:∀ b,b≠b0→X'.cC b=X.cC b)
  (H:∀ b L,b≠b0→X.cC b=ab L→X'.w.heap[L.c]?=X.w.heap[L.c]?) (E:∀ b L,b≠b0→X.cC b=ab L→∀ i,X'.F L.c i→X.F L.c i)
  (s:∀ L,X'.cC b0=ab L→X.B≤L.c∧L.c<X'.w.heap.size∧(∃ bp,X'.H[b0]?=ab bp∧BR Q σ X' bp L)∧∀ b l,b≠b0→X.cC b=ab l→l.c≠L.c)
  (y:∀ c i,X'.F c i→c<X'.w.heap.size):SR Q σ X' where
 br:=fun b L g=>by
  rw [z.B];by_cases h:b=b0
  ·subst h;obtain⟨u,v,x,_⟩:=s L g;exact⟨u,v,x⟩
  ·rw [d b h]at g;obtain⟨u,v,bp,x,B⟩:=A.br b L g;exact⟨u,auI v z.size,bp,(F b h).trans x,BR.ext Q σ z (H b L h g) (E b L h g) B⟩
 fb:=fun c i h=>y c i h
 inj:=fun b m L l g j hc=>by
  by_cases h:b=b0<;>by_cases q:m=b0
  ·rw [h,q]
  ·subst h;rw [d m q]at j;exact absurd hc.symm ((s L g).2.2.2 m l q j)
  ·subst q;rw [d b h]at g;exact absurd hc ((s l j).2.2.2 b L h g)
  ·rw [d b h]at g;rw [d m q]at j;exact A.inj b m L l g j hc
end
section
variable{Q:Program}{σ:Nat→FuncId}{X:Wd}
theorem a5{t:TypeId}{d:TypeDesc}(h:Q.underlying t=ab d)(w:World):(underlying t).run Q w=.ok d w:=by
 simp [underlying,h]
theorem c5{t:TypeId}{n:Nat}(h:dk Q t n=ag)(w:World):(Go.sizeOf t).run Q w=.ok n w:=by
 unfold dk at h;cases hi:Q.info? t with
 | none=>simp [hi]at h| some i=>simp [hi]at h;simp [Go.sizeOf,typeInfo,hi,h]
theorem zG{t:TypeId}{n:Nat}(h:n8 Q t n=ag)(w:World):∃ i,(typeInfo t).run Q w=.ok i w∧i.bytes=n:=by
 unfold n8 at h;cases hi:Q.info? t with
 | none=>simp [hi]at h| some i=>simp [hi]at h;exact⟨i,by simp [typeInfo,hi],h⟩
theorem Gq{t:TypeId}{n:Option Nat}(h:vl Q t n=ag)(w:World):(isAgg t).run Q w=.ok n.isSome w∧∀ k,n=ab k→dk Q t k=ag:=by
 unfold vl at h;cases b:Q.underlying t with
 | none=>simp [b]at h
 | some d=>
  cases d<;>cases n<;>simp_all [isAgg,a5 b]
theorem ee(c o k:Nat):(⟨c,o,ae⟩:Addr).add k=⟨c,o+k,ae⟩:=by unfold Addr.add;split<;>simp_all
theorem dR{w:World}{c:Nat}{us:List Value}(h:rowAt w c us)(i:Nat):w.cell? ⟨c,i,ae⟩=us[i]?:=by
 obtain⟨e,fr,h,_⟩:=h;simp [World.cell?,h]
theorem DQ{w:World}{c:Nat}{us:List Value}(h:rowAt w c us){i:Nat}(hi:i<us.length):w.frozen? ⟨c,i,ae⟩=ah:=by
 obtain⟨e,fr,h,b⟩:=h;have:=b i hi;simp only [World.frozen?,h];simp only [Bool.and_eq_false_iff,decide_eq_false_iff_not];omega
theorem tY(A:SR Q σ X){x:C}{v:Value}(g:CR σ X x v){cs:List C}(h:aF X.H x=ab cs) :
  ∃ c o us,v=.pointer (ab ⟨c,o,ae⟩)∧(∀(i:Nat) u,us[i]?=ab u→X.w.cell? ⟨c,o+i,ae⟩=ab u)∧A2 (CR σ X) cs us:=by
 cases x with
 | ptr b off H=>
  obtain⟨L,z,g⟩:=g;obtain⟨_,_,bp,m,j⟩:=A.br b L z;simp only [aF,m]at h;rw [m]at g;cases bp with
  | box cs' y=>
   simp only [sh]at h;subst h;subst g;obtain⟨us,hr,l,_⟩:=j;exact⟨L.c,off,us.drop off,rfl,fun i u d=>by rw [dR hr];rw [at8]at d;exact d,l.drop off⟩
  | bR s cs' y e st=>
   cases st<;>simp only at h g
   ·split at h
    ·rename_i E;simp only [sh]at h;subst h;obtain⟨_,g,_⟩:=g;have g:=g E;subst g;obtain⟨_,us,rest,hr,l,_⟩:=j;refine⟨L.c,off,us.drop off,rfl,fun i u d=>?_,l.drop off⟩;rw [dR hr];rw [at8]at d;rw [AI (BY.1 d).1];exact d
    ·simp at h
   all_goals exact g.elim
  | _=>simp at h
 | f x=>
  cases x with
  | fp cs' off=>
   simp only [aF,sh]at h;subst h;cases g with
   | fp _ _ c o us F I B hr=>
    refine⟨c,o+off,us.drop off,rfl,fun i u d=>?_,A2.map ⟨by simp [F],fun i x u q d=>?_⟩⟩
    ·rw [at8]at d;have:=B _ u d;rwa [show o+(off+i)=o+off+i by omega]at this
    ·rw [at8]at q d;exact hr _ x u q d
  | _=>simp [aF]at h
 | _=>simp [aF]at h
theorem Cp{t:TypeId}{n:Option Nat}(z:vl Q t n=ag){c o:Nat}{us:List Value}{cs:List C}{w:World}
  (q:∀(i:Nat) u,us[i]?=ab u→w.cell? ⟨c,o+i,ae⟩=ab u) (g:A2 (CR σ X) cs us) {v:V} (b:aK n cs=ab v) :
  ∃ u,(loadVar t ⟨c,o,ae⟩).run Q w=.ok u w∧VR σ X v u:=by
 obtain⟨m,s⟩:=Gq z w;cases n with
 | none=>
  cases cs with
  | nil=>simp [aK]at b
  | cons x cs=>
   simp only [aK,sh]at b;subst b;obtain⟨u,A,l⟩:=g.get (i:=0) (x:=x) rfl;have:=q 0 u A;simp only [Nat.add_zero]at this;exact⟨u,by simp [loadVar,m,this],l⟩
 | some n=>
  simp only [aK]at b;split at b
  ·rename_i B;simp only [sh]at b;subst b;have y:(us.take n).length=n:=by have:=g.len;simp;omega
   have:=run_loadCells_list (P:=Q) w ⟨c,o,ae⟩ (us.take n) (fun j v d=>by
    rw [ee];rw [auo]at d;split at d
    ·exact q j v d
    ·simp at d)
   rw [y]at this;refine⟨.agg (us.take n).toArray,?_,⟨us.take n,rfl,g.take n⟩⟩;simp [loadVar,m,c5 (s n rfl),this]
  ·simp at b
theorem akF(q:SR Q σ X){t:TypeId}{n:Option Nat}(s:vl Q t n=ag){x:V}{p:Value}(y:VR σ X x p){v:V}(h:aV X.H n x=ab v) :
  ∃ u,(Instr.loadAt t p).run Q X.w=.ok u X.w∧VR σ X v u:=by
 cases x with
 | c x=>
  simp only [aV,aue]at h;obtain⟨cs,b,d⟩:=h;obtain⟨c,o,us,rfl,g,j⟩:=tY q y b;obtain⟨u,l,m⟩:=Cp s g j d;exact⟨u,by simp [Instr.loadAt,Instr.sureAddr,l],m⟩
 | _=>simp [aV]at h
end
section
variable{Q:Program}{σ:Nat→FuncId}{X:Wd}
theorem VR.int{k:IntKind}{n:Int}{u:Value}(h:VR σ X (.c (.f (.int k n))) u):u=.int k n:=by cases (h:cN σ X.F X.w (.int k n) u);rfl
theorem VR.bool{b:Bool}{u:Value}(h:VR σ X (.c (.f (.bool b))) u):u=.bool b:=by cases (h:cN σ X.F X.w (.bool b) u);rfl
theorem VR.str{s:ByteArray}{u:Value}(h:VR σ X (.c (.f (.str s))) u):u=.string s:=by cases (h:cN σ X.F X.w (.str s) u);rfl
theorem VR.mkInt(k:IntKind)(n:Int):VR σ X (V.int k n) (.int k n):=cN.int k n
theorem VR.uK(b:Bool):VR σ X (V.bool b) (.bool b):=cN.bool b
theorem VR.mkStr(s:ByteArray):VR σ X (.c (.f (.str s))) (.string s):=cN.str s
theorem ey{α β:Type}{f:α→β→Bool}:∀ {xs:List α} {ys:List β},fK f xs ys=ag→A2 (fun x y=>f x y=ag) xs ys
 | [],[],_=>A2.nil
 | x::xs,y::ys,h=>by
  simp only [fK,If]at h;exact A2.cons h.1 (ey h.2)
 | [],_::_,h=>by simp [fK]at h
 | _::_,[],h=>by simp [fK]at h
theorem D8{F:Nat→Nat→Prop}{w:World}{x:FC}{u:Value}(h:mK1 x u=ag):cN σ F w x u:=by
 unfold mK1 at h;split at h
 ·simp only [beq_iff_eq]at h;subst h;exact .bool _
 ·simp only [If,decide_eq_true_eq]at h;obtain⟨rfl,rfl⟩:=h;exact .int _ _
 ·simp only [decide_eq_true_eq]at h;subst h;exact .str _
 ·exact .gE
 ·exact .aG
 ·exact .kn
 ·exact .mZ
 ·exact .vQ
 ·simp at h
theorem aoC{x:V}{u:Value}(h:mK x u=ag):VR σ X x u:=by
 unfold mK at h;split at h
 ·exact D8 h
 ·refine⟨_,by simp,(ey h).lR fun y w b=>?_⟩;split at b
  ·exact D8 b
  ·simp at b
 ·trivial
 ·simp at h
theorem bS{a:Act}{aA:T}(b:RR σ X aA a.tmps){x:Arg}{y:Operand}(h:mA σ x y=ag):VR σ X (x.ev aA) (a.eval y):=by
 unfold mA at h;split at h
 ·rename_i p t;simp only [beq_iff_eq]at h;subst h;exact b p
 ·exact aoC h
 ·simp only [beq_iff_eq]at h;subst h;exact cN.fn _ [] [] rfl (by simp)
 ·simp at h
theorem nH{a:Act}{aA:T}(j:RR σ X aA a.tmps){xs:List Arg}{ys:Array Operand}(h:mAs σ xs ys=ag):A2 (VR σ X) (dj aA xs) (ys.map a.eval).toList:=by
 have:=(ey h).lR fun x y b=>bS j b;refine⟨by simpa [dj]using this.len,fun i v u g d=>?_⟩;simp only [dj,auN,IN]at g;simp only [Array.toList_map,auN,IN]at d;obtain⟨x,l,rfl⟩:=g;obtain⟨y,m,rfl⟩:=d;exact this.2 i x y l m
theorem aoD{a:Act}{aA:T}(g:RR σ X aA a.tmps){x:Option Arg}{y:Option Operand}(h:mO σ x y=ag) :
  (x=ae∧y=ae)∨∃ b d,x=ab b∧y=ab d∧VR σ X (b.ev aA) (a.eval d):=by
 unfold mO at h;split at h
 ·exact .inl ⟨rfl,rfl⟩
 ·exact .inr ⟨_,_,rfl,rfl,bS g h⟩
 ·simp at h
theorem afn{b:BinOp}{k:IntKind}{x y:Int}{v:V}(h:kJ b k x y=ab v)(w:World) :
  ∃ u,(binOp b 0 (.int k x) (.int k y)).run Q w=.ok u w∧VR σ X v u∧∀ t,binOp b t (.int k x) (.int k y)=binOp b 0 (.int k x) (.int k y):=by
 unfold kJ at h;split at h<;>(try split at h)<;>(try simp only [sh,reduceCtorEq]at h)<;>(try subst h)
 all_goals first
  | (refine⟨_,?_,VR.mkInt _ _,fun _=>by simp [binOp]⟩;simp [binOp,Op.intArith,Op.intBits];done)
  | (refine⟨_,?_,VR.uK _,fun _=>by simp [binOp]⟩;simp [binOp,Op.intCmp];done)
  | (rename_i d;refine⟨_,?_,VR.mkInt _ _,fun _=>by simp [binOp]⟩;simp [binOp,Op.intDiv,d];done)
theorem afp{b:BinOp}{x y:ByteArray}{v:V}(h:Zw b x y=ab v)(w:World)(t:TypeId) :
  ∃ u,(binOp b t (.string x) (.string y)).run Q w=.ok u w∧VR σ X v u:=by
 unfold Zw at h;split at h<;>(try split at h)<;>(try simp only [sh,reduceCtorEq]at h)<;>(try subst h)
 all_goals first
  | exact⟨_,by simp [binOp,Op.stringOp],VR.uK _⟩
  | (rename_i d;exact⟨_,by simp only [binOp,Op.stringOp];rw [aY d];rfl,VR.mkStr _⟩)
  | skip
end
section
variable{Q:Program}{σ:Nat→FuncId}{X:Wd}
theorem tc:∀ {ks:List CK} {xs ys:List C} {b:Bool},rC ks xs ys=ab b→xs.length=ks.length∧ys.length=ks.length
 | [],[],[],_,_=>⟨rfl,rfl⟩
 | k::ks,x::xs,y::ys,b,h=>by
  simp only [rC]at h;split at h
  ·rename_i d;have:=tc d;simp [this]
  ·simp at h
 | [],_::_,_,_,h=>by simp [rC]at h
 | [],[],_::_,_,h=>by simp [rC]at h
 | _::_,[],_,_,h=>by simp [rC]at h
 | _::_,_::_,[],_,h=>by simp [rC]at h
theorem ui:∀ {ks d:List CK} {xs ys:List C} {b:Bool},rC (ks++d) xs ys=ab b →
  ∃ b1 g,rC ks (xs.take ks.length) (ys.take ks.length)=ab b1∧rC d (xs.drop ks.length) (ys.drop ks.length)=ab g∧b=(b1&&g)
 | [],d,xs,ys,b,h=>⟨ag,b,rfl,by simpa using h,by simp⟩
 | k::ks,d,[],ys,b,h=>by simp [rC]at h
 | k::ks,d,x::xs,[],b,h=>by simp [rC]at h
 | k::ks,d,x::xs,y::ys,b,h=>by
  simp only [List.cons_append,rC]at h;split at h
  ·rename_i a c m q;simp only [sh]at h;obtain⟨b1,g,j,l,rfl⟩:=ui q;refine⟨a&&b1,g,?_,by simpa using l,by rw [←h,Bool.and_assoc]⟩;simp [rC,m,j]
  ·simp at h
def CKv:CK→Value→Value→Bool→Prop
 | .bool,u,v,b=>∃ p q,u=.bool p∧v=.bool q∧b=(p == q)| .int,u,v,b=>∃ j p q,u=.int j p∧v=.int j q∧b=(p == q)| .str,u,v,b=>∃ p q,u=.string p∧v=.string q∧b=(p == q)
theorem td{k:CK}{x y:C}{b:Bool}(h:OB k x y=ab b){u v:Value}(d:CR σ X x u)(g:CR σ X y v):CKv k u v b:=by
 unfold OB at h;split at h
 ·simp only [sh]at h;exact⟨_,_,VR.bool (σ:=σ) (X:=X) d,VR.bool (σ:=σ) (X:=X) g,h.symm⟩
 ·split at h
  ·rename_i j;subst j;simp only [sh]at h;exact⟨_,_,_,VR.int (σ:=σ) (X:=X) d,VR.int (σ:=σ) (X:=X) g,h.symm⟩
  ·simp at h
 ·simp only [sh]at h;exact⟨_,_,VR.str (σ:=σ) (X:=X) d,VR.str (σ:=σ) (X:=X) g,h.symm⟩
 ·simp at h
theorem BZ:∀(d:Nat) (t:TypeId) (ks:List CK),js Q d t=ab ks→∀(D:Nat),d≤D→∀(us W:List Value) (off:Nat) (xs ys:List C) (b:Bool) (w:World),
  rC ks xs ys=ab b→A2 (CR σ X) xs ((us.drop off).take ks.length)→A2 (CR σ X) ys ((W.drop off).take ks.length) →
  ∃ a c,(part t us.toArray off).run Q w=.ok a w∧(part t W.toArray off).run Q w=.ok c w∧(Op.equalIn D t a c).run Q w=.ok b w
 | 0,_,_,h,_,_,_,_,_,_,_,_,_,_,_,_=>by simp [js]at h
 | d+1,t,ks,h,0,hD,_,_,_,_,_,_,_,_,_,_=>by omega
 | d+1,t,ks,h,D+1,hD,us,W,off,xs,ys,b,w,M,hx,hy=>by
  have hl:=tc M;have m:∀(k:CK),ks=[k]→(∀ I,Q.underlying t=ab I→(match I with | .struct _ | .array _ _=>False | _=>True))→(∃ I,Q.underlying t=ab I) →
    ∃ x y u v,xs=[x]∧ys=[y]∧OB k x y=ab b∧CR σ X x u∧CR σ X y v∧(part t us.toArray off).run Q w=.ok u w∧(part t W.toArray off).run Q w=.ok v w:=by
   intro k z a9 g;subst z;obtain⟨I,g⟩:=g;have a9:=a9 I g
   match xs,ys,hl with
   | [x],[y],_=>
    simp only [rC]at M;split at M
    ·rename_i a c ha hc;simp only [sh]at hc M;subst hc;simp at M;subst M;obtain⟨u,d6,d7⟩:=hx.get (i:=0) (x:=x) rfl;obtain⟨v,d8,d9⟩:=hy.get (i:=0) (x:=y) rfl;have e1:us[off]?=ab u:=by simpa [auo,at8]using d6
     have e2:W[off]?=ab v:=by simpa [auo,at8]using d8
     have a7:(isAgg t).run Q w=.ok ah w:=by
      cases I<;>simp_all [isAgg,a5 g]
     exact⟨x,y,u,v,rfl,rfl,ha,d7,d9,by simp [part,a7,e1],by simp [part,a7,e2]⟩
    ·simp at M
  unfold js at h;split at h
  ·rename_i g;split at h
   ·simp only [sh]at h;obtain⟨x,y,u,v,rfl,rfl,E,Y,Z,N,h4⟩:=m .bool h.symm (fun I s=>by rw [g]at s;cases s;trivial) ⟨_,g⟩;obtain⟨p,q,rfl,rfl,rfl⟩:=td E Y Z;exact⟨_,_,N,h4,run_equalIn_bool' w D t _ _ g⟩
   ·simp at h
  ·rename_i j g;split at h
   ·simp only [sh]at h;obtain⟨x,y,u,v,rfl,rfl,E,Y,Z,N,h4⟩:=m .int h.symm (fun I s=>by rw [g]at s;cases s;trivial) ⟨_,g⟩;obtain⟨j',p,q,rfl,rfl,rfl⟩:=td E Y Z;exact⟨_,_,N,h4,run_equalIn_int w D t _ _ _ _ g⟩
   ·simp at h
  ·rename_i g;split at h
   ·simp only [sh]at h;obtain⟨x,y,u,v,rfl,rfl,E,Y,Z,N,h4⟩:=m .str h.symm (fun I s=>by rw [g]at s;cases s;trivial) ⟨_,g⟩;obtain⟨p,q,rfl,rfl,rfl⟩:=td E Y Z;exact⟨_,_,N,h4,by rw [run_equalIn_string w D t _ _ g,beq_toListBytes]⟩
   ·simp at h
  ·rename_i fs g;split at h
   ·simp at h
   ·rename_i d5;split at h
    ·rename_i U hf;split at h
     ·rename_i a_;simp only [sh]at h;subst h;have L:(isAgg t).run Q w=.ok ag w:=by simp [isAgg,a5 g]
      have S:Q.underlying t=ab (.struct (Q.fieldsOf t)):=by simp [Program.fieldsOf,g]
      have c_:Q.fieldsOf t=fs:=by rw [g]at S;simpa using S.symm
      refine⟨.agg ((us.drop off).take U.length).toArray,.agg ((W.drop off).take U.length).toArray,?_,?_,?_⟩
      ·simp [part,L,c5 a_,au1]
      ·simp [part,L,c5 a_,au1]
      ·rw [run_equalIn_struct w D t _ _ S (by simpa using d5),c_];have key:∀(l:List Field) (k:Nat) (J:List CK) (b2:Bool),js.qh (js Q d) k l=ab J→∀(A B:List Value) (F H:List C),
         rC J (F.drop k) (H.drop k)=ab b2→A2 (CR σ X) F A→A2 (CR σ X) H B→(Op.eqFields D A.toArray B.toArray l).run Q w=.ok b2 w:=by
        intro l;induction l with
        | nil=>
         intro k J b2 z A B F H E _ _;simp only [js.qh,sh]at z;subst z;have:=tc E;simp only [List.length_nil,List.length_eq_zero_iff]at this;rw [this.1,this.2]at E;simp only [rC,sh]at E;subst E;simp [Op.eqFields]
        | cons f l ih=>
         intro k J b2 z A B F H E b7 b9;simp only [js.qh]at z;split at z
         ·rename_i O;obtain⟨hn,ho⟩:=O;subst ho;split at z
          ·rename_i K N;split at z
           ·rename_i r hr;simp only [sh]at z;subst z;obtain⟨b1,b3,b_,c9,rfl⟩:=ui E;obtain⟨a,c,h5,h6,h7⟩:=BZ d f.type K N D (by omega) A B f.offset _ _ b1 w b_ (by have:=(b7.drop f.offset).take K.length;simpa using this) (by have:=(b9.drop f.offset).take K.length;simpa using this);have d_:=ih (f.offset+K.length) r b3 hr A B F H (by simpa [List.drop_drop]using c9) b7 b9;simp only [Op.eqFields,hn,ne_eq,not_false_eq_true,if_true,Sem.run_bind,h5,h6,h7,Result.andThen_ok];cases b1<;>simp [d_]
           ·simp at z
          ·simp at z
         ·simp at z
       exact key fs.toList 0 U b hf _ _ xs ys (by simpa using M) hx hy
     ·simp at h
    ·simp at h
  ·simp at h
def arx:MR→Value→Bool→Prop
 | .ptr,u,b=>∃ a,u=.pointer a∧b=a.isNone| .sl,u,b=>∃ a n c,u=.slice a n c∧b=a.isNone| .fn,u,b=>(u=.nilFunc∧b=ag)∨∃ f p q,u=.func f p q∧b=ah| .ifc,u,b=>u=.nilIface∧b=ag| _,_,_=>False
theorem qn{k:MR}{x:C}{u:Value}(d:CR σ X x u){b:Bool}(h:isNil X.H k x=ab b):arx k u b:=by
 unfold isNil at h;split at h<;>try simp only [sh,reduceCtorEq]at h
 ·cases (d:cN σ X.F X.w .gE u);subst h;exact⟨_,rfl,rfl⟩
 ·cases (d:cN σ X.F X.w (.fp _ _) u);subst h;exact⟨_,rfl,rfl⟩
 ·obtain⟨L,_,d⟩:=d;subst h;split at d
  ·subst d;exact⟨_,rfl,rfl⟩
  ·obtain⟨_,_,a,rfl⟩:=d;exact⟨_,rfl,rfl⟩
  ·exact d.elim
 ·cases (d:cN σ X.F X.w .aG u);subst h;exact⟨_,_,_,rfl,rfl⟩
 ·cases (d:cN σ X.F X.w .es u);subst h;exact⟨_,_,_,rfl,rfl⟩
 ·cases (d:cN σ X.F X.w (.fs _ _) u)<;>(subst h;exact⟨_,_,_,rfl,rfl⟩)
 ·rename_i m o l c q sz;simp only [CR,fR]at d;split at h
  ·rename_i g;rw [g]at d;obtain⟨L,_,_,rfl⟩:=d;simp only [sh]at h;subst h;exact⟨_,_,_,rfl,rfl⟩
  ·rename_i s cs v e st g;rw [g]at d;split at h
   ·rename_i j;have:=d.2.1 j.1 j.2;simp only [sh]at h;subst h;cases st with
    | loc=>obtain⟨L,_,k,_,_,rfl⟩:=this;exact⟨_,_,_,rfl,rfl⟩
    | nil=>obtain⟨_,_,rfl⟩:=this;exact⟨_,_,_,rfl,rfl⟩
    | es=>obtain⟨_,_,a,rfl⟩:=this;exact⟨_,_,_,rfl,rfl⟩
   ·simp at h
  ·simp at h
 ·cases (d:cN σ X.F X.w .kn u);subst h;exact .inl ⟨rfl,rfl⟩
 ·cases (d:cN σ X.F X.w (.fn _ _) u);subst h;exact .inr ⟨_,_,_,rfl,rfl⟩
 ·obtain⟨us,rfl,_⟩:=d;subst h;exact .inr ⟨_,_,_,rfl,rfl⟩
 ·obtain⟨us,rfl,_⟩:=d;subst h;exact .inr ⟨_,_,_,rfl,rfl⟩
 ·cases (d:cN σ X.F X.w .mZ u);subst h;exact⟨rfl,rfl⟩
theorem BX{d:Nat}{t:TypeId}{ks:List CK}(h:js Q d t=ab ks):dk Q t ks.length=ag:=by
 cases d with
 | zero=>simp [js]at h
 | succ d=>
  unfold js at h;split at h
  ·split at h
   ·simp only [sh]at h;subst h;assumption
   ·simp at h
  ·split at h
   ·simp only [sh]at h;subst h;assumption
   ·simp at h
  ·split at h
   ·simp only [sh]at h;subst h;assumption
   ·simp at h
  ·split at h
   ·simp at h
   ·split at h
    ·split at h
     ·simp only [sh]at h;subst h;assumption
     ·simp at h
    ·simp at h
  ·simp at h
theorem ZW{t e:TypeId}(b:Q.underlying t=ab (.pointer e))(D:Nat)(a:Option Addr)(w:World):(Op.equalIn (D+1) t (.pointer a) (.pointer ae)).run Q w=.ok a.isNone w:=by
 cases a<;>simp [Op.equalIn,a5 b]
theorem afD{t e:TypeId}(b:Q.underlying t=ab (.slice e))(D:Nat)(a:Option Addr)(n c:Nat)(w:World):(Op.equalIn (D+1) t (.slice a n c) (.slice ae 0 0)).run Q w=.ok a.isNone w:=by
 cases a<;>simp [Op.equalIn,a5 b]
theorem afB{t:TypeId}{p r:Array TypeId}{v:Bool}(b:Q.underlying t=ab (.func p r v))(D:Nat)(w:World):(Op.equalIn (D+1) t .nilFunc .nilFunc).run Q w=.ok ag w:=by
 simp [Op.equalIn,a5 b]
theorem afA{t:TypeId}{p r:Array TypeId}{v:Bool}(b:Q.underlying t=ab (.func p r v))(D:Nat)(f:Fn)(x y:Array Value)(w:World):(Op.equalIn (D+1) t (.func f x y) .nilFunc).run Q w=.ok ah w:=by
 simp [Op.equalIn,a5 b]
theorem afC{t:TypeId}{d:Array (String × TypeId)}(b:Q.underlying t=ab (.interface d))(D:Nat)(w:World):(Op.equalIn (D+1) t .nilIface .nilIface).run Q w=.ok ag w:=by
 simp [Op.equalIn,a5 b]
theorem Nv{t:TypeId}{x y:Operand}(b:(sw x||sw y)=ag)(d:BinOp)(w:World):(eqGuard d t x y .nilIface .nilIface).run Q w=.ok () w:=by
 simp only [Bool.or_eq_true]at b;rcases b with b | b
 ·cases x<;>simp only [sw,atY]at b;cases d<;>rfl
 ·cases y<;>simp only [sw,atY]at b;cases x<;>cases d<;>rfl
theorem akj{k:MR}{t:TypeId}{x y:Operand}(z:mEq Q k t x y=ag){H I:V}{m d:Value}(u:VR σ X H m)(v:VR σ X I d){b:Bool}
  (h:z6 X.H k H I=ab b) (neg:Bool) (w:World) :
  (do eqGuard (if neg then .neq else .eql) t x y m d;binOp (if neg then .neq else .eql) t m d).run Q w=.ok (.bool (if neg then !b else b)) w:=by
 have g:(binOp .eql t m d=do pure (.bool (←Op.equal t m d)))→(binOp .neq t m d=do pure (.bool (!(←Op.equal t m d)))) →
   (∀ j,(eqGuard j t x y m d).run Q w=.ok () w)→(Op.equalIn 10000 t m d).run Q w=.ok b w →
   (do eqGuard (if neg then .neq else .eql) t x y m d;binOp (if neg then .neq else .eql) t m d).run Q w=.ok (.bool (if neg then !b else b)) w:=by
  intro E F A N;cases neg
  ·simp only [atY,if_false,Sem.run_bind,A,Result.andThen_ok,E,Op.equal,Op.maxDepth,N,Sem.run_pure]
  ·simp only [if_true,Sem.run_bind,A,Result.andThen_ok,F,Op.equal,Op.maxDepth,N,Sem.run_pure]
 unfold mEq at z;unfold z6 at h;split at z
 ·rename_i l;split at h<;>try simp only [reduceCtorEq]at *
  obtain⟨p,q,rfl,rfl,rfl⟩:=td h u v;exact g rfl rfl (fun j=>by cases j<;>rfl) (run_equalIn_bool' w 9999 t _ _ l)
 ·rename_i l;split at h<;>try simp only [reduceCtorEq]at *
  obtain⟨a,rfl,rfl⟩:=qn u h;cases (v:cN σ X.F X.w .gE d);exact g rfl rfl (fun j=>by cases j<;>rfl) (ZW l 9999 a w)
 ·rename_i l;split at h<;>try simp only [reduceCtorEq]at *
  obtain⟨a,n,c,rfl,rfl⟩:=qn u h;cases (v:cN σ X.F X.w .aG d);exact g rfl rfl (fun j=>by cases j<;>rfl) (afD l 9999 a n c w)
 ·rename_i l;split at h<;>try simp only [reduceCtorEq]at *
  cases (v:cN σ X.F X.w .kn d);rcases qn u h with⟨rfl,rfl⟩ | ⟨f,p,q,rfl,rfl⟩
  ·exact g rfl rfl (fun j=>by cases j<;>rfl) (afB l 9999 w)
  ·exact g rfl rfl (fun j=>by cases j<;>rfl) (afA l 9999 f p q w)
 ·rename_i l;split at h<;>try simp only [reduceCtorEq]at *
  cases (v:cN σ X.F X.w .mZ d);obtain⟨rfl,rfl⟩:=qn u h;refine g rfl rfl (fun j=>?_) ?_
  ·have M:(sw x||sw y)=ag:=z;exact Nv M j w
  ·exact afC l 9999 w
 ·rename_i Y ks l;obtain⟨xs,ys,rfl,rfl,h⟩:∃ xs ys,H=.a xs∧I=.a ys∧rC ks xs ys=ab b:=by
   cases H<;>cases I<;>first | exact⟨_,_,rfl,rfl,h⟩ | simp at h
  simp only [If,decide_eq_true_eq,Bool.not_eq_true']at z;obtain⟨W,U⟩:=z;obtain⟨us,rfl,O⟩:=u;obtain⟨J,rfl,S⟩:=v;have Z:=tc h;have B:=BX W;have s:(isAgg t).run Q w=.ok ag w:=by simp [isAgg,a5 l]
  have t1:us.take ks.length=us:=at6 (by have:=O.len;omega);have t2:J.take ks.length=J:=at6 (by have:=S.len;omega);obtain⟨a,c,E,F,A⟩:=BZ 20 t ks W 10000 (by omega) us J 0 _ _ b w h (by simpa [t1]using O) (by simpa [t2]using S);have K:a=.agg us.toArray:=by
   simp [part,s,c5 B,au1,t1]at E;exact E.symm
  have L:c=.agg J.toArray:=by
   simp [part,s,c5 B,au1,t2]at F;exact F.symm
  subst K;subst L;cases neg
  ·simp only [atY,if_false,Sem.run_bind,run_eqGuard_agg w _ t x y _ _ U,Result.andThen_ok,run_eql_struct,A]
  ·simp only [if_true,Sem.run_bind,run_eqGuard_agg w _ t x y _ _ U,Result.andThen_ok,run_neq_struct,A]
 ·simp at z
end
section
variable{Q:Program}{σ:Nat→FuncId}{X:Wd}
theorem jD{x:V}{u:Value}(h:VR σ X x u){i:Int}(hi:dD x=ab i):∃ k,u=.int k i:=by
 unfold dD at hi;split at hi
 ·simp only [sh]at hi;subst hi;exact⟨_,VR.int h⟩
 ·simp at hi
theorem rv{x:V}{u:Value}(h:VR σ X x u){y i:Nat}(b:CD x y=ab i){g:Nat}(q:y≤g)(d:BoundsCode)(w:World) :
  i≤y∧(Instr.sliceBound u g d).run Q w=.ok i w:=by
 unfold CD at b;split at b
 ·rename_i j l;obtain⟨k,rfl⟩:=jD h l;split at b
  ·rename_i m;simp only [sh]at b;subst b;refine⟨by omega,?_⟩;have:0≤j∧j≤(g:Int):=by omega
   simp [Instr.sliceBound,asIntOf,this]
  ·simp at b
 ·simp at b
def OR(X:Wd)(σ:Nat→FuncId):Option V→Option Value→Prop
 | none,ae=>True| some x,ab u=>VR σ X x u| _,_=>False
theorem dO{lo hi mx:Option V}{d j mx':Option Value}(v:OR X σ lo d)(A:OR X σ hi j)(F:OR X σ mx mx'){len c l h m:Nat}
  (b:cL len c lo hi mx=ab (l,h,m)) {cap:Nat} (J:c≤cap) (O:len≤c) (s:Bool) (w:World) :
  (Instr.sliceBounds s len cap d j mx').run Q w=.ok (l,h,if mx.isSome then m else cap) w∧l≤h∧h≤m∧m≤c:=by
 unfold cL at b;cases mx with
 | some z=>
  cases mx'<;>simp only [OR]at F;rename_i U;simp only [avz,aue]at b;obtain⟨S,M,b⟩:=b;obtain⟨N,E⟩:=rv (Q:=Q) F M J (if s then .slice3Acap else .slice3Alen) w;cases hi with
  | none=>simp at b
  | some y=>
   cases j<;>simp only [OR]at A;simp only [auf,aue]at b;obtain⟨L,H,b⟩:=b;obtain⟨I,g⟩:=rv (Q:=Q) A H (aft _) .slice3B w;cases lo with
   | none=>
    cases d<;>simp only [OR]at v;simp at b;obtain⟨rfl,rfl,rfl⟩:=b;simp [Instr.sliceBounds,E,g];omega
   | some x=>
    cases d<;>simp only [OR]at v;simp only [aue]at b;obtain⟨K,q,b⟩:=b;obtain⟨B,u⟩:=rv (Q:=Q) v q (aft _) .slice3C w;simp at b;obtain⟨rfl,rfl,rfl⟩:=b;simp [Instr.sliceBounds,E,g,u];omega
 | none=>
  cases mx'<;>simp only [OR]at F;cases hi with
  | none=>
   cases j<;>simp only [OR]at A;cases lo with
   | none=>
    cases d<;>simp only [OR]at v;simp at b;obtain⟨rfl,rfl,rfl⟩:=b;simp [Instr.sliceBounds];omega
   | some x=>
    cases d<;>simp only [OR]at v;simp only [avz,auf,aue]at b;obtain⟨K,q,b⟩:=b;obtain⟨B,u⟩:=rv (Q:=Q) v q (aft _) .sliceB w;simp at b;obtain⟨rfl,rfl,rfl⟩:=b;simp [Instr.sliceBounds,u];omega
  | some y=>
   cases j<;>simp only [OR]at A;simp only [avz,auf,aue]at b;obtain⟨L,H,b⟩:=b;obtain⟨I,g⟩:=rv (Q:=Q) A H J (if s then .sliceAcap else .sliceAlen) w;cases lo with
   | none=>
    cases d<;>simp only [OR]at v;simp at b;obtain⟨rfl,rfl,rfl⟩:=b;simp [Instr.sliceBounds,g];omega
   | some x=>
    cases d<;>simp only [OR]at v;simp only [aue]at b;obtain⟨K,q,b⟩:=b;obtain⟨B,u⟩:=rv (Q:=Q) v q (aft _) .sliceB w;simp at b;obtain⟨rfl,rfl,rfl⟩:=b;simp [Instr.sliceBounds,g,u];omega
theorem eL{t e:TypeId}{sz:Nat}(g:Q.underlying t=ab (.slice e))(b:dk Q e sz=ag){a:Option Addr}{len cap:Nat}{lo hi mx:Option Value}{l h m:Nat}{w:World}
  (d:(Instr.sliceBounds ag len cap lo hi mx).run Q w=.ok (l,h,m) w) :
  (Instr.sliceAt t (.slice a len cap) lo hi mx).run Q w=.ok (.slice (if m=l then a else a.map (·.add (l*sz))) (h-l) (m-l)) w:=by
 simp [Instr.sliceAt,Instr.slice,a5 g,d,c5 b]
theorem x9{t e:TypeId}{sz:Nat}(d:Q.underlying t=ab (.slice e))(j:dk Q e sz=ag){x:V}{u:Value}(E:VR σ X x u)
  {lo hi mx:Option V} {a9 a7 mx':Option Value} (H:OR X σ lo a9) (I:OR X σ hi a7) (J:OR X σ mx mx') {v:V} (h:fH X.H sz x lo hi mx=ab v) :
  ∃ r,(Instr.sliceAt t u a9 a7 mx').run Q X.w=.ok r X.w∧VR σ X v r:=by
 unfold fH at h;split at h
 ·
  split at h
  ·rename_i r A;obtain⟨l,g,m⟩:=r;simp only [sh]at h;subst h;cases (E:cN σ X.F X.w .aG u);obtain⟨q,K,N,O⟩:=dO (Q:=Q) H I J A (aft 0) (aft 0) ag X.w;refine⟨_,eL d j q,?_⟩;have:l=0∧g=0∧m=0:=by omega
   obtain⟨rfl,rfl,rfl⟩:=this;simp;exact cN.aG
  ·simp at h
 ·split at h
  ·rename_i r A;obtain⟨l,g,m⟩:=r;simp only [sh]at h;subst h;cases (E:cN σ X.F X.w .es u);obtain⟨q,K,N,O⟩:=dO (Q:=Q) H I J A (aft 0) (aft 0) ag X.w;refine⟨_,eL d j q,?_⟩;have:l=0∧g=0∧m=0:=by omega
   obtain⟨rfl,rfl,rfl⟩:=this;simp;exact cN.es _
  ·simp at h
 ·
  rename_i cs n;split at h
  ·rename_i l g m A;have b7:(∃(c o cap:Nat) (us:List Value),n≤cap∧us.length=cs.length∧(∀ i,i<cs.length→X.F c (o+i))∧(∀(i:Nat) u,us[i]?=ab u→X.w.cell? ⟨c,o+i,ae⟩=ab u) ∧
     (∀(i:Nat) x u,cs[i]?=ab x→us[i]?=ab u→cN σ X.F X.w x u)∧u=.slice (ab ⟨c,o,ae⟩) n cap)∨(cs=[]∧n=0∧∃ a cap,u=.slice (ab a) 0 cap):=by
    cases (E:cN σ X.F X.w (.fs cs n) u)with
    | fs _ _ c o cap us z hl hF Z hr=>exact .inl ⟨c,o,cap,us,z,hl,hF,Z,hr,rfl⟩| fs0 a cap=>exact .inr ⟨rfl,rfl,a,cap,rfl⟩
   rcases b7 with⟨c,o,cap,us,z,hl,hF,Z,hr,rfl⟩ | ⟨rfl,rfl,a,cap,rfl⟩
   ·obtain⟨q,K,N,O⟩:=dO (Q:=Q) H I J A z (aft n) ag X.w;split at h
    ·rename_i y;simp only [sh]at h;subst h;rw [bg y.1]at q;obtain⟨_,rfl⟩:=y;refine⟨_,eL d j q,?_⟩;rw [show g-m=0 by omega,show m-m=0 by omega,bg rfl];exact cN.es _
    ·simp only [sh]at h;subst h;refine⟨_,eL d j q,?_⟩;generalize S:(if mx.isSome=ag then m else cap)=M;have a_:g≤M:=by rw [←S];split<;>omega
     by_cases B:M=l
     ·rw [bg B,show g-l=0 by omega];simp;exact cN.fs0 _ _
     ·rw [aY B];simp only [auz,ee];refine cN.fs _ _ c (o+l*sz) _ ((us.drop (l*sz)).take ((g-l)*sz)) (by omega) (by simp [hl]) (fun i hi=>?_) (fun i u d=>?_) (fun i x u E d=>?_)
      ·have:=hF (l*sz+i) (by simp at hi;omega);rwa [show o+(l*sz+i)=o+l*sz+i by omega]at this
      ·rw [auo]at d;split at d
       ·rw [at8]at d;have:=Z _ u d;rwa [show o+(l*sz+i)=o+l*sz+i by omega]at this
       ·simp at d
      ·rw [auo]at d E;split at d
       ·rename_i hi;rw [bg hi]at E;rw [at8]at d E;exact hr _ x u E d
       ·simp at d
   ·obtain⟨q,K,N,O⟩:=dO (Q:=Q) H I J A (Nat.zero_le cap) (aft 0) ag X.w;have:l=0∧g=0∧m=0:=by omega
    obtain⟨rfl,rfl,rfl⟩:=this;refine⟨_,eL d j q,?_⟩;split at h
    ·rename_i y;simp only [sh]at h;subst h;simp [y.1];exact cN.es _
    ·simp only [sh]at h;subst h;have ho:∀ M,∃ a',(if M=0 then ab a else Option.map (fun(x:Addr)=>x.add (0*sz)) (ab a))=ab a':=by intro M;split<;>exact⟨_,rfl⟩
     obtain⟨a',U⟩:=ho (if mx.isSome=ag then 0 else cap);rw [U];simp;exact cN.fs0 _ _
  ·simp at h
 ·
  rename_i b o n cap ep s;simp only [VR,ju,CR,fR]at E;split at h
  ·rename_i F;rw [F]at E;obtain⟨L,hL,z,rfl⟩:=E;split at h
   ·rename_i l g m A;obtain⟨q,K,N,O⟩:=dO (Q:=Q) H I J A (aft cap) z ag X.w;have hm:(if mx.isSome=ag then m else cap)=m:=by
     split
     ·rfl
     ·rename_i hn;cases mx with
      | some _=>simp at hn| none=>unfold cL at A;cases hi<;>cases lo<;>simp [aue]at A<;>omega
    rw [hm]at q;refine⟨_,eL d j q,?_⟩;split at h
    ·rename_i B;simp only [sh]at h;subst h;rw [bg B,show g-l=0 by omega,show m-l=0 by omega];exact cN.es _
    ·rename_i B;simp only [sh]at h;subst h;rw [aY B];simp only [auz,ee,VR,ju,CR,fR,F];exact⟨L,hL,by omega,rfl⟩
   ·simp at h
  ·rename_i s' cs fl e st F;rw [F]at E;split at h
   ·rename_i Z;obtain⟨rfl,rfl,rfl⟩:=Z;have Y:=E.2.1 rfl rfl;cases st with
    | loc=>
     obtain⟨L,hL,k,rfl,hk,rfl⟩:=Y;simp only at h;split at h
     ·rename_i l g m A;obtain⟨q,K,N,O⟩:=dO (Q:=Q) H I J A (show n≤L.cap-k by omega) (aft n) ag X.w;refine⟨_,eL d j q,?_⟩;generalize S:(if mx.isSome=ag then m else L.cap-k)=M;have a_:g≤M:=by rw [←S];split<;>omega
      split at h
      ·rename_i y;simp only [sh]at h;subst h;rw [bg y.1]at S;subst S;obtain⟨_,rfl⟩:=y;rw [show g-m=0 by omega,show m-m=0 by omega,bg rfl];exact cN.es _
      ·split at h
       ·rename_i y;simp only [sh]at h;subst h;rw [show g-l=0 by omega];have ho:∃ a',(if M=l then ab (⟨L.c,k*s',ae⟩:Addr)else Option.map (fun(x:Addr)=>x.add (l*s')) (ab ⟨L.c,k*s',ae⟩))=ab a':=by split<;>exact⟨_,rfl⟩
        obtain⟨a',U⟩:=ho;rw [U];exact cN.fs0 _ _
       ·rename_i b9;split at h
        ·simp at h
        ·rename_i hn;simp only [sh]at h;subst h;rw [aY hn]at S;have W:(if M=l then ab (⟨L.c,k*s',ae⟩:Addr)else Option.map (fun(x:Addr)=>x.add (l*s')) (ab ⟨L.c,k*s',ae⟩))=ab ⟨L.c,k*s'+l*s',ae⟩:=by
          split
          ·have:l=0:=by omega
           subst this;simp
          ·simp [ee]
         rw [W];simp only [VR,ju,CR,fR,F];refine⟨aft _,fun _ _=>⟨L,hL,k+l,by rw [auD],by omega,by rw [←S];congr 1;omega⟩,_,_,_,rfl⟩
     ·simp at h
    | nil=>
     obtain⟨rfl,rfl,rfl⟩:=Y;simp only at h;split at h
     ·rename_i r A;obtain⟨l,g,m⟩:=r;simp only [sh]at h;subst h;obtain⟨q,K,N,O⟩:=dO (Q:=Q) H I J A (aft 0) (aft 0) ag X.w;refine⟨_,eL d j q,?_⟩;have:l=0∧g=0∧m=0:=by omega
      obtain⟨rfl,rfl,rfl⟩:=this;simp;exact cN.aG
     ·simp at h
    | es=>
     obtain⟨rfl,rfl,a,rfl⟩:=Y;simp only at h;split at h
     ·rename_i r A;obtain⟨l,g,m⟩:=r;simp only [sh]at h;subst h;obtain⟨q,K,N,O⟩:=dO (Q:=Q) H I J A (aft 0) (aft 0) ag X.w;refine⟨_,eL d j q,?_⟩;have:l=0∧g=0∧m=0:=by omega
      obtain⟨rfl,rfl,rfl⟩:=this;simp;exact cN.es _
     ·simp at h
   ·simp at h
  ·simp at h
 ·simp at h
end
section
variable{Q:Program}{σ:Nat→FuncId}{X:Wd}
theorem Ou{t:TypeId}(A:Q.underlying t=ab .string){x:V}{u:Value}(B:VR σ X x u){lo hi:Option V}{d b:Option Value}(g:OR X σ lo d)(j:OR X σ hi b)
  {v:V} (h:vf x lo hi=ab v) (w:World):∃ r,(Instr.sliceAt t u d b ae).run Q w=.ok r w∧VR σ X v r:=by
 unfold vf at h;split at h
 ·rename_i s;have:=VR.str B;subst this;split at h
  ·rename_i l z m y;simp only [sh]at h;subst h;obtain⟨q,_⟩:=dO (Q:=Q) (mx:=ae) (mx':=ae) g j trivial y (aft _) (aft _) ah w;exact⟨.string (s.extract l z),by simp [Instr.sliceAt,Instr.slice,a5 A,q],VR.mkStr _⟩
  ·simp at h
 ·simp at h
theorem Oq(hS:SR Q σ X){t e:TypeId}{n sz:Nat}(g:Q.underlying t=ab (.array n e))(E:dk Q e sz=ag){x:V}{u:Value}(q:VR σ X x u)
  {lo hi mx:Option V} {z y mx':Option Value} (F:OR X σ lo z) (H:OR X σ hi y) (I:OR X σ mx mx') {v:V} (h:jt X.H n sz x lo hi mx=ab v) :
  ∃ r,(Instr.sliceAt t u z y mx').run Q X.w=.ok r X.w∧VR σ X v r:=by
 have run:∀(a:Addr) l j m,(Instr.sliceBounds ah n n z y mx').run Q X.w=.ok (l,j,m) X.w →
   (Instr.sliceAt t (.pointer (ab a)) z y mx').run Q X.w=.ok (.slice (ab (if m=l then a else a.add (l*sz))) (j-l) (m-l)) X.w:=by
  intro a l j m s;simp [Instr.sliceAt,a5 g,Instr.sureAddr,s,c5 E]
 have mm:∀ {l j m:Nat},cL n n lo hi mx=ab (l,j,m)→(if mx.isSome=ag then m else n)=m:=by
  intro l j m s;split
  ·rfl
  ·rename_i W;cases mx with
   | some _=>simp at W| none=>unfold cL at s;cases hi<;>cases lo<;>simp [aue]at s<;>omega
 unfold jt at h;split at h
 ·rename_i b off Y;obtain⟨L,O,q⟩:=q;split at h
  ·rename_i cs Z B;rw [B]at q;simp only at q;subst q;split at h
   ·rename_i l j m s;obtain⟨A,J,K,M⟩:=dO (Q:=Q) F H I s (aft n) (aft n) ah X.w;rw [mm s]at A;split at h
    ·refine⟨_,run _ _ _ _ A,?_⟩;split at h
     ·rename_i d;simp only [sh]at h;subst h;rw [bg d,show j-l=0 by omega,show m-l=0 by omega];exact cN.es _
     ·rename_i d;simp only [sh]at h;subst h;rw [aY d];simp only [ee,VR,ju,CR,fR,B];exact⟨L,O,by omega,rfl⟩
    ·simp at h
   ·simp at h
  ·simp at h
 ·rename_i cs off;cases (q:cN σ X.F X.w (.fp cs off) u)with
  | fp _ _ c o us U N S hr=>
   split at h
   ·rename_i l j m s;obtain⟨A,J,K,M⟩:=dO (Q:=Q) F H I s (aft n) (aft n) ah X.w;rw [mm s]at A;split at h
    ·refine⟨_,run _ _ _ _ A,?_⟩;split at h
     ·rename_i d;simp only [sh]at h;subst h;rw [bg d,show j-l=0 by omega,show m-l=0 by omega];exact cN.es _
     ·rename_i d;simp only [sh]at h;subst h;rw [aY d,ee];refine cN.fs _ _ c (o+off+l*sz) _ ((us.drop (off+l*sz)).take ((j-l)*sz)) (by omega) (by simp [U]) (fun i hi=>?_) (fun i u g=>?_) (fun i x u q g=>?_)
      ·have:=N (off+l*sz+i) (by simp at hi;omega);rwa [show o+(off+l*sz+i)=o+off+l*sz+i by omega]at this
      ·rw [auo]at g;split at g
       ·rw [at8]at g;have:=S _ u g;rwa [show o+(off+l*sz+i)=o+off+l*sz+i by omega]at this
       ·simp at g
      ·rw [auo]at g q;split at g
       ·rename_i hi;rw [bg hi]at q;rw [at8]at g q;exact hr _ x u q g
       ·simp at g
    ·simp at h
   ·simp at h
 ·simp at h
theorem DN{t:TypeId}{l:Array Field}(H:Q.underlying t=ab (.struct l)){i:Nat}{f:Field}(E:l[i]?=ab f)(j:(Q.info? f.type).any (fun i=>i.size != 0)=ag)
  {x:V} {u:Value} (g:VR σ X x u) {v:V} (h:jB f.offset x=ab v) (w:World):∃ r,(Instr.fieldAt t u i).run Q w=.ok r w∧VR σ X v r:=by
 have run:∀ a:Addr,(Instr.fieldAt t (.pointer (ab a)) i).run Q w=.ok (.pointer (ab (a.add f.offset))) w:=by
  intro a;cases hi:Q.info? f.type with
  | none=>simp [hi]at j
  | some I=>
   simp [hi]at j;simp [Instr.fieldAt,a5 H,E,Instr.sureAddr,fieldPlace,Go.sizeOf,typeInfo,hi,j]
 unfold jB at h;split at h
 ·rename_i b o J;simp only [sh]at h;subst h;obtain⟨L,m,g⟩:=g;split at g
  ·rename_i d;subst g;exact⟨_,run _,L,m,by rw [d,ee]⟩
  ·rename_i s cs K e d;obtain⟨q,y,a,rfl⟩:=g;refine⟨_,run _,L,m,?_⟩;rw [d];refine⟨q,fun B=>?_,_,rfl⟩;have:=y B;simp only [Value.pointer.injEq,sh]at this;rw [this,ee]
  ·exact g.elim
 ·rename_i cs o;simp only [sh]at h;subst h;cases (g:cN σ X.F X.w (.fp cs o) u)with
  | fp _ _ c o' us F z A hr=>
   refine⟨_,run _,?_⟩;rw [ee,Nat.add_assoc];exact cN.fp cs _ c o' us F z A hr
 ·simp at h
theorem DV{t e:TypeId}{sz:Nat}{q:Option Nat}(I:dk Q e sz=ag)
  (H:(q=ae∧Q.underlying t=ab (.slice e))∨∃ n,q=ab n∧Q.underlying t=ab (.array n e)) {x i:V} {u j:Value} (m:VR σ X x u) (hi:VR σ X i j)
  {v:V} (h:aL X.H sz q x i=ab v):∃ r,(Instr.indexAt t u j).run Q X.w=.ok r X.w∧VR σ X v r:=by
 unfold aL at h;split at h
 ·simp at h
 rename_i k hk;obtain⟨O,rfl⟩:=jD hi hk;split at h
 ·rename_i M;have z:q=ae→∀(a:Addr) (l c:Nat),k<l→(Instr.indexAt t (.slice (ab a) l c) (.int O k)).run Q X.w=.ok (.pointer (ab (a.add (k.toNat*sz)))) X.w:=by
   intro J a l c g;rcases H with⟨_,H⟩ | ⟨n,A,_⟩
   ·simp [Instr.indexAt,asIntOf,a5 H,M,g,c5 I]
   ·rw [J]at A;simp at A
  have y:∀ n,q=ab n→∀(a:Addr),k<n→(Instr.indexAt t (.pointer (ab a)) (.int O k)).run Q X.w=.ok (.pointer (ab (a.add (k.toNat*sz)))) X.w:=by
   intro n J a g;rcases H with⟨A,_⟩ | ⟨n',A,H⟩
   ·rw [J]at A;simp at A
   ·rw [J]at A;simp only [sh]at A;subst A;simp [Instr.indexAt,asIntOf,a5 H,Instr.sureAddr,M,g,c5 I]
  split at h
  ·rename_i b o l c U s;split at h
   ·rename_i g;simp only [VR,ju,CR,fR]at m;split at h
    ·rename_i d;rw [d]at m;obtain⟨L,E,_,rfl⟩:=m;simp only [sh]at h;subst h;exact⟨_,z rfl _ _ _ g,L,E,by rw [d,ee]⟩
    ·rename_i s' cs W S d;rw [d]at m;split at h
     ·rename_i F;simp only [sh]at h;subst h;obtain⟨L,E,kq,_,_,rfl⟩:=m.2.1 F.1 F.2;exact⟨_,z rfl _ _ _ g,L,E,by rw [d,ee];exact⟨m.1,fun _=>rfl,_,rfl⟩⟩
     ·simp at h
    ·simp at h
   ·simp at h
  ·rename_i cs l;split at h
   ·rename_i g;simp only [sh]at h;subst h;cases (m:cN σ X.F X.w (.fs cs l) u)with
    | fs _ _ c o cap us N B K F hr=>
     refine⟨_,z rfl _ _ _ g,?_⟩;rw [ee];exact cN.fp cs _ c o us B K F hr
    | fs0 a cap=>simp at g;omega
   ·simp at h
  ·rename_i n b o U;split at h
   ·rename_i g;simp only [sh]at h;subst h;obtain⟨L,E,m⟩:=m;split at m
    ·rename_i d;subst m;exact⟨_,y n rfl _ g,L,E,by rw [d,ee]⟩
    ·rename_i s cs W S d;obtain⟨Y,Z,a,rfl⟩:=m;refine⟨_,y n rfl _ g,L,E,?_⟩;rw [d];refine⟨Y,fun he=>?_,_,rfl⟩;have:=Z he;simp only [Value.pointer.injEq,sh]at this;rw [this,ee]
    ·exact m.elim
   ·simp at h
  ·rename_i n cs o;split at h
   ·rename_i g;simp only [sh]at h;subst h;cases (m:cN σ X.F X.w (.fp cs o) u)with
    | fp _ _ c o' us B K F hr=>
     refine⟨_,y n rfl _ g,?_⟩;rw [ee,Nat.add_assoc];exact cN.fp cs _ c o' us B K F hr
   ·simp at h
  ·simp at h
 ·simp at h
theorem vm{t:TypeId}{n:Option Nat}(s:vl Q t n=ag){xs:List C}{us:List Value}(l:A2 (CR σ X) xs us)(off:Nat){v:V}(b:aK n (xs.drop off)=ab v)(w:World) :
  ∃ u,(part t us.toArray off).run Q w=.ok u w∧VR σ X v u:=by
 obtain⟨m,q⟩:=Gq s w;cases n with
 | none=>
  cases d:xs.drop off with
  | nil=>rw [d]at b;simp [aK]at b
  | cons x cs=>
   rw [d]at b;simp only [aK,sh]at b;subst b;obtain⟨u,y,j⟩:=(l.drop off).get (i:=0) (x:=x) (by rw [d];rfl);have g:us[off]?=ab u:=by simpa [at8]using y
   exact⟨u,by simp [part,m,g],j⟩
 | some n=>
  simp only [aK]at b;split at b
  ·simp only [sh]at b;subst b;exact⟨.agg ((us.drop off).take n).toArray,by simp [part,m,c5 (q n rfl),au1],_,rfl,(l.drop off).take n⟩
  ·simp at b
theorem Nn{t:TypeId}{b:Array Field}(q:Q.underlying t=ab (.struct b)){i:Nat}{f:Field}(l:b[i]?=ab f){n:Option Nat}(m:vl Q f.type n=ag)
  {x:V} {u:Value} (s:VR σ X x u) {v:V} (h:nB f.offset n x=ab v) (w:World):∃ r,(Instr.field t u i).run Q w=.ok r w∧VR σ X v r:=by
 unfold nB at h;split at h
 ·obtain⟨us,rfl,d⟩:=s;obtain⟨r,g,j⟩:=vm m d f.offset h w;exact⟨r,by simp [Instr.field,a5 q,l,asAgg,g],j⟩
 ·simp at h
theorem Z3{t e:TypeId}{len sz:Nat}(y:Q.underlying t=ab (.array len e))(b:dk Q e sz=ag){n:Option Nat}(s:vl Q e n=ag)
  {x i:V} {u j:Value} (z:VR σ X x u) (hi:VR σ X i j) {v:V} (h:mM len sz n x i=ab v) (w:World):∃ r,(Instr.index t u j).run Q w=.ok r w∧VR σ X v r:=by
 unfold mM at h;split at h
 ·rename_i xs k q;obtain⟨A,rfl⟩:=jD hi q;split at h
  ·rename_i m;obtain⟨us,rfl,d⟩:=z;obtain⟨r,g,l⟩:=vm s d _ h w;exact⟨r,by simp [Instr.index,asIntOf,a5 y,m,c5 b,g],l⟩
  ·simp at h
 ·simp at h
theorem Z4{t:TypeId}(m:Q.underlying t=ab .string){x i:V}{u j:Value}(q:VR σ X x u)(hi:VR σ X i j){v:V}(h:Bv x i=ab v)(w:World) :
  ∃ r,(Instr.index t u j).run Q w=.ok r w∧VR σ X v r:=by
 unfold Bv at h;split at h
 ·rename_i s k l;obtain⟨y,rfl⟩:=jD hi l;have:=VR.str q;subst this;split at h
  ·rename_i d;simp only [IN]at h;obtain⟨b,g,rfl⟩:=h;exact⟨_,by simp [Instr.index,asIntOf,a5 m,d,g],VR.mkInt _ _⟩
  ·simp at h
 ·simp at h
end
section
variable{Q:Program}{σ:Nat→FuncId}{X:Wd}
theorem A2.over{α β:Type}{R:α→β→Prop}{cs xs:List α}{us d:List β}(h:A2 R cs us)(b:A2 R xs d)(off:Nat):A2 R (over cs off xs) (over us off d):=by
 unfold Km.over;rw [b.len];exact((h.take off).append b).append (h.drop _)
theorem BP{α:Type}(cs:List α)(off:Nat)(xs:List α)(h:off+xs.length≤cs.length):(over cs off xs).length=cs.length:=by
 simp [over];omega
theorem Bt(off:Nat):∀(d:List Value) (k:Nat) (b:List Value),off+k+d.length≤b.length →
  ((d.zipIdx k).foldl (fun(cs:Array Value) p=>cs.setIfInBounds (off+p.2) p.1) b.toArray)=(over b (off+k) d).toArray
 | [],k,b,_=>by simp [over]
 | v::d,k,b,h=>by
  simp only [List.zipIdx_cons,auV];have g:b.toArray.setIfInBounds (off+k) v=(b.set (off+k) v).toArray:=by simp
  rw [g,Bt off d (k+1) _ (by simp at h ⊢;omega)]
  congr 1
  unfold over;simp only [aup]at h ⊢;rw [List.take_set,List.drop_set_of_lt (by omega),show off+(k+1)=off+k+1 by omega,show off+k+1+d.length=off+k+(d.length+1) by omega];rw [at0 (by omega)];have j:(List.take (off+k) b).length=off+k:=by simp;omega
  have e:(List.take (off+k) b++[b[off+k]]).set (off+k) v=List.take (off+k) b++[v]:=by
   rw [List.set_append,aY (by omega),j];simp
  rw [e];simp
theorem p_{x:V}{u:Value}(b:VR σ X x u){xs:List C}(h:x.cells?=ab xs):∃ us,u.cells=us.toArray∧A2 (CR σ X) xs us:=by
 unfold V.cells? at h;split at h
 ·rename_i x;simp only [sh]at h;subst h;have d:=CR.one σ b;refine⟨[u],?_,A2.cons b A2.nil⟩;cases u<;>simp_all [Value.cells,Value.oneCell']
 ·simp only [sh]at h;subst h;obtain⟨us,rfl,h⟩:=b;exact⟨us,rfl,h⟩
 ·simp at h
theorem oy{a:Act}{aA:T}(v:RR σ X aA a.tmps){place:Nat→Option (Nat × Nat)}:∀ {qs:List (Nat × Nat × Arg)} {ps:List (Nat × Operand)},
  A2 (fun(q:Nat × Nat × Arg) (p:Nat × Operand)=>place p.1=ab (q.1,q.2.1)∧mA σ q.2.2 p.2=ag) qs ps→∀ {cs cs':List C} {us:List Value},A2 (CR σ X) cs us →
  dw aA cs qs=ab cs'→∃ d,Instr.fill place us.toArray (ps.map fun p=>(p.1,a.eval p.2))=ab d.toArray∧A2 (CR σ X) cs' d
 | [],[],_,cs,cs',us,h,b=>by
  simp only [dw,sh]at b;subst b;exact⟨us,rfl,h⟩
 | [],_::_,g,_,_,_,_,_=>by have:=g.len;simp at this
 | _::_,[],g,_,_,_,_,_=>by have:=g.len;simp at this
 | (off,n,x)::qs,(i,y)::ps,g,cs,cs',us,h,b=>by
  obtain⟨⟨s,u⟩,l⟩:=g.of_cons;simp only at s u;simp only [dw]at b;split at b
  ·rename_i xs m;split at b
   ·rename_i H;obtain⟨F,E,j⟩:=p_ (bS v u) m;obtain⟨d,z,A⟩:=oy v l (h.over j off) b;refine⟨d,?_,A⟩;have I:=j.len;have B:=h.len;simp only [List.map_cons,Instr.fill,s,E];rw [aY (by simp;omega)];rw [←z]
    congr 1
    have:=Bt off F 0 us (by omega);simp only [Nat.add_zero]at this;rw [←this];simp [←Array.foldl_toList]
   ·simp at b
  ·simp at b
theorem eF{t:TypeId}{zs:List FC}(h:lO Q t zs=ag)(w:World):∃ z us,(zeroValue t).run Q w=.ok z w∧z.cells=us.toArray∧A2 (CR σ X) (zs.map .f) us ∧
  ∃ i,Q.info? t=ab i∧i.zero=ab z:=by
 unfold lO at h;cases hi:Q.info? t with
 | none=>simp [hi]at h
 | some i=>
  simp only [hi,Option.any_some]at h;split at h
  ·rename_i z d;refine⟨z,z.cells.toList,by simp [zeroValue,typeInfo,hi,d],by simp,A2.map ((ey h).lR fun x u b=>D8 b),i,rfl,d⟩
  ·simp at h
end
section
variable{Q:Program}{σ:Nat→FuncId}{X:Wd}
theorem mh{b:CK}{t:TypeId}(h:NO Q b t=ag):(b=.int∧∃ j,Q.underlying t=ab (.int j))∨(b=.str∧Q.underlying t=ab .string)∨(b=.bool∧Q.underlying t=ab .bool):=by
 unfold NO at h;split at h
 ·exact .inl ⟨rfl,_,by assumption⟩
 ·exact .inr (.inl ⟨rfl,by assumption⟩)
 ·exact .inr (.inr ⟨rfl,by assumption⟩)
 ·simp at h
theorem uh{l:CK}{d:TypeDesc}(m:(l=.int∧∃ j,d=.int j)∨(l=.str∧d=.string)∨(l=.bool∧d=.bool)){F:Nat→Nat→Prop}{w:World}{x y:FC}{u v:Value}
  (q:cN σ F w x u) (s:cN σ F w y v) {b:Bool} (h:eqK l x y=ab b):Instr.sameNow d u v=ab b:=by
 unfold eqK at h;split at h
 ·cases q;cases s;rcases m with⟨_,j,rfl⟩ | ⟨g,_⟩ | ⟨g,_⟩
  ·simpa [Instr.sameNow]using h
  ·cases g
  ·cases g
 ·cases q;cases s;rcases m with⟨g,_⟩ | ⟨_,rfl⟩ | ⟨g,_⟩
  ·cases g
  ·simpa [Instr.sameNow]using h
  ·cases g
 ·cases q;cases s;rcases m with⟨g,_⟩ | ⟨g,_⟩ | ⟨_,rfl⟩
  ·cases g
  ·cases g
  ·simpa [Instr.sameNow]using h
 ·simp at h
theorem xI{l:CK}{d:TypeDesc}(q:(l=.int∧∃ j,d=.int j)∨(l=.str∧d=.string)∨(l=.bool∧d=.bool)){F:Nat→Nat→Prop}{w:World}{k:FC}{B:Value}(v:cN σ F w k B) :
  ∀ {R:C→Value→Prop} {y:List (FC × C)} {b:List MapEntry},A2 (fun e m=>cN σ F w e.1 m.key∧R e.2 m.val) y b→∀ {r:Option C} (i:Nat),nK l k y=ab r →
  match r with
  | none=>Instr.findNow d B b i=ab ae| some x=>∃ j u,Instr.findNow d B b i=ab (ab (j,u))∧R x u
 | _,[],[],_,r,i,h=>by
  simp only [nK,sh]at h;subst h;rfl
 | _,[],_::_,g,_,_,_=>by have:=g.len;simp at this
 | _,_::_,[],g,_,_,_=>by have:=g.len;simp at this
 | _,e::y,m::b,g,r,i,h=>by
  obtain⟨⟨z,E⟩,A⟩:=g.of_cons;simp only [nK]at h;split at h
  ·rename_i s;simp only [sh]at h;subst h;exact⟨i,m.val,by simp [Instr.findNow,uh q v z s],E⟩
  ·rename_i s;have:=xI q v A (i+1) h;cases r with
   | none=>simpa [Instr.findNow,uh q v z s]using this| some x=>obtain⟨j,u,H,I⟩:=this;exact⟨j,u,by simp [Instr.findNow,uh q v z s,H],I⟩
  ·simp at h
theorem je{l:CK}{t:TypeId}(h:NO Q l t=ag){k:FC}{F:Nat→Nat→Prop}{q:World}{g:Value}(m:cN σ F q k g)(hi:isKey l k=ag)(b:Bool)(w:World) :
  (Instr.checkKey b 10000 t g).run Q w=.ok () w:=by
 have:∀ n,(Instr.checkKey b (n+1) t g).run Q w=.ok () w:=by
  intro n;rcases mh h with⟨rfl,j,d⟩ | ⟨rfl,d⟩ | ⟨rfl,d⟩<;>cases m<;>simp_all [isKey,Instr.checkKey,a5 d]
 exact this 9999
theorem D3{z:FC}{r:Option C}{u:Value}{g:Bool}(b:g=(sW z).isSome)(h:ju σ X ((r.map mV).getD (zV ((sW z).getD z))) u):VR σ X (lkR z r) (if g=ag then .tuple #[u,.bool r.isSome]else u):=by
 unfold lkR;cases d:sW z with
 | none=>rw [d]at h b;subst b;exact VR.of1 σ h| some z0=>rw [d]at h b;subst b;exact⟨[u,.bool r.isSome],rfl,A2.cons h (A2.cons (cN.bool _) A2.nil)⟩
theorem NJ(hS:SR Q σ X){t kt e:TypeId}{K:CK}(Z:Q.underlying t=ab (.map kt e))(M:NO Q K kt=ag){z:FC}{J:Bool}(H:J=(sW z).isSome)(hz:lO Q e (sj ((sW z).getD z))=ag)
  (l:(Q.info? e).any (fun i=>i.zero.any fun u=>if E5 ((sW z).getD z)then ajV u else akW u)=ag) {m k:V} {um uk:Value} (hm:VR σ X m um) (s:VR σ X k uk) {v:V} (h:gw X.H K z m k=ab v) :
  ∃ u,(Instr.lookup t um uk J).run Q X.w=.ok u X.w∧VR σ X v u:=by
 obtain⟨I,zs,N,A,B,i0,W,Y⟩:=eF (σ:=σ) (X:=X) hz X.w;have O:ju σ X (zV ((sW z).getD z)) I:=by
  simp only [W,Option.any_some,Y]at l;generalize (sW z).getD z=z0 at *;cases S:E5 z0 with
  | true=>
   rw [amF S];simp only [S,if_true]at l;cases I with
   | agg cs=>exact⟨zs,by simp only [Value.cells]at A;rw [A],B⟩
   | _=>simp [ajV]at l
  | false=>
   obtain⟨e1,e2⟩:=amG S;rw [e1];rw [e2]at B;simp only [S,atY,if_false]at l;obtain⟨u,a7,a9⟩:=B.get (i:=0) (x:=.f z0) rfl;have hl:=B.len;have a_:zs=[u]:=by
    match zs,hl,a7 with
    | [y],_,h=>simp at h;rw [h]
   subst a_;cases I with
   | agg cs=>simp [akW]at l| _=>simp only [Value.cells]at A;have:=congrArg Array.toList A;simp at this;subst this;exact a9
 unfold gw at h;split at h
 ·rename_i kc;split at h
  ·rename_i q;simp only [sh]at h;subst h;cases (hm:cN σ X.F X.w .vQ um);refine⟨if J=ag then .tuple #[I,.bool ah]else I,?_,D3 (r:=ae) H O⟩;rcases mh M with⟨_,j,g⟩ | ⟨_,g⟩ | ⟨_,g⟩ <;>
    simp [Instr.lookup,a5 Z,je M s q,Instr.findKey,a5 g,Instr.findNow,N]
  ·simp at h
 ·rename_i b kc;split at h
  ·rename_i es hb;split at h
   ·rename_i q;simp only [IN]at h;obtain⟨r,hr,rfl⟩:=h;obtain⟨L,hL,_,rfl⟩:=hm;obtain⟨_,_,bp,F,U⟩:=hS.br b L hL;rw [hb]at F;simp only [sh]at F;subst F;obtain⟨b7,h1,h2,_⟩:=U;have go:∀ d,Q.underlying kt=ab d→((K=.int∧∃ j,d=.int j)∨(K=.str∧d=.string)∨(K=.bool∧d=.bool))→∃ u,(Instr.lookup t (.map (ab L.c)) uk J).run Q X.w=.ok u X.w∧VR σ X (lkR z r) u:=by
     intro d g hd;have h3:=xI (R:=fun c u=>ju σ X (mV c) u) hd s h2 0 hr;cases r with
     | none=>
      refine⟨if J=ag then .tuple #[I,.bool ah]else I,?_,D3 (r:=ae) H O⟩;simp [Instr.lookup,a5 Z,getObj,Sem.run,h1,je M s q,Instr.findKey,a5 g,h3,N]
     | some x=>
      obtain⟨j,u,E,h5⟩:=h3;refine⟨if J=ag then .tuple #[u,.bool ag]else u,?_,D3 (r:=ab x) H h5⟩;simp [Instr.lookup,a5 Z,getObj,Sem.run,h1,je M s q,Instr.findKey,a5 g,E]
    rcases mh M with⟨E,j,g⟩ | ⟨E,g⟩ | ⟨E,g⟩
    ·exact go _ g (.inl ⟨E,j,rfl⟩)
    ·exact go _ g (.inr (.inl ⟨E,rfl⟩))
    ·exact go _ g (.inr (.inr ⟨E,rfl⟩))
   ·simp at h
  ·simp at h
 ·simp at h
end
section
variable{Q:Program}{σ:Nat→FuncId}{X:Wd}
theorem dZ{s:Sem Value}{u:Value}{w w':World}(h:s.run Q w=.ok u w'):(do pure (Next.value (←s)):Sem Next).run Q w=.ok (.value u) w':=by simp [h]
theorem sk{a:Act}{aA:T}(b:RR σ X aA a.tmps){x:Option Arg}{y:Option Operand}(h:mO σ x y=ag):OR X σ (x.map (·.ev aA)) (y.map a.eval):=by
 rcases aoD b h with⟨rfl,rfl⟩ | ⟨g,j,rfl,rfl,d⟩
 ·trivial
 ·exact d
theorem iU{t:TypeId}{p:TypeId→Bool}(h:(nz Q t).any p=ag):∃ e,Q.underlying t=ab (.slice e)∧p e=ag:=by
 unfold nz at h;split at h
 ·exact⟨_,by assumption,by simpa using h⟩
 ·simp at h
theorem lJ{x:C}{u:Value}(b:CR σ X x u){l:Nat}(h:bJ X.H x=ab l):∃ a c,u=.slice a l c:=by
 unfold bJ at h;split at h<;>try simp only [sh,reduceCtorEq]at h
 ·simp only [CR,fR]at b;split at h
  ·rename_i d;rw [d]at b;obtain⟨L,_,_,rfl⟩:=b;simp only [sh]at h;subst h;exact⟨_,_,rfl⟩
  ·rename_i s cs j e st d;rw [d]at b;split at h
   ·rename_i g;have:=b.2.1 g.1 g.2;simp only [sh]at h;subst h;cases st with
    | loc=>obtain⟨L,_,k,_,_,rfl⟩:=this;exact⟨_,_,rfl⟩
    | nil=>obtain⟨_,rfl,rfl⟩:=this;exact⟨_,_,rfl⟩
    | es=>obtain⟨_,rfl,a,rfl⟩:=this;exact⟨_,_,rfl⟩
   ·simp at h
  ·simp at h
 ·subst h;cases (b:cN σ X.F X.w .aG u);exact⟨_,_,rfl⟩
 ·subst h;cases (b:cN σ X.F X.w .es u);exact⟨_,_,rfl⟩
 ·subst h;cases (b:cN σ X.F X.w (.fs _ _) u)<;>exact⟨_,_,rfl⟩
theorem mC(J:SR Q σ X){sz:Nat}{x:C}{u:Value}(y:CR σ X x u){l:Nat}(m:bJ X.H x=ab l){cs:List C}(h:cS X.H sz x=ab cs) :
  ∃ us,(Builtin.firstCells sz l u).run Q X.w=.ok us.toArray X.w∧A2 (CR σ X) cs us∧cs.length=l*sz:=by
 have row:∀(c o:Nat) (us:List Value) (cap:Nat),us.length=l*sz→(∀(i:Nat) u,us[i]?=ab u→X.w.cell? ⟨c,o+i,ae⟩=ab u) →
   (Builtin.firstCells sz l (.slice (ab ⟨c,o,ae⟩) l cap)).run Q X.w=.ok us.toArray X.w:=by
  intro c o us cap g F;have:=run_loadCells_list (P:=Q) X.w ⟨c,o,ae⟩ us (fun j v N=>by rw [ee];exact F j v N);rw [g]at this;simpa [Builtin.firstCells]using this
 unfold cS at h;split at h<;>try simp only [reduceCtorEq]at h
 ·rename_i b o H cap S s;simp only [CR,fR]at y;simp only [bJ]at m;split at h
  ·rename_i cs' M E;rw [E]at y m;simp only [sh]at m;subst m;obtain⟨L,I,_,rfl⟩:=y;split at h
   ·rename_i q;simp only [sh]at h;subst h;obtain⟨_,_,bp,d,z⟩:=J.br b L I;rw [E]at d;simp only [sh]at d;subst d;obtain⟨us,hr,B,_⟩:=z;have:=B.len;refine⟨(us.drop o).take (H*sz),row _ _ _ _ (by simp;omega) (fun i u g=>?_),(B.drop o).take _,by simp;omega⟩;rw [dR hr];rw [auo]at g;split at g
    ·rw [at8]at g;exact g
    ·simp at g
   ·simp at h
  ·rename_i s' cs' M e st E;rw [E]at y m;split at h
   ·rename_i F;obtain⟨rfl,rfl,q⟩:=F;simp only [and_self,if_true,sh]at m;subst m;simp only [sh]at h;subst h;have A:=y.2.1 rfl rfl;cases st with
    | loc=>
     obtain⟨L,I,k,_,_,rfl⟩:=A;obtain⟨_,_,bp,d,z⟩:=J.br b L I;rw [E]at d;simp only [sh]at d;subst d;obtain⟨_,us,rest,hr,B,_⟩:=z;have:=B.len;refine⟨(us.drop o).take (H*sz),row _ _ _ _ (by simp;omega) (fun i u g=>?_),(B.drop o).take _,by simp;omega⟩;rw [dR hr];rw [auo]at g;split at g
     ·rw [at8]at g;rw [AI (BY.1 g).1];exact g
     ·simp at g
    | nil=>
     obtain⟨rfl,rfl,rfl⟩:=A;exact⟨[],by simp [Builtin.firstCells],by simpa using A2.nil,by simp⟩
    | es=>
     obtain⟨rfl,rfl,a,rfl⟩:=A;exact⟨[],by simp [Builtin.firstCells,loadCells,loadCellsFrom],by simpa using A2.nil,by simp⟩
   ·simp at h
  ·simp at h
 ·simp only [sh]at h;subst h;simp only [bJ,sh]at m;subst m;cases (y:cN σ X.F X.w .aG u);exact⟨[],by simp [Builtin.firstCells],A2.nil,by simp⟩
 ·simp only [sh]at h;subst h;simp only [bJ,sh]at m;subst m;cases (y:cN σ X.F X.w .es u);exact⟨[],by simp [Builtin.firstCells,loadCells,loadCellsFrom],A2.nil,by simp⟩
 ·rename_i cs' H;simp only [bJ,sh]at m;subst m;split at h
  ·rename_i q;simp only [sh]at h;subst h;cases (y:cN σ X.F X.w (.fs cs' H) u)with
   | fs _ _ c o cap us K O U F hr=>
    exact⟨us,row _ _ _ _ (by omega) F,A2.map ⟨by omega,hr⟩,by simp;omega⟩
   | fs0 a cap=>exact⟨[],by simp [Builtin.firstCells,loadCells,loadCellsFrom],A2.nil,by simp⟩
  ·simp at h
theorem afs{v:V}{u:Value}(h:VR σ X v u){c:C}(l:sQ v=ab c):fR σ X c u:=by
 unfold sQ at l;split at l
 ·simp at l
 ·simp at l
 ·rename_i x q m;simp only [sh]at l;subst l;cases x with
  | cl f j=>exact absurd rfl (q f j)| bm f j=>exact absurd rfl (m f j)| mi b=>exact h| f y=>exact h| ptr a b c=>exact h| sl a b c d e g=>exact h| yl b=>exact h| mp b=>exact h| it b=>exact h
 ·simp at l
theorem Bb{xs:List V}{us:List Value}(h:A2 (VR σ X) xs us){cs:List C}(b:aZ sQ xs=ab cs):A2 (fR σ X) cs us:=by
 induction xs generalizing us cs with
 | nil=>
  simp only [aZ,sh]at b;subst b
  match us,h.len with
  | [],_=>exact A2.nil
 | cons x xs m=>
  match us,h with
  | u::us,h=>
   obtain⟨g,j⟩:=h.of_cons;simp only [aZ]at b;split at b
   ·simp at b
   ·rename_i y l;split at b
    ·simp at b
    ·rename_i ys d;simp only [sh]at b;subst b;exact A2.cons (afs g l) (m j d)
  | [],h=>have:=h.len;simp at this
theorem dx{d:Operand→Value}{o:Oper}{c:Call}{b:Builtin}(j:o.op=.call c)(g:c.callee=.builtin b){r:Result Next}{w:World}
  (h:∀ cs,(builtin b c.argTypes o.type cs (c.args.map d)).run Q w=r):(execOp d o).run Q w=r:=by
 simp only [execOp,j,resolve,g,Sem.run_bind,Sem.run_pure,Result.andThen_ok,invoke];exact h _
theorem vG{α:Type}{a:Array α}{x:α}(h:a.toList=[x]):a=#[x]:=by
 apply Array.ext';simp [h]
theorem afm{α:Type}{a:Array α}{x y:α}(h:a.toList=[x,y]):a=#[x,y]:=by
 apply Array.ext';simp [h]
theorem NN{c:Call}{x:Arg}(h:dJ Q σ c (.len x)=ag):∃ y t e,c.callee=.builtin .len∧c.args=#[y]∧c.argTypes=#[t]∧mA σ x y=ag∧Q.underlying t=ab (.slice e):=by
 simp only [dJ]at h;split at h
 ·rename_i y t b d g;simp only [If]at h;have:=h.2;split at this
  ·exact⟨y,t,_,b,vG d,vG g,h.1,by assumption⟩
  ·simp at this
 ·simp at h
theorem D6{c:Call}{x:Arg}(h:dJ Q σ c (.lens x)=ag):∃ y t,c.callee=.builtin .len∧c.args=#[y]∧c.argTypes=#[t]∧mA σ x y=ag∧Q.underlying t=ab .string:=by
 simp only [dJ]at h;split at h
 ·rename_i y t b d g;simp only [If]at h;have:=h.2;split at this
  ·exact⟨y,t,b,vG d,vG g,h.1,by assumption⟩
  ·simp at this
 ·simp at h
theorem D5{c:Call}{n:Nat}(h:dJ Q σ c (.uD n)=ag):∃ y t e,c.callee=.builtin .len∧c.args=#[y]∧c.argTypes=#[t]∧Q.underlying t=ab (.array n e):=by
 simp only [dJ]at h;split at h
 ·rename_i y t b d g;split at h
  ·rename_i m e j;simp only [decide_eq_true_eq]at h;subst h;exact⟨y,t,e,b,vG d,vG g,j⟩
  ·simp at h
 ·simp at h
theorem D7{c:Call}{lo:Bool}{xs:List Arg}(h:dJ Q σ c (.mX lo xs)=ag):c.callee=.builtin (if lo then .min else .max)∧mAs σ xs c.args=ag:=by
 simp only [dJ]at h;split at h
 ·rename_i b;exact⟨b,h⟩
 ·rename_i b;exact⟨b,h⟩
 ·simp at h
theorem aam{lo:Bool}{x y z:V}{u v:Value}(b:VR σ X x u)(d:VR σ X y v)(h:FR lo x y=ab z)(w:World):∃ r,(if lo then Builtin.min2 u v else Builtin.max2 u v).run Q w=.ok r w∧VR σ X z r:=by
 unfold FR at h;split at h
 ·simp only [sh]at h;subst h;have b:=VR.int b;have d:=VR.int d;subst b;subst d;cases lo
  ·exact⟨_,by simp [Builtin.max2],VR.mkInt _ _⟩
  ·exact⟨_,by simp [Builtin.min2],VR.mkInt _ _⟩
 ·simp at h
theorem BH{lo:Bool}(w:World):∀ {ys:List V} {d:List Value} {x z:V} {u:Value},VR σ X x u→A2 (VR σ X) ys d→xF lo x ys=ab z→∃ r,(d.foldlM (fun u v=>if lo then Builtin.min2 u v else Builtin.max2 u v) u).run Q w=.ok r w∧VR σ X z r
 | [],d,x,z,u,g,b,h=>by
  have:d=[]:=api b.len.symm;subst this;simp only [xF,sh]at h;subst h;exact⟨u,rfl,g⟩
 | y::ys,[],x,z,u,g,b,h=>by have:=b.len;simp at this
 | y::ys,v::d,x,z,u,g,b,h=>by
  obtain⟨A,b⟩:=b.of_cons;simp only [xF]at h;split at h
  ·rename_i q B;obtain⟨r1,j,l⟩:=aam (Q:=Q) g A B w;obtain⟨r,m,s⟩:=BH w l b h;exact⟨r,by rw [List.foldlM_cons,Sem.run_bind,j];exact m,s⟩
  ·simp at h
theorem NM{c:Call}{x:Arg}(h:dJ Q σ c (.cap x)=ag):∃ y t e,c.callee=.builtin .cap∧c.args=#[y]∧c.argTypes=#[t]∧mA σ x y=ag∧Q.underlying t=ab (.slice e):=by
 simp only [dJ]at h;split at h
 ·rename_i y t g j l;simp only [If]at h;obtain⟨m,d⟩:=h;split at d
  ·rename_i e b;exact⟨y,t,e,g,vG j,vG l,m,b⟩
  ·simp at d
 ·simp at h
theorem abp{x:C}{u:Value}(d:CR σ X x u){n:Nat}(h:mR X.H x=ab n):∃ a l,u=.slice a l n:=by
 cases x with
 | sl b o l c m sz=>
  simp only [mR]at h;simp only [CR,fR]at d;split at h
  ·rename_i g;rw [g]at d;obtain⟨L,_,_,rfl⟩:=d;simp only [sh]at h;subst h;exact⟨_,_,rfl⟩
  ·rename_i g;rw [g]at d;split at h
   ·rename_i j;have:=d.2.1 j.1 j.2;simp only [sh]at h;subst h;obtain⟨_,_,rfl⟩:=this;exact⟨_,_,rfl⟩
   ·simp at h
  ·rename_i g;rw [g]at d;split at h
   ·rename_i j;have:=d.2.1 j.1 j.2;simp only [sh]at h;subst h;obtain⟨_,_,a,rfl⟩:=this;exact⟨_,_,rfl⟩
   ·simp at h
  ·simp at h
 | f y=>
  cases y<;>simp only [mR,sh,reduceCtorEq]at h
  ·subst h;cases (d:cN σ X.F X.w .aG u);exact⟨_,_,rfl⟩
  ·subst h;cases (d:cN σ X.F X.w .es u);exact⟨_,_,rfl⟩
 | _=>simp [mR]at h
theorem FQ(v:SR Q σ X){m:Nat}{L:Loc}(u:X.cC m=ab L){e:FC × C}(x:X.H[m]?=ab (.map [e])):∃ d:MapEntry,X.w.heap[L.c]?=ab (.map #[d] 1)∧cN σ X.F X.w e.1 d.key∧ju σ X (mV e.2) d.val∧d.born=0:=by
 obtain⟨_,_,bp,g,l⟩:=v.br m L u;rw [x]at g;cases g;obtain⟨j,q,b,s⟩:=l
 match j,b with
 | [d],b=>exact⟨d,q,b.of_cons.1.1,b.of_cons.1.2,s 0 d rfl⟩| [],b=>have:=b.len;simp at this| _::_::_,b=>have:=b.len;simp at this
theorem Nl(q:SR Q σ X){x:V}{u:Value}(K:VR σ X x u){v:V}(h:lW X.H x=ab v):∃ r,(Instr.entry u).run Q X.w=.ok r X.w∧VR σ X v r:=by
 unfold lW at h;split at h
 ·rename_i b;obtain⟨L,H,_,rfl⟩:=K;split at h
  ·rename_i m s I;split at h
   ·rename_i e J;simp only [sh]at h;subst h;obtain⟨_,_,bp,d,j⟩:=q.br b L H;rw [I]at d;cases d;obtain⟨M,N,st,E,_,F,l⟩:=j;simp only [if_true]at l;obtain⟨rfl,rfl⟩:=l;obtain⟨g,y,z,A,B⟩:=FQ q E J;refine⟨.tuple #[g.key,g.val],?_,[g.key,g.val],rfl,A2.cons z (A2.cons A A2.nil)⟩;simp [Instr.entry,getObj,Sem.run,F,y,B,Result.andThen]
   ·simp at h
  ·simp at h
 ·simp at h
theorem Bh:∀ {cs:List C} {us:List Value} {d:List UInt8},A2 (CR σ X) cs us→aZ (fun c=>match c with | C.f (.int .u8 n)=>ab (UInt8.ofNat n.toNat) | _=>ae) cs=ab d →
  ∃ j:List Int,us=j.map (Value.int .u8)∧d=j.map fun n=>UInt8.ofNat n.toNat
 | [],us,d,h,b=>by
  simp only [aZ,sh]at b;subst b
  match us,h.len with
  | [],_=>exact⟨[],rfl,rfl⟩
 | c::cs,[],d,h,b=>by have:=h.len;simp at this
 | c::cs,u::us,d,h,b=>by
  obtain⟨m,q⟩:=h.of_cons;simp only [aZ]at b;split at b
  ·simp at b
  ·rename_i y g;split at b
   ·simp at b
   ·rename_i ys l;simp only [sh]at b;subst b;obtain⟨j,rfl,rfl⟩:=Bh q l;split at g
    ·rename_i n;simp only [sh]at g;subst g;cases (m:cN σ X.F X.w (.int .u8 n) u);exact⟨n::j,rfl,rfl⟩
    ·simp at g
theorem foldl_push:∀(b:List Int) (s:ByteArray),b.foldl (fun(r:ByteArray) n=>r.push (UInt8.ofNat n.toNat)) s=⟨s.data++(b.map fun n=>UInt8.ofNat n.toNat).toArray⟩
 | [],s=>by simp
 | n::b,s=>by
  rw [auV,foldl_push b]
  congr 1
  simp [ByteArray.push]
theorem ZP(s:SR Q σ X){x:V}{u:Value}(m:VR σ X x u){v:V}(h:oX X.H x=ab v):∃ r,(Conv.bytesToString u).run Q X.w=.ok r X.w∧VR σ X v r:=by
 unfold oX at h;split at h
 ·rename_i x;split at h
  ·rename_i l j;split at h
   ·rename_i cs g;simp only [IN]at h;obtain⟨z,y,rfl⟩:=h;obtain⟨us,d,q,A⟩:=mC s m j g;obtain⟨ad,c,rfl⟩:=lJ m j;obtain⟨b,rfl,rfl⟩:=Bh q y;refine⟨.string (b.foldl (fun(r:ByteArray) n=>r.push (UInt8.ofNat n.toNat)) ByteArray.empty),?_,?_⟩
    ·cases ad with
     | none=>
      simp only [Builtin.firstCells,Sem.run_pure,Result.ok.injEq,and_true]at d;have:b=[]:=by
       have:=congrArg Array.toList d;simpa using this.symm
      subst this;simp only [Conv.bytesToString,List.foldl_nil,List.map_nil,Sem.run_pure]
     | some ad=>exact run_bytesToString X.w ad l c b (by simpa [Builtin.firstCells]using d)
    ·rw [foldl_push];rw [show(ByteArray.empty.data++(List.map (fun n:Int=>UInt8.ofNat n.toNat) b).toArray)=(List.map (fun n:Int=>UInt8.ofNat n.toNat) b).toArray from Array.empty_append];exact VR.mkStr _
   ·simp at h
  ·simp at h
 ·simp at h
theorem aiW(hS:SR Q σ X){a:Act}{aA:T}(H:RR σ X aA a.tmps){o:Oper}{op:cV}(A:dF Q σ o op=ag)(hc:cls op=.p∨cls op=.r)(d5:op.fsl=ah){v:V}{H':an}
  (h:bu aA X.H op=ab (v,H')):H'=X.H∧∃ u,(execOp a.eval o).run Q X.w=.ok (.value u) X.w∧VR σ X v u:=by
 cases op<;>first | (simp only [cls,reduceCtorEq,or_self]at hc;done) | (simp [cV.fsl]at d5;done) | clear d5
 case bN x=>
  simp only [bu,sh,IT]at h;obtain⟨rfl,rfl⟩:=h;refine⟨rfl,?_⟩;simp only [dF]at A;split at A
  ·rename_i y E;exact⟨_,by simp [execOp,E],bS H A⟩
  ·rename_i y E;exact⟨_,by simp [execOp,E],bS H A⟩
  ·simp at A
 case pick c x y=>
  simp only [dF]at A;split at A
  ·rename_i c' x' y' E;simp only [If]at A;simp only [bu]at h;have b7:=bS H A.1.1;split at h
   ·rename_i b Z;rw [Z]at b7;have b7:=VR.bool b7;simp only [sh,IT]at h;obtain⟨rfl,rfl⟩:=h;cases b
    ·exact⟨rfl,_,by simp [execOp,E,b7,asBool],bS H A.2⟩
    ·exact⟨rfl,_,by simp [execOp,E,b7,asBool],bS H A.1.2⟩
   ·simp at h
  ·simp at A
 case build zs qs=>
  simp only [dF]at A;split at A
  ·rename_i t ps E;simp only [If]at A;simp only [bu,IN,IT]at h;obtain⟨cs,a9,rfl,rfl⟩:=h;obtain⟨z,us,h_,i_,j3,_⟩:=eF (σ:=σ) (X:=X) A.1 X.w;refine⟨rfl,?_⟩;have Z:=A.2;unfold aah at Z;split at Z
   ·rename_i fs K;split at Z
    ·rename_i pl k_;obtain⟨b_,N,h6⟩:=oy (place:=(pl.toArray[·]?)) H ((ey Z).lR fun q p W=>by
      simp only [If,decide_eq_true_eq]at W;exact⟨by simpa using W.1,W.2⟩) j3 a9
     refine⟨.agg b_.toArray,?_,b_,rfl,h6⟩;have hp:=run_places (P:=Q) X.w fs.toList pl k_;simp only [execOp,E];refine dZ ?_;simp [Instr.build,h_,a5 K,Array.mapM_eq_mapM_toList,hp,i_];simp at N;simp [N]
    ·simp at Z
   ·rename_i n e K;split at Z
    ·rename_i j4 hi;obtain⟨b_,N,h6⟩:=oy (place:=fun i=>ab (i*j4.size,j4.size)) H ((ey Z).lR fun q p W=>by
      simp only [If,beq_iff_eq]at W;exact⟨by rw [W.1.2,W.1.1],W.2⟩) j3 a9
     refine⟨.agg b_.toArray,?_,b_,rfl,h6⟩;simp only [execOp,E];refine dZ ?_;simp [Instr.build,h_,a5 K,Go.sizeOf,typeInfo,hi,i_,N]
    ·simp at Z
   ·simp at Z
  ·simp at A
 case load k x=>
  simp only [dF]at A;split at A
  ·rename_i t y E;simp only [If]at A;simp only [bu,IN,IT]at h;obtain⟨v',F,rfl,rfl⟩:=h;obtain⟨u,J,M⟩:=akF hS A.1 (bS H A.2) F;exact⟨rfl,u,by simp only [execOp,E];exact dZ J,M⟩
  ·simp at A
 case bE x=>
  simp only [dF]at A;split at A
  ·rename_i y E;have B:=bS H A;simp only [bu]at h;have d6:∀ ad,a.eval y=.pointer (ab ad)→(execOp a.eval o).run Q X.w=.ok (.value (a.eval y)) X.w:=by
    intro ad a_;simp [execOp,E,a_]
   split at h
   ·rename_i b off e Z;simp only [sh,IT]at h;obtain⟨rfl,rfl⟩:=h;rw [Z]at B;have c_:=B;obtain⟨L,hL,B⟩:=B;split at B
    ·exact⟨rfl,_,d6 _ B,c_⟩
    ·obtain⟨_,_,ad,a_⟩:=B;exact⟨rfl,_,d6 _ a_,c_⟩
    ·exact B.elim
   ·rename_i cs off Z;simp only [sh,IT]at h;obtain⟨rfl,rfl⟩:=h;rw [Z]at B;have c_:=B;have:∃ ad,a.eval y=.pointer (ab ad):=by
     generalize a.eval y=u at B;cases (B:cN σ X.F X.w (.fp cs off) u);exact⟨_,rfl⟩
    obtain⟨ad,a_⟩:=this;exact⟨rfl,_,d6 _ a_,c_⟩
   ·simp at h
  ·simp at A
 case bin op x y=>
  simp only [dF]at A;split at A
  ·rename_i j8 t x' y' yt E;simp only [If,decide_eq_true_eq]at A;obtain⟨⟨rfl,B⟩,S⟩:=A;simp only [bu,IN,IT]at h;obtain⟨v',F,rfl,rfl⟩:=h;have B:=bS H B;have S:=bS H S;refine⟨rfl,?_⟩;have guard:∀ op,(∀ xs,a.eval x'≠.agg xs)→a.eval x'≠.nilIface→(eqGuard op t x' y' (a.eval x') (a.eval y')).run Q X.w=.ok () X.w:=by
    intro op J M;cases op<;>simp [eqGuard]<;>(generalize a.eval x'=ux at *;cases ux<;>simp at J M ⊢)
   unfold bV at F;split at F
   ·rename_i k n k' m J M;rw [J]at B;rw [M]at S;have B:=VR.int B;have S:=VR.int S;split at F
    ·simp at F
    ·rename_i A;simp only [sh]at F;subst F;exact⟨_,by simp only [execOp,E];refine dZ ?_;rw [Sem.run_bind,guard _ (by simp [B]) (by simp [B])];simp [B,S,binOp,Op.shift,A],VR.mkInt _ _⟩
   ·rename_i k n k' m J M;rw [J]at B;rw [M]at S;have B:=VR.int B;have S:=VR.int S;split at F
    ·simp at F
    ·rename_i A;simp only [sh]at F;subst F;exact⟨_,by simp only [execOp,E];refine dZ ?_;rw [Sem.run_bind,guard _ (by simp [B]) (by simp [B])];simp [B,S,binOp,Op.shift,A],VR.mkInt _ _⟩
   ·rename_i k n k' m _ _ J M;rw [J]at B;rw [M]at S;have B:=VR.int B;have S:=VR.int S;split at F
    ·rename_i hk;subst hk;obtain⟨u,Y,O,N⟩:=afn (Q:=Q) (σ:=σ) (X:=X) F X.w;exact⟨u,by simp only [execOp,E];refine dZ ?_;rw [Sem.run_bind,guard _ (by simp [B]) (by simp [B])];simp [B,S,N,Y],O⟩
    ·simp at F
   ·rename_i s1 s2 J M;rw [J]at B;rw [M]at S;have B:=VR.str B;have S:=VR.str S;obtain⟨u,Y,O⟩:=afp (Q:=Q) (σ:=σ) (X:=X) F X.w t;exact⟨u,by simp only [execOp,E];refine dZ ?_;rw [Sem.run_bind,guard _ (by simp [B]) (by simp [B])];simp [B,S,Y],O⟩
   ·simp at F
  ·simp at A
 case eq neg k x y=>
  simp only [dF]at A;split at A
  ·rename_i j8 t x' y' yt E;simp only [If,decide_eq_true_eq]at A;obtain⟨⟨⟨rfl,B⟩,S⟩,hk⟩:=A;simp only [bu,IN,IT]at h;obtain⟨b,F,rfl,rfl⟩:=h;refine⟨rfl,_,?_,VR.uK _⟩;simp only [execOp,E];exact dZ (akj hk (bS H B) (bS H S) F neg X.w)
  ·simp at A
 case un op x=>
  simp only [dF]at A;split at A
  ·rename_i j8 t y E;simp only [If,decide_eq_true_eq]at A;obtain⟨rfl,B⟩:=A;simp only [bu,IN,IT]at h;obtain⟨v',F,rfl,rfl⟩:=h;have B:=bS H B;refine⟨rfl,?_⟩;unfold unV at F;split at F
   ·rename_i k n J;rw [J]at B;have B:=VR.int B;simp only [sh]at F;subst F;exact⟨_,by simp [execOp,E,B,Op.unary,Op.intArith],VR.mkInt _ _⟩
   ·rename_i b J;rw [J]at B;have B:=VR.bool B;simp only [sh]at F;subst F;exact⟨_,by simp [execOp,E,B,Op.unary],VR.uK _⟩
   ·simp at F
  ·simp at A
 case eX k x=>
  simp only [dF]at A;split at A
  ·rename_i s d y E;simp only [If]at A;obtain⟨⟨B,hs⟩,hd⟩:=A;have B:=bS H B;simp only [bu]at h;split at h
   ·rename_i q n J;rw [J]at B;have B:=VR.int B;simp only [sh,IT]at h;obtain⟨rfl,rfl⟩:=h;split at hd
    ·rename_i k' K;simp only [decide_eq_true_eq]at hd;subst hd;obtain⟨ds,j9⟩:=Option.isSome_iff_exists.1 hs;exact⟨rfl,_,by simp only [execOp,E];refine dZ ?_;simp [convert,a5 j9,a5 K,B,Conv.intToInt],VR.mkInt _ _⟩
    ·simp at hd
   ·simp at h
  ·simp at A
 case yP x=>
  simp only [dF]at A;split at A
  ·rename_i s d y E;simp only [If]at A;obtain⟨B,hd⟩:=A;have B:=bS H B;simp only [bu]at h;split at h
   ·rename_i q J;rw [J]at B;have B:=VR.str B;simp only [sh,IT]at h;obtain⟨rfl,rfl⟩:=h;split at hd
    ·rename_i d9 d_;exact⟨rfl,_,by simp only [execOp,E];refine dZ ?_;simp [convert,a5 d9,a5 d_,B],VR.mkStr _⟩
    ·simp at hd
   ·simp at h
  ·simp at A
 case lz f xs=>
  simp only [dF]at A;split at A
  ·rename_i g fst a7 E;simp only [If,beq_iff_eq]at A;obtain⟨⟨I,rfl⟩,B⟩:=A;simp only [bu,IN,IT]at h;obtain⟨cs,a9,rfl,rfl⟩:=h;have:=Bb (nH H B) a9;have f_:fst=#[]:=by simpa using I
   exact⟨rfl,.func (.func (σ f)) #[] (a7.map a.eval),by simp only [execOp,E,Instr.makeFunc,f_];exact dZ (by simp),(a7.map a.eval).toList,congrArg _ Array.toArray_toList.symm,this⟩
  ·simp at A
 case slice sz x lo hi mx=>
  simp only [dF]at A;split at A
  ·rename_i t y j7 g_ mx' E;simp only [If,decide_eq_true_eq]at A;obtain⟨⟨⟨⟨⟨B,J⟩,M⟩,Y⟩,he⟩,hz⟩:=A;obtain⟨e,K,U⟩:=iU he;simp only [bu,IN,IT]at h;obtain⟨v',F,rfl,rfl⟩:=h;obtain⟨r,O,N⟩:=x9 K U (bS H B) (sk H J) (sk H M) (sk H Y) F;exact⟨rfl,r,by simp only [execOp,E];exact dZ O,N⟩
  ·simp at A
 case lK n sz x lo hi mx=>
  simp only [dF]at A;split at A
  ·rename_i t y j7 g_ mx' E;simp only [If,decide_eq_true_eq]at A;obtain⟨⟨⟨⟨⟨B,J⟩,M⟩,Y⟩,he⟩,hz⟩:=A;split at he
   ·rename_i n' e K;simp only [If,beq_iff_eq]at he;obtain⟨rfl,U⟩:=he;simp only [bu,IN,IT]at h;obtain⟨v',F,rfl,rfl⟩:=h;obtain⟨r,O,N⟩:=Oq hS K U (bS H B) (sk H J) (sk H M) (sk H Y) F;exact⟨rfl,r,by simp only [execOp,E];exact dZ O,N⟩
   ·simp at he
  ·simp at A
 case qM x lo hi=>
  simp only [dF]at A;split at A
  ·rename_i t y j7 g_ E;simp only [If]at A;obtain⟨⟨⟨B,J⟩,M⟩,he⟩:=A;split at he
   ·rename_i K;simp only [bu,IN,IT]at h;obtain⟨v',F,rfl,rfl⟩:=h;obtain⟨r,O,N⟩:=Ou K (bS H B) (sk H J) (sk H M) F X.w;exact⟨rfl,r,by simp only [execOp,E,Option.map_none];exact dZ O,N⟩
   ·simp at he
  ·simp at A
 case aC off x=>
  simp only [dF]at A;split at A
  ·rename_i t y i E;simp only [If]at A;obtain⟨B,I⟩:=A;split at I
   ·rename_i fs K;split at I
    ·rename_i f d7;simp only [If,beq_iff_eq]at I;obtain⟨rfl,hz⟩:=I;simp only [bu,IN,IT]at h;obtain⟨v',F,rfl,rfl⟩:=h;obtain⟨r,O,N⟩:=DN K d7 hz (bS H B) F X.w;exact⟨rfl,r,by simp only [execOp,E];exact dZ O,N⟩
    ·simp at I
   ·simp at I
  ·simp at A
 case field off n x=>
  simp only [dF]at A;split at A
  ·rename_i t y i E;simp only [If]at A;obtain⟨B,I⟩:=A;split at I
   ·rename_i fs K;split at I
    ·rename_i f d7;simp only [If,beq_iff_eq]at I;obtain⟨rfl,hz⟩:=I;simp only [bu,IN,IT]at h;obtain⟨v',F,rfl,rfl⟩:=h;obtain⟨r,O,N⟩:=Nn K d7 hz (bS H B) F X.w;exact⟨rfl,r,by simp only [execOp,E];exact dZ O,N⟩
    ·simp at I
   ·simp at I
  ·simp at A
 case aS sz e_ x i=>
  simp only [dF]at A;split at A
  ·rename_i t y j E;simp only [If]at A;obtain⟨⟨B,hi⟩,I⟩:=A;simp only [bu,IN,IT]at h;obtain⟨v',F,rfl,rfl⟩:=h;have:∃ e,dk Q e sz=ag∧((e_=ae∧Q.underlying t=ab (.slice e))∨∃ n,e_=ab n∧Q.underlying t=ab (.array n e)):=by
    split at I
    ·rename_i e K;exact⟨e,I,.inl ⟨rfl,K⟩⟩
    ·rename_i n e n' K;simp only [If,beq_iff_eq]at I;obtain⟨rfl,U⟩:=I;exact⟨e,U,.inr ⟨_,rfl,K⟩⟩
    ·simp at I
   obtain⟨e,U,K⟩:=this;obtain⟨r,O,N⟩:=DV U K (bS H B) (bS H hi) F;exact⟨rfl,r,by simp only [execOp,E];exact dZ O,N⟩
  ·simp at A
 case idxs x i=>
  simp only [dF]at A;split at A
  ·rename_i t y j E;simp only [If]at A;obtain⟨⟨B,hi⟩,I⟩:=A;simp only [bu,IN,IT]at h;obtain⟨v',F,rfl,rfl⟩:=h;split at I
   ·rename_i K;obtain⟨r,O,N⟩:=Z4 K (bS H B) (bS H hi) F X.w;exact⟨rfl,r,by simp only [execOp,E];exact dZ O,N⟩
   ·simp at I
  ·simp at A
 case qk n sz k x i=>
  simp only [dF]at A;split at A
  ·rename_i t y j E;simp only [If]at A;obtain⟨⟨B,hi⟩,I⟩:=A;simp only [bu,IN,IT]at h;obtain⟨v',F,rfl,rfl⟩:=h;split at I
   ·rename_i n' e K;simp only [If,beq_iff_eq]at I;obtain⟨⟨rfl,U⟩,hk⟩:=I;obtain⟨r,O,N⟩:=Z3 K U hk (bS H B) (bS H hi) F X.w;exact⟨rfl,r,by simp only [execOp,E];exact dZ O,N⟩
   ·simp at I
  ·simp at A
 case lookup ck z m k=>
  simp only [dF]at A;split at A
  ·rename_i t m' k' ok E;simp only [If,beq_iff_eq]at A;obtain⟨⟨⟨J,M⟩,j_⟩,I⟩:=A;simp only [bu,IN,IT]at h;obtain⟨v',F,rfl,rfl⟩:=h;split at I
   ·rename_i kt e K;simp only [If]at I;obtain⟨u,O,N⟩:=NJ hS K I.1.1 j_ I.1.2 I.2 (bS H J) (bS H M) F;exact⟨rfl,u,by simp only [execOp,E];exact dZ O,N⟩
   ·simp at I
  ·simp at A
 case extract x i=>
  simp only [dF]at A;split at A
  ·rename_i y j E;simp only [If,beq_iff_eq]at A;obtain⟨B,rfl⟩:=A;have B:=bS H B;simp only [bu]at h;split at h
   ·rename_i vs l9;rw [l9]at B;simp only [IN,IT]at h;obtain⟨v',F,rfl,rfl⟩:=h;obtain⟨us,c9,M⟩:=B;obtain⟨u,K,l_⟩:=M.get F;exact⟨rfl,u,by simp only [execOp,E];refine dZ ?_;simp [Instr.extract,c9,K],VR.of1 σ l_⟩
   ·simp at h
  ·simp at A
 case uD n=>
  simp only [dF]at A;split at A
  ·rename_i c E;obtain⟨y,t,e,J,M,Y,K⟩:=D5 A;simp only [bu,sh,IT]at h;obtain⟨rfl,rfl⟩:=h;exact⟨rfl,_,dx E J (fun cs=>by simp [builtin,M,Y,Builtin.len_,a5 K,goInt]),VR.mkInt _ _⟩
  ·simp at A
 case lens x=>
  simp only [dF]at A;split at A
  ·rename_i c E;obtain⟨y,t,J,M,Y,B,K⟩:=D6 A;have B:=bS H B;simp only [bu]at h;split at h
   ·rename_i s hs;rw [hs]at B;have B:=VR.str B;simp only [sh,IT]at h;obtain⟨rfl,rfl⟩:=h;exact⟨rfl,_,dx E J (fun cs=>by simp [builtin,M,Y,Builtin.len_,a5 K,B,goInt]),VR.mkInt _ _⟩
   ·simp at h
  ·simp at A
 case len x=>
  simp only [dF]at A;split at A
  ·rename_i c E;obtain⟨y,t,e,J,M,Y,B,K⟩:=NN A;have B:=bS H B;simp only [bu]at h;split at h
   ·rename_i z hz;rw [hz]at B;split at h
    ·rename_i n hn;simp only [sh,IT]at h;obtain⟨rfl,rfl⟩:=h;obtain⟨ad,cp,d8⟩:=lJ B hn;exact⟨rfl,_,dx E J (fun cs=>by simp [builtin,M,Y,Builtin.len_,a5 K,d8,goInt]),VR.mkInt _ _⟩
    ·simp at h
   ·simp at h
  ·simp at A
 case mX lo xs=>
  simp only [dF]at A;split at A
  ·rename_i c E;obtain⟨J,M⟩:=D7 A;have hA:=nH H M;simp only [bu,IN,IT]at h;obtain⟨v',F,rfl,rfl⟩:=h;refine⟨rfl,?_⟩;unfold NR at F;split at F
   ·simp at F
   ·rename_i x ys m4;rw [m4]at hA
    match c9:(c.args.map a.eval).toList,hA with
    | [],hA=>have:=hA.len;simp at this
    | u::us,hA=>
     obtain⟨B,hA⟩:=hA.of_cons;obtain⟨r,g1,g2⟩:=BH (Q:=Q) (lo:=lo) X.w B hA F;refine⟨r,dx E J (fun cs=>?_),g2⟩;cases lo
     ·simp only [atY,if_false]at g1 ⊢;have g1:(us.foldlM Builtin.max2 u).run Q X.w=.ok r X.w:=g1;have b9:List.map a.eval c.args.toList=u::us:=by simpa using c9
      simp [builtin,Builtin.max_,b9,g1]
     ·simp only [if_true]at g1 ⊢;have g1:(us.foldlM Builtin.min2 u).run Q X.w=.ok r X.w:=g1;have b9:List.map a.eval c.args.toList=u::us:=by simpa using c9
      simp [builtin,Builtin.min_,b9,g1]
  ·simp at A
 case cap x=>
  simp only [dF]at A;split at A
  ·rename_i c E;obtain⟨y,t,e,J,M,Y,B,K⟩:=NM A;have B:=bS H B;simp only [bu]at h;split at h
   ·rename_i z hz;rw [hz]at B;split at h
    ·rename_i n hn;simp only [sh,IT]at h;obtain⟨rfl,rfl⟩:=h;obtain⟨ad,l,d8⟩:=abp B hn;exact⟨rfl,_,dx E J (fun cs=>by simp [builtin,M,Y,Builtin.cap_,a5 K,d8,goInt]),VR.mkInt _ _⟩
    ·simp at h
   ·simp at h
  ·simp at A
 case entry x=>
  simp only [dF]at A;split at A
  ·rename_i y E;simp only [bu,IN,IT]at h;obtain⟨v',F,rfl,rfl⟩:=h;obtain⟨r,g1,g2⟩:=Nl hS (bS H A) F;exact⟨rfl,r,by simp only [execOp,E];exact dZ g1,g2⟩
  ·simp at A
 case vN f xs=>
  simp only [dF]at A;split at A
  ·rename_i g fst a7 E;simp only [If,beq_iff_eq]at A;obtain⟨⟨I,rfl⟩,B⟩:=A;simp only [bu,IN,IT]at h;obtain⟨cs,a9,rfl,rfl⟩:=h;have:=Bb (nH H B) a9;have f9:a7=#[]:=by simpa using I
   exact⟨rfl,.func (.func (σ f)) (fst.map a.eval) #[],by simp only [execOp,E,Instr.makeFunc,f9];exact dZ (by simp),(fst.map a.eval).toList,by rw [Array.toArray_toList],this⟩
  ·simp at A
 case call f args h'=>cases h'<;>simp [cls]at hc
 case vJ x=>
  simp only [dF]at A;split at A
  ·rename_i s d y E;simp only [If]at A;obtain⟨B,hd⟩:=A;have B:=bS H B;split at hd
   ·rename_i e d9 d_;simp only [If]at hd;have l7:Q.underlying e=ab (.int .u8):=by
     have:=hd.1;unfold aot at this;split at this
     ·assumption
     ·simp at this
    simp only [bu,IN,IT]at h;obtain⟨v',F,rfl,rfl⟩:=h;obtain⟨u,O,N⟩:=ZP hS B F;refine⟨rfl,u,?_,N⟩;simp only [execOp,E];refine dZ ?_;simp only [convert,Sem.run_bind,a5 d9,a5 d_,Result.andThen_ok];have:∃ ad l c,a.eval y=.slice ad l c:=by
     unfold oX at F;split at F
     ·rename_i z hz;rw [hz]at B;split at F
      ·rename_i l hl;obtain⟨ad,c,h⟩:=lJ B hl;exact⟨_,_,_,h⟩
      ·simp at F
     ·simp at F
    obtain⟨ad,l,c,h6⟩:=this;rw [h6]at O ⊢;simp only [Sem.run_bind,a5 l7,Result.andThen_ok,O]
   ·simp at hd
  ·simp at A
end
section
variable{Q:Program}{σ:Nat→FuncId}{X:Wd}
theorem SR.lt(d:SR Q σ X){b:Nat}{L:Loc}(h:X.cC b=ab L):b<X.H.length:=by
 obtain⟨_,_,bp,g,_⟩:=d.br b L h;exact(BY.1 g).1
theorem SR.rX(b:SR Q σ X):X.cC X.H.length=ae:=by
 cases h:X.cC X.H.length with
 | none=>rfl| some L=>have:=SR.lt b h;omega
theorem Ext.one(H:SR Q σ X){X':Wd}(b0:Nat)(A:X'.B=X.B)(x:∀ c i,X'.F c i↔X.F c i)
  (y:∀ k,k<X.w.heap.size→(∀ L,X.cC b0=ab L→k≠L.c)→X'.w.heap[k]?=X.w.heap[k]?)
  (u:∀ L i,X.cC b0=ab L→X.F L.c i→X'.w.cell? ⟨L.c,i,ae⟩=X.w.cell? ⟨L.c,i,ae⟩) (j:b0<X.H.length→mG X X' b0)
  (E:∀ b,b≠b0→b<X.H.length→X'.H[b]?=X.H[b]?) (d:∀ b,b≠b0→X'.cC b=X.cC b)
  (v:∀ L,X'.cC b0=ab L→(∃ q,X.cC b0=ab q∧q.c=L.c)∨X.w.heap.size≤L.c) (K:X.w.heap.size≤X'.w.heap.size) (ho:X'.w.os=X.w.os) (M:X'.w.tape=X.w.tape)
  (hu:X'.w.output=X.w.output):Ext X.H.length X X' where
 B:=A
 F:=fun c i h=>(x c i).2 h
 pT:=fun c i h=>.inl ((x c i).1 h)
 fw:=fun c i h=>by
  by_cases hc:∃ L,X.cC b0=ab L∧c=L.c
  ·obtain⟨L,g,rfl⟩:=hc;exact u L i g h
  ·exact World.cell?_of_block (y c (H.fb c i h) fun L g e=>hc ⟨L,g,e⟩)
 cu:=fun b l=>by
  by_cases h:b=b0
  ·subst h;exact j l
  ·intro bp m;refine⟨bp,(E b h l).trans m,?_⟩;have:∀ L,X.cC b=ab L→X'.cC b=ab L:=fun L g=>(d b h).trans g;cases bp<;>simp_all
 xp:=fun b L l=>by
  by_cases h:b=b0
  ·subst h;rcases v L l with⟨q,s,z⟩ | s
   ·exact .inl ⟨b,q,s,z⟩
   ·exact .inr s
  ·rw [d b h]at l;exact .inl ⟨b,L,l,rfl⟩
 size:=K
 os:=ho
 tape:=M
 output:=hu
 frame:=fun k I J=>y k I fun L g e=>J b0 L g e.symm
theorem SR.grow(d:SR Q σ X)(bp:c6):SR Q σ { X with H:=X.H++[bp] }∧Ext X.H.length X { X with H:=X.H++[bp] }:=by
 have j:Ext X.H.length X { X with H:=X.H++[bp] }:=Ext.one d X.H.length rfl (fun _ _=>Iff.rfl) (fun _ _ _=>rfl) (fun _ _ _ _=>rfl) (fun h=>by omega)
  (fun b _ h=>by simp [AI h]) (fun _ _=>rfl) (fun L h=>by rw [SR.rX d]at h;simp at h) (aft _) rfl rfl rfl
 refine⟨⟨fun b L g=>?_,d.inj,d.fb⟩,j⟩;obtain⟨l,m,blk',q,s⟩:=d.br b L g;exact⟨l,m,blk',by rw [AI (SR.lt d g)];exact q,BR.ext Q σ j rfl (fun _ h=>h) s⟩
structure dP(w w':World)(o:Obj):Prop where
 heap:w'.heap=w.heap.push o
 os:w'.os=w.os
 tape:w'.tape=w.tape
 output:w'.output=w.output
theorem dP.alloc(w:World)(o:Obj):dP w (w.alloc o) o:=⟨rfl,rfl,rfl,rfl⟩
theorem dP.CE{w w':World}{o:Obj}(h:dP w w' o){k:Nat}(b:k<w.heap.size):w'.heap[k]?=w.heap[k]?:=by
 rw [h.heap,Array.getElem?_push,aY (by omega)]
theorem dP.new{w w':World}{o:Obj}(h:dP w w' o):w'.heap[w.heap.size]?=ab o:=by
 rw [h.heap];simp
theorem dP.size{w w':World}{o:Obj}(h:dP w w' o):w'.heap.size=w.heap.size+1:=by
 rw [h.heap];simp
theorem SR.fill(g:SR Q σ X)(x:X.B≤X.w.heap.size){n:Nat}{bp:c6}(y:X.H[n]?=ab bp)(hr:X.cC n=ae){w':World}{o:Obj}(d:dP X.w w' o)(cap:Nat)
  (m:Ext X.H.length X { X with cC:=fun b=>if b=n then ab ⟨X.w.heap.size,cap⟩else X.cC b,w:=w' }→BR Q σ { X with cC:=fun b=>if b=n then ab ⟨X.w.heap.size,cap⟩else X.cC b,w:=w' } bp ⟨X.w.heap.size,cap⟩) :
  SR Q σ { X with cC:=fun b=>if b=n then ab ⟨X.w.heap.size,cap⟩else X.cC b,w:=w' }∧Ext X.H.length X { X with cC:=fun b=>if b=n then ab ⟨X.w.heap.size,cap⟩else X.cC b,w:=w' }:=by
 have q:Ext X.H.length X { X with cC:=fun b=>if b=n then ab ⟨X.w.heap.size,cap⟩else X.cC b,w:=w' }:=
  Ext.one g n rfl (fun _ _=>Iff.rfl) (fun k h _=>d.CE h) (fun L i u _=>by rw [hr]at u;simp at u)
   (fun _ s l=>⟨s,l,by
    cases s<;>simp [hr]⟩)
   (fun _ _ _=>rfl) (fun b h=>by simp [h]) (fun L h=>by simp at h;subst h;exact .inr (aft _)) (by rw [d.size];omega) d.os d.tape d.output
 refine⟨SR.step Q σ g q n (fun _ _=>rfl) (fun b h=>by simp [h]) (fun b L _ j=>d.CE (g.br b L j).2.1) (fun _ _ _ _ _ h=>h) (fun L h=>?_) (fun c i h=>by rw [d.size];have:=g.fb c i h;omega),q⟩;simp at h;subst h;refine⟨x,by simp [d.size],⟨bp,y,m q⟩,fun b v _ j=>?_⟩;have:=(g.br b v j).2.1;simp;omega
theorem SR.new(g:SR Q σ X)(s:X.B≤X.w.heap.size)(bp:c6){w':World}{o:Obj}(j:dP X.w w' o)(cap:Nat)
  (b:∀ X',Ext X.H.length X X'→X'.w=w'→X'.F=X.F→X'.H=X.H++[bp]→BR Q σ X' bp ⟨X.w.heap.size,cap⟩) :
  ∃ X',X'.w=w'∧X'.H=X.H++[bp]∧SR Q σ X'∧Ext X.H.length X X'∧X'.cC X.H.length=ab ⟨X.w.heap.size,cap⟩∧X'.B≤X'.w.heap.size:=by
 obtain⟨l,d⟩:=SR.grow g bp;have u:(X.H++[bp])[X.H.length]?=ab bp:=by simp
 obtain⟨m,q⟩:=SR.fill l s u (SR.rX g) j cap (fun v=>b _ (d.trans (v.mono (by simp))) rfl rfl rfl);exact⟨_,rfl,rfl,m,d.trans (q.mono (by simp)),by simp,by simp [j.size];omega⟩
theorem SR.turn(m:SR Q σ X){b:Nat}{bp blk':c6}{L:Loc}(B:X.H[b]?=ab bp)(l:X.cC b=ab L){w':World}(x:w'.heap.size=X.w.heap.size)
  (y:∀ k,k≠L.c→w'.heap[k]?=X.w.heap[k]?) (A:∀ i,X.F L.c i→w'.cell? ⟨L.c,i,ae⟩=X.w.cell? ⟨L.c,i,ae⟩) (ho:w'.os=X.w.os) (E:w'.tape=X.w.tape) (hu:w'.output=X.w.output)
  (j:mG X { X with H:=X.H.set b blk',w:=w' } b)
  (s:Ext X.H.length X { X with H:=X.H.set b blk',w:=w' }→BR Q σ { X with H:=X.H.set b blk',w:=w' } blk' L) :
  SR Q σ { X with H:=X.H.set b blk',w:=w' }∧Ext X.H.length X { X with H:=X.H.set b blk',w:=w' }:=by
 have u:b<X.H.length:=(BY.1 B).1;have v:Ext X.H.length X { X with H:=X.H.set b blk',w:=w' }:=
  Ext.one m b rfl (fun _ _=>Iff.rfl) (fun k _ h=>y k (h L l)) (fun d i h=>by rw [l]at h;cases h;exact A i) (fun _=>j)
   (fun q h _=>by simp [By (Ne.symm h)]) (fun _ _=>rfl) (fun d h=>.inl ⟨d,h,rfl⟩) (Nat.le_of_eq x.symm) ho E hu
 refine⟨SR.step Q σ m v b (fun q h=>by simp [By (Ne.symm h)]) (fun _ _=>rfl) (fun q d h g=>y _ fun e=>h (m.inj q b d L g l e)) (fun _ _ _ _ _ h=>h)
  (fun d h=>?_) (fun c i h=>by rw [x];exact m.fb c i h),v⟩
 change X.cC b=ab d at h;rw [l]at h;cases h;obtain⟨z,F,_⟩:=m.br b L l;exact⟨z,by show L.c<w'.heap.size;omega,⟨blk',by simp [u],s v⟩,fun q d h g e=>h (m.inj q b d L g l e)⟩
theorem jL{w:World}{c:Nat}{us:List Value}(h:rowAt w c us):∀(b:List Value) (off:Nat),off+b.length≤us.length →
  (w.setCells c off b).heap.size=w.heap.size∧(∀ k,k≠c→(w.setCells c off b).heap[k]?=w.heap[k]?)∧(w.setCells c off b).os=w.os∧(w.setCells c off b).tape=w.tape ∧
  (w.setCells c off b).output=w.output∧rowAt (w.setCells c off b) c (over us off b)
 | [],off,_=>⟨rfl,fun _ _=>rfl,rfl,rfl,rfl,by simpa [World.setCells,over]using h⟩
 | v::b,off,j=>by
  simp only [aup]at j;have d:rowAt (w.setCell ⟨c,off,ae⟩ v) c (us.set off v):=by
   obtain⟨e,fr,d,g⟩:=h;refine⟨e,fr,?_,by simpa using g⟩;simp [World.setCell,Array.getElem?_modify,d]
  obtain⟨g,m,q,s,u,x⟩:=jL d b (off+1) (by simp;omega);simp only [World.setCells];refine⟨by rw [g];simp,fun k l=>(m k l).trans ?_,q,s,u,?_⟩
  ·simp only [World.setCell,Array.getElem?_modify];rw [aY (by simpa using Ne.symm l)]
  ·have:over (us.set off v) (off+1) b=over us off (v::b):=by
    unfold over;simp only [aup];rw [List.take_set,List.drop_set_of_lt (by omega),show off+1+b.length=off+(b.length+1) by omega];rw [at0 (by omega)];have j:(List.take off us).length=off:=by simp;omega
    have e:(List.take off us++[us[off]]).set off v=List.take off us++[v]:=by
     rw [List.set_append,aY (by omega),j];simp
    rw [e];simp
   rw [←this];exact x
theorem sd{w:World}{c:Nat}{us:List Value}(h:rowAt w c us)(b:List Value)(off:Nat)(l:off+b.length≤us.length)(d:∀ v ∈ b,v.oneCell'=ag) :
  (storeCells ⟨c,off,ae⟩ b).run Q w=.ok () (w.setCells c off b):=by
 have:=run_storeCells_cells (P:=Q) c off b 0 w (fun j g=>by rw [dR h];simp;omega) (fun j g=>DQ h (by omega)) d;simpa using this
theorem BO{α:Type}(us:List α)(off:Nat)(b:List α)(h:off+b.length≤us.length)(i:Nat)(hi:i<off):(over us off b)[i]?=us[i]?:=by
 unfold over;rw [AI (by simp;omega),AI (by simp;omega),auo];simp [hi]
end
section
variable{Q:Program}{σ:Nat→FuncId}{X:Wd}
def iK(Q:Program)(σ:Nat→FuncId)(X:Wd)(v:V)(b:an)(s:Sem Next):Prop:=
 ∃ u X',(s.run Q X.w=.ok (.value u) X'.w∨(s.run Q X.w=.ok .skip X'.w∧u=undef))∧X'.H=b∧SR Q σ X'∧VR σ X' v u∧Ext X.H.length X X'∧X'.B≤X'.w.heap.size
theorem iK.aoX(j:X.B≤X.w.heap.size)(l:SR Q σ X){v:V}{b:an}{s:Sem Next}(h:b=X.H∧∃ u,s.run Q X.w=.ok (.value u) X.w∧VR σ X v u):iK Q σ X v b s:=by
 obtain⟨rfl,u,d,g⟩:=h;exact⟨u,X,.inl d,rfl,l,g,Ext.refl _ _,j⟩
theorem lI{w w':World}{us:List Value}{e:TypeId}(h:dP w w' (.cells us.toArray e)):rowAt w' w.heap.size us:=⟨e,(0,0),h.new,fun i _=>by simp⟩
theorem Eh(b:SR Q σ X)(g:X.B≤X.w.heap.size){cs:List C}{us:List Value}(h:A2 (CR σ X) cs us)(e:TypeId) :
  ∃ X',X'.w=X.w.alloc (.cells us.toArray e)∧X'.H=X.H++[.box cs 0]∧SR Q σ X'∧Ext X.H.length X X'∧X'.cC X.H.length=ab ⟨X.w.heap.size,0⟩∧X'.B≤X'.w.heap.size:=
 SR.new b g (.box cs 0) (dP.alloc _ _) 0 fun X' m l j _=>⟨us,by rw [l];exact lI (dP.alloc _ _),A2.ext' σ m h,fun i _ d=>by
  rw [j]at d;have:=b.fb _ _ d;simp at this⟩
theorem uM(u:SR Q σ X)(q:X.B≤X.w.heap.size){cs:List C}{us:List Value}(h:A2 (CR σ X) cs us)(e:TypeId){s:Sem Next}
  (v:s.run Q X.w=.ok (.value (.pointer (ab ⟨X.w.heap.size,0,ae⟩))) (X.w.alloc (.cells us.toArray e))):iK Q σ X (.c (.ptr X.H.length 0 0)) (X.H++[.box cs 0]) s:=by
 obtain⟨X',d,b,g,j,l,m⟩:=Eh u q h e;refine⟨_,X',.inl (by rw [d];exact v),b,g,?_,j,m⟩;exact⟨_,l,by rw [b];simp⟩
theorem Zn(m:SR Q σ X)(l:X.B≤X.w.heap.size){a:Act}{o:Oper}{zs:List FC}(b:dF Q σ o (.alloc zs)=ag) :
  iK Q σ X (.c (.ptr X.H.length 0 0)) (X.H++[.box (zs.map .f) 0]) (execOp a.eval o):=by
 simp only [dF]at b;split at b
 ·rename_i t q;obtain⟨z,us,d,g,j,_⟩:=eF (σ:=σ) (X:=X) b X.w;refine uM m l j t ?_;simp only [execOp,q];refine dZ ?_;simp [Instr.alloc,d,newVar,newRow,g]
 ·simp at b
theorem ajY(m:SR Q σ X)(j:X.B≤X.w.heap.size){a:Act}{aA:T}(l:RR σ X aA a.tmps){o:Oper}{x:Arg}(b:dF Q σ o (.box x)=ag){xs:List C}(s:(x.ev aA).cells?=ab xs) :
  iK Q σ X (.c (.ptr X.H.length 0 0)) (X.H++[.box xs 0]) (execOp a.eval o):=by
 simp only [dF]at b;split at b
 ·rename_i t y q;obtain⟨us,d,g⟩:=p_ (bS l b) s;refine uM m j g t ?_;simp only [execOp,q];refine dZ ?_;simp [Instr.box,newVar,newRow,d]
 ·simp at b
theorem kj{zs:List FC}{us:List Value}(h:A2 (CR σ X) (zs.map .f) us)(n:Nat):A2 (CR σ X) ((cP n zs).map .f) (cP n us):=by
 induction n with
 | zero=>exact A2.nil
 | succ n b=>
  simp only [cP,List.replicate_succ,List.flatten_cons,List.map_append]at b ⊢;exact h.append b
theorem lG{α:Type}(n:Nat)(xs:List α):(cP n xs).length=n*xs.length:=by simp [cP]
theorem B9{α:Type}(us:List α):∀(n i:Nat),i<n*us.length→(cP n us)[i]?=us[i % us.length]?
 | 0,i,h=>by simp at h
 | n+1,i,h=>by
  have b:cP (n+1) us=us++cP n us:=by simp [cP,List.replicate_succ]
  rw [b];by_cases hi:i<us.length
  ·rw [AI hi,Nat.mod_eq_of_lt hi]
  ·have d:(n+1)*us.length=n*us.length+us.length:=by rw [auD];omega
   rw [at1 (by omega),B9 us n (i-us.length) (by omega)];rw [←Nat.mod_eq_sub_mod (by omega)]
theorem jq(us:List Value)(n:Nat)(q:0<us.length):((Array.range (n*us.length)).map fun i=>us.toArray[i % us.toArray.size]!)=(cP n us).toArray:=by
 apply Array.ext
 ·simp [lG]
 ·intro i g j;have l:i<n*us.length:=by simpa using g
  have b:=B9 us n i l;have d:i % us.length<us.length:=Nat.mod_lt _ q;have m:i<(cP n us).length:=by simpa using j
  rw [AT m,AT d,sh]at b;simp [b,d]
theorem M8(d:SR Q σ X)(hB:X.B≤X.w.heap.size){a:Act}{aA:T}(hR:RR σ X aA a.tmps){o:Oper}{sz n:Nat}{zs:List FC}{ps:List (Nat × Arg)}
  (l:dF Q σ o (.aR sz zs n ps)=ag) {v:V} {S:an} (h:bu aA X.H (.aR sz zs n ps)=ab (v,S)):iK Q σ X v S (execOp a.eval o):=by
 simp only [dF]at l;split at l
 ·rename_i t n' qs Z;simp only [If,beq_iff_eq,decide_eq_true_eq]at l;obtain⟨⟨⟨⟨rfl,W⟩,A⟩,r⟩,f⟩:=l;obtain⟨e,hu,A⟩:=iU A;simp only [If,decide_eq_true_eq]at A;obtain⟨⟨s,hz⟩,a7⟩:=A;obtain⟨z,us,N,O,u,_⟩:=eF (σ:=σ) (X:=X) hz X.w;have M:us.length=sz:=by have:=u.len;simp at this;omega
  simp only [bu]at h;split at h
  ·
   rename_i Y;subst Y;split at h
   ·rename_i m;simp only [sh,IT]at h;obtain⟨rfl,rfl⟩:=h;have j:qs.toList=[]:=by
     have:=(ey f).len;simp only [List.isEmpty_iff]at m;rw [m]at this;exact api this.symm
    have j:qs=#[]:=by apply Array.ext';simpa using j
    obtain⟨X',E,y,F,H,U,I⟩:∃ X':Wd,X'.w=X.w.alloc (.cells #[] e)∧X'.H=X.H∧SR Q σ X'∧Ext X.H.length X X'∧True∧X'.B≤X'.w.heap.size:=by
     have hx:Ext X.H.length X { X with w:=X.w.alloc (.cells #[] e) }:=Ext.one d X.H.length rfl (fun _ _=>Iff.rfl) (fun k hk _=>(dP.alloc _ _).CE hk)
      (fun L i h=>by rw [SR.rX d]at h;simp at h) (fun h=>by omega) (fun _ _ _=>rfl) (fun _ _=>rfl) (fun L h=>by rw [SR.rX d]at h;simp at h) (by simp) rfl rfl rfl
     refine⟨{ X with w:=X.w.alloc (.cells #[] e) },rfl,rfl,SR.step Q σ d hx X.H.length (fun _ _=>rfl) (fun _ _=>rfl) (fun b L _ hb=>(dP.alloc _ _).CE (d.br b L hb).2.1)
      (fun _ _ _ _ _ h=>h) (fun L h=>by rw [SR.rX d]at h;simp at h) (fun c i h=>?_),hx,trivial,?_⟩
     ·have:=d.fb c i h;simp;omega
     ·simp;omega
    refine⟨.slice (ab ⟨X.w.heap.size,0,ae⟩) 0 0,X',.inl ?_,y,F,cN.es _,H,I⟩;rw [E];simp only [execOp,Z];refine dZ ?_;simp [Instr.buildSlice,a5 hu,c5 s,j,Instr.fill,newRow,show Array.range 0=(#[]:Array Nat) from rfl]
   ·simp at h
  ·rename_i Y;simp only [IN,IT]at h;obtain⟨cs,J,rfl,rfl⟩:=h;obtain⟨a9,U,I⟩:=oy (place:=fun i=>ab (i*sz,sz)) (ps:=qs.toList) hR (qs:=ps.map fun p=>(p.1*sz,sz,p.2)) (A2.map ((ey f).lR fun q p g=>by
    simp only [If,beq_iff_eq]at g;exact⟨by rw [g.1],g.2⟩)) (kj u n') J
   obtain⟨X',E,y,F,H,h7,h8⟩:=Eh d hB I e;refine⟨.slice (ab ⟨X.w.heap.size,0,ae⟩) n' n',X',.inl ?_,y,F,?_,H,h8⟩
   ·rw [E];simp only [execOp,Z];refine dZ ?_;have K:n'*sz≠0:=by
     intro B;rcases avq.1 B with B | B<;>omega
    have x:=jq us n' (by omega);rw [M]at x;simp only [Instr.buildSlice,Sem.run_bind,a5 hu,c5 s,Result.andThen_ok,aY (show¬ n'*sz>2 ^ 24 by omega),Sem.run_ite,aY K,N,Sem.run_pure,O];simp only [Array.toList_map];rw [x];simp [U,newRow]
   ·simp only [VR,ju,CR,fR,y];simp;exact⟨_,h7,rfl⟩
 ·simp at l
theorem Fv:∀ {cs:List C} {b:List FC},fcL cs=ab b→cs=b.map .f
 | [],b,h=>by simp [fcL]at h;subst h;rfl
 | c::cs,b,h=>by
  cases c with
  | f x=>
   simp only [fcL,IN]at h;obtain⟨g,d,rfl⟩:=h;rw [Fv d];rfl
  | _=>simp [fcL]at h
theorem xl(s:SR Q σ X)(hB:X.B≤X.w.heap.size){a:Act}{aA:T}(hR:RR σ X aA a.tmps){o:Oper}{sz n:Nat}{zs:List FC}{ps:List (Nat × Arg)}
  (J:dF Q σ o (.iM sz zs n ps)=ag) {v:V} {H H':an} (h:bu aA H (.iM sz zs n ps)=ab (v,H')) :
  H'=H∧∃ u X',(execOp a.eval o).run Q X.w=.ok (.value u) X'.w∧X'.H=X.H∧SR Q σ X'∧VR σ X' v u∧Ext X.H.length X X'∧X'.B≤X'.w.heap.size∧X'.cC=X.cC:=by
 simp only [dF]at J;split at J
 ·rename_i t n' qs ho;simp only [If,beq_iff_eq,decide_eq_true_eq]at J;obtain⟨⟨⟨⟨rfl,a_⟩,S⟩,b7⟩,hq⟩:=J;obtain⟨e,K,S⟩:=iU S;simp only [If,decide_eq_true_eq]at S;obtain⟨⟨Z,hz⟩,b9⟩:=S;obtain⟨z,us,a7,a9,N,_⟩:=eF (σ:=σ) (X:=X) hz X.w;have f:us.length=sz:=by have:=N.len;simp at this;omega
  simp only [bu,IN,aue,IT]at h;obtain⟨fs,⟨cs,W,j⟩,rfl,rfl⟩:=h;split at j
  ·simp at j
  rename_i hn;have A:=Fv j;obtain⟨d,h5,h6⟩:=oy (place:=fun i=>ab (i*sz,sz)) (ps:=qs.toList) hR (qs:=ps.map fun p=>(p.1*sz,sz,p.2)) (A2.map ((ey hq).lR fun q p l=>by
   simp only [If,beq_iff_eq]at l;exact⟨by rw [l.1],l.2⟩)) (kj N n') W
  have g:dP X.w (X.w.alloc (.cells d.toArray e)) (.cells d.toArray e):=dP.alloc _ _;obtain⟨w',m⟩:=aP (X.w.alloc (.cells d.toArray e));rw [←m]at g;have E:∀ c i,X.F c i→w'.cell? ⟨c,i,ae⟩=X.w.cell? ⟨c,i,ae⟩:=fun c i h=>World.cell?_of_block (g.CE (s.fb c i h));have hx:Ext X.H.length X { X with w:=w',F:=fun c i=>X.F c i∨(c=X.w.heap.size∧i<d.length) }:={
   B:=rfl
   F:=fun c i h=>.inl h
   pT:=fun c i h=>h.elim .inl fun h=>.inr (.inl (by rw [h.1];exact aft _))
   fw:=E
   cu:=fun b _ bp y=>⟨bp,y,by cases bp<;>simp⟩
   xp:=fun b L h=>.inl ⟨b,L,h,rfl⟩
   size:=by show _≤w'.heap.size;rw [g.size];omega
   os:=g.os
   tape:=g.tape
   output:=g.output
   frame:=fun k hk _=>g.CE hk }
  refine⟨rfl,.slice (ab ⟨X.w.heap.size,0,ae⟩) n' n',{ X with w:=w',F:=fun c i=>X.F c i∨(c=X.w.heap.size∧i<d.length) },?_,rfl,?_,?_,hx,?_,rfl⟩
  ·simp only [execOp,ho];refine dZ ?_;have Y:n'*sz≠0:=by
    intro U;rcases avq.1 U with U | U<;>omega
   have O:=jq us n' (by omega);rw [f]at O;simp only [Instr.buildSlice,Sem.run_bind,a5 K,c5 Z,Result.andThen_ok,aY (show¬ n'*sz>2 ^ 24 by omega),Sem.run_ite,aY Y,a7,Sem.run_pure,a9];simp only [Array.toList_map];rw [O];simp [h5,newRow,m]
  ·exact SR.step Q σ s hx X.H.length (fun _ _=>rfl) (fun _ _=>rfl) (fun b L _ y=>g.CE (s.br b L y).2.1)
    (fun b L _ y i h=>h.elim id fun h=>by have:=(s.br b L y).2.1;omega) (fun L h=>by change X.cC X.H.length=ab L at h;rw [SR.rX s]at h;simp at h)
    (fun c i h=>by
     show c<w'.heap.size;rw [g.size];rcases h with h | h
     ·have:=s.fb c i h;omega
     ·omega)
  ·have I:d.length=fs.length:=by have:=h6.len;rw [A]at this;simp at this;omega
   refine cN.fs fs n' X.w.heap.size 0 n' d (aft _) I (fun i hi=>.inr ⟨rfl,by omega⟩) (fun i u K=>?_) fun i x u r K=>?_
   ·show w'.cell? _=_;rw [dR (show rowAt w' X.w.heap.size d by rw [m];exact lI (dP.alloc _ _)),Nat.zero_add];exact K
   ·obtain⟨u',M,hr⟩:=h6.get (i:=i) (x:=.f x) (by rw [A,auN,r];rfl);rw [K]at M;cases M;exact cN.mono (fun c i h=>.inl h) E hr
  ·show X.B≤w'.heap.size;rw [g.size];omega
 ·simp at J
end
section
variable{Q:Program}{σ:Nat→FuncId}{X:Wd}
theorem BN{α:Type}(us rest:List α)(off:Nat)(b:List α)(h:off+b.length≤us.length):over (us++rest) off b=over us off b++rest:=by
 unfold over;rw [List.take_append_of_le_length (by omega),List.drop_append_of_le_length (by omega)];simp
theorem A2.one{cs:List C}{us:List Value}(h:A2 (CR σ X) cs us):∀ v ∈ us,v.oneCell'=ag:=by
 intro v d;obtain⟨i,hi⟩:=auH d;have b:i<cs.length:=by rw [h.len];exact(BY.1 hi).1
 exact CR.one σ (h.2 i _ v (AT b) hi)
theorem Cy(z:SR Q σ X){b:Nat}{cs:List C}{l:Nat}{L:Loc}(q:X.H[b]?=ab (.box cs l))(y:X.cC b=ab L){xs:List C}{j:List Value}(u:A2 (CR σ X) xs j){off:Nat}
  (I:l≤off) (U:off+xs.length≤cs.length):∃ X',(storeCells ⟨L.c,off,ae⟩ j).run Q X.w=.ok () X'.w∧X'.H=X.H.set b (.box (over cs off xs) l)∧SR Q σ X'∧Ext X.H.length X X' ∧
   (∀ b,X'.cC b=X.cC b)∧X'.w.heap.size=X.w.heap.size∧X'.B=X.B:=by
 obtain⟨_,_,bp,g,s⟩:=z.br b L y;rw [q]at g;simp only [sh]at g;subst g;obtain⟨us,hr,v,x⟩:=s;have K:=u.len;have J:=v.len;obtain⟨A,M,N,O,S,B⟩:=jL hr j off (by omega);obtain⟨E,F⟩:=SR.turn z (blk':=.box (over cs off xs) l) q y A M (fun i H=>by
   rw [dR B,dR hr];have:i<off:=by
    rcases aut i off with h | h
    ·exact h
    ·exact absurd H (x i (by omega))
   exact BO us off j (by omega) i this) N O S
  (fun bp d=>⟨.box (over cs off xs) l,by simp [(BY.1 q).1],by rw [q]at d;simp only [sh]at d;subst d;exact fun L h=>h⟩)
  (fun m=>⟨over us off j,B,A2.over (A2.ext' σ m v) (A2.ext' σ m u) off,x⟩)
 exact⟨_,sd hr j off (by omega) (A2.one u),rfl,E,F,fun _=>rfl,A,rfl⟩
theorem Cz(B:SR Q σ X){b:Nat}{sz:Nat}{cs:List C}{l q:Nat}{L:Loc}(s:X.H[b]?=ab (.bR sz cs l q .loc))(A:X.cC b=ab L){xs:List C}{j:List Value}(v:A2 (CR σ X) xs j){off:Nat}
  (N:l≤off) (O:off+xs.length≤cs.length):∃ X',(storeCells ⟨L.c,off,ae⟩ j).run Q X.w=.ok () X'.w∧X'.H=X.H.set b (.bR sz (over cs off xs) l q .loc)∧SR Q σ X'∧Ext X.H.length X X' ∧
   (∀ b,X'.cC b=X.cC b)∧X'.w.heap.size=X.w.heap.size∧X'.B=X.B:=by
 obtain⟨_,_,bp,g,u⟩:=B.br b L A;rw [s]at g;simp only [sh]at g;subst g;obtain⟨U,us,rest,hr,y,I,J,K,z⟩:=u;have Y:=v.len;have W:=y.len;obtain⟨E,Z,a,c,e,x⟩:=jL hr j off (by simp;omega);rw [BN _ _ _ _ (by omega)]at x;have S:=BP us off j (by omega);obtain⟨F,H⟩:=SR.turn B (blk':=.bR sz (over cs off xs) l q .loc) s A E Z (fun i M=>by
   rw [dR x,dR hr];have:i<off:=by
    rcases aut i off with h | h
    ·exact h
    ·exact absurd M (z i (by omega))
   rw [AI (by omega),AI (by omega)];exact BO us off j (by omega) i this) a c e
  (fun bp d=>⟨.bR sz (over cs off xs) l q .loc,by simp [(BY.1 s).1],by rw [s]at d;simp only [sh]at d;subst d;exact⟨rfl,.inl ⟨rfl,rfl,fun L h=>h⟩⟩⟩)
  (fun m=>⟨rfl,over us off j,rest,x,A2.over (A2.ext' σ m y) (A2.ext' σ m v) off,by simp only [List.length_append]at I ⊢;omega,J,by rw [BP cs off xs O];exact K,z⟩)
 exact⟨_,sd hr j off (by simp;omega) (A2.one v),rfl,F,H,fun _=>rfl,E,rfl⟩
theorem aby(E:SR Q σ X){x:C}{u:Value}(d:CR σ X x u){xs:List C}{F:List Value}(l:A2 (CR σ X) xs F){A:an}(h:dn X.H x xs=ab A) :
  ∃ c off X',u=.pointer (ab ⟨c,off,ae⟩)∧(storeCells ⟨c,off,ae⟩ F).run Q X.w=.ok () X'.w∧X'.H=A∧SR Q σ X'∧Ext X.H.length X X'∧X'.w.heap.size=X.w.heap.size∧X'.B=X.B:=by
 unfold dn at h;split at h
 ·rename_i b off I;obtain⟨L,B,d⟩:=d;split at h
  ·rename_i cs H j;rw [j]at d;simp only at d;subst d;split at h
   ·rename_i g;simp only [sh]at h;subst h;obtain⟨X',m,q,s,v,_,y,z⟩:=Cy E j B l g.1 g.2;exact⟨_,_,X',rfl,m,q,s,v,y,z⟩
   ·simp at h
  ·rename_i sz cs H e j;rw [j]at d;split at h
   ·rename_i g;have d:=d.2.1 g.1;subst d;simp only [sh]at h;subst h;obtain⟨X',m,q,s,v,_,y,z⟩:=Cz E j B l g.2.1 g.2.2;exact⟨_,_,X',rfl,m,q,s,v,y,z⟩
   ·simp at h
  ·simp at h
 ·simp at h
theorem abA(F:SR Q σ X)(Y:X.B≤X.w.heap.size){a:Act}{aA:T}(s:RR σ X aA a.tmps){o:Oper}{n:Nat}{x y:Arg}(b:dF Q σ o (.store n x y)=ag){v:V}{q:an}
  (h:bu aA X.H (.store n x y)=ab (v,q)):iK Q σ X v q (execOp a.eval o):=by
 simp only [dF]at b;split at b
 ·rename_i t N O I;simp only [If]at b;obtain⟨⟨H,g⟩,m⟩:=b;have g:=bS s g;have m:=bS s m;simp only [bu]at h;split at h
  ·rename_i p xs J l;rw [J]at g;split at h
   ·rename_i u;simp only [IN,IT]at h;obtain⟨S,j,rfl,rfl⟩:=h;obtain⟨Z,L,d⟩:=p_ m l;obtain⟨c,off,X',K,z,A,B,E,U,W⟩:=aby F g d j;refine⟨undef,X',.inr ⟨?_,rfl⟩,A,B,trivial,E,by omega⟩;have M:=d.len;simp only [execOp,I,Sem.run_bind];have:(Instr.storeAt t (a.eval N) (a.eval O)).run Q X.w=.ok () X'.w:=by
     rw [K];simp [Instr.storeAt,Instr.sureAddr,storeVar,c5 H,L];rw [bg (by omega)];exact z
    simp [this]
   ·simp at h
  ·simp at h
 ·simp at b
end
end Km
