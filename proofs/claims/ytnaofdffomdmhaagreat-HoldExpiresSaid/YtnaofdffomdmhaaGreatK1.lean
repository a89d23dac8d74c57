/-
  Our own small machine for Go code by value, held rI the model: part 1. No program in Ej.
-/
import GoSem.Step
import GoSem.Dispatch
import GoSem.Machine.Exec
import Derived.Calls
import Derived.Laws.World
import Derived.Laws.Cells
import Derived.Laws.IdiomCopy
import Derived.Below
import Derived.Laws.Slices
import Derived.Laws.Strings
import Derived.Laws.StructEq
import Derived.Laws.BytesString
import Derived.Laws.Tables
import Derived.Laws.AppendOwn
open Option renaming some → aa,none → ab
open Bool renaming true → ae,false → ag
open Option.some renaming injEq → At
open Bool renaming false_eq_true → aqw, and_eq_true → If
open List renaming getElem?_eq_some_iff → BY, getElem?_eq_getElem → By, getElem?_append_left → AT, getElem?_append_right → IS, getElem?_take → aqQ, getElem?_drop → aqB, getElem?_map → aq0, all_eq_true → aqG, getElem?_of_mem → ara, extract_eq_take_drop → arD, take_of_length_le → ap1, length_append → api, foldl_cons → arJ, length_cons → aq7, take_succ_eq_append_getElem → arW, eq_nil_of_length_eq_zero → aqu, getElem?_set_ne → AI
open Nat renaming le_refl → aft, le_trans → aqF, lt_of_lt_of_le → aqR, add_zero → arU, add_mul → aqT, mul_eq_zero → asf, lt_or_ge → aqY
open Option renaming bind_eq_some_iff → aqH, map_eq_some_iff → IT, bind_eq_bind → asu, bind_some → aqX, map_some → aq4
open Prod.mk renaming injEq → OF
set_option linter.unusedVariables false
set_option linter.constructorNameAsVariable false
set_option linter.unusedSimpArgs false
set_option linter.unusedSectionVars false
set_option maxRecDepth 100000
namespace Km
open Go
theorem aK.{u}{α:Sort u}(a:α):∃ b,b=a:=⟨a,rfl⟩
theorem aW.{u}{c:Prop}{h:Decidable c}(b:¬c){α:Sort u}{t e:α}:(ite c t e)=e:=if_neg b
theorem ba.{u}{c:Prop}{h:Decidable c}(hc:c){α:Sort u}{t e:α}:(ite c t e)=t:=if_pos hc
inductive FC where
 | bool (b:Bool)
 | int (k:IntKind) (n:Int)
 | str (s:ByteArray)
 | mP | au | es | ik | kU | uZ
 | fp (cs:List FC) (off:Nat)
 | fs (cs:List FC) (len:Nat)
 | fn (f:Nat) (Mu:List FC)
 deriving Inhabited
inductive C where
 | f (x:FC)
 | ptr (b off ep:Nat)
 | sl (b off len cap ep sz:Nat)
 | cl (f:Nat) (Mu:List C)
 | yl (b:Nat)
 | mp (b:Nat)
 | it (b:Nat)
 | bm (f:Nat) (first:List C)
 | mi (b:Nat)
 deriving Inhabited
inductive V where
 | top
 | c (x:C)
 | a (xs:List C)
 | t (xs:List V)
 deriving Inhabited
def BE:Nat:=1000000007
def mV:C→V
 | .cl f cs=>if f=BE then .a cs else .c (.cl f cs)| x=>.c x
def nX:V→Option C
 | .c (.cl f cs)=>if f=BE then ab else aa (.cl f cs)| .c x=>aa x| .a cs=>aa (.cl BE cs)| _=>ab
def zV:FC→V
 | .fn f zs=>if f=BE then .a (zs.map .f)else .c (.f (.fn f zs))| z=>.c (.f z)
def qU:FC→List FC
 | .fn f zs=>if f=BE then zs else [.fn f zs]| z=>[z]
def C6:FC→Bool
 | .fn f _=>decide (f=BE)| _=>ag
theorem Zr{v:V}{c:C}(h:nX v=aa c):mV c=v:=by
 cases v with
 | c x=>
  cases x<;>simp only [nX,At]at h
  case cl f cs=>
   split at h
   ·cases h
   ·rename_i b;simp only [At]at h;subst h;simp only [mV,aW b]
  all_goals (subst h;rfl)
 | a cs=>simp only [nX,At]at h;subst h;simp [mV]| _=>simp [nX]at h
theorem alm{z:FC}(h:C6 z=ae):zV z=.a ((qU z).map .f):=by
 cases z<;>simp only [C6,decide_eq_true_eq,reduceCtorEq,aqw]at h;simp only [zV,qU,ba h]
theorem aln{z:FC}(h:C6 z=ag):zV z=.c (.f z)∧qU z=[z]:=by
 cases z<;>simp only [C6,decide_eq_false_iff_not]at h
 case fn f zs=>simp only [zV,qU,aW h,and_self]
 all_goals exact⟨rfl,rfl⟩
inductive Os where | loc | nil | es
 deriving DecidableEq,Inhabited
inductive P where
 | h
 | o (p:P)
 | i (p:P)
 deriving DecidableEq,Inhabited
def P.toNat:P→Nat
 | .h=>0| .o p=>2*p.toNat+1| .i p=>2*p.toNat+2
inductive T where
 | e
 | n (l:T) (v:V) (r:T)
 deriving Inhabited
def T.get:T→P→V
 | .e,_=>.top| .n _ v _,.h=>v| .n l _ _,.o p=>l.get p| .n _ _ r,.i p=>r.get p
def T.set:T→P→V→T
 | .e,.h,w=>.n .e w .e| .e,.o p,w=>.n (T.set .e p w) .top .e| .e,.i p,w=>.n .e .top (T.set .e p w)| .n l _ r,.h,w=>.n l w r| .n l v r,.o p,w=>.n (l.set p w) v r| .n l v r,.i p,w=>.n l v (r.set p w)
inductive Arg where
 | r (n:P)
 | k (v:V)
 deriving Inhabited
inductive CK where | bool | int | str
 deriving DecidableEq,Inhabited
inductive Dn where
 | bool | ptr | sl | fn | ifc
 | st (ks:List CK)
 deriving Inhabited
inductive cQ where
 | aZ (x:Arg)
 | pre (o:Os) (sz:Nat)
 | pick (c a b:Arg)
 | alloc (zs:List FC)
 | box (x:Arg)
 | build (zs:List FC) (parts:List (Nat × Nat × Arg))
 | bE (sz:Nat) (zs:List FC) (len:Nat) (parts:List (Nat × Arg))
 | load (n:Option Nat) (x:Arg)
 | store (n:Nat) (x y:Arg)
 | bV (x:Arg)
 | bin (op:BinOp) (x y:Arg)
 | eq (neg:Bool) (k:Dn) (x y:Arg)
 | un (op:UnOp) (x:Arg)
 | eS (k:IntKind) (x:Arg)
 | uR (x:Arg)
 | uQ (x:Arg)
 | BO (x:Arg)
 | fB (f:Nat) (Mu:List Arg)
 | i'
 | lookup (ck:CK) (zero:FC) (m k:Arg)
 | iu (ck:CK) (m k v:Arg)
 | dI (sz bytes:Nat) (zs:List FC) (l c:Arg)
 | slice (sz:Nat) (x:Arg) (lo hi mx:Option Arg)
 | lY (n sz:Nat) (x:Arg) (lo hi mx:Option Arg)
 | mZ (x:Arg) (lo hi:Option Arg)
 | aQ (off:Nat) (x:Arg)
 | field (off:Nat) (n:Option Nat) (x:Arg)
 | bC (sz:Nat) (arr:Option Nat) (x i:Arg)
 | idxs (x i:Arg)
 | uT (len sz:Nat) (n:Option Nat) (x i:Arg)
 | range (x:Arg)
 | next (x:Arg)
 | extract (x:Arg) (i:Nat)
 | call (f:Nat) (args:List Arg) (h:Bool)
 | bW (x:Arg) (args:List Arg) (h:Bool)
 | len (x:Arg)
 | mM (n:Nat)
 | lens (x:Arg)
 | cap (x:Arg)
 | append (sz bytes:Nat) (x y:Arg)
 | copy (sz:Nat) (x y:Arg)
 | gb (lo:Bool) (xs:List Arg)
 | ka (sz bytes:Nat) (zs:List FC) (x n:Arg)
 | clear (sz:Nat) (zs:List FC) (x:Arg)
 | jB (x:Arg)
 | mX (x:Arg)
 | entry (x:Arg)
 | lJ (f:Nat) (xs:List Arg)
 | ue (sz:Nat) (x hi mx:Arg)
 | fq (sz:Nat) (zs:List FC) (len:Nat) (parts:List (Nat × Arg))
 | recover
 | defer (x:Arg) (args:List Arg)
 | bad
 deriving Inhabited
def cQ.fsl:cQ→Bool
 | .fq ..=>ae| _=>ag
structure aP where
 dst:Option P
 op:cQ
 g:Option (P × Bool):=ab
 deriving Inhabited
inductive aE where
 | skip
 | region (ops:List aP) (gK:List (Nat × Nat))
 | seq (a b:aE)
 | cond (c:Arg) (a b:aE)
 | block (id:Nat) (a:aE)
 | loop (a:aE)
 | fu (f:Arg) (ps:List P) (assign body:aE)
 | exit (id:Nat)
 | ret
 | bad
 | scope (a:aE)
 | label (l:Nat)
 | goto (l:Nat)
 deriving Inhabited
inductive ej where | ready | busy | done | exhausted
 deriving DecidableEq,Inhabited
inductive bo where
 | box (cs:List C) (fl:Nat)
 | bT (sz:Nat) (cs:List C) (fl ep:Nat) (st:Os)
 | map (es:List (FC × C))
 | it (s:ByteArray) (pos:Nat)
 | uL (m since:Nat) (done:Bool)
 | eO (open_:Bool)
 | lp (fn:Nat) (tmps:T) (ps:List P) (assign body:aE) (st:ej) (pending:Option aE) (eO:Nat)
 deriving Inhabited
abbrev aj:=List bo
inductive dA where
 | gm (b:Nat)
 | fn (f:Nat) (args:List V)
 deriving Inhabited
inductive fV where
 | tmp (t:P)
 | cell (t:P) (n:Option Nat)
 deriving Inhabited
structure aJ where
 ps:List P
 results:List fV
 body:aE
 deriving Inhabited
def Arg.ev(aw:T):Arg→V
 | .r n=>aw.get n| .k v=>v
def V.int(k:IntKind)(n:Int):V:=.c (.f (.int k n))
def V.bool(b:Bool):V:=.c (.f (.bool b))
def aF(H:aj):C→Option (List C)
 | .ptr b off ep=>match H[b]? with
  | some (.box cs _)=>aa (cs.drop off)| some (.bT _ cs _ e .loc)=>if ep=e then aa (cs.drop off)else ab| _=>ab
 | .f (.fp cs off)=>aa ((cs.drop off).map .f)| _=>ab
def aT:Option Nat→List C→Option V
 | none,c::_=>aa (.c c)| none,[]=>ab| some n,cs=>if n≤cs.length then aa (.a (cs.take n))else ab
def aU(H:aj)(n:Option Nat):V→Option V
 | .c x=>(aF H x).bind (aT n)| _=>ab
def V.cells? : V→Option (List C)
 | .c x=>aa [x]| .a xs=>aa xs| _=>ab
def over{α:Type}(cs:List α)(off:Nat)(xs:List α):List α:=cs.take off++xs++cs.drop (off+xs.length)
def cZ(H:aj)(x:C)(xs:List C):Option aj:=
 match x with
 | .ptr b off ep=>match H[b]? with
  | some (.box cs fl)=>if fl≤off∧off+xs.length≤cs.length then aa (H.set b (.box (over cs off xs) fl))else ab| some (.bT sz cs fl e .loc)=>if ep=e∧fl≤off∧off+xs.length≤cs.length then aa (H.set b (.bT sz (over cs off xs) fl e .loc))else ab| _=>ab
 | _=>ab
def bu(H:aj):C→Option Nat
 | .sl b _ l _ ep sz=>match H[b]? with
  | some (.box _ _)=>aa l| some (.bT s _ _ e _)=>if ep=e∧sz=s then aa l else ab| _=>ab
 | .f .au=>aa 0| .f .es=>aa 0| .f (.fs _ l)=>aa l| _=>ab
def cK(H:aj)(sz:Nat):C→Option (List C)
 | .sl b o l _ ep s=>match H[b]? with
  | some (.box cs _)=>if o+l*sz≤cs.length then aa ((cs.drop o).take (l*sz))else ab| some (.bT s' cs _ e _)=>if ep=e∧s=s'∧o+l*sz≤cs.length then aa ((cs.drop o).take (l*sz))else ab| _=>ab
 | .f .au=>aa []| .f .es=>aa []| .f (.fs cs l)=>if cs.length=l*sz then aa (cs.map .f)else ab| _=>ab
def bg{α β:Type}(g:α→Option β):List α→Option (List β)
 | []=>aa []
 | x::xs=>match g x with
  | none=>ab
  | some y=>match bg g xs with
   | none=>ab| some ys=>aa (y::ys)
def ef:Nat→aj→C→Option FC
 | _,_,.f x=>aa x| 0,_,_=>ab
 | n+1,H,.ptr b off _=>match H[b]? with
  | some (.box cs _)=>(bg (ef n H) cs).map (.fp · off)| _=>ab
 | n+1,H,.sl b o l _ ep sz=>match H[b]? with
  | some (.box cs _)=>if o+l*sz≤cs.length then(bg (ef n H) ((cs.drop o).take (l*sz))).map (.fs · l)else ab| some (.bT s cs _ e .loc)=>if ep=e∧sz=s∧o+l*sz≤cs.length then(bg (ef n H) ((cs.drop o).take (l*sz))).map (.fs · l)else ab| some (.bT s _ _ e .nil)=>if ep=e∧sz=s then aa .au else ab| some (.bT s _ _ e .es)=>if ep=e∧sz=s then aa .es else ab| _=>ab
 | n+1,H,.cl f d=>(bg (ef n H) d).map (.fn f)| _+1,_,_=>ab
def cC(n:Nat)(H:aj):V→Option V
 | .c x=>(ef n H x).map fun y=>.c (.f y)
 | .a xs=>(bg (ef n H) xs).map fun ys=>.a (ys.map .f)
 | _=>ab
def iA(n:Nat)(H:aj):V→Option V
 | .t b=>(bg (cC n H) b).map .t| v=>cC n H v
def fT:Nat→C→aj→aj
 | _,.f _,H=>H| 0,_,H=>H
 | n+1,.ptr b _ _,H=>match H[b]? with
  | some (.box cs fl)=>cs.foldl (fun H x=>fT n x H) (H.set b (.box cs (Nat.max fl cs.length)))
  | _=>H
 | n+1,.sl b o l _ _ sz,H=>match H[b]? with
  | some (.box cs fl)=>((cs.drop o).take (l*sz)).foldl (fun H x=>fT n x H) (H.set b (.box cs (Nat.max fl (o+l*sz))))
  | some (.bT s cs fl e g)=>((cs.drop o).take (l*sz)).foldl (fun H x=>fT n x H) (H.set b (.bT s cs (Nat.max fl (o+l*sz)) e g))
  | _=>H
 | n+1,.cl _ d,H=>d.foldl (fun H x=>fT n x H) H
 | _+1,_,H=>H
def mkV(n:Nat)(H:aj):V→aj
 | .c x=>fT n x H| .a xs=>xs.foldl (fun H x=>fT n x H) H
 | _=>H
def mI(op:BinOp)(k:IntKind)(x y:Int):Option V:=
 match op with
 | .add=>aa (.int k (k.wrap (x+y)))| .sub=>aa (.int k (k.wrap (x-y)))| .mul=>aa (.int k (k.wrap (x*y)))| .quo=>if y=0 then ab else aa (.int k (k.wrap (x.tdiv y)))| .rem=>if y=0 then ab else aa (.int k (x.tmod y))| .and=>aa (.int k (k.wrap (BitVec.ofInt k.bits x &&& BitVec.ofInt k.bits y).toNat))| .or=>aa (.int k (k.wrap (BitVec.ofInt k.bits x ||| BitVec.ofInt k.bits y).toNat))| .xor=>aa (.int k (k.wrap (BitVec.ofInt k.bits x ^^^ BitVec.ofInt k.bits y).toNat))| .andNot=>aa (.int k (k.wrap (BitVec.ofInt k.bits x &&& ~~~ (BitVec.ofInt k.bits y)).toNat))| .eql=>aa (.bool (x == y))| .neq=>aa (.bool (x != y))| .lss=>aa (.bool (decide (x<y)))| .leq=>aa (.bool (decide (x≤y)))| .gtr=>aa (.bool (decide (x>y)))| .geq=>aa (.bool (decide (x≥y)))| _=>ab
def ajR(op:BinOp)(x y:ByteArray):Option V:=
 match op with
 | .add=>if((x.size+y.size:Nat):Int)>IntKind.i64.max then ab else aa (.c (.f (.str (x++y))))| .eql=>aa (.bool (x.toList == y.toList))| .neq=>aa (.bool !(x.toList == y.toList))| .lss=>aa (.bool (Op.bytesLess x.toList y.toList))| .leq=>aa (.bool (Op.bytesLess x.toList y.toList||x.toList == y.toList))| .gtr=>aa (.bool !(Op.bytesLess x.toList y.toList||x.toList == y.toList))| .geq=>aa (.bool !(Op.bytesLess x.toList y.toList))| _=>ab
def MY:CK→C→C→Option Bool
 | .bool,.f (.bool a),.f (.bool b)=>aa (a == b)| .int,.f (.int k a),.f (.int k' b)=>if k=k' then aa (a == b)else ab| .str,.f (.str a),.f (.str b)=>aa (a == b)| _,_,_=>ab
def pJ:List CK→List C→List C→Option Bool
 | [],[],[]=>aa ae
 | k::d,x::xs,y::ys=>match MY k x y,pJ d xs ys with
  | some a,aa b=>aa (a&&b)| _,_=>ab
 | _,_,_=>ab
def isNil(H:aj):Dn→C→Option Bool
 | .ptr,.f .mP=>aa ae| .ptr,.f (.fp _ _)=>aa ag| .ptr,.ptr _ _ _=>aa ag| .sl,.f .au=>aa ae| .sl,.f .es=>aa ag| .sl,.f (.fs _ _)=>aa ag
 | .sl,.sl b _ _ _ ep sz=>match H[b]? with
  | some (.box _ _)=>aa ag| some (.bT s _ _ e d)=>if ep=e∧sz=s then aa (d == .nil)else ab| _=>ab
 | .fn,.f .ik=>aa ae| .fn,.f (.fn _ _)=>aa ag| .fn,.cl _ _=>aa ag| .fn,.bm _ _=>aa ag| .ifc,.f .kU=>aa ae| _,_=>ab
def BS(H:aj):Dn→V→V→Option Bool
 | .bool,.c x,.c y=>MY .bool x y| .st b,.a xs,.a ys=>pJ b xs ys| .ptr,.c x,.c (.f .mP)=>isNil H .ptr x| .sl,.c x,.c (.f .au)=>isNil H .sl x| .fn,.c x,.c (.f .ik)=>isNil H .fn x| .ifc,.c x,.c (.f .kU)=>isNil H .ifc x| _,_,_=>ab
def de(op:BinOp)(x y:V):Option V:=
 match op,x,y with
 | .shl,.c (.f (.int k a)),.c (.f (.int _ b))=>if b<0 then ab else aa (.int k (k.wrap (a*2 ^ (min b.toNat k.bits))))| .shr,.c (.f (.int k a)),.c (.f (.int _ b))=>if b<0 then ab else aa (.int k (a.fdiv (2 ^ (min b.toNat k.bits))))| op,.c (.f (.int k a)),.c (.f (.int k' b))=>if k=k' then mI op k a b else ab| op,.c (.f (.str a)),.c (.f (.str b))=>ajR op a b| _,_,_=>ab
def unV(op:UnOp)(x:V):Option V:=
 match op,x with
 | .neg,.c (.f (.int k n))=>aa (.int k (k.wrap (0-n)))| .not,.c (.f (.bool b))=>aa (.bool !b)| _,_=>ab
def gD:V→Option Int
 | .c (.f (.int _ n))=>aa n| _=>ab
def Be(x:V)(y:Nat):Option Nat:=
 match gD x with
 | some i=>if 0≤i∧i≤y then aa i.toNat else ab| none=>ab
def bU(len cap:Nat)(lo hi mx:Option V):Option (Nat × Nat × Nat):=do
 let m ←match mx with
  | some v=>Be v cap| none=>aa cap
 let h ←match hi,mx with
  | some v,_=>Be v m| none,ab=>aa len| none,aa _=>ab
 let l ←match lo with
  | some v=>Be v h| none=>aa 0
 pure (l,h,m)
def eo(H:aj)(sz:Nat)(x:V)(lo hi mx:Option V):Option V:=
 match x with
 | .c (.f .au)=>match bU 0 0 lo hi mx with
  | some _=>aa (.c (.f .au))| none=>ab
 | .c (.f .es)=>match bU 0 0 lo hi mx with
  | some _=>aa (.c (.f .es))| none=>ab
 | .c (.f (.fs cs n))=>match bU n n lo hi mx with
  | some (l,h,m)=>
   if mx.isSome∧m=l then aa (.c (.f .es))else
   aa (.c (.f (.fs ((cs.drop (l*sz)).take ((h-l)*sz)) (h-l))))
  | none=>ab
 | .c (.sl b o n cap ep s)=>match H[b]? with
  | some (.box _ _)=>match bU n cap lo hi mx with
   | some (l,h,m)=>if m=l then aa (.c (.f .es))else aa (.c (.sl b (o+l*sz) (h-l) (m-l) ep s))| none=>ab
  | some (.bT s' cs _ e d)=>
   if ep=e∧s=sz∧s'=sz then
    match d with
    | .loc=>match bU n n lo hi mx with
     | some (l,h,m)=>
      if mx.isSome∧m=l then aa (.c (.f .es))
      else if l=h∧0<l then aa (.c (.f (.fs [] 0)))
      else if mx.isSome then(if 0<l then aa (.c (.sl b 0 0 0 ep (s'+1)))else ab)
      else aa (.c (.sl b (o+l*sz) (h-l) 0 ep s))
     | none=>match mx with
      | some _=>ab
      | none=>match bU n ((cs.length-o) / sz) lo hi ab with
       | some (l,h,_)=>if n≤(cs.length-o) / sz∧l<h then aa (.c (.sl b (o+l*sz) (h-l) 0 ep s))else ab| none=>ab
    | .nil=>match bU 0 0 lo hi mx with
     | some _=>aa (.c (.f .au))| none=>ab
    | .es=>match bU 0 0 lo hi mx with
     | some _=>aa (.c (.f .es))| none=>ab
   else ab
  | _=>ab
 | _=>ab
def uh(x:V)(lo hi:Option V):Option V:=
 match x with
 | .c (.f (.str s))=>match bU s.size s.size lo hi ab with
  | some (l,h,_)=>aa (.c (.f (.str (s.extract l h))))| none=>ab
 | _=>ab
def jD(H:aj)(n sz:Nat)(x:V)(lo hi mx:Option V):Option V:=
 match x with
 | .c (.ptr b off _)=>match H[b]? with
  | some (.box cs _)=>match bU n n lo hi mx with
   | some (l,h,m)=>if off+n*sz≤cs.length then(if m=l then aa (.c (.f .es))else aa (.c (.sl b (off+l*sz) (h-l) (m-l) 0 sz)))else ab| none=>ab
  | _=>ab
 | .c (.f (.fp cs off))=>match bU n n lo hi mx with
   | some (l,h,m)=>if off+n*sz≤cs.length then(if m=l then aa (.c (.f .es))else aa (.c (.f (.fs ((cs.drop (off+l*sz)).take ((h-l)*sz)) (h-l)))))else ab| none=>ab
 | _=>ab
def bA(H:aj)(sz:Nat)(d:Option Nat)(x i:V):Option V:=
 match gD i with
 | none=>ab
 | some i=>
  if 0≤i then
   match d,x with
   | none,.c (.sl b o l _ ep s)=>if i<l then
     (match H[b]? with
      | some (.box _ _)=>aa (.c (.ptr b (o+i.toNat*sz) ep))| some (.bT s' _ _ e .loc)=>if ep=e∧s=s' then aa (.c (.ptr b (o+i.toNat*sz) ep))else ab
      | _=>ab)else ab
   | none,.c (.f (.fs cs l))=>if i<l then aa (.c (.f (.fp cs (i.toNat*sz))))else ab| some n,.c (.ptr b o ep)=>if i<n then aa (.c (.ptr b (o+i.toNat*sz) ep))else ab| some n,.c (.f (.fp cs o))=>if i<n then aa (.c (.f (.fp cs (o+i.toNat*sz))))else ab| _,_=>ab
  else ab
def iD(off:Nat):V→Option V
 | .c (.ptr b o ep)=>aa (.c (.ptr b (o+off) ep))| .c (.f (.fp cs o))=>aa (.c (.f (.fp cs (o+off))))| _=>ab
def jx(off:Nat)(n:Option Nat):V→Option V
 | .a xs=>aT n (xs.drop off)| _=>ab
def zS(x i:V):Option V:=
 match x,gD i with
 | .c (.f (.str s)),aa i=>if 0≤i then(s[i.toNat]?).map fun b=>.int .u8 b.toNat else ab
 | _,_=>ab
def zR(len sz:Nat)(n:Option Nat)(x i:V):Option V:=
 match x,gD i with
 | .a xs,aa i=>if 0≤i∧i<len then aT n (xs.drop (i.toNat*sz))else ab| _,_=>ab
def D5(H:aj):V→Option (V × aj)
 | .c (.it b)=>match H[b]? with
  | some (.it s pos)=>
   if pos<s.size then
    let r:=Utf8.decode s pos
    aa (.t [.bool ae,.int .i64 pos,.int .i32 r.1],H.set b (.it s (pos+r.2)))
   else aa (.t [.bool ag],H)
  | _=>ab
 | _=>ab
def bP(need bytes:Nat):Bool:=decide ((2*need+768)*bytes≤2 ^ 48)&&decide (need<2 ^ 48)
def cO(H:aj)(sz:Nat):V→Option (Nat × List C)
 | .c (.f (.str s))=>if sz=1 then aa (s.size,s.toList.map fun b=>.f (.int .u8 b.toNat))else ab
 | .c x=>match bu H x,cK H sz x with
  | some l,aa cs=>aa (l,cs)| _,_=>ab
 | _=>ab
def cz(H:aj)(sz bytes:Nat)(x y:V):Option (V × aj):=
 match cO H sz y with
 | none=>ab
 | some (m,ys)=>
  if sz=0 then ab else
  match x with
  | .c (.f .au)=>if m=0 then aa (.c (.f .au),H)else
    if bP m bytes then aa (.c (.sl H.length 0 m 0 0 sz),H++[.bT sz ys 0 0 .loc])else ab
  | .c (.f .es)=>if m=0 then aa (.c (.f .es),H)else
    if bP m bytes then aa (.c (.sl H.length 0 m 0 0 sz),H++[.bT sz ys 0 0 .loc])else ab
  | .c (.sl b o l cap ep s)=>match H[b]? with
   | some (.box cs fl)=>
    if l+m≤cap then
     if fl≤o+l*sz∧o+l*sz+ys.length≤cs.length then aa (.c (.sl b o (l+m) cap ep s),H.set b (.box (over cs (o+l*sz) ys) fl))else ab
    else if bP (l+m) bytes∧o+l*sz≤cs.length then aa (.c (.sl H.length 0 (l+m) 0 0 sz),H++[.bT sz ((cs.drop o).take (l*sz)++ys) 0 0 .loc])else ab
   | some (.bT s' cs fl e d)=>
    if ep=e∧s'=sz∧s=sz then
     if m=0 then aa (x,H)
     else if o=0∧l*sz=cs.length∧fl≤cs.length then
      if bP (l+m) bytes then aa (.c (.sl b 0 (l+m) 0 (ep+1) sz),H.set b (.bT sz (cs++ys) fl (e+1) .loc))else ab
     else if d=.loc∧fl≤o+l*sz∧o+l*sz+ys.length≤cs.length then
      aa (.c (.sl b o (l+m) 0 ep sz),H.set b (.bT sz (over cs (o+l*sz) ys) fl e .loc))
     else ab
    else ab
   | _=>ab
  | _=>ab
def copyV(H:aj)(sz:Nat)(x y:V):Option (V × aj):=
 match cO H sz y,x with
 | some _,.c (.f .au)=>aa (.int .i64 0,H)| some _,.c (.f .es)=>aa (.int .i64 0,H)
 | some (m,ys),.c (.sl b o l _ ep s')=>
  let n:=Nat.min m l
  match H[b]? with
  | some (.box cs fl)=>if fl≤o∧o+n*sz≤cs.length then aa (.int .i64 n,H.set b (.box (over cs o (ys.take (n*sz))) fl))else ab| some (.bT s cs fl e .loc)=>if ep=e∧s'=s∧s=sz∧fl≤o∧o+n*sz≤cs.length then aa (.int .i64 n,H.set b (.bT s (over cs o (ys.take (n*sz))) fl e .loc))else ab| _=>ab
 | _,_=>ab
def mU(H:aj):V→Option V
 | .c x=>match bu H x with
  | some _=>match cK H 1 x with
   | some cs=>(bg (fun c=>match c with | C.f (.int .u8 n)=>aa (UInt8.ofNat n.toNat) | _=>ab) cs).map fun l=>.c (.f (.str ⟨l.toArray⟩))
   | none=>ab
  | none=>ab
 | _=>ab
def dw(aw:T)(cs:List C):List (Nat × Nat × Arg)→Option (List C)
 | []=>aa cs
 | (off,n,x)::rest=>match (x.ev aw).cells? with
  | some xs=>if xs.length=n∧off+xs.length≤cs.length then dw aw (over cs off xs) rest else ab| none=>ab
def dm(aw:T)(xs:List Arg):List V:=xs.map (·.ev aw)
def lk:V→Option C
 | .c (.cl _ _)=>ab| .c (.bm _ _)=>ab| .c x=>aa x| _=>ab
def cu{α:Type}(n:Nat)(xs:List α):List α:=(List.replicate n xs).flatten
def eqK:CK→FC→FC→Option Bool
 | .int,.int k a,.int k' b=>if k=k' then aa (a == b)else ab| .str,.str a,.str b=>aa (a == b)| .bool,.bool a,.bool b=>aa (a == b)| _,_,_=>ab
def lL(b:CK)(k:FC):List (FC × C)→Option (Option C)
 | []=>aa ab
 | e::d=>match eqK b k e.1 with
  | some ae=>aa (aa e.2)| some ag=>lL b k d| none=>ab
def oZ(b:CK)(k:FC)(v:C):List (FC × C)→Option (List (FC × C))
 | []=>aa [(k,v)]
 | e::d=>match eqK b k e.1 with
  | some ae=>aa ((k,v)::d)| some ag=>(oZ b k v d).map (e::·)| none=>ab
def isKey:CK→FC→Bool
 | .int,.int _ _=>ae| .str,.str _=>ae| .bool,.bool _=>ae| _,_=>ag
def qG:FC→Option FC
 | .fp [z] 77=>aa z| _=>ab
def lkR(z:FC)(r:Option C):V:=match qG z with
 | some b=>.t [(r.map mV).getD (zV b),.c (.f (.bool r.isSome))]| none=>(r.map mV).getD (zV z)
def fG(H:aj)(d:CK)(z:FC):V→V→Option V
 | .c (.f .uZ),.c (.f k)=>if isKey d k then aa (lkR z ab)else ab
 | .c (.mp b),.c (.f k)=>match H[b]? with
  | some (.map g)=>if isKey d k then(lL d k g).map (lkR z)else ab| _=>ab
 | _,_=>ab
def iv(H:aj):C→Option Nat
 | .sl b _ _ c ep sz=>match H[b]? with
  | some (.box _ _)=>aa c| some (.bT s _ _ e .nil)=>if ep=e∧sz=s then aa 0 else ab| some (.bT s _ _ e .es)=>if ep=e∧sz=s then aa 0 else ab| _=>ab
 | .f .au=>aa 0| .f .es=>aa 0| _=>ab
def wB(lo:Bool)(x y:V):Option V:=
 match x,y with
 | .c (.f (.int k a)),.c (.f (.int _ b))=>aa (.int k (if lo then(if b<a then b else a)else(if b>a then b else a)))| _,_=>ab
def ri(lo:Bool):V→List V→Option V
 | x,[]=>aa x
 | x,y::ys=>match wB lo x y with
  | some z=>ri lo z ys| none=>ab
def uX(lo:Bool):List V→Option V
 | []=>ab| x::xs=>ri lo x xs
def nk(H:aj)(sz:Nat)(zs:List FC)(x:V):Option aj:=
 match x with
 | .c y=>match bu H y with
  | some 0=>aa H
  | some l=>
   if zs.length=sz then
    match y with
    | .sl b o _ _ ep s=>match H[b]? with
     | some (.box _ _)=>cZ H (.ptr b o ep) ((cu l zs).map .f)| some (.bT s' _ _ e .loc)=>if ep=e∧s=s' then cZ H (.ptr b o ep) ((cu l zs).map .f)else ab| _=>ab
    | _=>ab
   else ab
  | none=>ab
 | _=>ab
def sI(H:aj)(sz bytes:Nat)(zs:List FC)(x n:V):Option (V × aj):=
 match gD n with
 | some n=>
  if 0≤n∧zs.length=sz then
   match x with
   | .c (.f .au)=>if n.toNat=0 then aa (.c (.f .au),H)else
     if bP n.toNat bytes then aa (.c (.sl H.length 0 n.toNat 0 0 sz),H++[.bT sz ((cu n.toNat zs).map .f) 0 0 .loc])else ab
   | .c (.f .es)=>if n.toNat=0 then aa (.c (.f .es),H)else
     if bP n.toNat bytes then aa (.c (.sl H.length 0 n.toNat 0 0 sz),H++[.bT sz ((cu n.toNat zs).map .f) 0 0 .loc])else ab
   | _=>ab
  else ab
 | none=>ab
def fcC:C→Option FC
 | .f x=>aa x| _=>ab
def AS(H:aj)(sz:Nat)(x hi mx:V):Option (V × aj):=
 match eo H sz x ab (aa hi) (aa mx)with
 | some v=>aa (v,H)
 | none=>match x with
  | .c (.sl b o n _ ep s)=>match H[b]? with
   | some (.bT s' cs fl e .loc)=>
    if ep=e∧s=sz∧s'=sz∧o=0 then
     match Be hi n,Be mx n with
     | some i,aa j=>
      if i=j∧0<i∧i*sz≤cs.length then
       match bg fcC (cs.take (i*sz))with
       | some ys=>aa (.c (.f (.fs ys i)),H.set b (.bT s' cs (Nat.max fl (i*sz)) e .loc))| none=>ab
      else ab
     | _,_=>ab
    else ab
   | _=>ab
  | _=>ab
def xS(H:aj):V→Option (V × aj)
 | .c (.mi b)=>match H[b]? with
  | some (.uL m d done)=>match H[m]? with
   | some (.map [])=>if done then ab else aa (.t [.bool ag],H)| some (.map [e])=>if done then aa (.t [.bool ag],H)else if d=1 then aa (.t [.bool ae,.c (.f e.1),mV e.2],H.set b (.uL m 1 ae))else ab| _=>ab
  | _=>ab
 | _=>ab
def kd(H:aj):V→Option V
 | .c (.mi b)=>match H[b]? with
  | some (.uL m _ ae)=>match H[m]? with
   | some (.map [e])=>aa (.t [.c (.f e.1),mV e.2])| _=>ab
  | _=>ab
 | _=>ab
def rW(H:aj):V→Option (V × aj)
 | .c (.mp b)=>match H[b]? with
  | some (.map d)=>if d.length≤1 then aa (.c (.mi H.length),H++[.uL b d.length ag])else ab| _=>ab
 | _=>ab
def fcL:List C→Option (List FC)
 | []=>aa []| .f x::xs=>(fcL xs).map (x::·)| _::_=>ab
def bl(aw:T)(H:aj):cQ→Option (V × aj)
 | .aZ x=>aa (x.ev aw,H)| .pre o sz=>if o=.loc∨sz=0 then ab else aa (.c (.sl H.length 0 0 0 0 sz),H++[.bT sz [] 0 0 o])
 | .pick c a b=>match c.ev aw with
  | .c (.f (.bool v))=>aa ((if v then a else b).ev aw,H)| _=>ab
 | .alloc zs=>aa (.c (.ptr H.length 0 0),H++[.box (zs.map .f) 0])
 | .box x=>match (x.ev aw).cells? with
  | some xs=>aa (.c (.ptr H.length 0 0),H++[.box xs 0])| none=>ab
 | .build zs ps=>(dw aw (zs.map .f) ps).map fun cs=>(.a cs,H)
 | .bE sz zs n ps=>
  if n=0 then(if ps.isEmpty then aa (.c (.f .es),H)else ab)else
  (dw aw ((cu n zs).map .f) (ps.map fun p=>(p.1*sz,sz,p.2))).map fun cs=>(.c (.sl H.length 0 n n 0 sz),H++[.box cs 0])
 | .load n x=>(aU H n (x.ev aw)).map (·,H)
 | .store n x y=>match x.ev aw,(y.ev aw).cells? with
  | .c p,aa xs=>if xs.length=n then(cZ H p xs).map (.top,·)else ab| _,_=>ab
 | .bV x=>match x.ev aw with
  | .c (.ptr b o e)=>aa (.c (.ptr b o e),H)| .c (.f (.fp cs o))=>aa (.c (.f (.fp cs o)),H)| _=>ab
 | .bin op x y=>(de op (x.ev aw) (y.ev aw)).map (·,H)| .eq neg k x y=>(BS H k (x.ev aw) (y.ev aw)).map fun b=>(.bool (if neg then !b else b),H)
 | .un op x=>(unV op (x.ev aw)).map (·,H)
 | .eS k x=>match x.ev aw with
  | .c (.f (.int _ n))=>aa (.int k (k.wrap n),H)| _=>ab
 | .uR x=>match x.ev aw with
  | .c (.f (.str s))=>aa (.c (.f (.str s)),H)| _=>ab
 | .uQ x=>(mU H (x.ev aw)).map (·,H)
 | .BO x=>match x.ev aw with
  | .c (.f (.str s))=>if s.size<2 ^ 48 then aa (.c (.sl H.length 0 s.size 0 0 1),H++[.bT 1 (s.toList.map fun b=>.f (.int .u8 b.toNat)) 0 0 .loc])else ab
  | _=>ab
 | .fB f d=>(bg lk (dm aw d)).map fun xs=>(.c (.cl f xs),H)
 | .i'=>aa (.c (.mp H.length),H++[.map []])| .lookup g z m k=>(fG H g z (m.ev aw) (k.ev aw)).map (·,H)
 | .iu g m k v=>match m.ev aw,k.ev aw,nX (v.ev aw)with
  | .c (.mp b),.c (.f k),aa v=>match H[b]? with
   | some (.map q)=>if isKey g k then(oZ g k v q).map fun q=>(.top,H.set b (.map q))else ab
   | _=>ab
  | _,_,_=>ab
 | .dI sz bytes zs l c=>match gD (l.ev aw),gD (c.ev aw)with
  | some l,aa c=>
   if 0≤l∧l≤c∧bP c.toNat bytes=ae∧zs.length=sz then
    (if c=0 then aa (.c (.f .es),H)else
    aa (.c (.sl H.length 0 l.toNat c.toNat 0 sz),H++[.box ((cu c.toNat zs).map .f) 0]))
   else ab
  | _,_=>ab
 | .slice sz x lo hi mx=>(eo H sz (x.ev aw) (lo.map (·.ev aw)) (hi.map (·.ev aw)) (mx.map (·.ev aw))).map (·,H)| .lY n sz x lo hi mx=>(jD H n sz (x.ev aw) (lo.map (·.ev aw)) (hi.map (·.ev aw)) (mx.map (·.ev aw))).map (·,H)| .mZ x lo hi=>(uh (x.ev aw) (lo.map (·.ev aw)) (hi.map (·.ev aw))).map (·,H)| .aQ off x=>(iD off (x.ev aw)).map (·,H)| .field off n x=>(jx off n (x.ev aw)).map (·,H)| .bC sz j x i=>(bA H sz j (x.ev aw) (i.ev aw)).map (·,H)| .idxs x i=>(zS (x.ev aw) (i.ev aw)).map (·,H)| .uT len sz n x i=>(zR len sz n (x.ev aw) (i.ev aw)).map (·,H)
 | .range x=>match x.ev aw with
  | .c (.f (.str s))=>aa (.c (.it H.length),H++[.it s 0])| _=>ab
 | .next x=>D5 H (x.ev aw)
 | .extract x i=>match x.ev aw with
  | .t A=>(A[i]?).map (·,H)| _=>ab
 | .mM n=>aa (.int .i64 n,H)
 | .lens x=>match x.ev aw with
  | .c (.f (.str s))=>aa (.int .i64 (s.size:Nat),H)| _=>ab
 | .len x=>match x.ev aw with
  | .c y=>match bu H y with
   | some n=>aa (.int .i64 (n:Nat),H)| none=>ab
  | _=>ab
 | .append sz bytes x y=>cz H sz bytes (x.ev aw) (y.ev aw)| .copy sz x y=>copyV H sz (x.ev aw) (y.ev aw)| .gb lo xs=>(uX lo (dm aw xs)).map (·,H)| .clear sz zs x=>(nk H sz zs (x.ev aw)).map (.t [],·)| .ka sz bytes zs x n=>sI H sz bytes zs (x.ev aw) (n.ev aw)| .jB x=>rW H (x.ev aw)| .mX x=>xS H (x.ev aw)| .entry x=>(kd H (x.ev aw)).map (·,H)| .fq sz zs n ps=>((dw aw ((cu n zs).map .f) (ps.map fun p=>(p.1*sz,sz,p.2))).bind fun cs=>if n=0 then ab else fcL cs).map fun u=>(.c (.f (.fs u n)),H)
 | .ue sz x hi mx=>AS H sz (x.ev aw) (hi.ev aw) (mx.ev aw)| .lJ f xs=>(bg lk (dm aw xs)).map fun xs=>(.c (.bm f xs),H)
 | .cap x=>match x.ev aw with
  | .c y=>match iv H y with
   | some n=>aa (.int .i64 (n:Nat),H)| none=>ab
  | _=>ab
 | _=>ab
inductive Callee where
 | fn (f:Nat)
 | yield (b:Nat)
abbrev cL:=Callee→List V→aj→Option (V × aj)
def deep:Nat:=64
def eb(call:cL)(c:Nat)(args:List V)(H:aj):Option (V × aj):=
 match bg (cC deep H) args with
 | none=>ab
 | some b=>match call (.fn c) b []with
  | none=>ab
  | some (r,H')=>match iA deep H' r with
   | none=>ab| some r'=>aa (r',args.foldl (mkV deep) H)
def bQ:V→List V→Option (Callee × List V)
 | .c (.f (.fn f d)),args=>aa (.fn f,args++d.map fun x=>.c (.f x))
 | .c (.cl f d),args=>aa (.fn f,args++d.map .c)| .c (.yl b),args=>aa (.yield b,args)| .c (.bm f first),args=>aa (.fn f,first.map .c++args)
 | _,_=>ab
def gh(call:cL)(h:Bool)(c:Nat)(args:List V)(H:aj):Option (V × aj):=
 if h then call (.fn c) args H else eb call c args H
structure St where
 aw:T
 defs:List dA
 heap:aj
def ja(aw:T)(d:Option P)(v:V):T:=
 match d with
 | some d=>aw.set d v| none=>aw
def eE(call:cL)(s:St)(op:cQ):Option (V × St):=
 match op with
 | .call f args h=>(gh call h f (dm s.aw args) s.heap).map fun r=>(r.1,{ s with heap:=r.2 })
 | .bW x args _=>match bQ (x.ev s.aw) (dm s.aw args)with
  | some (c,args)=>(call c args s.heap).map fun r=>(r.1,{ s with heap:=r.2 })
  | none=>ab
 | .recover=>aa (.c (.f .kU),s)
 | .defer x args=>match bQ (x.ev s.aw) (dm s.aw args)with
  | some (.fn f,args)=>aa (.top,{ s with defs:=.fn f args::s.defs })
  | _=>ab
 | op=>(bl s.aw s.heap op).map fun r=>(r.1,{ s with heap:=r.2 })
def gQ{α:Type}(f:α→α→Bool):List α→List α→Bool
 | [],[]=>ae| x::xs,y::ys=>f x y&&gQ f xs ys| _,_=>ag
def FC.beq:Nat→FC→FC→Bool
 | _,.bool a,.bool b=>a == b| _,.int j a,.int k b=>decide (j=k)&&a == b| _,.str a,.str b=>decide (a=b)| _,.mP,.mP | _,.au,.au | _,.es,.es | _,.ik,.ik | _,.kU,.kU | _,.uZ,.uZ=>ae| n+1,.fp xs o,.fp ys o'=>o == o'&&gQ (FC.beq n) xs ys| n+1,.fs xs l,.fs ys l'=>l == l'&&gQ (FC.beq n) xs ys| n+1,.fn f xs,.fn g ys=>f == g&&gQ (FC.beq n) xs ys| _,_,_=>ag
def C.beq:C→C→Bool
 | .f a,.f b=>FC.beq 64 a b| .ptr a b c,.ptr a' j l=>a == a'&&b == j&&c == l| .sl a b c d e g,.sl a' j l m q g'=>a == a'&&b == j&&c == l&&d == m&&e == q&&g == g'| .mp a,.mp b=>a == b| _,_=>ag
def V.beq:V→V→Bool
 | .c x,.c y=>x.beq y| .a xs,.a ys=>xs.length == ys.length&&(xs.zip ys).all fun p=>p.1.beq p.2
 | _,_=>ag
def wanted(aw:T):Option (P × Bool)→Option Bool
 | none=>aa ae
 | some (r,w)=>match aw.get r with
  | .c (.f (.bool b))=>aa (b == w)| .t []=>aa ag| _=>ab
def fm(call:cL)(s:St)(o:aP):Option St:=
 match wanted s.aw o.g with
 | some ae=>match eE call s o.op with
  | some (v,s')=>aa { s' with aw:=ja s'.aw o.dst v }
  | none=>ab
 | some ag=>aa { s with aw:=ja s.aw o.dst (.t []) }
 | none=>ab
def fh(call:cL):List aP→St→Option St
 | [],s=>aa s
 | o::os,s=>match fm call s o with
  | some s'=>fh call os s'| none=>ab
def dK(call:cL):List aP→St→Option (List St)
 | [],s=>aa [s]
 | o::os,s=>match fm call s o with
  | some s'=>match dK call os s' with
   | some ss=>aa (s::ss)| none=>ab
  | none=>ab
def sameAt(ops:List aP)(ss:List St)(c:Nat × Nat):Bool:=
 match ops[c.1]?,ss[c.1]?,ss[c.2]? with
 | some o,aa s,aa s'=>match wanted s.aw o.g with
  | some ag=>ae
  | _=>match bl s.aw s.heap o.op,bl s.aw s'.heap o.op with
   | some (v,_),aa (b,_)=>v.beq b| _,_=>ag
 | _,_,_=>ag
def fK(call:cL)(ops:List aP)(b:List (Nat × Nat))(s:St):Option St:=
 match b with
 | []=>fh call ops s
 | _=>match dK call ops s with
  | some ss=>if b.all (sameAt ops ss)then ss.getLast? else ab| none=>ab
def cQ.dJ:cQ→Bool
 | .defer _ _ | .recover=>ag| _=>ae
inductive cU where
 | code (c:aE)
 | inBlock (id:Nat)
 | inLoop (c:aE)
 | ir (b:Nat)
 | lj
 | inScope (a:aE)
def exitTo(id:Nat):List cU→Option (List cU)
 | []=>ab| .inBlock b::k=>if b == id then aa k else exitTo id k| _::k=>exitTo id k
def findLabel:aE→Nat→Option aE
 | .seq a b,l=>match findLabel a l with
  | some rest=>aa (.seq rest b)| none=>findLabel b l
 | .label l',l=>if l' == l then aa .skip else ab| _,_=>ab
def gotoIn(l:Nat):List cU→Option (List cU)
 | []=>ab
 | .inScope body::k=>match findLabel body l with
  | some rest=>aa (.code rest::.inScope body::k)| none=>gotoIn l k
 | _::k=>gotoIn l k
def C.eG(n:Nat):C→Bool
 | .f _=>ae| .ptr b _ _=>decide (b<n)| .sl b _ _ _ _ _=>decide (b<n)| .cl _ _=>ag| .yl b=>decide (b<n)| .mp b=>decide (b<n)| .it b=>decide (b<n)| .mi b=>decide (b<n)| .bm _ _=>ag
def C.under(n:Nat):C→Bool
 | .cl _ d=>d.all (·.eG n)| .f _=>ae| .ptr b _ _=>decide (b<n)| .sl b _ _ _ _ _=>decide (b<n)| .yl b=>decide (b<n)| .mp b=>decide (b<n)| .it b=>decide (b<n)| .mi b=>decide (b<n)| .bm _ first=>first.all (·.eG n)
def run(call:cL)(fn:Nat):Nat→Option Nat→List cU→St→Option (Option aE × St)
 | 0,_,_,_=>ab
 | m+1,j,q,s=>
  match q with
  | []=>aa (ab,s)| .inBlock _::k=>run call fn m j k s| .inLoop c::k=>run call fn m j (.code c::.inLoop c::k) s
  | .ir b::k=>match s.heap[b]? with
   | some (.lp f tmps ps as bd x pending d)=>
    if x=.busy then ab else
    let s:={ s with heap:=s.heap.set b (.lp f tmps ps as bd .exhausted pending d) }
    match pending with
    | none=>run call fn m j k s| some .ret=>run call fn m j (.code .ret::k) s| some (.exit id)=>run call fn m j (.code (.exit id)::k) s| some _=>ab
   | _=>ab
  | .lj::k=>match j with
   | none=>ab
   | some b=>match s.heap[b]? with
    | some (.lp f tmps ps as bd .ready pending d)=>run call fn m j k { s with heap:=s.heap.set b (.lp f tmps ps as bd .busy pending d) }
    | _=>ab
  | .code .skip::k=>run call fn m j k s| .inScope _::k=>run call fn m j k s| .code (.label _)::k=>run call fn m j k s| .code (.scope a)::k=>run call fn m j (.code a::.inScope a::k) s
  | .code (.goto l)::k=>match gotoIn l k with
   | some k=>run call fn m j k s| none=>ab
  | .code .bad::_=>ab| .code .ret::_=>aa (aa .ret,s)
  | .code (.exit id)::k=>match exitTo id k with
   | some k=>run call fn m j k s| none=>if j.isSome then aa (aa (.exit id),s)else ab
  | .code (.seq a b)::k=>run call fn m j (.code a::.code b::k) s| .code (.block id a)::k=>run call fn m j (.code a::.inBlock id::k) s| .code (.loop a)::k=>run call fn m j (.code a::.inLoop a::k) s
  | .code (.cond c a b)::k=>match c.ev s.aw with
   | .c (.f (.bool v))=>run call fn m j (.code (if v then a else b)::k) s| _=>ab
  | .code (.region ops u)::k=>
   if j.isSome&&!ops.all (·.op.dJ)then ab else
   match fK call ops u s with
   | some s=>run call fn m j k s| none=>ab
  | .code (.fu f ps as bd)::k=>
   if j.isSome then ab else
   let d:=s.heap.length
   let H:=s.heap++[.eO ae,.lp fn s.aw ps as bd .ready ab d]
   match bQ (f.ev s.aw) [.c (.yl (d+1))]with
   | some (.fn g,args)=>match call (.fn g) args H with
    | some (_,H)=>run call fn m j (.ir (d+1)::k) { aw:=s.aw,defs:=.gm d::s.defs,heap:=H }| none=>ab
   | _=>ab
def e9:Nat:=1000000000
def dx(call:cL):List dA→aj→Option aj
 | [],H=>aa H
 | .gm b::ds,H=>match H[b]? with
  | some (.eO ae)=>dx call ds (H.set b (.eO ag))| _=>ab
 | .fn f args::ds,H=>if f=e9 then ab else match call (.fn f) args H with
  | some (_,H)=>dx call ds H| none=>ab
def cI(aw:T)(H:aj):fV→Option V
 | .tmp t=>match aw.get t with
  | .t _=>ab| v=>aa v
 | .cell t n=>aU H n (aw.get t)
def results(aw:T)(H:aj)(b:List fV):Option V:=
 match bg (cI aw H) b with
 | some [v]=>aa v| some d=>aa (.t d)| none=>ab
def cE:List P→List V→T→T
 | p::ps,v::b,aw=>cE ps b (aw.set p v)| _,_,aw=>aw
def eh(tab:Nat→Option aJ)(g:Nat→List V→aj→Option (Option (V × aj)))(m:Nat):Nat→cL
 | 0,_,_,_=>ab
 | d+1,.fn f,args,H=>
  match g f args H with
  | some r=>r
  | none=>match tab f with
   | none=>ab
   | some af=>if args.length=af.ps.length then match run (eh tab g m d) f m ab [.code af.body] ⟨cE af.ps args .e,[],H⟩with
    | some (_,s)=>match dx (eh tab g m d) s.defs s.heap with
     | some H=>(results s.aw H af.results).map (·,H)| none=>ab
    | none=>ab
    else ab
 | d+1,.yield b,args,H=>
  match H[b]? with
  | some (.lp f tmps ps as bd _ _ _)=>
   if args.length=ps.length then
    match run (eh tab g m d) f m (aa b) [.code as,.lj,.code bd] ⟨cE ps args tmps,[],H⟩with
    | some (j,s)=>
     if s.defs.isEmpty then
      match s.heap[b]? with
      | some (.lp x l u as' q _ _ v)=>aa (.bool j.isNone,s.heap.set b (.lp x l u as' q (if j.isNone then .ready else .done) j v))| _=>ab
     else ab
    | none=>ab
   else ab
  | _=>ab
section
variable(Q:Program)(σ:Nat→FuncId)
def akE:Value→Bool
 | .agg _ | .tuple _=>ag| _=>ae
def ajK:Value→Bool
 | .agg _=>ae| _=>ag
def mK1:FC→Value→Bool
 | .bool a,.bool b=>a == b| .int j a,.int k b=>decide (j=k)&&decide (a=b)| .str a,.string b=>decide (a=b)| .mP,.pointer ab=>ae| .au,.slice ab 0 0=>ae| .ik,.nilFunc=>ae| .kU,.nilIface=>ae| .uZ,.map ab=>ae| _,_=>ag
def eY{α β:Type}(f:α→β→Bool):List α→List β→Bool
 | [],[]=>ae| x::xs,y::ys=>f x y&&eY f xs ys| _,_=>ag
def mK:V→Value→Bool
 | .c (.f x),v=>mK1 x v| .a xs,.agg us=>eY (fun x u=>match x with | C.f x=>mK1 x u | _=>ag) xs us.toList
 | .top,.tuple us=>us.isEmpty| _,_=>ag
def mA:Arg→Operand→Bool
 | .r p,.tmp t=>p.toNat == t| .k v,.const u=>mK v u| .k (.c (.f (.fn f []))),.func g=>σ f == g| _,_=>ag
def mAs(xs:List Arg)(ys:Array Operand):Bool:=eY (mA σ) xs ys.toList
def mO:Option Arg→Option Operand→Bool
 | none,ab=>ae| some x,aa y=>mA σ x y| _,_=>ag
def dq(t:TypeId)(n:Nat):Bool:=(Q.info? t).any fun i=>i.size == n
def me(t:TypeId)(n:Nat):Bool:=(Q.info? t).any fun i=>i.bytes == n
def jU(t:TypeId)(zs:List FC):Bool:=(Q.info? t).any fun i=>match i.zero with
 | some z=>eY mK1 zs z.cells.toList| none=>ag
def uB(t:TypeId)(n:Option Nat):Bool:=match Q.underlying t,n with
 | some (.struct _),aa n | some (.array _ _),aa n=>dq Q t n| some (.struct _),ab | some (.array _ _),ab=>ag| some _,ab=>ae| _,_=>ag
def gF:Nat→TypeId→Option (List CK)
 | 0,_=>ab
 | d+1,t=>match Q.underlying t with
  | some .bool=>if dq Q t 1 then aa [.bool]else ab| some (.int _)=>if dq Q t 1 then aa [.int]else ab| some .string=>if dq Q t 1 then aa [.str]else ab
  | some (.struct fs)=>if Q.stoodInHeld t then ab else match oh (gF d) 0 fs.toList with
   | some ks=>if dq Q t ks.length then aa ks else ab| none=>ab
  | _=>ab
 where
 oh (rec:TypeId→Option (List CK)) (off:Nat):List Field→Option (List CK)
  | []=>aa []
  | f::fs=>if f.name≠ "_"∧f.offset=off then match rec f.type with
    | some ks=>match oh rec (off+ks.length) fs with
     | some r=>aa (ks++r)| none=>ab
    | none=>ab
   else ab
def rb:Operand→Bool
 | .const _=>ae| _=>ag
def mEq(k:Dn)(t:TypeId)(x y:Operand):Bool:=match Q.underlying t,k with
 | some .bool,.bool | some (.pointer _),.ptr | some (.slice _),.sl | some (.func _ _ _),.fn=>ae| some (.interface _),.ifc=>rb x||rb y| some (.struct _),.st b=>decide (gF Q 20 t=aa b)&&!Q.eqGuardType Q.depth t| _,_=>ag
def lu(t:TypeId):Option TypeId:=match Q.underlying t with
 | some (.slice e)=>aa e| _=>ab
def ano(t:TypeId):Bool:=match Q.underlying t with
 | some (.int .u8)=>ae| _=>ag
def dM(c:Call):cQ→Bool
 | .len x=>match c.callee,c.args.toList,c.argTypes.toList with
  | .builtin .len,[y],[t]=>mA σ x y&&(match Q.underlying t with | some (.slice _)=>ae | _=>ag)
  | _,_,_=>ag
 | .lens x=>match c.callee,c.args.toList,c.argTypes.toList with
  | .builtin .len,[y],[t]=>mA σ x y&&(match Q.underlying t with | some .string=>ae | _=>ag)
  | _,_,_=>ag
 | .mM n=>match c.callee,c.args.toList,c.argTypes.toList with
  | .builtin .len,[_],[t]=>(match Q.underlying t with | some (.array m _)=>decide (n=m) | _=>ag)
  | _,_,_=>ag
 | .append sz bytes x y=>match c.callee,c.args.toList,c.argTypes.toList with
  | .builtin .append,[u,v],[t,b]=>mA σ x u&&mA σ y v&&(lu Q t).any (fun e=>dq Q e sz&&me Q e bytes&&decide (0<sz)&&(Q.info? e).any (fun i=>i.zero.any fun z=>decide (z.cells.size=sz)))
    && (match Q.underlying b with | some .string=>ae | some (.slice _)=>ae | _=>ag)
  | _,_,_=>ag
 | .ka sz bytes zs x y=>match c.callee,c.args.toList,c.argTypes.toList with
  | .builtin .append,[u,v],[t,b]=>mA σ x u&&mA σ y v&&(lu Q t).any (fun e=>dq Q e sz&&me Q e bytes&&decide (0<sz)&&jU Q e zs)
    && (match Q.underlying b with | some (.int _)=>ae | _=>ag)
  | _,_,_=>ag
 | .copy sz x y=>match c.callee,c.args.toList,c.argTypes.toList with
  | .builtin .copy,[u,v],[t,_]=>mA σ x u&&mA σ y v&&(lu Q t).any (fun e=>dq Q e sz)
  | _,_,_=>ag
 | .gb lo xs=>match c.callee,lo with
  | .builtin .max,ag | .builtin .min,ae=>mAs σ xs c.args| _,_=>ag
 | .cap x=>match c.callee,c.args.toList,c.argTypes.toList with
  | .builtin .cap,[y],[t]=>mA σ x y&&(match Q.underlying t with | some (.slice _)=>ae | _=>ag)
  | _,_,_=>ag
 | .clear sz zs x=>match c.callee,c.args.toList,c.argTypes.toList with
  | .builtin .clear,[y],[t]=>mA σ x y&&(lu Q t).any (fun e=>dq Q e sz&&jU Q e zs)
  | _,_,_=>ag
 | .recover=>match c.callee with
  | .builtin .recover=>ae| _=>ag
 | .call f xs _=>match c.callee with
  | .value (.func g)=>σ f == g&&mAs σ xs c.args| _=>ag
 | .bW x xs _=>match c.callee with
  | .value y=>mA σ x y&&mAs σ xs c.args| _=>ag
 | _=>ag
def Nt(b:CK)(t:TypeId):Bool:=match Q.underlying t,b with
 | some (.int _),.int | some .string,.str | some .bool,.bool=>ae| _,_=>ag
def Zq(t:TypeId)(qs:List (Nat × Nat × Arg))(ps:List (Nat × Operand)):Bool:=match Q.underlying t with
 | some (.struct b)=>match b.toList.mapM (fun f=>(Q.info? f.type).map fun i=>(f.offset,i.size))with
  | some d=>eY (fun(q:Nat × Nat × Arg) (p:Nat × Operand)=>decide (d[p.1]?=aa (q.1,q.2.1))&&mA σ q.2.2 p.2) qs ps
  | none=>ag
 | some (.array _ e)=>match Q.info? e with
  | some i=>eY (fun(q:Nat × Nat × Arg) (p:Nat × Operand)=>i.size == q.2.1&&q.1 == p.1*q.2.1&&mA σ q.2.2 p.2) qs ps
  | none=>ag
 | _=>ag
def dG(o:Oper)(a:cQ):Bool:=match a with
 | .bad=>ae| .aZ y=>(match o.op with | .move x | .assign x=>mA σ y x | _=>ag)
 | .pre .nil sz=>(match o.op with | .move (.const (.slice ab 0 0)) | .assign (.const (.slice ab 0 0))=>decide (0<sz) | _=>ag)
 | .pick L A I=>(match o.op with | .pick c x y=>mA σ L c&&mA σ A x&&mA σ I y | _=>ag)
 | .alloc zs=>(match o.op with | .alloc t=>jU Q t zs | _=>ag)
 | .box y=>(match o.op with | .box _ x=>mA σ y x | _=>ag)
 | .build zs qs=>(match o.op with | .build t ps=>jU Q t zs&&Zq Q σ t qs ps.toList | _=>ag)
 | .bE sz zs F qs=>(match o.op with | .buildSlice t n ps=>n == F&&decide (n*sz≤2 ^ 24)&&(lu Q t).any (fun e=>dq Q e sz&&jU Q e zs&&decide (zs.length=sz))&&decide (0<sz)&&eY (fun(q:Nat × Arg) (p:Nat × Operand)=>q.1 == p.1&&mA σ q.2 p.2) qs ps.toList | _=>ag)
 | .fq sz zs F qs=>(match o.op with | .buildSlice t n ps=>n == F&&decide (n*sz≤2 ^ 24)&&(lu Q t).any (fun e=>dq Q e sz&&jU Q e zs&&decide (zs.length=sz))&&decide (0<sz)&&eY (fun(q:Nat × Arg) (p:Nat × Operand)=>q.1 == p.1&&mA σ q.2 p.2) qs ps.toList | _=>ag)
 | .load n y=>(match o.op with | .load t x=>uB Q t n&&mA σ y x | _=>ag)
 | .store n A I=>(match o.op with | .store t x y=>dq Q t n&&mA σ A x&&mA σ I y | _=>ag)
 | .bV y=>(match o.op with | .nilCheck x=>mA σ y x | _=>ag)
 | .bin H A I=>(match o.op with | .binOp op t x y _=>decide (op=H)&&mA σ A x&&mA σ I y | _=>ag)
 | .eq neg k A I=>(match o.op with | .binOp op t x y _=>decide (op=if neg then .neq else .eql)&&mA σ A x&&mA σ I y&&mEq Q k t x y | _=>ag)
 | .un H y=>(match o.op with | .unOp op _ x=>decide (op=H)&&mA σ y x | _=>ag)
 | .eS k y=>(match o.op with | .convert s d x=>mA σ y x&&(Q.underlying s).isSome&&(match Q.underlying d with | some (.int k')=>decide (k=k') | _=>ag) | _=>ag)
 | .uR y=>(match o.op with | .convert s d x=>mA σ y x&&(match Q.underlying s,Q.underlying d with | some .string,aa .string=>ae | _,_=>ag) | _=>ag)
 | .uQ y=>(match o.op with | .convert s d x=>mA σ y x&&(match Q.underlying s,Q.underlying d with | some (.slice e),aa .string=>ano Q e&&dq Q e 1 | _,_=>ag) | _=>ag)
 | .fB g ys=>(match o.op with | .makeFunc (.func f) fst B=>fst.isEmpty&&σ g == f&&mAs σ ys B | _=>ag)
 | .i'=>(match o.op with | .makeMap _ ab=>ae | _=>ag)
 | .dI sz bytes zs l' L=>(match o.op with | .makeSlice t l c=>mA σ l' l&&mA σ L c&&(lu Q t).any (fun e=>dq Q e sz&&me Q e bytes&&jU Q e zs)&&decide (0<sz) | _=>ag)
 | .slice sz y E b mx'=>(match o.op with | .slice t x lo hi mx=>mA σ y x&&mO σ E lo&&mO σ b hi&&mO σ mx' mx&&(lu Q t).any (fun e=>dq Q e sz)&&decide (0<sz) | _=>ag)
 | .ue sz y b mx'=>(match o.op with | .slice t x ab (aa hi) (aa mx)=>mA σ y x&&mA σ b hi&&mA σ mx' mx&&(lu Q t).any (fun e=>dq Q e sz)&&decide (0<sz) | _=>ag)
 | .mZ y E b=>(match o.op with | .slice t x lo hi ab=>mA σ y x&&mO σ E lo&&mO σ b hi&&(match Q.underlying t with | some .string=>ae | _=>ag) | _=>ag)
 | .lY n sz y E b mx'=>(match o.op with | .slice t x lo hi mx=>mA σ y x&&mO σ E lo&&mO σ b hi&&mO σ mx' mx&&(match Q.underlying t with | some (.array F e)=>n == F&&dq Q e sz | _=>ag)&&decide (0<sz) | _=>ag)
 | .aQ off y=>(match o.op with | .fieldAddr t x i=>mA σ y x&&(match Q.underlying t with | some (.struct N)=>(match N[i]? with | some f=>f.offset == off&&(Q.info? f.type).any (fun i=>i.size != 0) | none=>ag) | _=>ag) | _=>ag)
 | .field off n y=>(match o.op with | .field t x i=>mA σ y x&&(match Q.underlying t with | some (.struct N)=>(match N[i]? with | some f=>f.offset == off&&uB Q f.type n | none=>ag) | _=>ag) | _=>ag)
 | .bC sz K A J=>(match o.op with | .indexAddr t x i=>mA σ A x&&mA σ J i&&(match Q.underlying t,K with | some (.slice e),ab=>dq Q e sz | some (.array n e),aa F=>n == F&&dq Q e sz | _,_=>ag) | _=>ag)
 | .idxs A J=>(match o.op with | .index t x i=>mA σ A x&&mA σ J i&&(match Q.underlying t with | some .string=>ae | _=>ag) | _=>ag)
 | .uT n sz k A J=>(match o.op with | .index t x i=>mA σ A x&&mA σ J i&&(match Q.underlying t with | some (.array F e)=>n == F&&dq Q e sz&&uB Q e k | _=>ag) | _=>ag)
 | .lookup M z O k'=>(match o.op with | .lookup t m k ok=>mA σ O m&&mA σ k' k&&(ok ==(qG z).isSome)&&(match Q.underlying t with | some (.map kt e)=>Nt Q M kt&&jU Q e (qU ((qG z).getD z))&&(Q.info? e).any (fun i=>i.zero.any fun u=>if C6 ((qG z).getD z)then ajK u else akE u) | _=>ag) | _=>ag)
 | .iu M O k' S=>(match o.op with | .mapUpdate t m k v=>mA σ O m&&mA σ k' k&&mA σ S v&&(match Q.underlying t with | some (.map kt _)=>Nt Q M kt | _=>ag) | _=>ag)
 | .range y=>(match o.op with | .range t x=>mA σ y x&&(match Q.underlying t with | some .string=>ae | _=>ag) | _=>ag)
 | .next y=>(match o.op with | .next x ae=>mA σ y x | _=>ag)
 | .extract y j=>(match o.op with | .extract x i=>mA σ y x&&i == j | _=>ag)
 | .defer x xs=>(match o.op with | .defer c=>(match c.callee with | .value y=>mA σ x y&&mAs σ xs c.args | _=>ag) | _=>ag)
 | .len x=>(match o.op with | .call c=>dM Q σ c (.len x) | _=>ag)
 | .lens x=>(match o.op with | .call c=>dM Q σ c (.lens x) | _=>ag)
 | .mM n=>(match o.op with | .call c=>dM Q σ c (.mM n) | _=>ag)
 | .append sz bytes x y=>(match o.op with | .call c=>dM Q σ c (.append sz bytes x y) | _=>ag)
 | .gb lo xs=>(match o.op with | .call c=>dM Q σ c (.gb lo xs) | _=>ag)
 | .ka sz bytes zs x y=>(match o.op with | .call c=>dM Q σ c (.ka sz bytes zs x y) | _=>ag)
 | .cap x=>(match o.op with | .call c=>dM Q σ c (.cap x) | _=>ag)
 | .clear sz zs x=>(match o.op with | .call c=>dM Q σ c (.clear sz zs x) | _=>ag)
 | .jB y=>(match o.op with | .range t x=>mA σ y x&&(match Q.underlying t with | some (.map _ _)=>ae | _=>ag) | _=>ag)
 | .mX y=>(match o.op with | .next x ag=>mA σ y x | _=>ag)
 | .entry y=>(match o.op with | .entry x=>mA σ y x | _=>ag)
 | .lJ g ys=>(match o.op with | .makeFunc (.func f) fst B=>B.isEmpty&&σ g == f&&mAs σ ys fst | _=>ag)
 | .recover=>(match o.op with | .call c=>dM Q σ c (.recover) | _=>ag)
 | .call f xs h=>(match o.op with | .call c=>dM Q σ c (.call f xs h) | _=>ag)
 | .bW x xs h=>(match o.op with | .call c=>dM Q σ c (.bW x xs h) | _=>ag)
 | _=>ag
inductive Cls where | p | r | a | c | w
 deriving DecidableEq
def cls:cQ→Cls
 | .aZ _ | .pick .. | .build .. | .un .. | .eS .. | .uR _ | .fB .. | .mZ .. | .aQ .. | .field .. | .idxs .. | .uT .. | .extract .. | .gb .. | .lJ .. | .bV _ | .bin .. | .mM _ | .lens _ | .fq ..=>.p| .load .. | .eq .. | .len _ | .slice .. | .lY .. | .bC .. | .lookup .. | .uQ _ | .cap _ | .entry _=>.r| .alloc _ | .box _ | .i'=>.a| .bE .. | .dI ..=>.a| .call _ _ ag=>.c| _=>.w
def Arg.rd:Arg→List P
 | .r p=>[p]| .k _=>[]
def oRd:Option Arg→List P
 | some x=>x.rd| none=>[]
def cQ.rd:cQ→List P
 | .aZ x | .box x | .load _ x | .bV x | .un _ x | .eS _ x | .uR x | .uQ x | .BO x | .aQ _ x | .field _ _ x | .range x | .next x | .extract x _ | .len x | .lens x | .cap x | .clear _ _ x | .jB x | .mX x | .entry x=>x.rd| .pre _ _ | .alloc _ | .i' | .recover | .mM _ | .bad=>[]| .pick c a b=>c.rd++a.rd++b.rd| .build _ ps=>ps.flatMap fun p=>p.2.2.rd
 | .bE _ _ _ ps | .fq _ _ _ ps=>ps.flatMap fun p=>p.2.rd
 | .store _ x y | .bin _ x y | .eq _ _ x y | .bC _ _ x y | .idxs x y | .uT _ _ _ x y | .append _ _ x y | .copy _ x y | .ka _ _ _ x y | .lookup _ _ x y | .dI _ _ _ x y=>x.rd++y.rd| .iu _ x y z | .ue _ x y z=>x.rd++y.rd++z.rd| .fB _ xs | .call _ xs _ | .gb _ xs | .lJ _ xs=>xs.flatMap Arg.rd| .bW x xs _ | .defer x xs=>x.rd++xs.flatMap Arg.rd| .slice _ x a b c | .lY _ _ x a b c=>x.rd++oRd a++oRd b++oRd c| .mZ x a b=>x.rd++oRd a++oRd b
def aP.rd(o:aP):List P:=(match o.g with | some (p,_)=>[p] | none=>[])++o.op.rd
def aP.apart(x y:aP):Bool:=
 (match x.dst with | some d=>!y.rd.contains d&&y.dst != aa d | none=>ae)&&(match y.dst with | some d=>!x.rd.contains d | none=>ae)
def sP(x y:aP):Bool:=
 match cls x.op,cls y.op with
 | .p,_ | _,.p=>ae| .r,.w | .w,.r=>ae| .w,_ | _,.w=>ag| _,_=>ae
def lH(acc:List Nat)(o:Oper):Nat:=o.after.toList.foldl (fun s e=>if Region.binds .any e then s ||| 2 ^ e.on ||| acc.getD e.on 0 else s) 0
def dp:List Oper→List Nat→List Nat
 | [],acc=>acc| o::os,acc=>dp os (acc++[lH acc o])
def yz(b:List Nat)(i j:Nat):Bool:=(b.getD j 0).testBit i
def kE(aos:List aP):List Nat:=(List.range aos.length).filter fun j=>match aos[j]? with
 | some y=>decide (cls y.op=.w)| none=>ag
def phase(aos:List aP)(i:Nat):Nat:=i+((aos.drop i).takeWhile fun y=>decide (cls y.op≠.w)).length
def Ah(b:List Nat)(aos:List aP)(i e:Nat):Bool:=
 (kE aos).all fun j=>if j<e then !yz b i j else !yz b j i
def afy(b:List Nat)(aos:List aP)(j:Nat):Bool:=match aos[j]? with
 | some y=>(match y.op with | .alloc _=>ae | _=>ag)&&(kE aos).any fun e=>decide (e<j)&&!yz b e j
 | none=>ag
def jJ(b:List Nat)(aos:List aP):Nat:=((List.range aos.length).find? (afy b aos)).getD aos.length
def DC(b:List Nat)(aos:List aP)(j:Nat):Bool:=match aos[j]? with
 | some y=>y.g.isNone&&(match y.op with | .alloc _=>ae | _=>ag)&&(match y.dst with
  | some p=>(List.range aos.length).all fun i=>match aos[i]? with
   | some z=>!z.rd.contains p||(kE aos).all fun e=>!decide (e<j)||yz b e i
   | none=>ae
  | none=>ag)
 | none=>ae
def ZL(ops:List Oper)(aos:List aP)(d:List (Nat × Nat)):Bool:=
 let b:=dp ops []
 let n:=aos.length
 ((ops.zip (List.range n)).all fun o=>o.1.after.toList.all fun e=>!Region.binds .any e||decide (e.on<o.2)) &&
 ((List.range n).all fun j=>(List.range j).all fun i=>yz b i j||(match aos[i]?,aos[j]? with
  | some x,aa y=>x.apart y&&(sP x y||(decide (j=jJ b aos)&&decide (cls x.op=.w)))
  | _,_=>ag)) &&
 DC b aos (jJ b aos) &&
 ((List.range n).all fun i=>match aos[i]? with
  | some x=>if cls x.op=.r then(kE aos++[n]).all fun e=>e == phase aos i||!Ah b aos i e||d.contains (i,e)else ae
  | none=>ag)
variable(Q:Program)(σ:Nat→FuncId)
def jP(n:Nat)(ops:Array Oper)(o:Oper)(a:aP):Bool:=
 dG Q σ o a.op &&
 (match o.dst,a.dst with | some d,aa p=>p.toNat == d&&decide (d<n) | none,ab=>ae | _,_=>ag) &&
 (match o.guard,a.g with
  | some (j,w),aa (p,w')=>w == w'&&(match (ops[j]?).bind (·.dst)with | some d=>p.toNat == d&&decide (d<n) | none=>ag)
  | none,ab=>ae
  | _,_=>ag)
def jt:aE→Bool
 | .seq a b=>jt a&&jt b| .bad=>ag| _=>ae
def bL(n:Nat):Code→aE→Bool
 | _,.bad=>ae| .skip,.skip=>ae| .region _ ops g,.region aos j=>eY (jP Q σ n ops) ops.toList aos&&(!g||ZL ops.toList aos j)| .seq a b,.seq a' d=>bL n a a'&&bL n b d| .cond c a b,.cond u a' d=>mA σ u c&&bL n a a'&&bL n b d| .block i a,.block m a'=>i == m&&bL n a a'| .loop a,.loop a'=>bL n a a'| .rangeFunc f ps a b,.fu v s a' d=>mA σ v f&&eY (fun p (q:P)=>q.toNat == p&&decide (p<n)) ps.toList s&&bL n a a'&&bL n b d
 | .exit i,.exit m=>i == m| .scope a,.scope a'=>bL n a a'&&jt a'| .label l,.label l'=>l == l'| .goto l,.goto l'=>l == l'| .ret,.ret=>ae| _,_=>ag
def uW(n:Nat):ResultVar→fV→Bool
 | .tmp t,.tmp p=>p.toNat == t&&decide (t<n)| .cell t b,.cell p k=>p.toNat == t&&decide (t<n)&&uB Q b k| _,_=>ag
def wu(f:Func)(a:aJ):Bool:=
 f.name != "runtime.NumGoroutine" &&
 (match f.body with | some b=>bL Q σ f.ntmps b a.body | none=>ag) &&
 eY (uW Q f.ntmps) f.results.toList a.results &&
 decide (a.ps.map P.toNat=List.range a.ps.length)
end
section
def A2{α β:Type}(R:α→β→Prop)(xs:List α)(ys:List β):Prop:=
 xs.length=ys.length∧∀(i:Nat) x y,xs[i]?=aa x→ys[i]?=aa y→R x y
section A2
variable{α β:Type}{R S:α→β→Prop}{xs xs':List α}{ys ys':List β}
theorem A2.len(h:A2 R xs ys):xs.length=ys.length:=h.1
theorem A2.nil:A2 R [] []:=⟨rfl,by simp⟩
theorem A2.mono(h:A2 R xs ys)(d:∀ x y,x ∈ xs→R x y→S x y):A2 S xs ys:=
 ⟨h.1,fun i x y b hy=>d x y (List.mem_of_getElem? b) (h.2 i x y b hy)⟩
theorem A2.get(h:A2 R xs ys){i:Nat}{x:α}(b:xs[i]?=aa x):∃ y,ys[i]?=aa y∧R x y:=by
 have hi:i<xs.length:=(BY.1 b).1;have hy:i<ys.length:=h.1▸hi;exact⟨ys[i],By hy,h.2 i x _ b (By hy)⟩
theorem A2.cons{x:α}{y:β}(j:R x y)(h:A2 R xs ys):A2 R (x::xs) (y::ys):=
 ⟨by simp [h.1],fun i a b d g=>by
  cases i with
  | zero=>simp at d g;subst d;subst g;exact j
  | succ i=>simp at d g;exact h.2 i a b d g⟩
theorem A2.of_cons{x:α}{y:β}(h:A2 R (x::xs) (y::ys)):R x y∧A2 R xs ys:=
 ⟨h.2 0 x y rfl rfl,by simpa using h.1,fun i a b d g=>h.2 (i+1) a b (by simpa using d) (by simpa using g)⟩
theorem A2.append(h:A2 R xs ys)(j:A2 R xs' ys'):A2 R (xs++xs') (ys++ys'):=
 ⟨by simp [h.1,j.1],fun i a b d g=>by
  by_cases hi:i<xs.length
  ·rw [AT hi]at d;rw [AT (h.1▸hi)]at g;exact h.2 i a b d g
  ·rw [IS (by omega)]at d;rw [IS (by have:=h.1;omega),←h.1]at g;exact j.2 _ a b d g⟩
theorem A2.take(h:A2 R xs ys)(n:Nat):A2 R (xs.take n) (ys.take n):=
 ⟨by simp [h.1],fun i a b d g=>by
  rw [aqQ]at d g;split at d
  ·rename_i hi;simp only [hi,if_true]at g;exact h.2 i a b d g
  ·simp at d⟩
theorem A2.drop(h:A2 R xs ys)(n:Nat):A2 R (xs.drop n) (ys.drop n):=
 ⟨by simp [h.1],fun i a b d g=>by
  rw [aqB]at d g;exact h.2 _ a b d g⟩
theorem A2.map{l:Type}{g:l→α}{zs:List l}(h:A2 (fun z y=>R (g z) y) zs ys):A2 R (zs.map g) ys:=
 ⟨by simpa using h.1,fun i a b d m=>by
  rw [aq0]at d;cases j:zs[i]? with
  | none=>rw [j]at d;simp at d
  | some z=>rw [j]at d;simp at d;subst d;exact h.2 i z b j m⟩
theorem A2.jX(h:A2 R xs ys)(b:∀ x y,R x y→S x y):A2 S xs ys:=h.mono fun x y _=>b x y
end A2
inductive cM(σ:Nat→FuncId)(F:Nat→Nat→Prop)(w:World):FC→Value→Prop
 | bool (b:Bool):cM σ F w (.bool b) (.bool b)
 | int (k:IntKind) (n:Int):cM σ F w (.int k n) (.int k n)
 | str (s:ByteArray):cM σ F w (.str s) (.string s)
 | mP:cM σ F w .mP (.pointer ab)
 | au:cM σ F w .au (.slice ab 0 0)
 | es (a:Addr):cM σ F w .es (.slice (aa a) 0 0)
 | ik:cM σ F w .ik .nilFunc
 | kU:cM σ F w .kU .nilIface
 | uZ:cM σ F w .uZ (.map ab)
 | fp (cs:List FC) (off c o:Nat) (us:List Value) (hl:us.length=cs.length) (hF:∀ i,i<cs.length→F c (o+i))
   (hc:∀(i:Nat) u,us[i]?=aa u→w.cell? ⟨c,o+i,ab⟩=aa u) (hr:∀(i:Nat) x u,cs[i]?=aa x→us[i]?=aa u→cM σ F w x u) :
   cM σ F w (.fp cs off) (.pointer (aa ⟨c,o+off,ab⟩))
 | fs (cs:List FC) (l c o cap:Nat) (us:List Value) (B6:l≤cap) (hl:us.length=cs.length) (hF:∀ i,i<cs.length→F c (o+i))
   (hc:∀(i:Nat) u,us[i]?=aa u→w.cell? ⟨c,o+i,ab⟩=aa u) (hr:∀(i:Nat) x u,cs[i]?=aa x→us[i]?=aa u→cM σ F w x u) :
   cM σ F w (.fs cs l) (.slice (aa ⟨c,o,ab⟩) l cap)
 | fs0 (a:Addr) (cap:Nat):cM σ F w (.fs [] 0) (.slice (aa a) 0 cap)
 | fn (f:Nat) (Mu:List FC) (us:List Value) (hl:us.length=Mu.length) (hr:∀(i:Nat) x u,Mu[i]?=aa x→us[i]?=aa u→cM σ F w x u) :
   cM σ F w (.fn f Mu) (.func (.func (σ f)) #[] us.toArray)
theorem cM.mono{σ:Nat→FuncId}{F q:Nat→Nat→Prop}{w w':World}(s:∀ c i,F c i→q c i)
  (z:∀ c i,F c i→w'.cell? ⟨c,i,ab⟩=w.cell? ⟨c,i,ab⟩) {x:FC} {v:Value} (h:cM σ F w x v):cM σ q w' x v:=by
 induction h with
 | fp cs off c o us d b hc y m=>
  refine .fp cs off c o us d (fun i hi=>s _ _ (b i hi)) (fun i u hu=>?_) m;rw [z c (o+i) (b i (by rw [←d];exact(BY.1 hu).1))];exact hc i u hu
 | fs cs l c o cap us j d b hc y m=>
  refine .fs cs l c o cap us j d (fun i hi=>s _ _ (b i hi)) (fun i u hu=>?_) m;rw [z c (o+i) (b i (by rw [←d];exact(BY.1 hu).1))];exact hc i u hu
 | fn f g us d y m=>exact .fn f g us d m| _=>constructor
theorem cM.one{σ:Nat→FuncId}{F:Nat→Nat→Prop}{w:World}{x:FC}{v:Value}(h:cM σ F w x v):v.oneCell'=ae:=by
 cases h<;>rfl
structure Loc where
 c:Nat
 cap:Nat
structure Wd where
 cr:Nat→Option Loc
 F:Nat→Nat→Prop
 H:aj
 w:World
 B:Nat
variable(σ:Nat→FuncId)
def eX(X:Wd):C→Value→Prop
 | .f x,v=>cM σ X.F X.w x v
 | .ptr b off ep,v=>∃ L,X.cr b=aa L∧match X.H[b]? with
  | some (.box _ _)=>v=.pointer (aa ⟨L.c,off,ab⟩)| some (.bT _ _ _ e .loc)=>ep≤e∧(ep=e→v=.pointer (aa ⟨L.c,off,ab⟩))∧∃ a,v=.pointer (aa a)| _=>False
 | .sl b o l cap ep sz,v=>match X.H[b]? with
  | some (.box _ _)=>∃ L,X.cr b=aa L∧l≤cap∧v=.slice (aa ⟨L.c,o,ab⟩) l cap
  | some (.bT s _ _ e u)=>ep≤e∧(ep=e→sz=s→match u with
    | .loc=>∃ L,X.cr b=aa L∧∃ k,o=k*s∧k+l≤L.cap∧v=.slice (aa ⟨L.c,o,ab⟩) l (L.cap-k)| .nil=>o=0∧l=0∧v=.slice ab 0 0
    | .es=>o=0∧l=0∧∃ a,v=.slice (aa a) 0 0)∧∃ a n c,v=.slice a n c
  | _=>False
 | .cl _ _,_=>False| .yl b,v=>∃ L,X.cr b=aa L∧(∃ f t p a g s q d,X.H[b]?=aa (.lp f t p a g s q d))∧v=.func (.yield L.c) #[] #[]| .mp b,v=>∃ L,X.cr b=aa L∧(∃ j,X.H[b]?=aa (.map j))∧v=.map (aa L.c)| .it b,v=>∃ L,X.cr b=aa L∧(∃ s p,X.H[b]?=aa (.it s p))∧v=.pointer (aa ⟨L.c,0,ab⟩)| .mi b,v=>∃ L,X.cr b=aa L∧(∃ m s d,X.H[b]?=aa (.uL m s d))∧v=.pointer (aa ⟨L.c,0,ab⟩)| .bm _ _,_=>False
def CR(X:Wd):C→Value→Prop
 | .cl f b,v=>∃ us,v=.func (.func (σ f)) #[] us.toArray∧A2 (eX σ X) b us| .bm f first,v=>∃ us,v=.func (.func (σ f)) us.toArray #[]∧A2 (eX σ X) first us
 | x,v=>eX σ X x v
theorem eX.one{X:Wd}{x:C}{v:Value}(h:eX σ X x v):v.oneCell'=ae:=by
 cases x with
 | f x=>exact cM.one h
 | ptr b off ep=>
  obtain⟨L,_,h⟩:=h;split at h
  ·subst h;rfl
  ·obtain⟨_,_,a,rfl⟩:=h;rfl
  ·exact h.elim
 | sl b o l cap ep sz=>
  simp only [eX]at h;split at h
  ·obtain⟨L,_,_,rfl⟩:=h;rfl
  ·obtain⟨_,_,a,n,c,rfl⟩:=h;rfl
  ·exact h.elim
 | cl f d=>exact h.elim| yl b=>obtain⟨L,_,_,rfl⟩:=h;rfl
 | mp b=>obtain⟨L,_,_,rfl⟩:=h;rfl
 | it b=>obtain⟨L,_,_,rfl⟩:=h;rfl
 | mi b=>obtain⟨L,_,_,rfl⟩:=h;rfl
 | bm f first=>exact h.elim
theorem CR.one{X:Wd}{x:C}{v:Value}(h:CR σ X x v):v.oneCell'=ae:=by
 cases x with
 | cl f j=>obtain⟨us,rfl,_⟩:=h;rfl
 | bm f first=>obtain⟨us,rfl,_⟩:=h;rfl
 | mi b=>exact eX.one σ (x:=.mi b) h| f y=>exact eX.one σ (x:=.f y) h| ptr a b c=>exact eX.one σ (x:=.ptr a b c) h| sl a b c d e g=>exact eX.one σ (x:=.sl a b c d e g) h| yl b=>exact eX.one σ (x:=.yl b) h| mp b=>exact eX.one σ (x:=.mp b) h| it b=>exact eX.one σ (x:=.it b) h
theorem CR.of1{X:Wd}{x:C}{v:Value}(h:eX σ X x v):CR σ X x v:=by
 cases x with
 | cl f b=>exact h.elim| bm f first=>exact h.elim
 | _=>exact h
def gq(X:Wd):V→Value→Prop
 | .top,_=>True| .c x,v=>CR σ X x v| .a xs,v=>∃ us,v=.agg us.toArray∧A2 (CR σ X) xs us| .t _,_=>False
def VR(X:Wd):V→Value→Prop
 | .t b,v=>∃ us,v=.tuple us.toArray∧A2 (gq σ X) b us| x,v=>gq σ X x v
theorem VR.of1{X:Wd}{x:V}{v:Value}(h:gq σ X x v):VR σ X x v:=by
 cases x with
 | t b=>exact h.elim| _=>exact h
def rowAt(w:World)(c:Nat)(us:List Value):Prop:=
 ∃ e b,w.heap[c]?=aa (.cells us.toArray e b)∧∀ i,i≤us.length→¬(b.1≤i∧i<b.2)
def kG(X X':Wd)(b:Nat):Prop:=
 ∀ bj,X.H[b]?=aa bj→∃ blk',X'.H[b]?=aa blk'∧match bj,blk' with
  | .box _ _,.box _ _=>∀ L,X.cr b=aa L→X'.cr b=aa L| .bT s _ _ e y,.bT s' _ _ j g=>s=s'∧((e=j∧y=g∧∀ L,X.cr b=aa L→X'.cr b=aa L)∨(e<j∧g=.loc∧∃ L,X'.cr b=aa L))| .map _,.map _=>∀ L,X.cr b=aa L→X'.cr b=aa L| .it _ _,.it _ _=>∀ L,X.cr b=aa L→X'.cr b=aa L| .eO _,.eO _=>∀ L,X.cr b=aa L→X'.cr b=aa L| .uL m s _,.uL v s' _=>(m=v∧s=s')∧∀ L,X.cr b=aa L→X'.cr b=aa L| .lp f t p a c _ _ d,.lp u z x a' l _ _ q=>(f=u∧t=z∧p=x∧a=a'∧c=l∧d=q)∧∀ L,X.cr b=aa L→X'.cr b=aa L| _,_=>False
structure Ext(N:Nat)(X X':Wd):Prop where
 B:X'.B=X.B
 F:∀ c i,X.F c i→X'.F c i
 nO:∀ c i,X'.F c i→X.F c i∨X.w.heap.size≤c∨∃ b L,X.cr b=aa L∧L.c=c
 fw:∀ c i,X.F c i→X'.w.cell? ⟨c,i,ab⟩=X.w.cell? ⟨c,i,ab⟩
 cG:∀ b,b<N→kG X X' b
 wm:∀ b L,X'.cr b=aa L→(∃ b0 L0,X.cr b0=aa L0∧L0.c=L.c)∨X.w.heap.size≤L.c
 size:X.w.heap.size≤X'.w.heap.size
 os:X'.w.os=X.w.os
 tape:X'.w.tape=X.w.tape
 output:X'.w.output=X.w.output
 frame:∀ k,k<X.w.heap.size→(∀ b L,X.cr b=aa L→L.c≠k)→X'.w.heap[k]?=X.w.heap[k]?
structure nN(N:Nat)(X X':Wd):Prop where
 F:∀ c i,X.F c i→X'.F c i
 fw:∀ c i,X.F c i→X'.w.cell? ⟨c,i,ab⟩=X.w.cell? ⟨c,i,ab⟩
 cG:∀ b,b<N→kG X X' b
theorem Ext.W{N:Nat}{X X':Wd}(h:Ext N X X'):nN N X X':=⟨h.F,h.fw,h.cG⟩
theorem kG.refl(X:Wd)(b:Nat):kG X X b:=fun bj h=>⟨bj,h,by cases bj<;>simp⟩
theorem kG.trans{X Y Z:Wd}{b:Nat}(h:kG X Y b)(k:kG Y Z b):kG X Z b:=by
 intro bj s;obtain⟨blk',m,h1⟩:=h bj s;obtain⟨g,j,h2⟩:=k blk' m;refine⟨g,j,?_⟩;cases bj<;>cases blk'<;>simp only at h1<;>cases g<;>simp only at h2 ⊢
 case box=>exact fun L d=>h2 L (h1 L d)
 case map=>exact fun L d=>h2 L (h1 L d)
 case it=>exact fun L d=>h2 L (h1 L d)
 case eO=>exact fun L d=>h2 L (h1 L d)
 case uL=>
  obtain⟨⟨rfl,rfl⟩,h1⟩:=h1;obtain⟨⟨rfl,rfl⟩,h2⟩:=h2;exact⟨⟨rfl,rfl⟩,fun L d=>h2 L (h1 L d)⟩
 case lp=>
  obtain⟨⟨rfl,rfl,rfl,rfl,rfl,rfl⟩,h1⟩:=h1;obtain⟨⟨rfl,rfl,rfl,rfl,rfl,rfl⟩,h2⟩:=h2;exact⟨⟨rfl,rfl,rfl,rfl,rfl,rfl⟩,fun L d=>h2 L (h1 L d)⟩
 case bT=>
  obtain⟨rfl,h1⟩:=h1;obtain⟨rfl,h2⟩:=h2;refine⟨rfl,?_⟩;rcases h1 with⟨rfl,rfl,h1⟩ | ⟨h1,rfl,L,d⟩
  ·rcases h2 with⟨rfl,rfl,h2⟩ | ⟨h2,rfl,L,d⟩
   ·exact .inl ⟨rfl,rfl,fun L d=>h2 L (h1 L d)⟩
   ·exact .inr ⟨h2,rfl,L,d⟩
  ·rcases h2 with⟨rfl,rfl,h2⟩ | ⟨h2,rfl,q,l⟩
   ·exact .inr ⟨h1,rfl,L,h2 L d⟩
   ·exact .inr ⟨by omega,rfl,q,l⟩
theorem Ext.refl(N:Nat)(X:Wd):Ext N X X:=
 ⟨rfl,fun _ _ h=>h,fun _ _ h=>.inl h,fun _ _ _=>rfl,fun b _=>kG.refl X b,fun b L h=>.inl ⟨b,L,h,rfl⟩,aft _,rfl,rfl,rfl,fun _ _ _=>rfl⟩
theorem Ext.trans{N:Nat}{X Y Z:Wd}(h:Ext N X Y)(k:Ext N Y Z):Ext N X Z where
 B:=k.B.trans h.B
 F:=fun c i g=>k.F c i (h.F c i g)
 nO:=fun c i g=>by
  rcases k.nO c i g with h1 | h1 | ⟨b,L,d,rfl⟩
  ·exact h.nO c i h1
  ·exact .inr (.inl (aqF h.size h1))
  ·rcases h.wm b L d with⟨b0,l,h0,h1⟩ | h1
   ·exact .inr (.inr ⟨b0,l,h0,h1⟩)
   ·exact .inr (.inl h1)
 fw:=fun c i g=>(k.fw c i (h.F c i g)).trans (h.fw c i g)
 cG:=fun b d=>(h.cG b d).trans (k.cG b d)
 wm:=fun b L d=>by
  rcases k.wm b L d with⟨b0,l,h0,h1⟩ | h1
  ·rcases h.wm b0 l h0 with⟨b1,s,h2,h3⟩ | h2
   ·exact .inl ⟨b1,s,h2,h3.trans h1⟩
   ·exact .inr (h1▸h2)
  ·exact .inr (aqF h.size h1)
 size:=aqF h.size k.size
 os:=k.os.trans h.os
 tape:=k.tape.trans h.tape
 output:=k.output.trans h.output
 frame:=fun j m q=>by
  rw [k.frame j (aqR m h.size) (fun b L d hc=>?_)]
  ·exact h.frame j m q
  ·rcases h.wm b L d with⟨b0,l,h0,h1⟩ | h1
   ·exact q b0 l h0 (h1.trans hc)
   ·omega
theorem Ext.mono{N M:Nat}{X Y:Wd}(h:Ext N X Y)(g:M≤N):Ext M X Y:=
 {h with cG:=fun b d=>h.cG b (aqR d g) }
theorem eX.under{X:Wd}{x:C}{v:Value}(h:eX σ X x v):x.eG X.H.length=ae:=by
 have lt:∀(b:Nat) bj,X.H[b]?=aa bj→b<X.H.length:=fun b bj g=>(BY.1 g).1;cases x with
 | f x=>rfl
 | ptr b off ep=>
  obtain⟨L,_,h⟩:=h;split at h
  ·rename_i g;simpa [C.eG]using lt _ _ g
  ·rename_i g;simpa [C.eG]using lt _ _ g
  ·exact h.elim
 | sl b o l cap ep sz=>
  simp only [eX]at h;split at h
  ·rename_i g;simpa [C.eG]using lt _ _ g
  ·rename_i g;simpa [C.eG]using lt _ _ g
  ·exact h.elim
 | cl f j=>exact h.elim| yl b=>obtain⟨L,_,⟨f,t,p,a,u,s,q,d,g⟩,rfl⟩:=h;simpa [C.eG]using lt _ _ g
 | mp b=>obtain⟨L,_,⟨es,g⟩,rfl⟩:=h;simpa [C.eG]using lt _ _ g
 | it b=>obtain⟨L,_,⟨s,p,g⟩,rfl⟩:=h;simpa [C.eG]using lt _ _ g
 | mi b=>obtain⟨L,_,⟨m,s,d,g⟩,rfl⟩:=h;simpa [C.eG]using lt _ _ g
 | bm f first=>exact h.elim
theorem eX.od{N:Nat}{X X':Wd}(y:nN N X X'){x:C}{v:Value}(hu:x.eG N=ae)(h:eX σ X x v):eX σ X' x v:=by
 cases x with
 | f x=>exact cM.mono y.F y.fw h
 | ptr b off ep=>
  obtain⟨L,u,h⟩:=h;have A:=y.cG b (by simpa [C.eG]using hu);split at h
  ·rename_i cs fl j;obtain⟨blk',g,h1⟩:=A _ j;cases blk'<;>simp only at h1;exact⟨L,h1 L u,by rw [g];exact h⟩
  ·rename_i s cs fl e j;obtain⟨blk',g,h1⟩:=A _ j;cases blk'<;>simp only at h1;obtain⟨rfl,⟨rfl,rfl,h2⟩ | ⟨h2,rfl,B,z⟩⟩:=h1
   ·exact⟨L,h2 L u,by rw [g];exact h⟩
   ·exact⟨B,z,by rw [g];exact⟨by omega,fun h3=>by omega,h.2.2⟩⟩
  ·exact h.elim
 | sl b o l cap ep sz=>
  simp only [eX]at h ⊢;have A:=y.cG b (by simpa [C.eG]using hu);split at h
  ·rename_i cs fl j;obtain⟨L,u,h⟩:=h;obtain⟨blk',g,h1⟩:=A _ j;cases blk'<;>simp only at h1;rw [g];exact⟨L,h1 L u,h⟩
  ·rename_i s cs fl e st j;obtain⟨blk',g,h1⟩:=A _ j;cases blk'<;>simp only at h1;rw [g];obtain⟨rfl,⟨rfl,rfl,h2⟩ | ⟨h2,rfl,B,z⟩⟩:=h1
   ·refine⟨h.1,fun h3 h4=>?_,h.2.2⟩;have h5:=h.2.1 h3 h4;cases st with
    | loc=>obtain⟨L,u,h6⟩:=h5;exact⟨L,h2 L u,h6⟩
    | nil=>exact h5| es=>exact h5
   ·exact⟨by omega,fun h3=>by omega,h.2.2⟩
  ·exact h.elim
 | cl f E=>exact h.elim
 | yl b=>
  obtain⟨L,u,⟨f,t,p,a,F,s,q,d,j⟩,rfl⟩:=h;obtain⟨blk',g,h1⟩:=y.cG b (by simpa [C.eG]using hu) _ j;cases blk'<;>simp only at h1;exact⟨L,h1.2 L u,⟨_,_,_,_,_,_,_,_,g⟩,rfl⟩
 | mp b=>
  obtain⟨L,u,⟨es,j⟩,rfl⟩:=h;obtain⟨blk',g,h1⟩:=y.cG b (by simpa [C.eG]using hu) _ j;cases blk'<;>simp only at h1;exact⟨L,h1 L u,⟨_,g⟩,rfl⟩
 | it b=>
  obtain⟨L,u,⟨s,p,j⟩,rfl⟩:=h;obtain⟨blk',g,h1⟩:=y.cG b (by simpa [C.eG]using hu) _ j;cases blk'<;>simp only at h1;exact⟨L,h1 L u,⟨_,_,g⟩,rfl⟩
 | mi b=>
  obtain⟨L,u,⟨m,s,d,j⟩,rfl⟩:=h;obtain⟨blk',g,h1⟩:=y.cG b (by simpa [C.eG]using hu) _ j;cases blk'<;>simp only at h1;exact⟨L,h1.2 L u,⟨_,_,_,g⟩,rfl⟩
 | bm f first=>exact h.elim
theorem CR.od{N:Nat}{X X':Wd}(j:nN N X X'){x:C}{v:Value}(hu:x.under N=ae)(h:CR σ X x v):CR σ X' x v:=by
 cases x with
 | cl f m=>
  obtain⟨us,rfl,h⟩:=h;refine⟨us,rfl,h.mono fun y u hy l=>eX.od σ j ?_ l⟩;exact aqG.1 hu y hy
 | bm f first=>
  obtain⟨us,rfl,h⟩:=h;refine⟨us,rfl,h.mono fun y u hy l=>eX.od σ j ?_ l⟩;exact aqG.1 hu y hy
 | mi b=>exact eX.od σ j (x:=.mi b) hu h| f y=>exact eX.od σ j (x:=.f y) hu h| ptr a b c=>exact eX.od σ j (x:=.ptr a b c) hu h| sl a b c d e g=>exact eX.od σ j (x:=.sl a b c d e g) hu h| yl b=>exact eX.od σ j (x:=.yl b) hu h| mp b=>exact eX.od σ j (x:=.mp b) hu h| it b=>exact eX.od σ j (x:=.it b) hu h
end
section
variable(Q:Program)(σ:Nat→FuncId)
theorem CR.under{X:Wd}{x:C}{v:Value}(h:CR σ X x v):x.under X.H.length=ae:=by
 cases x with
 | cl f j=>
  obtain⟨us,rfl,h⟩:=h;simp only [C.under,aqG];intro y hy;obtain⟨i,hi⟩:=ara hy;obtain⟨u,_,hu⟩:=h.get hi;exact eX.under σ hu
 | bm f j=>
  obtain⟨us,rfl,h⟩:=h;simp only [C.under,aqG];intro y hy;obtain⟨i,hi⟩:=ara hy;obtain⟨u,_,hu⟩:=h.get hi;exact eX.under σ hu
 | mi b=>exact eX.under σ (x:=.mi b) h| f y=>rfl| ptr a b c=>exact eX.under σ (x:=.ptr a b c) h| sl a b c d e g=>exact eX.under σ (x:=.sl a b c d e g) h| yl b=>exact eX.under σ (x:=.yl b) h| mp b=>exact eX.under σ (x:=.mp b) h| it b=>exact eX.under σ (x:=.it b) h
theorem CR.dQ{X X':Wd}(b:nN X.H.length X X'){x:C}{v:Value}(h:CR σ X x v):CR σ X' x v:=CR.od σ b (CR.under σ h) h
theorem A2.dQ{X X':Wd}(b:nN X.H.length X X'){xs:List C}{us:List Value}(h:A2 (CR σ X) xs us):A2 (CR σ X') xs us:=
 h.jX fun _ _ h=>CR.dQ σ b h
theorem gq.dQ{X X':Wd}(b:nN X.H.length X X'){x:V}{v:Value}(h:gq σ X x v):gq σ X' x v:=by
 cases x with
 | top=>trivial| c x=>exact CR.dQ σ b h| a xs=>obtain⟨us,rfl,h⟩:=h;exact⟨us,rfl,A2.dQ σ b h⟩
 | t d=>exact h.elim
theorem VR.dQ{X X':Wd}(b:nN X.H.length X X'){x:V}{v:Value}(h:VR σ X x v):VR σ X' x v:=by
 cases x with
 | t d=>obtain⟨us,rfl,h⟩:=h;exact⟨us,rfl,h.jX fun _ _ h=>gq.dQ σ b h⟩
 | top=>trivial| c x=>exact gq.dQ σ (x:=.c x) b h| a xs=>exact gq.dQ σ (x:=.a xs) b h
def RR(X:Wd)(aw:T)(tmps:Array Value):Prop:=∀ p,VR σ X (aw.get p) (tmps.getD p.toNat undef)
theorem RR.dQ{X X':Wd}(b:nN X.H.length X X'){aw:T}{tmps:Array Value}(h:RR σ X aw tmps):RR σ X' aw tmps:=fun p=>VR.dQ σ b (h p)
theorem CR.ext'{X X':Wd}(b:Ext X.H.length X X'){x:C}{v:Value}(h:CR σ X x v):CR σ X' x v:=CR.dQ σ b.W h
theorem A2.ext'{X X':Wd}(b:Ext X.H.length X X'){xs:List C}{us:List Value}(h:A2 (CR σ X) xs us):A2 (CR σ X') xs us:=A2.dQ σ b.W h
theorem gq.ext'{X X':Wd}(b:Ext X.H.length X X'){x:V}{v:Value}(h:gq σ X x v):gq σ X' x v:=gq.dQ σ b.W h
theorem VR.ext'{X X':Wd}(b:Ext X.H.length X X'){x:V}{v:Value}(h:VR σ X x v):VR σ X' x v:=VR.dQ σ b.W h
theorem RR.ext'{X X':Wd}(b:Ext X.H.length X X'){aw:T}{tmps:Array Value}(h:RR σ X aw tmps):RR σ X' aw tmps:=RR.dQ σ b.W h
theorem T.oi(t:T)(p q:P)(v:V):(t.set p v).get q=if p=q then v else t.get q:=by
 induction t generalizing p q with
 | e=>
  induction p generalizing q with
  | h=>cases q<;>simp [T.set,T.get]
  | o p b=>cases q<;>simp [T.set,T.get,b]
  | i p b=>cases q<;>simp [T.set,T.get,b]
 | n l j r d g=>cases p<;>cases q<;>simp [T.set,T.get,d,g]
theorem P.toNat_inj{p q:P}(h:p.toNat=q.toNat):p=q:=by
 induction p generalizing q with
 | h=>cases q<;>simp [P.toNat]at h ⊢
 | o p b=>
  cases q with
  | h=>simp [P.toNat]at h| o q=>simp only [P.toNat]at h;rw [b (q:=q) (by omega)]
  | i q=>simp [P.toNat]at h;omega
 | i p b=>
  cases q with
  | h=>simp [P.toNat]at h| o q=>simp [P.toNat]at h;omega| i q=>simp only [P.toNat]at h;rw [b (q:=q) (by omega)]
theorem RR.set{X:Wd}{aw:T}{tmps:Array Value}(h:RR σ X aw tmps){p:P}(g:p.toNat<tmps.size){v:V}{u:Value}(j:VR σ X v u) :
  RR σ X (aw.set p v) (tmps.setIfInBounds p.toNat u):=by
 intro q;rw [T.oi];by_cases d:p=q
 ·subst d;simpa [g]using j
 ·have b:p.toNat≠q.toNat:=fun e=>d (P.toNat_inj e);simpa [d,Array.getD_eq_getD_getElem?,Array.getElem?_setIfInBounds_ne b]using h q
def ej.of:ej→LoopState
 | .ready=>.ready| .busy=>.busy| .done=>.done| .exhausted=>.exhausted
def wv(n:Nat):Option aE→Option Code→Prop
 | none,ab=>True| some a,aa c=>bL Q σ n c a=ae| _,_=>False
def BR(X:Wd):bo→Loc→Prop
 | .box cs fl,L=>∃ us,rowAt X.w L.c us∧A2 (CR σ X) cs us∧∀ i,fl≤i→¬ X.F L.c i| .bT sz cs fl _ l,L=>l=.loc∧∃ us rest,rowAt X.w L.c (us++rest)∧A2 (CR σ X) cs us∧(us++rest).length=L.cap*sz∧0<sz∧(∃ n,cs.length=n*sz)∧∀ i,fl≤i→¬ X.F L.c i| .map y,L=>∃ g:List MapEntry,X.w.heap[L.c]?=aa (.map g.toArray g.length)∧A2 (fun e m=>cM σ X.F X.w e.1 m.key∧gq σ X (mV e.2) m.val) y g∧∀(i:Nat) m,g[i]?=aa m→m.born=i
 | .uL m j done,L=>∃(B:Loc) (z:Array Nat) (l:Nat),X.cr m=aa B∧(∃ y,X.H[m]?=aa (.map y))∧X.w.heap[L.c]?=aa (.mapIter (aa B.c) j z l)∧(if done then z=#[0]∧l=1 else z=#[])| .it s pos,L=>X.w.heap[L.c]?=aa (.stringIter s pos)| .eO b,L=>X.w.heap[L.c]?=aa (.deferred (if b then aa []else ab))
 | .lp f tmps ps as bd l v d,L=>∃(n:Nat) (us:Array Value) (x:Array Tmp) (as' u:Code) (pend':Option Code) (A:Loc),
   X.w.heap[L.c]?=aa (.loop { state:=l.of,pending:=pend',fn:=σ f,tmps:=us,params:=x,assign:=as',body:=u,defers:=A.c }) ∧
   n≤us.size∧RR σ X tmps us∧eY (fun p (q:P)=>q.toNat == p&&decide (p<n)) x.toList ps=ae∧bL Q σ n as' as=ae∧bL Q σ n u bd=ae∧wv Q σ n v pend'∧X.cr d=aa A∧∃ o,X.H[d]?=aa (.eO o)
theorem BR.od{X X':Wd}(g:nN X.H.length X X'){bj:bo}{L:Loc}(l:X'.w.heap[L.c]?=X.w.heap[L.c]?)(F:∀ i,X'.F L.c i→X.F L.c i)(h:BR Q σ X bj L):BR Q σ X' bj L:=by
 cases bj with
 | box cs fl=>
  obtain⟨us,⟨e,fr,h1,h2⟩,h3,h4⟩:=h;exact⟨us,⟨e,fr,l.trans h1,h2⟩,A2.dQ σ g h3,fun i hi x=>h4 i hi (F i x)⟩
 | bT sz cs fl ep st=>
  obtain⟨y,us,rest,⟨e,fr,h1,h2⟩,h3,h4,h5,h6,h7⟩:=h;exact⟨y,us,rest,⟨e,fr,l.trans h1,h2⟩,A2.dQ σ g h3,h4,h5,h6,fun i hi x=>h7 i hi (F i x)⟩
 | map es=>
  obtain⟨u,h1,h2,h3⟩:=h;exact⟨u,l.trans h1,h2.jX fun _ _ h=>⟨cM.mono g.F g.fw h.1,gq.dQ σ g h.2⟩,h3⟩
 | uL m A done=>
  obtain⟨E,J,st,h1,⟨es,h2⟩,h3,h4⟩:=h;obtain⟨blk',j,h5⟩:=g.cG m (BY.1 h2).1 _ h2;cases blk'<;>simp only at h5;exact⟨E,J,st,h5 E h1,⟨_,j⟩,l.trans h3,h4⟩
 | it s pos=>exact l.trans h| eO b=>exact l.trans h
 | lp f tmps ps as bd st H d=>
  obtain⟨n,us,z,as',v,pend',B,h1,h2,h3,h4,h5,h6,h7,h8,o,h9⟩:=h;have I:d<X.H.length:=(BY.1 h9).1;obtain⟨blk',j,q⟩:=g.cG d I _ h9;cases blk'<;>simp only at q;exact⟨n,us,z,as',v,pend',B,l.trans h1,h2,RR.dQ σ g h3,h4,h5,h6,h7,q B h8,_,j⟩
theorem BR.ext{X X':Wd}(g:Ext X.H.length X X'){bj:bo}{L:Loc}(d:X'.w.heap[L.c]?=X.w.heap[L.c]?)(b:∀ i,X'.F L.c i→X.F L.c i)(h:BR Q σ X bj L):BR Q σ X' bj L:=BR.od Q σ g.W d b h
structure SR(X:Wd):Prop where
 br:∀ b L,X.cr b=aa L→X.B≤L.c∧L.c<X.w.heap.size∧∃ bj,X.H[b]?=aa bj∧BR Q σ X bj L
 inj:∀ b b' L L',X.cr b=aa L→X.cr b'=aa L'→L.c=L'.c→b=b'
 fb:∀ c i,X.F c i→c<X.w.heap.size
theorem SR.step{X X':Wd}(v:SR Q σ X)(u:Ext X.H.length X X')(b0:Nat)(y:∀ b,b≠b0→X'.H[b]?=X.H[b]?)(d:∀ b,b≠b0→X'.cr b=X.cr b)
  (z:∀ b L,b≠b0→X.cr b=aa L→X'.w.heap[L.c]?=X.w.heap[L.c]?) (x:∀ b L,b≠b0→X.cr b=aa L→∀ i,X'.F L.c i→X.F L.c i)
  (h0:∀ L,X'.cr b0=aa L→X.B≤L.c∧L.c<X'.w.heap.size∧(∃ bj,X'.H[b0]?=aa bj∧BR Q σ X' bj L)∧∀ b l,b≠b0→X.cr b=aa l→l.c≠L.c)
  (s:∀ c i,X'.F c i→c<X'.w.heap.size):SR Q σ X' where
 br:=fun b L g=>by
  rw [u.B];by_cases h:b=b0
  ·subst h;obtain⟨h1,h2,h3,_⟩:=h0 L g;exact⟨h1,h2,h3⟩
  ·rw [d b h]at g;obtain⟨h1,h2,bj,h3,h4⟩:=v.br b L g;exact⟨h1,aqR h2 u.size,bj,(y b h).trans h3,BR.ext Q σ u (z b L h g) (x b L h g) h4⟩
 fb:=fun c i h=>s c i h
 inj:=fun b m L l g j hc=>by
  by_cases h:b=b0<;>by_cases q:m=b0
  ·rw [h,q]
  ·subst h;rw [d m q]at j;exact absurd hc.symm ((h0 L g).2.2.2 m l q j)
  ·subst q;rw [d b h]at g;exact absurd hc ((h0 l j).2.2.2 b L h g)
  ·rw [d b h]at g;rw [d m q]at j;exact v.inj b m L l g j hc
end
section
variable{Q:Program}{σ:Nat→FuncId}{X:Wd}
theorem aY{t:TypeId}{d:TypeDesc}(h:Q.underlying t=aa d)(w:World):(underlying t).run Q w=.ok d w:=by
 simp [underlying,h]
theorem cY{t:TypeId}{n:Nat}(h:dq Q t n=ae)(w:World):(Go.sizeOf t).run Q w=.ok n w:=by
 unfold dq at h;cases hi:Q.info? t with
 | none=>simp [hi]at h| some i=>simp [hi]at h;simp [Go.sizeOf,typeInfo,hi,h]
theorem yd{t:TypeId}{n:Nat}(h:me Q t n=ae)(w:World):∃ i,(typeInfo t).run Q w=.ok i w∧i.bytes=n:=by
 unfold me at h;cases hi:Q.info? t with
 | none=>simp [hi]at h| some i=>simp [hi]at h;exact⟨i,by simp [typeInfo,hi],h⟩
theorem Ee{t:TypeId}{n:Option Nat}(h:uB Q t n=ae)(w:World):(isAgg t).run Q w=.ok n.isSome w∧∀ k,n=aa k→dq Q t k=ae:=by
 unfold uB at h;cases b:Q.underlying t with
 | none=>simp [b]at h
 | some d=>
  cases d<;>cases n<;>simp_all [isAgg,aY b]
theorem dX(c o k:Nat):(⟨c,o,ab⟩:Addr).add k=⟨c,o+k,ab⟩:=by unfold Addr.add;split<;>simp_all
theorem dh{w:World}{c:Nat}{us:List Value}(h:rowAt w c us)(i:Nat):w.cell? ⟨c,i,ab⟩=us[i]?:=by
 obtain⟨e,b,h,_⟩:=h;simp [World.cell?,h]
theorem B3{w:World}{c:Nat}{us:List Value}(h:rowAt w c us){i:Nat}(hi:i<us.length):w.frozen? ⟨c,i,ab⟩=ag:=by
 obtain⟨e,d,h,b⟩:=h;have:=b i (Nat.le_of_lt hi);simp only [World.frozen?,h];simp only [Bool.and_eq_false_iff,decide_eq_false_iff_not];omega
theorem sM(A:SR Q σ X){x:C}{v:Value}(g:CR σ X x v){cs:List C}(h:aF X.H x=aa cs) :
  ∃ c o us,v=.pointer (aa ⟨c,o,ab⟩)∧(∀(i:Nat) u,us[i]?=aa u→X.w.cell? ⟨c,o+i,ab⟩=aa u)∧A2 (CR σ X) cs us:=by
 cases x with
 | ptr b off ep=>
  obtain⟨L,z,g⟩:=g;obtain⟨_,_,bj,q,j⟩:=A.br b L z;simp only [aF,q]at h;rw [q]at g;cases bj with
  | box cs' fl=>
   simp only [At]at h;subst h;subst g;obtain⟨us,l,m,_⟩:=j;exact⟨L.c,off,us.drop off,rfl,fun i u d=>by rw [dh l];rw [aqB]at d;exact d,m.drop off⟩
  | bT s cs' fl e H=>
   cases H<;>simp only at h g
   ·split at h
    ·rename_i E;simp only [At]at h;subst h;obtain⟨_,g,_⟩:=g;have g:=g E;subst g;obtain⟨_,us,rest,l,m,_⟩:=j;refine⟨L.c,off,us.drop off,rfl,fun i u d=>?_,m.drop off⟩;rw [dh l];rw [aqB]at d;rw [AT (BY.1 d).1];exact d
    ·simp at h
   all_goals exact g.elim
  | _=>simp at h
 | f x=>
  cases x with
  | fp cs' off=>
   simp only [aF,At]at h;subst h;cases g with
   | fp _ _ c o us F I B l=>
    refine⟨c,o+off,us.drop off,rfl,fun i u d=>?_,A2.map ⟨by simp [F],fun i x u y d=>?_⟩⟩
    ·rw [aqB]at d;have:=B _ u d;rwa [show o+(off+i)=o+off+i by omega]at this
    ·rw [aqB]at y d;exact l _ x u y d
  | _=>simp [aF]at h
 | _=>simp [aF]at h
theorem A4{t:TypeId}{n:Option Nat}(z:uB Q t n=ae){c o:Nat}{us:List Value}{cs:List C}{w:World}
  (q:∀(i:Nat) u,us[i]?=aa u→w.cell? ⟨c,o+i,ab⟩=aa u) (g:A2 (CR σ X) cs us) {v:V} (b:aT n cs=aa v) :
  ∃ u,(loadVar t ⟨c,o,ab⟩).run Q w=.ok u w∧VR σ X v u:=by
 obtain⟨m,s⟩:=Ee z w;cases n with
 | none=>
  cases cs with
  | nil=>simp [aT]at b
  | cons x cs=>
   simp only [aT,At]at b;subst b;obtain⟨u,A,l⟩:=g.get (i:=0) (x:=x) rfl;have:=q 0 u A;simp only [arU]at this;exact⟨u,by simp [loadVar,m,this],l⟩
 | some n=>
  simp only [aT]at b;split at b
  ·rename_i B;simp only [At]at b;subst b;have y:(us.take n).length=n:=by have:=g.len;simp;omega
   have:=run_loadCells_list (P:=Q) w ⟨c,o,ab⟩ (us.take n) (fun j v d=>by
    rw [dX];rw [aqQ]at d;split at d
    ·exact q j v d
    ·simp at d)
   rw [y]at this;refine⟨.agg (us.take n).toArray,?_,⟨us.take n,rfl,g.take n⟩⟩;simp [loadVar,m,cY (s n rfl),this]
  ·simp at b
theorem aks(q:SR Q σ X){t:TypeId}{n:Option Nat}(s:uB Q t n=ae){x:V}{p:Value}(y:VR σ X x p){v:V}(h:aU X.H n x=aa v) :
  ∃ u,(Instr.loadAt t p).run Q X.w=.ok u X.w∧VR σ X v u:=by
 cases x with
 | c x=>
  simp only [aU,aqH]at h;obtain⟨cs,b,d⟩:=h;obtain⟨c,o,us,rfl,g,j⟩:=sM q y b;obtain⟨u,l,m⟩:=A4 s g j d;exact⟨u,by simp [Instr.loadAt,Instr.sureAddr,l],m⟩
 | _=>simp [aU]at h
end
section
variable{Q:Program}{σ:Nat→FuncId}{X:Wd}
theorem VR.int{k:IntKind}{n:Int}{u:Value}(h:VR σ X (.c (.f (.int k n))) u):u=.int k n:=by cases (h:cM σ X.F X.w (.int k n) u);rfl
theorem VR.bool{b:Bool}{u:Value}(h:VR σ X (.c (.f (.bool b))) u):u=.bool b:=by cases (h:cM σ X.F X.w (.bool b) u);rfl
theorem VR.str{s:ByteArray}{u:Value}(h:VR σ X (.c (.f (.str s))) u):u=.string s:=by cases (h:cM σ X.F X.w (.str s) u);rfl
theorem VR.mkInt(k:IntKind)(n:Int):VR σ X (V.int k n) (.int k n):=cM.int k n
theorem VR.tv(b:Bool):VR σ X (V.bool b) (.bool b):=cM.bool b
theorem VR.mkStr(s:ByteArray):VR σ X (.c (.f (.str s))) (.string s):=cM.str s
theorem ek{α β:Type}{f:α→β→Bool}:∀ {xs:List α} {ys:List β},eY f xs ys=ae→A2 (fun x y=>f x y=ae) xs ys
 | [],[],_=>A2.nil
 | x::xs,y::ys,h=>by
  simp only [eY,If]at h;exact A2.cons h.1 (ek h.2)
 | [],_::_,h=>by simp [eY]at h
 | _::_,[],h=>by simp [eY]at h
theorem Cj{F:Nat→Nat→Prop}{w:World}{x:FC}{u:Value}(h:mK1 x u=ae):cM σ F w x u:=by
 unfold mK1 at h;split at h
 ·simp only [beq_iff_eq]at h;subst h;exact .bool _
 ·simp only [If,decide_eq_true_eq]at h;obtain⟨rfl,rfl⟩:=h;exact .int _ _
 ·simp only [decide_eq_true_eq]at h;subst h;exact .str _
 ·exact .mP
 ·exact .au
 ·exact .ik
 ·exact .kU
 ·exact .uZ
 ·simp at h
theorem anv{x:V}{u:Value}(h:mK x u=ae):VR σ X x u:=by
 unfold mK at h;split at h
 ·exact Cj h
 ·refine⟨_,by simp,(ek h).jX fun y w b=>?_⟩;split at b
  ·exact Cj b
  ·simp at b
 ·trivial
 ·simp at h
theorem bO{a:Act}{aw:T}(b:RR σ X aw a.tmps){x:Arg}{y:Operand}(h:mA σ x y=ae):VR σ X (x.ev aw) (a.eval y):=by
 unfold mA at h;split at h
 ·rename_i p t;simp only [beq_iff_eq]at h;subst h;exact b p
 ·exact anv h
 ·simp only [beq_iff_eq]at h;subst h;exact cM.fn _ [] [] rfl (by simp)
 ·simp at h
theorem lG{a:Act}{aw:T}(j:RR σ X aw a.tmps){xs:List Arg}{ys:Array Operand}(h:mAs σ xs ys=ae):A2 (VR σ X) (dm aw xs) (ys.map a.eval).toList:=by
 have:=(ek h).jX fun x y b=>bO j b;refine⟨by simpa [dm]using this.len,fun i v u g d=>?_⟩;simp only [dm,aq0,IT]at g;simp only [Array.toList_map,aq0,IT]at d;obtain⟨x,l,rfl⟩:=g;obtain⟨y,m,rfl⟩:=d;exact this.2 i x y l m
theorem anw{a:Act}{aw:T}(g:RR σ X aw a.tmps){x:Option Arg}{y:Option Operand}(h:mO σ x y=ae) :
  (x=ab∧y=ab)∨∃ b d,x=aa b∧y=aa d∧VR σ X (b.ev aw) (a.eval d):=by
 unfold mO at h;split at h
 ·exact .inl ⟨rfl,rfl⟩
 ·exact .inr ⟨_,_,rfl,rfl,bO g h⟩
 ·simp at h
theorem afl{op:BinOp}{k:IntKind}{x y:Int}{v:V}(h:mI op k x y=aa v)(w:World) :
  ∃ u,(binOp op 0 (.int k x) (.int k y)).run Q w=.ok u w∧VR σ X v u∧∀ t,binOp op t (.int k x) (.int k y)=binOp op 0 (.int k x) (.int k y):=by
 unfold mI at h;split at h<;>(try split at h)<;>(try simp only [At,reduceCtorEq]at h)<;>(try subst h)
 all_goals first
  | (refine⟨_,?_,VR.mkInt _ _,fun _=>by simp [binOp]⟩;simp [binOp,Op.intArith,Op.intBits];done)
  | (refine⟨_,?_,VR.tv _,fun _=>by simp [binOp]⟩;simp [binOp,Op.intCmp];done)
  | (rename_i b;refine⟨_,?_,VR.mkInt _ _,fun _=>by simp [binOp]⟩;simp [binOp,Op.intDiv,b];done)
theorem afn{op:BinOp}{x y:ByteArray}{v:V}(h:ajR op x y=aa v)(w:World)(t:TypeId) :
  ∃ u,(binOp op t (.string x) (.string y)).run Q w=.ok u w∧VR σ X v u:=by
 unfold ajR at h;split at h<;>(try split at h)<;>(try simp only [At,reduceCtorEq]at h)<;>(try subst h)
 all_goals first
  | exact⟨_,by simp [binOp,Op.stringOp],VR.tv _⟩
  | (rename_i b;exact⟨_,by simp only [binOp,Op.stringOp];rw [aW b];rfl,VR.mkStr _⟩)
  | skip
end
section
variable{Q:Program}{σ:Nat→FuncId}{X:Wd}
theorem rL:∀ {d:List CK} {xs ys:List C} {b:Bool},pJ d xs ys=aa b→xs.length=d.length∧ys.length=d.length
 | [],[],[],_,_=>⟨rfl,rfl⟩
 | k::d,x::xs,y::ys,b,h=>by
  simp only [pJ]at h;split at h
  ·rename_i g;have:=rL g;simp [this]
  ·simp at h
 | [],_::_,_,_,h=>by simp [pJ]at h
 | [],[],_::_,_,h=>by simp [pJ]at h
 | _::_,[],_,_,h=>by simp [pJ]at h
 | _::_,_::_,[],_,h=>by simp [pJ]at h
theorem sY:∀ {d g:List CK} {xs ys:List C} {b:Bool},pJ (d++g) xs ys=aa b →
  ∃ b1 j,pJ d (xs.take d.length) (ys.take d.length)=aa b1∧pJ g (xs.drop d.length) (ys.drop d.length)=aa j∧b=(b1&&j)
 | [],g,xs,ys,b,h=>⟨ae,b,rfl,by simpa using h,by simp⟩
 | k::d,g,[],ys,b,h=>by simp [pJ]at h
 | k::d,g,x::xs,[],b,h=>by simp [pJ]at h
 | k::d,g,x::xs,y::ys,b,h=>by
  simp only [List.cons_append,pJ]at h;split at h
  ·rename_i a c q s;simp only [At]at h;obtain⟨b1,j,l,m,rfl⟩:=sY s;refine⟨a&&b1,j,?_,by simpa using m,by rw [←h,Bool.and_assoc]⟩;simp [pJ,q,l]
  ·simp at h
def CKv:CK→Value→Value→Bool→Prop
 | .bool,u,v,b=>∃ p q,u=.bool p∧v=.bool q∧b=(p == q)| .int,u,v,b=>∃ j p q,u=.int j p∧v=.int j q∧b=(p == q)| .str,u,v,b=>∃ p q,u=.string p∧v=.string q∧b=(p == q)
theorem rM{k:CK}{x y:C}{b:Bool}(h:MY k x y=aa b){u v:Value}(d:CR σ X x u)(g:CR σ X y v):CKv k u v b:=by
 unfold MY at h;split at h
 ·simp only [At]at h;exact⟨_,_,VR.bool (σ:=σ) (X:=X) d,VR.bool (σ:=σ) (X:=X) g,h.symm⟩
 ·split at h
  ·rename_i j;subst j;simp only [At]at h;exact⟨_,_,_,VR.int (σ:=σ) (X:=X) d,VR.int (σ:=σ) (X:=X) g,h.symm⟩
  ·simp at h
 ·simp only [At]at h;exact⟨_,_,VR.str (σ:=σ) (X:=X) d,VR.str (σ:=σ) (X:=X) g,h.symm⟩
 ·simp at h
theorem Ay:∀(d:Nat) (t:TypeId) (S:List CK),gF Q d t=aa S→∀(D:Nat),d≤D→∀(us W:List Value) (off:Nat) (xs ys:List C) (b:Bool) (w:World),
  pJ S xs ys=aa b→A2 (CR σ X) xs ((us.drop off).take S.length)→A2 (CR σ X) ys ((W.drop off).take S.length) →
  ∃ a c,(part t us.toArray off).run Q w=.ok a w∧(part t W.toArray off).run Q w=.ok c w∧(Op.equalIn D t a c).run Q w=.ok b w
 | 0,_,_,h,_,_,_,_,_,_,_,_,_,_,_,_=>by simp [gF]at h
 | d+1,t,S,h,0,hD,_,_,_,_,_,_,_,_,_,_=>by omega
 | d+1,t,S,h,D+1,hD,us,W,off,xs,ys,b,w,L,hx,hy=>by
  have hl:=rL L;have m:∀(k:CK),S=[k]→(∀ td,Q.underlying t=aa td→(match td with | .struct _ | .array _ _=>False | _=>True))→(∃ td,Q.underlying t=aa td) →
    ∃ x y u v,xs=[x]∧ys=[y]∧MY k x y=aa b∧CR σ X x u∧CR σ X y v∧(part t us.toArray off).run Q w=.ok u w∧(part t W.toArray off).run Q w=.ok v w:=by
   intro k z a8 g;subst z;obtain⟨td,g⟩:=g;have a8:=a8 td g
   match xs,ys,hl with
   | [x],[y],_=>
    simp only [pJ]at L;split at L
    ·rename_i a c ha hc;simp only [At]at hc L;subst hc;simp at L;subst L;obtain⟨u,f7,f8⟩:=hx.get (i:=0) (x:=x) rfl;obtain⟨v,f_,g_⟩:=hy.get (i:=0) (x:=y) rfl;have e1:us[off]?=aa u:=by simpa [aqQ,aqB]using f7
     have e2:W[off]?=aa v:=by simpa [aqQ,aqB]using f_
     have a7:(isAgg t).run Q w=.ok ag w:=by
      cases td<;>simp_all [isAgg,aY g]
     exact⟨x,y,u,v,rfl,rfl,ha,f8,g_,by simp [part,a7,e1],by simp [part,a7,e2]⟩
    ·simp at L
  unfold gF at h;split at h
  ·rename_i g;split at h
   ·simp only [At]at h;obtain⟨x,y,u,v,rfl,rfl,E,Y,Z,M,h4⟩:=m .bool h.symm (fun td s=>by rw [g]at s;cases s;trivial) ⟨_,g⟩;obtain⟨p,q,rfl,rfl,rfl⟩:=rM E Y Z;exact⟨_,_,M,h4,run_equalIn_bool' w D t _ _ g⟩
   ·simp at h
  ·rename_i j g;split at h
   ·simp only [At]at h;obtain⟨x,y,u,v,rfl,rfl,E,Y,Z,M,h4⟩:=m .int h.symm (fun td s=>by rw [g]at s;cases s;trivial) ⟨_,g⟩;obtain⟨j',p,q,rfl,rfl,rfl⟩:=rM E Y Z;exact⟨_,_,M,h4,run_equalIn_int w D t _ _ _ _ g⟩
   ·simp at h
  ·rename_i g;split at h
   ·simp only [At]at h;obtain⟨x,y,u,v,rfl,rfl,E,Y,Z,M,h4⟩:=m .str h.symm (fun td s=>by rw [g]at s;cases s;trivial) ⟨_,g⟩;obtain⟨p,q,rfl,rfl,rfl⟩:=rM E Y Z;exact⟨_,_,M,h4,by rw [run_equalIn_string w D t _ _ g,beq_toListBytes]⟩
   ·simp at h
  ·rename_i fs g;split at h
   ·simp at h
   ·rename_i e_;split at h
    ·rename_i U hf;split at h
     ·rename_i a_;simp only [At]at h;subst h;have K:(isAgg t).run Q w=.ok ae w:=by simp [isAgg,aY g]
      have O:Q.underlying t=aa (.struct (Q.fieldsOf t)):=by simp [Program.fieldsOf,g]
      have d_:Q.fieldsOf t=fs:=by rw [g]at O;simpa using O.symm
      refine⟨.agg ((us.drop off).take U.length).toArray,.agg ((W.drop off).take U.length).toArray,?_,?_,?_⟩
      ·simp [part,K,cY a_,arD]
      ·simp [part,K,cY a_,arD]
      ·rw [run_equalIn_struct w D t _ _ O (by simpa using e_),d_];have key:∀(l:List Field) (k:Nat) (I:List CK) (b2:Bool),gF.oh (gF Q d) k l=aa I→∀(A B:List Value) (F H:List C),
         pJ I (F.drop k) (H.drop k)=aa b2→A2 (CR σ X) F A→A2 (CR σ X) H B→(Op.eqFields D A.toArray B.toArray l).run Q w=.ok b2 w:=by
        intro l;induction l with
        | nil=>
         intro k I b2 z A B F H E _ _;simp only [gF.oh,At]at z;subst z;have:=rL E;simp only [List.length_nil,List.length_eq_zero_iff]at this;rw [this.1,this.2]at E;simp only [pJ,At]at E;subst E;simp [Op.eqFields]
        | cons f l ih=>
         intro k I b2 z A B F H E b9 b_;simp only [gF.oh]at z;split at z
         ·rename_i N;obtain⟨hn,ho⟩:=N;subst ho;split at z
          ·rename_i J M;split at z
           ·rename_i r hr;simp only [At]at z;subst z;obtain⟨b1,b3,c_,d9,rfl⟩:=sY E;obtain⟨a,c,h5,h6,h7⟩:=Ay d f.type J M D (by omega) A B f.offset _ _ b1 w c_ (by have:=(b9.drop f.offset).take J.length;simpa using this) (by have:=(b_.drop f.offset).take J.length;simpa using this);have h_:=ih (f.offset+J.length) r b3 hr A B F H (by simpa [List.drop_drop]using d9) b9 b_;simp only [Op.eqFields,hn,ne_eq,not_false_eq_true,if_true,Sem.run_bind,h5,h6,h7,Result.andThen_ok];cases b1<;>simp [h_]
           ·simp at z
          ·simp at z
         ·simp at z
       exact key fs.toList 0 U b hf _ _ xs ys (by simpa using L) hx hy
     ·simp at h
    ·simp at h
  ·simp at h
def ao4:Dn→Value→Bool→Prop
 | .ptr,u,b=>∃ a,u=.pointer a∧b=a.isNone| .sl,u,b=>∃ a n c,u=.slice a n c∧b=a.isNone| .fn,u,b=>(u=.nilFunc∧b=ae)∨∃ f p q,u=.func f p q∧b=ag| .ifc,u,b=>u=.nilIface∧b=ae| _,_,_=>False
theorem oQ{k:Dn}{x:C}{u:Value}(d:CR σ X x u){b:Bool}(h:isNil X.H k x=aa b):ao4 k u b:=by
 unfold isNil at h;split at h<;>try simp only [At,reduceCtorEq]at h
 ·cases (d:cM σ X.F X.w .mP u);subst h;exact⟨_,rfl,rfl⟩
 ·cases (d:cM σ X.F X.w (.fp _ _) u);subst h;exact⟨_,rfl,rfl⟩
 ·obtain⟨L,_,d⟩:=d;subst h;split at d
  ·subst d;exact⟨_,rfl,rfl⟩
  ·obtain⟨_,_,a,rfl⟩:=d;exact⟨_,rfl,rfl⟩
  ·exact d.elim
 ·cases (d:cM σ X.F X.w .au u);subst h;exact⟨_,_,_,rfl,rfl⟩
 ·cases (d:cM σ X.F X.w .es u);subst h;exact⟨_,_,_,rfl,rfl⟩
 ·cases (d:cM σ X.F X.w (.fs _ _) u)<;>(subst h;exact⟨_,_,_,rfl,rfl⟩)
 ·rename_i q o l c ep sz;simp only [CR,eX]at d;split at h
  ·rename_i g;rw [g]at d;obtain⟨L,_,_,rfl⟩:=d;simp only [At]at h;subst h;exact⟨_,_,_,rfl,rfl⟩
  ·rename_i s cs fl e m g;rw [g]at d;split at h
   ·rename_i j;have:=d.2.1 j.1 j.2;simp only [At]at h;subst h;cases m with
    | loc=>obtain⟨L,_,k,_,_,rfl⟩:=this;exact⟨_,_,_,rfl,rfl⟩
    | nil=>obtain⟨_,_,rfl⟩:=this;exact⟨_,_,_,rfl,rfl⟩
    | es=>obtain⟨_,_,a,rfl⟩:=this;exact⟨_,_,_,rfl,rfl⟩
   ·simp at h
  ·simp at h
 ·cases (d:cM σ X.F X.w .ik u);subst h;exact .inl ⟨rfl,rfl⟩
 ·cases (d:cM σ X.F X.w (.fn _ _) u);subst h;exact .inr ⟨_,_,_,rfl,rfl⟩
 ·obtain⟨us,rfl,_⟩:=d;subst h;exact .inr ⟨_,_,_,rfl,rfl⟩
 ·obtain⟨us,rfl,_⟩:=d;subst h;exact .inr ⟨_,_,_,rfl,rfl⟩
 ·cases (d:cM σ X.F X.w .kU u);subst h;exact⟨rfl,rfl⟩
theorem Ax{d:Nat}{t:TypeId}{b:List CK}(h:gF Q d t=aa b):dq Q t b.length=ae:=by
 cases d with
 | zero=>simp [gF]at h
 | succ d=>
  unfold gF at h;split at h
  ·split at h
   ·simp only [At]at h;subst h;assumption
   ·simp at h
  ·split at h
   ·simp only [At]at h;subst h;assumption
   ·simp at h
  ·split at h
   ·simp only [At]at h;subst h;assumption
   ·simp at h
  ·split at h
   ·simp at h
   ·split at h
    ·split at h
     ·simp only [At]at h;subst h;assumption
     ·simp at h
    ·simp at h
  ·simp at h
theorem YP{t e:TypeId}(b:Q.underlying t=aa (.pointer e))(D:Nat)(a:Option Addr)(w:World):(Op.equalIn (D+1) t (.pointer a) (.pointer ab)).run Q w=.ok a.isNone w:=by
 cases a<;>simp [Op.equalIn,aY b]
theorem afD{t e:TypeId}(b:Q.underlying t=aa (.slice e))(D:Nat)(a:Option Addr)(n c:Nat)(w:World):(Op.equalIn (D+1) t (.slice a n c) (.slice ab 0 0)).run Q w=.ok a.isNone w:=by
 cases a<;>simp [Op.equalIn,aY b]
theorem afB{t:TypeId}{p r:Array TypeId}{v:Bool}(b:Q.underlying t=aa (.func p r v))(D:Nat)(w:World):(Op.equalIn (D+1) t .nilFunc .nilFunc).run Q w=.ok ae w:=by
 simp [Op.equalIn,aY b]
theorem afA{t:TypeId}{p r:Array TypeId}{v:Bool}(b:Q.underlying t=aa (.func p r v))(D:Nat)(f:Fn)(x y:Array Value)(w:World):(Op.equalIn (D+1) t (.func f x y) .nilFunc).run Q w=.ok ag w:=by
 simp [Op.equalIn,aY b]
theorem afC{t:TypeId}{d:Array (String × TypeId)}(b:Q.underlying t=aa (.interface d))(D:Nat)(w:World):(Op.equalIn (D+1) t .nilIface .nilIface).run Q w=.ok ae w:=by
 simp [Op.equalIn,aY b]
theorem M8{t:TypeId}{x y:Operand}(b:(rb x||rb y)=ae)(op:BinOp)(w:World):(eqGuard op t x y .nilIface .nilIface).run Q w=.ok () w:=by
 simp only [Bool.or_eq_true]at b;rcases b with b | b
 ·cases x<;>simp only [rb,aqw]at b;cases op<;>rfl
 ·cases y<;>simp only [rb,aqw]at b;cases x<;>cases op<;>rfl
theorem aj4{k:Dn}{t:TypeId}{x y:Operand}(v:mEq Q k t x y=ae){H I:V}{l d:Value}(s:VR σ X H l)(u:VR σ X I d){b:Bool}
  (h:BS X.H k H I=aa b) (neg:Bool) (w:World) :
  (do eqGuard (if neg then .neq else .eql) t x y l d;binOp (if neg then .neq else .eql) t l d).run Q w=.ok (.bool (if neg then !b else b)) w:=by
 have g:(binOp .eql t l d=do pure (.bool (←Op.equal t l d)))→(binOp .neq t l d=do pure (.bool (!(←Op.equal t l d)))) →
   (∀ op,(eqGuard op t x y l d).run Q w=.ok () w)→(Op.equalIn 10000 t l d).run Q w=.ok b w →
   (do eqGuard (if neg then .neq else .eql) t x y l d;binOp (if neg then .neq else .eql) t l d).run Q w=.ok (.bool (if neg then !b else b)) w:=by
  intro B E z N;cases neg
  ·simp only [aqw,if_false,Sem.run_bind,z,Result.andThen_ok,B,Op.equal,Op.maxDepth,N,Sem.run_pure]
  ·simp only [if_true,Sem.run_bind,z,Result.andThen_ok,E,Op.equal,Op.maxDepth,N,Sem.run_pure]
 unfold mEq at v;unfold BS at h;split at v
 ·rename_i j;split at h<;>try simp only [reduceCtorEq]at *
  obtain⟨p,q,rfl,rfl,rfl⟩:=rM h s u;exact g rfl rfl (fun op=>by cases op<;>rfl) (run_equalIn_bool' w 9999 t _ _ j)
 ·rename_i j;split at h<;>try simp only [reduceCtorEq]at *
  obtain⟨a,rfl,rfl⟩:=oQ s h;cases (u:cM σ X.F X.w .mP d);exact g rfl rfl (fun op=>by cases op<;>rfl) (YP j 9999 a w)
 ·rename_i j;split at h<;>try simp only [reduceCtorEq]at *
  obtain⟨a,n,c,rfl,rfl⟩:=oQ s h;cases (u:cM σ X.F X.w .au d);exact g rfl rfl (fun op=>by cases op<;>rfl) (afD j 9999 a n c w)
 ·rename_i j;split at h<;>try simp only [reduceCtorEq]at *
  cases (u:cM σ X.F X.w .ik d);rcases oQ s h with⟨rfl,rfl⟩ | ⟨f,p,q,rfl,rfl⟩
  ·exact g rfl rfl (fun op=>by cases op<;>rfl) (afB j 9999 w)
  ·exact g rfl rfl (fun op=>by cases op<;>rfl) (afA j 9999 f p q w)
 ·rename_i j;split at h<;>try simp only [reduceCtorEq]at *
  cases (u:cM σ X.F X.w .kU d);obtain⟨rfl,rfl⟩:=oQ s h;refine g rfl rfl (fun op=>?_) ?_
  ·have M:(rb x||rb y)=ae:=v;exact M8 M op w
  ·exact afC j 9999 w
 ·rename_i e F j;obtain⟨xs,ys,rfl,rfl,h⟩:∃ xs ys,H=.a xs∧I=.a ys∧pJ F xs ys=aa b:=by
   cases H<;>cases I<;>first | exact⟨_,_,rfl,rfl,h⟩ | simp at h
  simp only [If,decide_eq_true_eq,Bool.not_eq_true']at v;obtain⟨W,U⟩:=v;obtain⟨us,rfl,O⟩:=s;obtain⟨J,rfl,S⟩:=u;have i:=rL h;have A:=Ax W;have m:(isAgg t).run Q w=.ok ae w:=by simp [isAgg,aY j]
  have Y:us.take F.length=us:=ap1 (by have:=O.len;omega);have Z:J.take F.length=J:=ap1 (by have:=S.len;omega);obtain⟨a,c,B,E,z⟩:=Ay 20 t F W 10000 (by omega) us J 0 _ _ b w h (by simpa [Y]using O) (by simpa [Z]using S);have K:a=.agg us.toArray:=by
   simp [part,m,cY A,arD,Y]at B;exact B.symm
  have L:c=.agg J.toArray:=by
   simp [part,m,cY A,arD,Z]at E;exact E.symm
  subst K;subst L;cases neg
  ·simp only [aqw,if_false,Sem.run_bind,run_eqGuard_agg w _ t x y _ _ U,Result.andThen_ok,run_eql_struct,z]
  ·simp only [if_true,Sem.run_bind,run_eqGuard_agg w _ t x y _ _ U,Result.andThen_ok,run_neq_struct,z]
 ·simp at v
end
section
variable{Q:Program}{σ:Nat→FuncId}{X:Wd}
theorem iF{x:V}{u:Value}(h:VR σ X x u){i:Int}(hi:gD x=aa i):∃ k,u=.int k i:=by
 unfold gD at hi;split at hi
 ·simp only [At]at hi;subst hi;exact⟨_,VR.int h⟩
 ·simp at hi
theorem pX{x:V}{u:Value}(h:VR σ X x u){y i:Nat}(b:Be x y=aa i){g:Nat}(q:y≤g)(d:BoundsCode)(w:World) :
  i≤y∧(Instr.sliceBound u g d).run Q w=.ok i w:=by
 unfold Be at b;split at b
 ·rename_i j l;obtain⟨k,rfl⟩:=iF h l;split at b
  ·rename_i m;simp only [At]at b;subst b;refine⟨by omega,?_⟩;have:0≤j∧j≤(g:Int):=by omega
   simp [Instr.sliceBound,asIntOf,this]
  ·simp at b
 ·simp at b
def OR(X:Wd)(σ:Nat→FuncId):Option V→Option Value→Prop
 | none,ab=>True| some x,aa u=>VR σ X x u| _,_=>False
theorem dy{lo hi mx:Option V}{d j mx':Option Value}(v:OR X σ lo d)(A:OR X σ hi j)(F:OR X σ mx mx'){len c l h m:Nat}
  (b:bU len c lo hi mx=aa (l,h,m)) {cap:Nat} (J:c≤cap) (M:len≤c) (s:Bool) (w:World) :
  (Instr.sliceBounds s len cap d j mx').run Q w=.ok (l,h,if mx.isSome then m else cap) w∧l≤h∧h≤m∧m≤c:=by
 unfold bU at b;cases mx with
 | some z=>
  cases mx'<;>simp only [OR]at F;rename_i O;simp only [asu,aqH]at b;obtain⟨N,K,b⟩:=b;obtain⟨L,E⟩:=pX (Q:=Q) F K J (if s then .slice3Acap else .slice3Alen) w;cases hi with
  | none=>simp at b
  | some y=>
   cases j<;>simp only [OR]at A;simp only [aqX,aqH]at b;obtain⟨h0,H,b⟩:=b;obtain⟨I,g⟩:=pX (Q:=Q) A H (aft _) .slice3B w;cases lo with
   | none=>
    cases d<;>simp only [OR]at v;simp at b;obtain⟨rfl,rfl,rfl⟩:=b;simp [Instr.sliceBounds,E,g];omega
   | some x=>
    cases d<;>simp only [OR]at v;simp only [aqH]at b;obtain⟨l0,q,b⟩:=b;obtain⟨B,u⟩:=pX (Q:=Q) v q (aft _) .slice3C w;simp at b;obtain⟨rfl,rfl,rfl⟩:=b;simp [Instr.sliceBounds,E,g,u];omega
 | none=>
  cases mx'<;>simp only [OR]at F;cases hi with
  | none=>
   cases j<;>simp only [OR]at A;cases lo with
   | none=>
    cases d<;>simp only [OR]at v;simp at b;obtain⟨rfl,rfl,rfl⟩:=b;simp [Instr.sliceBounds];omega
   | some x=>
    cases d<;>simp only [OR]at v;simp only [asu,aqX,aqH]at b;obtain⟨l0,q,b⟩:=b;obtain⟨B,u⟩:=pX (Q:=Q) v q (aft _) .sliceB w;simp at b;obtain⟨rfl,rfl,rfl⟩:=b;simp [Instr.sliceBounds,u];omega
  | some y=>
   cases j<;>simp only [OR]at A;simp only [asu,aqX,aqH]at b;obtain⟨h0,H,b⟩:=b;obtain⟨I,g⟩:=pX (Q:=Q) A H J (if s then .sliceAcap else .sliceAlen) w;cases lo with
   | none=>
    cases d<;>simp only [OR]at v;simp at b;obtain⟨rfl,rfl,rfl⟩:=b;simp [Instr.sliceBounds,g];omega
   | some x=>
    cases d<;>simp only [OR]at v;simp only [aqH]at b;obtain⟨l0,q,b⟩:=b;obtain⟨B,u⟩:=pX (Q:=Q) v q (aft _) .sliceB w;simp at b;obtain⟨rfl,rfl,rfl⟩:=b;simp [Instr.sliceBounds,g,u];omega
theorem ed{t e:TypeId}{sz:Nat}(g:Q.underlying t=aa (.slice e))(b:dq Q e sz=ae){a:Option Addr}{len cap:Nat}{lo hi mx:Option Value}{l h m:Nat}{w:World}
  (d:(Instr.sliceBounds ae len cap lo hi mx).run Q w=.ok (l,h,m) w) :
  (Instr.sliceAt t (.slice a len cap) lo hi mx).run Q w=.ok (.slice (if m=l then a else a.map (·.add (l*sz))) (h-l) (m-l)) w:=by
 simp [Instr.sliceAt,Instr.slice,aY g,d,cY b]
theorem wP(hS:SR Q σ X){t e:TypeId}{sz:Nat}(g:Q.underlying t=aa (.slice e))(j:dq Q e sz=ae){x:V}{u:Value}(F:VR σ X x u)
  {lo hi mx:Option V} {b9 a8 mx':Option Value} (H:OR X σ lo b9) (I:OR X σ hi a8) (J:OR X σ mx mx') {v:V} (h:eo X.H sz x lo hi mx=aa v) :
  ∃ r,(Instr.sliceAt t u b9 a8 mx').run Q X.w=.ok r X.w∧VR σ X v r:=by
 unfold eo at h;split at h
 ·
  split at h
  ·rename_i r z;obtain⟨l,y,m⟩:=r;simp only [At]at h;subst h;cases (F:cM σ X.F X.w .au u);obtain⟨q,K,N,O⟩:=dy (Q:=Q) H I J z (aft 0) (aft 0) ae X.w;refine⟨_,ed g j q,?_⟩;have:l=0∧y=0∧m=0:=by omega
   obtain⟨rfl,rfl,rfl⟩:=this;simp;exact cM.au
  ·simp at h
 ·split at h
  ·rename_i r z;obtain⟨l,y,m⟩:=r;simp only [At]at h;subst h;cases (F:cM σ X.F X.w .es u);obtain⟨q,K,N,O⟩:=dy (Q:=Q) H I J z (aft 0) (aft 0) ae X.w;refine⟨_,ed g j q,?_⟩;have:l=0∧y=0∧m=0:=by omega
   obtain⟨rfl,rfl,rfl⟩:=this;simp;exact cM.es _
  ·simp at h
 ·
  rename_i cs n;split at h
  ·rename_i l y m z;have d_:(∃(c o cap:Nat) (us:List Value),n≤cap∧us.length=cs.length∧(∀ i,i<cs.length→X.F c (o+i))∧(∀(i:Nat) u,us[i]?=aa u→X.w.cell? ⟨c,o+i,ab⟩=aa u) ∧
     (∀(i:Nat) x u,cs[i]?=aa x→us[i]?=aa u→cM σ X.F X.w x u)∧u=.slice (aa ⟨c,o,ab⟩) n cap)∨(cs=[]∧n=0∧∃ a cap,u=.slice (aa a) 0 cap):=by
    cases (F:cM σ X.F X.w (.fs cs n) u)with
    | fs _ _ c o cap us d hl hF hc hr=>exact .inl ⟨c,o,cap,us,d,hl,hF,hc,hr,rfl⟩| fs0 a cap=>exact .inr ⟨rfl,rfl,a,cap,rfl⟩
   rcases d_ with⟨c,o,cap,us,d,hl,hF,hc,hr,rfl⟩ | ⟨rfl,rfl,a,cap,rfl⟩
   ·obtain⟨q,K,N,O⟩:=dy (Q:=Q) H I J z d (aft n) ae X.w;split at h
    ·rename_i B;simp only [At]at h;subst h;rw [ba B.1]at q;obtain⟨_,rfl⟩:=B;refine⟨_,ed g j q,?_⟩;rw [show y-m=0 by omega,show m-m=0 by omega,ba rfl];exact cM.es _
    ·simp only [At]at h;subst h;refine⟨_,ed g j q,?_⟩;generalize S:(if mx.isSome=ae then m else cap)=M;have b_:y≤M:=by rw [←S];split<;>omega
     by_cases E:M=l
     ·rw [ba E,show y-l=0 by omega];simp;exact cM.fs0 _ _
     ·rw [aW E];simp only [aq4,dX];refine cM.fs _ _ c (o+l*sz) _ ((us.drop (l*sz)).take ((y-l)*sz)) (by omega) (by simp [hl]) (fun i hi=>?_) (fun i u g=>?_) (fun i x u F g=>?_)
      ·have:=hF (l*sz+i) (by simp at hi;omega);rwa [show o+(l*sz+i)=o+l*sz+i by omega]at this
      ·rw [aqQ]at g;split at g
       ·rw [aqB]at g;have:=hc _ u g;rwa [show o+(l*sz+i)=o+l*sz+i by omega]at this
       ·simp at g
      ·rw [aqQ]at g F;split at g
       ·rename_i hi;rw [ba hi]at F;rw [aqB]at g F;exact hr _ x u F g
       ·simp at g
   ·obtain⟨q,K,N,O⟩:=dy (Q:=Q) H I J z (Nat.zero_le cap) (aft 0) ae X.w;have:l=0∧y=0∧m=0:=by omega
    obtain⟨rfl,rfl,rfl⟩:=this;refine⟨_,ed g j q,?_⟩;split at h
    ·rename_i B;simp only [At]at h;subst h;simp [B.1];exact cM.es _
    ·simp only [At]at h;subst h;have ho:∀ M,∃ a',(if M=0 then aa a else Option.map (fun(x:Addr)=>x.add (0*sz)) (aa a))=aa a':=by intro M;split<;>exact⟨_,rfl⟩
     obtain⟨a',U⟩:=ho (if mx.isSome=ae then 0 else cap);rw [U];simp;exact cM.fs0 _ _
  ·simp at h
 ·
  rename_i b o n cap ep s;simp only [VR,gq,CR,eX]at F;split at h
  ·rename_i A;rw [A]at F;obtain⟨L,Z,d,rfl⟩:=F;split at h
   ·rename_i l y m z;obtain⟨q,K,N,O⟩:=dy (Q:=Q) H I J z (aft cap) d ae X.w;have hm:(if mx.isSome=ae then m else cap)=m:=by
     split
     ·rfl
     ·rename_i hn;cases mx with
      | some _=>simp at hn| none=>unfold bU at z;cases hi<;>cases lo<;>simp [aqH]at z<;>omega
    rw [hm]at q;refine⟨_,ed g j q,?_⟩;split at h
    ·rename_i E;simp only [At]at h;subst h;rw [ba E,show y-l=0 by omega,show m-l=0 by omega];exact cM.es _
    ·rename_i E;simp only [At]at h;subst h;rw [aW E];simp only [aq4,dX,VR,gq,CR,eX,A];exact⟨L,Z,by omega,rfl⟩
   ·simp at h
  ·rename_i s' cs fl e st A;rw [A]at F;split at h
   ·rename_i hc;obtain⟨rfl,rfl,rfl⟩:=hc;have Y:=F.2.1 rfl rfl;cases st with
    | loc=>
     obtain⟨L,Z,k,rfl,hk,rfl⟩:=Y;simp only at h;split at h
     ·rename_i l y m z;obtain⟨q,K,N,O⟩:=dy (Q:=Q) H I J z (show n≤L.cap-k by omega) (aft n) ae X.w;refine⟨_,ed g j q,?_⟩;generalize S:(if mx.isSome=ae then m else L.cap-k)=M;have b_:y≤M:=by rw [←S];split<;>omega
      split at h
      ·rename_i B;simp only [At]at h;subst h;rw [ba B.1]at S;subst S;obtain⟨_,rfl⟩:=B;rw [show y-m=0 by omega,show m-m=0 by omega,ba rfl];exact cM.es _
      ·split at h
       ·rename_i B;simp only [At]at h;subst h;rw [show y-l=0 by omega];have ho:∃ a',(if M=l then aa (⟨L.c,k*s',ab⟩:Addr)else Option.map (fun(x:Addr)=>x.add (l*s')) (aa ⟨L.c,k*s',ab⟩))=aa a':=by split<;>exact⟨_,rfl⟩
        obtain⟨a',U⟩:=ho;rw [U];exact cM.fs0 _ _
       ·rename_i e_;split at h
        ·split at h
         ·simp only [At]at h;subst h;simp only [VR,gq,CR,eX,A];exact⟨aft _,fun _ e=>by omega,_,_,_,rfl⟩
         ·simp at h
        ·rename_i hn;simp only [At]at h;subst h;rw [aW hn]at S;have W:(if M=l then aa (⟨L.c,k*s',ab⟩:Addr)else Option.map (fun(x:Addr)=>x.add (l*s')) (aa ⟨L.c,k*s',ab⟩))=aa ⟨L.c,k*s'+l*s',ab⟩:=by
          split
          ·have:l=0:=by omega
           subst this;simp
          ·simp [dX]
         rw [W];simp only [VR,gq,CR,eX,A];refine⟨aft _,fun _ _=>⟨L,Z,k+l,by rw [aqT],by omega,by rw [←S];congr 1;omega⟩,_,_,_,rfl⟩
     ·
      cases mx with
      | some _=>simp at h
      | none=>
       simp only at h;split at h
       ·rename_i l y m z;split at h
        ·rename_i d9;simp only [At]at h;subst h;obtain⟨_,_,bj,a7,c_⟩:=hS.br b L Z;rw [A]at a7;cases a7;obtain⟨-,us,rest,-,hA,a_,f8,-,-⟩:=c_;have f7:cs.length≤L.cap*s':=by rw [←a_,api,←hA.1];omega
         have d:(cs.length-k*s') / s'≤L.cap-k:=by
          refine Nat.div_le_of_le_mul ?_;rw [Nat.mul_sub,Nat.mul_comm s' L.cap,Nat.mul_comm s' k];omega
         obtain⟨q,K,N,O⟩:=dy (Q:=Q) H I J z d d9.1 ae X.w;refine⟨_,ed g j q,?_⟩;simp only [Option.isSome_none,aqw,if_false,aq4,dX];rw [aW (by omega)];simp only [VR,gq,CR,eX,A];refine⟨aft _,fun _ _=>⟨L,Z,k+l,by rw [aqT],by omega,by congr 1;omega⟩,_,_,_,rfl⟩
        ·simp at h
       ·simp at h
    | nil=>
     obtain⟨rfl,rfl,rfl⟩:=Y;simp only at h;split at h
     ·rename_i r z;obtain⟨l,y,m⟩:=r;simp only [At]at h;subst h;obtain⟨q,K,N,O⟩:=dy (Q:=Q) H I J z (aft 0) (aft 0) ae X.w;refine⟨_,ed g j q,?_⟩;have:l=0∧y=0∧m=0:=by omega
      obtain⟨rfl,rfl,rfl⟩:=this;simp;exact cM.au
     ·simp at h
    | es=>
     obtain⟨rfl,rfl,a,rfl⟩:=Y;simp only at h;split at h
     ·rename_i r z;obtain⟨l,y,m⟩:=r;simp only [At]at h;subst h;obtain⟨q,K,N,O⟩:=dy (Q:=Q) H I J z (aft 0) (aft 0) ae X.w;refine⟨_,ed g j q,?_⟩;have:l=0∧y=0∧m=0:=by omega
      obtain⟨rfl,rfl,rfl⟩:=this;simp;exact cM.es _
     ·simp at h
   ·simp at h
  ·simp at h
 ·simp at h
end
section
variable{Q:Program}{σ:Nat→FuncId}{X:Wd}
theorem N1{t:TypeId}(A:Q.underlying t=aa .string){x:V}{u:Value}(B:VR σ X x u){lo hi:Option V}{d b:Option Value}(g:OR X σ lo d)(j:OR X σ hi b)
  {v:V} (h:uh x lo hi=aa v) (w:World):∃ r,(Instr.sliceAt t u d b ab).run Q w=.ok r w∧VR σ X v r:=by
 unfold uh at h;split at h
 ·rename_i s;have:=VR.str B;subst this;split at h
  ·rename_i l z m y;simp only [At]at h;subst h;obtain⟨q,_⟩:=dy (Q:=Q) (mx:=ab) (mx':=ab) g j trivial y (aft _) (aft _) ag w;exact⟨.string (s.extract l z),by simp [Instr.sliceAt,Instr.slice,aY A,q],VR.mkStr _⟩
  ·simp at h
 ·simp at h
theorem NZ(Z:SR Q σ X){t e:TypeId}{n sz:Nat}(g:Q.underlying t=aa (.array n e))(E:dq Q e sz=ae){x:V}{u:Value}(q:VR σ X x u)
  {lo hi mx:Option V} {z y mx':Option Value} (F:OR X σ lo z) (H:OR X σ hi y) (I:OR X σ mx mx') {v:V} (h:jD X.H n sz x lo hi mx=aa v) :
  ∃ r,(Instr.sliceAt t u z y mx').run Q X.w=.ok r X.w∧VR σ X v r:=by
 have run:∀(a:Addr) l j m,(Instr.sliceBounds ag n n z y mx').run Q X.w=.ok (l,j,m) X.w →
   (Instr.sliceAt t (.pointer (aa a)) z y mx').run Q X.w=.ok (.slice (aa (if m=l then a else a.add (l*sz))) (j-l) (m-l)) X.w:=by
  intro a l j m s;simp [Instr.sliceAt,aY g,Instr.sureAddr,s,cY E]
 have mm:∀ {l j m:Nat},bU n n lo hi mx=aa (l,j,m)→(if mx.isSome=ae then m else n)=m:=by
  intro l j m s;split
  ·rfl
  ·rename_i W;cases mx with
   | some _=>simp at W| none=>unfold bU at s;cases hi<;>cases lo<;>simp [aqH]at s<;>omega
 unfold jD at h;split at h
 ·rename_i b off ep;obtain⟨L,O,q⟩:=q;split at h
  ·rename_i cs fl B;rw [B]at q;simp only at q;subst q;split at h
   ·rename_i l j m s;obtain⟨A,J,K,M⟩:=dy (Q:=Q) F H I s (aft n) (aft n) ag X.w;rw [mm s]at A;split at h
    ·refine⟨_,run _ _ _ _ A,?_⟩;split at h
     ·rename_i d;simp only [At]at h;subst h;rw [ba d,show j-l=0 by omega,show m-l=0 by omega];exact cM.es _
     ·rename_i d;simp only [At]at h;subst h;rw [aW d];simp only [dX,VR,gq,CR,eX,B];exact⟨L,O,by omega,rfl⟩
    ·simp at h
   ·simp at h
  ·simp at h
 ·rename_i cs off;cases (q:cM σ X.F X.w (.fp cs off) u)with
  | fp _ _ c o us U N S Y=>
   split at h
   ·rename_i l j m s;obtain⟨A,J,K,M⟩:=dy (Q:=Q) F H I s (aft n) (aft n) ag X.w;rw [mm s]at A;split at h
    ·refine⟨_,run _ _ _ _ A,?_⟩;split at h
     ·rename_i d;simp only [At]at h;subst h;rw [ba d,show j-l=0 by omega,show m-l=0 by omega];exact cM.es _
     ·rename_i d;simp only [At]at h;subst h;rw [aW d,dX];refine cM.fs _ _ c (o+off+l*sz) _ ((us.drop (off+l*sz)).take ((j-l)*sz)) (by omega) (by simp [U]) (fun i hi=>?_) (fun i u g=>?_) (fun i x u q g=>?_)
      ·have:=N (off+l*sz+i) (by simp at hi;omega);rwa [show o+(off+l*sz+i)=o+off+l*sz+i by omega]at this
      ·rw [aqQ]at g;split at g
       ·rw [aqB]at g;have:=S _ u g;rwa [show o+(off+l*sz+i)=o+off+l*sz+i by omega]at this
       ·simp at g
      ·rw [aqQ]at g q;split at g
       ·rename_i hi;rw [ba hi]at q;rw [aqB]at g q;exact Y _ x u q g
       ·simp at g
    ·simp at h
   ·simp at h
 ·simp at h
theorem BX{t:TypeId}{l:Array Field}(I:Q.underlying t=aa (.struct l)){i:Nat}{f:Field}(E:l[i]?=aa f)(j:(Q.info? f.type).any (fun i=>i.size != 0)=ae)
  {x:V} {u:Value} (g:VR σ X x u) {v:V} (h:iD f.offset x=aa v) (w:World):∃ r,(Instr.fieldAt t u i).run Q w=.ok r w∧VR σ X v r:=by
 have run:∀ a:Addr,(Instr.fieldAt t (.pointer (aa a)) i).run Q w=.ok (.pointer (aa (a.add f.offset))) w:=by
  intro a;cases hi:Q.info? f.type with
  | none=>simp [hi]at j
  | some J=>
   simp [hi]at j;simp [Instr.fieldAt,aY I,E,Instr.sureAddr,fieldPlace,Go.sizeOf,typeInfo,hi,j]
 unfold iD at h;split at h
 ·rename_i b o ep;simp only [At]at h;subst h;obtain⟨L,m,g⟩:=g;split at g
  ·rename_i d;subst g;exact⟨_,run _,L,m,by rw [d,dX]⟩
  ·rename_i s cs fl e d;obtain⟨q,y,a,rfl⟩:=g;refine⟨_,run _,L,m,?_⟩;rw [d];refine⟨q,fun B=>?_,_,rfl⟩;have:=y B;simp only [Value.pointer.injEq,At]at this;rw [this,dX]
  ·exact g.elim
 ·rename_i cs o;simp only [At]at h;subst h;cases (g:cM σ X.F X.w (.fp cs o) u)with
  | fp _ _ c o' us F z A H=>
   refine⟨_,run _,?_⟩;rw [dX,Nat.add_assoc];exact cM.fp cs _ c o' us F z A H
 ·simp at h
theorem B9{t e:TypeId}{sz:Nat}{q:Option Nat}(I:dq Q e sz=ae)
  (H:(q=ab∧Q.underlying t=aa (.slice e))∨∃ n,q=aa n∧Q.underlying t=aa (.array n e)) {x i:V} {u j:Value} (m:VR σ X x u) (hi:VR σ X i j)
  {v:V} (h:bA X.H sz q x i=aa v):∃ r,(Instr.indexAt t u j).run Q X.w=.ok r X.w∧VR σ X v r:=by
 unfold bA at h;split at h
 ·simp at h
 rename_i k Z;obtain⟨O,rfl⟩:=iF hi Z;split at h
 ·rename_i h0;have z:q=ab→∀(a:Addr) (l c:Nat),k<l→(Instr.indexAt t (.slice (aa a) l c) (.int O k)).run Q X.w=.ok (.pointer (aa (a.add (k.toNat*sz)))) X.w:=by
   intro J a l c g;rcases H with⟨_,H⟩ | ⟨n,A,_⟩
   ·simp [Instr.indexAt,asIntOf,aY H,h0,g,cY I]
   ·rw [J]at A;simp at A
  have y:∀ n,q=aa n→∀(a:Addr),k<n→(Instr.indexAt t (.pointer (aa a)) (.int O k)).run Q X.w=.ok (.pointer (aa (a.add (k.toNat*sz)))) X.w:=by
   intro n J a g;rcases H with⟨A,_⟩ | ⟨n',A,H⟩
   ·rw [J]at A;simp at A
   ·rw [J]at A;simp only [At]at A;subst A;simp [Instr.indexAt,asIntOf,aY H,Instr.sureAddr,h0,g,cY I]
  split at h
  ·rename_i b o l c ep s;split at h
   ·rename_i g;simp only [VR,gq,CR,eX]at m;split at h
    ·rename_i d;rw [d]at m;obtain⟨L,E,_,rfl⟩:=m;simp only [At]at h;subst h;exact⟨_,z rfl _ _ _ g,L,E,by rw [d,dX]⟩
    ·rename_i s' cs fl S d;rw [d]at m;split at h
     ·rename_i F;simp only [At]at h;subst h;obtain⟨L,E,kq,_,_,rfl⟩:=m.2.1 F.1 F.2;exact⟨_,z rfl _ _ _ g,L,E,by rw [d,dX];exact⟨m.1,fun _=>rfl,_,rfl⟩⟩
     ·simp at h
    ·simp at h
   ·simp at h
  ·rename_i cs l;split at h
   ·rename_i g;simp only [At]at h;subst h;cases (m:cM σ X.F X.w (.fs cs l) u)with
    | fs _ _ c o cap us N B K F M=>
     refine⟨_,z rfl _ _ _ g,?_⟩;rw [dX];exact cM.fp cs _ c o us B K F M
    | fs0 a cap=>simp at g;omega
   ·simp at h
  ·rename_i n b o ep;split at h
   ·rename_i g;simp only [At]at h;subst h;obtain⟨L,E,m⟩:=m;split at m
    ·rename_i d;subst m;exact⟨_,y n rfl _ g,L,E,by rw [d,dX]⟩
    ·rename_i s cs fl S d;obtain⟨U,W,a,rfl⟩:=m;refine⟨_,y n rfl _ g,L,E,?_⟩;rw [d];refine⟨U,fun Y=>?_,_,rfl⟩;have:=W Y;simp only [Value.pointer.injEq,At]at this;rw [this,dX]
    ·exact m.elim
   ·simp at h
  ·rename_i n cs o;split at h
   ·rename_i g;simp only [At]at h;subst h;cases (m:cM σ X.F X.w (.fp cs o) u)with
    | fp _ _ c o' us B K F M=>
     refine⟨_,y n rfl _ g,?_⟩;rw [dX,Nat.add_assoc];exact cM.fp cs _ c o' us B K F M
   ·simp at h
  ·simp at h
 ·simp at h
theorem uD{t:TypeId}{n:Option Nat}(s:uB Q t n=ae){xs:List C}{us:List Value}(l:A2 (CR σ X) xs us)(off:Nat){v:V}(b:aT n (xs.drop off)=aa v)(w:World) :
  ∃ u,(part t us.toArray off).run Q w=.ok u w∧VR σ X v u:=by
 obtain⟨m,q⟩:=Ee s w;cases n with
 | none=>
  cases d:xs.drop off with
  | nil=>rw [d]at b;simp [aT]at b
  | cons x cs=>
   rw [d]at b;simp only [aT,At]at b;subst b;obtain⟨u,y,j⟩:=(l.drop off).get (i:=0) (x:=x) (by rw [d];rfl);have g:us[off]?=aa u:=by simpa [aqB]using y
   exact⟨u,by simp [part,m,g],j⟩
 | some n=>
  simp only [aT]at b;split at b
  ·simp only [At]at b;subst b;exact⟨.agg ((us.drop off).take n).toArray,by simp [part,m,cY (q n rfl),arD],_,rfl,(l.drop off).take n⟩
  ·simp at b
theorem MZ{t:TypeId}{b:Array Field}(q:Q.underlying t=aa (.struct b)){i:Nat}{f:Field}(l:b[i]?=aa f){n:Option Nat}(m:uB Q f.type n=ae)
  {x:V} {u:Value} (s:VR σ X x u) {v:V} (h:jx f.offset n x=aa v) (w:World):∃ r,(Instr.field t u i).run Q w=.ok r w∧VR σ X v r:=by
 unfold jx at h;split at h
 ·obtain⟨us,rfl,d⟩:=s;obtain⟨r,g,j⟩:=uD m d f.offset h w;exact⟨r,by simp [Instr.field,aY q,l,asAgg,g],j⟩
 ·simp at h
theorem Y7{t e:TypeId}{len sz:Nat}(y:Q.underlying t=aa (.array len e))(b:dq Q e sz=ae){n:Option Nat}(s:uB Q e n=ae)
  {x i:V} {u j:Value} (z:VR σ X x u) (hi:VR σ X i j) {v:V} (h:zR len sz n x i=aa v) (w:World):∃ r,(Instr.index t u j).run Q w=.ok r w∧VR σ X v r:=by
 unfold zR at h;split at h
 ·rename_i xs k q;obtain⟨A,rfl⟩:=iF hi q;split at h
  ·rename_i m;obtain⟨us,rfl,d⟩:=z;obtain⟨r,g,l⟩:=uD s d _ h w;exact⟨r,by simp [Instr.index,asIntOf,aY y,m,cY b,g],l⟩
  ·simp at h
 ·simp at h
theorem Y8{t:TypeId}(l:Q.underlying t=aa .string){x i:V}{u j:Value}(m:VR σ X x u)(hi:VR σ X i j){v:V}(h:zS x i=aa v)(w:World) :
  ∃ r,(Instr.index t u j).run Q w=.ok r w∧VR σ X v r:=by
 unfold zS at h;split at h
 ·rename_i s k g;obtain⟨q,rfl⟩:=iF hi g;have:=VR.str m;subst this;split at h
  ·rename_i h0;simp only [IT]at h;obtain⟨b,d,rfl⟩:=h;exact⟨_,by simp [Instr.index,asIntOf,aY l,h0,d],VR.mkInt _ _⟩
  ·simp at h
 ·simp at h
end
section
variable{Q:Program}{σ:Nat→FuncId}{X:Wd}
theorem A2.over{α β:Type}{R:α→β→Prop}{cs xs:List α}{us d:List β}(h:A2 R cs us)(b:A2 R xs d)(off:Nat):A2 R (over cs off xs) (over us off d):=by
 unfold Km.over;rw [b.len];exact((h.take off).append b).append (h.drop _)
theorem Ar{α:Type}(cs:List α)(off:Nat)(xs:List α)(h:off+xs.length≤cs.length):(over cs off xs).length=cs.length:=by
 simp [over];omega
theorem zM(off:Nat):∀(d:List Value) (k:Nat) (b:List Value),off+k+d.length≤b.length →
  ((d.zipIdx k).foldl (fun(cs:Array Value) p=>cs.setIfInBounds (off+p.2) p.1) b.toArray)=(over b (off+k) d).toArray
 | [],k,b,_=>by simp [over]
 | v::d,k,b,h=>by
  simp only [List.zipIdx_cons,arJ];have g:b.toArray.setIfInBounds (off+k) v=(b.set (off+k) v).toArray:=by simp
  rw [g,zM off d (k+1) _ (by simp at h ⊢;omega)]
  congr 1
  unfold over;simp only [aq7]at h ⊢;rw [List.take_set,List.drop_set_of_lt (by omega),show off+(k+1)=off+k+1 by omega,show off+k+1+d.length=off+k+(d.length+1) by omega];rw [arW (by omega)];have j:(List.take (off+k) b).length=off+k:=by simp;omega
  have e:(List.take (off+k) b++[b[off+k]]).set (off+k) v=List.take (off+k) b++[v]:=by
   rw [List.set_append,aW (by omega),j];simp
  rw [e];simp
theorem nY{x:V}{u:Value}(b:VR σ X x u){xs:List C}(h:x.cells?=aa xs):∃ us,u.cells=us.toArray∧A2 (CR σ X) xs us:=by
 unfold V.cells? at h;split at h
 ·rename_i x;simp only [At]at h;subst h;have d:=CR.one σ b;refine⟨[u],?_,A2.cons b A2.nil⟩;cases u<;>simp_all [Value.cells,Value.oneCell']
 ·simp only [At]at h;subst h;obtain⟨us,rfl,h⟩:=b;exact⟨us,rfl,h⟩
 ·simp at h
theorem mr{a:Act}{aw:T}(v:RR σ X aw a.tmps){place:Nat→Option (Nat × Nat)}:∀ {qs:List (Nat × Nat × Arg)} {ps:List (Nat × Operand)},
  A2 (fun(q:Nat × Nat × Arg) (p:Nat × Operand)=>place p.1=aa (q.1,q.2.1)∧mA σ q.2.2 p.2=ae) qs ps→∀ {cs cs':List C} {us:List Value},A2 (CR σ X) cs us →
  dw aw cs qs=aa cs'→∃ d,Instr.fill place us.toArray (ps.map fun p=>(p.1,a.eval p.2))=aa d.toArray∧A2 (CR σ X) cs' d
 | [],[],_,cs,cs',us,h,b=>by
  simp only [dw,At]at b;subst b;exact⟨us,rfl,h⟩
 | [],_::_,g,_,_,_,_,_=>by have:=g.len;simp at this
 | _::_,[],g,_,_,_,_,_=>by have:=g.len;simp at this
 | (off,n,x)::qs,(i,y)::ps,g,cs,cs',us,h,b=>by
  obtain⟨⟨s,u⟩,l⟩:=g.of_cons;simp only at s u;simp only [dw]at b;split at b
  ·rename_i xs m;split at b
   ·rename_i H;obtain⟨F,E,j⟩:=nY (bO v u) m;obtain⟨d,z,A⟩:=mr v l (h.over j off) b;refine⟨d,?_,A⟩;have I:=j.len;have B:=h.len;simp only [List.map_cons,Instr.fill,s,E];rw [aW (by simp;omega)];rw [←z]
    congr 1
    have:=zM off F 0 us (by omega);simp only [arU]at this;rw [←this];simp [←Array.foldl_toList]
   ·simp at b
  ·simp at b
theorem eC{t:TypeId}{zs:List FC}(h:jU Q t zs=ae)(w:World):∃ z us,(zeroValue t).run Q w=.ok z w∧z.cells=us.toArray∧A2 (CR σ X) (zs.map .f) us ∧
  ∃ i,Q.info? t=aa i∧i.zero=aa z:=by
 unfold jU at h;cases hi:Q.info? t with
 | none=>simp [hi]at h
 | some i=>
  simp only [hi,Option.any_some]at h;split at h
  ·rename_i z d;refine⟨z,z.cells.toList,by simp [zeroValue,typeInfo,hi,d],by simp,A2.map ((ek h).jX fun x u b=>Cj b),i,rfl,d⟩
  ·simp at h
end
section
variable{Q:Program}{σ:Nat→FuncId}{X:Wd}
theorem km{b:CK}{t:TypeId}(h:Nt Q b t=ae):(b=.int∧∃ j,Q.underlying t=aa (.int j))∨(b=.str∧Q.underlying t=aa .string)∨(b=.bool∧Q.underlying t=aa .bool):=by
 unfold Nt at h;split at h
 ·exact .inl ⟨rfl,_,by assumption⟩
 ·exact .inr (.inl ⟨rfl,by assumption⟩)
 ·exact .inr (.inr ⟨rfl,by assumption⟩)
 ·simp at h
theorem sX{l:CK}{d:TypeDesc}(m:(l=.int∧∃ j,d=.int j)∨(l=.str∧d=.string)∨(l=.bool∧d=.bool)){F:Nat→Nat→Prop}{w:World}{x y:FC}{u v:Value}
  (q:cM σ F w x u) (s:cM σ F w y v) {b:Bool} (h:eqK l x y=aa b):Instr.sameNow d u v=aa b:=by
 unfold eqK at h;split at h
 ·cases q;cases s;rcases m with⟨_,j,rfl⟩ | ⟨g,_⟩ | ⟨g,_⟩
  ·simpa [Instr.sameNow]using h
  ·cases g
  ·cases g
 ·cases q;cases s;rcases m with⟨g,_⟩ | ⟨_,rfl⟩ | ⟨g,_⟩
  ·cases g
  ·simpa [Instr.sameNow]using h
  ·cases g
 ·cases q;cases s;rcases m with⟨g,_⟩ | ⟨g,_⟩ | ⟨_,rfl⟩
  ·cases g
  ·cases g
  ·simpa [Instr.sameNow]using h
 ·simp at h
theorem wE{l:CK}{d:TypeDesc}(q:(l=.int∧∃ j,d=.int j)∨(l=.str∧d=.string)∨(l=.bool∧d=.bool)){F:Nat→Nat→Prop}{w:World}{k:FC}{B:Value}(v:cM σ F w k B) :
  ∀ {R:C→Value→Prop} {y:List (FC × C)} {b:List MapEntry},A2 (fun e m=>cM σ F w e.1 m.key∧R e.2 m.val) y b→∀ {r:Option C} (i:Nat),lL l k y=aa r →
  match r with
  | none=>Instr.findNow d B b i=aa ab| some x=>∃ j u,Instr.findNow d B b i=aa (aa (j,u))∧R x u
 | _,[],[],_,r,i,h=>by
  simp only [lL,At]at h;subst h;rfl
 | _,[],_::_,g,_,_,_=>by have:=g.len;simp at this
 | _,_::_,[],g,_,_,_=>by have:=g.len;simp at this
 | _,e::y,m::b,g,r,i,h=>by
  obtain⟨⟨z,E⟩,A⟩:=g.of_cons;simp only [lL]at h;split at h
  ·rename_i s;simp only [At]at h;subst h;exact⟨i,m.val,by simp [Instr.findNow,sX q v z s],E⟩
  ·rename_i s;have:=wE q v A (i+1) h;cases r with
   | none=>simpa [Instr.findNow,sX q v z s]using this| some x=>obtain⟨j,u,H,I⟩:=this;exact⟨j,u,by simp [Instr.findNow,sX q v z s,H],I⟩
  ·simp at h
theorem gS{l:CK}{t:TypeId}(h:Nt Q l t=ae){k:FC}{F:Nat→Nat→Prop}{q:World}{g:Value}(m:cM σ F q k g)(hi:isKey l k=ae)(b:Bool)(w:World) :
  (Instr.checkKey b 10000 t g).run Q w=.ok () w:=by
 have:∀ n,(Instr.checkKey b (n+1) t g).run Q w=.ok () w:=by
  intro n;rcases km h with⟨rfl,j,d⟩ | ⟨rfl,d⟩ | ⟨rfl,d⟩<;>cases m<;>simp_all [isKey,Instr.checkKey,aY d]
 exact this 9999
theorem Cd{z:FC}{r:Option C}{u:Value}{ok:Bool}(b:ok=(qG z).isSome)(h:gq σ X ((r.map mV).getD (zV ((qG z).getD z))) u):VR σ X (lkR z r) (if ok=ae then .tuple #[u,.bool r.isSome]else u):=by
 unfold lkR;cases d:qG z with
 | none=>rw [d]at h b;subst b;exact VR.of1 σ h| some g=>rw [d]at h b;subst b;exact⟨[u,.bool r.isSome],rfl,A2.cons h (A2.cons (cM.bool _) A2.nil)⟩
theorem Nq(hS:SR Q σ X){t kt e:TypeId}{J:CK}(Y:Q.underlying t=aa (.map kt e))(K:Nt Q J kt=ae){z:FC}{ok:Bool}(H:ok=(qG z).isSome)(hz:jU Q e (qU ((qG z).getD z))=ae)
  (l:(Q.info? e).any (fun i=>i.zero.any fun u=>if C6 ((qG z).getD z)then ajK u else akE u)=ae) {m k:V} {um uk:Value} (hm:VR σ X m um) (s:VR σ X k uk) {v:V} (h:fG X.H J z m k=aa v) :
  ∃ u,(Instr.lookup t um uk ok).run Q X.w=.ok u X.w∧VR σ X v u:=by
 obtain⟨I,zs,M,A,B,i0,U,W⟩:=eC (σ:=σ) (X:=X) hz X.w;have N:gq σ X (zV ((qG z).getD z)) I:=by
  simp only [U,Option.any_some,W]at l;generalize (qG z).getD z=z0 at *;cases O:C6 z0 with
  | true=>
   rw [alm O];simp only [O,if_true]at l;cases I with
   | agg cs=>exact⟨zs,by simp only [Value.cells]at A;rw [A],B⟩
   | _=>simp [ajK]at l
  | false=>
   obtain⟨e1,e2⟩:=aln O;rw [e1];rw [e2]at B;simp only [O,aqw,if_false]at l;obtain⟨u,Z,a7⟩:=B.get (i:=0) (x:=.f z0) rfl;have hl:=B.len;have a8:zs=[u]:=by
    match zs,hl,Z with
    | [y],_,h=>simp at h;rw [h]
   subst a8;cases I with
   | agg cs=>simp [akE]at l| _=>simp only [Value.cells]at A;have:=congrArg Array.toList A;simp at this;subst this;exact a7
 unfold fG at h;split at h
 ·rename_i kc;split at h
  ·rename_i q;simp only [At]at h;subst h;cases (hm:cM σ X.F X.w .uZ um);refine⟨if ok=ae then .tuple #[I,.bool ag]else I,?_,Cd (r:=ab) H N⟩;rcases km K with⟨_,j,g⟩ | ⟨_,g⟩ | ⟨_,g⟩ <;>
    simp [Instr.lookup,aY Y,gS K s q,Instr.findKey,aY g,Instr.findNow,M]
  ·simp at h
 ·rename_i b kc;split at h
  ·rename_i es hb;split at h
   ·rename_i q;simp only [IT]at h;obtain⟨r,hr,rfl⟩:=h;obtain⟨L,hL,_,rfl⟩:=hm;obtain⟨_,_,bj,F,S⟩:=hS.br b L hL;rw [hb]at F;simp only [At]at F;subst F;obtain⟨a_,h1,h2,_⟩:=S;have go:∀ d,Q.underlying kt=aa d→((J=.int∧∃ j,d=.int j)∨(J=.str∧d=.string)∨(J=.bool∧d=.bool))→∃ u,(Instr.lookup t (.map (aa L.c)) uk ok).run Q X.w=.ok u X.w∧VR σ X (lkR z r) u:=by
     intro d g hd;have h3:=wE (R:=fun c u=>gq σ X (mV c) u) hd s h2 0 hr;cases r with
     | none=>
      refine⟨if ok=ae then .tuple #[I,.bool ag]else I,?_,Cd (r:=ab) H N⟩;simp [Instr.lookup,aY Y,getObj,Sem.run,h1,gS K s q,Instr.findKey,aY g,h3,M]
     | some x=>
      obtain⟨j,u,E,h5⟩:=h3;refine⟨if ok=ae then .tuple #[u,.bool ae]else u,?_,Cd (r:=aa x) H h5⟩;simp [Instr.lookup,aY Y,getObj,Sem.run,h1,gS K s q,Instr.findKey,aY g,E]
    rcases km K with⟨E,j,g⟩ | ⟨E,g⟩ | ⟨E,g⟩
    ·exact go _ g (.inl ⟨E,j,rfl⟩)
    ·exact go _ g (.inr (.inl ⟨E,rfl⟩))
    ·exact go _ g (.inr (.inr ⟨E,rfl⟩))
   ·simp at h
  ·simp at h
 ·simp at h
end
section
variable{Q:Program}{σ:Nat→FuncId}{X:Wd}
theorem dY{s:Sem Value}{u:Value}{w w':World}(h:s.run Q w=.ok u w'):(do pure (Next.value (←s)):Sem Next).run Q w=.ok (.value u) w':=by simp [h]
theorem qV{a:Act}{aw:T}(b:RR σ X aw a.tmps){x:Option Arg}{y:Option Operand}(h:mO σ x y=ae):OR X σ (x.map (·.ev aw)) (y.map a.eval):=by
 rcases anw b h with⟨rfl,rfl⟩ | ⟨g,j,rfl,rfl,d⟩
 ·trivial
 ·exact d
theorem gL{t:TypeId}{p:TypeId→Bool}(h:(lu Q t).any p=ae):∃ e,Q.underlying t=aa (.slice e)∧p e=ae:=by
 unfold lu at h;split at h
 ·exact⟨_,by assumption,by simpa using h⟩
 ·simp at h
theorem gX{x:C}{u:Value}(b:CR σ X x u){l:Nat}(h:bu X.H x=aa l):∃ a c,u=.slice a l c:=by
 unfold bu at h;split at h<;>try simp only [At,reduceCtorEq]at h
 ·simp only [CR,eX]at b;split at h
  ·rename_i d;rw [d]at b;obtain⟨L,_,_,rfl⟩:=b;simp only [At]at h;subst h;exact⟨_,_,rfl⟩
  ·rename_i s cs fl e j d;rw [d]at b;split at h
   ·rename_i g;have:=b.2.1 g.1 g.2;simp only [At]at h;subst h;cases j with
    | loc=>obtain⟨L,_,k,_,_,rfl⟩:=this;exact⟨_,_,rfl⟩
    | nil=>obtain⟨_,rfl,rfl⟩:=this;exact⟨_,_,rfl⟩
    | es=>obtain⟨_,rfl,a,rfl⟩:=this;exact⟨_,_,rfl⟩
   ·simp at h
  ·simp at h
 ·subst h;cases (b:cM σ X.F X.w .au u);exact⟨_,_,rfl⟩
 ·subst h;cases (b:cM σ X.F X.w .es u);exact⟨_,_,rfl⟩
 ·subst h;cases (b:cM σ X.F X.w (.fs _ _) u)<;>exact⟨_,_,rfl⟩
theorem ky(J:SR Q σ X){sz:Nat}{x:C}{u:Value}(y:CR σ X x u){l:Nat}(m:bu X.H x=aa l){cs:List C}(h:cK X.H sz x=aa cs) :
  ∃ us,(Builtin.firstCells sz l u).run Q X.w=.ok us.toArray X.w∧A2 (CR σ X) cs us∧cs.length=l*sz:=by
 have row:∀(c o:Nat) (us:List Value) (cap:Nat),us.length=l*sz→(∀(i:Nat) u,us[i]?=aa u→X.w.cell? ⟨c,o+i,ab⟩=aa u) →
   (Builtin.firstCells sz l (.slice (aa ⟨c,o,ab⟩) l cap)).run Q X.w=.ok us.toArray X.w:=by
  intro c o us cap g F;have:=run_loadCells_list (P:=Q) X.w ⟨c,o,ab⟩ us (fun j v M=>by rw [dX];exact F j v M);rw [g]at this;simpa [Builtin.firstCells]using this
 unfold cK at h;split at h<;>try simp only [reduceCtorEq]at h
 ·rename_i b o l' cap ep s;simp only [CR,eX]at y;simp only [bu]at m;split at h
  ·rename_i cs' fl E;rw [E]at y m;simp only [At]at m;subst m;obtain⟨L,I,_,rfl⟩:=y;split at h
   ·rename_i q;simp only [At]at h;subst h;obtain⟨_,_,bj,d,z⟩:=J.br b L I;rw [E]at d;simp only [At]at d;subst d;obtain⟨us,H,B,_⟩:=z;have:=B.len;refine⟨(us.drop o).take (l'*sz),row _ _ _ _ (by simp;omega) (fun i u g=>?_),(B.drop o).take _,by simp;omega⟩;rw [dh H];rw [aqQ]at g;split at g
    ·rw [aqB]at g;exact g
    ·simp at g
   ·simp at h
  ·rename_i s' cs' fl e O E;rw [E]at y m;split at h
   ·rename_i F;obtain⟨rfl,rfl,q⟩:=F;simp only [and_self,if_true,At]at m;subst m;simp only [At]at h;subst h;have A:=y.2.1 rfl rfl;cases O with
    | loc=>
     obtain⟨L,I,k,_,_,rfl⟩:=A;obtain⟨_,_,bj,d,z⟩:=J.br b L I;rw [E]at d;simp only [At]at d;subst d;obtain⟨_,us,rest,H,B,_⟩:=z;have:=B.len;refine⟨(us.drop o).take (l'*sz),row _ _ _ _ (by simp;omega) (fun i u g=>?_),(B.drop o).take _,by simp;omega⟩;rw [dh H];rw [aqQ]at g;split at g
     ·rw [aqB]at g;rw [AT (BY.1 g).1];exact g
     ·simp at g
    | nil=>
     obtain⟨rfl,rfl,rfl⟩:=A;exact⟨[],by simp [Builtin.firstCells],by simpa using A2.nil,by simp⟩
    | es=>
     obtain⟨rfl,rfl,a,rfl⟩:=A;exact⟨[],by simp [Builtin.firstCells,loadCells,loadCellsFrom],by simpa using A2.nil,by simp⟩
   ·simp at h
  ·simp at h
 ·simp only [At]at h;subst h;simp only [bu,At]at m;subst m;cases (y:cM σ X.F X.w .au u);exact⟨[],by simp [Builtin.firstCells],A2.nil,by simp⟩
 ·simp only [At]at h;subst h;simp only [bu,At]at m;subst m;cases (y:cM σ X.F X.w .es u);exact⟨[],by simp [Builtin.firstCells,loadCells,loadCellsFrom],A2.nil,by simp⟩
 ·rename_i cs' l';simp only [bu,At]at m;subst m;split at h
  ·rename_i q;simp only [At]at h;subst h;cases (y:cM σ X.F X.w (.fs cs' l') u)with
   | fs _ _ c o cap us K N S F H=>
    exact⟨us,row _ _ _ _ (by omega) F,A2.map ⟨by omega,H⟩,by simp;omega⟩
   | fs0 a cap=>exact⟨[],by simp [Builtin.firstCells,loadCells,loadCellsFrom],A2.nil,by simp⟩
  ·simp at h
theorem afp{v:V}{u:Value}(h:VR σ X v u){c:C}(l:lk v=aa c):eX σ X c u:=by
 unfold lk at l;split at l
 ·simp at l
 ·simp at l
 ·rename_i x q m;simp only [At]at l;subst l;cases x with
  | cl f j=>exact absurd rfl (q f j)| bm f j=>exact absurd rfl (m f j)| mi b=>exact h| f y=>exact h| ptr a b c=>exact h| sl a b c d e g=>exact h| yl b=>exact h| mp b=>exact h| it b=>exact h
 ·simp at l
theorem zp{xs:List V}{us:List Value}(h:A2 (VR σ X) xs us){cs:List C}(b:bg lk xs=aa cs):A2 (eX σ X) cs us:=by
 induction xs generalizing us cs with
 | nil=>
  simp only [bg,At]at b;subst b
  match us,h.len with
  | [],_=>exact A2.nil
 | cons x xs m=>
  match us,h with
  | u::us,h=>
   obtain⟨g,j⟩:=h.of_cons;simp only [bg]at b;split at b
   ·simp at b
   ·rename_i y l;split at b
    ·simp at b
    ·rename_i ys d;simp only [At]at b;subst b;exact A2.cons (afp g l) (m j d)
  | [],h=>have:=h.len;simp at this
theorem dk{d:Operand→Value}{o:Oper}{c:Call}{b:Builtin}(j:o.op=.call c)(g:c.callee=.builtin b){r:Result Next}{w:World}
  (h:∀ cs,(builtin b c.argTypes o.type cs (c.args.map d)).run Q w=r):(execOp d o).run Q w=r:=by
 simp only [execOp,j,resolve,g,Sem.run_bind,Sem.run_pure,Result.andThen_ok,invoke];exact h _
theorem uN{α:Type}{a:Array α}{x:α}(h:a.toList=[x]):a=#[x]:=by
 apply Array.ext';simp [h]
theorem afj{α:Type}{a:Array α}{x y:α}(h:a.toList=[x,y]):a=#[x,y]:=by
 apply Array.ext';simp [h]
theorem Ns{c:Call}{x:Arg}(h:dM Q σ c (.len x)=ae):∃ y t e,c.callee=.builtin .len∧c.args=#[y]∧c.argTypes=#[t]∧mA σ x y=ae∧Q.underlying t=aa (.slice e):=by
 simp only [dM]at h;split at h
 ·rename_i y t b d g;simp only [If]at h;have:=h.2;split at this
  ·exact⟨y,t,_,b,uN d,uN g,h.1,by assumption⟩
  ·simp at this
 ·simp at h
theorem Ch{c:Call}{x:Arg}(h:dM Q σ c (.lens x)=ae):∃ y t,c.callee=.builtin .len∧c.args=#[y]∧c.argTypes=#[t]∧mA σ x y=ae∧Q.underlying t=aa .string:=by
 simp only [dM]at h;split at h
 ·rename_i y t b d g;simp only [If]at h;have:=h.2;split at this
  ·exact⟨y,t,b,uN d,uN g,h.1,by assumption⟩
  ·simp at this
 ·simp at h
theorem Cg{c:Call}{n:Nat}(h:dM Q σ c (.mM n)=ae):∃ y t e,c.callee=.builtin .len∧c.args=#[y]∧c.argTypes=#[t]∧Q.underlying t=aa (.array n e):=by
 simp only [dM]at h;split at h
 ·rename_i y t b d g;split at h
  ·rename_i m e j;simp only [decide_eq_true_eq]at h;subst h;exact⟨y,t,e,b,uN d,uN g,j⟩
  ·simp at h
 ·simp at h
theorem Ci{c:Call}{lo:Bool}{xs:List Arg}(h:dM Q σ c (.gb lo xs)=ae):c.callee=.builtin (if lo then .min else .max)∧mAs σ xs c.args=ae:=by
 simp only [dM]at h;split at h
 ·rename_i b;exact⟨b,h⟩
 ·rename_i b;exact⟨b,h⟩
 ·simp at h
theorem Zt{lo:Bool}{x y z:V}{u v:Value}(b:VR σ X x u)(d:VR σ X y v)(h:wB lo x y=aa z)(w:World):∃ r,(if lo then Builtin.min2 u v else Builtin.max2 u v).run Q w=.ok r w∧VR σ X z r:=by
 unfold wB at h;split at h
 ·simp only [At]at h;subst h;have b:=VR.int b;have d:=VR.int d;subst b;subst d;cases lo
  ·exact⟨_,by simp [Builtin.max2],VR.mkInt _ _⟩
  ·exact⟨_,by simp [Builtin.min2],VR.mkInt _ _⟩
 ·simp at h
theorem Ag{lo:Bool}(w:World):∀ {ys:List V} {d:List Value} {x z:V} {u:Value},VR σ X x u→A2 (VR σ X) ys d→ri lo x ys=aa z→∃ r,(d.foldlM (fun u v=>if lo then Builtin.min2 u v else Builtin.max2 u v) u).run Q w=.ok r w∧VR σ X z r
 | [],d,x,z,u,g,b,h=>by
  have:d=[]:=aqu b.len.symm;subst this;simp only [ri,At]at h;subst h;exact⟨u,rfl,g⟩
 | y::ys,[],x,z,u,g,b,h=>by have:=b.len;simp at this
 | y::ys,v::d,x,z,u,g,b,h=>by
  obtain⟨A,b⟩:=b.of_cons;simp only [ri]at h;split at h
  ·rename_i q B;obtain⟨E,j,l⟩:=Zt (Q:=Q) g A B w;obtain⟨r,m,s⟩:=Ag w l b h;exact⟨r,by rw [List.foldlM_cons,Sem.run_bind,j];exact m,s⟩
  ·simp at h
theorem Nr{c:Call}{x:Arg}(h:dM Q σ c (.cap x)=ae):∃ y t e,c.callee=.builtin .cap∧c.args=#[y]∧c.argTypes=#[t]∧mA σ x y=ae∧Q.underlying t=aa (.slice e):=by
 simp only [dM]at h;split at h
 ·rename_i y t g j l;simp only [If]at h;obtain⟨m,d⟩:=h;split at d
  ·rename_i e b;exact⟨y,t,e,g,uN j,uN l,m,b⟩
  ·simp at d
 ·simp at h
theorem aah{x:C}{u:Value}(d:CR σ X x u){n:Nat}(h:iv X.H x=aa n):∃ a l,u=.slice a l n:=by
 cases x with
 | sl b o l c ep sz=>
  simp only [iv]at h;simp only [CR,eX]at d;split at h
  ·rename_i g;rw [g]at d;obtain⟨L,_,_,rfl⟩:=d;simp only [At]at h;subst h;exact⟨_,_,rfl⟩
  ·rename_i g;rw [g]at d;split at h
   ·rename_i j;have:=d.2.1 j.1 j.2;simp only [At]at h;subst h;obtain⟨_,_,rfl⟩:=this;exact⟨_,_,rfl⟩
   ·simp at h
  ·rename_i g;rw [g]at d;split at h
   ·rename_i j;have:=d.2.1 j.1 j.2;simp only [At]at h;subst h;obtain⟨_,_,a,rfl⟩:=this;exact⟨_,_,rfl⟩
   ·simp at h
  ·simp at h
 | f y=>
  cases y<;>simp only [iv,At,reduceCtorEq]at h
  ·subst h;cases (d:cM σ X.F X.w .au u);exact⟨_,_,rfl⟩
  ·subst h;cases (d:cM σ X.F X.w .es u);exact⟨_,_,rfl⟩
 | _=>simp [iv]at h
theorem D3(v:SR Q σ X){m:Nat}{L:Loc}(u:X.cr m=aa L){e:FC × C}(x:X.H[m]?=aa (.map [e])):∃ d:MapEntry,X.w.heap[L.c]?=aa (.map #[d] 1)∧cM σ X.F X.w e.1 d.key∧gq σ X (mV e.2) d.val∧d.born=0:=by
 obtain⟨_,_,bj,g,l⟩:=v.br m L u;rw [x]at g;cases g;obtain⟨j,q,b,s⟩:=l
 match j,b with
 | [d],b=>exact⟨d,q,b.of_cons.1.1,b.of_cons.1.2,s 0 d rfl⟩| [],b=>have:=b.len;simp at this| _::_::_,b=>have:=b.len;simp at this
theorem MW(q:SR Q σ X){x:V}{u:Value}(K:VR σ X x u){v:V}(h:kd X.H x=aa v):∃ r,(Instr.entry u).run Q X.w=.ok r X.w∧VR σ X v r:=by
 unfold kd at h;split at h
 ·rename_i b;obtain⟨L,H,_,rfl⟩:=K;split at h
  ·rename_i m s I;split at h
   ·rename_i e J;simp only [At]at h;subst h;obtain⟨_,_,bj,d,j⟩:=q.br b L H;rw [I]at d;cases d;obtain⟨M,N,O,E,_,F,l⟩:=j;simp only [if_true]at l;obtain⟨rfl,rfl⟩:=l;obtain⟨g,y,z,A,B⟩:=D3 q E J;refine⟨.tuple #[g.key,g.val],?_,[g.key,g.val],rfl,A2.cons z (A2.cons A A2.nil)⟩;simp [Instr.entry,getObj,Sem.run,F,y,B,Result.andThen]
   ·simp at h
  ·simp at h
 ·simp at h
theorem zt:∀ {cs:List C} {us:List Value} {d:List UInt8},A2 (CR σ X) cs us→bg (fun c=>match c with | C.f (.int .u8 n)=>aa (UInt8.ofNat n.toNat) | _=>ab) cs=aa d →
  ∃ j:List Int,us=j.map (Value.int .u8)∧d=j.map fun n=>UInt8.ofNat n.toNat
 | [],us,d,h,b=>by
  simp only [bg,At]at b;subst b
  match us,h.len with
  | [],_=>exact⟨[],rfl,rfl⟩
 | c::cs,[],d,h,b=>by have:=h.len;simp at this
 | c::cs,u::us,d,h,b=>by
  obtain⟨m,q⟩:=h.of_cons;simp only [bg]at b;split at b
  ·simp at b
  ·rename_i y g;split at b
   ·simp at b
   ·rename_i ys l;simp only [At]at b;subst b;obtain⟨j,rfl,rfl⟩:=zt q l;split at g
    ·rename_i n;simp only [At]at g;subst g;cases (m:cM σ X.F X.w (.int .u8 n) u);exact⟨n::j,rfl,rfl⟩
    ·simp at g
theorem foldl_push:∀(b:List Int) (s:ByteArray),b.foldl (fun(r:ByteArray) n=>r.push (UInt8.ofNat n.toNat)) s=⟨s.data++(b.map fun n=>UInt8.ofNat n.toNat).toArray⟩
 | [],s=>by simp
 | n::b,s=>by
  rw [arJ,foldl_push b]
  congr 1
  simp [ByteArray.push]
theorem YE(y:SR Q σ X){x:V}{u:Value}(q:VR σ X x u){v:V}(h:mU X.H x=aa v):∃ r,(Conv.bytesToString u).run Q X.w=.ok r X.w∧VR σ X v r:=by
 unfold mU at h;split at h
 ·rename_i x;split at h
  ·rename_i l m;split at h
   ·rename_i cs j;simp only [IT]at h;obtain⟨A,z,rfl⟩:=h;obtain⟨us,g,s,B⟩:=ky y q m j;obtain⟨d,c,rfl⟩:=gX q m;obtain⟨b,rfl,rfl⟩:=zt s z;refine⟨.string (b.foldl (fun(r:ByteArray) n=>r.push (UInt8.ofNat n.toNat)) ByteArray.empty),?_,?_⟩
    ·cases d with
     | none=>
      simp only [Builtin.firstCells,Sem.run_pure,Result.ok.injEq,and_true]at g;have:b=[]:=by
       have:=congrArg Array.toList g;simpa using this.symm
      subst this;simp only [Conv.bytesToString,List.foldl_nil,List.map_nil,Sem.run_pure]
     | some d=>exact run_bytesToString X.w d l c b (by simpa [Builtin.firstCells]using g)
    ·rw [foldl_push];rw [show(ByteArray.empty.data++(List.map (fun n:Int=>UInt8.ofNat n.toNat) b).toArray)=(List.map (fun n:Int=>UInt8.ofNat n.toNat) b).toArray from Array.empty_append];exact VR.mkStr _
   ·simp at h
  ·simp at h
 ·simp at h
theorem ahW(hS:SR Q σ X){a:Act}{aw:T}(H:RR σ X aw a.tmps){o:Oper}{op:cQ}(A:dG Q σ o op=ae)(hc:cls op=.p∨cls op=.r)(e_:op.fsl=ag){v:V}{H':aj}
  (h:bl aw X.H op=aa (v,H')):H'=X.H∧∃ u,(execOp a.eval o).run Q X.w=.ok (.value u) X.w∧VR σ X v u:=by
 cases op<;>first | (simp only [cls,reduceCtorEq,or_self]at hc;done) | (simp [cQ.fsl]at e_;done) | clear e_
 case aZ x=>
  simp only [bl,At,OF]at h;obtain⟨rfl,rfl⟩:=h;refine⟨rfl,?_⟩;simp only [dG]at A;split at A
  ·rename_i y E;exact⟨_,by simp [execOp,E],bO H A⟩
  ·rename_i y E;exact⟨_,by simp [execOp,E],bO H A⟩
  ·simp at A
 case pick c x y=>
  simp only [dG]at A;split at A
  ·rename_i c' x' y' E;simp only [If]at A;simp only [bl]at h;have b9:=bO H A.1.1;split at h
   ·rename_i b Z;rw [Z]at b9;have b9:=VR.bool b9;simp only [At,OF]at h;obtain⟨rfl,rfl⟩:=h;cases b
    ·exact⟨rfl,_,by simp [execOp,E,b9,asBool],bO H A.2⟩
    ·exact⟨rfl,_,by simp [execOp,E,b9,asBool],bO H A.1.2⟩
   ·simp at h
  ·simp at A
 case build zs qs=>
  simp only [dG]at A;split at A
  ·rename_i t ps E;simp only [If]at A;simp only [bl,IT,OF]at h;obtain⟨cs,a8,rfl,rfl⟩:=h;obtain⟨z,us,i8,i9,i_,_⟩:=eC (σ:=σ) (X:=X) A.1 X.w;refine⟨rfl,?_⟩;have Z:=A.2;unfold Zq at Z;split at Z
   ·rename_i fs K;split at Z
    ·rename_i pl j9;obtain⟨c_,N,h6⟩:=mr (place:=(pl.toArray[·]?)) H ((ek Z).jX fun q p W=>by
      simp only [If,decide_eq_true_eq]at W;exact⟨by simpa using W.1,W.2⟩) i_ a8
     refine⟨.agg c_.toArray,?_,c_,rfl,h6⟩;have hp:=run_places (P:=Q) X.w fs.toList pl j9;simp only [execOp,E];refine dY ?_;simp [Instr.build,i8,aY K,Array.mapM_eq_mapM_toList,hp,i9];simp at N;simp [N]
    ·simp at Z
   ·rename_i n e K;split at Z
    ·rename_i j4 hi;obtain⟨c_,N,h6⟩:=mr (place:=fun i=>aa (i*j4.size,j4.size)) H ((ek Z).jX fun q p W=>by
      simp only [If,beq_iff_eq]at W;exact⟨by rw [W.1.2,W.1.1],W.2⟩) i_ a8
     refine⟨.agg c_.toArray,?_,c_,rfl,h6⟩;simp only [execOp,E];refine dY ?_;simp [Instr.build,i8,aY K,Go.sizeOf,typeInfo,hi,i9,N]
    ·simp at Z
   ·simp at Z
  ·simp at A
 case load k x=>
  simp only [dG]at A;split at A
  ·rename_i t y E;simp only [If]at A;simp only [bl,IT,OF]at h;obtain⟨v',F,rfl,rfl⟩:=h;obtain⟨u,J,M⟩:=aks hS A.1 (bO H A.2) F;exact⟨rfl,u,by simp only [execOp,E];exact dY J,M⟩
  ·simp at A
 case bV x=>
  simp only [dG]at A;split at A
  ·rename_i y E;have B:=bO H A;simp only [bl]at h;have f7:∀ ad,a.eval y=.pointer (aa ad)→(execOp a.eval o).run Q X.w=.ok (.value (a.eval y)) X.w:=by
    intro ad a_;simp [execOp,E,a_]
   split at h
   ·rename_i b off e Z;simp only [At,OF]at h;obtain⟨rfl,rfl⟩:=h;rw [Z]at B;have d_:=B;obtain⟨L,hL,B⟩:=B;split at B
    ·exact⟨rfl,_,f7 _ B,d_⟩
    ·obtain⟨_,_,ad,a_⟩:=B;exact⟨rfl,_,f7 _ a_,d_⟩
    ·exact B.elim
   ·rename_i cs off Z;simp only [At,OF]at h;obtain⟨rfl,rfl⟩:=h;rw [Z]at B;have d_:=B;have:∃ ad,a.eval y=.pointer (aa ad):=by
     generalize a.eval y=u at B;cases (B:cM σ X.F X.w (.fp cs off) u);exact⟨_,rfl⟩
    obtain⟨ad,a_⟩:=this;exact⟨rfl,_,f7 _ a_,d_⟩
   ·simp at h
  ·simp at A
 case bin op x y=>
  simp only [dG]at A;split at A
  ·rename_i j6 t x' y' yt E;simp only [If,decide_eq_true_eq]at A;obtain⟨⟨rfl,B⟩,S⟩:=A;simp only [bl,IT,OF]at h;obtain⟨v',F,rfl,rfl⟩:=h;have B:=bO H B;have S:=bO H S;refine⟨rfl,?_⟩;have guard:∀ op,(∀ xs,a.eval x'≠.agg xs)→a.eval x'≠.nilIface→(eqGuard op t x' y' (a.eval x') (a.eval y')).run Q X.w=.ok () X.w:=by
    intro op J M;cases op<;>simp [eqGuard]<;>(generalize a.eval x'=ux at *;cases ux<;>simp at J M ⊢)
   unfold de at F;split at F
   ·rename_i k n k' m J M;rw [J]at B;rw [M]at S;have B:=VR.int B;have S:=VR.int S;split at F
    ·simp at F
    ·rename_i A;simp only [At]at F;subst F;exact⟨_,by simp only [execOp,E];refine dY ?_;rw [Sem.run_bind,guard _ (by simp [B]) (by simp [B])];simp [B,S,binOp,Op.shift,A],VR.mkInt _ _⟩
   ·rename_i k n k' m J M;rw [J]at B;rw [M]at S;have B:=VR.int B;have S:=VR.int S;split at F
    ·simp at F
    ·rename_i A;simp only [At]at F;subst F;exact⟨_,by simp only [execOp,E];refine dY ?_;rw [Sem.run_bind,guard _ (by simp [B]) (by simp [B])];simp [B,S,binOp,Op.shift,A],VR.mkInt _ _⟩
   ·rename_i k n k' m _ _ J M;rw [J]at B;rw [M]at S;have B:=VR.int B;have S:=VR.int S;split at F
    ·rename_i hk;subst hk;obtain⟨u,Y,O,N⟩:=afl (Q:=Q) (σ:=σ) (X:=X) F X.w;exact⟨u,by simp only [execOp,E];refine dY ?_;rw [Sem.run_bind,guard _ (by simp [B]) (by simp [B])];simp [B,S,N,Y],O⟩
    ·simp at F
   ·rename_i s1 s2 J M;rw [J]at B;rw [M]at S;have B:=VR.str B;have S:=VR.str S;obtain⟨u,Y,O⟩:=afn (Q:=Q) (σ:=σ) (X:=X) F X.w t;exact⟨u,by simp only [execOp,E];refine dY ?_;rw [Sem.run_bind,guard _ (by simp [B]) (by simp [B])];simp [B,S,Y],O⟩
   ·simp at F
  ·simp at A
 case eq neg k x y=>
  simp only [dG]at A;split at A
  ·rename_i j6 t x' y' yt E;simp only [If,decide_eq_true_eq]at A;obtain⟨⟨⟨rfl,B⟩,S⟩,hk⟩:=A;simp only [bl,IT,OF]at h;obtain⟨b,F,rfl,rfl⟩:=h;refine⟨rfl,_,?_,VR.tv _⟩;simp only [execOp,E];exact dY (aj4 hk (bO H B) (bO H S) F neg X.w)
  ·simp at A
 case un op x=>
  simp only [dG]at A;split at A
  ·rename_i j6 t y E;simp only [If,decide_eq_true_eq]at A;obtain⟨rfl,B⟩:=A;simp only [bl,IT,OF]at h;obtain⟨v',F,rfl,rfl⟩:=h;have B:=bO H B;refine⟨rfl,?_⟩;unfold unV at F;split at F
   ·rename_i k n J;rw [J]at B;have B:=VR.int B;simp only [At]at F;subst F;exact⟨_,by simp [execOp,E,B,Op.unary,Op.intArith],VR.mkInt _ _⟩
   ·rename_i b J;rw [J]at B;have B:=VR.bool B;simp only [At]at F;subst F;exact⟨_,by simp [execOp,E,B,Op.unary],VR.tv _⟩
   ·simp at F
  ·simp at A
 case eS k x=>
  simp only [dG]at A;split at A
  ·rename_i s d y E;simp only [If]at A;obtain⟨⟨B,hs⟩,hd⟩:=A;have B:=bO H B;simp only [bl]at h;split at h
   ·rename_i q n J;rw [J]at B;have B:=VR.int B;simp only [At,OF]at h;obtain⟨rfl,rfl⟩:=h;split at hd
    ·rename_i k' K;simp only [decide_eq_true_eq]at hd;subst hd;obtain⟨ds,j7⟩:=Option.isSome_iff_exists.1 hs;exact⟨rfl,_,by simp only [execOp,E];refine dY ?_;simp [convert,aY j7,aY K,B,Conv.intToInt],VR.mkInt _ _⟩
    ·simp at hd
   ·simp at h
  ·simp at A
 case uR x=>
  simp only [dG]at A;split at A
  ·rename_i s d y E;simp only [If]at A;obtain⟨B,hd⟩:=A;have B:=bO H B;simp only [bl]at h;split at h
   ·rename_i q J;rw [J]at B;have B:=VR.str B;simp only [At,OF]at h;obtain⟨rfl,rfl⟩:=h;split at hd
    ·rename_i g_ h_;exact⟨rfl,_,by simp only [execOp,E];refine dY ?_;simp [convert,aY g_,aY h_,B],VR.mkStr _⟩
    ·simp at hd
   ·simp at h
  ·simp at A
 case fB f xs=>
  simp only [dG]at A;split at A
  ·rename_i g fst a7 E;simp only [If,beq_iff_eq]at A;obtain⟨⟨I,rfl⟩,B⟩:=A;simp only [bl,IT,OF]at h;obtain⟨cs,a8,rfl,rfl⟩:=h;have:=zp (lG H B) a8;have i6:fst=#[]:=by simpa using I
   exact⟨rfl,.func (.func (σ f)) #[] (a7.map a.eval),by simp only [execOp,E,Instr.makeFunc,i6];exact dY (by simp),(a7.map a.eval).toList,congrArg _ Array.toArray_toList.symm,this⟩
  ·simp at A
 case slice sz x lo hi mx=>
  simp only [dG]at A;split at A
  ·rename_i t y j5 i7 mx' E;simp only [If,decide_eq_true_eq]at A;obtain⟨⟨⟨⟨⟨B,J⟩,M⟩,Y⟩,he⟩,hz⟩:=A;obtain⟨e,K,U⟩:=gL he;simp only [bl,IT,OF]at h;obtain⟨v',F,rfl,rfl⟩:=h;obtain⟨r,O,N⟩:=wP hS K U (bO H B) (qV H J) (qV H M) (qV H Y) F;exact⟨rfl,r,by simp only [execOp,E];exact dY O,N⟩
  ·simp at A
 case lY n sz x lo hi mx=>
  simp only [dG]at A;split at A
  ·rename_i t y j5 i7 mx' E;simp only [If,decide_eq_true_eq]at A;obtain⟨⟨⟨⟨⟨B,J⟩,M⟩,Y⟩,he⟩,hz⟩:=A;split at he
   ·rename_i n' e K;simp only [If,beq_iff_eq]at he;obtain⟨rfl,U⟩:=he;simp only [bl,IT,OF]at h;obtain⟨v',F,rfl,rfl⟩:=h;obtain⟨r,O,N⟩:=NZ hS K U (bO H B) (qV H J) (qV H M) (qV H Y) F;exact⟨rfl,r,by simp only [execOp,E];exact dY O,N⟩
   ·simp at he
  ·simp at A
 case mZ x lo hi=>
  simp only [dG]at A;split at A
  ·rename_i t y j5 i7 E;simp only [If]at A;obtain⟨⟨⟨B,J⟩,M⟩,he⟩:=A;split at he
   ·rename_i K;simp only [bl,IT,OF]at h;obtain⟨v',F,rfl,rfl⟩:=h;obtain⟨r,O,N⟩:=N1 K (bO H B) (qV H J) (qV H M) F X.w;exact⟨rfl,r,by simp only [execOp,E,Option.map_none];exact dY O,N⟩
   ·simp at he
  ·simp at A
 case aQ off x=>
  simp only [dG]at A;split at A
  ·rename_i t y i E;simp only [If]at A;obtain⟨B,I⟩:=A;split at I
   ·rename_i fs K;split at I
    ·rename_i f f8;simp only [If,beq_iff_eq]at I;obtain⟨rfl,hz⟩:=I;simp only [bl,IT,OF]at h;obtain⟨v',F,rfl,rfl⟩:=h;obtain⟨r,O,N⟩:=BX K f8 hz (bO H B) F X.w;exact⟨rfl,r,by simp only [execOp,E];exact dY O,N⟩
    ·simp at I
   ·simp at I
  ·simp at A
 case field off n x=>
  simp only [dG]at A;split at A
  ·rename_i t y i E;simp only [If]at A;obtain⟨B,I⟩:=A;split at I
   ·rename_i fs K;split at I
    ·rename_i f f8;simp only [If,beq_iff_eq]at I;obtain⟨rfl,hz⟩:=I;simp only [bl,IT,OF]at h;obtain⟨v',F,rfl,rfl⟩:=h;obtain⟨r,O,N⟩:=MZ K f8 hz (bO H B) F X.w;exact⟨rfl,r,by simp only [execOp,E];exact dY O,N⟩
    ·simp at I
   ·simp at I
  ·simp at A
 case bC sz i4 x i=>
  simp only [dG]at A;split at A
  ·rename_i t y j E;simp only [If]at A;obtain⟨⟨B,hi⟩,I⟩:=A;simp only [bl,IT,OF]at h;obtain⟨v',F,rfl,rfl⟩:=h;have:∃ e,dq Q e sz=ae∧((i4=ab∧Q.underlying t=aa (.slice e))∨∃ n,i4=aa n∧Q.underlying t=aa (.array n e)):=by
    split at I
    ·rename_i e K;exact⟨e,I,.inl ⟨rfl,K⟩⟩
    ·rename_i n e n' K;simp only [If,beq_iff_eq]at I;obtain⟨rfl,U⟩:=I;exact⟨e,U,.inr ⟨_,rfl,K⟩⟩
    ·simp at I
   obtain⟨e,U,K⟩:=this;obtain⟨r,O,N⟩:=B9 U K (bO H B) (bO H hi) F;exact⟨rfl,r,by simp only [execOp,E];exact dY O,N⟩
  ·simp at A
 case idxs x i=>
  simp only [dG]at A;split at A
  ·rename_i t y j E;simp only [If]at A;obtain⟨⟨B,hi⟩,I⟩:=A;simp only [bl,IT,OF]at h;obtain⟨v',F,rfl,rfl⟩:=h;split at I
   ·rename_i K;obtain⟨r,O,N⟩:=Y8 K (bO H B) (bO H hi) F X.w;exact⟨rfl,r,by simp only [execOp,E];exact dY O,N⟩
   ·simp at I
  ·simp at A
 case uT n sz k x i=>
  simp only [dG]at A;split at A
  ·rename_i t y j E;simp only [If]at A;obtain⟨⟨B,hi⟩,I⟩:=A;simp only [bl,IT,OF]at h;obtain⟨v',F,rfl,rfl⟩:=h;split at I
   ·rename_i n' e K;simp only [If,beq_iff_eq]at I;obtain⟨⟨rfl,U⟩,hk⟩:=I;obtain⟨r,O,N⟩:=Y7 K U hk (bO H B) (bO H hi) F X.w;exact⟨rfl,r,by simp only [execOp,E];exact dY O,N⟩
   ·simp at I
  ·simp at A
 case lookup ck z m k=>
  simp only [dG]at A;split at A
  ·rename_i t m' k' ok E;simp only [If,beq_iff_eq]at A;obtain⟨⟨⟨J,M⟩,j8⟩,I⟩:=A;simp only [bl,IT,OF]at h;obtain⟨v',F,rfl,rfl⟩:=h;split at I
   ·rename_i kt e K;simp only [If]at I;obtain⟨u,O,N⟩:=Nq hS K I.1.1 j8 I.1.2 I.2 (bO H J) (bO H M) F;exact⟨rfl,u,by simp only [execOp,E];exact dY O,N⟩
   ·simp at I
  ·simp at A
 case extract x i=>
  simp only [dG]at A;split at A
  ·rename_i y j E;simp only [If,beq_iff_eq]at A;obtain⟨B,rfl⟩:=A;have B:=bO H B;simp only [bl]at h;split at h
   ·rename_i vs k_;rw [k_]at B;simp only [IT,OF]at h;obtain⟨v',F,rfl,rfl⟩:=h;obtain⟨us,d9,M⟩:=B;obtain⟨u,K,l_⟩:=M.get F;exact⟨rfl,u,by simp only [execOp,E];refine dY ?_;simp [Instr.extract,d9,K],VR.of1 σ l_⟩
   ·simp at h
  ·simp at A
 case mM n=>
  simp only [dG]at A;split at A
  ·rename_i c E;obtain⟨y,t,e,J,M,Y,K⟩:=Cg A;simp only [bl,At,OF]at h;obtain⟨rfl,rfl⟩:=h;exact⟨rfl,_,dk E J (fun cs=>by simp [builtin,M,Y,Builtin.len_,aY K,goInt]),VR.mkInt _ _⟩
  ·simp at A
 case lens x=>
  simp only [dG]at A;split at A
  ·rename_i c E;obtain⟨y,t,J,M,Y,B,K⟩:=Ch A;have B:=bO H B;simp only [bl]at h;split at h
   ·rename_i s hs;rw [hs]at B;have B:=VR.str B;simp only [At,OF]at h;obtain⟨rfl,rfl⟩:=h;exact⟨rfl,_,dk E J (fun cs=>by simp [builtin,M,Y,Builtin.len_,aY K,B,goInt]),VR.mkInt _ _⟩
   ·simp at h
  ·simp at A
 case len x=>
  simp only [dG]at A;split at A
  ·rename_i c E;obtain⟨y,t,e,J,M,Y,B,K⟩:=Ns A;have B:=bO H B;simp only [bl]at h;split at h
   ·rename_i z hz;rw [hz]at B;split at h
    ·rename_i n hn;simp only [At,OF]at h;obtain⟨rfl,rfl⟩:=h;obtain⟨ad,cp,f_⟩:=gX B hn;exact⟨rfl,_,dk E J (fun cs=>by simp [builtin,M,Y,Builtin.len_,aY K,f_,goInt]),VR.mkInt _ _⟩
    ·simp at h
   ·simp at h
  ·simp at A
 case gb lo xs=>
  simp only [dG]at A;split at A
  ·rename_i c E;obtain⟨J,M⟩:=Ci A;have hA:=lG H M;simp only [bl,IT,OF]at h;obtain⟨v',F,rfl,rfl⟩:=h;refine⟨rfl,?_⟩;unfold uX at F;split at F
   ·simp at F
   ·rename_i x ys m4;rw [m4]at hA
    match d9:(c.args.map a.eval).toList,hA with
    | [],hA=>have:=hA.len;simp at this
    | u::us,hA=>
     obtain⟨B,hA⟩:=hA.of_cons;obtain⟨r,g1,g2⟩:=Ag (Q:=Q) (lo:=lo) X.w B hA F;refine⟨r,dk E J (fun cs=>?_),g2⟩;cases lo
     ·simp only [aqw,if_false]at g1 ⊢;have g1:(us.foldlM Builtin.max2 u).run Q X.w=.ok r X.w:=g1;have b_:List.map a.eval c.args.toList=u::us:=by simpa using d9
      simp [builtin,Builtin.max_,b_,g1]
     ·simp only [if_true]at g1 ⊢;have g1:(us.foldlM Builtin.min2 u).run Q X.w=.ok r X.w:=g1;have b_:List.map a.eval c.args.toList=u::us:=by simpa using d9
      simp [builtin,Builtin.min_,b_,g1]
  ·simp at A
 case cap x=>
  simp only [dG]at A;split at A
  ·rename_i c E;obtain⟨y,t,e,J,M,Y,B,K⟩:=Nr A;have B:=bO H B;simp only [bl]at h;split at h
   ·rename_i z hz;rw [hz]at B;split at h
    ·rename_i n hn;simp only [At,OF]at h;obtain⟨rfl,rfl⟩:=h;obtain⟨ad,l,f_⟩:=aah B hn;exact⟨rfl,_,dk E J (fun cs=>by simp [builtin,M,Y,Builtin.cap_,aY K,f_,goInt]),VR.mkInt _ _⟩
    ·simp at h
   ·simp at h
  ·simp at A
 case entry x=>
  simp only [dG]at A;split at A
  ·rename_i y E;simp only [bl,IT,OF]at h;obtain⟨v',F,rfl,rfl⟩:=h;obtain⟨r,g1,g2⟩:=MW hS (bO H A) F;exact⟨rfl,r,by simp only [execOp,E];exact dY g1,g2⟩
  ·simp at A
 case lJ f xs=>
  simp only [dG]at A;split at A
  ·rename_i g fst a7 E;simp only [If,beq_iff_eq]at A;obtain⟨⟨I,rfl⟩,B⟩:=A;simp only [bl,IT,OF]at h;obtain⟨cs,a8,rfl,rfl⟩:=h;have:=zp (lG H B) a8;have i5:a7=#[]:=by simpa using I
   exact⟨rfl,.func (.func (σ f)) (fst.map a.eval) #[],by simp only [execOp,E,Instr.makeFunc,i5];exact dY (by simp),(fst.map a.eval).toList,by rw [Array.toArray_toList],this⟩
  ·simp at A
 case call f args h'=>cases h'<;>simp [cls]at hc
 case uQ x=>
  simp only [dG]at A;split at A
  ·rename_i s d y E;simp only [If]at A;obtain⟨B,hd⟩:=A;have B:=bO H B;split at hd
   ·rename_i e g_ h_;simp only [If]at hd;have j_:Q.underlying e=aa (.int .u8):=by
     have:=hd.1;unfold ano at this;split at this
     ·assumption
     ·simp at this
    simp only [bl,IT,OF]at h;obtain⟨v',F,rfl,rfl⟩:=h;obtain⟨u,O,N⟩:=YE hS B F;refine⟨rfl,u,?_,N⟩;simp only [execOp,E];refine dY ?_;simp only [convert,Sem.run_bind,aY g_,aY h_,Result.andThen_ok];have:∃ ad l c,a.eval y=.slice ad l c:=by
     unfold mU at F;split at F
     ·rename_i z hz;rw [hz]at B;split at F
      ·rename_i l hl;obtain⟨ad,c,h⟩:=gX B hl;exact⟨_,_,_,h⟩
      ·simp at F
     ·simp at F
    obtain⟨ad,l,c,h6⟩:=this;rw [h6]at O ⊢;simp only [Sem.run_bind,aY j_,Result.andThen_ok,O]
   ·simp at hd
  ·simp at A
end
section
variable{Q:Program}{σ:Nat→FuncId}{X:Wd}
theorem SR.lt(d:SR Q σ X){b:Nat}{L:Loc}(h:X.cr b=aa L):b<X.H.length:=by
 obtain⟨_,_,bj,g,_⟩:=d.br b L h;exact(BY.1 g).1
theorem SR.qM(b:SR Q σ X):X.cr X.H.length=ab:=by
 cases h:X.cr X.H.length with
 | none=>rfl| some L=>have:=SR.lt b h;omega
theorem Ext.one(A:SR Q σ X){X':Wd}(b0:Nat)(y:X'.B=X.B)(v:∀ c i,X'.F c i↔X.F c i)
  (x:∀ k,k<X.w.heap.size→(∀ L,X.cr b0=aa L→k≠L.c)→X'.w.heap[k]?=X.w.heap[k]?)
  (s:∀ L i,X.cr b0=aa L→X.F L.c i→X'.w.cell? ⟨L.c,i,ab⟩=X.w.cell? ⟨L.c,i,ab⟩) (j:b0<X.H.length→kG X X' b0)
  (z:∀ b,b≠b0→b<X.H.length→X'.H[b]?=X.H[b]?) (d:∀ b,b≠b0→X'.cr b=X.cr b)
  (u:∀ L,X'.cr b0=aa L→(∃ q,X.cr b0=aa q∧q.c=L.c)∨X.w.heap.size≤L.c) (I:X.w.heap.size≤X'.w.heap.size) (ho:X'.w.os=X.w.os) (J:X'.w.tape=X.w.tape)
  (hu:X'.w.output=X.w.output):Ext X.H.length X X' where
 B:=y
 F:=fun c i h=>(v c i).2 h
 nO:=fun c i h=>.inl ((v c i).1 h)
 fw:=fun c i h=>by
  by_cases hc:∃ L,X.cr b0=aa L∧c=L.c
  ·obtain⟨L,g,rfl⟩:=hc;exact s L i g h
  ·exact World.cell?_of_block (x c (A.fb c i h) fun L g e=>hc ⟨L,g,e⟩)
 cG:=fun b l=>by
  by_cases h:b=b0
  ·subst h;exact j l
  ·intro bj m;refine⟨bj,(z b h l).trans m,?_⟩;have:∀ L,X.cr b=aa L→X'.cr b=aa L:=fun L g=>(d b h).trans g;cases bj<;>simp_all
 wm:=fun b L l=>by
  by_cases h:b=b0
  ·subst h;rcases u L l with⟨q,h1,h2⟩ | h1
   ·exact .inl ⟨b,q,h1,h2⟩
   ·exact .inr h1
  ·rw [d b h]at l;exact .inl ⟨b,L,l,rfl⟩
 size:=I
 os:=ho
 tape:=J
 output:=hu
 frame:=fun k E H=>x k E fun L g e=>H b0 L g e.symm
theorem SR.grow(d:SR Q σ X)(bj:bo):SR Q σ { X with H:=X.H++[bj] }∧Ext X.H.length X { X with H:=X.H++[bj] }:=by
 have j:Ext X.H.length X { X with H:=X.H++[bj] }:=Ext.one d X.H.length rfl (fun _ _=>Iff.rfl) (fun _ _ _=>rfl) (fun _ _ _ _=>rfl) (fun h=>by omega)
  (fun b _ h=>by simp [AT h]) (fun _ _=>rfl) (fun L h=>by rw [SR.qM d]at h;simp at h) (aft _) rfl rfl rfl
 refine⟨⟨fun b L g=>?_,d.inj,d.fb⟩,j⟩;obtain⟨h1,h2,blk',h3,h4⟩:=d.br b L g;exact⟨h1,h2,blk',by rw [AT (SR.lt d g)];exact h3,BR.ext Q σ j rfl (fun _ h=>h) h4⟩
structure dL(w w':World)(o:Obj):Prop where
 heap:w'.heap=w.heap.push o
 os:w'.os=w.os
 tape:w'.tape=w.tape
 output:w'.output=w.output
theorem dL.alloc(w:World)(o:Obj):dL w (w.alloc o) o:=⟨rfl,rfl,rfl,rfl⟩
theorem dL.Bf{w w':World}{o:Obj}(h:dL w w' o){k:Nat}(b:k<w.heap.size):w'.heap[k]?=w.heap[k]?:=by
 rw [h.heap,Array.getElem?_push,aW (by omega)]
theorem dL.new{w w':World}{o:Obj}(h:dL w w' o):w'.heap[w.heap.size]?=aa o:=by
 rw [h.heap];simp
theorem dL.size{w w':World}{o:Obj}(h:dL w w' o):w'.heap.size=w.heap.size+1:=by
 rw [h.heap];simp
theorem SR.fill(g:SR Q σ X)(y:X.B≤X.w.heap.size){n:Nat}{bj:bo}(z:X.H[n]?=aa bj)(v:X.cr n=ab){w':World}{o:Obj}(d:dL X.w w' o)(cap:Nat)
  (m:Ext X.H.length X { X with cr:=fun b=>if b=n then aa ⟨X.w.heap.size,cap⟩else X.cr b,w:=w' }→BR Q σ { X with cr:=fun b=>if b=n then aa ⟨X.w.heap.size,cap⟩else X.cr b,w:=w' } bj ⟨X.w.heap.size,cap⟩) :
  SR Q σ { X with cr:=fun b=>if b=n then aa ⟨X.w.heap.size,cap⟩else X.cr b,w:=w' }∧Ext X.H.length X { X with cr:=fun b=>if b=n then aa ⟨X.w.heap.size,cap⟩else X.cr b,w:=w' }:=by
 have q:Ext X.H.length X { X with cr:=fun b=>if b=n then aa ⟨X.w.heap.size,cap⟩else X.cr b,w:=w' }:=
  Ext.one g n rfl (fun _ _=>Iff.rfl) (fun k h _=>d.Bf h) (fun L i u _=>by rw [v]at u;simp at u)
   (fun _ s l=>⟨s,l,by
    cases s<;>simp [v]⟩)
   (fun _ _ _=>rfl) (fun b h=>by simp [h]) (fun L h=>by simp at h;subst h;exact .inr (aft _)) (by rw [d.size];omega) d.os d.tape d.output
 refine⟨SR.step Q σ g q n (fun _ _=>rfl) (fun b h=>by simp [h]) (fun b L _ j=>d.Bf (g.br b L j).2.1) (fun _ _ _ _ _ h=>h) (fun L h=>?_) (fun c i h=>by rw [d.size];have:=g.fb c i h;omega),q⟩;simp at h;subst h;refine⟨y,by simp [d.size],⟨bj,z,m q⟩,fun b x _ j=>?_⟩;have:=(g.br b x j).2.1;simp;omega
theorem SR.new(d:SR Q σ X)(j:X.B≤X.w.heap.size)(bj:bo){w':World}{o:Obj}(g:dL X.w w' o)(cap:Nat)
  (b:∀ X',Ext X.H.length X X'→X'.w=w'→X'.F=X.F→X'.H=X.H++[bj]→BR Q σ X' bj ⟨X.w.heap.size,cap⟩) :
  ∃ X',X'.w=w'∧X'.H=X.H++[bj]∧SR Q σ X'∧Ext X.H.length X X'∧X'.cr X.H.length=aa ⟨X.w.heap.size,cap⟩∧X'.B≤X'.w.heap.size:=by
 obtain⟨h1,h2⟩:=SR.grow d bj;have l:(X.H++[bj])[X.H.length]?=aa bj:=by simp
 obtain⟨h3,h4⟩:=SR.fill h1 j l (SR.qM d) g cap (fun m=>b _ (h2.trans (m.mono (by simp))) rfl rfl rfl);exact⟨_,rfl,rfl,h3,h2.trans (h4.mono (by simp)),by simp,by simp [g.size];omega⟩
theorem SR.turn(m:SR Q σ X){b:Nat}{bj blk':bo}{L:Loc}(A:X.H[b]?=aa bj)(l:X.cr b=aa L){w':World}(x:w'.heap.size=X.w.heap.size)
  (y:∀ k,k≠L.c→w'.heap[k]?=X.w.heap[k]?) (z:∀ i,X.F L.c i→w'.cell? ⟨L.c,i,ab⟩=X.w.cell? ⟨L.c,i,ab⟩) (ho:w'.os=X.w.os) (B:w'.tape=X.w.tape) (hu:w'.output=X.w.output)
  (j:kG X { X with H:=X.H.set b blk',w:=w' } b)
  (s:Ext X.H.length X { X with H:=X.H.set b blk',w:=w' }→BR Q σ { X with H:=X.H.set b blk',w:=w' } blk' L) :
  SR Q σ { X with H:=X.H.set b blk',w:=w' }∧Ext X.H.length X { X with H:=X.H.set b blk',w:=w' }:=by
 have u:b<X.H.length:=(BY.1 A).1;have v:Ext X.H.length X { X with H:=X.H.set b blk',w:=w' }:=
  Ext.one m b rfl (fun _ _=>Iff.rfl) (fun k _ h=>y k (h L l)) (fun d i h=>by rw [l]at h;cases h;exact z i) (fun _=>j)
   (fun q h _=>by simp [AI (Ne.symm h)]) (fun _ _=>rfl) (fun d h=>.inl ⟨d,h,rfl⟩) (Nat.le_of_eq x.symm) ho B hu
 refine⟨SR.step Q σ m v b (fun q h=>by simp [AI (Ne.symm h)]) (fun _ _=>rfl) (fun q d h g=>y _ fun e=>h (m.inj q b d L g l e)) (fun _ _ _ _ _ h=>h)
  (fun d h=>?_) (fun c i h=>by rw [x];exact m.fb c i h),v⟩
 change X.cr b=aa d at h;rw [l]at h;cases h;obtain⟨h1,h2,_⟩:=m.br b L l;exact⟨h1,by show L.c<w'.heap.size;omega,⟨blk',by simp [u],s v⟩,fun q d h g e=>h (m.inj q b d L g l e)⟩
theorem dU{w:World}{c:Nat}{us:List Value}(h:rowAt w c us):∀(b:List Value) (off:Nat),off+b.length≤us.length →
  (w.setCells c off b).heap.size=w.heap.size∧(∀ k,k≠c→(w.setCells c off b).heap[k]?=w.heap[k]?)∧(w.setCells c off b).os=w.os∧(w.setCells c off b).tape=w.tape ∧
  (w.setCells c off b).output=w.output∧rowAt (w.setCells c off b) c (over us off b)
 | [],off,_=>⟨rfl,fun _ _=>rfl,rfl,rfl,rfl,by simpa [World.setCells,over]using h⟩
 | v::b,off,j=>by
  simp only [aq7]at j;have d:rowAt (w.setCell ⟨c,off,ab⟩ v) c (us.set off v):=by
   obtain⟨e,m,d,g⟩:=h;refine⟨e,m,?_,by simpa using g⟩;simp [World.setCell,Array.getElem?_modify,d]
  obtain⟨g,q,s,u,x,y⟩:=dU d b (off+1) (by simp;omega);simp only [World.setCells];refine⟨by rw [g];simp,fun k l=>(q k l).trans ?_,s,u,x,?_⟩
  ·simp only [World.setCell,Array.getElem?_modify];rw [aW (by simpa using Ne.symm l)]
  ·have:over (us.set off v) (off+1) b=over us off (v::b):=by
    unfold over;simp only [aq7];rw [List.take_set,List.drop_set_of_lt (by omega),show off+1+b.length=off+(b.length+1) by omega];rw [arW (by omega)];have j:(List.take off us).length=off:=by simp;omega
    have e:(List.take off us++[us[off]]).set off v=List.take off us++[v]:=by
     rw [List.set_append,aW (by omega),j];simp
    rw [e];simp
   rw [←this];exact y
theorem qP{w:World}{c:Nat}{us:List Value}(h:rowAt w c us)(b:List Value)(off:Nat)(l:off+b.length≤us.length)(d:∀ v ∈ b,v.oneCell'=ae) :
  (storeCells ⟨c,off,ab⟩ b).run Q w=.ok () (w.setCells c off b):=by
 have:=run_storeCells_cells (P:=Q) c off b 0 w (fun j g=>by rw [dh h];simp;omega) (fun j g=>B3 h (by omega)) d;simpa using this
theorem Aq{α:Type}(us:List α)(off:Nat)(b:List α)(h:off+b.length≤us.length)(i:Nat)(hi:i<off):(over us off b)[i]?=us[i]?:=by
 unfold over;rw [AT (by simp;omega),AT (by simp;omega),aqQ];simp [hi]
end
section
variable{Q:Program}{σ:Nat→FuncId}{X:Wd}
def gw(Q:Program)(σ:Nat→FuncId)(X:Wd)(v:V)(H':aj)(s:Sem Next):Prop:=
 ∃ u X',(s.run Q X.w=.ok (.value u) X'.w∨(s.run Q X.w=.ok .skip X'.w∧u=undef))∧X'.H=H'∧SR Q σ X'∧VR σ X' v u∧Ext X.H.length X X'∧X'.B≤X'.w.heap.size
theorem gw.anC(b:X.B≤X.w.heap.size)(d:SR Q σ X){v:V}{H':aj}{s:Sem Next}(h:H'=X.H∧∃ u,s.run Q X.w=.ok (.value u) X.w∧VR σ X v u):gw Q σ X v H' s:=by
 obtain⟨rfl,u,h1,h2⟩:=h;exact⟨u,X,.inl h1,rfl,d,h2,Ext.refl _ _,b⟩
theorem iQ{w w':World}{us:List Value}{e:TypeId}(h:dL w w' (.cells us.toArray e)):rowAt w' w.heap.size us:=⟨e,(0,0),h.new,fun i _=>by simp⟩
theorem Ct(b:SR Q σ X)(g:X.B≤X.w.heap.size){cs:List C}{us:List Value}(h:A2 (CR σ X) cs us)(e:TypeId) :
  ∃ X',X'.w=X.w.alloc (.cells us.toArray e)∧X'.H=X.H++[.box cs 0]∧SR Q σ X'∧Ext X.H.length X X'∧X'.cr X.H.length=aa ⟨X.w.heap.size,0⟩∧X'.B≤X'.w.heap.size:=
 SR.new b g (.box cs 0) (dL.alloc _ _) 0 fun X' m l j _=>⟨us,by rw [l];exact iQ (dL.alloc _ _),A2.ext' σ m h,fun i _ d=>by
  rw [j]at d;have:=b.fb _ _ d;simp at this⟩
theorem tD(u:SR Q σ X)(q:X.B≤X.w.heap.size){cs:List C}{us:List Value}(h:A2 (CR σ X) cs us)(e:TypeId){s:Sem Next}
  (v:s.run Q X.w=.ok (.value (.pointer (aa ⟨X.w.heap.size,0,ab⟩))) (X.w.alloc (.cells us.toArray e))):gw Q σ X (.c (.ptr X.H.length 0 0)) (X.H++[.box cs 0]) s:=by
 obtain⟨X',d,b,g,j,l,m⟩:=Ct u q h e;refine⟨_,X',.inl (by rw [d];exact v),b,g,?_,j,m⟩;exact⟨_,l,by rw [b];simp⟩
theorem Yg(m:SR Q σ X)(l:X.B≤X.w.heap.size){a:Act}{o:Oper}{zs:List FC}(b:dG Q σ o (.alloc zs)=ae) :
  gw Q σ X (.c (.ptr X.H.length 0 0)) (X.H++[.box (zs.map .f) 0]) (execOp a.eval o):=by
 simp only [dG]at b;split at b
 ·rename_i t q;obtain⟨z,us,d,g,j,_⟩:=eC (σ:=σ) (X:=X) b X.w;refine tD m l j t ?_;simp only [execOp,q];refine dY ?_;simp [Instr.alloc,d,newVar,newRow,g]
 ·simp at b
theorem ajS(m:SR Q σ X)(j:X.B≤X.w.heap.size){a:Act}{aw:T}(l:RR σ X aw a.tmps){o:Oper}{x:Arg}(b:dG Q σ o (.box x)=ae){xs:List C}(s:(x.ev aw).cells?=aa xs) :
  gw Q σ X (.c (.ptr X.H.length 0 0)) (X.H++[.box xs 0]) (execOp a.eval o):=by
 simp only [dG]at b;split at b
 ·rename_i t y q;obtain⟨us,d,g⟩:=nY (bO l b) s;refine tD m j g t ?_;simp only [execOp,q];refine dY ?_;simp [Instr.box,newVar,newRow,d]
 ·simp at b
theorem je{zs:List FC}{us:List Value}(h:A2 (CR σ X) (zs.map .f) us)(n:Nat):A2 (CR σ X) ((cu n zs).map .f) (cu n us):=by
 induction n with
 | zero=>exact A2.nil
 | succ n b=>
  simp only [cu,List.replicate_succ,List.flatten_cons,List.map_append]at b ⊢;exact h.append b
theorem jS{α:Type}(n:Nat)(xs:List α):(cu n xs).length=n*xs.length:=by simp [cu]
theorem AF{α:Type}(us:List α):∀(n i:Nat),i<n*us.length→(cu n us)[i]?=us[i % us.length]?
 | 0,i,h=>by simp at h
 | n+1,i,h=>by
  have b:cu (n+1) us=us++cu n us:=by simp [cu,List.replicate_succ]
  rw [b];by_cases hi:i<us.length
  ·rw [AT hi,Nat.mod_eq_of_lt hi]
  ·have d:(n+1)*us.length=n*us.length+us.length:=by rw [aqT];omega
   rw [IS (by omega),AF us n (i-us.length) (by omega)];rw [←Nat.mod_eq_sub_mod (by omega)]
theorem gZ(us:List Value)(n:Nat)(q:0<us.length):((Array.range (n*us.length)).map fun i=>us.toArray[i % us.toArray.size]!)=(cu n us).toArray:=by
 apply Array.ext
 ·simp [jS]
 ·intro i g j;have l:i<n*us.length:=by simpa using g
  have b:=AF us n i l;have d:i % us.length<us.length:=Nat.mod_lt _ q;have m:i<(cu n us).length:=by simpa using j
  rw [By m,By d,At]at b;simp [b,d]
theorem Mt(d:SR Q σ X)(hB:X.B≤X.w.heap.size){a:Act}{aw:T}(hR:RR σ X aw a.tmps){o:Oper}{sz n:Nat}{zs:List FC}{ps:List (Nat × Arg)}
  (m:dG Q σ o (.bE sz zs n ps)=ae) {v:V} {H':aj} (h:bl aw X.H (.bE sz zs n ps)=aa (v,H')):gw Q σ X v H' (execOp a.eval o):=by
 simp only [dG]at m;split at m
 ·rename_i t l qs Y;simp only [If,beq_iff_eq,decide_eq_true_eq]at m;obtain⟨⟨⟨⟨rfl,U⟩,B⟩,f⟩,Z⟩:=m;obtain⟨e,r,B⟩:=gL B;simp only [If,decide_eq_true_eq]at B;obtain⟨⟨u,hz⟩,a7⟩:=B;obtain⟨z,us,N,O,x,_⟩:=eC (σ:=σ) (X:=X) hz X.w;have M:us.length=sz:=by have:=x.len;simp at this;omega
  simp only [bl]at h;split at h
  ·
   rename_i W;subst W;split at h
   ·rename_i s;simp only [At,OF]at h;obtain⟨rfl,rfl⟩:=h;have j:qs.toList=[]:=by
     have:=(ek Z).len;simp only [List.isEmpty_iff]at s;rw [s]at this;exact aqu this.symm
    have j:qs=#[]:=by apply Array.ext';simpa using j
    obtain⟨X',E,A,F,H,S,I⟩:∃ X':Wd,X'.w=X.w.alloc (.cells #[] e)∧X'.H=X.H∧SR Q σ X'∧Ext X.H.length X X'∧True∧X'.B≤X'.w.heap.size:=by
     have hx:Ext X.H.length X { X with w:=X.w.alloc (.cells #[] e) }:=Ext.one d X.H.length rfl (fun _ _=>Iff.rfl) (fun k hk _=>(dL.alloc _ _).Bf hk)
      (fun L i h=>by rw [SR.qM d]at h;simp at h) (fun h=>by omega) (fun _ _ _=>rfl) (fun _ _=>rfl) (fun L h=>by rw [SR.qM d]at h;simp at h) (by simp) rfl rfl rfl
     refine⟨{ X with w:=X.w.alloc (.cells #[] e) },rfl,rfl,SR.step Q σ d hx X.H.length (fun _ _=>rfl) (fun _ _=>rfl) (fun b L _ hb=>(dL.alloc _ _).Bf (d.br b L hb).2.1)
      (fun _ _ _ _ _ h=>h) (fun L h=>by rw [SR.qM d]at h;simp at h) (fun c i h=>?_),hx,trivial,?_⟩
     ·have:=d.fb c i h;simp;omega
     ·simp;omega
    refine⟨.slice (aa ⟨X.w.heap.size,0,ab⟩) 0 0,X',.inl ?_,A,F,cM.es _,H,I⟩;rw [E];simp only [execOp,Y];refine dY ?_;simp [Instr.buildSlice,aY r,cY u,j,Instr.fill,newRow,show Array.range 0=(#[]:Array Nat) from rfl]
   ·simp at h
  ·rename_i W;simp only [IT,OF]at h;obtain⟨cs,J,rfl,rfl⟩:=h;obtain⟨a8,S,I⟩:=mr (place:=fun i=>aa (i*sz,sz)) (ps:=qs.toList) hR (qs:=ps.map fun p=>(p.1*sz,sz,p.2)) (A2.map ((ek Z).jX fun q p g=>by
    simp only [If,beq_iff_eq]at g;exact⟨by rw [g.1],g.2⟩)) (je x l) J
   obtain⟨X',E,A,F,H,h7,h8⟩:=Ct d hB I e;refine⟨.slice (aa ⟨X.w.heap.size,0,ab⟩) l l,X',.inl ?_,A,F,?_,H,h8⟩
   ·rw [E];simp only [execOp,Y];refine dY ?_;have K:l*sz≠0:=by
     intro h0;rcases asf.1 h0 with h0 | h0<;>omega
    have y:=gZ us l (by omega);rw [M]at y;simp only [Instr.buildSlice,Sem.run_bind,aY r,cY u,Result.andThen_ok,aW (show¬ l*sz>2 ^ 24 by omega),Sem.run_ite,aW K,N,Sem.run_pure,O];simp only [Array.toList_map];rw [y];simp [S,newRow]
   ·simp only [VR,gq,CR,eX,A];simp;exact⟨_,h7,rfl⟩
 ·simp at m
theorem DG:∀ {cs:List C} {b:List FC},fcL cs=aa b→cs=b.map .f
 | [],b,h=>by simp [fcL]at h;subst h;rfl
 | c::cs,b,h=>by
  cases c with
  | f x=>
   simp only [fcL,IT]at h;obtain⟨g,d,rfl⟩:=h;rw [DG d];rfl
  | _=>simp [fcL]at h
theorem we(y:SR Q σ X)(hB:X.B≤X.w.heap.size){a:Act}{aw:T}(hR:RR σ X aw a.tmps){o:Oper}{sz n:Nat}{zs:List FC}{ps:List (Nat × Arg)}
  (K:dG Q σ o (.fq sz zs n ps)=ae) {v:V} {H H':aj} (h:bl aw H (.fq sz zs n ps)=aa (v,H')) :
  H'=H∧∃ u X',(execOp a.eval o).run Q X.w=.ok (.value u) X'.w∧X'.H=X.H∧SR Q σ X'∧VR σ X' v u∧Ext X.H.length X X'∧X'.B≤X'.w.heap.size∧X'.cr=X.cr:=by
 simp only [dG]at K;split at K
 ·rename_i t j qs ho;simp only [If,beq_iff_eq,decide_eq_true_eq]at K;obtain⟨⟨⟨⟨rfl,a_⟩,U⟩,b9⟩,hq⟩:=K;obtain⟨e,M,U⟩:=gL U;simp only [If,decide_eq_true_eq]at U;obtain⟨⟨Z,hz⟩,b_⟩:=U;obtain⟨z,us,a7,a8,O,_⟩:=eC (σ:=σ) (X:=X) hz X.w;have f:us.length=sz:=by have:=O.len;simp at this;omega
  simp only [bl,IT,aqH,OF]at h;obtain⟨fs,⟨cs,W,l⟩,rfl,rfl⟩:=h;split at l
  ·simp at l
  rename_i hn;have E:=DG l;obtain⟨d,h5,h6⟩:=mr (place:=fun i=>aa (i*sz,sz)) (ps:=qs.toList) hR (qs:=ps.map fun p=>(p.1*sz,sz,p.2)) (A2.map ((ek hq).jX fun q p m=>by
   simp only [If,beq_iff_eq]at m;exact⟨by rw [m.1],m.2⟩)) (je O j) W
  have g:dL X.w (X.w.alloc (.cells d.toArray e)) (.cells d.toArray e):=dL.alloc _ _;obtain⟨w',s⟩:=aK (X.w.alloc (.cells d.toArray e));rw [←s]at g;have I:∀ c i,X.F c i→w'.cell? ⟨c,i,ab⟩=X.w.cell? ⟨c,i,ab⟩:=fun c i h=>World.cell?_of_block (g.Bf (y.fb c i h));have hx:Ext X.H.length X { X with w:=w',F:=fun c i=>X.F c i∨(c=X.w.heap.size∧i<d.length) }:={
   B:=rfl
   F:=fun c i h=>.inl h
   nO:=fun c i h=>h.elim .inl fun h=>.inr (.inl (by rw [h.1];exact aft _))
   fw:=I
   cG:=fun b _ bj A=>⟨bj,A,by cases bj<;>simp⟩
   wm:=fun b L h=>.inl ⟨b,L,h,rfl⟩
   size:=by show _≤w'.heap.size;rw [g.size];omega
   os:=g.os
   tape:=g.tape
   output:=g.output
   frame:=fun k hk _=>g.Bf hk }
  refine⟨rfl,.slice (aa ⟨X.w.heap.size,0,ab⟩) j j,{ X with w:=w',F:=fun c i=>X.F c i∨(c=X.w.heap.size∧i<d.length) },?_,rfl,?_,?_,hx,?_,rfl⟩
  ·simp only [execOp,ho];refine dY ?_;have Y:j*sz≠0:=by
    intro h0;rcases asf.1 h0 with h0 | h0<;>omega
   have S:=gZ us j (by omega);rw [f]at S;simp only [Instr.buildSlice,Sem.run_bind,aY M,cY Z,Result.andThen_ok,aW (show¬ j*sz>2 ^ 24 by omega),Sem.run_ite,aW Y,a7,Sem.run_pure,a8];simp only [Array.toList_map];rw [S];simp [h5,newRow,s]
  ·exact SR.step Q σ y hx X.H.length (fun _ _=>rfl) (fun _ _=>rfl) (fun b L _ A=>g.Bf (y.br b L A).2.1)
    (fun b L _ A i h=>h.elim id fun h=>by have:=(y.br b L A).2.1;omega) (fun L h=>by change X.cr X.H.length=aa L at h;rw [SR.qM y]at h;simp at h)
    (fun c i h=>by
     show c<w'.heap.size;rw [g.size];rcases h with h | h
     ·have:=y.fb c i h;omega
     ·omega)
  ·have J:d.length=fs.length:=by have:=h6.len;rw [E]at this;simp at this;omega
   refine cM.fs fs j X.w.heap.size 0 j d (aft _) J (fun i hi=>.inr ⟨rfl,by omega⟩) (fun i u M=>?_) fun i x u r M=>?_
   ·show w'.cell? _=_;rw [dh (show rowAt w' X.w.heap.size d by rw [s];exact iQ (dL.alloc _ _)),Nat.zero_add];exact M
   ·obtain⟨u',N,hr⟩:=h6.get (i:=i) (x:=.f x) (by rw [E,aq0,r];rfl);rw [M]at N;cases N;exact cM.mono (fun c i h=>.inl h) I hr
  ·show X.B≤w'.heap.size;rw [g.size];omega
 ·simp at K
end
section
variable{Q:Program}{σ:Nat→FuncId}{X:Wd}
theorem Ap{α:Type}(us rest:List α)(off:Nat)(b:List α)(h:off+b.length≤us.length):over (us++rest) off b=over us off b++rest:=by
 unfold over;rw [List.take_append_of_le_length (by omega),List.drop_append_of_le_length (by omega)];simp
theorem A2.one{cs:List C}{us:List Value}(h:A2 (CR σ X) cs us):∀ v ∈ us,v.oneCell'=ae:=by
 intro v d;obtain⟨i,hi⟩:=ara d;have b:i<cs.length:=by rw [h.len];exact(BY.1 hi).1
 exact CR.one σ (h.2 i _ v (By b) hi)
theorem A_(z:SR Q σ X){b:Nat}{cs:List C}{fl:Nat}{L:Loc}(m:X.H[b]?=aa (.box cs fl))(y:X.cr b=aa L){xs:List C}{j:List Value}(u:A2 (CR σ X) xs j){off:Nat}
  (I:fl≤off) (U:off+xs.length≤cs.length):∃ X',(storeCells ⟨L.c,off,ab⟩ j).run Q X.w=.ok () X'.w∧X'.H=X.H.set b (.box (over cs off xs) fl)∧SR Q σ X'∧Ext X.H.length X X' ∧
   (∀ b,X'.cr b=X.cr b)∧X'.w.heap.size=X.w.heap.size∧X'.B=X.B:=by
 obtain⟨_,_,bj,g,q⟩:=z.br b L y;rw [m]at g;simp only [At]at g;subst g;obtain⟨us,s,v,x⟩:=q;have K:=u.len;have J:=v.len;obtain⟨A,M,N,O,S,B⟩:=dU s j off (by omega);obtain⟨E,F⟩:=SR.turn z (blk':=.box (over cs off xs) fl) m y A M (fun i H=>by
   rw [dh B,dh s];have:i<off:=by
    rcases aqY i off with h | h
    ·exact h
    ·exact absurd H (x i (by omega))
   exact Aq us off j (by omega) i this) N O S
  (fun bj d=>⟨.box (over cs off xs) fl,by simp [(BY.1 m).1],by rw [m]at d;simp only [At]at d;subst d;exact fun L h=>h⟩)
  (fun l=>⟨over us off j,B,A2.over (A2.ext' σ l v) (A2.ext' σ l u) off,x⟩)
 exact⟨_,qP s j off (by omega) (A2.one u),rfl,E,F,fun _=>rfl,A,rfl⟩
theorem Ba(A:SR Q σ X){b:Nat}{sz:Nat}{cs:List C}{fl ep:Nat}{L:Loc}(m:X.H[b]?=aa (.bT sz cs fl ep .loc))(z:X.cr b=aa L){xs:List C}{j:List Value}(u:A2 (CR σ X) xs j){off:Nat}
  (M:fl≤off) (N:off+xs.length≤cs.length):∃ X',(storeCells ⟨L.c,off,ab⟩ j).run Q X.w=.ok () X'.w∧X'.H=X.H.set b (.bT sz (over cs off xs) fl ep .loc)∧SR Q σ X'∧Ext X.H.length X X' ∧
   (∀ b,X'.cr b=X.cr b)∧X'.w.heap.size=X.w.heap.size∧X'.B=X.B:=by
 obtain⟨_,_,bj,g,q⟩:=A.br b L z;rw [m]at g;simp only [At]at g;subst g;obtain⟨S,us,rest,s,x,H,I,J,y⟩:=q;have W:=u.len;have U:=x.len;obtain⟨B,Y,Z,a,c,v⟩:=dU s j off (by simp;omega);rw [Ap _ _ _ _ (by omega)]at v;have O:=Ar us off j (by omega);obtain⟨E,F⟩:=SR.turn A (blk':=.bT sz (over cs off xs) fl ep .loc) m z B Y (fun i K=>by
   rw [dh v,dh s];have:i<off:=by
    rcases aqY i off with h | h
    ·exact h
    ·exact absurd K (y i (by omega))
   rw [AT (by omega),AT (by omega)];exact Aq us off j (by omega) i this) Z a c
  (fun bj d=>⟨.bT sz (over cs off xs) fl ep .loc,by simp [(BY.1 m).1],by rw [m]at d;simp only [At]at d;subst d;exact⟨rfl,.inl ⟨rfl,rfl,fun L h=>h⟩⟩⟩)
  (fun l=>⟨rfl,over us off j,rest,v,A2.over (A2.ext' σ l x) (A2.ext' σ l u) off,by simp only [api]at H ⊢;omega,I,by rw [Ar cs off xs N];exact J,y⟩)
 exact⟨_,qP s j off (by simp;omega) (A2.one u),rfl,E,F,fun _=>rfl,B,rfl⟩
theorem aax(B:SR Q σ X){x:C}{u:Value}(d:CR σ X x u){xs:List C}{E:List Value}(l:A2 (CR σ X) xs E){H':aj}(h:cZ X.H x xs=aa H') :
  ∃ c off X',u=.pointer (aa ⟨c,off,ab⟩)∧(storeCells ⟨c,off,ab⟩ E).run Q X.w=.ok () X'.w∧X'.H=H'∧SR Q σ X'∧Ext X.H.length X X'∧X'.w.heap.size=X.w.heap.size∧X'.B=X.B:=by
 unfold cZ at h;split at h
 ·rename_i b off ep;obtain⟨L,A,d⟩:=d;split at h
  ·rename_i cs fl j;rw [j]at d;simp only at d;subst d;split at h
   ·rename_i g;simp only [At]at h;subst h;obtain⟨X',m,q,s,v,_,y,z⟩:=A_ B j A l g.1 g.2;exact⟨_,_,X',rfl,m,q,s,v,y,z⟩
   ·simp at h
  ·rename_i sz cs fl e j;rw [j]at d;split at h
   ·rename_i g;have d:=d.2.1 g.1;subst d;simp only [At]at h;subst h;obtain⟨X',m,q,s,v,_,y,z⟩:=Ba B j A l g.2.1 g.2.2;exact⟨_,_,X',rfl,m,q,s,v,y,z⟩
   ·simp at h
  ·simp at h
 ·simp at h
theorem aaD(E:SR Q σ X)(W:X.B≤X.w.heap.size){a:Act}{aw:T}(q:RR σ X aw a.tmps){o:Oper}{n:Nat}{x y:Arg}(b:dG Q σ o (.store n x y)=ae){v:V}{H':aj}
  (h:bl aw X.H (.store n x y)=aa (v,H')):gw Q σ X v H' (execOp a.eval o):=by
 simp only [dG]at b;split at b
 ·rename_i t M N H;simp only [If]at b;obtain⟨⟨F,g⟩,m⟩:=b;have g:=bO q g;have m:=bO q m;simp only [bl]at h;split at h
  ·rename_i p xs I l;rw [I]at g;split at h
   ·rename_i s;simp only [IT,OF]at h;obtain⟨O,j,rfl,rfl⟩:=h;obtain⟨Y,K,d⟩:=nY m l;obtain⟨c,off,X',J,u,z,A,B,S,U⟩:=aax E g d j;refine⟨undef,X',.inr ⟨?_,rfl⟩,z,A,trivial,B,by omega⟩;have L:=d.len;simp only [execOp,H,Sem.run_bind];have:(Instr.storeAt t (a.eval M) (a.eval N)).run Q X.w=.ok () X'.w:=by
     rw [J];simp [Instr.storeAt,Instr.sureAddr,storeVar,cY F,K];rw [ba (by omega)];exact u
    simp [this]
   ·simp at h
  ·simp at h
 ·simp at b
end
end Km
