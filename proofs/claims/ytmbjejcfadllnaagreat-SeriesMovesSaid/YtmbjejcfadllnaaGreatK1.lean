/-
  Our own small machine for Go code by value, held sf the model: part 1. No program in F0.
-/
import GoSem.Step
import GoSem.Dispatch
import GoSem.Machine.Exec
import Derived.Calls
import Derived.Laws.World
import Derived.Laws.Cells
import Derived.Laws.IdiomCopy
import Derived.Below
import Derived.Laws.Slices
import Derived.Laws.Strings
import Derived.Laws.StructEq
import Derived.Laws.BytesString
import Derived.Laws.Tables
import Derived.Laws.AppendOwn
open Option renaming some → aa,none → ab
open Bool renaming true → ae,false → ag
open Option.some renaming injEq → sh
open Bool renaming false_eq_true → anc, and_eq_true → BY
open List renaming getElem?_eq_some_iff → By, getElem?_eq_getElem → At, getElem?_append_left → AI, getElem?_append_right → aqJ, getElem?_take → aqT, getElem?_drop → aqF, getElem?_map → ari, all_eq_true → aqH, getElem?_of_mem → arf, extract_eq_take_drop → arE, take_of_length_le → aqI, foldl_cons → arx, length_cons → aqW, take_succ_eq_append_getElem → aqC, eq_nil_of_length_eq_zero → amu, getElem?_set_ne → AT
open Nat renaming le_refl → IT, le_trans → aqL, lt_of_lt_of_le → arh, add_mul → arc, mul_eq_zero → ar2, lt_or_ge → aqZ
open Option renaming bind_eq_some_iff → aqO, map_eq_some_iff → If, bind_eq_bind → asb, bind_some → aqR, map_some → aq2
open Prod.mk renaming injEq → IN
set_option linter.unusedVariables false
set_option linter.constructorNameAsVariable false
set_option linter.unusedSimpArgs false
set_option linter.unusedSectionVars false
set_option maxRecDepth 100000
namespace Km
open Go
theorem aT.{u}{α:Sort u}(a:α):∃ b,b=a:=⟨a,rfl⟩
theorem aY.{u}{c:Prop}{h:Decidable c}(b:¬c){α:Sort u}{t e:α}:(ite c t e)=e:=if_neg b
theorem bh.{u}{c:Prop}{h:Decidable c}(hc:c){α:Sort u}{t e:α}:(ite c t e)=t:=if_pos hc
inductive FC where
 | bool (b:Bool)
 | int (k:IntKind) (n:Int)
 | str (s:ByteArray)
 | fY | aE | es | jj | lG | vq
 | fp (cs:List FC) (off:Nat)
 | fs (cs:List FC) (len:Nat)
 | fn (f:Nat) (JI:List FC)
 deriving Inhabited
inductive C where
 | f (x:FC)
 | ptr (b off ep:Nat)
 | sl (b off len cap ep sz:Nat)
 | cl (f:Nat) (JI:List C)
 | yl (b:Nat)
 | mp (b:Nat)
 | it (b:Nat)
 | bm (f:Nat) (first:List C)
 | mi (b:Nat)
 deriving Inhabited
inductive V where
 | top
 | c (x:C)
 | a (xs:List C)
 | t (xs:List V)
 deriving Inhabited
def JD:Nat:=1000000007
def mV:C→V
 | .cl f cs=>if f=JD then .a cs else .c (.cl f cs)| x=>.c x
def rj:V→Option C
 | .c (.cl f cs)=>if f=JD then ab else aa (.cl f cs)| .c x=>aa x| .a cs=>aa (.cl JD cs)| _=>ab
def zV:FC→V
 | .fn f zs=>if f=JD then .a (zs.map .f)else .c (.f (.fn f zs))| z=>.c (.f z)
def qZ:FC→List FC
 | .fn f zs=>if f=JD then zs else [.fn f zs]| z=>[z]
def EJ:FC→Bool
 | .fn f _=>decide (f=JD)| _=>ag
theorem VM{v:V}{c:C}(h:rj v=aa c):mV c=v:=by
 cases v with
 | c x=>
  cases x<;>simp only [rj,sh]at h
  case cl f cs=>
   split at h
   ·cases h
   ·rename_i b;simp only [sh]at h;subst h;simp only [mV,aY b]
  all_goals (subst h;rfl)
 | a cs=>simp only [rj,sh]at h;subst h;simp [mV]| _=>simp [rj]at h
theorem ahm{z:FC}(h:EJ z=ae):zV z=.a ((qZ z).map .f):=by
 cases z<;>simp only [EJ,decide_eq_true_eq,reduceCtorEq,anc]at h;simp only [zV,qZ,bh h]
theorem ahn{z:FC}(h:EJ z=ag):zV z=.c (.f z)∧qZ z=[z]:=by
 cases z<;>simp only [EJ,decide_eq_false_iff_not]at h
 case fn f zs=>simp only [zV,qZ,aY h,and_self]
 all_goals exact⟨rfl,rfl⟩
inductive Os where | loc | nil | es
 deriving DecidableEq,Inhabited
inductive P where
 | h
 | o (p:P)
 | i (p:P)
 deriving DecidableEq,Inhabited
def P.toNat:P→Nat
 | .h=>0| .o p=>2*p.toNat+1| .i p=>2*p.toNat+2
inductive T where
 | e
 | n (l:T) (v:V) (r:T)
 deriving Inhabited
def T.get:T→P→V
 | .e,_=>.top| .n _ v _,.h=>v| .n l _ _,.o p=>l.get p| .n _ _ r,.i p=>r.get p
def T.set:T→P→V→T
 | .e,.h,w=>.n .e w .e| .e,.o p,w=>.n (T.set .e p w) .top .e| .e,.i p,w=>.n .e .top (T.set .e p w)| .n l _ r,.h,w=>.n l w r| .n l v r,.o p,w=>.n (l.set p w) v r| .n l v r,.i p,w=>.n l v (r.set p w)
inductive Arg where
 | r (n:P)
 | k (v:V)
 deriving Inhabited
inductive CK where | bool | int | str
 deriving DecidableEq,Inhabited
inductive Jw where
 | bool | ptr | sl | fn | ifc
 | st (ks:List CK)
 deriving Inhabited
inductive cG where
 | bB (x:Arg)
 | pre (o:Os) (sz:Nat)
 | pick (c a b:Arg)
 | alloc (zs:List FC)
 | box (x:Arg)
 | build (zs:List FC) (parts:List (Nat × Nat × Arg))
 | aU (sz:Nat) (zs:List FC) (len:Nat) (parts:List (Nat × Arg))
 | load (n:Option Nat) (x:Arg)
 | store (n:Nat) (x y:Arg)
 | bw (x:Arg)
 | bin (op:BinOp) (x y:Arg)
 | eq (neg:Bool) (k:Jw) (x y:Arg)
 | un (op:UnOp) (x:Arg)
 | eM (k:IntKind) (x:Arg)
 | yo (x:Arg)
 | vk (x:Arg)
 | Du (x:Arg)
 | jZ (f:Nat) (JI:List Arg)
 | jt
 | lookup (ck:CK) (zero:FC) (m k:Arg)
 | jr (ck:CK) (m k v:Arg)
 | cE (sz bytes:Nat) (zs:List FC) (l c:Arg)
 | slice (sz:Nat) (x:Arg) (lo hi mx:Option Arg)
 | nw (n sz:Nat) (x:Arg) (lo hi mx:Option Arg)
 | pM (x:Arg) (lo hi:Option Arg)
 | aB (off:Nat) (x:Arg)
 | field (off:Nat) (n:Option Nat) (x:Arg)
 | aV (sz:Nat) (arr:Option Nat) (x i:Arg)
 | idxs (x i:Arg)
 | oE (len sz:Nat) (n:Option Nat) (x i:Arg)
 | range (x:Arg)
 | next (x:Arg)
 | extract (x:Arg) (i:Nat)
 | call (f:Nat) (args:List Arg) (h:Bool)
 | bP (x:Arg) (args:List Arg) (h:Bool)
 | len (x:Arg)
 | tP (n:Nat)
 | lens (x:Arg)
 | cap (x:Arg)
 | append (sz bytes:Nat) (x y:Arg)
 | copy (sz:Nat) (x y:Arg)
 | mh (lo:Bool) (xs:List Arg)
 | rQ (sz bytes:Nat) (zs:List FC) (x n:Arg)
 | clear (sz:Nat) (zs:List FC) (x:Arg)
 | kS (x:Arg)
 | oO (x:Arg)
 | entry (x:Arg)
 | vm (f:Nat) (xs:List Arg)
 | vG (sz:Nat) (x hi mx:Arg)
 | gu (sz:Nat) (zs:List FC) (len:Nat) (parts:List (Nat × Arg))
 | recover
 | defer (x:Arg) (args:List Arg)
 | bad
 deriving Inhabited
def cG.fsl:cG→Bool
 | .gu ..=>ae| _=>ag
structure aP where
 dst:Option P
 op:cG
 g:Option (P × Bool):=ab
 deriving Inhabited
inductive av where
 | skip
 | region (ops:List aP) (gJ:List (Nat × Nat))
 | seq (a b:av)
 | cond (c:Arg) (a b:av)
 | block (id:Nat) (a:av)
 | loop (a:av)
 | jI (f:Arg) (ps:List P) (assign body:av)
 | exit (id:Nat)
 | ret
 | bad
 | scope (a:av)
 | label (l:Nat)
 | goto (l:Nat)
 deriving Inhabited
inductive fP where | ready | busy | done | exhausted
 deriving DecidableEq,Inhabited
inductive cS where
 | box (cs:List C) (fl:Nat)
 | bG (sz:Nat) (cs:List C) (fl ep:Nat) (st:Os)
 | map (es:List (FC × C))
 | it (s:ByteArray) (pos:Nat)
 | uX (m since:Nat) (done:Bool)
 | jF (open_:Bool)
 | lp (fn:Nat) (tmps:T) (ps:List P) (assign body:av) (st:fP) (pending:Option av) (jF:Nat)
 deriving Inhabited
abbrev aj:=List cS
inductive dw where
 | ov (b:Nat)
 | fn (f:Nat) (args:List V)
 deriving Inhabited
inductive ie where
 | tmp (t:P)
 | cell (t:P) (n:Option Nat)
 deriving Inhabited
structure aD where
 ps:List P
 results:List ie
 body:av
 deriving Inhabited
def Arg.ev(az:T):Arg→V
 | .r n=>az.get n| .k v=>v
def V.int(k:IntKind)(n:Int):V:=.c (.f (.int k n))
def V.bool(b:Bool):V:=.c (.f (.bool b))
def aF(H:aj):C→Option (List C)
 | .ptr b off d=>match H[b]? with
  | some (.box cs _)=>aa (cs.drop off)| some (.bG _ cs _ e .loc)=>if d=e then aa (cs.drop off)else ab| _=>ab
 | .f (.fp cs off)=>aa ((cs.drop off).map .f)| _=>ab
def aI:Option Nat→List C→Option V
 | none,c::_=>aa (.c c)| none,[]=>ab| some n,cs=>if n≤cs.length then aa (.a (cs.take n))else ab
def aX(H:aj)(n:Option Nat):V→Option V
 | .c x=>(aF H x).bind (aI n)| _=>ab
def V.cells? : V→Option (List C)
 | .c x=>aa [x]| .a xs=>aa xs| _=>ab
def over{α:Type}(cs:List α)(off:Nat)(xs:List α):List α:=cs.take off++xs++cs.drop (off+xs.length)
def df(H:aj)(x:C)(xs:List C):Option aj:=
 match x with
 | .ptr b off g=>match H[b]? with
  | some (.box cs d)=>if d≤off∧off+xs.length≤cs.length then aa (H.set b (.box (over cs off xs) d))else ab| some (.bG sz cs d e .loc)=>if g=e∧d≤off∧off+xs.length≤cs.length then aa (H.set b (.bG sz (over cs off xs) d e .loc))else ab| _=>ab
 | _=>ab
def bE(H:aj):C→Option Nat
 | .sl b _ l _ d sz=>match H[b]? with
  | some (.box _ _)=>aa l| some (.bG s _ _ e _)=>if d=e∧sz=s then aa l else ab| _=>ab
 | .f .aE=>aa 0| .f .es=>aa 0| .f (.fs _ l)=>aa l| _=>ab
def cF(H:aj)(sz:Nat):C→Option (List C)
 | .sl b o l _ d s=>match H[b]? with
  | some (.box cs _)=>if o+l*sz≤cs.length then aa ((cs.drop o).take (l*sz))else ab| some (.bG s' cs _ e _)=>if d=e∧s=s'∧o+l*sz≤cs.length then aa ((cs.drop o).take (l*sz))else ab| _=>ab
 | .f .aE=>aa []| .f .es=>aa []| .f (.fs cs l)=>if cs.length=l*sz then aa (cs.map .f)else ab| _=>ab
def bj{α β:Type}(g:α→Option β):List α→Option (List β)
 | []=>aa []
 | x::xs=>match g x with
  | none=>ab
  | some y=>match bj g xs with
   | none=>ab| some ys=>aa (y::ys)
def da:Nat→aj→C→Option FC
 | _,_,.f x=>aa x| 0,_,_=>ab
 | n+1,H,.ptr b off _=>match H[b]? with
  | some (.box cs _)=>(bj (da n H) cs).map (.fp · off)| _=>ab
 | n+1,H,.sl b o l _ g sz=>match H[b]? with
  | some (.box cs _)=>if o+l*sz≤cs.length then(bj (da n H) ((cs.drop o).take (l*sz))).map (.fs · l)else ab| some (.bG s cs _ e .loc)=>if g=e∧sz=s∧o+l*sz≤cs.length then(bj (da n H) ((cs.drop o).take (l*sz))).map (.fs · l)else ab| some (.bG s _ _ e .nil)=>if g=e∧sz=s then aa .aE else ab| some (.bG s _ _ e .es)=>if g=e∧sz=s then aa .es else ab| _=>ab
 | n+1,H,.cl f d=>(bj (da n H) d).map (.fn f)| _+1,_,_=>ab
def cg(n:Nat)(H:aj):V→Option V
 | .c x=>(da n H x).map fun y=>.c (.f y)
 | .a xs=>(bj (da n H) xs).map fun ys=>.a (ys.map .f)
 | _=>ab
def iI(n:Nat)(H:aj):V→Option V
 | .t b=>(bj (cg n H) b).map .t| v=>cg n H v
def iX:Nat→C→aj→aj
 | _,.f _,H=>H| 0,_,H=>H
 | n+1,.ptr b _ _,H=>match H[b]? with
  | some (.box cs g)=>cs.foldl (fun H x=>iX n x H) (H.set b (.box cs (Nat.max g cs.length)))
  | _=>H
 | n+1,.sl b o l _ _ sz,H=>match H[b]? with
  | some (.box cs g)=>((cs.drop o).take (l*sz)).foldl (fun H x=>iX n x H) (H.set b (.box cs (Nat.max g (o+l*sz))))
  | some (.bG s cs g e st)=>((cs.drop o).take (l*sz)).foldl (fun H x=>iX n x H) (H.set b (.bG s cs (Nat.max g (o+l*sz)) e st))
  | _=>H
 | n+1,.cl _ d,H=>d.foldl (fun H x=>iX n x H) H
 | _+1,_,H=>H
def XH(n:Nat)(H:aj):V→aj
 | .c x=>iX n x H| .a xs=>xs.foldl (fun H x=>iX n x H) H
 | _=>H
def jR(op:BinOp)(k:IntKind)(x y:Int):Option V:=
 match op with
 | .add=>aa (.int k (k.wrap (x+y)))| .sub=>aa (.int k (k.wrap (x-y)))| .mul=>aa (.int k (k.wrap (x*y)))| .quo=>if y=0 then ab else aa (.int k (k.wrap (x.tdiv y)))| .rem=>if y=0 then ab else aa (.int k (x.tmod y))| .and=>aa (.int k (k.wrap (BitVec.ofInt k.bits x &&& BitVec.ofInt k.bits y).toNat))| .or=>aa (.int k (k.wrap (BitVec.ofInt k.bits x ||| BitVec.ofInt k.bits y).toNat))| .xor=>aa (.int k (k.wrap (BitVec.ofInt k.bits x ^^^ BitVec.ofInt k.bits y).toNat))| .andNot=>aa (.int k (k.wrap (BitVec.ofInt k.bits x &&& ~~~ (BitVec.ofInt k.bits y)).toNat))| .eql=>aa (.bool (x == y))| .neq=>aa (.bool (x != y))| .lss=>aa (.bool (decide (x<y)))| .leq=>aa (.bool (decide (x≤y)))| .gtr=>aa (.bool (decide (x>y)))| .geq=>aa (.bool (decide (x≥y)))| _=>ab
def JF(op:BinOp)(x y:ByteArray):Option V:=
 match op with
 | .add=>if((x.size+y.size:Nat):Int)>IntKind.i64.max then ab else aa (.c (.f (.str (x++y))))| .eql=>aa (.bool (x.toList == y.toList))| .neq=>aa (.bool !(x.toList == y.toList))| .lss=>aa (.bool (Op.bytesLess x.toList y.toList))| .leq=>aa (.bool (Op.bytesLess x.toList y.toList||x.toList == y.toList))| .gtr=>aa (.bool !(Op.bytesLess x.toList y.toList||x.toList == y.toList))| .geq=>aa (.bool !(Op.bytesLess x.toList y.toList))| _=>ab
def Ll:CK→C→C→Option Bool
 | .bool,.f (.bool a),.f (.bool b)=>aa (a == b)| .int,.f (.int k a),.f (.int k' b)=>if k=k' then aa (a == b)else ab| .str,.f (.str a),.f (.str b)=>aa (a == b)| _,_,_=>ab
def qi:List CK→List C→List C→Option Bool
 | [],[],[]=>aa ae
 | k::ks,x::xs,y::ys=>match Ll k x y,qi ks xs ys with
  | some a,aa b=>aa (a&&b)| _,_=>ab
 | _,_,_=>ab
def isNil(H:aj):Jw→C→Option Bool
 | .ptr,.f .fY=>aa ae| .ptr,.f (.fp _ _)=>aa ag| .ptr,.ptr _ _ _=>aa ag| .sl,.f .aE=>aa ae| .sl,.f .es=>aa ag| .sl,.f (.fs _ _)=>aa ag
 | .sl,.sl b _ _ _ d sz=>match H[b]? with
  | some (.box _ _)=>aa ag| some (.bG s _ _ e st)=>if d=e∧sz=s then aa (st == .nil)else ab| _=>ab
 | .fn,.f .jj=>aa ae| .fn,.f (.fn _ _)=>aa ag| .fn,.cl _ _=>aa ag| .fn,.bm _ _=>aa ag| .ifc,.f .lG=>aa ae| _,_=>ab
def wI(H:aj):Jw→V→V→Option Bool
 | .bool,.c x,.c y=>Ll .bool x y| .st ks,.a xs,.a ys=>qi ks xs ys| .ptr,.c x,.c (.f .fY)=>isNil H .ptr x| .sl,.c x,.c (.f .aE)=>isNil H .sl x| .fn,.c x,.c (.f .jj)=>isNil H .fn x| .ifc,.c x,.c (.f .lG)=>isNil H .ifc x| _,_,_=>ab
def bM(op:BinOp)(x y:V):Option V:=
 match op,x,y with
 | .shl,.c (.f (.int k a)),.c (.f (.int _ b))=>if b<0 then ab else aa (.int k (k.wrap (a*2 ^ (min b.toNat k.bits))))| .shr,.c (.f (.int k a)),.c (.f (.int _ b))=>if b<0 then ab else aa (.int k (a.fdiv (2 ^ (min b.toNat k.bits))))| op,.c (.f (.int k a)),.c (.f (.int k' b))=>if k=k' then jR op k a b else ab| op,.c (.f (.str a)),.c (.f (.str b))=>JF op a b| _,_,_=>ab
def unV(op:UnOp)(x:V):Option V:=
 match op,x with
 | .neg,.c (.f (.int k n))=>aa (.int k (k.wrap (0-n)))| .not,.c (.f (.bool b))=>aa (.bool !b)| _,_=>ab
def dy:V→Option Int
 | .c (.f (.int _ n))=>aa n| _=>ab
def CB(x:V)(y:Nat):Option Nat:=
 match dy x with
 | some i=>if 0≤i∧i≤y then aa i.toNat else ab| none=>ab
def cr(len cap:Nat)(lo hi mx:Option V):Option (Nat × Nat × Nat):=do
 let m ←match mx with
  | some v=>CB v cap| none=>aa cap
 let h ←match hi,mx with
  | some v,_=>CB v m| none,ab=>aa len| none,aa _=>ab
 let l ←match lo with
  | some v=>CB v h| none=>aa 0
 pure (l,h,m)
def fq(H:aj)(sz:Nat)(x:V)(lo hi mx:Option V):Option V:=
 match x with
 | .c (.f .aE)=>match cr 0 0 lo hi mx with
  | some _=>aa (.c (.f .aE))| none=>ab
 | .c (.f .es)=>match cr 0 0 lo hi mx with
  | some _=>aa (.c (.f .es))| none=>ab
 | .c (.f (.fs cs n))=>match cr n n lo hi mx with
  | some (l,h,m)=>
   if mx.isSome∧m=l then aa (.c (.f .es))else
   aa (.c (.f (.fs ((cs.drop (l*sz)).take ((h-l)*sz)) (h-l))))
  | none=>ab
 | .c (.sl b o n cap d s)=>match H[b]? with
  | some (.box _ _)=>match cr n cap lo hi mx with
   | some (l,h,m)=>if m=l then aa (.c (.f .es))else aa (.c (.sl b (o+l*sz) (h-l) (m-l) d s))| none=>ab
  | some (.bG s' _ _ e st)=>
   if d=e∧s=sz∧s'=sz then
    match st with
    | .loc=>match cr n n lo hi mx with
     | some (l,h,m)=>
      if mx.isSome∧m=l then aa (.c (.f .es))
      else if l=h∧0<l then aa (.c (.f (.fs [] 0)))
      else if mx.isSome then ab
      else aa (.c (.sl b (o+l*sz) (h-l) 0 d s))
     | none=>ab
    | .nil=>match cr 0 0 lo hi mx with
     | some _=>aa (.c (.f .aE))| none=>ab
    | .es=>match cr 0 0 lo hi mx with
     | some _=>aa (.c (.f .es))| none=>ab
   else ab
  | _=>ab
 | _=>ab
def uF(x:V)(lo hi:Option V):Option V:=
 match x with
 | .c (.f (.str s))=>match cr s.size s.size lo hi ab with
  | some (l,h,_)=>aa (.c (.f (.str (s.extract l h))))| none=>ab
 | _=>ab
def jJ(H:aj)(n sz:Nat)(x:V)(lo hi mx:Option V):Option V:=
 match x with
 | .c (.ptr b off _)=>match H[b]? with
  | some (.box cs _)=>match cr n n lo hi mx with
   | some (l,h,m)=>if off+n*sz≤cs.length then(if m=l then aa (.c (.f .es))else aa (.c (.sl b (off+l*sz) (h-l) (m-l) 0 sz)))else ab| none=>ab
  | _=>ab
 | .c (.f (.fp cs off))=>match cr n n lo hi mx with
   | some (l,h,m)=>if off+n*sz≤cs.length then(if m=l then aa (.c (.f .es))else aa (.c (.f (.fs ((cs.drop (off+l*sz)).take ((h-l)*sz)) (h-l)))))else ab| none=>ab
 | _=>ab
def aL(H:aj)(sz:Nat)(g:Option Nat)(x i:V):Option V:=
 match dy i with
 | none=>ab
 | some i=>
  if 0≤i then
   match g,x with
   | none,.c (.sl b o l _ d s)=>if i<l then
     (match H[b]? with
      | some (.box _ _)=>aa (.c (.ptr b (o+i.toNat*sz) d))| some (.bG s' _ _ e .loc)=>if d=e∧s=s' then aa (.c (.ptr b (o+i.toNat*sz) d))else ab
      | _=>ab)else ab
   | none,.c (.f (.fs cs l))=>if i<l then aa (.c (.f (.fp cs (i.toNat*sz))))else ab| some n,.c (.ptr b o d)=>if i<n then aa (.c (.ptr b (o+i.toNat*sz) d))else ab| some n,.c (.f (.fp cs o))=>if i<n then aa (.c (.f (.fp cs (o+i.toNat*sz))))else ab| _,_=>ab
  else ab
def im(off:Nat):V→Option V
 | .c (.ptr b o d)=>aa (.c (.ptr b (o+off) d))| .c (.f (.fp cs o))=>aa (.c (.f (.fp cs (o+off))))| _=>ab
def lX(off:Nat)(n:Option Nat):V→Option V
 | .a xs=>aI n (xs.drop off)| _=>ab
def Bh(x i:V):Option V:=
 match x,dy i with
 | .c (.f (.str s)),aa i=>if 0≤i then(s[i.toNat]?).map fun b=>.int .u8 b.toNat else ab
 | _,_=>ab
def lh(len sz:Nat)(n:Option Nat)(x i:V):Option V:=
 match x,dy i with
 | .a xs,aa i=>if 0≤i∧i<len then aI n (xs.drop (i.toNat*sz))else ab| _,_=>ab
def Ft(H:aj):V→Option (V × aj)
 | .c (.it b)=>match H[b]? with
  | some (.it s pos)=>
   if pos<s.size then
    let r:=Utf8.decode s pos
    aa (.t [.bool ae,.int .i64 pos,.int .i32 r.1],H.set b (.it s (pos+r.2)))
   else aa (.t [.bool ag],H)
  | _=>ab
 | _=>ab
def bN(need bytes:Nat):Bool:=decide ((2*need+768)*bytes≤2 ^ 48)&&decide (need<2 ^ 48)
def cT(H:aj)(sz:Nat):V→Option (Nat × List C)
 | .c (.f (.str s))=>if sz=1 then aa (s.size,s.toList.map fun b=>.f (.int .u8 b.toNat))else ab
 | .c x=>match bE H x,cF H sz x with
  | some l,aa cs=>aa (l,cs)| _,_=>ab
 | _=>ab
def bX(H:aj)(sz bytes:Nat)(x y:V):Option (V × aj):=
 match cT H sz y with
 | none=>ab
 | some (m,ys)=>
  if sz=0 then ab else
  match x with
  | .c (.f .aE)=>if m=0 then aa (.c (.f .aE),H)else
    if bN m bytes then aa (.c (.sl H.length 0 m 0 0 sz),H++[.bG sz ys 0 0 .loc])else ab
  | .c (.f .es)=>if m=0 then aa (.c (.f .es),H)else
    if bN m bytes then aa (.c (.sl H.length 0 m 0 0 sz),H++[.bG sz ys 0 0 .loc])else ab
  | .c (.sl b o l cap g s)=>match H[b]? with
   | some (.box cs d)=>
    if l+m≤cap then
     if d≤o+l*sz∧o+l*sz+ys.length≤cs.length then aa (.c (.sl b o (l+m) cap g s),H.set b (.box (over cs (o+l*sz) ys) d))else ab
    else if bN (l+m) bytes∧o+l*sz≤cs.length then aa (.c (.sl H.length 0 (l+m) 0 0 sz),H++[.bG sz ((cs.drop o).take (l*sz)++ys) 0 0 .loc])else ab
   | some (.bG s' cs d e st)=>
    if g=e∧s'=sz∧s=sz then
     if m=0 then aa (x,H)
     else if o=0∧l*sz=cs.length∧d≤cs.length then
      if bN (l+m) bytes then aa (.c (.sl b 0 (l+m) 0 (g+1) sz),H.set b (.bG sz (cs++ys) d (e+1) .loc))else ab
     else if st=.loc∧d≤o+l*sz∧o+l*sz+ys.length≤cs.length then
      aa (.c (.sl b o (l+m) 0 g sz),H.set b (.bG sz (over cs (o+l*sz) ys) d e .loc))
     else ab
    else ab
   | _=>ab
  | _=>ab
def copyV(H:aj)(sz:Nat)(x y:V):Option (V × aj):=
 match cT H sz y,x with
 | some _,.c (.f .aE)=>aa (.int .i64 0,H)| some _,.c (.f .es)=>aa (.int .i64 0,H)
 | some (m,ys),.c (.sl b o l _ g s')=>
  let n:=Nat.min m l
  match H[b]? with
  | some (.box cs d)=>if d≤o∧o+n*sz≤cs.length then aa (.int .i64 n,H.set b (.box (over cs o (ys.take (n*sz))) d))else ab| some (.bG s cs d e .loc)=>if g=e∧s'=s∧s=sz∧d≤o∧o+n*sz≤cs.length then aa (.int .i64 n,H.set b (.bG s (over cs o (ys.take (n*sz))) d e .loc))else ab| _=>ab
 | _,_=>ab
def nr(H:aj):V→Option V
 | .c x=>match bE H x with
  | some _=>match cF H 1 x with
   | some cs=>(bj (fun c=>match c with | C.f (.int .u8 n)=>aa (UInt8.ofNat n.toNat) | _=>ab) cs).map fun l=>.c (.f (.str ⟨l.toArray⟩))
   | none=>ab
  | none=>ab
 | _=>ab
def dh(az:T)(cs:List C):List (Nat × Nat × Arg)→Option (List C)
 | []=>aa cs
 | (off,n,x)::rest=>match (x.ev az).cells? with
  | some xs=>if xs.length=n∧off+xs.length≤cs.length then dh az (over cs off xs) rest else ab| none=>ab
def c8(az:T)(xs:List Arg):List V:=xs.map (·.ev az)
def rS:V→Option C
 | .c (.cl _ _)=>ab| .c (.bm _ _)=>ab| .c x=>aa x| _=>ab
def bV{α:Type}(n:Nat)(xs:List α):List α:=(List.replicate n xs).flatten
def eqK:CK→FC→FC→Option Bool
 | .int,.int k a,.int k' b=>if k=k' then aa (a == b)else ab| .str,.str a,.str b=>aa (a == b)| .bool,.bool a,.bool b=>aa (a == b)| _,_,_=>ab
def mn(b:CK)(k:FC):List (FC × C)→Option (Option C)
 | []=>aa ab
 | e::d=>match eqK b k e.1 with
  | some ae=>aa (aa e.2)| some ag=>mn b k d| none=>ab
def xj(b:CK)(k:FC)(v:C):List (FC × C)→Option (List (FC × C))
 | []=>aa [(k,v)]
 | e::d=>match eqK b k e.1 with
  | some ae=>aa ((k,v)::d)| some ag=>(xj b k v d).map (e::·)| none=>ab
def isKey:CK→FC→Bool
 | .int,.int _ _=>ae| .str,.str _=>ae| .bool,.bool _=>ae| _,_=>ag
def rX:FC→Option FC
 | .fp [z] 77=>aa z| _=>ab
def lkR(z:FC)(r:Option C):V:=match rX z with
 | some z0=>.t [(r.map mV).getD (zV z0),.c (.f (.bool r.isSome))]| none=>(r.map mV).getD (zV z)
def fW(H:aj)(d:CK)(z:FC):V→V→Option V
 | .c (.f .vq),.c (.f k)=>if isKey d k then aa (lkR z ab)else ab
 | .c (.mp b),.c (.f k)=>match H[b]? with
  | some (.map g)=>if isKey d k then(mn d k g).map (lkR z)else ab| _=>ab
 | _,_=>ab
def lz(H:aj):C→Option Nat
 | .sl b _ _ c d sz=>match H[b]? with
  | some (.box _ _)=>aa c| some (.bG s _ _ e .nil)=>if d=e∧sz=s then aa 0 else ab| some (.bG s _ _ e .es)=>if d=e∧sz=s then aa 0 else ab| _=>ab
 | .f .aE=>aa 0| .f .es=>aa 0| _=>ab
def Fp(lo:Bool)(x y:V):Option V:=
 match x,y with
 | .c (.f (.int k a)),.c (.f (.int _ b))=>aa (.int k (if lo then(if b<a then b else a)else(if b>a then b else a)))| _,_=>ab
def xf(lo:Bool):V→List V→Option V
 | x,[]=>aa x
 | x,y::ys=>match Fp lo x y with
  | some z=>xf lo z ys| none=>ab
def Ku(lo:Bool):List V→Option V
 | []=>ab| x::xs=>xf lo x xs
def tq(H:aj)(sz:Nat)(zs:List FC)(x:V):Option aj:=
 match x with
 | .c y=>match bE H y with
  | some 0=>aa H
  | some l=>
   if zs.length=sz then
    match y with
    | .sl b o _ _ d s=>match H[b]? with
     | some (.box _ _)=>df H (.ptr b o d) ((bV l zs).map .f)| some (.bG s' _ _ e .loc)=>if d=e∧s=s' then df H (.ptr b o d) ((bV l zs).map .f)else ab| _=>ab
    | _=>ab
   else ab
  | none=>ab
 | _=>ab
def EV(H:aj)(sz bytes:Nat)(zs:List FC)(x n:V):Option (V × aj):=
 match dy n with
 | some n=>
  if 0≤n∧zs.length=sz then
   match x with
   | .c (.f .aE)=>if n.toNat=0 then aa (.c (.f .aE),H)else
     if bN n.toNat bytes then aa (.c (.sl H.length 0 n.toNat 0 0 sz),H++[.bG sz ((bV n.toNat zs).map .f) 0 0 .loc])else ab
   | .c (.f .es)=>if n.toNat=0 then aa (.c (.f .es),H)else
     if bN n.toNat bytes then aa (.c (.sl H.length 0 n.toNat 0 0 sz),H++[.bG sz ((bV n.toNat zs).map .f) 0 0 .loc])else ab
   | _=>ab
  else ab
 | none=>ab
def fcC:C→Option FC
 | .f x=>aa x| _=>ab
def Cf(H:aj)(sz:Nat)(x hi mx:V):Option (V × aj):=
 match fq H sz x ab (aa hi) (aa mx)with
 | some v=>aa (v,H)
 | none=>match x with
  | .c (.sl b o n _ d s)=>match H[b]? with
   | some (.bG s' cs g e .loc)=>
    if d=e∧s=sz∧s'=sz∧o=0 then
     match CB hi n,CB mx n with
     | some i,aa j=>
      if i=j∧0<i∧i*sz≤cs.length then
       match bj fcC (cs.take (i*sz))with
       | some ys=>aa (.c (.f (.fs ys i)),H.set b (.bG s' cs (Nat.max g (i*sz)) e .loc))| none=>ab
      else ab
     | _,_=>ab
    else ab
   | _=>ab
  | _=>ab
def yS(H:aj):V→Option (V × aj)
 | .c (.mi b)=>match H[b]? with
  | some (.uX m d done)=>match H[m]? with
   | some (.map [])=>if done then ab else aa (.t [.bool ag],H)| some (.map [e])=>if done then aa (.t [.bool ag],H)else if d=1 then aa (.t [.bool ae,.c (.f e.1),mV e.2],H.set b (.uX m 1 ae))else ab| _=>ab
  | _=>ab
 | _=>ab
def kD(H:aj):V→Option V
 | .c (.mi b)=>match H[b]? with
  | some (.uX m _ ae)=>match H[m]? with
   | some (.map [e])=>aa (.t [.c (.f e.1),mV e.2])| _=>ab
  | _=>ab
 | _=>ab
def sG(H:aj):V→Option (V × aj)
 | .c (.mp b)=>match H[b]? with
  | some (.map d)=>if d.length≤1 then aa (.c (.mi H.length),H++[.uX b d.length ag])else ab| _=>ab
 | _=>ab
def fcL:List C→Option (List FC)
 | []=>aa []| .f x::xs=>(fcL xs).map (x::·)| _::_=>ab
def bs(az:T)(H:aj):cG→Option (V × aj)
 | .bB x=>aa (x.ev az,H)| .pre o sz=>if o=.loc∨sz=0 then ab else aa (.c (.sl H.length 0 0 0 0 sz),H++[.bG sz [] 0 0 o])
 | .pick c a b=>match c.ev az with
  | .c (.f (.bool v))=>aa ((if v then a else b).ev az,H)| _=>ab
 | .alloc zs=>aa (.c (.ptr H.length 0 0),H++[.box (zs.map .f) 0])
 | .box x=>match (x.ev az).cells? with
  | some xs=>aa (.c (.ptr H.length 0 0),H++[.box xs 0])| none=>ab
 | .build zs ps=>(dh az (zs.map .f) ps).map fun cs=>(.a cs,H)
 | .aU sz zs n ps=>
  if n=0 then(if ps.isEmpty then aa (.c (.f .es),H)else ab)else
  (dh az ((bV n zs).map .f) (ps.map fun p=>(p.1*sz,sz,p.2))).map fun cs=>(.c (.sl H.length 0 n n 0 sz),H++[.box cs 0])
 | .load n x=>(aX H n (x.ev az)).map (·,H)
 | .store n x y=>match x.ev az,(y.ev az).cells? with
  | .c p,aa xs=>if xs.length=n then(df H p xs).map (.top,·)else ab| _,_=>ab
 | .bw x=>match x.ev az with
  | .c (.ptr b o e)=>aa (.c (.ptr b o e),H)| .c (.f (.fp cs o))=>aa (.c (.f (.fp cs o)),H)| _=>ab
 | .bin op x y=>(bM op (x.ev az) (y.ev az)).map (·,H)| .eq neg k x y=>(wI H k (x.ev az) (y.ev az)).map fun b=>(.bool (if neg then !b else b),H)
 | .un op x=>(unV op (x.ev az)).map (·,H)
 | .eM k x=>match x.ev az with
  | .c (.f (.int _ n))=>aa (.int k (k.wrap n),H)| _=>ab
 | .yo x=>match x.ev az with
  | .c (.f (.str s))=>aa (.c (.f (.str s)),H)| _=>ab
 | .vk x=>(nr H (x.ev az)).map (·,H)
 | .Du x=>match x.ev az with
  | .c (.f (.str s))=>if s.size<2 ^ 48 then aa (.c (.sl H.length 0 s.size 0 0 1),H++[.bG 1 (s.toList.map fun b=>.f (.int .u8 b.toNat)) 0 0 .loc])else ab
  | _=>ab
 | .jZ f d=>(bj rS (c8 az d)).map fun xs=>(.c (.cl f xs),H)
 | .jt=>aa (.c (.mp H.length),H++[.map []])| .lookup g z m k=>(fW H g z (m.ev az) (k.ev az)).map (·,H)
 | .jr g m k v=>match m.ev az,k.ev az,rj (v.ev az)with
  | .c (.mp b),.c (.f k),aa v=>match H[b]? with
   | some (.map q)=>if isKey g k then(xj g k v q).map fun q=>(.top,H.set b (.map q))else ab
   | _=>ab
  | _,_,_=>ab
 | .cE sz bytes zs l c=>match dy (l.ev az),dy (c.ev az)with
  | some l,aa c=>
   if 0≤l∧l≤c∧bN c.toNat bytes=ae∧zs.length=sz then
    (if c=0 then aa (.c (.f .es),H)else
    aa (.c (.sl H.length 0 l.toNat c.toNat 0 sz),H++[.box ((bV c.toNat zs).map .f) 0]))
   else ab
  | _,_=>ab
 | .slice sz x lo hi mx=>(fq H sz (x.ev az) (lo.map (·.ev az)) (hi.map (·.ev az)) (mx.map (·.ev az))).map (·,H)| .nw n sz x lo hi mx=>(jJ H n sz (x.ev az) (lo.map (·.ev az)) (hi.map (·.ev az)) (mx.map (·.ev az))).map (·,H)| .pM x lo hi=>(uF (x.ev az) (lo.map (·.ev az)) (hi.map (·.ev az))).map (·,H)| .aB off x=>(im off (x.ev az)).map (·,H)| .field off n x=>(lX off n (x.ev az)).map (·,H)| .aV sz j x i=>(aL H sz j (x.ev az) (i.ev az)).map (·,H)| .idxs x i=>(Bh (x.ev az) (i.ev az)).map (·,H)| .oE len sz n x i=>(lh len sz n (x.ev az) (i.ev az)).map (·,H)
 | .range x=>match x.ev az with
  | .c (.f (.str s))=>aa (.c (.it H.length),H++[.it s 0])| _=>ab
 | .next x=>Ft H (x.ev az)
 | .extract x i=>match x.ev az with
  | .t A=>(A[i]?).map (·,H)| _=>ab
 | .tP n=>aa (.int .i64 n,H)
 | .lens x=>match x.ev az with
  | .c (.f (.str s))=>aa (.int .i64 (s.size:Nat),H)| _=>ab
 | .len x=>match x.ev az with
  | .c y=>match bE H y with
   | some n=>aa (.int .i64 (n:Nat),H)| none=>ab
  | _=>ab
 | .append sz bytes x y=>bX H sz bytes (x.ev az) (y.ev az)| .copy sz x y=>copyV H sz (x.ev az) (y.ev az)| .mh lo xs=>(Ku lo (c8 az xs)).map (·,H)| .clear sz zs x=>(tq H sz zs (x.ev az)).map (.t [],·)| .rQ sz bytes zs x n=>EV H sz bytes zs (x.ev az) (n.ev az)| .kS x=>sG H (x.ev az)| .oO x=>yS H (x.ev az)| .entry x=>(kD H (x.ev az)).map (·,H)| .gu sz zs n ps=>((dh az ((bV n zs).map .f) (ps.map fun p=>(p.1*sz,sz,p.2))).bind fun cs=>if n=0 then ab else fcL cs).map fun u=>(.c (.f (.fs u n)),H)
 | .vG sz x hi mx=>Cf H sz (x.ev az) (hi.ev az) (mx.ev az)| .vm f xs=>(bj rS (c8 az xs)).map fun xs=>(.c (.bm f xs),H)
 | .cap x=>match x.ev az with
  | .c y=>match lz H y with
   | some n=>aa (.int .i64 (n:Nat),H)| none=>ab
  | _=>ab
 | _=>ab
inductive Callee where
 | fn (f:Nat)
 | yield (b:Nat)
abbrev cC:=Callee→List V→aj→Option (V × aj)
def deep:Nat:=64
def dV(call:cC)(c:Nat)(args:List V)(H:aj):Option (V × aj):=
 match bj (cg deep H) args with
 | none=>ab
 | some b=>match call (.fn c) b []with
  | none=>ab
  | some (r,H')=>match iI deep H' r with
   | none=>ab| some r'=>aa (r',args.foldl (XH deep) H)
def bQ:V→List V→Option (Callee × List V)
 | .c (.f (.fn f d)),args=>aa (.fn f,args++d.map fun x=>.c (.f x))
 | .c (.cl f d),args=>aa (.fn f,args++d.map .c)| .c (.yl b),args=>aa (.yield b,args)| .c (.bm f first),args=>aa (.fn f,first.map .c++args)
 | _,_=>ab
def gd(call:cC)(h:Bool)(c:Nat)(args:List V)(H:aj):Option (V × aj):=
 if h then call (.fn c) args H else dV call c args H
structure St where
 az:T
 defs:List dw
 heap:aj
def jb(az:T)(d:Option P)(v:V):T:=
 match d with
 | some d=>az.set d v| none=>az
def ei(call:cC)(s:St)(op:cG):Option (V × St):=
 match op with
 | .call f args h=>(gd call h f (c8 s.az args) s.heap).map fun r=>(r.1,{ s with heap:=r.2 })
 | .bP x args _=>match bQ (x.ev s.az) (c8 s.az args)with
  | some (c,args)=>(call c args s.heap).map fun r=>(r.1,{ s with heap:=r.2 })
  | none=>ab
 | .recover=>aa (.c (.f .lG),s)
 | .defer x args=>match bQ (x.ev s.az) (c8 s.az args)with
  | some (.fn f,args)=>aa (.top,{ s with defs:=.fn f args::s.defs })
  | _=>ab
 | op=>(bs s.az s.heap op).map fun r=>(r.1,{ s with heap:=r.2 })
def kZ{α:Type}(f:α→α→Bool):List α→List α→Bool
 | [],[]=>ae| x::xs,y::ys=>f x y&&kZ f xs ys| _,_=>ag
def FC.beq:Nat→FC→FC→Bool
 | _,.bool a,.bool b=>a == b| _,.int j a,.int k b=>decide (j=k)&&a == b| _,.str a,.str b=>decide (a=b)| _,.fY,.fY | _,.aE,.aE | _,.es,.es | _,.jj,.jj | _,.lG,.lG | _,.vq,.vq=>ae| n+1,.fp xs o,.fp ys o'=>o == o'&&kZ (FC.beq n) xs ys| n+1,.fs xs l,.fs ys d=>l == d&&kZ (FC.beq n) xs ys| n+1,.fn f xs,.fn g ys=>f == g&&kZ (FC.beq n) xs ys| _,_,_=>ag
def C.beq:C→C→Bool
 | .f a,.f b=>FC.beq 64 a b| .ptr a b c,.ptr a' j l=>a == a'&&b == j&&c == l| .sl a b c d e g,.sl a' j l m q s=>a == a'&&b == j&&c == l&&d == m&&e == q&&g == s| .mp a,.mp b=>a == b| _,_=>ag
def V.beq:V→V→Bool
 | .c x,.c y=>x.beq y| .a xs,.a ys=>xs.length == ys.length&&(xs.zip ys).all fun p=>p.1.beq p.2
 | _,_=>ag
def wanted(az:T):Option (P × Bool)→Option Bool
 | none=>aa ae
 | some (r,w)=>match az.get r with
  | .c (.f (.bool b))=>aa (b == w)| .t []=>aa ag| _=>ab
def fj(call:cC)(s:St)(o:aP):Option St:=
 match wanted s.az o.g with
 | some ae=>match ei call s o.op with
  | some (v,s')=>aa { s' with az:=jb s'.az o.dst v }
  | none=>ab
 | some ag=>aa { s with az:=jb s.az o.dst (.t []) }
 | none=>ab
def fe(call:cC):List aP→St→Option St
 | [],s=>aa s
 | o::os,s=>match fj call s o with
  | some s'=>fe call os s'| none=>ab
def dv(call:cC):List aP→St→Option (List St)
 | [],s=>aa [s]
 | o::os,s=>match fj call s o with
  | some s'=>match dv call os s' with
   | some b=>aa (s::b)| none=>ab
  | none=>ab
def sameAt(ops:List aP)(b:List St)(c:Nat × Nat):Bool:=
 match ops[c.1]?,b[c.1]?,b[c.2]? with
 | some o,aa s,aa s'=>match wanted s.az o.g with
  | some ag=>ae
  | _=>match bs s.az s.heap o.op,bs s.az s'.heap o.op with
   | some (v,_),aa (d,_)=>v.beq d| _,_=>ag
 | _,_,_=>ag
def fE(call:cC)(ops:List aP)(b:List (Nat × Nat))(s:St):Option St:=
 match b with
 | []=>fe call ops s
 | _=>match dv call ops s with
  | some d=>if b.all (sameAt ops d)then d.getLast? else ab| none=>ab
def cG.dP:cG→Bool
 | .defer _ _ | .recover=>ag| _=>ae
inductive cd where
 | code (c:av)
 | inBlock (id:Nat)
 | inLoop (c:av)
 | ib (b:Nat)
 | lQ
 | inScope (a:av)
def exitTo(id:Nat):List cd→Option (List cd)
 | []=>ab| .inBlock b::k=>if b == id then aa k else exitTo id k| _::k=>exitTo id k
def findLabel:av→Nat→Option av
 | .seq a b,l=>match findLabel a l with
  | some rest=>aa (.seq rest b)| none=>findLabel b l
 | .label d,l=>if d == l then aa .skip else ab| _,_=>ab
def gotoIn(l:Nat):List cd→Option (List cd)
 | []=>ab
 | .inScope body::k=>match findLabel body l with
  | some rest=>aa (.code rest::.inScope body::k)| none=>gotoIn l k
 | _::k=>gotoIn l k
def C.et(n:Nat):C→Bool
 | .f _=>ae| .ptr b _ _=>decide (b<n)| .sl b _ _ _ _ _=>decide (b<n)| .cl _ _=>ag| .yl b=>decide (b<n)| .mp b=>decide (b<n)| .it b=>decide (b<n)| .mi b=>decide (b<n)| .bm _ _=>ag
def C.under(n:Nat):C→Bool
 | .cl _ d=>d.all (·.et n)| .f _=>ae| .ptr b _ _=>decide (b<n)| .sl b _ _ _ _ _=>decide (b<n)| .yl b=>decide (b<n)| .mp b=>decide (b<n)| .it b=>decide (b<n)| .mi b=>decide (b<n)| .bm _ first=>first.all (·.et n)
def run(call:cC)(fn:Nat):Nat→Option Nat→List cd→St→Option (Option av × St)
 | 0,_,_,_=>ab
 | m+1,j,q,s=>
  match q with
  | []=>aa (ab,s)| .inBlock _::k=>run call fn m j k s| .inLoop c::k=>run call fn m j (.code c::.inLoop c::k) s
  | .ib b::k=>match s.heap[b]? with
   | some (.lp f tmps ps as bd st pending d)=>
    if st=.busy then ab else
    let s:={ s with heap:=s.heap.set b (.lp f tmps ps as bd .exhausted pending d) }
    match pending with
    | none=>run call fn m j k s| some .ret=>run call fn m j (.code .ret::k) s| some (.exit id)=>run call fn m j (.code (.exit id)::k) s| some _=>ab
   | _=>ab
  | .lQ::k=>match j with
   | none=>ab
   | some b=>match s.heap[b]? with
    | some (.lp f tmps ps as bd .ready pending d)=>run call fn m j k { s with heap:=s.heap.set b (.lp f tmps ps as bd .busy pending d) }
    | _=>ab
  | .code .skip::k=>run call fn m j k s| .inScope _::k=>run call fn m j k s| .code (.label _)::k=>run call fn m j k s| .code (.scope a)::k=>run call fn m j (.code a::.inScope a::k) s
  | .code (.goto l)::k=>match gotoIn l k with
   | some k=>run call fn m j k s| none=>ab
  | .code .bad::_=>ab| .code .ret::_=>aa (aa .ret,s)
  | .code (.exit id)::k=>match exitTo id k with
   | some k=>run call fn m j k s| none=>if j.isSome then aa (aa (.exit id),s)else ab
  | .code (.seq a b)::k=>run call fn m j (.code a::.code b::k) s| .code (.block id a)::k=>run call fn m j (.code a::.inBlock id::k) s| .code (.loop a)::k=>run call fn m j (.code a::.inLoop a::k) s
  | .code (.cond c a b)::k=>match c.ev s.az with
   | .c (.f (.bool v))=>run call fn m j (.code (if v then a else b)::k) s| _=>ab
  | .code (.region ops u)::k=>
   if j.isSome&&!ops.all (·.op.dP)then ab else
   match fE call ops u s with
   | some s=>run call fn m j k s| none=>ab
  | .code (.jI f ps as bd)::k=>
   if j.isSome then ab else
   let d:=s.heap.length
   let H:=s.heap++[.jF ae,.lp fn s.az ps as bd .ready ab d]
   match bQ (f.ev s.az) [.c (.yl (d+1))]with
   | some (.fn g,args)=>match call (.fn g) args H with
    | some (_,H)=>run call fn m j (.ib (d+1)::k) { az:=s.az,defs:=.ov d::s.defs,heap:=H }| none=>ab
   | _=>ab
def lF:Nat:=1000000000
def dJ(call:cC):List dw→aj→Option aj
 | [],H=>aa H
 | .ov b::ds,H=>match H[b]? with
  | some (.jF ae)=>dJ call ds (H.set b (.jF ag))| _=>ab
 | .fn f args::ds,H=>if f=lF then ab else match call (.fn f) args H with
  | some (_,H)=>dJ call ds H| none=>ab
def bJ(az:T)(H:aj):ie→Option V
 | .tmp t=>match az.get t with
  | .t _=>ab| v=>aa v
 | .cell t n=>aX H n (az.get t)
def results(az:T)(H:aj)(b:List ie):Option V:=
 match bj (bJ az H) b with
 | some [v]=>aa v| some d=>aa (.t d)| none=>ab
def cu:List P→List V→T→T
 | p::ps,v::b,az=>cu ps b (az.set p v)| _,_,az=>az
def dG(tab:Nat→Option aD)(g:Nat→List V→aj→Option (Option (V × aj)))(m:Nat):Nat→cC
 | 0,_,_,_=>ab
 | d+1,.fn f,args,H=>
  match g f args H with
  | some r=>r
  | none=>match tab f with
   | none=>ab
   | some q=>if args.length=q.ps.length then match run (dG tab g m d) f m ab [.code q.body] ⟨cu q.ps args .e,[],H⟩with
    | some (_,s)=>match dJ (dG tab g m d) s.defs s.heap with
     | some H=>(results s.az H q.results).map (·,H)| none=>ab
    | none=>ab
    else ab
 | d+1,.yield b,args,H=>
  match H[b]? with
  | some (.lp f tmps ps as bd _ _ _)=>
   if args.length=ps.length then
    match run (dG tab g m d) f m (aa b) [.code as,.lQ,.code bd] ⟨cu ps args tmps,[],H⟩with
    | some (j,s)=>
     if s.defs.isEmpty then
      match s.heap[b]? with
      | some (.lp y l v as' u _ _ x)=>aa (.bool j.isNone,s.heap.set b (.lp y l v as' u (if j.isNone then .ready else .done) j x))| _=>ab
     else ab
    | none=>ab
   else ab
  | _=>ab
section
variable(Q:Program)(σ:Nat→FuncId)
def afQ:Value→Bool
 | .agg _ | .tuple _=>ag| _=>ae
def aeR:Value→Bool
 | .agg _=>ae| _=>ag
def mK1:FC→Value→Bool
 | .bool a,.bool b=>a == b| .int j a,.int k b=>decide (j=k)&&decide (a=b)| .str a,.string b=>decide (a=b)| .fY,.pointer ab=>ae| .aE,.slice ab 0 0=>ae| .jj,.nilFunc=>ae| .lG,.nilIface=>ae| .vq,.map ab=>ae| _,_=>ag
def fy{α β:Type}(f:α→β→Bool):List α→List β→Bool
 | [],[]=>ae| x::xs,y::ys=>f x y&&fy f xs ys| _,_=>ag
def mK:V→Value→Bool
 | .c (.f x),v=>mK1 x v| .a xs,.agg us=>fy (fun x u=>match x with | C.f x=>mK1 x u | _=>ag) xs us.toList
 | .top,.tuple us=>us.isEmpty| _,_=>ag
def mA:Arg→Operand→Bool
 | .r p,.tmp t=>p.toNat == t| .k v,.const u=>mK v u| .k (.c (.f (.fn f []))),.func g=>σ f == g| _,_=>ag
def XF(xs:List Arg)(ys:Array Operand):Bool:=fy (mA σ) xs ys.toList
def mO:Option Arg→Option Operand→Bool
 | none,ab=>ae| some x,aa y=>mA σ x y| _,_=>ag
def db(t:TypeId)(n:Nat):Bool:=(Q.info? t).any fun i=>i.size == n
def mB(t:TypeId)(n:Nat):Bool:=(Q.info? t).any fun i=>i.bytes == n
def km(t:TypeId)(zs:List FC):Bool:=(Q.info? t).any fun i=>match i.zero with
 | some z=>fy mK1 zs z.cells.toList| none=>ag
def uL(t:TypeId)(n:Option Nat):Bool:=match Q.underlying t,n with
 | some (.struct _),aa n | some (.array _ _),aa n=>db Q t n| some (.struct _),ab | some (.array _ _),ab=>ag| some _,ab=>ae| _,_=>ag
def hY:Nat→TypeId→Option (List CK)
 | 0,_=>ab
 | d+1,t=>match Q.underlying t with
  | some .bool=>if db Q t 1 then aa [.bool]else ab| some (.int _)=>if db Q t 1 then aa [.int]else ab| some .string=>if db Q t 1 then aa [.str]else ab
  | some (.struct fs)=>if Q.stoodInHeld t then ab else match oB (hY d) 0 fs.toList with
   | some ks=>if db Q t ks.length then aa ks else ab| none=>ab
  | _=>ab
 where
 oB (rec:TypeId→Option (List CK)) (off:Nat):List Field→Option (List CK)
  | []=>aa []
  | f::fs=>if f.name≠ "_"∧f.offset=off then match rec f.type with
    | some ks=>match oB rec (off+ks.length) fs with
     | some r=>aa (ks++r)| none=>ab
    | none=>ab
   else ab
def rn:Operand→Bool
 | .const _=>ae| _=>ag
def mEq(k:Jw)(t:TypeId)(x y:Operand):Bool:=match Q.underlying t,k with
 | some .bool,.bool | some (.pointer _),.ptr | some (.slice _),.sl | some (.func _ _ _),.fn=>ae| some (.interface _),.ifc=>rn x||rn y| some (.struct _),.st ks=>decide (hY Q 20 t=aa ks)&&!Q.eqGuardType Q.depth t| _,_=>ag
def lV(t:TypeId):Option TypeId:=match Q.underlying t with
 | some (.slice e)=>aa e| _=>ab
def aja(t:TypeId):Bool:=match Q.underlying t with
 | some (.int .u8)=>ae| _=>ag
def dz(c:Call):cG→Bool
 | .len x=>match c.callee,c.args.toList,c.argTypes.toList with
  | .builtin .len,[y],[t]=>mA σ x y&&(match Q.underlying t with | some (.slice _)=>ae | _=>ag)
  | _,_,_=>ag
 | .lens x=>match c.callee,c.args.toList,c.argTypes.toList with
  | .builtin .len,[y],[t]=>mA σ x y&&(match Q.underlying t with | some .string=>ae | _=>ag)
  | _,_,_=>ag
 | .tP n=>match c.callee,c.args.toList,c.argTypes.toList with
  | .builtin .len,[_],[t]=>(match Q.underlying t with | some (.array m _)=>decide (n=m) | _=>ag)
  | _,_,_=>ag
 | .append sz bytes x y=>match c.callee,c.args.toList,c.argTypes.toList with
  | .builtin .append,[u,v],[t,b]=>mA σ x u&&mA σ y v&&(lV Q t).any (fun e=>db Q e sz&&mB Q e bytes&&decide (0<sz)&&(Q.info? e).any (fun i=>i.zero.any fun z=>decide (z.cells.size=sz)))
    && (match Q.underlying b with | some .string=>ae | some (.slice _)=>ae | _=>ag)
  | _,_,_=>ag
 | .rQ sz bytes zs x y=>match c.callee,c.args.toList,c.argTypes.toList with
  | .builtin .append,[u,v],[t,b]=>mA σ x u&&mA σ y v&&(lV Q t).any (fun e=>db Q e sz&&mB Q e bytes&&decide (0<sz)&&km Q e zs)
    && (match Q.underlying b with | some (.int _)=>ae | _=>ag)
  | _,_,_=>ag
 | .copy sz x y=>match c.callee,c.args.toList,c.argTypes.toList with
  | .builtin .copy,[u,v],[t,_]=>mA σ x u&&mA σ y v&&(lV Q t).any (fun e=>db Q e sz)
  | _,_,_=>ag
 | .mh lo xs=>match c.callee,lo with
  | .builtin .max,ag | .builtin .min,ae=>XF σ xs c.args| _,_=>ag
 | .cap x=>match c.callee,c.args.toList,c.argTypes.toList with
  | .builtin .cap,[y],[t]=>mA σ x y&&(match Q.underlying t with | some (.slice _)=>ae | _=>ag)
  | _,_,_=>ag
 | .clear sz zs x=>match c.callee,c.args.toList,c.argTypes.toList with
  | .builtin .clear,[y],[t]=>mA σ x y&&(lV Q t).any (fun e=>db Q e sz&&km Q e zs)
  | _,_,_=>ag
 | .recover=>match c.callee with
  | .builtin .recover=>ae| _=>ag
 | .call f xs _=>match c.callee with
  | .value (.func g)=>σ f == g&&XF σ xs c.args| _=>ag
 | .bP x xs _=>match c.callee with
  | .value y=>mA σ x y&&XF σ xs c.args| _=>ag
 | _=>ag
def Kr(b:CK)(t:TypeId):Bool:=match Q.underlying t,b with
 | some (.int _),.int | some .string,.str | some .bool,.bool=>ae| _,_=>ag
def VL(t:TypeId)(qs:List (Nat × Nat × Arg))(ps:List (Nat × Operand)):Bool:=match Q.underlying t with
 | some (.struct b)=>match b.toList.mapM (fun f=>(Q.info? f.type).map fun i=>(f.offset,i.size))with
  | some d=>fy (fun(q:Nat × Nat × Arg) (p:Nat × Operand)=>decide (d[p.1]?=aa (q.1,q.2.1))&&mA σ q.2.2 p.2) qs ps
  | none=>ag
 | some (.array _ e)=>match Q.info? e with
  | some i=>fy (fun(q:Nat × Nat × Arg) (p:Nat × Operand)=>i.size == q.2.1&&q.1 == p.1*q.2.1&&mA σ q.2.2 p.2) qs ps
  | none=>ag
 | _=>ag
def dq(o:Oper)(a:cG):Bool:=match a with
 | .bad=>ae| .bB y=>(match o.op with | .move x | .assign x=>mA σ y x | _=>ag)
 | .pre .nil sz=>(match o.op with | .move (.const (.slice ab 0 0)) | .assign (.const (.slice ab 0 0))=>decide (0<sz) | _=>ag)
 | .pick K A H=>(match o.op with | .pick c x y=>mA σ K c&&mA σ A x&&mA σ H y | _=>ag)
 | .alloc zs=>(match o.op with | .alloc t=>km Q t zs | _=>ag)
 | .box y=>(match o.op with | .box _ x=>mA σ y x | _=>ag)
 | .build zs qs=>(match o.op with | .build t ps=>km Q t zs&&VL Q σ t qs ps.toList | _=>ag)
 | .aU sz zs n' qs=>(match o.op with | .buildSlice t n ps=>n == n'&&decide (n*sz≤2 ^ 24)&&(lV Q t).any (fun e=>db Q e sz&&km Q e zs&&decide (zs.length=sz))&&decide (0<sz)&&fy (fun(q:Nat × Arg) (p:Nat × Operand)=>q.1 == p.1&&mA σ q.2 p.2) qs ps.toList | _=>ag)
 | .gu sz zs n' qs=>(match o.op with | .buildSlice t n ps=>n == n'&&decide (n*sz≤2 ^ 24)&&(lV Q t).any (fun e=>db Q e sz&&km Q e zs&&decide (zs.length=sz))&&decide (0<sz)&&fy (fun(q:Nat × Arg) (p:Nat × Operand)=>q.1 == p.1&&mA σ q.2 p.2) qs ps.toList | _=>ag)
 | .load n y=>(match o.op with | .load t x=>uL Q t n&&mA σ y x | _=>ag)
 | .store n A H=>(match o.op with | .store t x y=>db Q t n&&mA σ A x&&mA σ H y | _=>ag)
 | .bw y=>(match o.op with | .nilCheck x=>mA σ y x | _=>ag)
 | .bin F A H=>(match o.op with | .binOp op t x y _=>decide (op=F)&&mA σ A x&&mA σ H y | _=>ag)
 | .eq neg k A H=>(match o.op with | .binOp op t x y _=>decide (op=if neg then .neq else .eql)&&mA σ A x&&mA σ H y&&mEq Q k t x y | _=>ag)
 | .un F y=>(match o.op with | .unOp op _ x=>decide (op=F)&&mA σ y x | _=>ag)
 | .eM k y=>(match o.op with | .convert s d x=>mA σ y x&&(Q.underlying s).isSome&&(match Q.underlying d with | some (.int k')=>decide (k=k') | _=>ag) | _=>ag)
 | .yo y=>(match o.op with | .convert s d x=>mA σ y x&&(match Q.underlying s,Q.underlying d with | some .string,aa .string=>ae | _,_=>ag) | _=>ag)
 | .vk y=>(match o.op with | .convert s d x=>mA σ y x&&(match Q.underlying s,Q.underlying d with | some (.slice e),aa .string=>aja Q e&&db Q e 1 | _,_=>ag) | _=>ag)
 | .jZ g ys=>(match o.op with | .makeFunc (.func f) fst B=>fst.isEmpty&&σ g == f&&XF σ ys B | _=>ag)
 | .jt=>(match o.op with | .makeMap _ ab=>ae | _=>ag)
 | .cE sz bytes zs O K=>(match o.op with | .makeSlice t l c=>mA σ O l&&mA σ K c&&(lV Q t).any (fun e=>db Q e sz&&mB Q e bytes&&km Q e zs)&&decide (0<sz) | _=>ag)
 | .slice sz y E b mx'=>(match o.op with | .slice t x lo hi mx=>mA σ y x&&mO σ E lo&&mO σ b hi&&mO σ mx' mx&&(lV Q t).any (fun e=>db Q e sz)&&decide (0<sz) | _=>ag)
 | .vG sz y b mx'=>(match o.op with | .slice t x ab (aa hi) (aa mx)=>mA σ y x&&mA σ b hi&&mA σ mx' mx&&(lV Q t).any (fun e=>db Q e sz)&&decide (0<sz) | _=>ag)
 | .pM y E b=>(match o.op with | .slice t x lo hi ab=>mA σ y x&&mO σ E lo&&mO σ b hi&&(match Q.underlying t with | some .string=>ae | _=>ag) | _=>ag)
 | .nw n sz y E b mx'=>(match o.op with | .slice t x lo hi mx=>mA σ y x&&mO σ E lo&&mO σ b hi&&mO σ mx' mx&&(match Q.underlying t with | some (.array n' e)=>n == n'&&db Q e sz | _=>ag)&&decide (0<sz) | _=>ag)
 | .aB off y=>(match o.op with | .fieldAddr t x i=>mA σ y x&&(match Q.underlying t with | some (.struct M)=>(match M[i]? with | some f=>f.offset == off&&(Q.info? f.type).any (fun i=>i.size != 0) | none=>ag) | _=>ag) | _=>ag)
 | .field off n y=>(match o.op with | .field t x i=>mA σ y x&&(match Q.underlying t with | some (.struct M)=>(match M[i]? with | some f=>f.offset == off&&uL Q f.type n | none=>ag) | _=>ag) | _=>ag)
 | .aV sz J A I=>(match o.op with | .indexAddr t x i=>mA σ A x&&mA σ I i&&(match Q.underlying t,J with | some (.slice e),ab=>db Q e sz | some (.array n e),aa n'=>n == n'&&db Q e sz | _,_=>ag) | _=>ag)
 | .idxs A I=>(match o.op with | .index t x i=>mA σ A x&&mA σ I i&&(match Q.underlying t with | some .string=>ae | _=>ag) | _=>ag)
 | .oE n sz k A I=>(match o.op with | .index t x i=>mA σ A x&&mA σ I i&&(match Q.underlying t with | some (.array n' e)=>n == n'&&db Q e sz&&uL Q e k | _=>ag) | _=>ag)
 | .lookup L z N k'=>(match o.op with | .lookup t m k S=>mA σ N m&&mA σ k' k&&(S ==(rX z).isSome)&&(match Q.underlying t with | some (.map kt e)=>Kr Q L kt&&km Q e (qZ ((rX z).getD z))&&(Q.info? e).any (fun i=>i.zero.any fun u=>if EJ ((rX z).getD z)then aeR u else afQ u) | _=>ag) | _=>ag)
 | .jr L N k' U=>(match o.op with | .mapUpdate t m k v=>mA σ N m&&mA σ k' k&&mA σ U v&&(match Q.underlying t with | some (.map kt _)=>Kr Q L kt | _=>ag) | _=>ag)
 | .range y=>(match o.op with | .range t x=>mA σ y x&&(match Q.underlying t with | some .string=>ae | _=>ag) | _=>ag)
 | .next y=>(match o.op with | .next x ae=>mA σ y x | _=>ag)
 | .extract y j=>(match o.op with | .extract x i=>mA σ y x&&i == j | _=>ag)
 | .defer x xs=>(match o.op with | .defer c=>(match c.callee with | .value y=>mA σ x y&&XF σ xs c.args | _=>ag) | _=>ag)
 | .len x=>(match o.op with | .call c=>dz Q σ c (.len x) | _=>ag)
 | .lens x=>(match o.op with | .call c=>dz Q σ c (.lens x) | _=>ag)
 | .tP n=>(match o.op with | .call c=>dz Q σ c (.tP n) | _=>ag)
 | .append sz bytes x y=>(match o.op with | .call c=>dz Q σ c (.append sz bytes x y) | _=>ag)
 | .mh lo xs=>(match o.op with | .call c=>dz Q σ c (.mh lo xs) | _=>ag)
 | .rQ sz bytes zs x y=>(match o.op with | .call c=>dz Q σ c (.rQ sz bytes zs x y) | _=>ag)
 | .cap x=>(match o.op with | .call c=>dz Q σ c (.cap x) | _=>ag)
 | .clear sz zs x=>(match o.op with | .call c=>dz Q σ c (.clear sz zs x) | _=>ag)
 | .kS y=>(match o.op with | .range t x=>mA σ y x&&(match Q.underlying t with | some (.map _ _)=>ae | _=>ag) | _=>ag)
 | .oO y=>(match o.op with | .next x ag=>mA σ y x | _=>ag)
 | .entry y=>(match o.op with | .entry x=>mA σ y x | _=>ag)
 | .vm g ys=>(match o.op with | .makeFunc (.func f) fst B=>B.isEmpty&&σ g == f&&XF σ ys fst | _=>ag)
 | .recover=>(match o.op with | .call c=>dz Q σ c (.recover) | _=>ag)
 | .call f xs h=>(match o.op with | .call c=>dz Q σ c (.call f xs h) | _=>ag)
 | .bP x xs h=>(match o.op with | .call c=>dz Q σ c (.bP x xs h) | _=>ag)
 | _=>ag
inductive Cls where | p | r | a | c | w
 deriving DecidableEq
def cls:cG→Cls
 | .bB _ | .pick .. | .build .. | .un .. | .eM .. | .yo _ | .jZ .. | .pM .. | .aB .. | .field .. | .idxs .. | .oE .. | .extract .. | .mh .. | .vm .. | .bw _ | .bin .. | .tP _ | .lens _ | .gu ..=>.p| .load .. | .eq .. | .len _ | .slice .. | .nw .. | .aV .. | .lookup .. | .vk _ | .cap _ | .entry _=>.r| .alloc _ | .box _ | .jt=>.a| .aU .. | .cE ..=>.a| .call _ _ ag=>.c| _=>.w
def Arg.rd:Arg→List P
 | .r p=>[p]| .k _=>[]
def oRd:Option Arg→List P
 | some x=>x.rd| none=>[]
def cG.rd:cG→List P
 | .bB x | .box x | .load _ x | .bw x | .un _ x | .eM _ x | .yo x | .vk x | .Du x | .aB _ x | .field _ _ x | .range x | .next x | .extract x _ | .len x | .lens x | .cap x | .clear _ _ x | .kS x | .oO x | .entry x=>x.rd| .pre _ _ | .alloc _ | .jt | .recover | .tP _ | .bad=>[]| .pick c a b=>c.rd++a.rd++b.rd| .build _ ps=>ps.flatMap fun p=>p.2.2.rd
 | .aU _ _ _ ps | .gu _ _ _ ps=>ps.flatMap fun p=>p.2.rd
 | .store _ x y | .bin _ x y | .eq _ _ x y | .aV _ _ x y | .idxs x y | .oE _ _ _ x y | .append _ _ x y | .copy _ x y | .rQ _ _ _ x y | .lookup _ _ x y | .cE _ _ _ x y=>x.rd++y.rd| .jr _ x y z | .vG _ x y z=>x.rd++y.rd++z.rd| .jZ _ xs | .call _ xs _ | .mh _ xs | .vm _ xs=>xs.flatMap Arg.rd| .bP x xs _ | .defer x xs=>x.rd++xs.flatMap Arg.rd| .slice _ x a b c | .nw _ _ x a b c=>x.rd++oRd a++oRd b++oRd c| .pM x a b=>x.rd++oRd a++oRd b
def aP.rd(o:aP):List P:=(match o.g with | some (p,_)=>[p] | none=>[])++o.op.rd
def aP.apart(x y:aP):Bool:=
 (match x.dst with | some d=>!y.rd.contains d&&y.dst != aa d | none=>ae)&&(match y.dst with | some d=>!x.rd.contains d | none=>ae)
def tt(x y:aP):Bool:=
 match cls x.op,cls y.op with
 | .p,_ | _,.p=>ae| .r,.w | .w,.r=>ae| .w,_ | _,.w=>ag| _,_=>ae
def mf(b:List Nat)(o:Oper):Nat:=o.after.toList.foldl (fun s e=>if Region.binds .any e then s ||| 2 ^ e.on ||| b.getD e.on 0 else s) 0
def de:List Oper→List Nat→List Nat
 | [],b=>b| o::os,b=>de os (b++[mf b o])
def zD(b:List Nat)(i j:Nat):Bool:=(b.getD j 0).testBit i
def mY(aos:List aP):List Nat:=(List.range aos.length).filter fun j=>match aos[j]? with
 | some y=>decide (cls y.op=.w)| none=>ag
def phase(aos:List aP)(i:Nat):Nat:=i+((aos.drop i).takeWhile fun y=>decide (cls y.op≠.w)).length
def Fq(b:List Nat)(aos:List aP)(i e:Nat):Bool:=
 (mY aos).all fun j=>if j<e then !zD b i j else !zD b j i
def aaZ(b:List Nat)(aos:List aP)(j:Nat):Bool:=match aos[j]? with
 | some y=>(match y.op with | .alloc _=>ae | _=>ag)&&(mY aos).any fun e=>decide (e<j)&&!zD b e j
 | none=>ag
def jW(b:List Nat)(aos:List aP):Nat:=((List.range aos.length).find? (aaZ b aos)).getD aos.length
def E3(b:List Nat)(aos:List aP)(j:Nat):Bool:=match aos[j]? with
 | some y=>y.g.isNone&&(match y.op with | .alloc _=>ae | _=>ag)&&(match y.dst with
  | some p=>(List.range aos.length).all fun i=>match aos[i]? with
   | some z=>!z.rd.contains p||(mY aos).all fun e=>!decide (e<j)||zD b e i
   | none=>ae
  | none=>ag)
 | none=>ae
def V4(ops:List Oper)(aos:List aP)(d:List (Nat × Nat)):Bool:=
 let b:=de ops []
 let n:=aos.length
 ((ops.zip (List.range n)).all fun o=>o.1.after.toList.all fun e=>!Region.binds .any e||decide (e.on<o.2)) &&
 ((List.range n).all fun j=>(List.range j).all fun i=>zD b i j||(match aos[i]?,aos[j]? with
  | some x,aa y=>x.apart y&&(tt x y||(decide (j=jW b aos)&&decide (cls x.op=.w)))
  | _,_=>ag)) &&
 E3 b aos (jW b aos) &&
 ((List.range n).all fun i=>match aos[i]? with
  | some x=>if cls x.op=.r then(mY aos++[n]).all fun e=>e == phase aos i||!Fq b aos i e||d.contains (i,e)else ae
  | none=>ag)
variable(Q:Program)(σ:Nat→FuncId)
def jY(n:Nat)(ops:Array Oper)(o:Oper)(a:aP):Bool:=
 dq Q σ o a.op &&
 (match o.dst,a.dst with | some d,aa p=>p.toNat == d&&decide (d<n) | none,ab=>ae | _,_=>ag) &&
 (match o.guard,a.g with
  | some (j,w),aa (p,w')=>w == w'&&(match (ops[j]?).bind (·.dst)with | some d=>p.toNat == d&&decide (d<n) | none=>ag)
  | none,ab=>ae
  | _,_=>ag)
def kW:av→Bool
 | .seq a b=>kW a&&kW b| .bad=>ag| _=>ae
def bT(n:Nat):Code→av→Bool
 | _,.bad=>ae| .skip,.skip=>ae| .region _ ops g,.region aos j=>fy (jY Q σ n ops) ops.toList aos&&(!g||V4 ops.toList aos j)| .seq a b,.seq a' d=>bT n a a'&&bT n b d| .cond c a b,.cond v a' d=>mA σ v c&&bT n a a'&&bT n b d| .block i a,.block m a'=>i == m&&bT n a a'| .loop a,.loop a'=>bT n a a'| .rangeFunc f ps a b,.jI x u a' d=>mA σ x f&&fy (fun p (q:P)=>q.toNat == p&&decide (p<n)) ps.toList u&&bT n a a'&&bT n b d
 | .exit i,.exit m=>i == m| .scope a,.scope a'=>bT n a a'&&kW a'| .label l,.label s=>l == s| .goto l,.goto s=>l == s| .ret,.ret=>ae| _,_=>ag
def yM(n:Nat):ResultVar→ie→Bool
 | .tmp t,.tmp p=>p.toNat == t&&decide (t<n)| .cell t b,.cell p k=>p.toNat == t&&decide (t<n)&&uL Q b k| _,_=>ag
def Fl(f:Func)(a:aD):Bool:=
 f.name != "runtime.NumGoroutine" &&
 (match f.body with | some b=>bT Q σ f.ntmps b a.body | none=>ag) &&
 fy (yM Q f.ntmps) f.results.toList a.results &&
 decide (a.ps.map P.toNat=List.range a.ps.length)
end
section
def A2{α β:Type}(R:α→β→Prop)(xs:List α)(ys:List β):Prop:=
 xs.length=ys.length∧∀(i:Nat) x y,xs[i]?=aa x→ys[i]?=aa y→R x y
section A2
variable{α β:Type}{R S:α→β→Prop}{xs xs':List α}{ys ys':List β}
theorem A2.len(h:A2 R xs ys):xs.length=ys.length:=h.1
theorem A2.nil:A2 R [] []:=⟨rfl,by simp⟩
theorem A2.mono(h:A2 R xs ys)(d:∀ x y,x ∈ xs→R x y→S x y):A2 S xs ys:=
 ⟨h.1,fun i x y b hy=>d x y (List.mem_of_getElem? b) (h.2 i x y b hy)⟩
theorem A2.get(h:A2 R xs ys){i:Nat}{x:α}(b:xs[i]?=aa x):∃ y,ys[i]?=aa y∧R x y:=by
 have hi:i<xs.length:=(By.1 b).1;have hy:i<ys.length:=h.1▸hi;exact⟨ys[i],At hy,h.2 i x _ b (At hy)⟩
theorem A2.cons{x:α}{y:β}(j:R x y)(h:A2 R xs ys):A2 R (x::xs) (y::ys):=
 ⟨by simp [h.1],fun i a b d g=>by
  cases i with
  | zero=>simp at d g;subst d;subst g;exact j
  | succ i=>simp at d g;exact h.2 i a b d g⟩
theorem A2.of_cons{x:α}{y:β}(h:A2 R (x::xs) (y::ys)):R x y∧A2 R xs ys:=
 ⟨h.2 0 x y rfl rfl,by simpa using h.1,fun i a b d g=>h.2 (i+1) a b (by simpa using d) (by simpa using g)⟩
theorem A2.append(h:A2 R xs ys)(j:A2 R xs' ys'):A2 R (xs++xs') (ys++ys'):=
 ⟨by simp [h.1,j.1],fun i a b d g=>by
  by_cases hi:i<xs.length
  ·rw [AI hi]at d;rw [AI (h.1▸hi)]at g;exact h.2 i a b d g
  ·rw [aqJ (by omega)]at d;rw [aqJ (by have:=h.1;omega),←h.1]at g;exact j.2 _ a b d g⟩
theorem A2.take(h:A2 R xs ys)(n:Nat):A2 R (xs.take n) (ys.take n):=
 ⟨by simp [h.1],fun i a b d g=>by
  rw [aqT]at d g;split at d
  ·rename_i hi;simp only [hi,if_true]at g;exact h.2 i a b d g
  ·simp at d⟩
theorem A2.drop(h:A2 R xs ys)(n:Nat):A2 R (xs.drop n) (ys.drop n):=
 ⟨by simp [h.1],fun i a b d g=>by
  rw [aqF]at d g;exact h.2 _ a b d g⟩
theorem A2.map{l:Type}{g:l→α}{zs:List l}(h:A2 (fun z y=>R (g z) y) zs ys):A2 R (zs.map g) ys:=
 ⟨by simpa using h.1,fun i a b d m=>by
  rw [ari]at d;cases j:zs[i]? with
  | none=>rw [j]at d;simp at d
  | some z=>rw [j]at d;simp at d;subst d;exact h.2 i z b j m⟩
theorem A2.kr(h:A2 R xs ys)(b:∀ x y,R x y→S x y):A2 S xs ys:=h.mono fun x y _=>b x y
end A2
inductive cB(σ:Nat→FuncId)(F:Nat→Nat→Prop)(w:World):FC→Value→Prop
 | bool (b:Bool):cB σ F w (.bool b) (.bool b)
 | int (k:IntKind) (n:Int):cB σ F w (.int k n) (.int k n)
 | str (s:ByteArray):cB σ F w (.str s) (.string s)
 | fY:cB σ F w .fY (.pointer ab)
 | aE:cB σ F w .aE (.slice ab 0 0)
 | es (a:Addr):cB σ F w .es (.slice (aa a) 0 0)
 | jj:cB σ F w .jj .nilFunc
 | lG:cB σ F w .lG .nilIface
 | vq:cB σ F w .vq (.map ab)
 | fp (cs:List FC) (off c o:Nat) (us:List Value) (hl:us.length=cs.length) (hF:∀ i,i<cs.length→F c (o+i))
   (hc:∀(i:Nat) u,us[i]?=aa u→w.cell? ⟨c,o+i,ab⟩=aa u) (hr:∀(i:Nat) x u,cs[i]?=aa x→us[i]?=aa u→cB σ F w x u) :
   cB σ F w (.fp cs off) (.pointer (aa ⟨c,o+off,ab⟩))
 | fs (cs:List FC) (l c o cap:Nat) (us:List Value) (DD:l≤cap) (hl:us.length=cs.length) (hF:∀ i,i<cs.length→F c (o+i))
   (hc:∀(i:Nat) u,us[i]?=aa u→w.cell? ⟨c,o+i,ab⟩=aa u) (hr:∀(i:Nat) x u,cs[i]?=aa x→us[i]?=aa u→cB σ F w x u) :
   cB σ F w (.fs cs l) (.slice (aa ⟨c,o,ab⟩) l cap)
 | fs0 (a:Addr) (cap:Nat):cB σ F w (.fs [] 0) (.slice (aa a) 0 cap)
 | fn (f:Nat) (JI:List FC) (us:List Value) (hl:us.length=JI.length) (hr:∀(i:Nat) x u,JI[i]?=aa x→us[i]?=aa u→cB σ F w x u) :
   cB σ F w (.fn f JI) (.func (.func (σ f)) #[] us.toArray)
theorem cB.mono{σ:Nat→FuncId}{F q:Nat→Nat→Prop}{w w':World}(s:∀ c i,F c i→q c i)
  (y:∀ c i,F c i→w'.cell? ⟨c,i,ab⟩=w.cell? ⟨c,i,ab⟩) {x:FC} {v:Value} (h:cB σ F w x v):cB σ q w' x v:=by
 induction h with
 | fp cs off c o us d b hc hr m=>
  refine .fp cs off c o us d (fun i hi=>s _ _ (b i hi)) (fun i u hu=>?_) m;rw [y c (o+i) (b i (by rw [←d];exact(By.1 hu).1))];exact hc i u hu
 | fs cs l c o cap us j d b hc hr m=>
  refine .fs cs l c o cap us j d (fun i hi=>s _ _ (b i hi)) (fun i u hu=>?_) m;rw [y c (o+i) (b i (by rw [←d];exact(By.1 hu).1))];exact hc i u hu
 | fn f g us d hr m=>exact .fn f g us d m| _=>constructor
theorem cB.one{σ:Nat→FuncId}{F:Nat→Nat→Prop}{w:World}{x:FC}{v:Value}(h:cB σ F w x v):v.oneCell'=ae:=by
 cases h<;>rfl
structure Loc where
 c:Nat
 cap:Nat
structure Wd where
 bW:Nat→Option Loc
 F:Nat→Nat→Prop
 H:aj
 w:World
 B:Nat
variable(σ:Nat→FuncId)
def fk(X:Wd):C→Value→Prop
 | .f x,v=>cB σ X.F X.w x v
 | .ptr b off g,v=>∃ L,X.bW b=aa L∧match X.H[b]? with
  | some (.box _ _)=>v=.pointer (aa ⟨L.c,off,ab⟩)| some (.bG _ _ _ e .loc)=>g≤e∧(g=e→v=.pointer (aa ⟨L.c,off,ab⟩))∧∃ a,v=.pointer (aa a)| _=>False
 | .sl b o l cap g sz,v=>match X.H[b]? with
  | some (.box _ _)=>∃ L,X.bW b=aa L∧l≤cap∧v=.slice (aa ⟨L.c,o,ab⟩) l cap
  | some (.bG s _ _ e st)=>g≤e∧(g=e→sz=s→match st with
    | .loc=>∃ L,X.bW b=aa L∧∃ k,o=k*s∧k+l≤L.cap∧v=.slice (aa ⟨L.c,o,ab⟩) l (L.cap-k)| .nil=>o=0∧l=0∧v=.slice ab 0 0
    | .es=>o=0∧l=0∧∃ a,v=.slice (aa a) 0 0)∧∃ a n c,v=.slice a n c
  | _=>False
 | .cl _ _,_=>False| .yl b,v=>∃ L,X.bW b=aa L∧(∃ f t p a j s q d,X.H[b]?=aa (.lp f t p a j s q d))∧v=.func (.yield L.c) #[] #[]| .mp b,v=>∃ L,X.bW b=aa L∧(∃ u,X.H[b]?=aa (.map u))∧v=.map (aa L.c)| .it b,v=>∃ L,X.bW b=aa L∧(∃ s p,X.H[b]?=aa (.it s p))∧v=.pointer (aa ⟨L.c,0,ab⟩)| .mi b,v=>∃ L,X.bW b=aa L∧(∃ m s d,X.H[b]?=aa (.uX m s d))∧v=.pointer (aa ⟨L.c,0,ab⟩)| .bm _ _,_=>False
def CR(X:Wd):C→Value→Prop
 | .cl f b,v=>∃ us,v=.func (.func (σ f)) #[] us.toArray∧A2 (fk σ X) b us| .bm f first,v=>∃ us,v=.func (.func (σ f)) us.toArray #[]∧A2 (fk σ X) first us
 | x,v=>fk σ X x v
theorem fk.one{X:Wd}{x:C}{v:Value}(h:fk σ X x v):v.oneCell'=ae:=by
 cases x with
 | f x=>exact cB.one h
 | ptr b off g=>
  obtain⟨L,_,h⟩:=h;split at h
  ·subst h;rfl
  ·obtain⟨_,_,a,rfl⟩:=h;rfl
  ·exact h.elim
 | sl b o l cap g sz=>
  simp only [fk]at h;split at h
  ·obtain⟨L,_,_,rfl⟩:=h;rfl
  ·obtain⟨_,_,a,n,c,rfl⟩:=h;rfl
  ·exact h.elim
 | cl f d=>exact h.elim| yl b=>obtain⟨L,_,_,rfl⟩:=h;rfl
 | mp b=>obtain⟨L,_,_,rfl⟩:=h;rfl
 | it b=>obtain⟨L,_,_,rfl⟩:=h;rfl
 | mi b=>obtain⟨L,_,_,rfl⟩:=h;rfl
 | bm f first=>exact h.elim
theorem CR.one{X:Wd}{x:C}{v:Value}(h:CR σ X x v):v.oneCell'=ae:=by
 cases x with
 | cl f j=>obtain⟨us,rfl,_⟩:=h;rfl
 | bm f first=>obtain⟨us,rfl,_⟩:=h;rfl
 | mi b=>exact fk.one σ (x:=.mi b) h| f y=>exact fk.one σ (x:=.f y) h| ptr a b c=>exact fk.one σ (x:=.ptr a b c) h| sl a b c d e g=>exact fk.one σ (x:=.sl a b c d e g) h| yl b=>exact fk.one σ (x:=.yl b) h| mp b=>exact fk.one σ (x:=.mp b) h| it b=>exact fk.one σ (x:=.it b) h
theorem CR.XI{X:Wd}{x:C}{v:Value}(h:fk σ X x v):CR σ X x v:=by
 cases x with
 | cl f b=>exact h.elim| bm f first=>exact h.elim
 | _=>exact h
def gG(X:Wd):V→Value→Prop
 | .top,_=>True| .c x,v=>CR σ X x v| .a xs,v=>∃ us,v=.agg us.toArray∧A2 (CR σ X) xs us| .t _,_=>False
def VR(X:Wd):V→Value→Prop
 | .t b,v=>∃ us,v=.tuple us.toArray∧A2 (gG σ X) b us| x,v=>gG σ X x v
theorem VR.XI{X:Wd}{x:V}{v:Value}(h:gG σ X x v):VR σ X x v:=by
 cases x with
 | t b=>exact h.elim| _=>exact h
def rowAt(w:World)(c:Nat)(us:List Value):Prop:=
 ∃ e b,w.heap[c]?=aa (.cells us.toArray e b)∧∀ i,i≤us.length→¬(b.1≤i∧i<b.2)
def kY(X X':Wd)(b:Nat):Prop:=
 ∀ bq,X.H[b]?=aa bq→∃ blk',X'.H[b]?=aa blk'∧match bq,blk' with
  | .box _ _,.box _ _=>∀ L,X.bW b=aa L→X'.bW b=aa L| .bG s _ _ e st,.bG s' _ _ j g=>s=s'∧((e=j∧st=g∧∀ L,X.bW b=aa L→X'.bW b=aa L)∨(e<j∧g=.loc∧∃ L,X'.bW b=aa L))| .map _,.map _=>∀ L,X.bW b=aa L→X'.bW b=aa L| .it _ _,.it _ _=>∀ L,X.bW b=aa L→X'.bW b=aa L| .jF _,.jF _=>∀ L,X.bW b=aa L→X'.bW b=aa L| .uX m s _,.uX v s' _=>(m=v∧s=s')∧∀ L,X.bW b=aa L→X'.bW b=aa L| .lp f t p a c _ _ d,.lp u y x a' l _ _ q=>(f=u∧t=y∧p=x∧a=a'∧c=l∧d=q)∧∀ L,X.bW b=aa L→X'.bW b=aa L| _,_=>False
structure Ext(N:Nat)(X X':Wd):Prop where
 B:X'.B=X.B
 F:∀ c i,X.F c i→X'.F c i
 oa:∀ c i,X'.F c i→X.F c i∨X.w.heap.size≤c∨∃ b L,X.bW b=aa L∧L.c=c
 fw:∀ c i,X.F c i→X'.w.cell? ⟨c,i,ab⟩=X.w.cell? ⟨c,i,ab⟩
 bY:∀ b,b<N→kY X X' b
 wT:∀ b L,X'.bW b=aa L→(∃ b0 L0,X.bW b0=aa L0∧L0.c=L.c)∨X.w.heap.size≤L.c
 size:X.w.heap.size≤X'.w.heap.size
 os:X'.w.os=X.w.os
 tape:X'.w.tape=X.w.tape
 output:X'.w.output=X.w.output
 frame:∀ k,k<X.w.heap.size→(∀ b L,X.bW b=aa L→L.c≠k)→X'.w.heap[k]?=X.w.heap[k]?
structure nZ(N:Nat)(X X':Wd):Prop where
 F:∀ c i,X.F c i→X'.F c i
 fw:∀ c i,X.F c i→X'.w.cell? ⟨c,i,ab⟩=X.w.cell? ⟨c,i,ab⟩
 bY:∀ b,b<N→kY X X' b
theorem Ext.W{N:Nat}{X X':Wd}(h:Ext N X X'):nZ N X X':=⟨h.F,h.fw,h.bY⟩
theorem kY.refl(X:Wd)(b:Nat):kY X X b:=fun bq h=>⟨bq,h,by cases bq<;>simp⟩
theorem kY.trans{X Y Z:Wd}{b:Nat}(h:kY X Y b)(k:kY Y Z b):kY X Z b:=by
 intro bq v;obtain⟨blk',s,g⟩:=h bq v;obtain⟨l,m,d⟩:=k blk' s;refine⟨l,m,?_⟩;cases bq<;>cases blk'<;>simp only at g<;>cases l<;>simp only at d ⊢
 case box=>exact fun L j=>d L (g L j)
 case map=>exact fun L j=>d L (g L j)
 case it=>exact fun L j=>d L (g L j)
 case jF=>exact fun L j=>d L (g L j)
 case uX=>
  obtain⟨⟨rfl,rfl⟩,g⟩:=g;obtain⟨⟨rfl,rfl⟩,d⟩:=d;exact⟨⟨rfl,rfl⟩,fun L j=>d L (g L j)⟩
 case lp=>
  obtain⟨⟨rfl,rfl,rfl,rfl,rfl,rfl⟩,g⟩:=g;obtain⟨⟨rfl,rfl,rfl,rfl,rfl,rfl⟩,d⟩:=d;exact⟨⟨rfl,rfl,rfl,rfl,rfl,rfl⟩,fun L j=>d L (g L j)⟩
 case bG=>
  obtain⟨rfl,g⟩:=g;obtain⟨rfl,d⟩:=d;refine⟨rfl,?_⟩;rcases g with⟨rfl,rfl,g⟩ | ⟨g,rfl,L,j⟩
  ·rcases d with⟨rfl,rfl,d⟩ | ⟨d,rfl,L,j⟩
   ·exact .inl ⟨rfl,rfl,fun L j=>d L (g L j)⟩
   ·exact .inr ⟨d,rfl,L,j⟩
  ·rcases d with⟨rfl,rfl,d⟩ | ⟨d,rfl,u,q⟩
   ·exact .inr ⟨g,rfl,L,d L j⟩
   ·exact .inr ⟨by omega,rfl,u,q⟩
theorem Ext.refl(N:Nat)(X:Wd):Ext N X X:=
 ⟨rfl,fun _ _ h=>h,fun _ _ h=>.inl h,fun _ _ _=>rfl,fun b _=>kY.refl X b,fun b L h=>.inl ⟨b,L,h,rfl⟩,IT _,rfl,rfl,rfl,fun _ _ _=>rfl⟩
theorem Ext.trans{N:Nat}{X Y Z:Wd}(h:Ext N X Y)(k:Ext N Y Z):Ext N X Z where
 B:=k.B.trans h.B
 F:=fun c i l=>k.F c i (h.F c i l)
 oa:=fun c i l=>by
  rcases k.oa c i l with d | d | ⟨b,L,g,rfl⟩
  ·exact h.oa c i d
  ·exact .inr (.inl (aqL h.size d))
  ·rcases h.wT b L g with⟨b0,m,q,d⟩ | d
   ·exact .inr (.inr ⟨b0,m,q,d⟩)
   ·exact .inr (.inl d)
 fw:=fun c i l=>(k.fw c i (h.F c i l)).trans (h.fw c i l)
 bY:=fun b g=>(h.bY b g).trans (k.bY b g)
 wT:=fun b L g=>by
  rcases k.wT b L g with⟨b0,m,q,d⟩ | d
  ·rcases h.wT b0 m q with⟨b1,x,s,y⟩ | s
   ·exact .inl ⟨b1,x,s,y.trans d⟩
   ·exact .inr (d▸s)
  ·exact .inr (aqL h.size d)
 size:=aqL h.size k.size
 os:=k.os.trans h.os
 tape:=k.tape.trans h.tape
 output:=k.output.trans h.output
 frame:=fun j u v=>by
  rw [k.frame j (arh u h.size) (fun b L g hc=>?_)]
  ·exact h.frame j u v
  ·rcases h.wT b L g with⟨b0,m,q,d⟩ | d
   ·exact v b0 m q (d.trans hc)
   ·omega
theorem Ext.mono{N M:Nat}{X Y:Wd}(h:Ext N X Y)(g:M≤N):Ext M X Y:=
 {h with bY:=fun b d=>h.bY b (arh d g) }
theorem fk.under{X:Wd}{x:C}{v:Value}(h:fk σ X x v):x.et X.H.length=ae:=by
 have lt:∀(b:Nat) bq,X.H[b]?=aa bq→b<X.H.length:=fun b bq g=>(By.1 g).1;cases x with
 | f x=>rfl
 | ptr b off u=>
  obtain⟨L,_,h⟩:=h;split at h
  ·rename_i g;simpa [C.et]using lt _ _ g
  ·rename_i g;simpa [C.et]using lt _ _ g
  ·exact h.elim
 | sl b o l cap u sz=>
  simp only [fk]at h;split at h
  ·rename_i g;simpa [C.et]using lt _ _ g
  ·rename_i g;simpa [C.et]using lt _ _ g
  ·exact h.elim
 | cl f j=>exact h.elim| yl b=>obtain⟨L,_,⟨f,t,p,a,y,s,q,d,g⟩,rfl⟩:=h;simpa [C.et]using lt _ _ g
 | mp b=>obtain⟨L,_,⟨es,g⟩,rfl⟩:=h;simpa [C.et]using lt _ _ g
 | it b=>obtain⟨L,_,⟨s,p,g⟩,rfl⟩:=h;simpa [C.et]using lt _ _ g
 | mi b=>obtain⟨L,_,⟨m,s,d,g⟩,rfl⟩:=h;simpa [C.et]using lt _ _ g
 | bm f first=>exact h.elim
theorem fk.oA{N:Nat}{X X':Wd}(z:nZ N X X'){x:C}{v:Value}(hu:x.et N=ae)(h:fk σ X x v):fk σ X' x v:=by
 cases x with
 | f x=>exact cB.mono z.F z.fw h
 | ptr b off M=>
  obtain⟨L,y,h⟩:=h;have E:=z.bY b (by simpa [C.et]using hu);split at h
  ·rename_i cs F u;obtain⟨blk',g,j⟩:=E _ u;cases blk'<;>simp only at j;exact⟨L,j L y,by rw [g];exact h⟩
  ·rename_i s cs F e u;obtain⟨blk',g,j⟩:=E _ u;cases blk'<;>simp only at j;obtain⟨rfl,⟨rfl,rfl,A⟩ | ⟨A,rfl,J,B⟩⟩:=j
   ·exact⟨L,A L y,by rw [g];exact h⟩
   ·exact⟨J,B,by rw [g];exact⟨by omega,fun H=>by omega,h.2.2⟩⟩
  ·exact h.elim
 | sl b o l cap M sz=>
  simp only [fk]at h ⊢;have E:=z.bY b (by simpa [C.et]using hu);split at h
  ·rename_i cs F u;obtain⟨L,y,h⟩:=h;obtain⟨blk',g,j⟩:=E _ u;cases blk'<;>simp only at j;rw [g];exact⟨L,j L y,h⟩
  ·rename_i s cs F e st u;obtain⟨blk',g,j⟩:=E _ u;cases blk'<;>simp only at j;rw [g];obtain⟨rfl,⟨rfl,rfl,A⟩ | ⟨A,rfl,J,B⟩⟩:=j
   ·refine⟨h.1,fun H O=>?_,h.2.2⟩;have I:=h.2.1 H O;cases st with
    | loc=>obtain⟨L,y,Q⟩:=I;exact⟨L,A L y,Q⟩
    | nil=>exact I| es=>exact I
   ·exact⟨by omega,fun H=>by omega,h.2.2⟩
  ·exact h.elim
 | cl f K=>exact h.elim
 | yl b=>
  obtain⟨L,y,⟨f,t,p,a,S,s,q,d,u⟩,rfl⟩:=h;obtain⟨blk',g,j⟩:=z.bY b (by simpa [C.et]using hu) _ u;cases blk'<;>simp only at j;exact⟨L,j.2 L y,⟨_,_,_,_,_,_,_,_,g⟩,rfl⟩
 | mp b=>
  obtain⟨L,y,⟨es,u⟩,rfl⟩:=h;obtain⟨blk',g,j⟩:=z.bY b (by simpa [C.et]using hu) _ u;cases blk'<;>simp only at j;exact⟨L,j L y,⟨_,g⟩,rfl⟩
 | it b=>
  obtain⟨L,y,⟨s,p,u⟩,rfl⟩:=h;obtain⟨blk',g,j⟩:=z.bY b (by simpa [C.et]using hu) _ u;cases blk'<;>simp only at j;exact⟨L,j L y,⟨_,_,g⟩,rfl⟩
 | mi b=>
  obtain⟨L,y,⟨m,s,d,u⟩,rfl⟩:=h;obtain⟨blk',g,j⟩:=z.bY b (by simpa [C.et]using hu) _ u;cases blk'<;>simp only at j;exact⟨L,j.2 L y,⟨_,_,_,g⟩,rfl⟩
 | bm f first=>exact h.elim
theorem CR.oA{N:Nat}{X X':Wd}(j:nZ N X X'){x:C}{v:Value}(hu:x.under N=ae)(h:CR σ X x v):CR σ X' x v:=by
 cases x with
 | cl f m=>
  obtain⟨us,rfl,h⟩:=h;refine⟨us,rfl,h.mono fun y u hy l=>fk.oA σ j ?_ l⟩;exact aqH.1 hu y hy
 | bm f first=>
  obtain⟨us,rfl,h⟩:=h;refine⟨us,rfl,h.mono fun y u hy l=>fk.oA σ j ?_ l⟩;exact aqH.1 hu y hy
 | mi b=>exact fk.oA σ j (x:=.mi b) hu h| f y=>exact fk.oA σ j (x:=.f y) hu h| ptr a b c=>exact fk.oA σ j (x:=.ptr a b c) hu h| sl a b c d e g=>exact fk.oA σ j (x:=.sl a b c d e g) hu h| yl b=>exact fk.oA σ j (x:=.yl b) hu h| mp b=>exact fk.oA σ j (x:=.mp b) hu h| it b=>exact fk.oA σ j (x:=.it b) hu h
end
section
variable(Q:Program)(σ:Nat→FuncId)
theorem CR.under{X:Wd}{x:C}{v:Value}(h:CR σ X x v):x.under X.H.length=ae:=by
 cases x with
 | cl f j=>
  obtain⟨us,rfl,h⟩:=h;simp only [C.under,aqH];intro y hy;obtain⟨i,hi⟩:=arf hy;obtain⟨u,_,hu⟩:=h.get hi;exact fk.under σ hu
 | bm f j=>
  obtain⟨us,rfl,h⟩:=h;simp only [C.under,aqH];intro y hy;obtain⟨i,hi⟩:=arf hy;obtain⟨u,_,hu⟩:=h.get hi;exact fk.under σ hu
 | mi b=>exact fk.under σ (x:=.mi b) h| f y=>rfl| ptr a b c=>exact fk.under σ (x:=.ptr a b c) h| sl a b c d e g=>exact fk.under σ (x:=.sl a b c d e g) h| yl b=>exact fk.under σ (x:=.yl b) h| mp b=>exact fk.under σ (x:=.mp b) h| it b=>exact fk.under σ (x:=.it b) h
theorem CR.dH{X X':Wd}(b:nZ X.H.length X X'){x:C}{v:Value}(h:CR σ X x v):CR σ X' x v:=CR.oA σ b (CR.under σ h) h
theorem A2.dH{X X':Wd}(b:nZ X.H.length X X'){xs:List C}{us:List Value}(h:A2 (CR σ X) xs us):A2 (CR σ X') xs us:=
 h.kr fun _ _ h=>CR.dH σ b h
theorem gG.dH{X X':Wd}(b:nZ X.H.length X X'){x:V}{v:Value}(h:gG σ X x v):gG σ X' x v:=by
 cases x with
 | top=>trivial| c x=>exact CR.dH σ b h| a xs=>obtain⟨us,rfl,h⟩:=h;exact⟨us,rfl,A2.dH σ b h⟩
 | t d=>exact h.elim
theorem VR.dH{X X':Wd}(b:nZ X.H.length X X'){x:V}{v:Value}(h:VR σ X x v):VR σ X' x v:=by
 cases x with
 | t d=>obtain⟨us,rfl,h⟩:=h;exact⟨us,rfl,h.kr fun _ _ h=>gG.dH σ b h⟩
 | top=>trivial| c x=>exact gG.dH σ (x:=.c x) b h| a xs=>exact gG.dH σ (x:=.a xs) b h
def RR(X:Wd)(az:T)(tmps:Array Value):Prop:=∀ p,VR σ X (az.get p) (tmps.getD p.toNat undef)
theorem RR.dH{X X':Wd}(b:nZ X.H.length X X'){az:T}{tmps:Array Value}(h:RR σ X az tmps):RR σ X' az tmps:=fun p=>VR.dH σ b (h p)
theorem CR.ext'{X X':Wd}(b:Ext X.H.length X X'){x:C}{v:Value}(h:CR σ X x v):CR σ X' x v:=CR.dH σ b.W h
theorem A2.ext'{X X':Wd}(b:Ext X.H.length X X'){xs:List C}{us:List Value}(h:A2 (CR σ X) xs us):A2 (CR σ X') xs us:=A2.dH σ b.W h
theorem gG.ext'{X X':Wd}(b:Ext X.H.length X X'){x:V}{v:Value}(h:gG σ X x v):gG σ X' x v:=gG.dH σ b.W h
theorem VR.ext'{X X':Wd}(b:Ext X.H.length X X'){x:V}{v:Value}(h:VR σ X x v):VR σ X' x v:=VR.dH σ b.W h
theorem RR.ext'{X X':Wd}(b:Ext X.H.length X X'){az:T}{tmps:Array Value}(h:RR σ X az tmps):RR σ X' az tmps:=RR.dH σ b.W h
theorem T.oC(t:T)(p q:P)(v:V):(t.set p v).get q=if p=q then v else t.get q:=by
 induction t generalizing p q with
 | e=>
  induction p generalizing q with
  | h=>cases q<;>simp [T.set,T.get]
  | o p b=>cases q<;>simp [T.set,T.get,b]
  | i p b=>cases q<;>simp [T.set,T.get,b]
 | n l j r d g=>cases p<;>cases q<;>simp [T.set,T.get,d,g]
theorem P.toNat_inj{p q:P}(h:p.toNat=q.toNat):p=q:=by
 induction p generalizing q with
 | h=>cases q<;>simp [P.toNat]at h ⊢
 | o p b=>
  cases q with
  | h=>simp [P.toNat]at h| o q=>simp only [P.toNat]at h;rw [b (q:=q) (by omega)]
  | i q=>simp [P.toNat]at h;omega
 | i p b=>
  cases q with
  | h=>simp [P.toNat]at h| o q=>simp [P.toNat]at h;omega| i q=>simp only [P.toNat]at h;rw [b (q:=q) (by omega)]
theorem RR.set{X:Wd}{az:T}{tmps:Array Value}(h:RR σ X az tmps){p:P}(g:p.toNat<tmps.size){v:V}{u:Value}(j:VR σ X v u) :
  RR σ X (az.set p v) (tmps.setIfInBounds p.toNat u):=by
 intro q;rw [T.oC];by_cases d:p=q
 ·subst d;simpa [g]using j
 ·have b:p.toNat≠q.toNat:=fun e=>d (P.toNat_inj e);simpa [d,Array.getD_eq_getD_getElem?,Array.getElem?_setIfInBounds_ne b]using h q
def fP.of:fP→LoopState
 | .ready=>.ready| .busy=>.busy| .done=>.done| .exhausted=>.exhausted
def xc(n:Nat):Option av→Option Code→Prop
 | none,ab=>True| some a,aa c=>bT Q σ n c a=ae| _,_=>False
def BR(X:Wd):cS→Loc→Prop
 | .box cs y,L=>∃ us,rowAt X.w L.c us∧A2 (CR σ X) cs us∧∀ i,y≤i→¬ X.F L.c i| .bG sz cs y _ st,L=>st=.loc∧∃ us rest,rowAt X.w L.c (us++rest)∧A2 (CR σ X) cs us∧(us++rest).length=L.cap*sz∧0<sz∧(∃ n,cs.length=n*sz)∧∀ i,y≤i→¬ X.F L.c i| .map x,L=>∃ g:List MapEntry,X.w.heap[L.c]?=aa (.map g.toArray g.length)∧A2 (fun e m=>cB σ X.F X.w e.1 m.key∧gG σ X (mV e.2) m.val) x g∧∀(i:Nat) m,g[i]?=aa m→m.born=i
 | .uX m j done,L=>∃(B:Loc) (z:Array Nat) (st:Nat),X.bW m=aa B∧(∃ x,X.H[m]?=aa (.map x))∧X.w.heap[L.c]?=aa (.mapIter (aa B.c) j z st)∧(if done then z=#[0]∧st=1 else z=#[])| .it s pos,L=>X.w.heap[L.c]?=aa (.stringIter s pos)| .jF b,L=>X.w.heap[L.c]?=aa (.deferred (if b then aa []else ab))
 | .lp f tmps ps as bd st u d,L=>∃(n:Nat) (us:Array Value) (v:Array Tmp) (as' l:Code) (pend':Option Code) (A:Loc),
   X.w.heap[L.c]?=aa (.loop { state:=st.of,pending:=pend',fn:=σ f,tmps:=us,params:=v,assign:=as',body:=l,defers:=A.c }) ∧
   n≤us.size∧RR σ X tmps us∧fy (fun p (q:P)=>q.toNat == p&&decide (p<n)) v.toList ps=ae∧bT Q σ n as' as=ae∧bT Q σ n l bd=ae∧xc Q σ n u pend'∧X.bW d=aa A∧∃ o,X.H[d]?=aa (.jF o)
theorem BR.oA{X X':Wd}(q:nZ X.H.length X X'){bq:cS}{L:Loc}(x:X'.w.heap[L.c]?=X.w.heap[L.c]?)(S:∀ i,X'.F L.c i→X.F L.c i)(h:BR Q σ X bq L):BR Q σ X' bq L:=by
 cases bq with
 | box cs W=>
  obtain⟨us,⟨e,fr,j,g⟩,l,u⟩:=h;exact⟨us,⟨e,fr,x.trans j,g⟩,A2.dH σ q l,fun i hi H=>u i hi (S i H)⟩
 | bG sz cs W ep st=>
  obtain⟨I,us,rest,⟨e,fr,j,g⟩,l,u,y,E,F⟩:=h;exact⟨I,us,rest,⟨e,fr,x.trans j,g⟩,A2.dH σ q l,u,y,E,fun i hi H=>F i hi (S i H)⟩
 | map es=>
  obtain⟨A,j,g,l⟩:=h;exact⟨A,x.trans j,g.kr fun _ _ h=>⟨cB.mono q.F q.fw h.1,gG.dH σ q h.2⟩,l⟩
 | uX m K done=>
  obtain⟨N,sn,st,j,⟨es,g⟩,l,u⟩:=h;obtain⟨blk',v,y⟩:=q.bY m (By.1 g).1 _ g;cases blk'<;>simp only at y;exact⟨N,sn,st,y N j,⟨_,v⟩,x.trans l,u⟩
 | it s pos=>exact x.trans h| jF b=>exact x.trans h
 | lp f tmps ps as bd st U d=>
  obtain⟨n,us,J,as',B,pend',M,j,g,l,u,y,E,F,Y,o,O⟩:=h;have Z:d<X.H.length:=(By.1 O).1;obtain⟨blk',v,z⟩:=q.bY d Z _ O;cases blk'<;>simp only at z;exact⟨n,us,J,as',B,pend',M,x.trans j,g,RR.dH σ q l,u,y,E,F,z M Y,_,v⟩
theorem BR.ext{X X':Wd}(g:Ext X.H.length X X'){bq:cS}{L:Loc}(d:X'.w.heap[L.c]?=X.w.heap[L.c]?)(b:∀ i,X'.F L.c i→X.F L.c i)(h:BR Q σ X bq L):BR Q σ X' bq L:=BR.oA Q σ g.W d b h
structure SR(X:Wd):Prop where
 br:∀ b L,X.bW b=aa L→X.B≤L.c∧L.c<X.w.heap.size∧∃ bq,X.H[b]?=aa bq∧BR Q σ X bq L
 inj:∀ b b' L L',X.bW b=aa L→X.bW b'=aa L'→L.c=L'.c→b=b'
 fb:∀ c i,X.F c i→c<X.w.heap.size
theorem SR.step{X X':Wd}(A:SR Q σ X)(z:Ext X.H.length X X')(b0:Nat)(F:∀ b,b≠b0→X'.H[b]?=X.H[b]?)(d:∀ b,b≠b0→X'.bW b=X.bW b)
  (H:∀ b L,b≠b0→X.bW b=aa L→X'.w.heap[L.c]?=X.w.heap[L.c]?) (E:∀ b L,b≠b0→X.bW b=aa L→∀ i,X'.F L.c i→X.F L.c i)
  (s:∀ L,X'.bW b0=aa L→X.B≤L.c∧L.c<X'.w.heap.size∧(∃ bq,X'.H[b0]?=aa bq∧BR Q σ X' bq L)∧∀ b l,b≠b0→X.bW b=aa l→l.c≠L.c)
  (y:∀ c i,X'.F c i→c<X'.w.heap.size):SR Q σ X' where
 br:=fun b L g=>by
  rw [z.B];by_cases h:b=b0
  ·subst h;obtain⟨u,v,x,_⟩:=s L g;exact⟨u,v,x⟩
  ·rw [d b h]at g;obtain⟨u,v,bq,x,B⟩:=A.br b L g;exact⟨u,arh v z.size,bq,(F b h).trans x,BR.ext Q σ z (H b L h g) (E b L h g) B⟩
 fb:=fun c i h=>y c i h
 inj:=fun b m L l g j hc=>by
  by_cases h:b=b0<;>by_cases q:m=b0
  ·rw [h,q]
  ·subst h;rw [d m q]at j;exact absurd hc.symm ((s L g).2.2.2 m l q j)
  ·subst q;rw [d b h]at g;exact absurd hc ((s l j).2.2.2 b L h g)
  ·rw [d b h]at g;rw [d m q]at j;exact A.inj b m L l g j hc
end
section
variable{Q:Program}{σ:Nat→FuncId}{X:Wd}
theorem a6{t:TypeId}{d:TypeDesc}(h:Q.underlying t=aa d)(w:World):(underlying t).run Q w=.ok d w:=by
 simp [underlying,h]
theorem cP{t:TypeId}{n:Nat}(h:db Q t n=ae)(w:World):(Go.sizeOf t).run Q w=.ok n w:=by
 unfold db at h;cases hi:Q.info? t with
 | none=>simp [hi]at h| some i=>simp [hi]at h;simp [Go.sizeOf,typeInfo,hi,h]
theorem zj{t:TypeId}{n:Nat}(h:mB Q t n=ae)(w:World):∃ i,(typeInfo t).run Q w=.ok i w∧i.bytes=n:=by
 unfold mB at h;cases hi:Q.info? t with
 | none=>simp [hi]at h| some i=>simp [hi]at h;exact⟨i,by simp [typeInfo,hi],h⟩
theorem FT{t:TypeId}{n:Option Nat}(h:uL Q t n=ae)(w:World):(isAgg t).run Q w=.ok n.isSome w∧∀ k,n=aa k→db Q t k=ae:=by
 unfold uL at h;cases b:Q.underlying t with
 | none=>simp [b]at h
 | some d=>
  cases d<;>cases n<;>simp_all [isAgg,a6 b]
theorem dR(c o k:Nat):(⟨c,o,ab⟩:Addr).add k=⟨c,o+k,ab⟩:=by unfold Addr.add;split<;>simp_all
theorem cW{w:World}{c:Nat}{us:List Value}(h:rowAt w c us)(i:Nat):w.cell? ⟨c,i,ab⟩=us[i]?:=by
 obtain⟨e,b,h,_⟩:=h;simp [World.cell?,h]
theorem DA{w:World}{c:Nat}{us:List Value}(h:rowAt w c us){i:Nat}(hi:i<us.length):w.frozen? ⟨c,i,ab⟩=ag:=by
 obtain⟨e,d,h,b⟩:=h;have:=b i (Nat.le_of_lt hi);simp only [World.frozen?,h];simp only [Bool.and_eq_false_iff,decide_eq_false_iff_not];omega
theorem tn(A:SR Q σ X){x:C}{v:Value}(g:CR σ X x v){cs:List C}(h:aF X.H x=aa cs) :
  ∃ c o us,v=.pointer (aa ⟨c,o,ab⟩)∧(∀(i:Nat) u,us[i]?=aa u→X.w.cell? ⟨c,o+i,ab⟩=aa u)∧A2 (CR σ X) cs us:=by
 cases x with
 | ptr b off H=>
  obtain⟨L,z,g⟩:=g;obtain⟨_,_,bq,m,j⟩:=A.br b L z;simp only [aF,m]at h;rw [m]at g;cases bq with
  | box cs' y=>
   simp only [sh]at h;subst h;subst g;obtain⟨us,hr,l,_⟩:=j;exact⟨L.c,off,us.drop off,rfl,fun i u d=>by rw [cW hr];rw [aqF]at d;exact d,l.drop off⟩
  | bG s cs' y e st=>
   cases st<;>simp only at h g
   ·split at h
    ·rename_i E;simp only [sh]at h;subst h;obtain⟨_,g,_⟩:=g;have g:=g E;subst g;obtain⟨_,us,rest,hr,l,_⟩:=j;refine⟨L.c,off,us.drop off,rfl,fun i u d=>?_,l.drop off⟩;rw [cW hr];rw [aqF]at d;rw [AI (By.1 d).1];exact d
    ·simp at h
   all_goals exact g.elim
  | _=>simp at h
 | f x=>
  cases x with
  | fp cs' off=>
   simp only [aF,sh]at h;subst h;cases g with
   | fp _ _ c o us F I B hr=>
    refine⟨c,o+off,us.drop off,rfl,fun i u d=>?_,A2.map ⟨by simp [F],fun i x u q d=>?_⟩⟩
    ·rw [aqF]at d;have:=B _ u d;rwa [show o+(off+i)=o+off+i by omega]at this
    ·rw [aqF]at q d;exact hr _ x u q d
  | _=>simp [aF]at h
 | _=>simp [aF]at h
theorem Cm{t:TypeId}{n:Option Nat}(z:uL Q t n=ae){c o:Nat}{us:List Value}{cs:List C}{w:World}
  (q:∀(i:Nat) u,us[i]?=aa u→w.cell? ⟨c,o+i,ab⟩=aa u) (g:A2 (CR σ X) cs us) {v:V} (b:aI n cs=aa v) :
  ∃ u,(loadVar t ⟨c,o,ab⟩).run Q w=.ok u w∧VR σ X v u:=by
 obtain⟨m,s⟩:=FT z w;cases n with
 | none=>
  cases cs with
  | nil=>simp [aI]at b
  | cons x cs=>
   simp only [aI,sh]at b;subst b;obtain⟨u,A,l⟩:=g.get (i:=0) (x:=x) rfl;have:=q 0 u A;simp only [Nat.add_zero]at this;exact⟨u,by simp [loadVar,m,this],l⟩
 | some n=>
  simp only [aI]at b;split at b
  ·rename_i B;simp only [sh]at b;subst b;have y:(us.take n).length=n:=by have:=g.len;simp;omega
   have:=run_loadCells_list (P:=Q) w ⟨c,o,ab⟩ (us.take n) (fun j v d=>by
    rw [dR];rw [aqT]at d;split at d
    ·exact q j v d
    ·simp at d)
   rw [y]at this;refine⟨.agg (us.take n).toArray,?_,⟨us.take n,rfl,g.take n⟩⟩;simp [loadVar,m,cP (s n rfl),this]
  ·simp at b
theorem afB(q:SR Q σ X){t:TypeId}{n:Option Nat}(s:uL Q t n=ae){x:V}{p:Value}(y:VR σ X x p){v:V}(h:aX X.H n x=aa v) :
  ∃ u,(Instr.loadAt t p).run Q X.w=.ok u X.w∧VR σ X v u:=by
 cases x with
 | c x=>
  simp only [aX,aqO]at h;obtain⟨cs,b,d⟩:=h;obtain⟨c,o,us,rfl,g,j⟩:=tn q y b;obtain⟨u,l,m⟩:=Cm s g j d;exact⟨u,by simp [Instr.loadAt,Instr.sureAddr,l],m⟩
 | _=>simp [aX]at h
end
section
variable{Q:Program}{σ:Nat→FuncId}{X:Wd}
theorem VR.int{k:IntKind}{n:Int}{u:Value}(h:VR σ X (.c (.f (.int k n))) u):u=.int k n:=by cases (h:cB σ X.F X.w (.int k n) u);rfl
theorem VR.bool{b:Bool}{u:Value}(h:VR σ X (.c (.f (.bool b))) u):u=.bool b:=by cases (h:cB σ X.F X.w (.bool b) u);rfl
theorem VR.str{s:ByteArray}{u:Value}(h:VR σ X (.c (.f (.str s))) u):u=.string s:=by cases (h:cB σ X.F X.w (.str s) u);rfl
theorem VR.mkInt(k:IntKind)(n:Int):VR σ X (V.int k n) (.int k n):=cB.int k n
theorem VR.tT(b:Bool):VR σ X (V.bool b) (.bool b):=cB.bool b
theorem VR.mkStr(s:ByteArray):VR σ X (.c (.f (.str s))) (.string s):=cB.str s
theorem eb{α β:Type}{f:α→β→Bool}:∀ {xs:List α} {ys:List β},fy f xs ys=ae→A2 (fun x y=>f x y=ae) xs ys
 | [],[],_=>A2.nil
 | x::xs,y::ys,h=>by
  simp only [fy,BY]at h;exact A2.cons h.1 (eb h.2)
 | [],_::_,h=>by simp [fy]at h
 | _::_,[],h=>by simp [fy]at h
theorem DS{F:Nat→Nat→Prop}{w:World}{x:FC}{u:Value}(h:mK1 x u=ae):cB σ F w x u:=by
 unfold mK1 at h;split at h
 ·simp only [beq_iff_eq]at h;subst h;exact .bool _
 ·simp only [BY,decide_eq_true_eq]at h;obtain⟨rfl,rfl⟩:=h;exact .int _ _
 ·simp only [decide_eq_true_eq]at h;subst h;exact .str _
 ·exact .fY
 ·exact .aE
 ·exact .jj
 ·exact .lG
 ·exact .vq
 ·simp at h
theorem ajh{x:V}{u:Value}(h:mK x u=ae):VR σ X x u:=by
 unfold mK at h;split at h
 ·exact DS h
 ·refine⟨_,by simp,(eb h).kr fun y w b=>?_⟩;split at b
  ·exact DS b
  ·simp at b
 ·trivial
 ·simp at h
theorem bH{a:Act}{az:T}(b:RR σ X az a.tmps){x:Arg}{y:Operand}(h:mA σ x y=ae):VR σ X (x.ev az) (a.eval y):=by
 unfold mA at h;split at h
 ·rename_i p t;simp only [beq_iff_eq]at h;subst h;exact b p
 ·exact ajh h
 ·simp only [beq_iff_eq]at h;subst h;exact cB.fn _ [] [] rfl (by simp)
 ·simp at h
theorem me{a:Act}{az:T}(j:RR σ X az a.tmps){xs:List Arg}{ys:Array Operand}(h:XF σ xs ys=ae):A2 (VR σ X) (c8 az xs) (ys.map a.eval).toList:=by
 have:=(eb h).kr fun x y b=>bH j b;refine⟨by simpa [c8]using this.len,fun i v u g d=>?_⟩;simp only [c8,ari,If]at g;simp only [Array.toList_map,ari,If]at d;obtain⟨x,l,rfl⟩:=g;obtain⟨y,m,rfl⟩:=d;exact this.2 i x y l m
theorem aji{a:Act}{az:T}(g:RR σ X az a.tmps){x:Option Arg}{y:Option Operand}(h:mO σ x y=ae) :
  (x=ab∧y=ab)∨∃ b d,x=aa b∧y=aa d∧VR σ X (b.ev az) (a.eval d):=by
 unfold mO at h;split at h
 ·exact .inl ⟨rfl,rfl⟩
 ·exact .inr ⟨_,_,rfl,rfl,bH g h⟩
 ·simp at h
theorem aaR{op:BinOp}{k:IntKind}{x y:Int}{v:V}(h:jR op k x y=aa v)(w:World) :
  ∃ u,(binOp op 0 (.int k x) (.int k y)).run Q w=.ok u w∧VR σ X v u∧∀ t,binOp op t (.int k x) (.int k y)=binOp op 0 (.int k x) (.int k y):=by
 unfold jR at h;split at h<;>(try split at h)<;>(try simp only [sh,reduceCtorEq]at h)<;>(try subst h)
 all_goals first
  | (refine⟨_,?_,VR.mkInt _ _,fun _=>by simp [binOp]⟩;simp [binOp,Op.intArith,Op.intBits];done)
  | (refine⟨_,?_,VR.tT _,fun _=>by simp [binOp]⟩;simp [binOp,Op.intCmp];done)
  | (rename_i b;refine⟨_,?_,VR.mkInt _ _,fun _=>by simp [binOp]⟩;simp [binOp,Op.intDiv,b];done)
theorem aaT{op:BinOp}{x y:ByteArray}{v:V}(h:JF op x y=aa v)(w:World)(t:TypeId) :
  ∃ u,(binOp op t (.string x) (.string y)).run Q w=.ok u w∧VR σ X v u:=by
 unfold JF at h;split at h<;>(try split at h)<;>(try simp only [sh,reduceCtorEq]at h)<;>(try subst h)
 all_goals first
  | exact⟨_,by simp [binOp,Op.stringOp],VR.tT _⟩
  | (rename_i b;exact⟨_,by simp only [binOp,Op.stringOp];rw [aY b];rfl,VR.mkStr _⟩)
  | skip
end
section
variable{Q:Program}{σ:Nat→FuncId}{X:Wd}
theorem si:∀ {ks:List CK} {xs ys:List C} {b:Bool},qi ks xs ys=aa b→xs.length=ks.length∧ys.length=ks.length
 | [],[],[],_,_=>⟨rfl,rfl⟩
 | k::ks,x::xs,y::ys,b,h=>by
  simp only [qi]at h;split at h
  ·rename_i d;have:=si d;simp [this]
  ·simp at h
 | [],_::_,_,_,h=>by simp [qi]at h
 | [],[],_::_,_,h=>by simp [qi]at h
 | _::_,[],_,_,h=>by simp [qi]at h
 | _::_,_::_,[],_,h=>by simp [qi]at h
theorem tE:∀ {ks d:List CK} {xs ys:List C} {b:Bool},qi (ks++d) xs ys=aa b →
  ∃ b1 g,qi ks (xs.take ks.length) (ys.take ks.length)=aa b1∧qi d (xs.drop ks.length) (ys.drop ks.length)=aa g∧b=(b1&&g)
 | [],d,xs,ys,b,h=>⟨ae,b,rfl,by simpa using h,by simp⟩
 | k::ks,d,[],ys,b,h=>by simp [qi]at h
 | k::ks,d,x::xs,[],b,h=>by simp [qi]at h
 | k::ks,d,x::xs,y::ys,b,h=>by
  simp only [List.cons_append,qi]at h;split at h
  ·rename_i a c m q;simp only [sh]at h;obtain⟨b1,g,j,l,rfl⟩:=tE q;refine⟨a&&b1,g,?_,by simpa using l,by rw [←h,Bool.and_assoc]⟩;simp [qi,m,j]
  ·simp at h
def CKv:CK→Value→Value→Bool→Prop
 | .bool,u,v,b=>∃ p q,u=.bool p∧v=.bool q∧b=(p == q)| .int,u,v,b=>∃ j p q,u=.int j p∧v=.int j q∧b=(p == q)| .str,u,v,b=>∃ p q,u=.string p∧v=.string q∧b=(p == q)
theorem sj{k:CK}{x y:C}{b:Bool}(h:Ll k x y=aa b){u v:Value}(d:CR σ X x u)(g:CR σ X y v):CKv k u v b:=by
 unfold Ll at h;split at h
 ·simp only [sh]at h;exact⟨_,_,VR.bool (σ:=σ) (X:=X) d,VR.bool (σ:=σ) (X:=X) g,h.symm⟩
 ·split at h
  ·rename_i j;subst j;simp only [sh]at h;exact⟨_,_,_,VR.int (σ:=σ) (X:=X) d,VR.int (σ:=σ) (X:=X) g,h.symm⟩
  ·simp at h
 ·simp only [sh]at h;exact⟨_,_,VR.str (σ:=σ) (X:=X) d,VR.str (σ:=σ) (X:=X) g,h.symm⟩
 ·simp at h
theorem BV:∀(d:Nat) (t:TypeId) (ks:List CK),hY Q d t=aa ks→∀(D:Nat),d≤D→∀(us W:List Value) (off:Nat) (xs ys:List C) (b:Bool) (w:World),
  qi ks xs ys=aa b→A2 (CR σ X) xs ((us.drop off).take ks.length)→A2 (CR σ X) ys ((W.drop off).take ks.length) →
  ∃ a c,(part t us.toArray off).run Q w=.ok a w∧(part t W.toArray off).run Q w=.ok c w∧(Op.equalIn D t a c).run Q w=.ok b w
 | 0,_,_,h,_,_,_,_,_,_,_,_,_,_,_,_=>by simp [hY]at h
 | d+1,t,ks,h,0,hD,_,_,_,_,_,_,_,_,_,_=>by omega
 | d+1,t,ks,h,D+1,hD,us,W,off,xs,ys,b,w,M,hx,hy=>by
  have hl:=si M;have m:∀(k:CK),ks=[k]→(∀ I,Q.underlying t=aa I→(match I with | .struct _ | .array _ _=>False | _=>True))→(∃ I,Q.underlying t=aa I) →
    ∃ x y u v,xs=[x]∧ys=[y]∧Ll k x y=aa b∧CR σ X x u∧CR σ X y v∧(part t us.toArray off).run Q w=.ok u w∧(part t W.toArray off).run Q w=.ok v w:=by
   intro k z a9 g;subst z;obtain⟨I,g⟩:=g;have a9:=a9 I g
   match xs,ys,hl with
   | [x],[y],_=>
    simp only [qi]at M;split at M
    ·rename_i a c ha hc;simp only [sh]at hc M;subst hc;simp at M;subst M;obtain⟨u,d8,d9⟩:=hx.get (i:=0) (x:=x) rfl;obtain⟨v,d_,e_⟩:=hy.get (i:=0) (x:=y) rfl;have e1:us[off]?=aa u:=by simpa [aqT,aqF]using d8
     have e2:W[off]?=aa v:=by simpa [aqT,aqF]using d_
     have a8:(isAgg t).run Q w=.ok ag w:=by
      cases I<;>simp_all [isAgg,a6 g]
     exact⟨x,y,u,v,rfl,rfl,ha,d9,e_,by simp [part,a8,e1],by simp [part,a8,e2]⟩
    ·simp at M
  unfold hY at h;split at h
  ·rename_i g;split at h
   ·simp only [sh]at h;obtain⟨x,y,u,v,rfl,rfl,E,Y,Z,N,h4⟩:=m .bool h.symm (fun I s=>by rw [g]at s;cases s;trivial) ⟨_,g⟩;obtain⟨p,q,rfl,rfl,rfl⟩:=sj E Y Z;exact⟨_,_,N,h4,run_equalIn_bool' w D t _ _ g⟩
   ·simp at h
  ·rename_i j g;split at h
   ·simp only [sh]at h;obtain⟨x,y,u,v,rfl,rfl,E,Y,Z,N,h4⟩:=m .int h.symm (fun I s=>by rw [g]at s;cases s;trivial) ⟨_,g⟩;obtain⟨j',p,q,rfl,rfl,rfl⟩:=sj E Y Z;exact⟨_,_,N,h4,run_equalIn_int w D t _ _ _ _ g⟩
   ·simp at h
  ·rename_i g;split at h
   ·simp only [sh]at h;obtain⟨x,y,u,v,rfl,rfl,E,Y,Z,N,h4⟩:=m .str h.symm (fun I s=>by rw [g]at s;cases s;trivial) ⟨_,g⟩;obtain⟨p,q,rfl,rfl,rfl⟩:=sj E Y Z;exact⟨_,_,N,h4,by rw [run_equalIn_string w D t _ _ g,beq_toListBytes]⟩
   ·simp at h
  ·rename_i fs g;split at h
   ·simp at h
   ·rename_i d6;split at h
    ·rename_i U hf;split at h
     ·rename_i a_;simp only [sh]at h;subst h;have L:(isAgg t).run Q w=.ok ae w:=by simp [isAgg,a6 g]
      have S:Q.underlying t=aa (.struct (Q.fieldsOf t)):=by simp [Program.fieldsOf,g]
      have c_:Q.fieldsOf t=fs:=by rw [g]at S;simpa using S.symm
      refine⟨.agg ((us.drop off).take U.length).toArray,.agg ((W.drop off).take U.length).toArray,?_,?_,?_⟩
      ·simp [part,L,cP a_,arE]
      ·simp [part,L,cP a_,arE]
      ·rw [run_equalIn_struct w D t _ _ S (by simpa using d6),c_];have key:∀(l:List Field) (k:Nat) (J:List CK) (b2:Bool),hY.oB (hY Q d) k l=aa J→∀(A B:List Value) (F H:List C),
         qi J (F.drop k) (H.drop k)=aa b2→A2 (CR σ X) F A→A2 (CR σ X) H B→(Op.eqFields D A.toArray B.toArray l).run Q w=.ok b2 w:=by
        intro l;induction l with
        | nil=>
         intro k J b2 z A B F H E _ _;simp only [hY.oB,sh]at z;subst z;have:=si E;simp only [List.length_nil,List.length_eq_zero_iff]at this;rw [this.1,this.2]at E;simp only [qi,sh]at E;subst E;simp [Op.eqFields]
        | cons f l ih=>
         intro k J b2 z A B F H E b7 b9;simp only [hY.oB]at z;split at z
         ·rename_i O;obtain⟨hn,ho⟩:=O;subst ho;split at z
          ·rename_i K N;split at z
           ·rename_i r hr;simp only [sh]at z;subst z;obtain⟨b1,b3,b_,c9,rfl⟩:=tE E;obtain⟨a,c,h5,h6,h7⟩:=BV d f.type K N D (by omega) A B f.offset _ _ b1 w b_ (by have:=(b7.drop f.offset).take K.length;simpa using this) (by have:=(b9.drop f.offset).take K.length;simpa using this);have f9:=ih (f.offset+K.length) r b3 hr A B F H (by simpa [List.drop_drop]using c9) b7 b9;simp only [Op.eqFields,hn,ne_eq,not_false_eq_true,if_true,Sem.run_bind,h5,h6,h7,Result.andThen_ok];cases b1<;>simp [f9]
           ·simp at z
          ·simp at z
         ·simp at z
       exact key fs.toList 0 U b hf _ _ xs ys (by simpa using M) hx hy
     ·simp at h
    ·simp at h
  ·simp at h
def al8:Jw→Value→Bool→Prop
 | .ptr,u,b=>∃ a,u=.pointer a∧b=a.isNone| .sl,u,b=>∃ a n c,u=.slice a n c∧b=a.isNone| .fn,u,b=>(u=.nilFunc∧b=ae)∨∃ f p q,u=.func f p q∧b=ag| .ifc,u,b=>u=.nilIface∧b=ae| _,_,_=>False
theorem oG{k:Jw}{x:C}{u:Value}(d:CR σ X x u){b:Bool}(h:isNil X.H k x=aa b):al8 k u b:=by
 unfold isNil at h;split at h<;>try simp only [sh,reduceCtorEq]at h
 ·cases (d:cB σ X.F X.w .fY u);subst h;exact⟨_,rfl,rfl⟩
 ·cases (d:cB σ X.F X.w (.fp _ _) u);subst h;exact⟨_,rfl,rfl⟩
 ·obtain⟨L,_,d⟩:=d;subst h;split at d
  ·subst d;exact⟨_,rfl,rfl⟩
  ·obtain⟨_,_,a,rfl⟩:=d;exact⟨_,rfl,rfl⟩
  ·exact d.elim
 ·cases (d:cB σ X.F X.w .aE u);subst h;exact⟨_,_,_,rfl,rfl⟩
 ·cases (d:cB σ X.F X.w .es u);subst h;exact⟨_,_,_,rfl,rfl⟩
 ·cases (d:cB σ X.F X.w (.fs _ _) u)<;>(subst h;exact⟨_,_,_,rfl,rfl⟩)
 ·rename_i m o l c q sz;simp only [CR,fk]at d;split at h
  ·rename_i g;rw [g]at d;obtain⟨L,_,_,rfl⟩:=d;simp only [sh]at h;subst h;exact⟨_,_,_,rfl,rfl⟩
  ·rename_i s cs v e st g;rw [g]at d;split at h
   ·rename_i j;have:=d.2.1 j.1 j.2;simp only [sh]at h;subst h;cases st with
    | loc=>obtain⟨L,_,k,_,_,rfl⟩:=this;exact⟨_,_,_,rfl,rfl⟩
    | nil=>obtain⟨_,_,rfl⟩:=this;exact⟨_,_,_,rfl,rfl⟩
    | es=>obtain⟨_,_,a,rfl⟩:=this;exact⟨_,_,_,rfl,rfl⟩
   ·simp at h
  ·simp at h
 ·cases (d:cB σ X.F X.w .jj u);subst h;exact .inl ⟨rfl,rfl⟩
 ·cases (d:cB σ X.F X.w (.fn _ _) u);subst h;exact .inr ⟨_,_,_,rfl,rfl⟩
 ·obtain⟨us,rfl,_⟩:=d;subst h;exact .inr ⟨_,_,_,rfl,rfl⟩
 ·obtain⟨us,rfl,_⟩:=d;subst h;exact .inr ⟨_,_,_,rfl,rfl⟩
 ·cases (d:cB σ X.F X.w .lG u);subst h;exact⟨rfl,rfl⟩
theorem BU{d:Nat}{t:TypeId}{ks:List CK}(h:hY Q d t=aa ks):db Q t ks.length=ae:=by
 cases d with
 | zero=>simp [hY]at h
 | succ d=>
  unfold hY at h;split at h
  ·split at h
   ·simp only [sh]at h;subst h;assumption
   ·simp at h
  ·split at h
   ·simp only [sh]at h;subst h;assumption
   ·simp at h
  ·split at h
   ·simp only [sh]at h;subst h;assumption
   ·simp at h
  ·split at h
   ·simp at h
   ·split at h
    ·split at h
     ·simp only [sh]at h;subst h;assumption
     ·simp at h
    ·simp at h
  ·simp at h
theorem Vh{t e:TypeId}(b:Q.underlying t=aa (.pointer e))(D:Nat)(a:Option Addr)(w:World):(Op.equalIn (D+1) t (.pointer a) (.pointer ab)).run Q w=.ok a.isNone w:=by
 cases a<;>simp [Op.equalIn,a6 b]
theorem aa5{t e:TypeId}(b:Q.underlying t=aa (.slice e))(D:Nat)(a:Option Addr)(n c:Nat)(w:World):(Op.equalIn (D+1) t (.slice a n c) (.slice ab 0 0)).run Q w=.ok a.isNone w:=by
 cases a<;>simp [Op.equalIn,a6 b]
theorem aa3{t:TypeId}{p r:Array TypeId}{v:Bool}(b:Q.underlying t=aa (.func p r v))(D:Nat)(w:World):(Op.equalIn (D+1) t .nilFunc .nilFunc).run Q w=.ok ae w:=by
 simp [Op.equalIn,a6 b]
theorem aa2{t:TypeId}{p r:Array TypeId}{v:Bool}(b:Q.underlying t=aa (.func p r v))(D:Nat)(f:Fn)(x y:Array Value)(w:World):(Op.equalIn (D+1) t (.func f x y) .nilFunc).run Q w=.ok ag w:=by
 simp [Op.equalIn,a6 b]
theorem aa4{t:TypeId}{d:Array (String × TypeId)}(b:Q.underlying t=aa (.interface d))(D:Nat)(w:World):(Op.equalIn (D+1) t .nilIface .nilIface).run Q w=.ok ae w:=by
 simp [Op.equalIn,a6 b]
theorem JY{t:TypeId}{x y:Operand}(b:(rn x||rn y)=ae)(op:BinOp)(w:World):(eqGuard op t x y .nilIface .nilIface).run Q w=.ok () w:=by
 simp only [Bool.or_eq_true]at b;rcases b with b | b
 ·cases x<;>simp only [rn,anc]at b;cases op<;>rfl
 ·cases y<;>simp only [rn,anc]at b;cases x<;>cases op<;>rfl
theorem afc{k:Jw}{t:TypeId}{x y:Operand}(v:mEq Q k t x y=ae){F H:V}{l d:Value}(s:VR σ X F l)(u:VR σ X H d){b:Bool}
  (h:wI X.H k F H=aa b) (neg:Bool) (w:World) :
  (do eqGuard (if neg then .neq else .eql) t x y l d;binOp (if neg then .neq else .eql) t l d).run Q w=.ok (.bool (if neg then !b else b)) w:=by
 have g:(binOp .eql t l d=do pure (.bool (←Op.equal t l d)))→(binOp .neq t l d=do pure (.bool (!(←Op.equal t l d)))) →
   (∀ op,(eqGuard op t x y l d).run Q w=.ok () w)→(Op.equalIn 10000 t l d).run Q w=.ok b w →
   (do eqGuard (if neg then .neq else .eql) t x y l d;binOp (if neg then .neq else .eql) t l d).run Q w=.ok (.bool (if neg then !b else b)) w:=by
  intro B E z M;cases neg
  ·simp only [anc,if_false,Sem.run_bind,z,Result.andThen_ok,B,Op.equal,Op.maxDepth,M,Sem.run_pure]
  ·simp only [if_true,Sem.run_bind,z,Result.andThen_ok,E,Op.equal,Op.maxDepth,M,Sem.run_pure]
 unfold mEq at v;unfold wI at h;split at v
 ·rename_i j;split at h<;>try simp only [reduceCtorEq]at *
  obtain⟨p,q,rfl,rfl,rfl⟩:=sj h s u;exact g rfl rfl (fun op=>by cases op<;>rfl) (run_equalIn_bool' w 9999 t _ _ j)
 ·rename_i j;split at h<;>try simp only [reduceCtorEq]at *
  obtain⟨a,rfl,rfl⟩:=oG s h;cases (u:cB σ X.F X.w .fY d);exact g rfl rfl (fun op=>by cases op<;>rfl) (Vh j 9999 a w)
 ·rename_i j;split at h<;>try simp only [reduceCtorEq]at *
  obtain⟨a,n,c,rfl,rfl⟩:=oG s h;cases (u:cB σ X.F X.w .aE d);exact g rfl rfl (fun op=>by cases op<;>rfl) (aa5 j 9999 a n c w)
 ·rename_i j;split at h<;>try simp only [reduceCtorEq]at *
  cases (u:cB σ X.F X.w .jj d);rcases oG s h with⟨rfl,rfl⟩ | ⟨f,p,q,rfl,rfl⟩
  ·exact g rfl rfl (fun op=>by cases op<;>rfl) (aa3 j 9999 w)
  ·exact g rfl rfl (fun op=>by cases op<;>rfl) (aa2 j 9999 f p q w)
 ·rename_i j;split at h<;>try simp only [reduceCtorEq]at *
  cases (u:cB σ X.F X.w .lG d);obtain⟨rfl,rfl⟩:=oG s h;refine g rfl rfl (fun op=>?_) ?_
  ·have L:(rn x||rn y)=ae:=v;exact JY L op w
  ·exact aa4 j 9999 w
 ·rename_i W ks j;obtain⟨xs,ys,rfl,rfl,h⟩:∃ xs ys,F=.a xs∧H=.a ys∧qi ks xs ys=aa b:=by
   cases F<;>cases H<;>first | exact⟨_,_,rfl,rfl,h⟩ | simp at h
  simp only [BY,decide_eq_true_eq,Bool.not_eq_true']at v;obtain⟨U,S⟩:=v;obtain⟨us,rfl,N⟩:=s;obtain⟨I,rfl,O⟩:=u;have Y:=si h;have A:=BU U;have m:(isAgg t).run Q w=.ok ae w:=by simp [isAgg,a6 j]
  have t1:us.take ks.length=us:=aqI (by have:=N.len;omega);have t2:I.take ks.length=I:=aqI (by have:=O.len;omega);obtain⟨a,c,B,E,z⟩:=BV 20 t ks U 10000 (by omega) us I 0 _ _ b w h (by simpa [t1]using N) (by simpa [t2]using O);have J:a=.agg us.toArray:=by
   simp [part,m,cP A,arE,t1]at B;exact B.symm
  have K:c=.agg I.toArray:=by
   simp [part,m,cP A,arE,t2]at E;exact E.symm
  subst J;subst K;cases neg
  ·simp only [anc,if_false,Sem.run_bind,run_eqGuard_agg w _ t x y _ _ S,Result.andThen_ok,run_eql_struct,z]
  ·simp only [if_true,Sem.run_bind,run_eqGuard_agg w _ t x y _ _ S,Result.andThen_ok,run_neq_struct,z]
 ·simp at v
end
section
variable{Q:Program}{σ:Nat→FuncId}{X:Wd}
theorem ir{x:V}{u:Value}(h:VR σ X x u){i:Int}(hi:dy x=aa i):∃ k,u=.int k i:=by
 unfold dy at hi;split at hi
 ·simp only [sh]at hi;subst hi;exact⟨_,VR.int h⟩
 ·simp at hi
theorem qf{x:V}{u:Value}(h:VR σ X x u){y i:Nat}(b:CB x y=aa i){g:Nat}(q:y≤g)(d:BoundsCode)(w:World) :
  i≤y∧(Instr.sliceBound u g d).run Q w=.ok i w:=by
 unfold CB at b;split at b
 ·rename_i j l;obtain⟨k,rfl⟩:=ir h l;split at b
  ·rename_i m;simp only [sh]at b;subst b;refine⟨by omega,?_⟩;have:0≤j∧j≤(g:Int):=by omega
   simp [Instr.sliceBound,asIntOf,this]
  ·simp at b
 ·simp at b
def OR(X:Wd)(σ:Nat→FuncId):Option V→Option Value→Prop
 | none,ab=>True| some x,aa u=>VR σ X x u| _,_=>False
theorem dE{lo hi mx:Option V}{d j mx':Option Value}(v:OR X σ lo d)(A:OR X σ hi j)(F:OR X σ mx mx'){len c l h m:Nat}
  (b:cr len c lo hi mx=aa (l,h,m)) {cap:Nat} (J:c≤cap) (O:len≤c) (s:Bool) (w:World) :
  (Instr.sliceBounds s len cap d j mx').run Q w=.ok (l,h,if mx.isSome then m else cap) w∧l≤h∧h≤m∧m≤c:=by
 unfold cr at b;cases mx with
 | some z=>
  cases mx'<;>simp only [OR]at F;rename_i U;simp only [asb,aqO]at b;obtain⟨S,M,b⟩:=b;obtain⟨N,E⟩:=qf (Q:=Q) F M J (if s then .slice3Acap else .slice3Alen) w;cases hi with
  | none=>simp at b
  | some y=>
   cases j<;>simp only [OR]at A;simp only [aqR,aqO]at b;obtain⟨L,H,b⟩:=b;obtain⟨I,g⟩:=qf (Q:=Q) A H (IT _) .slice3B w;cases lo with
   | none=>
    cases d<;>simp only [OR]at v;simp at b;obtain⟨rfl,rfl,rfl⟩:=b;simp [Instr.sliceBounds,E,g];omega
   | some x=>
    cases d<;>simp only [OR]at v;simp only [aqO]at b;obtain⟨K,q,b⟩:=b;obtain⟨B,u⟩:=qf (Q:=Q) v q (IT _) .slice3C w;simp at b;obtain⟨rfl,rfl,rfl⟩:=b;simp [Instr.sliceBounds,E,g,u];omega
 | none=>
  cases mx'<;>simp only [OR]at F;cases hi with
  | none=>
   cases j<;>simp only [OR]at A;cases lo with
   | none=>
    cases d<;>simp only [OR]at v;simp at b;obtain⟨rfl,rfl,rfl⟩:=b;simp [Instr.sliceBounds];omega
   | some x=>
    cases d<;>simp only [OR]at v;simp only [asb,aqR,aqO]at b;obtain⟨K,q,b⟩:=b;obtain⟨B,u⟩:=qf (Q:=Q) v q (IT _) .sliceB w;simp at b;obtain⟨rfl,rfl,rfl⟩:=b;simp [Instr.sliceBounds,u];omega
  | some y=>
   cases j<;>simp only [OR]at A;simp only [asb,aqR,aqO]at b;obtain⟨L,H,b⟩:=b;obtain⟨I,g⟩:=qf (Q:=Q) A H J (if s then .sliceAcap else .sliceAlen) w;cases lo with
   | none=>
    cases d<;>simp only [OR]at v;simp at b;obtain⟨rfl,rfl,rfl⟩:=b;simp [Instr.sliceBounds,g];omega
   | some x=>
    cases d<;>simp only [OR]at v;simp only [aqO]at b;obtain⟨K,q,b⟩:=b;obtain⟨B,u⟩:=qf (Q:=Q) v q (IT _) .sliceB w;simp at b;obtain⟨rfl,rfl,rfl⟩:=b;simp [Instr.sliceBounds,g,u];omega
theorem eo{t e:TypeId}{sz:Nat}(g:Q.underlying t=aa (.slice e))(b:db Q e sz=ae){a:Option Addr}{len cap:Nat}{lo hi mx:Option Value}{l h m:Nat}{w:World}
  (d:(Instr.sliceBounds ae len cap lo hi mx).run Q w=.ok (l,h,m) w) :
  (Instr.sliceAt t (.slice a len cap) lo hi mx).run Q w=.ok (.slice (if m=l then a else a.map (·.add (l*sz))) (h-l) (m-l)) w:=by
 simp [Instr.sliceAt,Instr.slice,a6 g,d,cP b]
theorem xz{t e:TypeId}{sz:Nat}(d:Q.underlying t=aa (.slice e))(j:db Q e sz=ae){x:V}{u:Value}(E:VR σ X x u)
  {lo hi mx:Option V} {a9 a8 mx':Option Value} (H:OR X σ lo a9) (I:OR X σ hi a8) (J:OR X σ mx mx') {v:V} (h:fq X.H sz x lo hi mx=aa v) :
  ∃ r,(Instr.sliceAt t u a9 a8 mx').run Q X.w=.ok r X.w∧VR σ X v r:=by
 unfold fq at h;split at h
 ·
  split at h
  ·rename_i r A;obtain⟨l,g,m⟩:=r;simp only [sh]at h;subst h;cases (E:cB σ X.F X.w .aE u);obtain⟨q,K,N,O⟩:=dE (Q:=Q) H I J A (IT 0) (IT 0) ae X.w;refine⟨_,eo d j q,?_⟩;have:l=0∧g=0∧m=0:=by omega
   obtain⟨rfl,rfl,rfl⟩:=this;simp;exact cB.aE
  ·simp at h
 ·split at h
  ·rename_i r A;obtain⟨l,g,m⟩:=r;simp only [sh]at h;subst h;cases (E:cB σ X.F X.w .es u);obtain⟨q,K,N,O⟩:=dE (Q:=Q) H I J A (IT 0) (IT 0) ae X.w;refine⟨_,eo d j q,?_⟩;have:l=0∧g=0∧m=0:=by omega
   obtain⟨rfl,rfl,rfl⟩:=this;simp;exact cB.es _
  ·simp at h
 ·
  rename_i cs n;split at h
  ·rename_i l g m A;have b7:(∃(c o cap:Nat) (us:List Value),n≤cap∧us.length=cs.length∧(∀ i,i<cs.length→X.F c (o+i))∧(∀(i:Nat) u,us[i]?=aa u→X.w.cell? ⟨c,o+i,ab⟩=aa u) ∧
     (∀(i:Nat) x u,cs[i]?=aa x→us[i]?=aa u→cB σ X.F X.w x u)∧u=.slice (aa ⟨c,o,ab⟩) n cap)∨(cs=[]∧n=0∧∃ a cap,u=.slice (aa a) 0 cap):=by
    cases (E:cB σ X.F X.w (.fs cs n) u)with
    | fs _ _ c o cap us z hl hF Z hr=>exact .inl ⟨c,o,cap,us,z,hl,hF,Z,hr,rfl⟩| fs0 a cap=>exact .inr ⟨rfl,rfl,a,cap,rfl⟩
   rcases b7 with⟨c,o,cap,us,z,hl,hF,Z,hr,rfl⟩ | ⟨rfl,rfl,a,cap,rfl⟩
   ·obtain⟨q,K,N,O⟩:=dE (Q:=Q) H I J A z (IT n) ae X.w;split at h
    ·rename_i y;simp only [sh]at h;subst h;rw [bh y.1]at q;obtain⟨_,rfl⟩:=y;refine⟨_,eo d j q,?_⟩;rw [show g-m=0 by omega,show m-m=0 by omega,bh rfl];exact cB.es _
    ·simp only [sh]at h;subst h;refine⟨_,eo d j q,?_⟩;generalize S:(if mx.isSome=ae then m else cap)=M;have a_:g≤M:=by rw [←S];split<;>omega
     by_cases B:M=l
     ·rw [bh B,show g-l=0 by omega];simp;exact cB.fs0 _ _
     ·rw [aY B];simp only [aq2,dR];refine cB.fs _ _ c (o+l*sz) _ ((us.drop (l*sz)).take ((g-l)*sz)) (by omega) (by simp [hl]) (fun i hi=>?_) (fun i u d=>?_) (fun i x u E d=>?_)
      ·have:=hF (l*sz+i) (by simp at hi;omega);rwa [show o+(l*sz+i)=o+l*sz+i by omega]at this
      ·rw [aqT]at d;split at d
       ·rw [aqF]at d;have:=Z _ u d;rwa [show o+(l*sz+i)=o+l*sz+i by omega]at this
       ·simp at d
      ·rw [aqT]at d E;split at d
       ·rename_i hi;rw [bh hi]at E;rw [aqF]at d E;exact hr _ x u E d
       ·simp at d
   ·obtain⟨q,K,N,O⟩:=dE (Q:=Q) H I J A (Nat.zero_le cap) (IT 0) ae X.w;have:l=0∧g=0∧m=0:=by omega
    obtain⟨rfl,rfl,rfl⟩:=this;refine⟨_,eo d j q,?_⟩;split at h
    ·rename_i y;simp only [sh]at h;subst h;simp [y.1];exact cB.es _
    ·simp only [sh]at h;subst h;have ho:∀ M,∃ a',(if M=0 then aa a else Option.map (fun(x:Addr)=>x.add (0*sz)) (aa a))=aa a':=by intro M;split<;>exact⟨_,rfl⟩
     obtain⟨a',U⟩:=ho (if mx.isSome=ae then 0 else cap);rw [U];simp;exact cB.fs0 _ _
  ·simp at h
 ·
  rename_i b o n cap ep s;simp only [VR,gG,CR,fk]at E;split at h
  ·rename_i F;rw [F]at E;obtain⟨L,hL,z,rfl⟩:=E;split at h
   ·rename_i l g m A;obtain⟨q,K,N,O⟩:=dE (Q:=Q) H I J A (IT cap) z ae X.w;have hm:(if mx.isSome=ae then m else cap)=m:=by
     split
     ·rfl
     ·rename_i hn;cases mx with
      | some _=>simp at hn| none=>unfold cr at A;cases hi<;>cases lo<;>simp [aqO]at A<;>omega
    rw [hm]at q;refine⟨_,eo d j q,?_⟩;split at h
    ·rename_i B;simp only [sh]at h;subst h;rw [bh B,show g-l=0 by omega,show m-l=0 by omega];exact cB.es _
    ·rename_i B;simp only [sh]at h;subst h;rw [aY B];simp only [aq2,dR,VR,gG,CR,fk,F];exact⟨L,hL,by omega,rfl⟩
   ·simp at h
  ·rename_i s' cs fl e st F;rw [F]at E;split at h
   ·rename_i Z;obtain⟨rfl,rfl,rfl⟩:=Z;have Y:=E.2.1 rfl rfl;cases st with
    | loc=>
     obtain⟨L,hL,k,rfl,hk,rfl⟩:=Y;simp only at h;split at h
     ·rename_i l g m A;obtain⟨q,K,N,O⟩:=dE (Q:=Q) H I J A (show n≤L.cap-k by omega) (IT n) ae X.w;refine⟨_,eo d j q,?_⟩;generalize S:(if mx.isSome=ae then m else L.cap-k)=M;have a_:g≤M:=by rw [←S];split<;>omega
      split at h
      ·rename_i y;simp only [sh]at h;subst h;rw [bh y.1]at S;subst S;obtain⟨_,rfl⟩:=y;rw [show g-m=0 by omega,show m-m=0 by omega,bh rfl];exact cB.es _
      ·split at h
       ·rename_i y;simp only [sh]at h;subst h;rw [show g-l=0 by omega];have ho:∃ a',(if M=l then aa (⟨L.c,k*s',ab⟩:Addr)else Option.map (fun(x:Addr)=>x.add (l*s')) (aa ⟨L.c,k*s',ab⟩))=aa a':=by split<;>exact⟨_,rfl⟩
        obtain⟨a',U⟩:=ho;rw [U];exact cB.fs0 _ _
       ·rename_i b9;split at h
        ·simp at h
        ·rename_i hn;simp only [sh]at h;subst h;rw [aY hn]at S;have W:(if M=l then aa (⟨L.c,k*s',ab⟩:Addr)else Option.map (fun(x:Addr)=>x.add (l*s')) (aa ⟨L.c,k*s',ab⟩))=aa ⟨L.c,k*s'+l*s',ab⟩:=by
          split
          ·have:l=0:=by omega
           subst this;simp
          ·simp [dR]
         rw [W];simp only [VR,gG,CR,fk,F];refine⟨IT _,fun _ _=>⟨L,hL,k+l,by rw [arc],by omega,by rw [←S];congr 1;omega⟩,_,_,_,rfl⟩
     ·simp at h
    | nil=>
     obtain⟨rfl,rfl,rfl⟩:=Y;simp only at h;split at h
     ·rename_i r A;obtain⟨l,g,m⟩:=r;simp only [sh]at h;subst h;obtain⟨q,K,N,O⟩:=dE (Q:=Q) H I J A (IT 0) (IT 0) ae X.w;refine⟨_,eo d j q,?_⟩;have:l=0∧g=0∧m=0:=by omega
      obtain⟨rfl,rfl,rfl⟩:=this;simp;exact cB.aE
     ·simp at h
    | es=>
     obtain⟨rfl,rfl,a,rfl⟩:=Y;simp only at h;split at h
     ·rename_i r A;obtain⟨l,g,m⟩:=r;simp only [sh]at h;subst h;obtain⟨q,K,N,O⟩:=dE (Q:=Q) H I J A (IT 0) (IT 0) ae X.w;refine⟨_,eo d j q,?_⟩;have:l=0∧g=0∧m=0:=by omega
      obtain⟨rfl,rfl,rfl⟩:=this;simp;exact cB.es _
     ·simp at h
   ·simp at h
  ·simp at h
 ·simp at h
end
section
variable{Q:Program}{σ:Nat→FuncId}{X:Wd}
theorem Lb{t:TypeId}(A:Q.underlying t=aa .string){x:V}{u:Value}(B:VR σ X x u){lo hi:Option V}{d b:Option Value}(g:OR X σ lo d)(j:OR X σ hi b)
  {v:V} (h:uF x lo hi=aa v) (w:World):∃ r,(Instr.sliceAt t u d b ab).run Q w=.ok r w∧VR σ X v r:=by
 unfold uF at h;split at h
 ·rename_i s;have:=VR.str B;subst this;split at h
  ·rename_i l z m y;simp only [sh]at h;subst h;obtain⟨q,_⟩:=dE (Q:=Q) (mx:=ab) (mx':=ab) g j trivial y (IT _) (IT _) ag w;exact⟨.string (s.extract l z),by simp [Instr.sliceAt,Instr.slice,a6 A,q],VR.mkStr _⟩
  ·simp at h
 ·simp at h
theorem K_(hS:SR Q σ X){t e:TypeId}{n sz:Nat}(g:Q.underlying t=aa (.array n e))(E:db Q e sz=ae){x:V}{u:Value}(q:VR σ X x u)
  {lo hi mx:Option V} {z y mx':Option Value} (F:OR X σ lo z) (H:OR X σ hi y) (I:OR X σ mx mx') {v:V} (h:jJ X.H n sz x lo hi mx=aa v) :
  ∃ r,(Instr.sliceAt t u z y mx').run Q X.w=.ok r X.w∧VR σ X v r:=by
 have run:∀(a:Addr) l j m,(Instr.sliceBounds ag n n z y mx').run Q X.w=.ok (l,j,m) X.w →
   (Instr.sliceAt t (.pointer (aa a)) z y mx').run Q X.w=.ok (.slice (aa (if m=l then a else a.add (l*sz))) (j-l) (m-l)) X.w:=by
  intro a l j m s;simp [Instr.sliceAt,a6 g,Instr.sureAddr,s,cP E]
 have mm:∀ {l j m:Nat},cr n n lo hi mx=aa (l,j,m)→(if mx.isSome=ae then m else n)=m:=by
  intro l j m s;split
  ·rfl
  ·rename_i W;cases mx with
   | some _=>simp at W| none=>unfold cr at s;cases hi<;>cases lo<;>simp [aqO]at s<;>omega
 unfold jJ at h;split at h
 ·rename_i b off Y;obtain⟨L,O,q⟩:=q;split at h
  ·rename_i cs Z B;rw [B]at q;simp only at q;subst q;split at h
   ·rename_i l j m s;obtain⟨A,J,K,M⟩:=dE (Q:=Q) F H I s (IT n) (IT n) ag X.w;rw [mm s]at A;split at h
    ·refine⟨_,run _ _ _ _ A,?_⟩;split at h
     ·rename_i d;simp only [sh]at h;subst h;rw [bh d,show j-l=0 by omega,show m-l=0 by omega];exact cB.es _
     ·rename_i d;simp only [sh]at h;subst h;rw [aY d];simp only [dR,VR,gG,CR,fk,B];exact⟨L,O,by omega,rfl⟩
    ·simp at h
   ·simp at h
  ·simp at h
 ·rename_i cs off;cases (q:cB σ X.F X.w (.fp cs off) u)with
  | fp _ _ c o us U N S hr=>
   split at h
   ·rename_i l j m s;obtain⟨A,J,K,M⟩:=dE (Q:=Q) F H I s (IT n) (IT n) ag X.w;rw [mm s]at A;split at h
    ·refine⟨_,run _ _ _ _ A,?_⟩;split at h
     ·rename_i d;simp only [sh]at h;subst h;rw [bh d,show j-l=0 by omega,show m-l=0 by omega];exact cB.es _
     ·rename_i d;simp only [sh]at h;subst h;rw [aY d,dR];refine cB.fs _ _ c (o+off+l*sz) _ ((us.drop (off+l*sz)).take ((j-l)*sz)) (by omega) (by simp [U]) (fun i hi=>?_) (fun i u g=>?_) (fun i x u q g=>?_)
      ·have:=N (off+l*sz+i) (by simp at hi;omega);rwa [show o+(off+l*sz+i)=o+off+l*sz+i by omega]at this
      ·rw [aqT]at g;split at g
       ·rw [aqF]at g;have:=S _ u g;rwa [show o+(off+l*sz+i)=o+off+l*sz+i by omega]at this
       ·simp at g
      ·rw [aqT]at g q;split at g
       ·rename_i hi;rw [bh hi]at q;rw [aqF]at g q;exact hr _ x u q g
       ·simp at g
    ·simp at h
   ·simp at h
 ·simp at h
theorem Dx{t:TypeId}{l:Array Field}(H:Q.underlying t=aa (.struct l)){i:Nat}{f:Field}(E:l[i]?=aa f)(j:(Q.info? f.type).any (fun i=>i.size != 0)=ae)
  {x:V} {u:Value} (g:VR σ X x u) {v:V} (h:im f.offset x=aa v) (w:World):∃ r,(Instr.fieldAt t u i).run Q w=.ok r w∧VR σ X v r:=by
 have run:∀ a:Addr,(Instr.fieldAt t (.pointer (aa a)) i).run Q w=.ok (.pointer (aa (a.add f.offset))) w:=by
  intro a;cases hi:Q.info? f.type with
  | none=>simp [hi]at j
  | some I=>
   simp [hi]at j;simp [Instr.fieldAt,a6 H,E,Instr.sureAddr,fieldPlace,Go.sizeOf,typeInfo,hi,j]
 unfold im at h;split at h
 ·rename_i b o J;simp only [sh]at h;subst h;obtain⟨L,m,g⟩:=g;split at g
  ·rename_i d;subst g;exact⟨_,run _,L,m,by rw [d,dR]⟩
  ·rename_i s cs K e d;obtain⟨q,y,a,rfl⟩:=g;refine⟨_,run _,L,m,?_⟩;rw [d];refine⟨q,fun B=>?_,_,rfl⟩;have:=y B;simp only [Value.pointer.injEq,sh]at this;rw [this,dR]
  ·exact g.elim
 ·rename_i cs o;simp only [sh]at h;subst h;cases (g:cB σ X.F X.w (.fp cs o) u)with
  | fp _ _ c o' us F z A hr=>
   refine⟨_,run _,?_⟩;rw [dR,Nat.add_assoc];exact cB.fp cs _ c o' us F z A hr
 ·simp at h
theorem DH{t e:TypeId}{sz:Nat}{q:Option Nat}(I:db Q e sz=ae)
  (H:(q=ab∧Q.underlying t=aa (.slice e))∨∃ n,q=aa n∧Q.underlying t=aa (.array n e)) {x i:V} {u j:Value} (m:VR σ X x u) (hi:VR σ X i j)
  {v:V} (h:aL X.H sz q x i=aa v):∃ r,(Instr.indexAt t u j).run Q X.w=.ok r X.w∧VR σ X v r:=by
 unfold aL at h;split at h
 ·simp at h
 rename_i k hk;obtain⟨O,rfl⟩:=ir hi hk;split at h
 ·rename_i M;have z:q=ab→∀(a:Addr) (l c:Nat),k<l→(Instr.indexAt t (.slice (aa a) l c) (.int O k)).run Q X.w=.ok (.pointer (aa (a.add (k.toNat*sz)))) X.w:=by
   intro J a l c g;rcases H with⟨_,H⟩ | ⟨n,A,_⟩
   ·simp [Instr.indexAt,asIntOf,a6 H,M,g,cP I]
   ·rw [J]at A;simp at A
  have y:∀ n,q=aa n→∀(a:Addr),k<n→(Instr.indexAt t (.pointer (aa a)) (.int O k)).run Q X.w=.ok (.pointer (aa (a.add (k.toNat*sz)))) X.w:=by
   intro n J a g;rcases H with⟨A,_⟩ | ⟨n',A,H⟩
   ·rw [J]at A;simp at A
   ·rw [J]at A;simp only [sh]at A;subst A;simp [Instr.indexAt,asIntOf,a6 H,Instr.sureAddr,M,g,cP I]
  split at h
  ·rename_i b o l c U s;split at h
   ·rename_i g;simp only [VR,gG,CR,fk]at m;split at h
    ·rename_i d;rw [d]at m;obtain⟨L,E,_,rfl⟩:=m;simp only [sh]at h;subst h;exact⟨_,z rfl _ _ _ g,L,E,by rw [d,dR]⟩
    ·rename_i s' cs W S d;rw [d]at m;split at h
     ·rename_i F;simp only [sh]at h;subst h;obtain⟨L,E,kq,_,_,rfl⟩:=m.2.1 F.1 F.2;exact⟨_,z rfl _ _ _ g,L,E,by rw [d,dR];exact⟨m.1,fun _=>rfl,_,rfl⟩⟩
     ·simp at h
    ·simp at h
   ·simp at h
  ·rename_i cs l;split at h
   ·rename_i g;simp only [sh]at h;subst h;cases (m:cB σ X.F X.w (.fs cs l) u)with
    | fs _ _ c o cap us N B K F hr=>
     refine⟨_,z rfl _ _ _ g,?_⟩;rw [dR];exact cB.fp cs _ c o us B K F hr
    | fs0 a cap=>simp at g;omega
   ·simp at h
  ·rename_i n b o U;split at h
   ·rename_i g;simp only [sh]at h;subst h;obtain⟨L,E,m⟩:=m;split at m
    ·rename_i d;subst m;exact⟨_,y n rfl _ g,L,E,by rw [d,dR]⟩
    ·rename_i s cs W S d;obtain⟨Y,Z,a,rfl⟩:=m;refine⟨_,y n rfl _ g,L,E,?_⟩;rw [d];refine⟨Y,fun he=>?_,_,rfl⟩;have:=Z he;simp only [Value.pointer.injEq,sh]at this;rw [this,dR]
    ·exact m.elim
   ·simp at h
  ·rename_i n cs o;split at h
   ·rename_i g;simp only [sh]at h;subst h;cases (m:cB σ X.F X.w (.fp cs o) u)with
    | fp _ _ c o' us B K F hr=>
     refine⟨_,y n rfl _ g,?_⟩;rw [dR,Nat.add_assoc];exact cB.fp cs _ c o' us B K F hr
   ·simp at h
  ·simp at h
 ·simp at h
theorem uM{t:TypeId}{n:Option Nat}(s:uL Q t n=ae){xs:List C}{us:List Value}(l:A2 (CR σ X) xs us)(off:Nat){v:V}(b:aI n (xs.drop off)=aa v)(w:World) :
  ∃ u,(part t us.toArray off).run Q w=.ok u w∧VR σ X v u:=by
 obtain⟨m,q⟩:=FT s w;cases n with
 | none=>
  cases d:xs.drop off with
  | nil=>rw [d]at b;simp [aI]at b
  | cons x cs=>
   rw [d]at b;simp only [aI,sh]at b;subst b;obtain⟨u,y,j⟩:=(l.drop off).get (i:=0) (x:=x) (by rw [d];rfl);have g:us[off]?=aa u:=by simpa [aqF]using y
   exact⟨u,by simp [part,m,g],j⟩
 | some n=>
  simp only [aI]at b;split at b
  ·simp only [sh]at b;subst b;exact⟨.agg ((us.drop off).take n).toArray,by simp [part,m,cP (q n rfl),arE],_,rfl,(l.drop off).take n⟩
  ·simp at b
theorem JR{t:TypeId}{b:Array Field}(q:Q.underlying t=aa (.struct b)){i:Nat}{f:Field}(l:b[i]?=aa f){n:Option Nat}(m:uL Q f.type n=ae)
  {x:V} {u:Value} (s:VR σ X x u) {v:V} (h:lX f.offset n x=aa v) (w:World):∃ r,(Instr.field t u i).run Q w=.ok r w∧VR σ X v r:=by
 unfold lX at h;split at h
 ·obtain⟨us,rfl,d⟩:=s;obtain⟨r,g,j⟩:=uM m d f.offset h w;exact⟨r,by simp [Instr.field,a6 q,l,asAgg,g],j⟩
 ·simp at h
theorem Vt{t e:TypeId}{len sz:Nat}(y:Q.underlying t=aa (.array len e))(b:db Q e sz=ae){n:Option Nat}(s:uL Q e n=ae)
  {x i:V} {u j:Value} (z:VR σ X x u) (hi:VR σ X i j) {v:V} (h:lh len sz n x i=aa v) (w:World):∃ r,(Instr.index t u j).run Q w=.ok r w∧VR σ X v r:=by
 unfold lh at h;split at h
 ·rename_i xs k q;obtain⟨A,rfl⟩:=ir hi q;split at h
  ·rename_i m;obtain⟨us,rfl,d⟩:=z;obtain⟨r,g,l⟩:=uM s d _ h w;exact⟨r,by simp [Instr.index,asIntOf,a6 y,m,cP b,g],l⟩
  ·simp at h
 ·simp at h
theorem Vu{t:TypeId}(m:Q.underlying t=aa .string){x i:V}{u j:Value}(q:VR σ X x u)(hi:VR σ X i j){v:V}(h:Bh x i=aa v)(w:World) :
  ∃ r,(Instr.index t u j).run Q w=.ok r w∧VR σ X v r:=by
 unfold Bh at h;split at h
 ·rename_i s k l;obtain⟨y,rfl⟩:=ir hi l;have:=VR.str q;subst this;split at h
  ·rename_i d;simp only [If]at h;obtain⟨b,g,rfl⟩:=h;exact⟨_,by simp [Instr.index,asIntOf,a6 m,d,g],VR.mkInt _ _⟩
  ·simp at h
 ·simp at h
end
section
variable{Q:Program}{σ:Nat→FuncId}{X:Wd}
theorem A2.over{α β:Type}{R:α→β→Prop}{cs xs:List α}{us d:List β}(h:A2 R cs us)(b:A2 R xs d)(off:Nat):A2 R (over cs off xs) (over us off d):=by
 unfold Km.over;rw [b.len];exact((h.take off).append b).append (h.drop _)
theorem BJ{α:Type}(cs:List α)(off:Nat)(xs:List α)(h:off+xs.length≤cs.length):(over cs off xs).length=cs.length:=by
 simp [over];omega
theorem Bf(off:Nat):∀(d:List Value) (k:Nat) (b:List Value),off+k+d.length≤b.length →
  ((d.zipIdx k).foldl (fun(cs:Array Value) p=>cs.setIfInBounds (off+p.2) p.1) b.toArray)=(over b (off+k) d).toArray
 | [],k,b,_=>by simp [over]
 | v::d,k,b,h=>by
  simp only [List.zipIdx_cons,arx];have g:b.toArray.setIfInBounds (off+k) v=(b.set (off+k) v).toArray:=by simp
  rw [g,Bf off d (k+1) _ (by simp at h ⊢;omega)]
  congr 1
  unfold over;simp only [aqW]at h ⊢;rw [List.take_set,List.drop_set_of_lt (by omega),show off+(k+1)=off+k+1 by omega,show off+k+1+d.length=off+k+(d.length+1) by omega];rw [aqC (by omega)];have j:(List.take (off+k) b).length=off+k:=by simp;omega
  have e:(List.take (off+k) b++[b[off+k]]).set (off+k) v=List.take (off+k) b++[v]:=by
   rw [List.set_append,aY (by omega),j];simp
  rw [e];simp
theorem ot{x:V}{u:Value}(b:VR σ X x u){xs:List C}(h:x.cells?=aa xs):∃ us,u.cells=us.toArray∧A2 (CR σ X) xs us:=by
 unfold V.cells? at h;split at h
 ·rename_i x;simp only [sh]at h;subst h;have d:=CR.one σ b;refine⟨[u],?_,A2.cons b A2.nil⟩;cases u<;>simp_all [Value.cells,Value.oneCell']
 ·simp only [sh]at h;subst h;obtain⟨us,rfl,h⟩:=b;exact⟨us,rfl,h⟩
 ·simp at h
theorem mM{a:Act}{az:T}(v:RR σ X az a.tmps){place:Nat→Option (Nat × Nat)}:∀ {qs:List (Nat × Nat × Arg)} {ps:List (Nat × Operand)},
  A2 (fun(q:Nat × Nat × Arg) (p:Nat × Operand)=>place p.1=aa (q.1,q.2.1)∧mA σ q.2.2 p.2=ae) qs ps→∀ {cs cs':List C} {us:List Value},A2 (CR σ X) cs us →
  dh az cs qs=aa cs'→∃ d,Instr.fill place us.toArray (ps.map fun p=>(p.1,a.eval p.2))=aa d.toArray∧A2 (CR σ X) cs' d
 | [],[],_,cs,cs',us,h,b=>by
  simp only [dh,sh]at b;subst b;exact⟨us,rfl,h⟩
 | [],_::_,g,_,_,_,_,_=>by have:=g.len;simp at this
 | _::_,[],g,_,_,_,_,_=>by have:=g.len;simp at this
 | (off,n,x)::qs,(i,y)::ps,g,cs,cs',us,h,b=>by
  obtain⟨⟨s,u⟩,l⟩:=g.of_cons;simp only at s u;simp only [dh]at b;split at b
  ·rename_i xs m;split at b
   ·rename_i H;obtain⟨F,E,j⟩:=ot (bH v u) m;obtain⟨d,z,A⟩:=mM v l (h.over j off) b;refine⟨d,?_,A⟩;have I:=j.len;have B:=h.len;simp only [List.map_cons,Instr.fill,s,E];rw [aY (by simp;omega)];rw [←z]
    congr 1
    have:=Bf off F 0 us (by omega);simp only [Nat.add_zero]at this;rw [←this];simp [←Array.foldl_toList]
   ·simp at b
  ·simp at b
theorem eg{t:TypeId}{zs:List FC}(h:km Q t zs=ae)(w:World):∃ z us,(zeroValue t).run Q w=.ok z w∧z.cells=us.toArray∧A2 (CR σ X) (zs.map .f) us ∧
  ∃ i,Q.info? t=aa i∧i.zero=aa z:=by
 unfold km at h;cases hi:Q.info? t with
 | none=>simp [hi]at h
 | some i=>
  simp only [hi,Option.any_some]at h;split at h
  ·rename_i z d;refine⟨z,z.cells.toList,by simp [zeroValue,typeInfo,hi,d],by simp,A2.map ((eb h).kr fun x u b=>DS b),i,rfl,d⟩
  ·simp at h
end
section
variable{Q:Program}{σ:Nat→FuncId}{X:Wd}
theorem kI{b:CK}{t:TypeId}(h:Kr Q b t=ae):(b=.int∧∃ j,Q.underlying t=aa (.int j))∨(b=.str∧Q.underlying t=aa .string)∨(b=.bool∧Q.underlying t=aa .bool):=by
 unfold Kr at h;split at h
 ·exact .inl ⟨rfl,_,by assumption⟩
 ·exact .inr (.inl ⟨rfl,by assumption⟩)
 ·exact .inr (.inr ⟨rfl,by assumption⟩)
 ·simp at h
theorem tD{l:CK}{d:TypeDesc}(m:(l=.int∧∃ j,d=.int j)∨(l=.str∧d=.string)∨(l=.bool∧d=.bool)){F:Nat→Nat→Prop}{w:World}{x y:FC}{u v:Value}
  (q:cB σ F w x u) (s:cB σ F w y v) {b:Bool} (h:eqK l x y=aa b):Instr.sameNow d u v=aa b:=by
 unfold eqK at h;split at h
 ·cases q;cases s;rcases m with⟨_,j,rfl⟩ | ⟨g,_⟩ | ⟨g,_⟩
  ·simpa [Instr.sameNow]using h
  ·cases g
  ·cases g
 ·cases q;cases s;rcases m with⟨g,_⟩ | ⟨_,rfl⟩ | ⟨g,_⟩
  ·cases g
  ·simpa [Instr.sameNow]using h
  ·cases g
 ·cases q;cases s;rcases m with⟨g,_⟩ | ⟨g,_⟩ | ⟨_,rfl⟩
  ·cases g
  ·cases g
  ·simpa [Instr.sameNow]using h
 ·simp at h
theorem xi{l:CK}{d:TypeDesc}(q:(l=.int∧∃ j,d=.int j)∨(l=.str∧d=.string)∨(l=.bool∧d=.bool)){F:Nat→Nat→Prop}{w:World}{k:FC}{B:Value}(v:cB σ F w k B) :
  ∀ {R:C→Value→Prop} {y:List (FC × C)} {b:List MapEntry},A2 (fun e m=>cB σ F w e.1 m.key∧R e.2 m.val) y b→∀ {r:Option C} (i:Nat),mn l k y=aa r →
  match r with
  | none=>Instr.findNow d B b i=aa ab| some x=>∃ j u,Instr.findNow d B b i=aa (aa (j,u))∧R x u
 | _,[],[],_,r,i,h=>by
  simp only [mn,sh]at h;subst h;rfl
 | _,[],_::_,g,_,_,_=>by have:=g.len;simp at this
 | _,_::_,[],g,_,_,_=>by have:=g.len;simp at this
 | _,e::y,m::b,g,r,i,h=>by
  obtain⟨⟨z,E⟩,A⟩:=g.of_cons;simp only [mn]at h;split at h
  ·rename_i s;simp only [sh]at h;subst h;exact⟨i,m.val,by simp [Instr.findNow,tD q v z s],E⟩
  ·rename_i s;have:=xi q v A (i+1) h;cases r with
   | none=>simpa [Instr.findNow,tD q v z s]using this| some x=>obtain⟨j,u,H,I⟩:=this;exact⟨j,u,by simp [Instr.findNow,tD q v z s,H],I⟩
  ·simp at h
theorem gR{l:CK}{t:TypeId}(h:Kr Q l t=ae){k:FC}{F:Nat→Nat→Prop}{q:World}{g:Value}(m:cB σ F q k g)(hi:isKey l k=ae)(b:Bool)(w:World) :
  (Instr.checkKey b 10000 t g).run Q w=.ok () w:=by
 have:∀ n,(Instr.checkKey b (n+1) t g).run Q w=.ok () w:=by
  intro n;rcases kI h with⟨rfl,j,d⟩ | ⟨rfl,d⟩ | ⟨rfl,d⟩<;>cases m<;>simp_all [isKey,Instr.checkKey,a6 d]
 exact this 9999
theorem DM{z:FC}{r:Option C}{u:Value}{g:Bool}(b:g=(rX z).isSome)(h:gG σ X ((r.map mV).getD (zV ((rX z).getD z))) u):VR σ X (lkR z r) (if g=ae then .tuple #[u,.bool r.isSome]else u):=by
 unfold lkR;cases d:rX z with
 | none=>rw [d]at h b;subst b;exact VR.XI σ h| some z0=>rw [d]at h b;subst b;exact⟨[u,.bool r.isSome],rfl,A2.cons h (A2.cons (cB.bool _) A2.nil)⟩
theorem Kl(hS:SR Q σ X){t kt e:TypeId}{K:CK}(Z:Q.underlying t=aa (.map kt e))(M:Kr Q K kt=ae){z:FC}{J:Bool}(H:J=(rX z).isSome)(hz:km Q e (qZ ((rX z).getD z))=ae)
  (l:(Q.info? e).any (fun i=>i.zero.any fun u=>if EJ ((rX z).getD z)then aeR u else afQ u)=ae) {m k:V} {um uk:Value} (hm:VR σ X m um) (s:VR σ X k uk) {v:V} (h:fW X.H K z m k=aa v) :
  ∃ u,(Instr.lookup t um uk J).run Q X.w=.ok u X.w∧VR σ X v u:=by
 obtain⟨I,zs,N,A,B,i0,W,Y⟩:=eg (σ:=σ) (X:=X) hz X.w;have O:gG σ X (zV ((rX z).getD z)) I:=by
  simp only [W,Option.any_some,Y]at l;generalize (rX z).getD z=z0 at *;cases S:EJ z0 with
  | true=>
   rw [ahm S];simp only [S,if_true]at l;cases I with
   | agg cs=>exact⟨zs,by simp only [Value.cells]at A;rw [A],B⟩
   | _=>simp [aeR]at l
  | false=>
   obtain⟨e1,e2⟩:=ahn S;rw [e1];rw [e2]at B;simp only [S,anc,if_false]at l;obtain⟨u,a8,a9⟩:=B.get (i:=0) (x:=.f z0) rfl;have hl:=B.len;have a_:zs=[u]:=by
    match zs,hl,a8 with
    | [y],_,h=>simp at h;rw [h]
   subst a_;cases I with
   | agg cs=>simp [afQ]at l| _=>simp only [Value.cells]at A;have:=congrArg Array.toList A;simp at this;subst this;exact a9
 unfold fW at h;split at h
 ·rename_i kc;split at h
  ·rename_i q;simp only [sh]at h;subst h;cases (hm:cB σ X.F X.w .vq um);refine⟨if J=ae then .tuple #[I,.bool ag]else I,?_,DM (r:=ab) H O⟩;rcases kI M with⟨_,j,g⟩ | ⟨_,g⟩ | ⟨_,g⟩ <;>
    simp [Instr.lookup,a6 Z,gR M s q,Instr.findKey,a6 g,Instr.findNow,N]
  ·simp at h
 ·rename_i b kc;split at h
  ·rename_i es hb;split at h
   ·rename_i q;simp only [If]at h;obtain⟨r,hr,rfl⟩:=h;obtain⟨L,hL,_,rfl⟩:=hm;obtain⟨_,_,bq,F,U⟩:=hS.br b L hL;rw [hb]at F;simp only [sh]at F;subst F;obtain⟨b7,h1,h2,_⟩:=U;have go:∀ d,Q.underlying kt=aa d→((K=.int∧∃ j,d=.int j)∨(K=.str∧d=.string)∨(K=.bool∧d=.bool))→∃ u,(Instr.lookup t (.map (aa L.c)) uk J).run Q X.w=.ok u X.w∧VR σ X (lkR z r) u:=by
     intro d g hd;have h3:=xi (R:=fun c u=>gG σ X (mV c) u) hd s h2 0 hr;cases r with
     | none=>
      refine⟨if J=ae then .tuple #[I,.bool ag]else I,?_,DM (r:=ab) H O⟩;simp [Instr.lookup,a6 Z,getObj,Sem.run,h1,gR M s q,Instr.findKey,a6 g,h3,N]
     | some x=>
      obtain⟨j,u,E,h5⟩:=h3;refine⟨if J=ae then .tuple #[u,.bool ae]else u,?_,DM (r:=aa x) H h5⟩;simp [Instr.lookup,a6 Z,getObj,Sem.run,h1,gR M s q,Instr.findKey,a6 g,E]
    rcases kI M with⟨E,j,g⟩ | ⟨E,g⟩ | ⟨E,g⟩
    ·exact go _ g (.inl ⟨E,j,rfl⟩)
    ·exact go _ g (.inr (.inl ⟨E,rfl⟩))
    ·exact go _ g (.inr (.inr ⟨E,rfl⟩))
   ·simp at h
  ·simp at h
 ·simp at h
end
section
variable{Q:Program}{σ:Nat→FuncId}{X:Wd}
theorem dM{s:Sem Value}{u:Value}{w w':World}(h:s.run Q w=.ok u w'):(do pure (Next.value (←s)):Sem Next).run Q w=.ok (.value u) w':=by simp [h]
theorem ri{a:Act}{az:T}(b:RR σ X az a.tmps){x:Option Arg}{y:Option Operand}(h:mO σ x y=ae):OR X σ (x.map (·.ev az)) (y.map a.eval):=by
 rcases aji b h with⟨rfl,rfl⟩ | ⟨g,j,rfl,rfl,d⟩
 ·trivial
 ·exact d
theorem gK{t:TypeId}{p:TypeId→Bool}(h:(lV Q t).any p=ae):∃ e,Q.underlying t=aa (.slice e)∧p e=ae:=by
 unfold lV at h;split at h
 ·exact⟨_,by assumption,by simpa using h⟩
 ·simp at h
theorem gW{x:C}{u:Value}(b:CR σ X x u){l:Nat}(h:bE X.H x=aa l):∃ a c,u=.slice a l c:=by
 unfold bE at h;split at h<;>try simp only [sh,reduceCtorEq]at h
 ·simp only [CR,fk]at b;split at h
  ·rename_i d;rw [d]at b;obtain⟨L,_,_,rfl⟩:=b;simp only [sh]at h;subst h;exact⟨_,_,rfl⟩
  ·rename_i s cs j e st d;rw [d]at b;split at h
   ·rename_i g;have:=b.2.1 g.1 g.2;simp only [sh]at h;subst h;cases st with
    | loc=>obtain⟨L,_,k,_,_,rfl⟩:=this;exact⟨_,_,rfl⟩
    | nil=>obtain⟨_,rfl,rfl⟩:=this;exact⟨_,_,rfl⟩
    | es=>obtain⟨_,rfl,a,rfl⟩:=this;exact⟨_,_,rfl⟩
   ·simp at h
  ·simp at h
 ·subst h;cases (b:cB σ X.F X.w .aE u);exact⟨_,_,rfl⟩
 ·subst h;cases (b:cB σ X.F X.w .es u);exact⟨_,_,rfl⟩
 ·subst h;cases (b:cB σ X.F X.w (.fs _ _) u)<;>exact⟨_,_,rfl⟩
theorem kV(J:SR Q σ X){sz:Nat}{x:C}{u:Value}(y:CR σ X x u){l:Nat}(m:bE X.H x=aa l){cs:List C}(h:cF X.H sz x=aa cs) :
  ∃ us,(Builtin.firstCells sz l u).run Q X.w=.ok us.toArray X.w∧A2 (CR σ X) cs us∧cs.length=l*sz:=by
 have row:∀(c o:Nat) (us:List Value) (cap:Nat),us.length=l*sz→(∀(i:Nat) u,us[i]?=aa u→X.w.cell? ⟨c,o+i,ab⟩=aa u) →
   (Builtin.firstCells sz l (.slice (aa ⟨c,o,ab⟩) l cap)).run Q X.w=.ok us.toArray X.w:=by
  intro c o us cap g F;have:=run_loadCells_list (P:=Q) X.w ⟨c,o,ab⟩ us (fun j v N=>by rw [dR];exact F j v N);rw [g]at this;simpa [Builtin.firstCells]using this
 unfold cF at h;split at h<;>try simp only [reduceCtorEq]at h
 ·rename_i b o H cap S s;simp only [CR,fk]at y;simp only [bE]at m;split at h
  ·rename_i cs' M E;rw [E]at y m;simp only [sh]at m;subst m;obtain⟨L,I,_,rfl⟩:=y;split at h
   ·rename_i q;simp only [sh]at h;subst h;obtain⟨_,_,bq,d,z⟩:=J.br b L I;rw [E]at d;simp only [sh]at d;subst d;obtain⟨us,hr,B,_⟩:=z;have:=B.len;refine⟨(us.drop o).take (H*sz),row _ _ _ _ (by simp;omega) (fun i u g=>?_),(B.drop o).take _,by simp;omega⟩;rw [cW hr];rw [aqT]at g;split at g
    ·rw [aqF]at g;exact g
    ·simp at g
   ·simp at h
  ·rename_i s' cs' M e st E;rw [E]at y m;split at h
   ·rename_i F;obtain⟨rfl,rfl,q⟩:=F;simp only [and_self,if_true,sh]at m;subst m;simp only [sh]at h;subst h;have A:=y.2.1 rfl rfl;cases st with
    | loc=>
     obtain⟨L,I,k,_,_,rfl⟩:=A;obtain⟨_,_,bq,d,z⟩:=J.br b L I;rw [E]at d;simp only [sh]at d;subst d;obtain⟨_,us,rest,hr,B,_⟩:=z;have:=B.len;refine⟨(us.drop o).take (H*sz),row _ _ _ _ (by simp;omega) (fun i u g=>?_),(B.drop o).take _,by simp;omega⟩;rw [cW hr];rw [aqT]at g;split at g
     ·rw [aqF]at g;rw [AI (By.1 g).1];exact g
     ·simp at g
    | nil=>
     obtain⟨rfl,rfl,rfl⟩:=A;exact⟨[],by simp [Builtin.firstCells],by simpa using A2.nil,by simp⟩
    | es=>
     obtain⟨rfl,rfl,a,rfl⟩:=A;exact⟨[],by simp [Builtin.firstCells,loadCells,loadCellsFrom],by simpa using A2.nil,by simp⟩
   ·simp at h
  ·simp at h
 ·simp only [sh]at h;subst h;simp only [bE,sh]at m;subst m;cases (y:cB σ X.F X.w .aE u);exact⟨[],by simp [Builtin.firstCells],A2.nil,by simp⟩
 ·simp only [sh]at h;subst h;simp only [bE,sh]at m;subst m;cases (y:cB σ X.F X.w .es u);exact⟨[],by simp [Builtin.firstCells,loadCells,loadCellsFrom],A2.nil,by simp⟩
 ·rename_i cs' H;simp only [bE,sh]at m;subst m;split at h
  ·rename_i q;simp only [sh]at h;subst h;cases (y:cB σ X.F X.w (.fs cs' H) u)with
   | fs _ _ c o cap us K O U F hr=>
    exact⟨us,row _ _ _ _ (by omega) F,A2.map ⟨by omega,hr⟩,by simp;omega⟩
   | fs0 a cap=>exact⟨[],by simp [Builtin.firstCells,loadCells,loadCellsFrom],A2.nil,by simp⟩
  ·simp at h
theorem aaW{v:V}{u:Value}(h:VR σ X v u){c:C}(l:rS v=aa c):fk σ X c u:=by
 unfold rS at l;split at l
 ·simp at l
 ·simp at l
 ·rename_i x q m;simp only [sh]at l;subst l;cases x with
  | cl f j=>exact absurd rfl (q f j)| bm f j=>exact absurd rfl (m f j)| mi b=>exact h| f y=>exact h| ptr a b c=>exact h| sl a b c d e g=>exact h| yl b=>exact h| mp b=>exact h| it b=>exact h
 ·simp at l
theorem A0{xs:List V}{us:List Value}(h:A2 (VR σ X) xs us){cs:List C}(b:bj rS xs=aa cs):A2 (fk σ X) cs us:=by
 induction xs generalizing us cs with
 | nil=>
  simp only [bj,sh]at b;subst b
  match us,h.len with
  | [],_=>exact A2.nil
 | cons x xs m=>
  match us,h with
  | u::us,h=>
   obtain⟨g,j⟩:=h.of_cons;simp only [bj]at b;split at b
   ·simp at b
   ·rename_i y l;split at b
    ·simp at b
    ·rename_i ys d;simp only [sh]at b;subst b;exact A2.cons (aaW g l) (m j d)
  | [],h=>have:=h.len;simp at this
theorem cZ{d:Operand→Value}{o:Oper}{c:Call}{b:Builtin}(j:o.op=.call c)(g:c.callee=.builtin b){r:Result Next}{w:World}
  (h:∀ cs,(builtin b c.argTypes o.type cs (c.args.map d)).run Q w=r):(execOp d o).run Q w=r:=by
 simp only [execOp,j,resolve,g,Sem.run_bind,Sem.run_pure,Result.andThen_ok,invoke];exact h _
theorem vg{α:Type}{a:Array α}{x:α}(h:a.toList=[x]):a=#[x]:=by
 apply Array.ext';simp [h]
theorem aaQ{α:Type}{a:Array α}{x y:α}(h:a.toList=[x,y]):a=#[x,y]:=by
 apply Array.ext';simp [h]
theorem Kq{c:Call}{x:Arg}(h:dz Q σ c (.len x)=ae):∃ y t e,c.callee=.builtin .len∧c.args=#[y]∧c.argTypes=#[t]∧mA σ x y=ae∧Q.underlying t=aa (.slice e):=by
 simp only [dz]at h;split at h
 ·rename_i y t b d g;simp only [BY]at h;have:=h.2;split at this
  ·exact⟨y,t,_,b,vg d,vg g,h.1,by assumption⟩
  ·simp at this
 ·simp at h
theorem DQ{c:Call}{x:Arg}(h:dz Q σ c (.lens x)=ae):∃ y t,c.callee=.builtin .len∧c.args=#[y]∧c.argTypes=#[t]∧mA σ x y=ae∧Q.underlying t=aa .string:=by
 simp only [dz]at h;split at h
 ·rename_i y t b d g;simp only [BY]at h;have:=h.2;split at this
  ·exact⟨y,t,b,vg d,vg g,h.1,by assumption⟩
  ·simp at this
 ·simp at h
theorem DP{c:Call}{n:Nat}(h:dz Q σ c (.tP n)=ae):∃ y t e,c.callee=.builtin .len∧c.args=#[y]∧c.argTypes=#[t]∧Q.underlying t=aa (.array n e):=by
 simp only [dz]at h;split at h
 ·rename_i y t b d g;split at h
  ·rename_i m e j;simp only [decide_eq_true_eq]at h;subst h;exact⟨y,t,e,b,vg d,vg g,j⟩
  ·simp at h
 ·simp at h
theorem DR{c:Call}{lo:Bool}{xs:List Arg}(h:dz Q σ c (.mh lo xs)=ae):c.callee=.builtin (if lo then .min else .max)∧XF σ xs c.args=ae:=by
 simp only [dz]at h;split at h
 ·rename_i b;exact⟨b,h⟩
 ·rename_i b;exact⟨b,h⟩
 ·simp at h
theorem VP{lo:Bool}{x y z:V}{u v:Value}(b:VR σ X x u)(d:VR σ X y v)(h:Fp lo x y=aa z)(w:World):∃ r,(if lo then Builtin.min2 u v else Builtin.max2 u v).run Q w=.ok r w∧VR σ X z r:=by
 unfold Fp at h;split at h
 ·simp only [sh]at h;subst h;have b:=VR.int b;have d:=VR.int d;subst b;subst d;cases lo
  ·exact⟨_,by simp [Builtin.max2],VR.mkInt _ _⟩
  ·exact⟨_,by simp [Builtin.min2],VR.mkInt _ _⟩
 ·simp at h
theorem Bv{lo:Bool}(w:World):∀ {ys:List V} {d:List Value} {x z:V} {u:Value},VR σ X x u→A2 (VR σ X) ys d→xf lo x ys=aa z→∃ r,(d.foldlM (fun u v=>if lo then Builtin.min2 u v else Builtin.max2 u v) u).run Q w=.ok r w∧VR σ X z r
 | [],d,x,z,u,g,b,h=>by
  have:d=[]:=amu b.len.symm;subst this;simp only [xf,sh]at h;subst h;exact⟨u,rfl,g⟩
 | y::ys,[],x,z,u,g,b,h=>by have:=b.len;simp at this
 | y::ys,v::d,x,z,u,g,b,h=>by
  obtain⟨A,b⟩:=b.of_cons;simp only [xf]at h;split at h
  ·rename_i q B;obtain⟨r1,j,l⟩:=VP (Q:=Q) g A B w;obtain⟨r,m,s⟩:=Bv w l b h;exact⟨r,by rw [List.foldlM_cons,Sem.run_bind,j];exact m,s⟩
  ·simp at h
theorem Ko{c:Call}{x:Arg}(h:dz Q σ c (.cap x)=ae):∃ y t e,c.callee=.builtin .cap∧c.args=#[y]∧c.argTypes=#[t]∧mA σ x y=ae∧Q.underlying t=aa (.slice e):=by
 simp only [dz]at h;split at h
 ·rename_i y t g j l;simp only [BY]at h;obtain⟨m,d⟩:=h;split at d
  ·rename_i e b;exact⟨y,t,e,g,vg j,vg l,m,b⟩
  ·simp at d
 ·simp at h
theorem Xd{x:C}{u:Value}(d:CR σ X x u){n:Nat}(h:lz X.H x=aa n):∃ a l,u=.slice a l n:=by
 cases x with
 | sl b o l c m sz=>
  simp only [lz]at h;simp only [CR,fk]at d;split at h
  ·rename_i g;rw [g]at d;obtain⟨L,_,_,rfl⟩:=d;simp only [sh]at h;subst h;exact⟨_,_,rfl⟩
  ·rename_i g;rw [g]at d;split at h
   ·rename_i j;have:=d.2.1 j.1 j.2;simp only [sh]at h;subst h;obtain⟨_,_,rfl⟩:=this;exact⟨_,_,rfl⟩
   ·simp at h
  ·rename_i g;rw [g]at d;split at h
   ·rename_i j;have:=d.2.1 j.1 j.2;simp only [sh]at h;subst h;obtain⟨_,_,a,rfl⟩:=this;exact⟨_,_,rfl⟩
   ·simp at h
  ·simp at h
 | f y=>
  cases y<;>simp only [lz,sh,reduceCtorEq]at h
  ·subst h;cases (d:cB σ X.F X.w .aE u);exact⟨_,_,rfl⟩
  ·subst h;cases (d:cB σ X.F X.w .es u);exact⟨_,_,rfl⟩
 | _=>simp [lz]at h
theorem Fo(v:SR Q σ X){m:Nat}{L:Loc}(u:X.bW m=aa L){e:FC × C}(x:X.H[m]?=aa (.map [e])):∃ d:MapEntry,X.w.heap[L.c]?=aa (.map #[d] 1)∧cB σ X.F X.w e.1 d.key∧gG σ X (mV e.2) d.val∧d.born=0:=by
 obtain⟨_,_,bq,g,l⟩:=v.br m L u;rw [x]at g;cases g;obtain⟨j,q,b,s⟩:=l
 match j,b with
 | [d],b=>exact⟨d,q,b.of_cons.1.1,b.of_cons.1.2,s 0 d rfl⟩| [],b=>have:=b.len;simp at this| _::_::_,b=>have:=b.len;simp at this
theorem JP(q:SR Q σ X){x:V}{u:Value}(K:VR σ X x u){v:V}(h:kD X.H x=aa v):∃ r,(Instr.entry u).run Q X.w=.ok r X.w∧VR σ X v r:=by
 unfold kD at h;split at h
 ·rename_i b;obtain⟨L,H,_,rfl⟩:=K;split at h
  ·rename_i m s I;split at h
   ·rename_i e J;simp only [sh]at h;subst h;obtain⟨_,_,bq,d,j⟩:=q.br b L H;rw [I]at d;cases d;obtain⟨M,N,st,E,_,F,l⟩:=j;simp only [if_true]at l;obtain⟨rfl,rfl⟩:=l;obtain⟨g,y,z,A,B⟩:=Fo q E J;refine⟨.tuple #[g.key,g.val],?_,[g.key,g.val],rfl,A2.cons z (A2.cons A A2.nil)⟩;simp [Instr.entry,getObj,Sem.run,F,y,B,Result.andThen]
   ·simp at h
  ·simp at h
 ·simp at h
theorem A4:∀ {cs:List C} {us:List Value} {d:List UInt8},A2 (CR σ X) cs us→bj (fun c=>match c with | C.f (.int .u8 n)=>aa (UInt8.ofNat n.toNat) | _=>ab) cs=aa d →
  ∃ j:List Int,us=j.map (Value.int .u8)∧d=j.map fun n=>UInt8.ofNat n.toNat
 | [],us,d,h,b=>by
  simp only [bj,sh]at b;subst b
  match us,h.len with
  | [],_=>exact⟨[],rfl,rfl⟩
 | c::cs,[],d,h,b=>by have:=h.len;simp at this
 | c::cs,u::us,d,h,b=>by
  obtain⟨m,q⟩:=h.of_cons;simp only [bj]at b;split at b
  ·simp at b
  ·rename_i y g;split at b
   ·simp at b
   ·rename_i ys l;simp only [sh]at b;subst b;obtain⟨j,rfl,rfl⟩:=A4 q l;split at g
    ·rename_i n;simp only [sh]at g;subst g;cases (m:cB σ X.F X.w (.int .u8 n) u);exact⟨n::j,rfl,rfl⟩
    ·simp at g
theorem foldl_push:∀(b:List Int) (s:ByteArray),b.foldl (fun(r:ByteArray) n=>r.push (UInt8.ofNat n.toNat)) s=⟨s.data++(b.map fun n=>UInt8.ofNat n.toNat).toArray⟩
 | [],s=>by simp
 | n::b,s=>by
  rw [arx,foldl_push b]
  congr 1
  simp [ByteArray.push]
theorem Va(s:SR Q σ X){x:V}{u:Value}(m:VR σ X x u){v:V}(h:nr X.H x=aa v):∃ r,(Conv.bytesToString u).run Q X.w=.ok r X.w∧VR σ X v r:=by
 unfold nr at h;split at h
 ·rename_i x;split at h
  ·rename_i l j;split at h
   ·rename_i cs g;simp only [If]at h;obtain⟨z,y,rfl⟩:=h;obtain⟨us,d,q,A⟩:=kV s m j g;obtain⟨ad,c,rfl⟩:=gW m j;obtain⟨b,rfl,rfl⟩:=A4 q y;refine⟨.string (b.foldl (fun(r:ByteArray) n=>r.push (UInt8.ofNat n.toNat)) ByteArray.empty),?_,?_⟩
    ·cases ad with
     | none=>
      simp only [Builtin.firstCells,Sem.run_pure,Result.ok.injEq,and_true]at d;have:b=[]:=by
       have:=congrArg Array.toList d;simpa using this.symm
      subst this;simp only [Conv.bytesToString,List.foldl_nil,List.map_nil,Sem.run_pure]
     | some ad=>exact run_bytesToString X.w ad l c b (by simpa [Builtin.firstCells]using d)
    ·rw [foldl_push];rw [show(ByteArray.empty.data++(List.map (fun n:Int=>UInt8.ofNat n.toNat) b).toArray)=(List.map (fun n:Int=>UInt8.ofNat n.toNat) b).toArray from Array.empty_append];exact VR.mkStr _
   ·simp at h
  ·simp at h
 ·simp at h
theorem ad6(hS:SR Q σ X){a:Act}{az:T}(H:RR σ X az a.tmps){o:Oper}{op:cG}(A:dq Q σ o op=ae)(hc:cls op=.p∨cls op=.r)(d6:op.fsl=ag){v:V}{H':aj}
  (h:bs az X.H op=aa (v,H')):H'=X.H∧∃ u,(execOp a.eval o).run Q X.w=.ok (.value u) X.w∧VR σ X v u:=by
 cases op<;>first | (simp only [cls,reduceCtorEq,or_self]at hc;done) | (simp [cG.fsl]at d6;done) | clear d6
 case bB x=>
  simp only [bs,sh,IN]at h;obtain⟨rfl,rfl⟩:=h;refine⟨rfl,?_⟩;simp only [dq]at A;split at A
  ·rename_i y E;exact⟨_,by simp [execOp,E],bH H A⟩
  ·rename_i y E;exact⟨_,by simp [execOp,E],bH H A⟩
  ·simp at A
 case pick c x y=>
  simp only [dq]at A;split at A
  ·rename_i c' x' y' E;simp only [BY]at A;simp only [bs]at h;have b7:=bH H A.1.1;split at h
   ·rename_i b Z;rw [Z]at b7;have b7:=VR.bool b7;simp only [sh,IN]at h;obtain⟨rfl,rfl⟩:=h;cases b
    ·exact⟨rfl,_,by simp [execOp,E,b7,asBool],bH H A.2⟩
    ·exact⟨rfl,_,by simp [execOp,E,b7,asBool],bH H A.1.2⟩
   ·simp at h
  ·simp at A
 case build zs qs=>
  simp only [dq]at A;split at A
  ·rename_i t ps E;simp only [BY]at A;simp only [bs,If,IN]at h;obtain⟨cs,a9,rfl,rfl⟩:=h;obtain⟨z,us,j9,j_,k_,_⟩:=eg (σ:=σ) (X:=X) A.1 X.w;refine⟨rfl,?_⟩;have Z:=A.2;unfold VL at Z;split at Z
   ·rename_i fs K;split at Z
    ·rename_i pl m7;obtain⟨b_,N,h6⟩:=mM (place:=(pl.toArray[·]?)) H ((eb Z).kr fun q p W=>by
      simp only [BY,decide_eq_true_eq]at W;exact⟨by simpa using W.1,W.2⟩) k_ a9
     refine⟨.agg b_.toArray,?_,b_,rfl,h6⟩;have hp:=run_places (P:=Q) X.w fs.toList pl m7;simp only [execOp,E];refine dM ?_;simp [Instr.build,j9,a6 K,Array.mapM_eq_mapM_toList,hp,j_];simp at N;simp [N]
    ·simp at Z
   ·rename_i n e K;split at Z
    ·rename_i l7 hi;obtain⟨b_,N,h6⟩:=mM (place:=fun i=>aa (i*l7.size,l7.size)) H ((eb Z).kr fun q p W=>by
      simp only [BY,beq_iff_eq]at W;exact⟨by rw [W.1.2,W.1.1],W.2⟩) k_ a9
     refine⟨.agg b_.toArray,?_,b_,rfl,h6⟩;simp only [execOp,E];refine dM ?_;simp [Instr.build,j9,a6 K,Go.sizeOf,typeInfo,hi,j_,N]
    ·simp at Z
   ·simp at Z
  ·simp at A
 case load k x=>
  simp only [dq]at A;split at A
  ·rename_i t y E;simp only [BY]at A;simp only [bs,If,IN]at h;obtain⟨v',F,rfl,rfl⟩:=h;obtain⟨u,J,M⟩:=afB hS A.1 (bH H A.2) F;exact⟨rfl,u,by simp only [execOp,E];exact dM J,M⟩
  ·simp at A
 case bw x=>
  simp only [dq]at A;split at A
  ·rename_i y E;have B:=bH H A;simp only [bs]at h;have d8:∀ ad,a.eval y=.pointer (aa ad)→(execOp a.eval o).run Q X.w=.ok (.value (a.eval y)) X.w:=by
    intro ad a_;simp [execOp,E,a_]
   split at h
   ·rename_i b off e Z;simp only [sh,IN]at h;obtain⟨rfl,rfl⟩:=h;rw [Z]at B;have c_:=B;obtain⟨L,hL,B⟩:=B;split at B
    ·exact⟨rfl,_,d8 _ B,c_⟩
    ·obtain⟨_,_,ad,a_⟩:=B;exact⟨rfl,_,d8 _ a_,c_⟩
    ·exact B.elim
   ·rename_i cs off Z;simp only [sh,IN]at h;obtain⟨rfl,rfl⟩:=h;rw [Z]at B;have c_:=B;have:∃ ad,a.eval y=.pointer (aa ad):=by
     generalize a.eval y=u at B;cases (B:cB σ X.F X.w (.fp cs off) u);exact⟨_,rfl⟩
    obtain⟨ad,a_⟩:=this;exact⟨rfl,_,d8 _ a_,c_⟩
   ·simp at h
  ·simp at A
 case bin op x y=>
  simp only [dq]at A;split at A
  ·rename_i l_ t x' y' yt E;simp only [BY,decide_eq_true_eq]at A;obtain⟨⟨rfl,B⟩,S⟩:=A;simp only [bs,If,IN]at h;obtain⟨v',F,rfl,rfl⟩:=h;have B:=bH H B;have S:=bH H S;refine⟨rfl,?_⟩;have guard:∀ op,(∀ xs,a.eval x'≠.agg xs)→a.eval x'≠.nilIface→(eqGuard op t x' y' (a.eval x') (a.eval y')).run Q X.w=.ok () X.w:=by
    intro op J M;cases op<;>simp [eqGuard]<;>(generalize a.eval x'=ux at *;cases ux<;>simp at J M ⊢)
   unfold bM at F;split at F
   ·rename_i k n k' m J M;rw [J]at B;rw [M]at S;have B:=VR.int B;have S:=VR.int S;split at F
    ·simp at F
    ·rename_i A;simp only [sh]at F;subst F;exact⟨_,by simp only [execOp,E];refine dM ?_;rw [Sem.run_bind,guard _ (by simp [B]) (by simp [B])];simp [B,S,binOp,Op.shift,A],VR.mkInt _ _⟩
   ·rename_i k n k' m J M;rw [J]at B;rw [M]at S;have B:=VR.int B;have S:=VR.int S;split at F
    ·simp at F
    ·rename_i A;simp only [sh]at F;subst F;exact⟨_,by simp only [execOp,E];refine dM ?_;rw [Sem.run_bind,guard _ (by simp [B]) (by simp [B])];simp [B,S,binOp,Op.shift,A],VR.mkInt _ _⟩
   ·rename_i k n k' m _ _ J M;rw [J]at B;rw [M]at S;have B:=VR.int B;have S:=VR.int S;split at F
    ·rename_i hk;subst hk;obtain⟨u,Y,O,N⟩:=aaR (Q:=Q) (σ:=σ) (X:=X) F X.w;exact⟨u,by simp only [execOp,E];refine dM ?_;rw [Sem.run_bind,guard _ (by simp [B]) (by simp [B])];simp [B,S,N,Y],O⟩
    ·simp at F
   ·rename_i s1 s2 J M;rw [J]at B;rw [M]at S;have B:=VR.str B;have S:=VR.str S;obtain⟨u,Y,O⟩:=aaT (Q:=Q) (σ:=σ) (X:=X) F X.w t;exact⟨u,by simp only [execOp,E];refine dM ?_;rw [Sem.run_bind,guard _ (by simp [B]) (by simp [B])];simp [B,S,Y],O⟩
   ·simp at F
  ·simp at A
 case eq neg k x y=>
  simp only [dq]at A;split at A
  ·rename_i l_ t x' y' yt E;simp only [BY,decide_eq_true_eq]at A;obtain⟨⟨⟨rfl,B⟩,S⟩,hk⟩:=A;simp only [bs,If,IN]at h;obtain⟨b,F,rfl,rfl⟩:=h;refine⟨rfl,_,?_,VR.tT _⟩;simp only [execOp,E];exact dM (afc hk (bH H B) (bH H S) F neg X.w)
  ·simp at A
 case un op x=>
  simp only [dq]at A;split at A
  ·rename_i l_ t y E;simp only [BY,decide_eq_true_eq]at A;obtain⟨rfl,B⟩:=A;simp only [bs,If,IN]at h;obtain⟨v',F,rfl,rfl⟩:=h;have B:=bH H B;refine⟨rfl,?_⟩;unfold unV at F;split at F
   ·rename_i k n J;rw [J]at B;have B:=VR.int B;simp only [sh]at F;subst F;exact⟨_,by simp [execOp,E,B,Op.unary,Op.intArith],VR.mkInt _ _⟩
   ·rename_i b J;rw [J]at B;have B:=VR.bool B;simp only [sh]at F;subst F;exact⟨_,by simp [execOp,E,B,Op.unary],VR.tT _⟩
   ·simp at F
  ·simp at A
 case eM k x=>
  simp only [dq]at A;split at A
  ·rename_i s d y E;simp only [BY]at A;obtain⟨⟨B,hs⟩,hd⟩:=A;have B:=bH H B;simp only [bs]at h;split at h
   ·rename_i q n J;rw [J]at B;have B:=VR.int B;simp only [sh,IN]at h;obtain⟨rfl,rfl⟩:=h;split at hd
    ·rename_i k' K;simp only [decide_eq_true_eq]at hd;subst hd;obtain⟨ds,m4⟩:=Option.isSome_iff_exists.1 hs;exact⟨rfl,_,by simp only [execOp,E];refine dM ?_;simp [convert,a6 m4,a6 K,B,Conv.intToInt],VR.mkInt _ _⟩
    ·simp at hd
   ·simp at h
  ·simp at A
 case yo x=>
  simp only [dq]at A;split at A
  ·rename_i s d y E;simp only [BY]at A;obtain⟨B,hd⟩:=A;have B:=bH H B;simp only [bs]at h;split at h
   ·rename_i q J;rw [J]at B;have B:=VR.str B;simp only [sh,IN]at h;obtain⟨rfl,rfl⟩:=h;split at hd
    ·rename_i e_ f9;exact⟨rfl,_,by simp only [execOp,E];refine dM ?_;simp [convert,a6 e_,a6 f9,B],VR.mkStr _⟩
    ·simp at hd
   ·simp at h
  ·simp at A
 case jZ f xs=>
  simp only [dq]at A;split at A
  ·rename_i g fst a8 E;simp only [BY,beq_iff_eq]at A;obtain⟨⟨I,rfl⟩,B⟩:=A;simp only [bs,If,IN]at h;obtain⟨cs,a9,rfl,rfl⟩:=h;have:=A0 (me H B) a9;have h_:fst=#[]:=by simpa using I
   exact⟨rfl,.func (.func (σ f)) #[] (a8.map a.eval),by simp only [execOp,E,Instr.makeFunc,h_];exact dM (by simp),(a8.map a.eval).toList,congrArg _ Array.toArray_toList.symm,this⟩
  ·simp at A
 case slice sz x lo hi mx=>
  simp only [dq]at A;split at A
  ·rename_i t y l9 i_ mx' E;simp only [BY,decide_eq_true_eq]at A;obtain⟨⟨⟨⟨⟨B,J⟩,M⟩,Y⟩,he⟩,hz⟩:=A;obtain⟨e,K,U⟩:=gK he;simp only [bs,If,IN]at h;obtain⟨v',F,rfl,rfl⟩:=h;obtain⟨r,O,N⟩:=xz K U (bH H B) (ri H J) (ri H M) (ri H Y) F;exact⟨rfl,r,by simp only [execOp,E];exact dM O,N⟩
  ·simp at A
 case nw n sz x lo hi mx=>
  simp only [dq]at A;split at A
  ·rename_i t y l9 i_ mx' E;simp only [BY,decide_eq_true_eq]at A;obtain⟨⟨⟨⟨⟨B,J⟩,M⟩,Y⟩,he⟩,hz⟩:=A;split at he
   ·rename_i n' e K;simp only [BY,beq_iff_eq]at he;obtain⟨rfl,U⟩:=he;simp only [bs,If,IN]at h;obtain⟨v',F,rfl,rfl⟩:=h;obtain⟨r,O,N⟩:=K_ hS K U (bH H B) (ri H J) (ri H M) (ri H Y) F;exact⟨rfl,r,by simp only [execOp,E];exact dM O,N⟩
   ·simp at he
  ·simp at A
 case pM x lo hi=>
  simp only [dq]at A;split at A
  ·rename_i t y l9 i_ E;simp only [BY]at A;obtain⟨⟨⟨B,J⟩,M⟩,he⟩:=A;split at he
   ·rename_i K;simp only [bs,If,IN]at h;obtain⟨v',F,rfl,rfl⟩:=h;obtain⟨r,O,N⟩:=Lb K (bH H B) (ri H J) (ri H M) F X.w;exact⟨rfl,r,by simp only [execOp,E,Option.map_none];exact dM O,N⟩
   ·simp at he
  ·simp at A
 case aB off x=>
  simp only [dq]at A;split at A
  ·rename_i t y i E;simp only [BY]at A;obtain⟨B,I⟩:=A;split at I
   ·rename_i fs K;split at I
    ·rename_i f d9;simp only [BY,beq_iff_eq]at I;obtain⟨rfl,hz⟩:=I;simp only [bs,If,IN]at h;obtain⟨v',F,rfl,rfl⟩:=h;obtain⟨r,O,N⟩:=Dx K d9 hz (bH H B) F X.w;exact⟨rfl,r,by simp only [execOp,E];exact dM O,N⟩
    ·simp at I
   ·simp at I
  ·simp at A
 case field off n x=>
  simp only [dq]at A;split at A
  ·rename_i t y i E;simp only [BY]at A;obtain⟨B,I⟩:=A;split at I
   ·rename_i fs K;split at I
    ·rename_i f d9;simp only [BY,beq_iff_eq]at I;obtain⟨rfl,hz⟩:=I;simp only [bs,If,IN]at h;obtain⟨v',F,rfl,rfl⟩:=h;obtain⟨r,O,N⟩:=JR K d9 hz (bH H B) F X.w;exact⟨rfl,r,by simp only [execOp,E];exact dM O,N⟩
    ·simp at I
   ·simp at I
  ·simp at A
 case aV sz f_ x i=>
  simp only [dq]at A;split at A
  ·rename_i t y j E;simp only [BY]at A;obtain⟨⟨B,hi⟩,I⟩:=A;simp only [bs,If,IN]at h;obtain⟨v',F,rfl,rfl⟩:=h;have:∃ e,db Q e sz=ae∧((f_=ab∧Q.underlying t=aa (.slice e))∨∃ n,f_=aa n∧Q.underlying t=aa (.array n e)):=by
    split at I
    ·rename_i e K;exact⟨e,I,.inl ⟨rfl,K⟩⟩
    ·rename_i n e n' K;simp only [BY,beq_iff_eq]at I;obtain⟨rfl,U⟩:=I;exact⟨e,U,.inr ⟨_,rfl,K⟩⟩
    ·simp at I
   obtain⟨e,U,K⟩:=this;obtain⟨r,O,N⟩:=DH U K (bH H B) (bH H hi) F;exact⟨rfl,r,by simp only [execOp,E];exact dM O,N⟩
  ·simp at A
 case idxs x i=>
  simp only [dq]at A;split at A
  ·rename_i t y j E;simp only [BY]at A;obtain⟨⟨B,hi⟩,I⟩:=A;simp only [bs,If,IN]at h;obtain⟨v',F,rfl,rfl⟩:=h;split at I
   ·rename_i K;obtain⟨r,O,N⟩:=Vu K (bH H B) (bH H hi) F X.w;exact⟨rfl,r,by simp only [execOp,E];exact dM O,N⟩
   ·simp at I
  ·simp at A
 case oE n sz k x i=>
  simp only [dq]at A;split at A
  ·rename_i t y j E;simp only [BY]at A;obtain⟨⟨B,hi⟩,I⟩:=A;simp only [bs,If,IN]at h;obtain⟨v',F,rfl,rfl⟩:=h;split at I
   ·rename_i n' e K;simp only [BY,beq_iff_eq]at I;obtain⟨⟨rfl,U⟩,hk⟩:=I;obtain⟨r,O,N⟩:=Vt K U hk (bH H B) (bH H hi) F X.w;exact⟨rfl,r,by simp only [execOp,E];exact dM O,N⟩
   ·simp at I
  ·simp at A
 case lookup ck z m k=>
  simp only [dq]at A;split at A
  ·rename_i t m' k' ok E;simp only [BY,beq_iff_eq]at A;obtain⟨⟨⟨J,M⟩,m6⟩,I⟩:=A;simp only [bs,If,IN]at h;obtain⟨v',F,rfl,rfl⟩:=h;split at I
   ·rename_i kt e K;simp only [BY]at I;obtain⟨u,O,N⟩:=Kl hS K I.1.1 m6 I.1.2 I.2 (bH H J) (bH H M) F;exact⟨rfl,u,by simp only [execOp,E];exact dM O,N⟩
   ·simp at I
  ·simp at A
 case extract x i=>
  simp only [dq]at A;split at A
  ·rename_i y j E;simp only [BY,beq_iff_eq]at A;obtain⟨B,rfl⟩:=A;have B:=bH H B;simp only [bs]at h;split at h
   ·rename_i vs m_;rw [m_]at B;simp only [If,IN]at h;obtain⟨v',F,rfl,rfl⟩:=h;obtain⟨us,c9,M⟩:=B;obtain⟨u,K,n4⟩:=M.get F;exact⟨rfl,u,by simp only [execOp,E];refine dM ?_;simp [Instr.extract,c9,K],VR.XI σ n4⟩
   ·simp at h
  ·simp at A
 case tP n=>
  simp only [dq]at A;split at A
  ·rename_i c E;obtain⟨y,t,e,J,M,Y,K⟩:=DP A;simp only [bs,sh,IN]at h;obtain⟨rfl,rfl⟩:=h;exact⟨rfl,_,cZ E J (fun cs=>by simp [builtin,M,Y,Builtin.len_,a6 K,goInt]),VR.mkInt _ _⟩
  ·simp at A
 case lens x=>
  simp only [dq]at A;split at A
  ·rename_i c E;obtain⟨y,t,J,M,Y,B,K⟩:=DQ A;have B:=bH H B;simp only [bs]at h;split at h
   ·rename_i s hs;rw [hs]at B;have B:=VR.str B;simp only [sh,IN]at h;obtain⟨rfl,rfl⟩:=h;exact⟨rfl,_,cZ E J (fun cs=>by simp [builtin,M,Y,Builtin.len_,a6 K,B,goInt]),VR.mkInt _ _⟩
   ·simp at h
  ·simp at A
 case len x=>
  simp only [dq]at A;split at A
  ·rename_i c E;obtain⟨y,t,e,J,M,Y,B,K⟩:=Kq A;have B:=bH H B;simp only [bs]at h;split at h
   ·rename_i z hz;rw [hz]at B;split at h
    ·rename_i n hn;simp only [sh,IN]at h;obtain⟨rfl,rfl⟩:=h;obtain⟨ad,cp,d_⟩:=gW B hn;exact⟨rfl,_,cZ E J (fun cs=>by simp [builtin,M,Y,Builtin.len_,a6 K,d_,goInt]),VR.mkInt _ _⟩
    ·simp at h
   ·simp at h
  ·simp at A
 case mh lo xs=>
  simp only [dq]at A;split at A
  ·rename_i c E;obtain⟨J,M⟩:=DR A;have hA:=me H M;simp only [bs,If,IN]at h;obtain⟨v',F,rfl,rfl⟩:=h;refine⟨rfl,?_⟩;unfold Ku at F;split at F
   ·simp at F
   ·rename_i x ys n5;rw [n5]at hA
    match c9:(c.args.map a.eval).toList,hA with
    | [],hA=>have:=hA.len;simp at this
    | u::us,hA=>
     obtain⟨B,hA⟩:=hA.of_cons;obtain⟨r,g1,g2⟩:=Bv (Q:=Q) (lo:=lo) X.w B hA F;refine⟨r,cZ E J (fun cs=>?_),g2⟩;cases lo
     ·simp only [anc,if_false]at g1 ⊢;have g1:(us.foldlM Builtin.max2 u).run Q X.w=.ok r X.w:=g1;have b9:List.map a.eval c.args.toList=u::us:=by simpa using c9
      simp [builtin,Builtin.max_,b9,g1]
     ·simp only [if_true]at g1 ⊢;have g1:(us.foldlM Builtin.min2 u).run Q X.w=.ok r X.w:=g1;have b9:List.map a.eval c.args.toList=u::us:=by simpa using c9
      simp [builtin,Builtin.min_,b9,g1]
  ·simp at A
 case cap x=>
  simp only [dq]at A;split at A
  ·rename_i c E;obtain⟨y,t,e,J,M,Y,B,K⟩:=Ko A;have B:=bH H B;simp only [bs]at h;split at h
   ·rename_i z hz;rw [hz]at B;split at h
    ·rename_i n hn;simp only [sh,IN]at h;obtain⟨rfl,rfl⟩:=h;obtain⟨ad,l,d_⟩:=Xd B hn;exact⟨rfl,_,cZ E J (fun cs=>by simp [builtin,M,Y,Builtin.cap_,a6 K,d_,goInt]),VR.mkInt _ _⟩
    ·simp at h
   ·simp at h
  ·simp at A
 case entry x=>
  simp only [dq]at A;split at A
  ·rename_i y E;simp only [bs,If,IN]at h;obtain⟨v',F,rfl,rfl⟩:=h;obtain⟨r,g1,g2⟩:=JP hS (bH H A) F;exact⟨rfl,r,by simp only [execOp,E];exact dM g1,g2⟩
  ·simp at A
 case vm f xs=>
  simp only [dq]at A;split at A
  ·rename_i g fst a8 E;simp only [BY,beq_iff_eq]at A;obtain⟨⟨I,rfl⟩,B⟩:=A;simp only [bs,If,IN]at h;obtain⟨cs,a9,rfl,rfl⟩:=h;have:=A0 (me H B) a9;have g_:a8=#[]:=by simpa using I
   exact⟨rfl,.func (.func (σ f)) (fst.map a.eval) #[],by simp only [execOp,E,Instr.makeFunc,g_];exact dM (by simp),(fst.map a.eval).toList,by rw [Array.toArray_toList],this⟩
  ·simp at A
 case call f args h'=>cases h'<;>simp [cls]at hc
 case vk x=>
  simp only [dq]at A;split at A
  ·rename_i s d y E;simp only [BY]at A;obtain⟨B,hd⟩:=A;have B:=bH H B;split at hd
   ·rename_i e e_ f9;simp only [BY]at hd;have m9:Q.underlying e=aa (.int .u8):=by
     have:=hd.1;unfold aja at this;split at this
     ·assumption
     ·simp at this
    simp only [bs,If,IN]at h;obtain⟨v',F,rfl,rfl⟩:=h;obtain⟨u,O,N⟩:=Va hS B F;refine⟨rfl,u,?_,N⟩;simp only [execOp,E];refine dM ?_;simp only [convert,Sem.run_bind,a6 e_,a6 f9,Result.andThen_ok];have:∃ ad l c,a.eval y=.slice ad l c:=by
     unfold nr at F;split at F
     ·rename_i z hz;rw [hz]at B;split at F
      ·rename_i l hl;obtain⟨ad,c,h⟩:=gW B hl;exact⟨_,_,_,h⟩
      ·simp at F
     ·simp at F
    obtain⟨ad,l,c,h6⟩:=this;rw [h6]at O ⊢;simp only [Sem.run_bind,a6 m9,Result.andThen_ok,O]
   ·simp at hd
  ·simp at A
end
section
variable{Q:Program}{σ:Nat→FuncId}{X:Wd}
theorem SR.lt(d:SR Q σ X){b:Nat}{L:Loc}(h:X.bW b=aa L):b<X.H.length:=by
 obtain⟨_,_,bq,g,_⟩:=d.br b L h;exact(By.1 g).1
theorem SR.qF(b:SR Q σ X):X.bW X.H.length=ab:=by
 cases h:X.bW X.H.length with
 | none=>rfl| some L=>have:=SR.lt b h;omega
theorem Ext.one(H:SR Q σ X){X':Wd}(b0:Nat)(A:X'.B=X.B)(x:∀ c i,X'.F c i↔X.F c i)
  (y:∀ k,k<X.w.heap.size→(∀ L,X.bW b0=aa L→k≠L.c)→X'.w.heap[k]?=X.w.heap[k]?)
  (u:∀ L i,X.bW b0=aa L→X.F L.c i→X'.w.cell? ⟨L.c,i,ab⟩=X.w.cell? ⟨L.c,i,ab⟩) (j:b0<X.H.length→kY X X' b0)
  (E:∀ b,b≠b0→b<X.H.length→X'.H[b]?=X.H[b]?) (d:∀ b,b≠b0→X'.bW b=X.bW b)
  (v:∀ L,X'.bW b0=aa L→(∃ q,X.bW b0=aa q∧q.c=L.c)∨X.w.heap.size≤L.c) (K:X.w.heap.size≤X'.w.heap.size) (ho:X'.w.os=X.w.os) (M:X'.w.tape=X.w.tape)
  (hu:X'.w.output=X.w.output):Ext X.H.length X X' where
 B:=A
 F:=fun c i h=>(x c i).2 h
 oa:=fun c i h=>.inl ((x c i).1 h)
 fw:=fun c i h=>by
  by_cases hc:∃ L,X.bW b0=aa L∧c=L.c
  ·obtain⟨L,g,rfl⟩:=hc;exact u L i g h
  ·exact World.cell?_of_block (y c (H.fb c i h) fun L g e=>hc ⟨L,g,e⟩)
 bY:=fun b l=>by
  by_cases h:b=b0
  ·subst h;exact j l
  ·intro bq m;refine⟨bq,(E b h l).trans m,?_⟩;have:∀ L,X.bW b=aa L→X'.bW b=aa L:=fun L g=>(d b h).trans g;cases bq<;>simp_all
 wT:=fun b L l=>by
  by_cases h:b=b0
  ·subst h;rcases v L l with⟨q,s,z⟩ | s
   ·exact .inl ⟨b,q,s,z⟩
   ·exact .inr s
  ·rw [d b h]at l;exact .inl ⟨b,L,l,rfl⟩
 size:=K
 os:=ho
 tape:=M
 output:=hu
 frame:=fun k I J=>y k I fun L g e=>J b0 L g e.symm
theorem SR.grow(d:SR Q σ X)(bq:cS):SR Q σ { X with H:=X.H++[bq] }∧Ext X.H.length X { X with H:=X.H++[bq] }:=by
 have j:Ext X.H.length X { X with H:=X.H++[bq] }:=Ext.one d X.H.length rfl (fun _ _=>Iff.rfl) (fun _ _ _=>rfl) (fun _ _ _ _=>rfl) (fun h=>by omega)
  (fun b _ h=>by simp [AI h]) (fun _ _=>rfl) (fun L h=>by rw [SR.qF d]at h;simp at h) (IT _) rfl rfl rfl
 refine⟨⟨fun b L g=>?_,d.inj,d.fb⟩,j⟩;obtain⟨l,m,blk',q,s⟩:=d.br b L g;exact⟨l,m,blk',by rw [AI (SR.lt d g)];exact q,BR.ext Q σ j rfl (fun _ h=>h) s⟩
structure dx(w w':World)(o:Obj):Prop where
 heap:w'.heap=w.heap.push o
 os:w'.os=w.os
 tape:w'.tape=w.tape
 output:w'.output=w.output
theorem dx.alloc(w:World)(o:Obj):dx w (w.alloc o) o:=⟨rfl,rfl,rfl,rfl⟩
theorem dx.CC{w w':World}{o:Obj}(h:dx w w' o){k:Nat}(b:k<w.heap.size):w'.heap[k]?=w.heap[k]?:=by
 rw [h.heap,Array.getElem?_push,aY (by omega)]
theorem dx.new{w w':World}{o:Obj}(h:dx w w' o):w'.heap[w.heap.size]?=aa o:=by
 rw [h.heap];simp
theorem dx.size{w w':World}{o:Obj}(h:dx w w' o):w'.heap.size=w.heap.size+1:=by
 rw [h.heap];simp
theorem SR.fill(g:SR Q σ X)(x:X.B≤X.w.heap.size){n:Nat}{bq:cS}(y:X.H[n]?=aa bq)(hr:X.bW n=ab){w':World}{o:Obj}(d:dx X.w w' o)(cap:Nat)
  (m:Ext X.H.length X { X with bW:=fun b=>if b=n then aa ⟨X.w.heap.size,cap⟩else X.bW b,w:=w' }→BR Q σ { X with bW:=fun b=>if b=n then aa ⟨X.w.heap.size,cap⟩else X.bW b,w:=w' } bq ⟨X.w.heap.size,cap⟩) :
  SR Q σ { X with bW:=fun b=>if b=n then aa ⟨X.w.heap.size,cap⟩else X.bW b,w:=w' }∧Ext X.H.length X { X with bW:=fun b=>if b=n then aa ⟨X.w.heap.size,cap⟩else X.bW b,w:=w' }:=by
 have q:Ext X.H.length X { X with bW:=fun b=>if b=n then aa ⟨X.w.heap.size,cap⟩else X.bW b,w:=w' }:=
  Ext.one g n rfl (fun _ _=>Iff.rfl) (fun k h _=>d.CC h) (fun L i u _=>by rw [hr]at u;simp at u)
   (fun _ s l=>⟨s,l,by
    cases s<;>simp [hr]⟩)
   (fun _ _ _=>rfl) (fun b h=>by simp [h]) (fun L h=>by simp at h;subst h;exact .inr (IT _)) (by rw [d.size];omega) d.os d.tape d.output
 refine⟨SR.step Q σ g q n (fun _ _=>rfl) (fun b h=>by simp [h]) (fun b L _ j=>d.CC (g.br b L j).2.1) (fun _ _ _ _ _ h=>h) (fun L h=>?_) (fun c i h=>by rw [d.size];have:=g.fb c i h;omega),q⟩;simp at h;subst h;refine⟨x,by simp [d.size],⟨bq,y,m q⟩,fun b v _ j=>?_⟩;have:=(g.br b v j).2.1;simp;omega
theorem SR.new(g:SR Q σ X)(s:X.B≤X.w.heap.size)(bq:cS){w':World}{o:Obj}(j:dx X.w w' o)(cap:Nat)
  (b:∀ X',Ext X.H.length X X'→X'.w=w'→X'.F=X.F→X'.H=X.H++[bq]→BR Q σ X' bq ⟨X.w.heap.size,cap⟩) :
  ∃ X',X'.w=w'∧X'.H=X.H++[bq]∧SR Q σ X'∧Ext X.H.length X X'∧X'.bW X.H.length=aa ⟨X.w.heap.size,cap⟩∧X'.B≤X'.w.heap.size:=by
 obtain⟨l,d⟩:=SR.grow g bq;have u:(X.H++[bq])[X.H.length]?=aa bq:=by simp
 obtain⟨m,q⟩:=SR.fill l s u (SR.qF g) j cap (fun v=>b _ (d.trans (v.mono (by simp))) rfl rfl rfl);exact⟨_,rfl,rfl,m,d.trans (q.mono (by simp)),by simp,by simp [j.size];omega⟩
theorem SR.turn(m:SR Q σ X){b:Nat}{bq blk':cS}{L:Loc}(B:X.H[b]?=aa bq)(l:X.bW b=aa L){w':World}(x:w'.heap.size=X.w.heap.size)
  (y:∀ k,k≠L.c→w'.heap[k]?=X.w.heap[k]?) (A:∀ i,X.F L.c i→w'.cell? ⟨L.c,i,ab⟩=X.w.cell? ⟨L.c,i,ab⟩) (ho:w'.os=X.w.os) (E:w'.tape=X.w.tape) (hu:w'.output=X.w.output)
  (j:kY X { X with H:=X.H.set b blk',w:=w' } b)
  (s:Ext X.H.length X { X with H:=X.H.set b blk',w:=w' }→BR Q σ { X with H:=X.H.set b blk',w:=w' } blk' L) :
  SR Q σ { X with H:=X.H.set b blk',w:=w' }∧Ext X.H.length X { X with H:=X.H.set b blk',w:=w' }:=by
 have u:b<X.H.length:=(By.1 B).1;have v:Ext X.H.length X { X with H:=X.H.set b blk',w:=w' }:=
  Ext.one m b rfl (fun _ _=>Iff.rfl) (fun k _ h=>y k (h L l)) (fun d i h=>by rw [l]at h;cases h;exact A i) (fun _=>j)
   (fun q h _=>by simp [AT (Ne.symm h)]) (fun _ _=>rfl) (fun d h=>.inl ⟨d,h,rfl⟩) (Nat.le_of_eq x.symm) ho E hu
 refine⟨SR.step Q σ m v b (fun q h=>by simp [AT (Ne.symm h)]) (fun _ _=>rfl) (fun q d h g=>y _ fun e=>h (m.inj q b d L g l e)) (fun _ _ _ _ _ h=>h)
  (fun d h=>?_) (fun c i h=>by rw [x];exact m.fb c i h),v⟩
 change X.bW b=aa d at h;rw [l]at h;cases h;obtain⟨z,F,_⟩:=m.br b L l;exact⟨z,by show L.c<w'.heap.size;omega,⟨blk',by simp [u],s v⟩,fun q d h g e=>h (m.inj q b d L g l e)⟩
theorem dK{w:World}{c:Nat}{us:List Value}(h:rowAt w c us):∀(b:List Value) (off:Nat),off+b.length≤us.length →
  (w.setCells c off b).heap.size=w.heap.size∧(∀ k,k≠c→(w.setCells c off b).heap[k]?=w.heap[k]?)∧(w.setCells c off b).os=w.os∧(w.setCells c off b).tape=w.tape ∧
  (w.setCells c off b).output=w.output∧rowAt (w.setCells c off b) c (over us off b)
 | [],off,_=>⟨rfl,fun _ _=>rfl,rfl,rfl,rfl,by simpa [World.setCells,over]using h⟩
 | v::b,off,j=>by
  simp only [aqW]at j;have d:rowAt (w.setCell ⟨c,off,ab⟩ v) c (us.set off v):=by
   obtain⟨e,m,d,g⟩:=h;refine⟨e,m,?_,by simpa using g⟩;simp [World.setCell,Array.getElem?_modify,d]
  obtain⟨g,q,s,u,x,y⟩:=dK d b (off+1) (by simp;omega);simp only [World.setCells];refine⟨by rw [g];simp,fun k l=>(q k l).trans ?_,s,u,x,?_⟩
  ·simp only [World.setCell,Array.getElem?_modify];rw [aY (by simpa using Ne.symm l)]
  ·have:over (us.set off v) (off+1) b=over us off (v::b):=by
    unfold over;simp only [aqW];rw [List.take_set,List.drop_set_of_lt (by omega),show off+1+b.length=off+(b.length+1) by omega];rw [aqC (by omega)];have j:(List.take off us).length=off:=by simp;omega
    have e:(List.take off us++[us[off]]).set off v=List.take off us++[v]:=by
     rw [List.set_append,aY (by omega),j];simp
    rw [e];simp
   rw [←this];exact y
theorem qW{w:World}{c:Nat}{us:List Value}(h:rowAt w c us)(b:List Value)(off:Nat)(l:off+b.length≤us.length)(d:∀ v ∈ b,v.oneCell'=ae) :
  (storeCells ⟨c,off,ab⟩ b).run Q w=.ok () (w.setCells c off b):=by
 have:=run_storeCells_cells (P:=Q) c off b 0 w (fun j g=>by rw [cW h];simp;omega) (fun j g=>DA h (by omega)) d;simpa using this
theorem BI{α:Type}(us:List α)(off:Nat)(b:List α)(h:off+b.length≤us.length)(i:Nat)(hi:i<off):(over us off b)[i]?=us[i]?:=by
 unfold over;rw [AI (by simp;omega),AI (by simp;omega),aqT];simp [hi]
end
section
variable{Q:Program}{σ:Nat→FuncId}{X:Wd}
def gq(Q:Program)(σ:Nat→FuncId)(X:Wd)(v:V)(H':aj)(s:Sem Next):Prop:=
 ∃ u X',(s.run Q X.w=.ok (.value u) X'.w∨(s.run Q X.w=.ok .skip X'.w∧u=undef))∧X'.H=H'∧SR Q σ X'∧VR σ X' v u∧Ext X.H.length X X'∧X'.B≤X'.w.heap.size
theorem gq.ajC(g:X.B≤X.w.heap.size)(j:SR Q σ X){v:V}{H':aj}{s:Sem Next}(h:H'=X.H∧∃ u,s.run Q X.w=.ok (.value u) X.w∧VR σ X v u):gq Q σ X v H' s:=by
 obtain⟨rfl,u,b,d⟩:=h;exact⟨u,X,.inl b,rfl,j,d,Ext.refl _ _,g⟩
theorem iM{w w':World}{us:List Value}{e:TypeId}(h:dx w w' (.cells us.toArray e)):rowAt w' w.heap.size us:=⟨e,(0,0),h.new,fun i _=>by simp⟩
theorem D1(b:SR Q σ X)(g:X.B≤X.w.heap.size){cs:List C}{us:List Value}(h:A2 (CR σ X) cs us)(e:TypeId) :
  ∃ X',X'.w=X.w.alloc (.cells us.toArray e)∧X'.H=X.H++[.box cs 0]∧SR Q σ X'∧Ext X.H.length X X'∧X'.bW X.H.length=aa ⟨X.w.heap.size,0⟩∧X'.B≤X'.w.heap.size:=
 SR.new b g (.box cs 0) (dx.alloc _ _) 0 fun X' m l j _=>⟨us,by rw [l];exact iM (dx.alloc _ _),A2.ext' σ m h,fun i _ d=>by
  rw [j]at d;have:=b.fb _ _ d;simp at this⟩
theorem tW(u:SR Q σ X)(q:X.B≤X.w.heap.size){cs:List C}{us:List Value}(h:A2 (CR σ X) cs us)(e:TypeId){s:Sem Next}
  (v:s.run Q X.w=.ok (.value (.pointer (aa ⟨X.w.heap.size,0,ab⟩))) (X.w.alloc (.cells us.toArray e))):gq Q σ X (.c (.ptr X.H.length 0 0)) (X.H++[.box cs 0]) s:=by
 obtain⟨X',d,b,g,j,l,m⟩:=D1 u q h e;refine⟨_,X',.inl (by rw [d];exact v),b,g,?_,j,m⟩;exact⟨_,l,by rw [b];simp⟩
theorem UQ(m:SR Q σ X)(l:X.B≤X.w.heap.size){a:Act}{o:Oper}{zs:List FC}(b:dq Q σ o (.alloc zs)=ae) :
  gq Q σ X (.c (.ptr X.H.length 0 0)) (X.H++[.box (zs.map .f) 0]) (execOp a.eval o):=by
 simp only [dq]at b;split at b
 ·rename_i t q;obtain⟨z,us,d,g,j,_⟩:=eg (σ:=σ) (X:=X) b X.w;refine tW m l j t ?_;simp only [execOp,q];refine dM ?_;simp [Instr.alloc,d,newVar,newRow,g]
 ·simp at b
theorem aeT(m:SR Q σ X)(j:X.B≤X.w.heap.size){a:Act}{az:T}(l:RR σ X az a.tmps){o:Oper}{x:Arg}(b:dq Q σ o (.box x)=ae){xs:List C}(s:(x.ev az).cells?=aa xs) :
  gq Q σ X (.c (.ptr X.H.length 0 0)) (X.H++[.box xs 0]) (execOp a.eval o):=by
 simp only [dq]at b;split at b
 ·rename_i t y q;obtain⟨us,d,g⟩:=ot (bH l b) s;refine tW m j g t ?_;simp only [execOp,q];refine dM ?_;simp [Instr.box,newVar,newRow,d]
 ·simp at b
theorem jf{zs:List FC}{us:List Value}(h:A2 (CR σ X) (zs.map .f) us)(n:Nat):A2 (CR σ X) ((bV n zs).map .f) (bV n us):=by
 induction n with
 | zero=>exact A2.nil
 | succ n b=>
  simp only [bV,List.replicate_succ,List.flatten_cons,List.map_append]at b ⊢;exact h.append b
theorem kg{α:Type}(n:Nat)(xs:List α):(bV n xs).length=n*xs.length:=by simp [bV]
theorem B4{α:Type}(us:List α):∀(n i:Nat),i<n*us.length→(bV n us)[i]?=us[i % us.length]?
 | 0,i,h=>by simp at h
 | n+1,i,h=>by
  have b:bV (n+1) us=us++bV n us:=by simp [bV,List.replicate_succ]
  rw [b];by_cases hi:i<us.length
  ·rw [AI hi,Nat.mod_eq_of_lt hi]
  ·have d:(n+1)*us.length=n*us.length+us.length:=by rw [arc];omega
   rw [aqJ (by omega),B4 us n (i-us.length) (by omega)];rw [←Nat.mod_eq_sub_mod (by omega)]
theorem gY(us:List Value)(n:Nat)(q:0<us.length):((Array.range (n*us.length)).map fun i=>us.toArray[i % us.toArray.size]!)=(bV n us).toArray:=by
 apply Array.ext
 ·simp [kg]
 ·intro i g j;have l:i<n*us.length:=by simpa using g
  have b:=B4 us n i l;have d:i % us.length<us.length:=Nat.mod_lt _ q;have m:i<(bV n us).length:=by simpa using j
  rw [At m,At d,sh]at b;simp [b,d]
theorem JH(d:SR Q σ X)(hB:X.B≤X.w.heap.size){a:Act}{az:T}(hR:RR σ X az a.tmps){o:Oper}{sz n:Nat}{zs:List FC}{ps:List (Nat × Arg)}
  (l:dq Q σ o (.aU sz zs n ps)=ae) {v:V} {H':aj} (h:bs az X.H (.aU sz zs n ps)=aa (v,H')):gq Q σ X v H' (execOp a.eval o):=by
 simp only [dq]at l;split at l
 ·rename_i t n' qs Y;simp only [BY,beq_iff_eq,decide_eq_true_eq]at l;obtain⟨⟨⟨⟨rfl,U⟩,A⟩,f⟩,Z⟩:=l;obtain⟨e,r,A⟩:=gK A;simp only [BY,decide_eq_true_eq]at A;obtain⟨⟨s,hz⟩,a8⟩:=A;obtain⟨z,us,N,O,u,_⟩:=eg (σ:=σ) (X:=X) hz X.w;have M:us.length=sz:=by have:=u.len;simp at this;omega
  simp only [bs]at h;split at h
  ·
   rename_i W;subst W;split at h
   ·rename_i m;simp only [sh,IN]at h;obtain⟨rfl,rfl⟩:=h;have j:qs.toList=[]:=by
     have:=(eb Z).len;simp only [List.isEmpty_iff]at m;rw [m]at this;exact amu this.symm
    have j:qs=#[]:=by apply Array.ext';simpa using j
    obtain⟨X',E,y,F,H,S,I⟩:∃ X':Wd,X'.w=X.w.alloc (.cells #[] e)∧X'.H=X.H∧SR Q σ X'∧Ext X.H.length X X'∧True∧X'.B≤X'.w.heap.size:=by
     have hx:Ext X.H.length X { X with w:=X.w.alloc (.cells #[] e) }:=Ext.one d X.H.length rfl (fun _ _=>Iff.rfl) (fun k hk _=>(dx.alloc _ _).CC hk)
      (fun L i h=>by rw [SR.qF d]at h;simp at h) (fun h=>by omega) (fun _ _ _=>rfl) (fun _ _=>rfl) (fun L h=>by rw [SR.qF d]at h;simp at h) (by simp) rfl rfl rfl
     refine⟨{ X with w:=X.w.alloc (.cells #[] e) },rfl,rfl,SR.step Q σ d hx X.H.length (fun _ _=>rfl) (fun _ _=>rfl) (fun b L _ hb=>(dx.alloc _ _).CC (d.br b L hb).2.1)
      (fun _ _ _ _ _ h=>h) (fun L h=>by rw [SR.qF d]at h;simp at h) (fun c i h=>?_),hx,trivial,?_⟩
     ·have:=d.fb c i h;simp;omega
     ·simp;omega
    refine⟨.slice (aa ⟨X.w.heap.size,0,ab⟩) 0 0,X',.inl ?_,y,F,cB.es _,H,I⟩;rw [E];simp only [execOp,Y];refine dM ?_;simp [Instr.buildSlice,a6 r,cP s,j,Instr.fill,newRow,show Array.range 0=(#[]:Array Nat) from rfl]
   ·simp at h
  ·rename_i W;simp only [If,IN]at h;obtain⟨cs,J,rfl,rfl⟩:=h;obtain⟨a9,S,I⟩:=mM (place:=fun i=>aa (i*sz,sz)) (ps:=qs.toList) hR (qs:=ps.map fun p=>(p.1*sz,sz,p.2)) (A2.map ((eb Z).kr fun q p g=>by
    simp only [BY,beq_iff_eq]at g;exact⟨by rw [g.1],g.2⟩)) (jf u n') J
   obtain⟨X',E,y,F,H,h7,h8⟩:=D1 d hB I e;refine⟨.slice (aa ⟨X.w.heap.size,0,ab⟩) n' n',X',.inl ?_,y,F,?_,H,h8⟩
   ·rw [E];simp only [execOp,Y];refine dM ?_;have K:n'*sz≠0:=by
     intro B;rcases ar2.1 B with B | B<;>omega
    have x:=gY us n' (by omega);rw [M]at x;simp only [Instr.buildSlice,Sem.run_bind,a6 r,cP s,Result.andThen_ok,aY (show¬ n'*sz>2 ^ 24 by omega),Sem.run_ite,aY K,N,Sem.run_pure,O];simp only [Array.toList_map];rw [x];simp [S,newRow]
   ·simp only [VR,gG,CR,fk,y];simp;exact⟨_,h7,rfl⟩
 ·simp at l
theorem E5:∀ {cs:List C} {b:List FC},fcL cs=aa b→cs=b.map .f
 | [],b,h=>by simp [fcL]at h;subst h;rfl
 | c::cs,b,h=>by
  cases c with
  | f x=>
   simp only [fcL,If]at h;obtain⟨g,d,rfl⟩:=h;rw [E5 d];rfl
  | _=>simp [fcL]at h
theorem wO(s:SR Q σ X)(hB:X.B≤X.w.heap.size){a:Act}{az:T}(hR:RR σ X az a.tmps){o:Oper}{sz n:Nat}{zs:List FC}{ps:List (Nat × Arg)}
  (J:dq Q σ o (.gu sz zs n ps)=ae) {v:V} {H H':aj} (h:bs az H (.gu sz zs n ps)=aa (v,H')) :
  H'=H∧∃ u X',(execOp a.eval o).run Q X.w=.ok (.value u) X'.w∧X'.H=X.H∧SR Q σ X'∧VR σ X' v u∧Ext X.H.length X X'∧X'.B≤X'.w.heap.size∧X'.bW=X.bW:=by
 simp only [dq]at J;split at J
 ·rename_i t n' qs ho;simp only [BY,beq_iff_eq,decide_eq_true_eq]at J;obtain⟨⟨⟨⟨rfl,a_⟩,S⟩,b7⟩,hq⟩:=J;obtain⟨e,K,S⟩:=gK S;simp only [BY,decide_eq_true_eq]at S;obtain⟨⟨Z,hz⟩,b9⟩:=S;obtain⟨z,us,a8,a9,N,_⟩:=eg (σ:=σ) (X:=X) hz X.w;have f:us.length=sz:=by have:=N.len;simp at this;omega
  simp only [bs,If,aqO,IN]at h;obtain⟨fs,⟨cs,W,j⟩,rfl,rfl⟩:=h;split at j
  ·simp at j
  rename_i hn;have A:=E5 j;obtain⟨d,h5,h6⟩:=mM (place:=fun i=>aa (i*sz,sz)) (ps:=qs.toList) hR (qs:=ps.map fun p=>(p.1*sz,sz,p.2)) (A2.map ((eb hq).kr fun q p l=>by
   simp only [BY,beq_iff_eq]at l;exact⟨by rw [l.1],l.2⟩)) (jf N n') W
  have g:dx X.w (X.w.alloc (.cells d.toArray e)) (.cells d.toArray e):=dx.alloc _ _;obtain⟨w',m⟩:=aT (X.w.alloc (.cells d.toArray e));rw [←m]at g;have E:∀ c i,X.F c i→w'.cell? ⟨c,i,ab⟩=X.w.cell? ⟨c,i,ab⟩:=fun c i h=>World.cell?_of_block (g.CC (s.fb c i h));have hx:Ext X.H.length X { X with w:=w',F:=fun c i=>X.F c i∨(c=X.w.heap.size∧i<d.length) }:={
   B:=rfl
   F:=fun c i h=>.inl h
   oa:=fun c i h=>h.elim .inl fun h=>.inr (.inl (by rw [h.1];exact IT _))
   fw:=E
   bY:=fun b _ bq y=>⟨bq,y,by cases bq<;>simp⟩
   wT:=fun b L h=>.inl ⟨b,L,h,rfl⟩
   size:=by show _≤w'.heap.size;rw [g.size];omega
   os:=g.os
   tape:=g.tape
   output:=g.output
   frame:=fun k hk _=>g.CC hk }
  refine⟨rfl,.slice (aa ⟨X.w.heap.size,0,ab⟩) n' n',{ X with w:=w',F:=fun c i=>X.F c i∨(c=X.w.heap.size∧i<d.length) },?_,rfl,?_,?_,hx,?_,rfl⟩
  ·simp only [execOp,ho];refine dM ?_;have Y:n'*sz≠0:=by
    intro U;rcases ar2.1 U with U | U<;>omega
   have O:=gY us n' (by omega);rw [f]at O;simp only [Instr.buildSlice,Sem.run_bind,a6 K,cP Z,Result.andThen_ok,aY (show¬ n'*sz>2 ^ 24 by omega),Sem.run_ite,aY Y,a8,Sem.run_pure,a9];simp only [Array.toList_map];rw [O];simp [h5,newRow,m]
  ·exact SR.step Q σ s hx X.H.length (fun _ _=>rfl) (fun _ _=>rfl) (fun b L _ y=>g.CC (s.br b L y).2.1)
    (fun b L _ y i h=>h.elim id fun h=>by have:=(s.br b L y).2.1;omega) (fun L h=>by change X.bW X.H.length=aa L at h;rw [SR.qF s]at h;simp at h)
    (fun c i h=>by
     show c<w'.heap.size;rw [g.size];rcases h with h | h
     ·have:=s.fb c i h;omega
     ·omega)
  ·have I:d.length=fs.length:=by have:=h6.len;rw [A]at this;simp at this;omega
   refine cB.fs fs n' X.w.heap.size 0 n' d (IT _) I (fun i hi=>.inr ⟨rfl,by omega⟩) (fun i u K=>?_) fun i x u r K=>?_
   ·show w'.cell? _=_;rw [cW (show rowAt w' X.w.heap.size d by rw [m];exact iM (dx.alloc _ _)),Nat.zero_add];exact K
   ·obtain⟨u',M,hr⟩:=h6.get (i:=i) (x:=.f x) (by rw [A,ari,r];rfl);rw [K]at M;cases M;exact cB.mono (fun c i h=>.inl h) E hr
  ·show X.B≤w'.heap.size;rw [g.size];omega
 ·simp at J
end
section
variable{Q:Program}{σ:Nat→FuncId}{X:Wd}
theorem BH{α:Type}(us rest:List α)(off:Nat)(b:List α)(h:off+b.length≤us.length):over (us++rest) off b=over us off b++rest:=by
 unfold over;rw [List.take_append_of_le_length (by omega),List.drop_append_of_le_length (by omega)];simp
theorem A2.one{cs:List C}{us:List Value}(h:A2 (CR σ X) cs us):∀ v ∈ us,v.oneCell'=ae:=by
 intro v d;obtain⟨i,hi⟩:=arf d;have b:i<cs.length:=by rw [h.len];exact(By.1 hi).1
 exact CR.one σ (h.2 i _ v (At b) hi)
theorem Cu(z:SR Q σ X){b:Nat}{cs:List C}{l:Nat}{L:Loc}(q:X.H[b]?=aa (.box cs l))(y:X.bW b=aa L){xs:List C}{j:List Value}(u:A2 (CR σ X) xs j){off:Nat}
  (I:l≤off) (U:off+xs.length≤cs.length):∃ X',(storeCells ⟨L.c,off,ab⟩ j).run Q X.w=.ok () X'.w∧X'.H=X.H.set b (.box (over cs off xs) l)∧SR Q σ X'∧Ext X.H.length X X' ∧
   (∀ b,X'.bW b=X.bW b)∧X'.w.heap.size=X.w.heap.size∧X'.B=X.B:=by
 obtain⟨_,_,bq,g,s⟩:=z.br b L y;rw [q]at g;simp only [sh]at g;subst g;obtain⟨us,hr,v,x⟩:=s;have K:=u.len;have J:=v.len;obtain⟨A,M,N,O,S,B⟩:=dK hr j off (by omega);obtain⟨E,F⟩:=SR.turn z (blk':=.box (over cs off xs) l) q y A M (fun i H=>by
   rw [cW B,cW hr];have:i<off:=by
    rcases aqZ i off with h | h
    ·exact h
    ·exact absurd H (x i (by omega))
   exact BI us off j (by omega) i this) N O S
  (fun bq d=>⟨.box (over cs off xs) l,by simp [(By.1 q).1],by rw [q]at d;simp only [sh]at d;subst d;exact fun L h=>h⟩)
  (fun m=>⟨over us off j,B,A2.over (A2.ext' σ m v) (A2.ext' σ m u) off,x⟩)
 exact⟨_,qW hr j off (by omega) (A2.one u),rfl,E,F,fun _=>rfl,A,rfl⟩
theorem Cw(B:SR Q σ X){b:Nat}{sz:Nat}{cs:List C}{l q:Nat}{L:Loc}(s:X.H[b]?=aa (.bG sz cs l q .loc))(A:X.bW b=aa L){xs:List C}{j:List Value}(v:A2 (CR σ X) xs j){off:Nat}
  (N:l≤off) (O:off+xs.length≤cs.length):∃ X',(storeCells ⟨L.c,off,ab⟩ j).run Q X.w=.ok () X'.w∧X'.H=X.H.set b (.bG sz (over cs off xs) l q .loc)∧SR Q σ X'∧Ext X.H.length X X' ∧
   (∀ b,X'.bW b=X.bW b)∧X'.w.heap.size=X.w.heap.size∧X'.B=X.B:=by
 obtain⟨_,_,bq,g,u⟩:=B.br b L A;rw [s]at g;simp only [sh]at g;subst g;obtain⟨U,us,rest,hr,y,I,J,K,z⟩:=u;have Y:=v.len;have W:=y.len;obtain⟨E,Z,a,c,e,x⟩:=dK hr j off (by simp;omega);rw [BH _ _ _ _ (by omega)]at x;have S:=BJ us off j (by omega);obtain⟨F,H⟩:=SR.turn B (blk':=.bG sz (over cs off xs) l q .loc) s A E Z (fun i M=>by
   rw [cW x,cW hr];have:i<off:=by
    rcases aqZ i off with h | h
    ·exact h
    ·exact absurd M (z i (by omega))
   rw [AI (by omega),AI (by omega)];exact BI us off j (by omega) i this) a c e
  (fun bq d=>⟨.bG sz (over cs off xs) l q .loc,by simp [(By.1 s).1],by rw [s]at d;simp only [sh]at d;subst d;exact⟨rfl,.inl ⟨rfl,rfl,fun L h=>h⟩⟩⟩)
  (fun m=>⟨rfl,over us off j,rest,x,A2.over (A2.ext' σ m y) (A2.ext' σ m v) off,by simp only [List.length_append]at I ⊢;omega,J,by rw [BJ cs off xs O];exact K,z⟩)
 exact⟨_,qW hr j off (by simp;omega) (A2.one v),rfl,F,H,fun _=>rfl,E,rfl⟩
theorem Xj(B:SR Q σ X){x:C}{u:Value}(d:CR σ X x u){xs:List C}{E:List Value}(l:A2 (CR σ X) xs E){H':aj}(h:df X.H x xs=aa H') :
  ∃ c off X',u=.pointer (aa ⟨c,off,ab⟩)∧(storeCells ⟨c,off,ab⟩ E).run Q X.w=.ok () X'.w∧X'.H=H'∧SR Q σ X'∧Ext X.H.length X X'∧X'.w.heap.size=X.w.heap.size∧X'.B=X.B:=by
 unfold df at h;split at h
 ·rename_i b off H;obtain⟨L,A,d⟩:=d;split at h
  ·rename_i cs F j;rw [j]at d;simp only at d;subst d;split at h
   ·rename_i g;simp only [sh]at h;subst h;obtain⟨X',m,q,s,v,_,y,z⟩:=Cu B j A l g.1 g.2;exact⟨_,_,X',rfl,m,q,s,v,y,z⟩
   ·simp at h
  ·rename_i sz cs F e j;rw [j]at d;split at h
   ·rename_i g;have d:=d.2.1 g.1;subst d;simp only [sh]at h;subst h;obtain⟨X',m,q,s,v,_,y,z⟩:=Cw B j A l g.2.1 g.2.2;exact⟨_,_,X',rfl,m,q,s,v,y,z⟩
   ·simp at h
  ·simp at h
 ·simp at h
theorem Xl(E:SR Q σ X)(W:X.B≤X.w.heap.size){a:Act}{az:T}(q:RR σ X az a.tmps){o:Oper}{n:Nat}{x y:Arg}(b:dq Q σ o (.store n x y)=ae){v:V}{H':aj}
  (h:bs az X.H (.store n x y)=aa (v,H')):gq Q σ X v H' (execOp a.eval o):=by
 simp only [dq]at b;split at b
 ·rename_i t M N H;simp only [BY]at b;obtain⟨⟨F,g⟩,m⟩:=b;have g:=bH q g;have m:=bH q m;simp only [bs]at h;split at h
  ·rename_i p xs I l;rw [I]at g;split at h
   ·rename_i s;simp only [If,IN]at h;obtain⟨O,j,rfl,rfl⟩:=h;obtain⟨Y,K,d⟩:=ot m l;obtain⟨c,off,X',J,u,z,A,B,S,U⟩:=Xj E g d j;refine⟨undef,X',.inr ⟨?_,rfl⟩,z,A,trivial,B,by omega⟩;have L:=d.len;simp only [execOp,H,Sem.run_bind];have:(Instr.storeAt t (a.eval M) (a.eval N)).run Q X.w=.ok () X'.w:=by
     rw [J];simp [Instr.storeAt,Instr.sureAddr,storeVar,cP F,K];rw [bh (by omega)];exact u
    simp [this]
   ·simp at h
  ·simp at h
 ·simp at b
end
end Km
