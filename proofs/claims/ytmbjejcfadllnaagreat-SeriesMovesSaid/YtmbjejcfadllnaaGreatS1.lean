/-
  ahY the qE jX and the rI answer, for all arguments of their kind, in the small machine: part 1.
-/
import Derived.Test.YtmbjejcfadllnaaGreatTabB
import Derived.Test.YtmbjejcfadllnaaGreatK5
import Derived.Test.YtmbjejcfadllnaaGreatK4
import Derived.KernelRfl
open Option renaming some → aa,none → ab
open Bool renaming true → ae,false → ag
open Go.IntKind renaming wrap → ah
open List renaming getElem_append → asc, getElem_map → arF, map_cons → ao1, length_append → aft, length_singleton → arz, length_map → aq3, mem_append → aq4, mem_cons → arw, mem_filter → arI, pairwise_cons → arV, length_cons → aqW, find?_eq_none → arA, filter_append → arG, filter_eq_nil_iff → arW, mem_of_mem_take → arR, length_pos_iff → arn, take_append_drop → aq0, take_length → aqX, drop_eq_getElem_cons → aqU, mem_cons_self → aqK, mem_cons_of_mem → aqQ, take_succ_eq_append_getElem → aqC, ext_getElem → ar0, getD_eq_getElem?_getD → aqY, getElem?_eq_getElem → At, getElem_of_mem → aqE, getElem_mem → OF, pairwise_iff_getElem → aqM, all_eq_true → aqH, append_assoc → aro, getElem?_append_left → AI, getElem?_append_right → aqJ, map_nil → aqD, mem_map → aq9, getElem?_set_self → IS, getElem?_set_ne → AT, take_of_length_le → aqI, getElem?_eq_some_iff → By, getElem?_cons_zero → aru, append_nil → ars
open Bool renaming false_eq_true → anc
open Nat renaming le_refl → IT, eq_of_beq_eq_true → arp, le_trans → aqL, zero_add → aq8, eq_zero_or_pos → ara, le_of_ble_eq_true → ary
open Int renaming toNat_natCast → aqP, emod_nonneg → aq5, emod_lt_of_pos → aq6, le_refl → arK
open Option renaming bind_some → aqR
set_option linter.unusedVariables false
set_option linter.constructorNameAsVariable false
set_option linter.unusedSimpArgs false
set_option linter.unusedSectionVars false
set_option linter.unnecessarySimpa false
set_option maxRecDepth 100000
set_option maxHeartbeats 2000000
namespace Go.Proofs.YtmbjejcfadllnaaGreat
open Go Km
theorem WR{a b:Int}(h:0≤a)(g:0<b)(d:a≤9223372036854775807):bM .quo (vi a) (vi b)=aa (vi (a / b)):=by
 rw [xZ (by omega),Int.tdiv_eq_ediv_of_nonneg h,wrap64 (Int.le_trans (by omega) (Int.ediv_nonneg h (by omega))) (Int.le_trans (Int.ediv_le_self _ h) d)]
theorem nK{a b:Int}(h:0≤a)(d:0<b):bM .rem (vi a) (vi b)=aa (vi (a % b)):=by
 rw [mI (by omega),Int.tmod_eq_emod_of_nonneg h]
theorem oF(a:Int):bF tab.get 79 [vi a]=Eq (vb ag):=(show Kf tab.get 79 [vi a] (vb ag) by
 refine oH rfl rfl fun H Q b=>?_;apply ai;simp;apply ai;simp;refine aH (b _ _ ?_);simp).eq
def jS(a b:Int):Int:=if a<b then -1 else if b<a then 1 else 0
theorem Dr(a b:Int):Kf tab.get 44 [vi a,vi b] (vi (jS a b)):=by
 refine oH rfl rfl fun H Q g=>?_;apply ai;simp;apply ai;simp [oF];apply ai;simp [oF];apply an;apply ai;simp;refine a5 (by simp) ?_;apply an;apply ai;simp;refine a5 (by simp) ?_;apply an;apply ai;simp;by_cases h:a<b
 ·refine al (by simp [h]) ?_;apply ai;simp;refine aH (g _ _ ?_);simp [jS,h]
 refine a5 (by simp [h]) ?_;apply an;apply ai;simp;by_cases d:b<a
 ·refine al (by simp [d]) ?_;apply ai;simp;refine aH (g _ _ ?_);simp [jS,h,d]
 refine a5 (by simp [d]) ?_;apply ai;simp;refine aH (g _ _ ?_);simp [jS,h,d]
theorem nD(a b:Int):bF tab.get 44 [vi a,vi b]=Eq (vi (jS a b)):=(Dr a b).eq
theorem jT{a b:Int}:jS a b<0↔a<b:=by unfold jS;split<;>(try split)<;>omega
theorem iG{a b:Int}:jS a b=0↔a=b:=by unfold jS;split<;>(try split)<;>omega
structure bI where
 at_:Int
 off:Int
def bI.row(x:bI):List FC:=[fi x.at_,fi x.off]
def aR(l:List bI):List (List FC):=l.map bI.row
@[simp] theorem kX (l:List bI):(aR l).length=l.length:=by simp [aR]
theorem cq(l:List bI):bL 2 (aR l):=bL.map fun _=>rfl
structure ey where
 mo:Int
 wk:Int
 wd:Int
 mi:Int
 off:Int
def ey.row(x:ey):List FC:=[fi x.mo,fi x.wk,fi x.wd,fi x.mi,fi x.off]
def bO(l:List ey):List (List FC):=l.map ey.row
@[simp] theorem ahj (l:List ey):(bO l).length=l.length:=by simp [bO]
theorem jB(l:List ey):bL 5 (bO l):=bL.map fun _=>rfl
theorem xJ{l:List ey}{j:Nat}(b:j<l.length):(bO l)[j]?=aa l[j].row:=by simp [bO,b]
theorem zy(m:Int):unV .neg (.c (.f (.int .i64 m)))=aa (vi (ah .i64 (0-m))):=rfl
theorem Li(n m:Int)(d:0≤m)(g:m≤4611686018427387904):bF tab.get 49 [vi n,vi m]=Eq (vb (decide (-m≤n)&&decide (n≤m))):=bF.eq (by
 refine bK rfl rfl fun Q b=>?_;apply ai;simp;by_cases h:-m≤n
 ·apply ai;simp [zy,aO (n:=-m),h];refine aH (b _ _ ?_);simp [h]
 ·apply ai;simp [zy,aO (n:=-m),h];refine aH (b _ _ ?_);simp [h])
structure bA where
 k:Int
 dW:Int
 l:Int
 r:Int
 n:Int
 m:Int
 li:List Int
def dD(k:Int):Nat:=if 8≤k∧k≤10∨k=17 then 2 else if 11≤k∧k≤16 then 1 else 0
structure JB(l:List Int)(lo hi:Int)(zero:Bool):Prop where
 ne:l≠[]
 pw:l.Pairwise (· < ·)
 bd:∀ x ∈ l,lo≤x∧x≤hi∧(zero=ag→x≠0)
def cV(k b l n m:Int)(li:List Int):Prop:=
 (k=1∧b=0∧li=[]∧1≤n∧n≤9∧0≤m∧m≤11) ∨
 (k=2∧0≤b∧b≤1∧li=[]∧1≤n∧n≤4∧0≤m∧m<n) ∨
 (k=3∧0≤b∧b≤1∧JB li 1 4 ae∧n=0∧m=0) ∨
 (k=4∧0≤b∧b≤1∧JB li (-3) 6 ag∧n=0∧m=0) ∨
 (k=5∧b=0∧JB li 0 6 ae∧n=0∧m=0) ∨
 (k=6∧0≤b∧b≤1∧JB li 1 5 ae∧n=0∧m=0) ∨
 (k=7∧0≤b∧b≤1∧li=[]∧(n=1∨n=2∨n=3∨-3≤n∧n≤-1)∧0≤m∧m≤6∧0≤l∧l≤1) ∨
 ((k=8∨k=9∨k=10)∧b=0∧li=[]∧n=0∧m=0) ∨
 (k=11∧b=0∧li=[]∧-11≤n∧n≤11∧m=0) ∨
 ((k=12∨k=13)∧b=0∧li=[]∧0≤n∧n≤1099511627776∧m=0) ∨
 ((k=14∨k=15)∧b=0∧JB li 0 60 ae∧n=0∧m=0) ∨
 (k=16∧0≤b∧b≤1∧JB li (-3) 4 ag∧n=0∧0≤m∧m≤1) ∨
 (k=17∧b=0∧li=[]∧1≤n∧n≤3∧m=0)
def bA.OK(x:bA):Prop:=x.li.length≤61∧cV x.k x.dW x.l x.n x.m x.li
def bA.shift(d:Nat)(x:bA):bA:=⟨x.k,x.dW,if 1≤dD x.k then x.l+d else x.l,if dD x.k=2 then x.r+d else x.r,x.n,x.m,x.li⟩
inductive Good:List bA→Prop
 | leaf {x:bA}:x.OK→dD x.k=0→(x.k≠7→x.l=0)→x.r=0→Good [x]
 | un {a:List bA} {x:bA}:Good a→x.OK→dD x.k=1→x.l=(a.length:Int)-1→x.r=0→Good (a++[x])
 | bin {a b:List bA} {x:bA}:Good a→Good b→x.OK→dD x.k=2→x.l=(a.length:Int)-1→x.r=(a.length:Int)+b.length-1→Good (a++b.map (bA.shift a.length)++[x])
theorem Good.pos{r:List bA}(h:Good r):0<r.length:=by cases h<;>simp<;>omega
theorem mR(k:Int):dD k≤2:=by unfold dD;split<;>(try split)<;>omega
structure kz(i:Nat)(x:bA):Prop where
 ok:x.OK
 l1:1≤dD x.k→0≤x.l∧x.l<i
 l0:dD x.k=0→x.k≠7→x.l=0
 r2:dD x.k=2→0≤x.r∧x.r<i
 r0:dD x.k≤1→x.r=0
theorem kz.shift{i:Nat}{x:bA}(h:kz i x)(d:Nat):kz (d+i) (x.shift d):=by
 have ok:=h.ok;refine⟨⟨ok.1,?_⟩,fun j=>?_,fun j b=>?_,fun j=>?_,fun j=>?_⟩
 ·have b:=ok.2;unfold bA.shift;simp only;split
  ·unfold cV at b ⊢;rename_i g;rcases b with b | b | b | b | b | b | b | b
   ·exact .inl b
   ·exact .inr (.inl b)
   ·exact .inr (.inr (.inl b))
   ·exact .inr (.inr (.inr (.inl b)))
   ·exact .inr (.inr (.inr (.inr (.inl b))))
   ·exact .inr (.inr (.inr (.inr (.inr (.inl b)))))
   ·exfalso;rw [b.1]at g;simp [dD]at g
   ·exact .inr (.inr (.inr (.inr (.inr (.inr (.inr b))))))
  ·exact b
 ·have:=h.l1 j;unfold bA.shift;simp only [bh (show 1≤dD x.k from j)];omega
 ·have g:dD x.k=0:=j;unfold bA.shift;simp only [g,show¬ 1≤0 by decide,if_false];exact h.l0 g b
 ·have g:dD x.k=2:=j;have:=h.r2 g;unfold bA.shift;simp only [g,if_true];omega
 ·have g:dD x.k≤1:=j;unfold bA.shift;simp only [aY (show¬ dD x.k=2 by omega)];exact h.r0 g
theorem Good.at_{r:List bA}(h:Good r):∀(i:Nat) (hi:i<r.length),kz i r[i]:=by
 induction h with
 | leaf ok o l r0=>
  intro i hi;simp at hi;subst hi;exact⟨ok,fun h=>by simp [o]at h,fun _=>l,fun h=>by simp [o]at h,fun _=>r0⟩
 | @un a x g ok o l r0 v=>
  intro i hi;have u:=g.pos;rw [asc];split
  ·exact v i _
  ·have:i=a.length:=by simp at hi;omega
   subst this;simp;exact⟨ok,fun _=>by omega,fun h=>by omega,fun h=>by omega,fun _=>r0⟩
 | @bin a b x g s ok o l r j m=>
  intro i hi;have u:=g.pos;have z:=s.pos;rw [asc];split
  ·rename_i d;rw [asc];split
   ·exact j i _
   ·rename_i y;simp at d;rw [arF];have q:=(m (i-a.length) (by omega)).shift a.length;rwa [show a.length+(i-a.length)=i by omega]at q
  ·rename_i d;simp at hi d;have:i=a.length+b.length:=by omega
   subst this;simp;exact⟨ok,fun _=>by omega,fun h=>by omega,fun _=>by omega,fun h=>by omega⟩
def sa(x:bA)(k:Int):Nat:=(if 1≤dD x.k∧x.l=k then 1 else 0)+(if dD x.k=2∧x.r=k then 1 else 0)
def fh:List bA→Int→Nat
 | [],_=>0| x::l,k=>sa x k+fh l k
theorem iN(a b:List bA)(k:Int):fh (a++b) k=fh a k+fh b k:=by
 induction a with
 | nil=>simp [fh]| cons x a d=>simp only [List.cons_append,fh,d];omega
theorem Ez(x:bA)(d:Nat)(k:Int):sa (x.shift d) k=sa x (k-d):=by
 unfold sa bA.shift;simp only;have h:=mR x.k;by_cases b:dD x.k=2
 ·simp only [b,show 1≤2 by decide,true_and,if_true]
  congr 1<;>(congr 1;rw [eq_iff_iff];omega)
 ·by_cases g:1≤dD x.k
  ·simp only [g,b,true_and,false_and,if_true,if_false]
   congr 1;congr 1;rw [eq_iff_iff];omega
  ·simp only [g,b,false_and,if_false]
theorem Cr(b:List bA)(d:Nat)(k:Int):fh (b.map (bA.shift d)) k=fh b (k-d):=by
 induction b with
 | nil=>rfl| cons x b g=>simp only [ao1,fh,g,Ez]
theorem Good.aoJ{r:List bA}(h:Good r):∀ k:Int,fh r k=if 0≤k∧k+1<r.length then 1 else 0:=by
 induction h with
 | leaf ok o l r0=>intro k;simp [fh,sa,o];omega
 | @un a x d ok o l r0 s=>
  intro k;have q:=d.pos;rw [iN,s];simp only [fh,sa,o,l,show 1≤1 by decide,show¬ 1=2 by decide,true_and,false_and,if_false,aft,arz];split<;>split<;>split<;>omega
 | @bin a b x d m ok o l r g j=>
  intro k;have q:=d.pos;have u:=m.pos;rw [iN,iN,Cr,g,j];simp only [fh,sa,o,l,r,show 1≤2 by decide,true_and,if_true,aft,arz,aq3];split<;>split<;>split<;>split<;>split<;>omega
structure aZ where
 day:Int
 drop:Bool
 to:Int
 mi:Int
 le:Int
deriving DecidableEq
def aZ.row(m:aZ):List FC:=[fi m.day,.bool m.drop,fi m.to,fi m.mi,fi m.le]
def aQ(l:List aZ):List (List FC):=l.map aZ.row
@[simp] theorem yR (l:List aZ):(aQ l).length=l.length:=by simp [aQ]
theorem bR(l:List aZ):bL 5 (aQ l):=bL.map fun _=>rfl
theorem ju{l:List aZ}{j:Nat}(b:j<l.length):(aQ l)[j]?=aa l[j].row:=by simp [aQ,b]
structure aZ.OK(m:aZ):Prop where
 day:0≤m.day∧m.day≤1099511627776
 dr:m.drop=ae→m.to=0∧m.mi=0∧m.le=0
 nd:m.drop=ag→0≤m.to∧m.to≤1099511627776∧0≤m.mi∧m.mi≤1439∧1≤m.le∧m.le≤10080
def nq(l:List aZ):Prop:=l.Pairwise fun a b=>a.day<b.day
def ku(l:List aZ)(m:aZ):List aZ:=l.filter (fun x=>decide (x.day<m.day))++m::l.filter (fun x=>decide (m.day<x.day))
theorem sB{l:List aZ}{m x:aZ}(h:x ∈ ku l m):x=m∨x ∈ l:=by
 simp only [ku,aq4,arw,arI]at h;rcases h with h | h | h
 ·exact .inr h.1
 ·exact .inl h
 ·exact .inr h.1
theorem ug{l:List aZ}{m:aZ}(h:nq l):nq (ku l m):=by
 unfold nq ku;rw [List.pairwise_append];refine⟨h.filter _,arV.2 ⟨fun x q=>?_,h.filter _⟩,fun a j b d=>?_⟩
 ·have:=(arI.1 q).2;simpa using this
 ·have g:a.day<m.day:=by simpa using (arI.1 j).2
  rcases arw.1 d with rfl | d
  ·exact g
  ·have s:m.day<b.day:=by simpa using (arI.1 d).2
   omega
theorem sA{l:List aZ}{m:aZ}(h:nq l):(ku l m).length≤l.length+1:=by
 unfold ku;simp only [aft,aqW];have:∀ l:List aZ,(l.filter (fun x=>decide (x.day<m.day))).length+(l.filter (fun x=>decide (m.day<x.day))).length≤l.length:=by
  intro l;induction l with
  | nil=>simp
  | cons x l g=>
   simp only [List.filter_cons];by_cases b:x.day<m.day
   ·simp only [b,decide_true,if_true,show¬ m.day<x.day by omega,decide_false,anc,if_false,aqW];omega
   ·by_cases d:m.day<x.day
    ·simp only [b,d,decide_true,if_true,decide_false,anc,if_false,aqW];omega
    ·simp only [b,d,decide_false,anc,if_false,aqW];omega
 have:=this l;omega
def cN(l:List aZ)(d:Int):Option aZ:=l.find? fun x=>decide (x.day=d)
theorem tV(l:List aZ)(m:aZ)(d:Int):cN (ku l m) d=if d=m.day then aa m else cN l d:=by
 unfold cN ku;rw [List.find?_append];by_cases b:d=m.day
 ·subst b;have:(l.filter fun x=>decide (x.day<m.day)).find? (fun x=>decide (x.day=m.day))=ab:=by
   rw [arA];intro x q;have:=(arI.1 q).2;simp at this ⊢;omega
  rw [this];simp
 ·rw [aY b,List.find?_cons];simp only [show decide (m.day=d)=ag from decide_eq_false fun e=>b e.symm];have key:∀ l:List aZ,((l.filter fun x=>decide (x.day<m.day)).find? (fun x=>decide (x.day=d))).or ((l.filter fun x=>decide (m.day<x.day)).find? fun x=>decide (x.day=d))=l.find? fun x=>decide (x.day=d):=by
   intro l;rw [List.find?_filter,List.find?_filter];rcases Int.lt_or_lt_of_ne b with h | h
   ·have j:l.find? (fun x=>decide (decide (m.day<x.day)=ae∧decide (x.day=d)=ae))=ab:=by
     rw [arA];intro x _;simp;omega
    have g:(fun x:aZ=>decide (decide (x.day<m.day)=ae∧decide (x.day=d)=ae))=fun x=>decide (x.day=d):=by
     funext x;simp only [decide_eq_true_eq]
     congr 1
     rw [eq_iff_iff];constructor
     ·exact fun h=>h.2
     ·intro h;exact⟨by omega,h⟩
    rw [j,g,Option.or_none]
   ·have j:l.find? (fun x=>decide (decide (x.day<m.day)=ae∧decide (x.day=d)=ae))=ab:=by
     rw [arA];intro x _;simp;omega
    have g:(fun x:aZ=>decide (decide (m.day<x.day)=ae∧decide (x.day=d)=ae))=fun x=>decide (x.day=d):=by
     funext x;simp only [decide_eq_true_eq]
     congr 1
     rw [eq_iff_iff];constructor
     ·exact fun h=>h.2
     ·intro h;exact⟨by omega,h⟩
    rw [j,g,Option.none_or]
  exact key l
theorem abT(l:List aZ)(a b:aZ)(h:a.day=b.day):ku (ku l a) b=ku l b:=by
 unfold ku;simp only [arG,List.filter_cons,List.filter_filter,h,Int.lt_irrefl,decide_false,anc,if_false];have d:l.filter (fun x=>decide (x.day<b.day)&&decide (x.day<b.day))=l.filter fun x=>decide (x.day<b.day):=by congr 1;funext x;simp
 have g:l.filter (fun x=>decide (x.day<b.day)&&decide (b.day<x.day))=[]:=by
  rw [arW];intro x _;simp;omega
 have j:l.filter (fun x=>decide (b.day<x.day)&&decide (x.day<b.day))=[]:=by
  rw [arW];intro x _;simp;omega
 have m:l.filter (fun x=>decide (b.day<x.day)&&decide (b.day<x.day))=l.filter fun x=>decide (b.day<x.day):=by congr 1;funext x;simp
 rw [d,g,j,m];simp
def kR(cJ fold lo:Int)(l:List Int)(e b:Int):List Int:=
 if l=[]then(if cJ=0 then []else if cJ=1 then [lo-b]else [e])
 else if fold=0 then l.take 1 else if fold=1 then l.drop (l.length-1)else l
theorem WL{cJ fold lo:Int}{l:List Int}{e b a:Int}(d:l≠[])(h:a ∈ kR cJ fold lo l e b):a ∈ l:=by
 unfold kR at h;rw [aY d]at h;split at h
 ·exact arR h
 ·split at h
  ·exact List.mem_of_mem_drop h
  ·exact h
theorem KQ{cJ fold lo:Int}{e b:Int}:(kR cJ fold lo [] e b).length=if cJ=0 then 0 else 1:=by
 unfold kR;rw [bh rfl];split
 ·rfl
 ·split<;>rfl
theorem WK{cJ fold lo:Int}{l:List Int}{e b:Int}(d:l≠[])(g:0≤fold∧fold≤2):(kR cJ fold lo l e b).length=if fold=2 then l.length else 1:=by
 have:=arn.2 d;unfold kR;rw [aY d];split
 ·rw [aY (by omega),List.length_take];omega
 ·split
  ·rw [aY (by omega),List.length_drop];omega
  ·rw [bh (by omega)]
def total(st:List (List bA)):Nat:=(st.map List.length).sum
theorem fL(a b:List (List bA)):total (a++b)=total a+total b:=by simp [total]
theorem kn(a:List bA):total [a]=a.length:=by simp [total]
structure cD(st:List (List bA))(n:Nat):Prop where
 JX:∀ r ∈ st,Good r
 tot:total st≤n
theorem cD.nil:cD [] 0:=⟨fun r h=>(by cases h),by simp [total]⟩
theorem cD.take{st:List (List bA)}{n:Nat}(h:cD st n)(k:Nat){d:Nat}(j:total (st.drop k)≥d):cD (st.take k) (n-d):=by
 refine⟨fun r hr=>h.JX r (arR hr),?_⟩;have b:=h.tot;have g:total st=total (st.take k)+total (st.drop k):=by rw [←fL,aq0]
 omega
theorem cD.push{st:List (List bA)}{n m:Nat}(h:cD st n){r:List bA}(hr:Good r)(d:n+r.length≤m):cD (st++[r]) m:=by
 refine⟨fun x b=>?_,?_⟩
 ·rcases aq4.1 b with b | b
  ·exact h.JX x b
  ·simp at b;subst b;exact hr
 ·rw [fL,kn];have:=h.tot;omega
theorem cD.leaf{st:List (List bA)}{n:Nat}(h:cD st n){r:List bA}(hr:Good r)(b:r.length=1):cD (st.take st.length++[r]) (n+1):=by
 rw [aqX];exact h.push hr (by omega)
theorem rN{st:List (List bA)}(h:0<st.length):total (st.drop (st.length-1))=(st[st.length-1]'(by omega)).length:=by
 rw [aqU (by omega),List.drop_of_length_le (by omega),kn]
theorem Co{st:List (List bA)}(h:2≤st.length):total (st.drop (st.length-2))=(st[st.length-2]'(by omega)).length+(st[st.length-1]'(by omega)).length:=by
 have e:st.length-2+1=st.length-1:=by omega
 rw [aqU (by omega),show st[st.length-2]::st.drop (st.length-2+1)=[st[st.length-2]]++st.drop (st.length-2+1) from rfl,fL,kn,e,rN (by omega)]
theorem cD.un{st:List (List bA)}{n:Nat}(h:cD st n)(b:0<st.length){r:List bA}(hr:Good r)(m:r.length=(st[st.length-1]'(by omega)).length+1):cD (st.take (st.length-1)++[r]) (n+1):=by
 have g:=rN b;have j:total st=total (st.take (st.length-1))+total (st.drop (st.length-1)):=by rw [←fL,aq0]
 have l:=h.tot;exact(h.take (st.length-1) (d:=total (st.drop (st.length-1))) (IT _)).push hr (by omega)
theorem cD.bin{st:List (List bA)}{n:Nat}(h:cD st n)(b:2≤st.length){r:List bA}(hr:Good r)(m:r.length=(st[st.length-2]'(by omega)).length+(st[st.length-1]'(by omega)).length+1):cD (st.take (st.length-2)++[r]) (n+1):=by
 have g:=Co b;have j:total st=total (st.take (st.length-2))+total (st.drop (st.length-2)):=by rw [←fL,aq0]
 have l:=h.tot;exact(h.take (st.length-2) (d:=total (st.drop (st.length-2))) (IT _)).push hr (by omega)
theorem cD.count{st:List (List bA)}{n:Nat}(h:cD st n):st.length≤n:=by
 have j:=h.tot;have:∀ st:List (List bA),(∀ r ∈ st,Good r)→st.length≤total st:=by
  intro st;induction st with
  | nil=>intro _;simp
  | cons r st g=>
   intro b;have:=(b r aqK).pos;have:=g fun x d=>b x (aqQ _ d);rw [show r::st=[r]++st from rfl,fL,kn,aft,arz];omega
 have:=this st h.JX;omega
theorem nP{st:List (List bA)}{i:Nat}(h:i<st.length):total (st.take (i+1))=total (st.take i)+st[i].length:=by
 rw [aqC h,fL,kn]
theorem ny(st:List (List bA))(i:Nat):total (st.take i)≤total st:=by
 have b:total st=total (st.take i)+total (st.drop i):=by rw [←fL,aq0]
 omega
def uC(k:Nat):Nat:=if 8≤k∧k≤10∨k=17 then 2 else if 11≤k∧k≤16 then 1 else 0
def lv(k:Nat):Bool:=k=2||k=3||k=4||k=6||k=7||k=16
def Cc(k:Nat):Int:=if k=3 then 1 else if k=4 then -40 else if k=6 then 1 else if k=16 then -400 else 0
def Cb(k:Nat):Int:=if k=3 then 16 else if k=4 then 40 else if k=5 then 6 else if k=6 then 54 else if k=14∨k=15 then 1099511627776 else if k=16 then 400 else 0
theorem cV.k{k dW l n m:Int}{li:List Int}(h:cV k dW l n m li):1≤k∧k≤17:=by
 unfold cV at h;omega
def lN(lo hi:Int)(l:List Int):Prop:=if lo=0∧hi=0 then l=[]else l≠[]∧l.Pairwise (· < ·)∧∀ x ∈ l,lo≤x∧x≤hi∧(lo<0→x≠0)
theorem JB.XE{l:List Int}{lo hi b d:Int}{z:Bool}(h:JB l lo hi z)(s:b≤lo)(u:hi≤d)(g:b<0→z=ag)(j:¬ (b=0∧d=0)):lN b d l:=by
 unfold lN;rw [aY j];exact⟨h.ne,h.pw,fun x q=>by have:=h.bd x q;exact⟨by omega,by omega,fun m=>this.2.2 (g m)⟩⟩
theorem cV.XE{k dW l n m:Int}{li:List Int}(h:cV k dW l n m li):lN (Cc k.toNat) (Cb k.toNat) li:=by
 unfold cV at h;have nil:lN 0 0 []:=by unfold lN;simp
 rcases h with⟨rfl,h⟩ | ⟨rfl,h⟩ | ⟨rfl,h⟩ | ⟨rfl,h⟩ | ⟨rfl,h⟩ | ⟨rfl,h⟩ | ⟨rfl,h⟩ | ⟨b,h⟩ | ⟨rfl,h⟩ | ⟨b,h⟩ | ⟨b,h⟩ | ⟨rfl,h⟩ | ⟨rfl,h⟩
 ·rw [h.2.1];exact nil
 ·rw [h.2.2.1];exact nil
 ·exact h.2.2.1.XE (by decide) (by decide) (by decide) (by decide)
 ·exact h.2.2.1.XE (by decide) (by decide) (by decide) (by decide)
 ·exact h.2.1.XE (by decide) (by decide) (by decide) (by decide)
 ·exact h.2.2.1.XE (by decide) (by decide) (by decide) (by decide)
 ·rw [h.2.2.1];exact nil
 ·rw [h.2.1];rcases b with rfl | rfl | rfl<;>exact nil
 ·rw [h.2.1];exact nil
 ·rw [h.2.1];rcases b with rfl | rfl<;>exact nil
 ·rcases b with rfl | rfl
  ·exact h.2.1.XE (by decide) (by decide) (by decide) (by decide)
  ·exact h.2.1.XE (by decide) (by decide) (by decide) (by decide)
 ·exact h.2.2.1.XE (by decide) (by decide) (by decide) (by decide)
 ·rw [h.2.1];exact nil
def wh(k l n m:Int):Prop:=
 if k=1 then 1≤n∧n≤1099511627776∧0≤m∧m≤1099511627776
 else if k=2 then 1≤n∧n≤400∧0≤m∧m≤n-1
 else if k=7 then -60≤n∧n≤60∧n≠0∧0≤m∧m≤6∧0≤l∧l≤1
 else if k=11 then -1099511627776≤n∧n≤1099511627776∧m=0
 else if k=12∨k=13 then 0≤n∧n≤1099511627776∧m=0
 else if k=16 then n=0∧0≤m∧m≤1
 else if k=17 then 1≤n∧n≤400∧m=0
 else n=0∧m=0
theorem cV.num{k dW l n m:Int}{li:List Int}(h:cV k dW l n m li):wh k l n m:=by
 unfold cV at h;unfold wh;rcases h with⟨rfl,h⟩ | ⟨rfl,h⟩ | ⟨rfl,h⟩ | ⟨rfl,h⟩ | ⟨rfl,h⟩ | ⟨rfl,h⟩ | ⟨rfl,h⟩ | ⟨b,h⟩ | ⟨rfl,h⟩ | ⟨b,h⟩ | ⟨b,h⟩ | ⟨rfl,h⟩ | ⟨rfl,h⟩
 ·simp;omega
 ·simp;omega
 ·simp;omega
 ·simp;omega
 ·simp;omega
 ·simp;omega
 ·simp;omega
 ·rcases b with rfl | rfl | rfl<;>simp<;>omega
 ·simp;omega
 ·rcases b with rfl | rfl<;>simp<;>omega
 ·rcases b with rfl | rfl<;>simp<;>omega
 ·simp;omega
 ·simp;omega
theorem cV.dW{k dW l n m:Int}{li:List Int}(h:cV k dW l n m li):0≤dW∧dW≤1∧(lv k.toNat=ag→dW=0):=by
 unfold cV at h;rcases h with⟨rfl,h⟩ | ⟨rfl,h⟩ | ⟨rfl,h⟩ | ⟨rfl,h⟩ | ⟨rfl,h⟩ | ⟨rfl,h⟩ | ⟨rfl,h⟩ | ⟨b,h⟩ | ⟨rfl,h⟩ | ⟨b,h⟩ | ⟨b,h⟩ | ⟨rfl,h⟩ | ⟨rfl,h⟩
 all_goals first | exact⟨by omega,by omega,fun _=>by omega⟩ | exact⟨by omega,by omega,fun e=>by simp [lv]at e⟩
theorem sx{k:Int}(h:1≤k):dD k=uC k.toNat:=by
 unfold dD uC;obtain⟨n,rfl⟩:∃ n:Nat,k=n:=⟨k.toNat,by omega⟩
 rw [aqP];split<;>split<;>(try split)<;>(try split)<;>first | rfl | omega
def bC(r:List bA)(n:Nat):List Int:=(List.range n).map fun k:Nat=>(fh r (k:Int):Int)
@[simp] theorem ahJ (r:List bA) (n:Nat):(bC r n).length=n:=by simp [bC]
theorem eZ{r:List bA}{n k:Nat}(h:k<n):(bC r n)[k]'(by simpa using h)=fh r (k:Int):=by simp [bC]
theorem xC(n:Nat):bC [] n=List.replicate n 0:=by
 refine ar0 (by simp) fun k b d=>?_;rw [eZ (by simpa using b)];simp [fh]
def ma(U:List Int)(k:Int):List Int:=U.set k.toNat (U.getD k.toNat 0+1)
@[simp] theorem ai9 (U:List Int) (k:Int):(ma U k).length=U.length:=by simp [ma]
theorem tK{U:List Int}{k:Int}(d:0≤k){j:Nat}(b:j<U.length):(ma U k)[j]'(by simpa using b)=U[j]+(if k=j then 1 else 0):=by
 simp only [ma,List.getElem_set];by_cases h:k.toNat=j
 ·subst h;rw [bh rfl,bh (by omega),aqY,At b];rfl
 ·rw [aY h,aY (by omega),Int.add_zero]
theorem EB{r:List bA}{x:bA}{n:Nat}(h:dD x.k=0):bC (r++[x]) n=bC r n:=by
 refine ar0 (by simp) fun k b d=>?_;rw [eZ (by simpa using b),eZ (by simpa using b),iN];simp [fh,sa,h]
theorem EC{r:List bA}{x:bA}{n:Nat}(h:dD x.k=1)(d:0≤x.l):bC (r++[x]) n=ma (bC r n) x.l:=by
 refine ar0 (by simp) fun k b g=>?_;rw [eZ (by simpa using b),tK d (by simpa using b),eZ (by simpa using b),iN];simp only [fh,sa,h,show 1≤1 by decide,show¬ 1=2 by decide,true_and,false_and,if_false];split<;>omega
theorem ED{r:List bA}{x:bA}{n:Nat}(h:dD x.k=2)(d:0≤x.l)(hr:0≤x.r):bC (r++[x]) n=ma (ma (bC r n) x.l) x.r:=by
 refine ar0 (by simp) fun k b g=>?_;rw [eZ (by simpa using b),tK hr (by simpa using b),tK d (by simpa using b),eZ (by simpa using b),iN];simp only [fh,sa,h,show 1≤2 by decide,true_and,if_true];split<;>split<;>omega
theorem Good.bC{r:List bA}(h:Good r):∀ x ∈ (bC r r.length).take (r.length-1),x=1:=by
 intro x d;obtain⟨k,b,rfl⟩:=aqE d;simp at b;rw [List.getElem_take,eZ (by omega),h.aoJ k,bh (by omega)];rfl
theorem Cq(r:List bA)(n k:Nat)(h:k<n):0≤(bC r n)[k]'(by simpa using h)∧(bC r n)[k]'(by simpa using h)≤2*r.length:=by
 rw [eZ h];have:∀ r:List bA,fh r (k:Int)≤2*r.length:=by
  intro r;induction r with
  | nil=>simp [fh]
  | cons x r b=>
   have:sa x (k:Int)≤2:=by unfold sa;split<;>split<;>omega
   simp only [fh,aqW];omega
 have:=this r;omega
structure uV where
 day:Int
 fr:Int
 to:Int
deriving DecidableEq
def uV.row(x:uV):List FC:=[fi x.day,fi x.fr,fi x.to]
def cR(l:List uV):List (List FC):=l.map uV.row
@[simp] theorem afy (l:List uV):(cR l).length=l.length:=by simp [cR]
theorem mc(l:List uV):bL 3 (cR l):=bL.map fun _=>rfl
theorem Ke{l:List uV}{j:Nat}(b:j<l.length):(cR l)[j]?=aa l[j].row:=by simp [cR,b]
structure aN where
 d:bA
 tg:Tg
def uJ:ByteArray:=⟨#[]⟩
def aN.row(x:aN):List FC:=[fi x.d.k,fi x.d.dW,fi x.d.l,fi x.d.r,fi x.d.n,fi x.d.m,sl x.tg (ints x.d.li),.str uJ]
def aG(l:List aN):List (List FC):=l.map aN.row
@[simp] theorem kL (l:List aN):(aG l).length=l.length:=by simp [aG]
theorem dO(l:List aN):bL 8 (aG l):=bL.map fun _=>rfl
theorem jv{l:List aN}{j:Nat}(b:j<l.length):(aG l)[j]?=aa l[j].row:=by simp [aG,b]
@[simp] theorem abO (l:List aN):(aG l).isEmpty=l.isEmpty:=by cases l<;>rfl
abbrev dB(l:List aN):List bA:=l.map aN.d
structure bl where
 rg:Tg
 ru:List aN
 mi:Int
 le:Int
 zo:ByteArray
 cJ:Int
 fold:Int
 mg:Tg
 mv:List aZ
def bl.row(s:bl):List FC:=[sl s.rg (aG s.ru),fi s.mi,fi s.le,.str s.zo,fi s.cJ,fi s.fold,sl s.mg (aQ s.mv)]
abbrev bl.v(s:bl):V:=.a (s.row.map .f)
structure bl.OK(s:bl):Prop where
 ru:Good (dB s.ru)
 rl:s.ru.length≤64
 mi:0≤s.mi∧s.mi≤1439
 le:1≤s.le∧s.le≤10080
 zo:1≤s.zo.size∧s.zo.size≤32
 cJ:0≤s.cJ∧s.cJ≤2
 fold:0≤s.fold∧s.fold≤2
 ml:s.mv.length≤64
 ms:nq s.mv
 mo:∀ m ∈ s.mv,m.OK
def bl.at_(s:bl)(d:Int):Int:=match cN s.mv d with
 | none=>d*1440+s.mi| some m=>m.to*1440+m.mi
def bl.tR(s:bl)(d:Int):Int:=match cN s.mv d with
 | none=>s.le| some m=>m.le
def bl.dropped(s:bl)(d:Int):Bool:=match cN s.mv d with
 | none=>ag| some m=>m.drop
theorem dt(n lo hi:Int):bF tab.get 129 [vi n,vi lo,vi hi]=Eq (vb (decide (lo≤n∧n≤hi))):=bF.eq (by
 refine bK rfl rfl fun Q b=>?_;apply ai;simp;apply ai;by_cases h:lo≤n
 ·simp [h];exact aH (b _ _ (by simp [h]))
 ·simp [h];exact aH (b _ _ (by simp [h])))
def gn(k:Nat):List FC:=[fi (uC k),.bool (lv k),fi (Cc k),fi (Cb k)]
def je:List FC:=((List.range 19).map gn).flatten
theorem qR:bF tab.get 95 []=Eq (.a (je.map .f)):=ed (by kernel_rfl)
theorem Kj(g:Tg)(l:List Int)(lo hi:Int)(h:lN lo hi l)(n:l.length≤9223372036854775807):bF tab.get 130 [.c (.f (sl g (ints l))),.a [.f (fi lo),.f (fi hi)]]=Eq (vb ae):=bF.eq (by
 refine bK rfl rfl fun Q a=>?_;apply ai;simp;refine an (ai ?_);unfold lN at h;by_cases A:lo=0∧hi=0
 ·rw [bh A]at h;obtain⟨rfl,rfl⟩:=A;subst h;simp [wI];refine al (by simp) ?_;apply ai;simp;exact aH (a _ _ (by simp))
 rw [aY A]at h;obtain⟨U,W,f⟩:=h;have L:(lo == 0&&hi == 0)=ag:=by
  rw [Bool.eq_false_iff];intro e;simp at e;exact A e
 simp [wI,L];refine a5 (by simp) ?_;have z:=arn.2 U;refine an (ai ?_);simp;refine fU l.length (fun j t H=>t.g 0=.c (.f (sl g (ints l)))∧t.g 13=.c (.f (sl g (ints l)))∧t.g 3=.c (.ptr 0 0 0)∧H[0]?=aa (.box [.f (fi lo),.f (fi hi)] 0)) n (by decide) (by decide) (by simp) (by simp) ⟨by simp,by simp,by simp,rfl⟩ ?_ ?_
 ·rintro j t H N ⟨u,b,q,B⟩ v m next
  obtain⟨b1,Y,Z⟩:=f _ (OF N);obtain⟨x,X⟩:=aT (l[j]);rw [←X]at b1 Y Z;refine aC (ai ?_);simp [b,v,dg,N,iW];rw [←X];apply ai;have F:aX H ab (.c (.ptr 0 0 0))=aa (vi lo):=by simp [aX,B,aF,aI]
  have c:aX H ab (.c (.ptr 0 1 0))=aa (vi hi):=by simp [aX,B,aF,aI]
  have E:decide (lo≤x∧x≤hi)=ae:=decide_eq_true ⟨b1,Y⟩;simp [q,F,c,-au,dt,E];have s:∀ t:T,t.g 0=.c (.f (sl g (ints l)))→t.g 13=.c (.f (sl g (ints l)))→t.g 3=.c (.ptr 0 0 0)→t.g 15=vi j→t.g 14=vi l.length→t.g 48=vb ag→WP tab.get 130 ab [.code AH,.inBlock 1,.code AJ,.inLoop AG,.inBlock 0,.code AK] ⟨t,[],H⟩ Q:=by
   intro t u b q J I K;refine ak K (aM ?_);exact aA (next _ _ ⟨by simp [u],by simp [b],by simp [q],B⟩ (by simp [J]) (by simp [I]))
  have y:x=0→¬ lo<0:=fun e h=>Z h e;by_cases O:j=0
  ·subst O;simp;by_cases d:x=0
   ·have:=y d;simp [d,q,F,-au,this];exact s _ (by simp [u]) (by simp [b]) (by simp [q]) (by simp [v]) (by simp [m]) (by simp)
   ·simp [d];exact s _ (by simp [u]) (by simp [b]) (by simp [q]) (by simp [v]) (by simp [m]) (by simp)
  ·have p:ah .i64 ((j:Int)-1)=((j-1:Nat):Int):=by rw [aO];omega
   have o:l[j-1]<x:=by rw [X];exact aqM.1 W (j-1) j (by omega) N (by omega)
   have S:j-1<l.length:=by omega
   have M:∀ H,aL H 1 ab (.c (.f (sl g (ints l)))) (vi ((j-1:Nat):Int))=aa (.c (.f (.fp (ints l).flatten (j-1)))):=fun H=>by
    have:=dg (H:=H) (g:=g) (rows:=ints l) (sz:=1) (k:=.i64) (i:=((j-1:Nat):Int)) (by omega) (by simp;omega);simpa using this
   simp [show 0<j by omega,u,p,M,iW S,show¬ x≤l[j-1] by omega];by_cases d:x=0
   ·have:=y d;simp [d,q,F,-au,this];exact s _ (by simp [u]) (by simp [b]) (by simp [q]) (by simp [v]) (by simp [m]) (by simp)
   ·simp [d];exact s _ (by simp [u]) (by simp [b]) (by simp [q]) (by simp [v]) (by simp [m]) (by simp)
 ·rintro t H ⟨u,b,q,B⟩ v m;apply ai;simp [u,z];exact aH (a _ _ (by simp)))
theorem yU(x:aN)(h:wh x.d.k x.d.l x.d.n x.d.m):bF tab.get 131 [.a (x.row.map .f)]=Eq (vb ae):=bF.eq (by
 obtain⟨⟨k,A,l,r,n,m,li⟩,J⟩:=x;simp only [wh]at h;refine bK rfl rfl fun Q E=>?_;have b:∀ t H,t.g 2=vb ae→WP tab.get 131 ab [.code .ret,.inBlock 0,.code sV] ⟨t,[],H⟩ Q:=fun t H I=>aH (E _ _ (by simp [I]));apply ai;simp [aN.row];refine an (ai ?_);simp;refine aC (ai ?_);simp;by_cases v:k=1
 ·rw [bh v]at h;refine al (by simp [v]) (ai ?_);simp [dt,h];exact b _ _ (by simp)
 rw [aY v]at h;refine ak (by simp [v]) (ai ?_);simp;by_cases y:k=2
 ·rw [bh y]at h;refine al (by simp [y]) (ai ?_);simp [dt,h,aO (n:=n-1)];exact b _ _ (by simp)
 rw [aY y]at h;refine ak (by simp [y]) (ai ?_);simp;by_cases z:k=7
 ·rw [bh z]at h;refine al (by simp [z]) (ai ?_);simp [dt,h];exact b _ _ (by simp)
 rw [aY z]at h;refine ak (by simp [z]) (ai ?_);simp;by_cases d:k=11
 ·rw [bh d]at h;refine al (by simp [d]) (ai ?_);simp [dt,h];exact b _ _ (by simp)
 rw [aY d]at h;refine ak (by simp [d]) (an (ai ?_));simp;have u:k=12∨k=13→∀ t,t.g 1=.c (.ptr 0 0 0)→t.g 58=vb ae→WP tab.get 131 ab [.code AL,.inBlock 0,.code sV] ⟨t,[],[.box ((aN.row ⟨⟨k,A,l,r,n,m,li⟩,J⟩).map .f) 0]⟩ Q:=by
  intro c t F B;rw [bh c]at h;refine al B (ai ?_);simp [F,aN.row,dt,h];exact b _ _ (by simp)
 by_cases g:k=12
 ·refine al (by simp [g]) (aM ?_);exact u (.inl g) _ (by simp) (by simp [g])
 refine ak (by simp [g]) (aq (.inl rfl) ?_);simp;by_cases s:k=13
 ·exact u (.inr s) _ (by simp) (by simp [s])
 rw [aY (by omega)]at h;refine ak (by simp [s]) (ai ?_);simp;by_cases j:k=16
 ·rw [bh j]at h;refine al (by simp [j]) (ai ?_);simp [dt,h];exact b _ _ (by simp)
 rw [aY j]at h;refine ak (by simp [j]) (ai ?_);simp;by_cases q:k=17
 ·rw [bh q]at h;refine al (by simp [q]) (ai ?_);simp [dt,h];exact b _ _ (by simp)
 rw [aY q]at h;refine a5 (by simp [q]) ?_;refine aA (ai ?_);simp [h];exact aH (E _ _ (by simp)))
def fN:Nat→List FC
 | 0=>[fi 2,.fs [fi 7,fi 6] 2,fi (-1),.aE]| k+1=>[fi 5,.fs [fi 7,fi 8] 2,fi 1,.fs [fi 2,fi (k:Nat),.bool ae] 1]
def jG(c y m:Nat):Nat:=match c,m with
 | 0,1=>7| 0,_=>6| _+1,1=>7| k+1,_=>if y % 2=k then 9 else 8
def qY(c y:Nat):Nat:=jG c y 1+jG c y 2
def aiQ:Nat→Nat
 | 0=>1| _=>2
def ij:Nat→Nat
 | 0=>13| _=>31
abbrev jD(c:Nat):V:=.a ((fN c).map .f)
def isI(r:Option (V × aj))(n:Nat):Bool:=match r with
 | some (.c (.f (.int .i64 (.ofNat k))),_)=>Nat.beq k n| _=>ag
theorem tM{r:Option (V × aj)}{n:Nat}(h:isI r n=ae):r.map (·.1)=aa (vi (n:Nat)):=by
 unfold isI at h;split at h
 ·rw [arp h];rfl
 ·cases h
theorem yQ:((List.range 3).all fun c=>(List.range 14).all fun y=>(List.range 2).all fun m=>isI (CF tab.get 300 30 (.fn 147) [jD c,vi ((y+1:Nat):Nat),vi ((m+1:Nat):Nat)] []) (jG c (y+1) (m+1)))=ae:=by kernel_rfl
theorem Cz:((List.range 3).all fun c=>(List.range 14).all fun y=>isI (CF tab.get 300 30 (.fn 119) [jD c,vi ((y+1:Nat):Nat)] []) (qY c (y+1)))=ae:=by kernel_rfl
theorem vn:((List.range 3).all fun c=>(List.range 14).all fun y=>(List.range 2).all fun m=>isI (CF tab.get 300 30 (.fn 137) [jD c,vi ((y+1:Nat):Nat),vi ((m+1:Nat):Nat)] []) (jG c (y+1) (m+1)))=ae:=by kernel_rfl
theorem zC:((List.range 3).all fun c=>(List.range 14).all fun y=>isI (CF tab.get 300 30 (.fn 106) [jD c,vi ((y+1:Nat):Nat)] []) (qY c (y+1)))=ae:=by kernel_rfl
theorem dm{p:Nat→Bool}{n k:Nat}(h:(List.range n).all p=ae)(b:k<n):p k=ae:=aqH.1 h k (List.mem_range.2 b)
theorem rB{c y m:Nat}(b:c<3)(d:1≤y)(g:y≤14)(j:1≤m)(l:m≤2):bF tab.get 147 [jD c,vi (y:Nat),vi (m:Nat)]=Eq (vi (jG c y m:Nat)):=by
 obtain⟨y,rfl⟩:∃ k,y=k+1:=⟨y-1,by omega⟩
 obtain⟨m,rfl⟩:∃ k,m=k+1:=⟨m-1,by omega⟩
 have h:=dm (dm (dm yQ b) (show y<14 by omega)) (show m<2 by omega);exact(dY (tM h)).eq
theorem EI{c y:Nat}(b:c<3)(d:1≤y)(g:y≤14):bF tab.get 119 [jD c,vi (y:Nat)]=Eq (vi (qY c y:Nat)):=by
 obtain⟨y,rfl⟩:∃ k,y=k+1:=⟨y-1,by omega⟩
 have h:=dm (dm Cz b) (show y<14 by omega);exact(dY (tM h)).eq
theorem oN{c y m:Nat}(b:c<3)(d:1≤y)(g:y≤14)(j:1≤m)(l:m≤2):bF tab.get 137 [jD c,vi (y:Nat),vi (m:Nat)]=Eq (vi (jG c y m:Nat)):=by
 obtain⟨y,rfl⟩:∃ k,y=k+1:=⟨y-1,by omega⟩
 obtain⟨m,rfl⟩:∃ k,m=k+1:=⟨m-1,by omega⟩
 have h:=dm (dm (dm vn b) (show y<14 by omega)) (show m<2 by omega);exact(dY (tM h)).eq
theorem Cy{c y:Nat}(b:c<3)(d:1≤y)(g:y≤14):bF tab.get 106 [jD c,vi (y:Nat)]=Eq (vi (qY c y:Nat)):=by
 obtain⟨y,rfl⟩:∃ k,y=k+1:=⟨y-1,by omega⟩
 have h:=dm (dm zC b) (show y<14 by omega);exact(dY (tM h)).eq
theorem Cs:((List.range 600).all fun k=>isI (CF tab.get 60 30 (.fn 148) [vi ((k:Nat)-300)] []) (((k:Int)-300) % 7).toNat)=ae:=by kernel_rfl
theorem uP{n:Int}(h:-300≤n)(j:n<300):bF tab.get 148 [vi n]=Eq (vi (n % 7)):=by
 obtain⟨k,g⟩:∃ k:Nat,(k:Int)-300=n:=⟨(n+300).toNat,by omega⟩
 have d:=dm Cs (show k<600 by omega);have b:=(dY (tM d)).eq;rw [g]at b;rwa [Int.toNat_of_nonneg (aq5 n (by omega))]at b
theorem vj{c:Nat}(b:c<3):bF tab.get 83 [jD c]=Eq (vb ae):=by
 have:c=0∨c=1∨c=2:=by omega
 rcases this with rfl | rfl | rfl<;>exact bF.eq (eU (m:=300) (d:=30) (by kernel_rfl))
theorem Lg{c:Nat}(b:c<3):bF tab.get 64 [jD c]=Eq (vb ae):=by
 have:c=0∨c=1∨c=2:=by omega
 rcases this with rfl | rfl | rfl<;>exact bF.eq (eU (m:=300) (d:=30) (by kernel_rfl))
theorem vh{c:Nat}(b:c<3):bF tab.get 117 [jD c]=Eq (.t [vi (aiQ c:Nat),vi (ij c:Nat),vi 0]):=by
 have:c=0∨c=1∨c=2:=by omega
 rcases this with rfl | rfl | rfl<;>exact bF.eq (eU (m:=300) (d:=30) (by kernel_rfl))
theorem JN{c:Nat}(b:c<3):bF tab.get 107 [jD c]=Eq (.t [vi (aiQ c:Nat),vi (ij c:Nat),vi 0]):=by
 have:c=0∨c=1∨c=2:=by omega
 rcases this with rfl | rfl | rfl<;>exact bF.eq (eU (m:=300) (d:=30) (by kernel_rfl))
structure ey.OK(x:ey):Prop where
 mo:x.mo=1∨x.mo=2
 wk:x.wk=1∨x.wk=5
 wd0:0≤x.wd
 wd:x.wd≤6
 mi0:0≤x.mi
 mi:x.mi≤1439
 of0:-1080≤x.off
 of:x.off≤1080
def nS(c y:Nat)(b:Int)(x:ey):Int:=if x.mo=2 then b+jG c y 1 else b
def pT(c y:Nat)(x:ey):Int:=jG c y x.mo.toNat
def jE(b d j g:Int):Int:=if j=5 then b+d-1-(b+d-1-g) % 7 else b+(g-b) % 7
def gm(b d g j:Int):Bool:=if g=5 then decide (b≤jE b d g j)else decide (jE b d g j<b+d)
theorem fB(c y m:Nat):jG c y m≤9:=by unfold jG;split<;>(try split)<;>omega
theorem oL(c y m:Nat):6≤jG c y m:=by unfold jG;split<;>(try split)<;>omega
theorem EH{c y:Nat}(L:c<3)(N:1≤y)(l:y≤14){b:Int}(hb:0≤b)(Y:b≤260)(x:ey)(k:x.OK) :
  bF tab.get 118 [jD c,vi b,vi (y:Nat),.a (x.row.map .f)]=Eq (.t [vi (jE (nS c y b x) (pT c y x) x.wk x.wd),vb (gm (nS c y b x) (pT c y x) x.wk x.wd)]):=bF.eq (by
 obtain⟨e,hw,w0,w6,-,-,-,-⟩:=k;have I:=rB L N l (m:=1) (by omega) (by omega);have O:=rB L N l (m:=2) (by omega) (by omega);have k1:=fB c y 1;have k2:=fB c y 2;have f:=fB c y x.mo.toNat;have M:=oL c y x.mo.toNat;have S:bF tab.get 147 [jD c,vi (y:Nat),vi x.mo]=Eq (vi (pT c y x)):=by
  rcases e with h | h
  ·unfold pT;rw [h];exact I
  ·unfold pT;rw [h];exact O
 have hq:pT c y x=(jG c y x.mo.toNat:Nat):=rfl;have Z:b≤nS c y b x∧nS c y b x≤b+9:=by unfold nS;split<;>omega
 generalize X:nS c y b x=U at *;generalize w:pT c y x=g at *;refine bK rfl rfl fun Q K=>?_;apply ai;simp;apply an;apply ai;simp;refine aC ?_;have cl:∀ z:cS,aX [.box ((fN c).map .f) 0,z] (aa 4) (.c (.ptr 0 0 0))=aa (jD c):=by
  intro z;have:c=0∨c=1∨c=2:=by omega
  rcases this with rfl | rfl | rfl<;>rfl
 have p:∀ z:cS,aX [z,.box [.f (fi x.mo),.f (fi x.wk),.f (fi x.wd),.f (fi x.mi),.f (fi x.off)] 0] ab (.c (.ptr 1 0 0))=aa (vi x.mo):=fun _=>rfl;refine bD (fun n s=>∃(m:Nat) (t:T) (d:Int),s=⟨t,[],[.box ((fN c).map .f) 0,.box (x.row.map .f) 0]⟩∧n=2-m∧(m=1∧d=b∨m=2∧x.mo=2∧d=b+(jG c y 1:Nat))∧t.g 1=vi d∧t.g 2=vi (y:Nat)∧t.g 4=.c (.ptr 0 0 0)∧t.g 7=.c (.ptr 1 0 0)∧t.g 10=vi (m:Nat)) 1
  ⟨1,_,b,rfl,rfl,.inl ⟨rfl,rfl⟩,by simp,by simp,by simp,by simp,by simp⟩ ?_
 rintro n s ⟨m,t,d,rfl,rfl,H,q,v,A,j,g10⟩ o;apply an;apply ai;simp [g10,j,ey.row];by_cases a:(m:Int)<x.mo
 ·have r:m=1:=by omega
  subst r;have F:d=b:=by omega
  subst F;refine al (by simp;omega) (aM ?_);apply an;refine aC ?_;refine aq (.inl rfl) ?_;have u:bF tab.get 147 [jD c,vi (y:Nat),vi 1]=Eq (vi (jG c y 1:Nat)):=I;simp [g10,q,v,A,cl,-au,u,aO (n:=d+(jG c y 1:Nat)),ey.row];refine aA ?_;refine aq (.inl rfl) ?_;simp [g10];refine o 0 _ (by omega) ⟨2,_,_,rfl,by omega,.inr ⟨rfl,by omega,rfl⟩,?_,?_,?_,?_,?_⟩<;>simp [v,A,j,show ah .i64 2=2 from rfl]
 ·have E:d=U:=by
   rw [←X];unfold nS;rcases H with⟨rfl,rfl⟩ | ⟨rfl,W,rfl⟩
   ·rw [aY (by omega)]
   ·rw [bh W]
  subst E;refine ak (by simp;omega) ?_;refine bp (k':=[.code wg]) rfl ?_;apply ai;have hp:g≤9:=by omega
  have i:6≤g:=by omega
  simp [q,v,A,j,cl,p,-au,S,aO (n:=d+g)];apply ai;have q0:=aq5 (x.wd-d) (show(7:Int)≠0 by omega);have q1:=aq6 (x.wd-d) (show(0:Int)<7 by omega);simp [q,j,aO (n:=x.wd-d),uP (n:=x.wd-d) (by omega) (by omega),aO (n:=d+(x.wd-d) % 7)];apply an;apply ai;simp [j];by_cases B:x.wk=5
  ·refine al (by simp [B]) ?_;have r0:=aq5 (d+g-1-x.wd) (show(7:Int)≠0 by omega);have r1:=aq6 (d+g-1-x.wd) (show(0:Int)<7 by omega);apply ai;simp [j,aO (n:=d+g-1),aO (n:=d+g-1-x.wd),uP (n:=d+g-1-x.wd) (by omega) (by omega),aO (n:=d+g-1-(d+g-1-x.wd) % 7)];apply ai;simp [q];refine aH (K _ _ ?_);simp [jE,gm,B]
  ·have J:x.wk=1:=by omega
   refine a5 (by simp [B]) ?_;apply ai;simp [j,J,aO (n:=(0:Int)),aO (n:=d+(x.wd-d) % 7)];apply ai;simp;refine aH (K _ _ ?_);simp [jE,gm,J])
theorem aba{c y:Nat}(hc:c<3)(hy:1≤y)(L:y≤14){b:Int}(hb:0≤b)(a_:b≤260)(x:ey)(hx:x.OK) :
  bF tab.get 104 [jD c,vi b,vi (y:Nat),.a (x.row.map .f)]=Eq (.t [vi (if gm (nS c y b x) (pT c y x) x.wk x.wd then jE (nS c y b x) (pT c y x) x.wk x.wd else -1),vb (gm (nS c y b x) (pT c y x) x.wk x.wd)]):=bF.eq (by
 obtain⟨hm,l,w0,w6,-,-,-,-⟩:=hx;have e1:=oN hc hy L (m:=1) (by omega) (by omega);have e2:=oN hc hy L (m:=2) (by omega) (by omega);have k1:=fB c y 1;have k2:=fB c y 2;have b_:=fB c y x.mo.toNat;have a9:=oL c y x.mo.toNat;have e3:bF tab.get 137 [jD c,vi (y:Nat),vi x.mo]=Eq (vi (pT c y x)):=by
  rcases hm with h | h
  ·unfold pT;rw [h];exact e1
  ·unfold pT;rw [h];exact e2
 have hq:pT c y x=(jG c y x.mo.toNat:Nat):=rfl;have b7:b≤nS c y b x∧nS c y b x≤b+9:=by unfold nS;split<;>omega
 generalize hF:nS c y b x=fm at *;generalize hM:pT c y x=v at *;refine bK rfl rfl fun Q W=>?_;apply ai;simp;apply ai;simp;apply an;apply ai;simp;refine aC ?_;have cl:∀ z:cS,aX [.box ((fN c).map .f) 0,z] (aa 4) (.c (.ptr 0 0 0))=aa (jD c):=by
  intro z;have:c=0∨c=1∨c=2:=by omega
  rcases this with rfl | rfl | rfl<;>rfl
 have ly:∀ z:cS,aX [z,.box [.f (fi x.mo),.f (fi x.wk),.f (fi x.wd),.f (fi x.mi),.f (fi x.off)] 0] ab (.c (.ptr 1 0 0))=aa (vi x.mo):=fun _=>rfl;refine bD (fun n s=>∃(m:Nat) (t:T) (g:Int),s=⟨t,[],[.box ((fN c).map .f) 0,.box (x.row.map .f) 0]⟩∧n=2-m∧(m=1∧g=b∨m=2∧x.mo=2∧g=b+(jG c y 1:Nat))∧t.g 10=vi g∧t.g 2=vi (y:Nat)∧t.g 4=.c (.ptr 0 0 0)∧t.g 7=.c (.ptr 1 0 0)∧t.g 11=vi (m:Nat)) 1
  ⟨1,_,b,rfl,rfl,.inl ⟨rfl,rfl⟩,by simp,by simp,by simp,by simp,by simp⟩ ?_
 rintro n s ⟨m,t,g,rfl,rfl,a8,S,E,F,u,g10⟩ M;apply an;apply ai;simp [g10,u,ey.row];by_cases b9:(m:Int)<x.mo
 ·have m1:m=1:=by omega
  subst m1;have Y:g=b:=by omega
  subst Y;refine al (by simp;omega) (aM ?_);apply an;refine aC ?_;refine aq (.inl rfl) ?_;have O:bF tab.get 137 [jD c,vi (y:Nat),vi 1]=Eq (vi (jG c y 1:Nat)):=e1;simp [g10,S,E,F,cl,-au,O,aO (n:=g+(jG c y 1:Nat)),ey.row];refine aA ?_;refine aq (.inl rfl) ?_;simp [g10];refine M 0 _ (by omega) ⟨2,_,_,rfl,by omega,.inr ⟨rfl,by omega,rfl⟩,?_,?_,?_,?_,?_⟩<;>simp [E,F,u,show ah .i64 2=2 from rfl]
 have X:g=fm:=by
  rw [←hF];unfold nS;rcases a8 with⟨rfl,rfl⟩ | ⟨rfl,h2,rfl⟩
  ·rw [aY (by omega)]
  ·rw [bh h2]
 subst X;have hp:v≤9:=by omega
 have c9:6≤v:=by omega
 refine ak (by simp;omega) ?_;refine bp (k':=[.code Ay]) rfl ?_;apply ai;simp;apply ai;simp;apply an;apply ai;simp [S];refine aC ?_;refine bD (fun n s=>∃(d j la:Int) (t:T),s=⟨t,[],[.box ((fN c).map .f) 0,.box [.f (fi x.mo),.f (fi x.wk),.f (fi x.wd),.f (fi x.mi),.f (fi x.off)] 0]⟩∧n=(g+v-d).toNat∧g≤d∧d≤g+v∧0≤j∧j≤d-g ∧
   (x.wk=1→j=0∧la = -1∧d≤g+(x.wd-g) % 7)∧(x.wk=5→la=if g≤d-1-(d-1-x.wd) % 7 then d-1-(d-1-x.wd) % 7 else -1) ∧
   t.g 2=vi (y:Nat)∧t.g 4=.c (.ptr 0 0 0)∧t.g 7=.c (.ptr 1 0 0)∧t.g 10=vi g∧t.g 12=vi j∧t.g 13=vi la∧t.g 14=vi d) v.toNat
  ⟨g,0,-1,_,rfl,by omega,arK _,by omega,by omega,by omega,fun _=>⟨rfl,rfl,by omega⟩,fun _=>(aY (by omega)).symm,by simp [E],by simp [F],by simp [u],by simp [S],by simp,by simp,by simp⟩ ?_
 clear M;rintro n s ⟨d,j,la,t,rfl,rfl,d0,d1,c0,c1,I,J,E,F,u,g10,H,B,q⟩ M;apply an;apply ai;simp [E,F,u,g10,q,cl,ly,-au,e3,aO (n:=g+v)];by_cases hd:d<g+v
 case neg=>
  have Z:d=g+v:=by omega
  subst Z;refine ak (by simp) ?_;refine bp (k':=[.code sU]) rfl ?_;rcases l with l | l
  ·obtain⟨rfl,rfl,hk⟩:=I l;apply ai;simp [B,u,l];refine aH (W _ _ ?_);have:gm g v 1 x.wd=ag:=by simp [gm,jE];omega
   simp [l,this]
  ·have A:=J l;apply ai;simp [B,u,l];refine aH (W _ _ ?_);by_cases h:g≤g+v-1-(g+v-1-x.wd) % 7
   ·rw [bh h]at A;have e:gm g v 5 x.wd=ae:=by simp [gm,jE];omega
    have N:jE g v 5 x.wd=la:=by simp [jE,A]
    simp [l,e,N];omega
   ·rw [aY h]at A;have e:gm g v 5 x.wd=ag:=by simp [gm,jE];omega
    simp [l,e,A]
 refine al (by simp;omega) (aM ?_);apply an;refine aC ?_;apply ai;have hr:bM .rem (vi d) (vi 7)=aa (vi (d % 7)):=nK (by omega) (by omega);simp [q,u,hr];by_cases K:d % 7=x.wd
 ·refine al (by simp [K]) ?_;apply ai;simp [H,aO (n:=j+1)];apply ai;simp [q];apply an;rcases l with l | l
  ·obtain⟨rfl,rfl,hk⟩:=I l;refine aq (.inl rfl) ?_;simp [u,l];refine al (by simp) ?_;apply ai;simp [q];refine aH (W _ _ ?_);have N:jE g v 1 x.wd=d:=by simp [jE];omega
   have e:gm g v 1 x.wd=ae:=by simp [gm,N,hd]
   simp [l,e,N]
  ·have A:=J l;refine aq (.inl rfl) ?_;have V1:∀ t:T,t.g 2=vi (y:Nat)→t.g 4=.c (.ptr 0 0 0)→t.g 7=.c (.ptr 1 0 0)→t.g 10=vi g→t.g 12=vi (j+1)→t.g 13=vi d→t.g 14=vi d →
     WP tab.get 104 ab [.code AA,.inLoop Az,.inBlock 2,.code sU] ⟨t,[],[.box ((fN c).map .f) 0,.box [.f (fi x.mo),.f (fi 5),.f (fi x.wd),.f (fi x.mi),.f (fi x.off)] 0]⟩ Q:=by
    intro t E F u g10 H B q;have eh:([.box ((fN c).map .f) 0,.box [.f (fi x.mo),.f (fi 5),.f (fi x.wd),.f (fi x.mi),.f (fi x.off)] 0]:aj)=[.box ((fN c).map .f) 0,.box [.f (fi x.mo),.f (fi x.wk),.f (fi x.wd),.f (fi x.mi),.f (fi x.off)] 0]:=by rw [l]
    rw [eh];refine aq (.inl rfl) ?_;simp [q,aO (n:=d+1)];refine M _ _ ?_ ⟨d+1,j+1,d,_,rfl,rfl,by omega,by omega,by omega,by omega,fun h=>by omega,fun _=>?_,by simp [E],by simp [F],by simp [u],by simp [g10],by simp [H],by simp [B],by simp⟩
    ·omega
    ·rw [bh (by omega)];omega
   by_cases U:j+1=5
   ·simp [u,l,U];refine ak (by simp) (aM (aA (V1 _ ?_ ?_ ?_ ?_ ?_ ?_ ?_)))<;>simp [E,F,u,g10,q,U]
   ·simp [u,l,U];refine ak (by simp) (aM (aA (V1 _ ?_ ?_ ?_ ?_ ?_ ?_ ?_)))<;>simp [E,F,u,g10,q]
 ·refine ak (by simp [K]) (aM (aA ?_));refine aq (.inl rfl) ?_;simp [q,aO (n:=d+1)];refine M _ _ ?_ ⟨d+1,j,la,_,rfl,rfl,by omega,by omega,by omega,by omega,fun h=>?_,fun h=>?_,by simp [E],by simp [F],by simp [u],by simp [g10],by simp [H],by simp [B],by simp⟩
  ·omega
  ·obtain⟨a1,a2,a3⟩:=I h;exact⟨a1,a2,by omega⟩
  ·have A:=J h;rw [A,show d+1-1=d by omega,show d-1-(d-1-x.wd) % 7=d-(d-x.wd) % 7 by omega])
def UF(t:bI)(l o:List bI):Prop:=∃ A B,l=A++B∧o=A++t::B∧(∀ x ∈ B,t.at_<x.at_)∧∀ x,A.getLast?=aa x→x.at_≤t.at_
theorem cO{n b:Nat}(g:n≤1100000)(d:b≤4096):bN n b=ae:=by
 have h:(2*n+768)*b≤2200768*4096:=Nat.mul_le_mul (by omega) d;simp [bN];omega
theorem du{l:List bI}{j:Nat}{x:bI}(h:l[j]?=aa x):(aR l)[j]?=aa x.row:=by simp [aR,h]
theorem nQ(l:List bI)(j:Nat)(x:bI):(aR l).set j x.row=aR (l.set j x):=by simp [aR,List.map_set]
@[simp] theorem bI.sH (x:bI):x.row.length=2:=rfl
theorem Kc{H:aj}{c:C}{l:List bI}(hL:LR H c 2 (aR l))(hl:l.length≤1000)(x:bI) :
  ∃ o q H',UF x l o∧Ev tab.get (.fn 105) [.c c,.a (x.row.map .f)] H (.c q) H'∧LR H' q 2 (aR o)∧Kb H H' c∧(bf q=bf c∨∃ i,bf q=aa i∧H.length≤i):=by
 suffices h:∃ r H',Ev tab.get (.fn 105) [.c c,.a (x.row.map .f)] H r H'∧∃ o q,r=.c q∧UF x l o∧LR H' q 2 (aR o)∧Kb H H' c∧(bf q=bf c∨∃ i,bf q=aa i∧H.length≤i) by
  obtain⟨r,H',h1,o,q,rfl,h2,h3,h4,h5⟩:=h;exact⟨o,q,H',h2,h1,h3,h4,h5⟩
 refine dk rfl rfl fun Q hQ=>?_;apply ai;simp [bI.row];obtain⟨H1,u⟩:=aT (H++[.box [.f (fi x.at_),.f (fi x.off)] 0]:aj);rw [←u];have b1:H1[H.length]?=aa (.box [.f (fi x.at_),.f (fi x.off)] 0):=by rw [u];simp
 have l1:H1.length=H.length+1:=by rw [u];simp
 obtain⟨H2,v⟩:=aT (H1++[.box (x.row.map .f) 0]:aj);have f9:LR H2 c 2 (aR l):=by rw [v,u];exact(hL.push _).push _
 have g_:H2[H1.length]?=aa (.box (x.row.map .f) 0):=by rw [v];simp
 obtain⟨c3,H3,b9,f_,U,b_⟩:=f9.app (cq _) (by decide) (row:=x.row) rfl (bytes:=16) (cO (by simp;omega) (by decide)) g_;have l2:H2.length=H.length+2:=by rw [v];simp [l1]
 have hK:Kb H H3 c:=⟨by have:=U.1;omega,fun i y hy hn=>U.2 i y (by rw [v,u,aro,AI (aw hy)];exact hy) hn⟩
 have N:bf c3=bf c∨∃ i,bf c3=aa i∧H.length≤i:=b_.imp id fun h=>⟨_,h,by omega⟩
 apply ai;have e2:H1++[.box [.f (fi x.at_),.f (fi x.off)] 0]=H2:=v.symm;simp [b1,aI];rw [e2];simp [b9];rcases f_ with⟨h,_⟩ | ⟨_,b,g,rfl,hb⟩
 ·simp at h
 have e3:aR l++[x.row]=aR (l++[x]):=by simp [aR]
 rw [e3]at hb;apply an;apply ai;simp [hb.len];refine aC ?_;clear U b_;refine bD (fun n s=>∃(A B:List bI) (t:T) (J:aj),s=⟨t,[],J⟩∧n=A.length∧l=A++B∧(∀ z ∈ B,x.at_<z.at_)∧RB J b 2 g (aR (A++x::B))∧Fm b H3 J∧t.g 5=.c (.sl b 0 (l.length+1) 0 g 2)∧t.g 6=vi A.length) l.length
  ⟨l,[],_,H3,rfl,rfl,by simp,by simp,hb,Fm.refl _,by simp,by simp;exact aO⟩ ?_
 rintro n s ⟨A,B,t,J,rfl,rfl,S,hB,M,hF,F,Z⟩ ih;have O:l.length=A.length+B.length:=by rw [S];simp
 apply an;have a9:(∀ z,A.getLast?=aa z→z.at_≤x.at_)→∀ t:T,t.g 5=.c (.sl b 0 (l.length+1) 0 g 2)→WP tab.get 105 ab [.code nW] ⟨t,[],J⟩ Q:=by
  intro W t F;apply ai;simp [F];refine aH (hQ _ _ (.c (.sl b 0 (l.length+1) 0 g 2)) rfl (jz (by simp)) ⟨A++x::B,_,rfl,⟨A,B,S,rfl,hB,W⟩,.inr ⟨by simp [aR],b,g,?_,M⟩,?_,?_⟩)
  ·simp [O];omega
  ·refine⟨aqL hK.1 hF.1,fun i y hy hn=>?_⟩;have h1:=hK.2 i y hy hn;refine hF.get h1 ?_;rintro rfl;rcases N with e | ⟨k,e,hk⟩
   ·exact hn (by rw [←e];rfl)
   ·cases e;have:=aw hy;omega
  ·exact N
 have E:=cq (A++x::B);cases hA:A.getLast? with
 | none=>
  have d_:A=[]:=by simpa using hA
  subst d_;apply ai;simp [Z];refine ak (by simp) ?_;refine bp (k':=[.code nW]) rfl ?_;exact a9 (by simp) _ (by simp [F])
 | some z=>
  obtain⟨d,rfl⟩:∃ d,A=d++[z]:=by
   obtain⟨d,e⟩:=List.getLast?_eq_some_iff.1 hA;exact⟨d,e⟩
  have m:(d++[z]).length=d.length+1:=by simp
  rw [m]at O;have gz:(d++[z]++x::B)[d.length]?=aa z:=by simp
  have gx:(d++[z]++x::B)[d.length+1]?=aa x:=by
   rw [aqJ (by simp)];simp
  have iz:aL J 2 ab (.c (.sl b 0 (l.length+1) 0 g 2)) (vi d.length)=aa (.c (.ptr b (d.length*2) g)):=by
   have:=M.idx (n:=l.length+1) (c:=0) (k:=.i64) (o:=0) (i:=(d.length:Int)) (by omega) (by omega);simpa using this
  have ix:aL J 2 ab (.c (.sl b 0 (l.length+1) 0 g 2)) (vi ((d.length:Int)+1))=aa (.c (.ptr b ((d.length+1)*2) g)):=by
   have:=M.idx (n:=l.length+1) (c:=0) (k:=.i64) (o:=0) (i:=(d.length:Int)+1) (by omega) (by omega);rw [aq8,show((d.length:Int)+1).toNat=d.length+1 by omega]at this;exact this
  have cz:=M.ldc E (du gz) (k:=0) (x:=fi z.at_) rfl;have cx:=M.ldc E (du gx) (k:=0) (x:=fi x.at_) rfl;simp only [Nat.add_zero]at cz cx;have w1:ah .i64 (d.length:Int)=d.length:=aO;apply ai;simp [F,Z,m,show(0:Int)<(d.length:Int)+1 by omega,w1,iz,ix,cz,cx,-au];by_cases X:x.at_<z.at_
  case neg=>
   refine ak (by simp [X]) ?_;refine bp (k':=[.code nW]) rfl ?_;exact a9 (fun w hw=>by rw [hA]at hw;cases hw;omega) _ (by simp [F])
  refine al (by simp [X]) (aM ?_);apply an;refine aC ?_;have rx:=M.ldr E (du gx);apply ai;simp [F,Z,m,ix,rx,-au,bI.row];obtain⟨J1,I⟩:=aT (J++[.box [.f (fi x.at_),.f (fi x.off)] 0]:aj);have L:RB J1 b 2 g (aR (d++[z]++x::B)):=by rw [I];exact M.push _
  have d8:J1[J.length]?=aa (.box [.f (fi x.at_),.f (fi x.off)] 0):=by rw [I];simp
  have i_:=M.lt;rw [←I];have h_:∀ {K:aj} {rows:List (List FC)} (_:RB K b 2 g rows),aL K 2 ab (.c (.sl b 0 (l.length+1) 0 g 2)) (vi ((d.length:Int)+1))=aa (.c (.ptr b ((d.length+1)*2) g)):=fun hK=>by
   have:=hK.idx (n:=l.length+1) (c:=0) (k:=.i64) (o:=0) (i:=(d.length:Int)+1) (by omega) (by omega);rw [aq8,show((d.length:Int)+1).toNat=d.length+1 by omega]at this;exact this
  have c_:∀ {K:aj} {rows:List (List FC)} (_:RB K b 2 g rows),aL K 2 ab (.c (.sl b 0 (l.length+1) 0 g 2)) (vi d.length)=aa (.c (.ptr b (d.length*2) g)):=fun hK=>by
   have:=hK.idx (n:=l.length+1) (c:=0) (k:=.i64) (o:=0) (i:=(d.length:Int)) (by omega) (by omega);simpa using this
  have rz:=L.ldr E (du gz);obtain⟨J2,s1,a_,a8,j9⟩:=L.str (j:=d.length+1) (row:=z.row) E (by simp) rfl;have c9:bL 2 ((aR (d++[z]++x::B)).set (d.length+1) z.row):=by rw [nQ];exact cq _
  obtain⟨J3,s2,b7,d9,j_⟩:=a_.str (j:=d.length) (row:=x.row) c9 (by simp) rfl;have d6:=a8.get d8 (by omega);have Y:((aR (d++[z]++x::B)).set (d.length+1) z.row).set d.length x.row=aR (d++x::z::B):=by
   rw [nQ,nQ]
   congr 1
   rw [aro];simp
  rw [Y]at b7;apply ai;simp only [bI.row,ao1,aqD]at rz s1 s2;simp [F,Z,m,w1,h_ L,c_ L,rz,s1,-au,-bu];refine aq (.inl rfl) ?_;simp [F,Z,m,w1,c_ a_,d6,aI,s2,-bu];refine aA ?_;refine aq (.inl rfl) ?_;simp [Z,m,w1];have e_:Fm b H3 J3:=((hF.trans (by rw [I];exact Fm.push _ _)).trans a8).trans d9;refine ih d.length _ (by simp) ⟨d,z::B,_,J3,rfl,rfl,by rw [S];simp,?_,b7,e_,by simp [F],by simp⟩;intro w hw;rcases arw.1 hw with rfl | hw
  ·exact X
  ·exact hB w hw
def XJ(x:bA)(j:Nat):Int:=if j=0 then x.l else x.r
def nU(U:List Int)(x:bA):Nat→List Int
 | 0=>U| j+1=>if j<dD x.k then ma (nU U x j) (XJ x j)else nU U x j
@[simp] theorem ac5 (U:List Int) (x:bA):∀ j,(nU U x j).length=U.length
 | 0=>rfl| j+1=>by unfold nU;split<;>simp [ac5 U x j]
theorem F4{r:List bA}{x:bA}{i n:Nat}(h:kz i x):nU (bC r n) x 2=bC (r++[x]) n:=by
 have b:=mR x.k;rcases(show dD x.k=0∨dD x.k=1∨dD x.k=2 by omega)with e | e | e
 ·rw [EB e];simp [nU,e]
 ·rw [EC e (h.l1 (by omega)).1];simp [nU,e,XJ]
 ·rw [ED e (h.l1 (by omega)).1 (h.r2 e).1];simp [nU,e,XJ]
abbrev cI(n:Int):C:=.f (fi n)
theorem wU{U:List Int}{k:Int}(b:0≤k)(d:k<U.length):over (U.map cI) k.toNat [cI (U.getD k.toNat 0+1)]=(ma U k).map cI:=by
 rw [uf (by simp;omega),ma,List.map_set]
theorem En{k:Nat}(h:k<19):(je.drop (k*4)).take 4=gn k:=
 tF (sz:=4) (rows:=(List.range 19).map gn) (fun r hr=>by obtain⟨j,_,rfl⟩:=aq9.1 hr;rfl) (by simp [h])
theorem aje{H:aj}{b fl:Nat}(d:H[b]?=aa (.box (je.map .f) fl)){k:Nat}(h:k<19):aX H (aa 4) (.c (.ptr b (k*4) 0))=aa (.a ((gn k).map .f)):=by
 have g:je.length=76:=by decide
 have:k*4+4≤je.length:=by omega
 simp only [aX,aF,d];simp [aI,←List.map_drop,←List.map_take,En h];omega
theorem dS{H:aj}{g:Tg}{r:List aN}{j:Nat}(b:j<r.length)(d:r.length≤64):aL H 8 ab (.c (.f (sl g (aG r)))) (vi j)=aa (.c (.f (.fp (aG r).flatten (j*8)))):=by
 have:=dg (H:=H) (g:=g) (rows:=aG r) (sz:=8) (k:=.i64) (i:=(j:Int)) (by omega) (by simp;omega);simpa using this
theorem iu{H:aj}{r:List aN}{j:Nat}(b:j<r.length):aX H (aa 8) (.c (.f (.fp (aG r).flatten (j*8))))=aa (.a (r[j].row.map .f)):=by
 have:=fV (H:=H) (rows:=aG r) (j:=j) (sz:=8) (row:=r[j].row) (dO r) (jv b);simpa using this
theorem W8{H:aj}{i:Nat}{x:cS}(h:H[i]?=aa x):H.set i x=H:=by
 refine List.ext_getElem? fun j=>?_;rw [List.getElem?_set];split
 ·rename_i e;subst e;rw [bh (aw h),h]
 ·rfl
theorem abt{U:List Int}{B k:Int}(h:∀ v ∈ U,0≤v∧v≤B):∀ v ∈ ma U k,0≤v∧v≤B+1:=by
 intro v b;unfold ma at b;rcases List.mem_or_eq_of_mem_set b with b | rfl
 ·have:=h v b;omega
 ·rw [aqY];cases g:U[k.toNat]? with
  | none=>
   by_cases d:U=[]
   ·subst d;simp at b
   ·obtain⟨w,j⟩:=List.exists_mem_of_ne_nil U d;have:=h w j;simp;omega
  | some w=>have:=h w (List.mem_of_getElem? g);simp;omega
theorem zz{U:List Int}{x:bA}{B:Int}(h:∀ v ∈ U,0≤v∧v≤B):∀ j:Nat,∀ v ∈ nU U x j,0≤v∧v≤B+j
 | 0=>fun v b=>by have:=h v b;omega
 | j+1=>fun v b=>by
  unfold nU at b;split at b
  ·have:=abt (zz h j) v b;omega
  ·have:=zz h j v b;omega
theorem abP(v:Int):Kf tab.get 133 [vi v] (vb (decide (v≠1))):=by
 refine oH rfl rfl fun H Q b=>?_;apply ai;simp;apply ai;simp;exact aH (b _ _ (by simp))
theorem aaN(g:Tg)(l:List Int)(d:l.length≤9223372036854775807):bF tab.get 132 [.c (.f (sl g (ints l))),.c (.f (.fn 133 []))]=Eq (vb (l.any fun v=>decide (v≠1))):=
 (A_ aeo (J7 aep l (fun v=>[fi v]) (fun v=>vi v) (fun v=>decide (v≠1)) g 133 [] d
  (fun j b H=>by rw [Nat.mul_one];exact iW b) (fun p m=>abP p))).eq
theorem vK(g:Tg){r:List aN}(hG:Good (dB r))(hl:r.length≤64):bF tab.get 94 [.c (.f (sl g (aG r)))]=Eq (vb ae):=bF.eq (by
 have q9:0<r.length:=by have:=hG.pos;simpa using this
 obtain⟨n,hn⟩:=aT (r.length);refine bK rfl rfl fun Q hQ=>?_;apply ai;simp;refine an (ai ?_);simp [←hn,show¬ (n:Int)<1 by omega,show¬ (64:Int)<n by omega];refine a5 (by simp) ?_;have p_:je.length=76:=by decide
 apply ai;simp [qR,p_];apply ai;have c9:bN n 8=ae:=cO (by omega) (by decide);have o6:∀(t:T) (H:aj),(R 22).ev t=vi n→bs t H (.cE 1 8 [fi 0] (R 22) (R 22))=aa (.c (.sl H.length 0 n n 0 1),H++[.box ((bC [] n).map cI) 0]):=by
  intro t H h;have e:(bV n [fi 0]).map C.f=(bC [] n).map cI:=by rw [xC];simp [bV]
  simp only [bs,h,dy];rw [bh ⟨by omega,arK _,by simpa using c9,rfl⟩,aY (by omega),aqP,e]
 simp [←hn,o6];refine an (ai ?_);simp [←hn];refine fU n (fun i t H=>∃ r',r'=(dB r).take i∧t.g 0=.c (.f (sl g (aG r)))∧t.g 3=.c (.ptr 0 0 0)∧t.g 4=.c (.sl 1 0 n n 0 1)∧t.g 24=.c (.f (sl g (aG r)))∧H[0]?=aa (.box (je.map .f) 0)∧H[1]?=aa (.box ((bC r' n).map cI) 0))
  (by omega) (by decide) (by decide) (by simp) (by simp) ⟨[],by simp,by simp,by simp,by simp,by simp,rfl,rfl⟩ ?_ ?_
 ·rintro i t H hi ⟨r',a,M,N,E,b,h0,h1⟩ ha hb next
  have Y:i<r.length:=by omega
  have hA:=hG.at_ i (by simpa using Y);obtain⟨x,hx⟩:=aT (r[i]);have k_:(dB r)[i]'(by simpa using Y)=x.d:=by rw [hx];simp
  rw [k_]at hA;obtain⟨q8,hK⟩:=hA.ok;have hk:=hK.k;obtain⟨k,A⟩:∃ k:Nat,x.d.k=k:=⟨x.d.k.toNat,by omega⟩
  have f_:k<19:=by omega
  have y:=sx hk.1;rw [A,aqP]at y;have b9:nU (bC r' n) x.d 2=bC ((dB r).take (i+1)) n:=by
   rw [F4 hA,a,aqC (by simpa using Y),k_]
  refine aC (ai ?_);have c_:0<H.length:=aw h0;have d6:1<H.length:=aw h1;simp [ha,b,dS Y hl,iu Y,←hx,aN.row];obtain⟨J,hJ⟩:=aT (H++[.box (x.row.map .f) 0]:aj);have j0:J[0]?=aa (.box (je.map .f) 0):=by rw [hJ,AI c_];exact h0
  have j1:J[1]?=aa (.box ((bC r' n).map cI) 0):=by rw [hJ,AI d6];exact h1
  have jx:J[H.length]?=aa (.box (x.row.map .f) 0):=by rw [hJ];simp
  have jl:J.length=H.length+1:=by rw [hJ];simp
  simp only [aN.row,ao1,aqD]at hJ jx;rw [←hJ];clear hJ;obtain⟨d,i_⟩:=aT (H.length);rw [←i_]at jx jl d6 ⊢;clear i_ h0 h1 c_;refine an (ai ?_);have n4:decide (1≤x.d.k∧x.d.k≤18)=ae:=decide_eq_true ⟨by omega,by omega⟩;simp [jx,aI,dt,n4,show¬ (64:Int)<x.d.li.length by omega];refine a5 (by simp) ?_;have a_:∀ H,aL H 4 (aa 19) (.c (.ptr 0 0 0)) (vi x.d.k)=aa (.c (.ptr 0 (k*4) 0)):=fun H=>by
   rw [A,abq (by omega) (by omega)];simp
  apply ai;have b7:=aje j0 f_;simp only [gn,ao1,aqD]at b7;have c:aX J ab (.c (.ptr d 0 0))=aa (vi x.d.k):=by simp [aX,jx,aF,aI]
  simp [c,N,a_,b7,-au];obtain⟨J2,z⟩:=aT (J++[.box ((gn k).map .f) 0]:aj);have i0:J2[0]?=aa (.box (je.map .f) 0):=by rw [z,AI (aw j0)];exact j0
  have i1:J2[1]?=aa (.box ((bC r' n).map cI) 0):=by rw [z,AI (aw j1)];exact j1
  have ix:=jx;rw [←AI (l₂:=[.box ((gn k).map .f) 0]) (aw jx),←z]at ix;have p:J2[d+1]?=aa (.box ((gn k).map .f) 0):=by rw [z,←jl];simp
  have il:J2.length=d+2:=by rw [z];simp [jl]
  simp only [gn,ao1,aqD]at z p;rw [←z,jl];clear z b7 c j0 j1 jx jl;refine an (ai ?_);have n7:bE (J2++[.box [.f (fi x.d.l),.f (fi x.d.r)] 0]) (.sl J2.length 0 2 2 0 1)=aa 2:=by simp [bE]
  simp [ix,aI,n7];obtain⟨J3,I⟩:=aT (J2++[.box [.f (fi x.d.l),.f (fi x.d.r)] 0]:aj);have q0:J3[0]?=aa (.box (je.map .f) 0):=by rw [I,AI (aw i0)];exact i0
  have q1:J3[1]?=aa (.box ((bC r' n).map cI) 0):=by rw [I,AI (aw i1)];exact i1
  have qx:=ix;rw [←AI (l₂:=[.box [.f (fi x.d.l),.f (fi x.d.r)] 0]) (aw ix),←I]at qx;have qs:=p;rw [←AI (l₂:=[.box [.f (fi x.d.l),.f (fi x.d.r)] 0]) (aw p),←I]at qs;have ql:J3[d+2]?=aa (.box [.f (fi x.d.l),.f (fi x.d.r)] 0):=by rw [I,←il];simp
  rw [←I,il];clear I i0 i1 ix p il;refine fU 2 (fun j t H=>t.g 0=.c (.f (sl g (aG r)))∧t.g 3=.c (.ptr 0 0 0)∧t.g 4=.c (.sl 1 0 n n 0 1)∧t.g 24=.c (.f (sl g (aG r)))∧t.g 5=vi i∧t.g 6=.c (.ptr d 0 0)∧t.g 7=.c (.ptr (d+1) 0 0)∧t.g 49=.c (.sl (d+2) 0 2 2 0 1)∧t.g 26=vi i∧t.g 25=vi n∧H=J3.set 1 (.box ((nU (bC r' n) x.d j).map cI) 0))
   (by decide) (by decide) (by decide) (by simp) (by simp) ⟨by simp [M],by simp [N],by simp [E],by simp [b],by simp,by simp,by simp,by simp,by simp [ha],by simp [hb],(W8 q1).symm⟩ ?_ ?_
  ·rintro j t H hj ⟨M,N,E,b,g5,O,S,F,s,q,rfl⟩ ha hb next
   obtain⟨U,hU⟩:=aT (nU (bC r' n) x.d j);have q_:U.length=n:=by rw [hU];simp
   have m7:∀ v ∈ U,0≤v∧v≤1000:=by
    intro v hv;rw [hU]at hv;have:=zz (B:=2*r'.length) (fun v hv=>by
     obtain⟨k,hk,rfl⟩:=aqE hv;exact Cq r' n k (by simpa using hk)) j v hv
    have:r'.length≤64:=by rw [a];simp;omega
    omega
   have Z:nU (bC r' n) x.d (j+1)=if j<uC k then ma U (XJ x.d j)else U:=by
    rw [nU,A,y,hU]
   rw [←hU];obtain⟨o,ho⟩:=aT (XJ x.d j);rw [←ho]at Z;obtain⟨K,m⟩:=aT (J3.set 1 (.box (U.map cI) 0):aj);have p1:K[1]?=aa (.box (U.map cI) 0):=by rw [m];exact IS (aw q1)
   have L:K[d]?=aa (.box (x.row.map .f) 0):=by rw [m,AT (by omega)];exact qx
   have ps:K[d+1]?=aa (.box ((gn k).map .f) 0):=by rw [m,AT (by omega)];exact qs
   have pl:K[d+2]?=aa (.box [.f (fi x.d.l),.f (fi x.d.r)] 0):=by rw [m,AT (by omega)];exact ql
   have m6:∀ W:List Int,K.set 1 (.box (W.map cI) 0)=J3.set 1 (.box (W.map cI) 0):=fun W=>by rw [m,List.set_set]
   rw [←m];have e_:aL K 1 ab (.c (.sl (d+2) 0 2 2 0 1)) (vi j)=aa (.c (.ptr (d+2) j 0)):=by
    simp [aL,dy,pl];omega
   have n9:aX K ab (.c (.ptr (d+2) j 0))=aa (vi o):=by
    rcases(show j=0∨j=1 by omega)with rfl | rfl<;>simp [aX,pl,aF,aI,ho,XJ]
   have o9:aX K ab (.c (.ptr (d+1) 0 0))=aa (vi (uC k)):=by simp [aX,ps,aF,aI,gn]
   have c:aX K ab (.c (.ptr d 0 0))=aa (vi x.d.k):=by simp [aX,L,aF,aI,aN.row]
   refine aC (ai ?_);simp [ha,F,e_,n9,-au];refine aC (ai ?_);simp [S,o9,-au];by_cases f9:j<uC k
   ·rw [bh f9]at Z;have b_:0≤o∧o≤(i:Int)-1:=by
     rw [ho];rcases(show j=0∨j=1 by omega)with rfl | rfl
     ·have:=hA.l1 (by rw [A,y];omega);simp only [XJ];simp;omega
     ·have h2:dD x.d.k=2:=by have:=mR x.d.k;rw [A,y]at this ⊢;omega
      have:=hA.r2 h2;simp only [XJ];simp;omega
    have h_:decide (0≤o∧o≤(i:Int)-1)=ae:=decide_eq_true b_;have d_:U.getD o.toNat 0=U[o.toNat]'(by omega):=by rw [aqY,At (by omega)];rfl
    have d9:=m7 _ (OF (l:=U) (n:=o.toNat) (by omega));rw [←d_]at d9;have a_:aL K 1 ab (.c (.sl 1 0 n n 0 1)) (vi o)=aa (.c (.ptr 1 o.toNat 0)):=by
     simp [aL,dy,p1,b_.1];omega
    have g_:aX K ab (.c (.ptr 1 o.toNat 0))=aa (vi (U.getD o.toNat 0)):=by
     have:(U.map cI).drop o.toNat=cI (U.getD o.toNat 0) ::(U.map cI).drop (o.toNat+1):=by
      rw [aqU (by simp;omega),arF,d_]
     simp only [aX,aF,p1,aqR];rw [this];rfl
    have j9:df K (.ptr 1 o.toNat 0) [.f (fi (U.getD o.toNat 0+1))]=aa (K.set 1 (.box ((ma U o).map cI) 0)):=by
     have:=wU (U:=U) (k:=o) b_.1 (by omega);simp only [df,p1];rw [bh (by simp;omega)];rw [show [C.f (fi (U.getD o.toNat 0+1))]=[cI (U.getD o.toNat 0+1)] from rfl,this]
    obtain⟨u,hu⟩:=aT (U.getD o.toNat 0);rw [←hu]at g_ j9 d9;refine al (by simp;omega) (an (ai ?_));simp [g5,aO (n:=(i:Int)-1),dt,h_];refine a5 (by simp) ?_;refine aq (.inl rfl) ?_;simp [E,a_,g_,j9,aO (n:=u+1),-au,-bu];refine aA (aA ?_);refine next _ _ ?_ ?_ ?_
    ·exact⟨by simp [M],by simp [N],by simp [E],by simp [b],by simp [g5],by simp [O],by simp [S],by simp [F],by simp [s],by simp [q],by rw [Z,m6]⟩
    ·simp [ha]
    ·simp [hb]
   ·rw [aY f9]at Z;refine ak (by simp;omega) (ai ?_);have X:∀ t:T,t.g 0=.c (.f (sl g (aG r)))→t.g 3=.c (.ptr 0 0 0)→t.g 4=.c (.sl 1 0 n n 0 1)→t.g 24=.c (.f (sl g (aG r)))→t.g 5=vi i→t.g 6=.c (.ptr d 0 0)→t.g 7=.c (.ptr (d+1) 0 0)→t.g 49=.c (.sl (d+2) 0 2 2 0 1)→t.g 26=vi i→t.g 25=vi n→t.g 51=vi j→t.g 50=vi (2:Nat)→t.g 72=vb ag →
      WP tab.get 94 ab [.code AN,.inBlock 4,.inBlock 3,.code AO,.inLoop AM,.inBlock 2,.code AP,.inBlock 1,.code (J4 26 122),.inLoop (qG 0 26 25 27 122 sW),.inBlock 0,.code sX] ⟨t,[],K⟩ Q:=by
     intro t M N E b g5 O S F s q l_ l9 m4;refine ak m4 (aM ?_);refine aA (aA ?_);refine next _ _ ?_ ?_ ?_
     ·exact⟨by simp [M],by simp [N],by simp [E],by simp [b],by simp [g5],by simp [O],by simp [S],by simp [F],by simp [s],by simp [q],by rw [Z,m]⟩
     ·simp [l_]
     ·simp [l9]
    by_cases f:o=0
    ·simp [f];exact X _ (by simp [M]) (by simp [N]) (by simp [E]) (by simp [b]) (by simp [g5]) (by simp [O]) (by simp [S]) (by simp [F]) (by simp [s]) (by simp [q]) (by simp [ha]) (by simp [hb]) (by simp)
    ·have n5:j=0:=by
      rcases(show j=0∨j=1 by omega)with e | rfl
      ·exact e
      ·exact absurd (by rw [ho];simp [XJ];exact hA.r0 (by rw [A,y];omega)) f
     subst n5;have n6:x.d.k=7:=by
      rcases Decidable.em (x.d.k=7)with e | e
      ·exact e
      ·exact absurd (by rw [ho];simp [XJ];exact hA.l0 (by rw [A,y];omega) e) f
     simp [f,O,c,n6,-au];exact X _ (by simp [M]) (by simp [N]) (by simp [E]) (by simp [b]) (by simp [g5]) (by simp [O]) (by simp [S]) (by simp [F]) (by simp [s]) (by simp [q]) (by simp [ha]) (by simp [hb]) (by simp)
  ·rintro t H ⟨M,N,E,b,g5,O,S,F,s,q,rfl⟩ - -;rw [b9];obtain⟨K,m⟩:=aT (J3.set 1 (.box ((bC ((dB r).take (i+1)) n).map cI) 0):aj);have p0:K[0]?=aa (.box (je.map .f) 0):=by rw [m,AT (by omega)];exact q0
   have p1:K[1]?=aa (.box ((bC ((dB r).take (i+1)) n).map cI) 0):=by rw [m];exact IS (aw q1)
   have L:K[d]?=aa (.box (x.row.map .f) 0):=by rw [m,AT (by omega)];exact qx
   have ps:K[d+1]?=aa (.box ((gn k).map .f) 0):=by rw [m,AT (by omega)];exact qs
   rw [←m];have e0:aX K ab (.c (.ptr d 0 0))=aa (vi x.d.k):=by simp [aX,L,aF,aI,aN.row]
   have e1:aX K ab (.c (.ptr d 1 0))=aa (vi x.d.dW):=by simp [aX,L,aF,aI,aN.row]
   have e6:aX K ab (.c (.ptr d 6 0))=aa (.c (.f (sl x.tg (ints x.d.li)))):=by simp [aX,L,aF,aI,aN.row]
   have e7:aX K ab (.c (.ptr d 7 0))=aa (.c (.f (.str uJ))):=by simp [aX,L,aF,aI,aN.row]
   have e8:aX K (aa 8) (.c (.ptr d 0 0))=aa (.a (x.row.map .f)):=by simp [aX,L,aF,aI,aN.row]
   have f1:aX K ab (.c (.ptr (d+1) 1 0))=aa (vb (lv k)):=by simp [aX,ps,aF,aI,gn]
   have f2:aX K (aa 2) (.c (.ptr (d+1) 2 0))=aa (.a [.f (fi (Cc k)),.f (fi (Cb k))]):=by simp [aX,ps,aF,aI,gn]
   have a8:=hK.XE;have d8:=yU x hK.num;have w:=hK.dW;rw [A,aqP]at a8 w;have hL:=Kj x.tg x.d.li (Cc k) (Cb k) a8 (by omega);have X:∀ t:T,t.g 0=.c (.f (sl g (aG r)))→t.g 3=.c (.ptr 0 0 0)→t.g 4=.c (.sl 1 0 n n 0 1)→t.g 24=.c (.f (sl g (aG r)))→t.g 6=.c (.ptr d 0 0)→t.g 7=.c (.ptr (d+1) 0 0)→t.g 26=vi i→t.g 25=vi n→t.g 10=vb ae→t.g 11=vb ae →
     WP tab.get 94 ab [.code AQ,.inBlock 1,.code (J4 26 122),.inLoop (qG 0 26 25 27 122 sW),.inBlock 0,.code sX] ⟨t,[],K⟩ Q:=by
    intro t M N E b O S s q g10 l7;refine an (ai ?_);simp [O,e0,-au,show¬ x.d.k=18 by omega];refine a5 (by simp) ?_;apply ai;simp [O,S,g10,l7,e6,e8,f2,hL,d8,-au];refine a5 (by simp) ?_;refine aA ?_;refine next _ _ ?_ ?_ ?_
    ·exact⟨_,rfl,by simp [M],by simp [N],by simp [E],by simp [b],p0,p1⟩
    ·simp [s]
    ·simp [q]
   apply ai;have j_:bM .eql (.c (.f (.str uJ))) (.c (.f (.str ⟨#[]⟩)))=aa (vb ae):=by simp [bM,JF,uJ];rfl
   simp [O,e1,e7,-au,j_];refine an (ai ?_);simp [S,f1,-au];cases hc:lv k
   ·have m9:=w.2.2 hc;refine a5 (by simp) ?_;exact X _ (by simp [M]) (by simp [N]) (by simp [E]) (by simp [b]) (by simp [O]) (by simp [S]) (by simp [s]) (by simp [q]) (by simp [m9]) (by simp)
   ·have m_:decide (0≤x.d.dW∧x.d.dW≤2)=ae:=decide_eq_true ⟨by omega,by omega⟩;refine al (by simp) (aq (.inl rfl) ?_);simp [O,e1,-au,dt,m_];exact X _ (by simp [M]) (by simp [N]) (by simp [E]) (by simp [b]) (by simp [O]) (by simp [S]) (by simp [s]) (by simp [q]) (by simp) (by simp)
 ·rintro t H ⟨r',a,M,N,E,b,h0,h1⟩ - -;have o_:r'=dB r:=by rw [a,aqI (by simp;omega)]
  subst o_;clear a;have hU:((bC (dB r) n).take (n-1)).any (fun v=>decide (v≠1))=ag:=by
   rw [List.any_eq_false];intro v hv;have:=hG.bC v (by simpa [←hn]using hv);simp [this]
  have hw:ah .i64 ((n:Int)-1)=((n-1:Nat):Int):=by rw [aO];omega
  have hs:fq H 1 (.c (.sl 1 0 n n 0 1)) ab (aa (vi ((n-1:Nat):Int))) ab=aa (.c (.sl 1 0 (n-1) n 0 1)):=by
   have hb:=aaU (k:=n-1) (n:=n) (by omega);simp [fq,h1,cr,hb];omega
  have hx:da deep H (.sl 1 0 (n-1) n 0 1)=aa (sl .fs (ints ((bC (dB r) n).take (n-1)))):=by
   have e1:(((bC (dB r) n).map cI).drop 0).take ((n-1)*1)=(((bC (dB r) n).take (n-1)).map fi).map C.f:=by simp [List.map_take,Function.comp_def]
   show da (deep-1+1) H (.sl 1 0 (n-1) n 0 1)=_;rw [lf,h1];simp only [e1,yP];rw [bh (by simp)];have n_:((bC (dB r) n).take (n-1)).length=n-1:=by simp
   by_cases o7:n=1
   ·subst o7;simp [sl,Tg.fc,ints]
   ·have o8:¬ (ints ((bC (dB r) n).take (n-1))).isEmpty=ae:=by
     rw [List.isEmpty_iff,←List.length_eq_zero_iff];simp;omega
    rw [sl,aY o8,wW,Bo,n_];rfl
  apply ai;have a9:=aaN .fs ((bC (dB r) n).take (n-1)) (by simp;omega);rw [hU]at a9;simp [M,E,←hn,hw,hs,hx,a9];exact aH (hQ _ _ (by simp)))
theorem wG{H:aj}(g:Tg)(l:List Int)(b:l.length≤1000):∃ r H',Ev tab.get (.fn 71) [.c (.f (sl g (ints l)))] H r H'∧∃ c J,r=.c c∧H'=H++J∧LR (H++J) c 1 (ints l)∧∀ i,bf c=aa i→H.length≤i:=
 A9 (sz:=1) (zs:=[fi 0]) (bytes:=8) aen (by decide) (eQ l) (cO (by simp;omega) (by decide))
theorem ac6{H:aj}{g:Tg}{r:List aN}(J:Good (dB r))(N:r.length≤64){pm pr pw mb:Nat}(Z:H[pm]?=aa (.box [.mp mb] 0))(m:H[mb]?=aa (.map []))(hr:H[pr]?=aa (.box [.f (sl g (aG r))] 0)) :
  ∃ q H',Ev tab.get (.fn 108) [vi 0,.c (.ptr pm 0 0),.c (.ptr pr 0 0),.c (.ptr pw 0 0)] H q H'∧H'=H.set mb (.map [(fi 0,.f (.bool ae))]):=by
 have d:0<r.length:=by have:=J.pos;simpa using this
 refine dk (C:=fun q H'=>H'=H.set mb (.map [(fi 0,.f (.bool ae))])) ahV rfl fun Q M=>?_;apply ai;have S:aX H ab (.c (.ptr pm 0 0))=aa (.c (.mp mb)):=by simp [aX,Z,aF,aI]
 have E:∀ t:T,(R 6).ev t=.c (.mp mb)→(R 7).ev t=vi 0→bs t H (.jr .int (R 6) (R 7) kt)=aa (.top,H.set mb (.map [(fi 0,.f (.bool ae))])):=by
  intro t W X;simp only [bs,W,X];have:rj (Arg.ev t kt)=aa (.f (.bool ae)):=rfl;simp only [this,m];rfl
 simp [S,-au,E];obtain⟨K,L⟩:=aT (H.set mb (.map [(fi 0,.f (.bool ae))]):aj);have F:pr≠mb:=by rintro rfl;rw [hr]at m;cases m
 have f:K[pr]?=aa (.box [.f (sl g (aG r))] 0):=by rw [L,AT (Ne.symm F)];exact hr
 have U:aX K ab (.c (.ptr pr 0 0))=aa (.c (.f (sl g (aG r)))):=by simp [aX,f,aF,aI]
 rw [←L]at M ⊢;obtain⟨x,O⟩:=aT (r[0]);have y:=J.at_ 0 (by simpa using d);have I:(dB r)[0]'(by simpa using d)=x.d:=by rw [O];simp
 rw [I]at y;have Y:=y.ok.2.k;obtain⟨k,u⟩:∃ k:Nat,x.d.k=k:=⟨x.d.k.toNat,by omega⟩
 have l:=sx Y.1;have v:dD x.d.k=0:=by
  rcases ara (dD x.d.k)with e | e
  ·exact e
  ·have:=y.l1 e;omega
 rw [v,u,aqP]at l;have s:aL K 8 ab (.c (.f (sl g (aG r)))) (vi 0)=aa (.c (.f (.fp (aG r).flatten 0))):=dS (H:=K) (g:=g) (r:=r) (j:=0) d N;have B:aX K ab (.c (.f (.fp (aG r).flatten 0)))=aa (vi x.d.k):=by
  have:=jo (H:=K) (rows:=aG r) (j:=0) (sz:=8) (row:=r[0].row) (x:=fi r[0].d.k) (dO r) (jv d) rfl;rw [O];simpa using this
 have A:lh 19 4 (aa 4) (.a (je.map .f)) (vi x.d.k)=aa (.a ((gn k).map .f)):=by
  have N:je.length=76:=by decide
  simp only [lh,dy,u];rw [bh ⟨by omega,by omega⟩,aqP];simp [aI,←List.map_drop,←List.map_take,En (show k<19 by omega)];omega
 apply ai;have z:∀ a b c,lX 0 ab (.a [.f (fi 0),a,b,c])=aa (vi 0):=fun _ _ _=>rfl;simp [qR,U,-au,s,B,A,gn,←l,z];refine an (ai ?_);simp;refine a5 (by simp) ?_;apply ai;simp;refine a5 (by simp) ?_;exact iV (M _ _ (.t []) rfl rfl rfl)
def aN.dA(x:aN)(c:C):List C:=[cI x.d.k,cI x.d.dW,cI x.d.l,cI x.d.r,cI x.d.n,cI x.d.m,c,.f (.str uJ)]
theorem aeM{H:aj}{x:aN}(h:dD x.d.k=0)(p:1≤x.d.k∧x.d.k≤17)(X:x.d.li.length≤61)(pc:C) :
  ∃ q H',Ev tab.get (.fn 109) [.c (.f .aE),.a (x.row.map .f),.c pc] H q H'∧∃ v c J,q=.c (.sl v 0 1 0 0 8)∧H'=H++J∧H.length≤v∧(H++J)[v]?=aa (.bG 8 (x.dA c) 0 0 .loc)∧LR (H++J) c 1 (ints x.d.li)∧∀ i,bf c=aa i→H.length≤i:=by
 obtain⟨k,I⟩:∃ k:Nat,x.d.k=k:=⟨x.d.k.toNat,by omega⟩
 have s:=sx p.1;rw [h,I,aqP]at s;refine dk (C:=fun q H'=>∃ v c J,q=.c (.sl v 0 1 0 0 8)∧H'=H++J∧H.length≤v∧(H++J)[v]?=aa (.bG 8 (x.dA c) 0 0 .loc)∧LR (H++J) c 1 (ints x.d.li)∧∀ i,bf c=aa i→H.length≤i) ahW rfl fun Q n=>?_;apply ai;simp;obtain⟨l,j⟩:=aT (H++[.box (x.row.map .f) 0]:aj);have b1:l[H.length]?=aa (.box (x.row.map .f) 0):=by rw [j];simp
 have w:l.length=H.length+1:=by rw [j];simp
 rw [←j];obtain⟨r',K,N,c,J,rfl,rfl,M,F⟩:=wG (H:=l) x.tg x.d.li (by omega);have Z:aX l ab (.c (.ptr H.length 6 0))=aa (.c (.f (sl x.tg (ints x.d.li)))):=by simp [aX,b1,aF,aI,aN.row]
 have L:(l++J)[H.length]?=aa (.box (x.row.map .f) 0):=by rw [AI (aw b1)];exact b1
 have u:(l++J).set H.length (.box (x.dA c) 0)=H++(.box (x.dA c) 0::J):=by
  rw [j,aro,List.set_append_right _ _ (IT _),Nat.sub_self];rfl
 have U:df (l++J) (.ptr H.length 6 0) [c]=aa (H++(.box (x.dA c) 0::J)):=by
  rw [←u];simp [df,L,aN.row,aN.dA,over]
 apply ai;simp [Z,-au,-bu,N.eq,U];obtain⟨K,z⟩:=aT (H++(.box (x.dA c) 0::J):aj);have Y:K[H.length]?=aa (.box (x.dA c) 0):=by rw [z];simp
 have W:LR K c 1 (ints x.d.li):=by
  refine M.bY fun i y r o=>?_;have:=F i o;rw [z,←u,AT (by omega)];exact r
 have kl:K.length=l.length+J.length:=by rw [z];simp [w];omega
 rw [←z];have e:aX K ab (.c (.ptr H.length 0 0))=aa (vi x.d.k):=by simp [aX,Y,aF,aI,aN.dA]
 have S:lh 19 4 (aa 4) (.a (je.map .f)) (vi x.d.k)=aa (.a ((gn k).map .f)):=by
  have hl:je.length=76:=by decide
  simp only [lh,dy,I];rw [bh ⟨by omega,by omega⟩,aqP];simp [aI,←List.map_drop,←List.map_take,En (show k<19 by omega)];omega
 have O:∀ a b c,lX 0 ab (.a [.f (fi 0),a,b,c])=aa (vi 0):=fun _ _ _=>rfl;refine an (ai ?_);simp [qR,e,-au,S,gn,←s,O];refine aC (ai ?_);simp;refine ak (by simp) (ai ?_);simp;refine a5 (by simp) ?_;refine aA ?_;have f:aX K (aa 8) (.c (.ptr H.length 0 0))=aa (.a (x.dA c)):=by simp [aX,Y,aF,aI,aN.dA]
 apply ai;have E:(x.dA c).length=8:=rfl;obtain⟨m,d⟩:=aT (K++[.box (x.dA c) 0]:aj);have t:m[K.length]?=aa (.box (x.dA c) 0):=by rw [d];simp
 have A:=jQ (H:=m) (sz:=8) (c:=1) t E;have B:bX m 8 88 (.c (.f .aE)) (.c (.sl K.length 0 1 1 0 8))=aa (.c (.sl m.length 0 1 0 0 8),m++[.bG 8 (x.dA c) 0 0 .loc]):=by
  have hr:bN 1 88=ae:=by decide
  simp [bX,A,hr]
 simp [f,-au,E];rw [←d];simp [B];have g:m++[.bG 8 (x.dA c) 0 0 .loc]=H++((.box (x.dA c) 0::J)++[.box (x.dA c) 0]++[.bG 8 (x.dA c) 0 0 .loc]):=by rw [d,z];simp
 refine aH (n _ _ (.c (.sl m.length 0 1 0 0 8)) rfl (jz (by simp)) ⟨m.length,c,_,rfl,g,?_,?_,?_,fun i hi=>?_⟩)
 ·rw [d,z];simp
 ·rw [←g];simp
 ·rw [←g,d];exact(W.push _).push _
 ·have:=F i hi;omega
theorem ae8{H:aj}{x:aN}{c:C}{b:Nat}(d:H[b]?=aa (.bG 8 (x.dA c) 0 0 .loc))(j:LR H c 1 (ints x.d.li)):∃ F,da deep H (.sl b 0 1 0 0 8)=aa F:=by
 obtain⟨g,l⟩:=j.ex (eQ _) 62;refine⟨.fs [fi x.d.k,fi x.d.dW,fi x.d.l,fi x.d.r,fi x.d.n,fi x.d.m,sl g (ints x.d.li),.str uJ] 1,?_⟩;show da (63+1) H (.sl b 0 1 0 0 8)=_;rw [lf,d];have:(x.dA c).drop 0=x.dA c:=rfl;simp [aN.dA,bj,l]
theorem ack(g:Tg){r:List aN}(hG:Good (dB r))(hl:r.length≤64):∃ F,bF tab.get 69 [.c (.f (sl g (aG r))),vi 0]=Eq (.t [.c (.f F),vi 0]):=by
 obtain⟨rr,⟨F,rfl⟩,hp⟩:∃ rr,(∃ F,rr=.t [.c (.f F),vi 0])∧bF tab.get 69 [.c (.f (sl g (aG r))),vi 0] rr:=by
  have A:0<r.length:=by have:=hG.pos;simpa using this
  have e_:=vK g hG hl;obtain⟨n,hn⟩:=aT (r.length);refine cA rfl rfl fun Q hQ=>?_;apply ai;simp;refine an (aC (ai ?_));simp [aI,e_];refine ak (by simp) (ai ?_);simp [aI,←hn,show¬ n=0 by omega];refine ak (by simp) (aM (aA ?_));have L:bN n 8=ae:=cO (by omega) (by decide);have a9:∀(t:T) (H:aj),(R 26).ev t=vi n→bs t H (.cE 1 8 [fi 0] (R 26) (R 26))=aa (.c (.sl H.length 0 n n 0 1),H++[.box ((List.replicate n (fi 0)).map .f) 0]):=by
   intro t H h;have e:(bV n [fi 0]).map C.f=(List.replicate n (fi 0)).map .f:=by simp [bV]
   simp only [bs,h,dy];rw [bh ⟨by omega,arK _,by simpa using L,rfl⟩,aY (by omega),aqP,e]
  apply ai;simp [aI,←hn,a9];apply ai;simp;apply ai;simp;apply ai;have a_:∀(t:T) (H:aj),bs t H .jt=aa (.c (.mp H.length),H++[.map []]):=fun _ _=>rfl;simp [a_];apply ai;simp;obtain⟨Hw,d⟩:=aT ([.box [.f (sl g (aG r))] 0,.box (List.replicate n (.f (fi 0))) 0,.box [.cl 108 [.ptr 4 0 0,.ptr 0 0 0,.ptr 2 0 0]] 0,.map [],.box [.mp 3] 0]:aj);rw [←d];obtain⟨q,H',he,rfl⟩:=ac6 (H:=Hw) (g:=g) hG hl (pm:=4) (pr:=0) (pw:=2) (mb:=3) (by rw [d];rfl) (by rw [d];rfl) (by rw [d];rfl);have e8:aX Hw ab (.c (.ptr 2 0 0))=aa (.c (.cl 108 [.ptr 4 0 0,.ptr 0 0 0,.ptr 2 0 0])):=by rw [d];rfl
  apply ai;simp [e8,-au,bQ,he.eq];obtain⟨H0,m⟩:=aT (Hw.set 3 (.map [(fi 0,.f (.bool ae))]):aj);rw [←m];have z0:H0[0]?=aa (.box [.f (sl g (aG r))] 0):=by rw [m,d];rfl
  have z1:H0[1]?=aa (.box ((List.replicate n (fi 0)).map .f) 0):=by rw [m,d];simp
  have z3:H0[3]?=aa (.map [(fi 0,.f (.bool ae))]):=by rw [m,d];rfl
  have z4:H0[4]?=aa (.box [.mp 3] 0):=by rw [m,d];rfl
  clear m d he e8 a_ a9;have e2:aX H0 ab (.c (.ptr 0 0 0))=aa (.c (.f (sl g (aG r)))):=by simp [aX,z0,aF,aI]
  refine an (ai ?_);simp [e2,-au,←hn];obtain⟨E,b9⟩:=aT (r[0]);have hA:=hG.at_ 0 (by simpa using A);have f9:(dB r)[0]'(by simpa using A)=E.d:=by rw [b9];simp
  rw [f9]at hA;have hk:=hA.ok.2.k;have b7:dD E.d.k=0:=by
   rcases ara (dD E.d.k)with e | e
   ·exact e
   ·have:=hA.l1 e;omega
  refine fU n (fun i t H=>t.g 33=.c (.f (sl g (aG r)))∧t.g 6=.c (.sl 1 0 n n 0 1)∧t.g 9=.c (.ptr 4 0 0)∧H[4]?=aa (.box [.mp 3] 0)∧H[3]?=aa (.map [(fi 0,.f (.bool ae))])∧(∃ cs:List FC,cs.length=n∧H[1]?=aa (.box (cs.map .f) 0)) ∧
    (i=0→t.g 7=.c (.f .aE))∧(0<i→∃ v c,t.g 7=.c (.sl v 0 1 0 0 8)∧2≤v∧H[v]?=aa (.bG 8 (E.dA c) 0 0 .loc)∧LR H c 1 (ints E.d.li)∧∀ b,bf c=aa b→2≤b))
   (by omega) (by decide) (by decide) (by simp) (by simp) ⟨by simp,by simp,by simp,z4,z3,⟨_,by simp,z1⟩,fun _=>by simp,fun h=>absurd h (by omega)⟩ ?_ ?_
  ·rintro i t H hi ⟨z,O,g9,U,h3,⟨cs,Z,h1⟩,hz,hp⟩ ha hb next
   have a8:i<r.length:=by omega
   refine aC (ai ?_);simp [ha,z,dS a8 hl,iu a8,aN.row];obtain⟨J,N⟩:=aT (H++[.box (r[i].row.map .f) 0]:aj);have jx:J[H.length]?=aa (.box (r[i].row.map .f) 0):=by rw [N];simp
   have B:∀ {b:Nat} {y:cS},H[b]?=aa y→J[b]?=aa y:=fun {b y} h=>by rw [N,AI (aw h)];exact h
   have jl:J.length=H.length+1:=by rw [N];simp
   have f_:∀ {c:C} {rows:List (List FC)},LR H c 1 rows→LR J c 1 rows:=fun h=>by rw [N];exact h.push _
   simp only [aN.row,ao1,aqD]at N;rw [←N];have e9:aX J ab (.c (.ptr 4 0 0))=aa (.c (.mp 3)):=by simp [aX,B U,aF,aI]
   have d8:∀ t:T,(R 40).ev t=.c (.mp 3)→(R 41).ev t=vi i→bs t J (.lookup .int (.bool ag) (R 40) (R 41))=aa (vb (decide (i=0)),J):=by
    intro t c9 c_;have e:fW J .int (.bool ag) (.c (.mp 3)) (vi i)=aa (vb (decide (i=0))):=by
     simp only [fW,B h3];have:mn .int (fi (i:Int)) [(fi 0,.f (.bool ae))]=aa (if i=0 then aa (.f (.bool ae))else ab):=by
      simp only [mn,eqK];by_cases j:i=0
      ·subst j;rfl
      ·have:(((i:Int)) == 0)=ag:=by simp;exact j
       simp [j,this]
     rw [this];by_cases j:i=0
     ·subst j;rfl
     ·simp [j];exact⟨rfl,rfl⟩
    simp only [bs,c9,c_,e];rfl
   apply ai;simp [g9,e9,-au,d8];by_cases j:i=0
   ·subst j;have S:=hz rfl;have d9:r[0].row=E.row:=by rw [b9]
    have b_:aX J (aa 8) (.c (.ptr H.length 0 0))=aa (.a (E.row.map .f)):=by
     rw [d9]at jx;simp [aX,jx,aF,aI,aN.row]
    have w0:ah .i64 0=0:=by decide
    obtain⟨q,H',hq,v,c,M,rfl,rfl,h_,l,s,Y⟩:=aeM (H:=J) (x:=E) b7 hk (by have:=hA.ok.1;omega) (.sl 1 0 n n 0 1);refine al (by simp) (ai ?_);simp [S,O,b_,-au,hq.eq];have u:∀ {b:Nat} {y:cS},H[b]?=aa y→(J++M)[b]?=aa y:=fun {b y} h=>by rw [AI (aw (B h))];exact B h
    obtain⟨K,hK⟩:=aT (J++M:aj);rw [←hK]at l s u ⊢;have I:bE K (.sl v 0 1 0 0 8)=aa 1:=by simp [bE,l]
    have d6:aL K 1 ab (.c (.sl 1 0 n n 0 1)) (vi 0)=aa (.c (.ptr 1 0 0)):=by
     simp [aL,dy,u h1];omega
    have d_:df K (.ptr 1 0 0) [.f (fi 0)]=aa (K.set 1 (.box ((cs.set 0 (fi 0)).map .f) 0)):=by
     simp only [df,u h1];rw [bh (by simp;omega),List.map_set,uf (by simp;omega)]
    have g_:=aw U;refine aq (.inl rfl) ?_;simp [O,I,d6,d_,w0,-bu];refine aA ?_;refine next _ _ ⟨by simp [z],by simp [O],by simp [g9],?_,?_,⟨cs.set 0 (fi 0),by simp [Z],?_⟩,fun h=>absurd h (by omega),fun _=>⟨v,c,by simp,by omega,?_,?_,fun b hb=>?_⟩⟩ (by simp [ha]) (by simp [hb])
    ·rw [AT (by decide)];exact u U
    ·rw [AT (by decide)];exact u h3
    ·rw [List.map_set];exact IS (aw (u h1))
    ·rw [AT (by omega)];exact l
    ·exact s.set (fun e=>by have:=Y 1 e;omega) _
    ·have:=Y b hb;omega
   ·obtain⟨v,c,S,W,l,s,X⟩:=hp (by omega);refine ak (by simp [j]) (aM (aA ?_));refine next _ _ ⟨by simp [z],by simp [O],by simp [g9],B U,B h3,⟨cs,Z,B h1⟩,fun h=>absurd h (by omega),fun _=>⟨v,c,by simp [S],W,B l,f_ s,X⟩⟩ (by simp [ha]) (by simp [hb])
  ·rintro t H ⟨z,O,g9,U,h3,-,-,hp⟩ - -;obtain⟨v,c,S,W,l,s,X⟩:=hp (by omega);obtain⟨F,hF⟩:=ae8 l s;apply ai;simp [S];refine aH (hQ _ _ _ ⟨F,rfl⟩ ⟨rfl,.t [.c (.sl v 0 1 0 0 8),vi 0],?_,?_⟩)
   ·simp [Km.results,bJ,bj]
   ·simp [iI,cg,bj,hF]
 exact⟨F,hp.eq⟩
theorem uK(n lo hi:Int):bF tab.get 26 [vi n,vi lo,vi hi]=Eq (vb (decide (lo≤n∧n≤hi))):=bF.eq (by
 refine bK rfl rfl fun Q b=>?_;apply ai;simp;apply ai;by_cases h:lo≤n
 ·simp [h];exact aH (b _ _ (by simp [h]))
 ·simp [h];exact aH (b _ _ (by simp [h])))
theorem eY(n lo hi:Int):∃ b,decide (lo≤n∧n≤hi)=b∧bF tab.get 26 [vi n,vi lo,vi hi]=Eq (vb b):=⟨_,rfl,uK n lo hi⟩
def rC(m:aZ):Bool:=decide (0≤m.day∧m.day≤1099511627776) &&
 (if m.drop=ae then decide (m.to=0)&&decide (m.mi=0)&&decide (m.le=0)else decide (0≤m.to∧m.to≤1099511627776)&&decide (0≤m.mi∧m.mi≤1439)&&decide (1≤m.le∧m.le≤10080))
theorem Bx{m:aZ}(h:m.OK):rC m=ae:=by
 obtain⟨d,g,j⟩:=h;unfold rC;rw [decide_eq_true d];cases b:m.drop
 ·have:=j b;simp;omega
 ·have:=g b;simp;omega
theorem xg(m:aZ):bF tab.get 30 [.a (m.row.map .f)]=Eq (vb (rC m)):=bF.eq (by
 obtain⟨day,b,l,j,g⟩:=m;refine bK rfl rfl fun Q d=>?_;apply ai;simp [aZ.row];refine an (ai ?_);simp;obtain⟨b1,v,B⟩:=eY day 0 1099511627776;obtain⟨q,x,E⟩:=eY l 0 1099511627776;obtain⟨s,y,F⟩:=eY j 0 1439;obtain⟨u,z,H⟩:=eY g 1 10080;have A:∀ b,rC ⟨day,b,l,j,g⟩=(b1&&(if b=ae then decide (l=0)&&decide (j=0)&&decide (g=0)else q&&s&&u)):=fun b=>by
  unfold rC;rw [←v,←x,←y,←z]
 rw [A]at d;clear A v x y z;cases b
 ·refine a5 (by simp) ?_;apply ai;simp [B];cases b1
  ·simp;exact aH (d _ _ (by simp))
  simp [E];cases q
  ·simp;exact aH (d _ _ (by simp))
  simp [F];cases s
  ·simp;exact aH (d _ _ (by simp))
  simp [H];exact aH (d _ _ (by simp))
 ·refine al (by simp) ?_;apply ai;simp [B];cases b1
  ·simp;exact aH (d _ _ (by simp))
  simp [wI];refine aH (d _ _ ?_);have e:(l == 0&&(j == 0&&g == 0))=(ae&&(if True then decide (l=0)&&decide (j=0)&&decide (g=0)else q&&s&&u)):=by
   simp [Bool.and_assoc];rfl
  simp [e])
def fG(p:Option Int):List aZ→Bool
 | []=>ae| m::r=>rC m&&(match p with | none=>ae | some d=>decide (d<m.day))&&fG (aa m.day) r
theorem xh:∀ {l:List aZ} {p:Option Int},nq l→(∀ m ∈ l,m.OK)→(∀ d,p=aa d→∀ m ∈ l,d<m.day)→fG p l=ae
 | [],_,_,_,_=>rfl
 | m::r,p,u,j,s=>by
  have b:=arV.1 u;simp only [fG];rw [Bx (j m aqK),xh b.2 (fun x g=>j x (aqQ _ g)) (fun d q x g=>by cases q;exact b.1 x g)];cases p with
  | none=>rfl| some d=>simp;exact s d rfl m aqK
theorem BC{p:Option Int}{l:List aZ}{j:Nat}(b:j<l.length):fG p (l.drop j)=(rC l[j]&&(match p with | none=>ae | some d=>decide (d<l[j].day))&&fG (aa l[j].day) (l.drop (j+1))):=by
 rw [aqU b];rfl
def Vq(s:bl):Bool:=decide (0≤s.mi∧s.mi≤1439)&&decide (1≤s.le∧s.le≤10080)&&decide (0≤s.cJ∧s.cJ≤2)&&decide (0≤s.fold∧s.fold≤2)&&decide (1≤(s.zo.size:Int)∧(s.zo.size:Int)≤32)&&!decide ((64:Int)<s.mv.length)
def uG(s:bl):Bool:=Vq s&&fG ab s.mv
theorem bl.OK.sound{s:bl}(h:s.OK):uG s=ae:=by
 have g:=h.mi;have j:=h.le;have l:=h.zo;have m:=h.cJ;have q:=h.fold;have u:=h.ml;unfold uG Vq;rw [xh h.ms h.mo (fun d b=>by cases b)];simp;omega
theorem Cg{s:bl}(hG:Good (dB s.ru))(hl:s.ru.length≤64)(S:s.mv.length≤9223372036854775807)(d8:s.zo.size≤9223372036854775807):bF tab.get 24 [s.v]=Eq (vb (uG s)):=bF.eq (by
 obtain⟨F,u⟩:=ack s.rg hG hl;obtain⟨rg,ru,mi,le,zo,cJ,fold,K,d⟩:=s;simp only at u S d8;refine bK rfl rfl fun Q W=>?_;obtain⟨b1,h1,w1⟩:=eY mi 0 1439;obtain⟨Z,h2,w2⟩:=eY le 1 10080;obtain⟨b3,h3,w3⟩:=eY cJ 0 2;obtain⟨b4,h4,w4⟩:=eY fold 0 2;obtain⟨b5,h5,w5⟩:=eY zo.size 1 32;obtain⟨b6,h6⟩:∃ b,decide ((64:Int)<d.length)=b:=⟨_,rfl⟩
 obtain⟨row,B⟩:=aT (bl.row ⟨rg,ru,mi,le,zo,cJ,fold,K,d⟩);have N:uG ⟨rg,ru,mi,le,zo,cJ,fold,K,d⟩=(b1&&Z&&b3&&b4&&b5&&!b6&&fG ab d):=by
  unfold uG Vq;rw [←h1,←h2,←h3,←h4,←h5,←h6]
 rw [N]at W;clear N h1 h2 h3 h4 h5;apply ai;simp [bl.row];refine an (ai ?_);simp [u];apply ai;simp;refine a5 (by simp) ?_;have L:∀(t:T) H,t.g 49=vb ae→(b1&&Z&&b3&&b4&&b5&&!b6&&fG ab d)=ag→WP tab.get 24 ab [.code vN,.code vO] ⟨t,[],H⟩ Q:=by
  intro t H a8 y;refine al a8 (ai ?_);simp;exact aH (W _ _ (by simp [y]))
 refine an (ai ?_);simp [w1];cases b1
 ·simp;exact L _ _ (by simp) (by simp)
 simp [w2];cases Z
 ·simp;exact L _ _ (by simp) (by simp)
 simp [w3];cases b3
 ·simp;exact L _ _ (by simp) (by simp)
 simp [w4];cases b4
 ·simp;exact L _ _ (by simp) (by simp)
 simp [w5];cases b5
 ·simp;exact L _ _ (by simp) (by simp)
 simp [h6];cases b6
 case true=>exact L _ _ (by simp) (by simp)
 clear L;refine a5 (by simp) ?_;obtain⟨H0,q⟩:=aT ([.box (row.map .f) 0]:aj);have hz:H0[0]?=aa (.box (row.map .f) 0):=by rw [q];rfl
 have e6:∀ H:aj,H[0]?=aa (.box (row.map .f) 0)→aX H ab (.c (.ptr 0 6 0))=aa (.c (.f (sl K (aQ d)))):=fun H h=>by
  simp [aX,h,aF,aI,B,bl.row]
 rw [B]at q;simp only [bl.row,ao1,aqD]at q;rw [←q];clear q;refine an (ai ?_);simp [e6 _ hz,-au];refine fU d.length (fun j t H=>t.g 1=.c (.ptr 0 0 0)∧t.g 51=.c (.f (sl K (aQ d)))∧H[0]?=aa (.box (row.map .f) 0)∧fG ab d=fG (if h:0<j∧j-1<d.length then aa (d[j-1]'h.2).day else ab) (d.drop j)) S (by decide) (by decide) (by simp) (by simp) ⟨by simp,by simp,hz,by simp⟩ ?_ ?_
 ·rintro j t H Y ⟨M,l,h0,v⟩ X y next
  obtain⟨m,N⟩:=aT (d[j]);rw [BC Y,←N]at v;have d6:=xg m;have A:∀(H:aj) (i:Nat),i<d.length→aL H 5 ab (.c (.f (sl K (aQ d)))) (vi i)=aa (.c (.f (.fp (aQ d).flatten (i*5)))):=fun H i hi=>by
   have:=dg (H:=H) (g:=K) (rows:=aQ d) (sz:=5) (k:=.i64) (i:=(i:Int)) (by omega) (by simp;omega);simpa using this
  have c_:aX H (aa 5) (.c (.f (.fp (aQ d).flatten (j*5))))=aa (.a (m.row.map .f)):=by rw [N];exact fV (bR d) (ju Y)
  refine aC (ai ?_);simp [X,l,A _ _ Y,c_,aZ.row];obtain⟨J,U⟩:=aT (H++[.box (m.row.map .f) 0]:aj);have jx:J[H.length]?=aa (.box (m.row.map .f) 0):=by rw [U];simp
  have j0:J[0]?=aa (.box (row.map .f) 0):=by rw [U,AI (aw h0)];exact h0
  simp only [aZ.row,ao1,aqD]at U;rw [←U];have e5:aX J (aa 5) (.c (.ptr H.length 0 0))=aa (.a (m.row.map .f)):=by simp [aX,jx,aF,aI,aZ.row]
  have e0:aX J ab (.c (.ptr H.length 0 0))=aa (vi m.day):=by simp [aX,jx,aF,aI,aZ.row]
  have bad:∀ t:T,t.g 76=vb ae→fG ab d=ag→WP tab.get 24 ab [.code pW,.inBlock 1,.code pX,.inLoop pV,.inBlock 0,.code pY] ⟨t,[],J⟩ Q:=by
   intro t E y;refine al E (ai ?_);simp;exact aH (W _ _ (by simp [y]))
  have z:∀ t:T,t.g 76=vb ag→t.g 1=.c (.ptr 0 0 0)→t.g 51=.c (.f (sl K (aQ d)))→t.g 53=vi j→t.g 52=vi d.length→fG ab d=fG (aa m.day) (d.drop (j+1))→WP tab.get 24 ab [.code pW,.inBlock 1,.code pX,.inLoop pV,.inBlock 0,.code pY] ⟨t,[],J⟩ Q:=by
   intro t E M l a_ a9 y;refine ak E (aM (aA ?_));refine next _ _ ⟨by simp [M],by simp [l],j0,?_⟩ (by simp [a_]) (by simp [a9])
   rw [y,dif_pos ⟨by omega,by simpa using Y⟩];simp [N]
  apply ai;simp [e5,-au,d6];cases O:rC m
  ·rw [O]at v;simp;exact bad _ (by simp) (by rw [v];simp)
  rw [O]at v;simp;by_cases b_:j=0
  ·subst b_;simp;exact z _ (by simp) (by simp [M]) (by simp [l]) (by simp [X]) (by simp [y]) (by rw [v];simp)
  ·have hw:ah .i64 ((j:Int)-1)=((j-1:Nat):Int):=by rw [aO];omega
   have I:j-1<d.length:=by omega
   have b9:=A J (j-1) I;have c9:aX J ab (.c (.f (.fp (aQ d).flatten ((j-1)*5))))=aa (vi d[j-1].day):=by
    have:=jo (H:=J) (rows:=aQ d) (j:=j-1) (sz:=5) (row:=d[j-1].row) (x:=fi d[j-1].day) (bR d) (ju I) rfl;exact this
   rw [dif_pos ⟨by omega,I⟩]at v;simp [show 0<j by omega,e0,M,e6 _ j0,hw,b9,c9,-au];by_cases hd:d[j-1].day<m.day
   ·exact z _ (by simp;omega) (by simp [M]) (by simp [l]) (by simp [X]) (by simp [y]) (by rw [v];simp [hd])
   ·exact bad _ (by simp;omega) (by rw [v];simp [hd])
 ·rintro t H ⟨M,l,h0,v⟩ X y;have b7:fG ab d=ae:=by rw [v];simp [fG]
  apply ai;simp;exact aH (W _ _ (by simp [b7])))
theorem dN(n lo hi:Int):bF tab.get 156 [vi n,vi lo,vi hi]=Eq (vb (decide (lo≤n∧n≤hi))):=bF.eq (by
 refine bK rfl rfl fun Q b=>?_;apply ai;simp;apply ai;by_cases h:lo≤n
 ·simp [h];exact aH (b _ _ (by simp [h]))
 ·simp [h];exact aH (b _ _ (by simp [h])))
theorem yY:∀ k:Nat,k<19→bF tab.get 136 [vi k]=Eq (vi (uC k))
 | 0,_=>ed (by kernel_rfl)
 | 1,_=>ed (by kernel_rfl)
 | 2,_=>ed (by kernel_rfl)
 | 3,_=>ed (by kernel_rfl)
 | 4,_=>ed (by kernel_rfl)
 | 5,_=>ed (by kernel_rfl)
 | 6,_=>ed (by kernel_rfl)
 | 7,_=>ed (by kernel_rfl)
 | 8,_=>ed (by kernel_rfl)
 | 9,_=>ed (by kernel_rfl)
 | 10,_=>ed (by kernel_rfl)
 | 11,_=>ed (by kernel_rfl)
 | 12,_=>ed (by kernel_rfl)
 | 13,_=>ed (by kernel_rfl)
 | 14,_=>ed (by kernel_rfl)
 | 15,_=>ed (by kernel_rfl)
 | 16,_=>ed (by kernel_rfl)
 | 17,_=>ed (by kernel_rfl)
 | 18,_=>ed (by kernel_rfl)
 | k+19,h=>absurd h (by omega)
theorem mD:∀ k:Nat,k<19→bF tab.get 135 [vi k]=Eq (vb (lv k))
 | 0,_=>ed (by kernel_rfl)
 | 1,_=>ed (by kernel_rfl)
 | 2,_=>ed (by kernel_rfl)
 | 3,_=>ed (by kernel_rfl)
 | 4,_=>ed (by kernel_rfl)
 | 5,_=>ed (by kernel_rfl)
 | 6,_=>ed (by kernel_rfl)
 | 7,_=>ed (by kernel_rfl)
 | 8,_=>ed (by kernel_rfl)
 | 9,_=>ed (by kernel_rfl)
 | 10,_=>ed (by kernel_rfl)
 | 11,_=>ed (by kernel_rfl)
 | 12,_=>ed (by kernel_rfl)
 | 13,_=>ed (by kernel_rfl)
 | 14,_=>ed (by kernel_rfl)
 | 15,_=>ed (by kernel_rfl)
 | 16,_=>ed (by kernel_rfl)
 | 17,_=>ed (by kernel_rfl)
 | 18,_=>ed (by kernel_rfl)
 | k+19,h=>absurd h (by omega)
theorem mu{x:bA}(h:x.OK):bF tab.get 136 [vi x.k]=Eq (vi (dD x.k)):=by
 have d:=h.2.k;obtain⟨k,b⟩:∃ k:Nat,x.k=k:=⟨x.k.toNat,by omega⟩
 have e:=sx d.1;rw [e,b,aqP];exact yY k (by omega)
theorem EA{x:bA}(h:x.OK):bF tab.get 135 [vi x.k]=Eq (vb (lv x.k.toNat)):=by
 have d:=h.2.k;obtain⟨k,b⟩:∃ k:Nat,x.k=k:=⟨x.k.toNat,by omega⟩
 rw [b,aqP];exact mD k (by omega)
theorem BE(x:aN)(h:wh x.d.k x.d.l x.d.n x.d.m):bF tab.get 158 [.a (x.row.map .f)]=Eq (vb ae):=bF.eq (by
 obtain⟨⟨k,A,l,r,n,m,li⟩,J⟩:=x;simp only [wh]at h;refine bK rfl rfl fun Q E=>?_;have b:∀ t H,t.g 2=vb ae→WP tab.get 158 ab [.code .ret,.inBlock 0,.code sM] ⟨t,[],H⟩ Q:=fun t H I=>aH (E _ _ (by simp [I]));apply ai;simp [aN.row];refine an (ai ?_);simp;refine aC (ai ?_);simp;by_cases v:k=1
 ·rw [bh v]at h;refine al (by simp [v]) (ai ?_);simp [dN,h];exact b _ _ (by simp)
 rw [aY v]at h;refine ak (by simp [v]) (ai ?_);simp;by_cases y:k=2
 ·rw [bh y]at h;refine al (by simp [y]) (ai ?_);simp [dN,h,aO (n:=n-1)];exact b _ _ (by simp)
 rw [aY y]at h;refine ak (by simp [y]) (ai ?_);simp;by_cases z:k=7
 ·rw [bh z]at h;refine al (by simp [z]) (ai ?_);simp [dN,h];exact b _ _ (by simp)
 rw [aY z]at h;refine ak (by simp [z]) (ai ?_);simp;by_cases d:k=11
 ·rw [bh d]at h;refine al (by simp [d]) (ai ?_);simp [dN,h];exact b _ _ (by simp)
 rw [aY d]at h;refine ak (by simp [d]) (an (ai ?_));simp;have u:k=12∨k=13→∀ t,t.g 1=.c (.ptr 0 0 0)→t.g 58=vb ae→WP tab.get 158 ab [.code zZ,.inBlock 0,.code sM] ⟨t,[],[.box ((aN.row ⟨⟨k,A,l,r,n,m,li⟩,J⟩).map .f) 0]⟩ Q:=by
  intro c t F B;rw [bh c]at h;refine al B (ai ?_);simp [F,aN.row,dN,h];exact b _ _ (by simp)
 by_cases g:k=12
 ·refine al (by simp [g]) (aM ?_);exact u (.inl g) _ (by simp) (by simp [g])
 refine ak (by simp [g]) (aq (.inl rfl) ?_);simp;by_cases s:k=13
 ·exact u (.inr s) _ (by simp) (by simp [s])
 rw [aY (by omega)]at h;refine ak (by simp [s]) (ai ?_);simp;by_cases j:k=16
 ·rw [bh j]at h;refine al (by simp [j]) (ai ?_);simp [dN,h];exact b _ _ (by simp)
 rw [aY j]at h;refine ak (by simp [j]) (ai ?_);simp;by_cases q:k=17
 ·rw [bh q]at h;refine al (by simp [q]) (ai ?_);simp [dN,h];exact b _ _ (by simp)
 rw [aY q]at h;refine a5 (by simp [q]) ?_;refine aA (ai ?_);simp [h];exact aH (E _ _ (by simp)))
theorem Em(g:Tg)(l:List Int)(lo hi:Int)(b:Bool)(a:l.length≤9223372036854775807)(N:l≠[])(O:l.Pairwise (· < ·))(Y:∀ x ∈ l,lo≤x∧x≤hi∧(b=ag→x≠0)) :
  bF tab.get 170 [.c (.f (sl g (ints l))),vi lo,vi hi,vb b]=Eq (vb ae):=bF.eq (by
 refine bK rfl rfl fun Q X=>?_;apply ai;simp;refine an (ai ?_);simp;refine cw l.length (fun j t H=>t.g 0=.c (.f (sl g (ints l)))∧t.g 1=vi lo∧t.g 2=vi hi∧t.g 3=vb b) a (by decide) (by simp) ⟨by simp,by simp,by simp,by simp⟩ ?_ ?_ ?_
 ·rintro j t H L E ⟨m,u,v,q⟩ s e;simp [s,m];exact e _ ⟨by simp [m],by simp [u],by simp [v],by simp [q]⟩ (by simp [s]) (by simp)
 ·rintro j t H E ⟨m,u,v,q⟩ s h;obtain⟨b1,U,I⟩:=Y _ (OF E);obtain⟨x,S⟩:=aT (l[j]);rw [←S]at b1 U I;have B:∀ i:Nat,i<l.length→aL H 1 ab (.c (.f (sl g (ints l)))) (vi i)=aa (.c (.f (.fp (ints l).flatten i))):=fun i hi=>by
   have:=dg (H:=H) (g:=g) (rows:=ints l) (sz:=1) (k:=.i64) (i:=(i:Int)) (by omega) (by simp;omega);simpa using this
  have z:=B j E;have A:aX H ab (.c (.f (.fp (ints l).flatten j)))=aa (vi x):=by rw [S];exact iW E
  have y:∀ t:T,t.g 0=.c (.f (sl g (ints l)))→t.g 1=vi lo→t.g 2=vi hi→t.g 3=vb b→t.g 9=vi j→t.g 56=vb ag→WP tab.get 170 ab [.code Ad,.inBlock 1,.code Ae,.inLoop EM,.inBlock 0,.code Af] ⟨t,[],H⟩ Q:=by
   intro t m u v q W J;refine ak J (aM (aA ?_));exact h _ _ ⟨by simp [m],by simp [u],by simp [v],by simp [q]⟩ (by simp [W])
  refine aC (ai ?_);simp [m,s,z,A,u,show¬ x<lo by omega,v,show¬ hi<x by omega];by_cases Z:j=0
  ·simp [show¬ 0<j by omega,m,s,z,A];by_cases d:x=0
   ·cases b
    ·exact absurd d (I rfl)
    ·simp [d,q];exact y _ (by simp [m]) (by simp [u]) (by simp [v]) (by simp [q]) (by simp [s]) (by simp)
   ·simp [d];exact y _ (by simp [m]) (by simp [u]) (by simp [v]) (by simp [q]) (by simp [s]) (by simp)
  ·have f:ah .i64 ((j:Int)-1)=((j-1:Nat):Int):=by rw [aO];omega
   have c:l[j-1]<x:=by rw [S];exact aqM.1 O (j-1) j (by omega) E (by omega)
   have F:j-1<l.length:=by omega
   have K:=B (j-1) F;have M:aX H ab (.c (.f (.fp (ints l).flatten (j-1))))=aa (vi l[j-1]):=iW F;simp [show 0<j by omega,m,s,z,A,f,K,M,show¬ x≤l[j-1] by omega];by_cases d:x=0
   ·cases b
    ·exact absurd d (I rfl)
    ·simp [d,q];exact y _ (by simp [m]) (by simp [u]) (by simp [v]) (by simp [q]) (by simp [s]) (by simp)
   ·simp [d];exact y _ (by simp [m]) (by simp [u]) (by simp [v]) (by simp [q]) (by simp [s]) (by simp)
 ·rintro t H ⟨m,u,v,q⟩ s;have:=arn.2 N;apply ai;simp [m,this];exact aH (X _ _ (by simp)))
theorem VK{l:List Int}{lo hi:Int}(h:lN lo hi l)(b:¬ (lo=0∧hi=0)):l≠[]∧l.Pairwise (· < ·)∧∀ x ∈ l,lo≤x∧x≤hi∧(lo<0→x≠0):=by
 unfold lN at h;rwa [aY b]at h
theorem Kk(x:aN)(k:Nat)(N:x.d.k=k)(Z:1≤k∧k≤17)(X:x.d.li.length≤61)(h:lN (Cc k) (Cb k) x.d.li):bF tab.get 157 [.a (x.row.map .f)]=Eq (vb ae):=bF.eq (by
 obtain⟨⟨k',E,l,r,n,m,li⟩,L⟩:=x;simp only at N h X;subst N;refine bK rfl rfl fun Q M=>?_;have d:∀ t H,t.g 2=vb ae→WP tab.get 157 ab [.code .ret,.inBlock 0,.code sL] ⟨t,[],H⟩ Q:=fun t H W=>aH (M _ _ (by simp [W]));have go:∀ lo hi z,Cc k=lo→Cb k=hi→¬ (lo=0∧hi=0)→(z=ag→lo<0)→bF tab.get 170 [.c (.f (sl L (ints li))),vi lo,vi hi,vb z]=Eq (vb ae):=by
  intro lo hi z F I O S;rw [F,I]at h;obtain⟨a,b,c⟩:=VK h O;exact Em L li lo hi z (by omega) a b fun x K=>⟨(c x K).1,(c x K).2.1,fun Y=>(c x K).2.2 (S Y)⟩
 apply ai;simp [aN.row];refine an (ai ?_);simp;refine aC (ai ?_);simp;by_cases s:k=3
 ·have:=go 1 16 ae (by rw [s];rfl) (by rw [s];rfl) (by decide) (by decide);refine al (by simp [s]) (ai ?_);simp [this];exact d _ _ (by simp)
 refine ak (by simp;omega) (ai ?_);simp;by_cases u:k=4
 ·have:=go (-40) 40 ag (by rw [u];rfl) (by rw [u];rfl) (by decide) (by decide);refine al (by simp [u]) (ai ?_);simp [this];exact d _ _ (by simp)
 refine ak (by simp;omega) (ai ?_);simp;by_cases B:k=5
 ·have:=go 0 6 ae (by rw [B];rfl) (by rw [B];rfl) (by decide) (by decide);refine al (by simp [B]) (ai ?_);simp [this];exact d _ _ (by simp)
 refine ak (by simp;omega) (ai ?_);simp;by_cases v:k=6
 ·have:=go 1 54 ae (by rw [v];rfl) (by rw [v];rfl) (by decide) (by decide);refine al (by simp [v]) (ai ?_);simp [this];exact d _ _ (by simp)
 refine ak (by simp;omega) (an (ai ?_));simp;have A:k=14∨k=15→∀ t,t.g 1=.c (.ptr 0 0 0)→t.g 25=vb ae→WP tab.get 157 ab [.code zP,.inBlock 0,.code sL] ⟨t,[],[.box ((aN.row ⟨⟨k,E,l,r,n,m,li⟩,L⟩).map .f) 0]⟩ Q:=by
  intro c t U J;have:=go 0 1099511627776 ae (by rcases c with rfl | rfl<;>rfl) (by rcases c with rfl | rfl<;>rfl) (by decide) (by decide);refine al J (ai ?_);simp [U,aN.row,this];exact d _ _ (by simp)
 by_cases j:k=14
 ·refine al (by simp [j]) (aM ?_);exact A (.inl j) _ (by simp) (by simp [j])
 refine ak (by simp;omega) (aq (.inl rfl) ?_);simp;by_cases q:k=15
 ·exact A (.inr q) _ (by simp) (by simp [q])
 refine ak (by simp;omega) (ai ?_);simp;by_cases g:k=16
 ·have:=go (-400) 400 ag (by rw [g];rfl) (by rw [g];rfl) (by decide) (by decide);refine al (by simp [g]) (ai ?_);simp [this];exact d _ _ (by simp)
 refine ak (by simp;omega) (aM ?_);have y:li=[]:=by
  have F:Cc k=0:=by simp [Cc,s,u,v,g]
  have I:Cb k=0:=by simp [Cb,s,u,B,v,j,q,g]
  rw [F,I]at h;simpa [lN]using h
 refine aA (ai ?_);simp [y];exact aH (M _ _ (by simp)))
theorem V0(x:aN)(i:Nat)(hi:i≤1000)(h:kz i x.d):bF tab.get 140 [.a (x.row.map .f),vi i]=Eq (vb ae):=bF.eq (by
 have a8:=h.ok;obtain⟨z,K⟩:=h.ok;have hk:=K.k;have E:=mu h.ok;have d:=EA h.ok;have A:=Kk x x.d.k.toNat (by omega) (by omega) z K.XE;have B:=BE x K.num;have u:=K.dW;have F:bM .neq (.c (.f (.str uJ))) (.c (.f (.str ⟨#[]⟩)))=aa (vb ag):=by simp [bM,JF,uJ];rfl
 obtain⟨row,k⟩:=aT (x.row);refine bK rfl rfl fun Q hQ=>?_;apply ai;simp;have e:∀ n y,x.row[n]?=aa y→∀ H:aj,H=[.box (x.row.map .f) 0]→aX H ab (.c (.ptr 0 n 0))=aa (.c (.f y)):=by
  intro n y hy H l;have Y:=(By.1 hy)
  obtain⟨S,U⟩:=Y;subst l;have:(x.row.map C.f).drop n=.f y ::(x.row.map C.f).drop (n+1):=by
   rw [aqU (by simpa using S),arF,U]
  simp only [aX,aF,aru,aqR];rw [this];rfl
 obtain⟨H,l⟩:=aT ([.box (x.row.map .f) 0]:aj);have q:=e 0 (fi x.d.k) rfl H l;have a:=e 1 (fi x.d.dW) rfl H l;have c:=e 2 (fi x.d.l) rfl H l;have L:=e 3 (fi x.d.r) rfl H l;have o:=e 6 (sl x.tg (ints x.d.li)) rfl H l;have p:=e 7 (.str uJ) rfl H l;have r:aX H (aa 8) (.c (.ptr 0 0 0))=aa (.a (x.row.map .f)):=by rw [l];rfl
 rw [←l];clear e l;refine an (ai ?_);simp [q,o,-au,show¬ x.d.k<1 by omega,show¬ 18<x.d.k by omega,show¬ (64:Int)<x.d.li.length by omega];refine a5 (by simp) ?_;apply ai;simp [q,-au,E];obtain⟨n,Y⟩:=aT (dD x.d.k);have Z:=mR x.d.k;rw [←Y]at Z ⊢;have I:=aO (n:=(i:Int)-1);have g:∀ t:T,t.g 2=.c (.ptr 0 0 0)→t.g 1=vi i→t.g 5=vi n→t.g 46=vb ag→WP tab.get 140 ab [.code zS,.code zT] ⟨t,[],H⟩ Q:=by
  intro t b w s M;refine ak M (aM ?_);have j:∀ t:T,t.g 2=.c (.ptr 0 0 0)→t.g 65=vb ag→WP tab.get 140 ab [.code zU,.code zW] ⟨t,[],H⟩ Q:=by
   intro t b N;refine ak N (aM ?_);have m:∀ t:T,t.g 2=.c (.ptr 0 0 0)→t.g 85=vb ag→WP tab.get 140 ab [.code zX,.code zY] ⟨t,[],H⟩ Q:=by
    intro t b O;refine ak O (aM ?_);refine an (ai ?_);simp [b,q,p,-au,show¬ x.d.k=18 by omega,F];refine a5 (by simp) ?_;apply ai;simp [b,r,-au,A,B];exact aH (hQ _ _ (by simp))
   refine an (ai ?_);cases X:lv x.d.k.toNat
   ·rw [X]at d;have:=u.2.2 X;simp [b,q,a,-au,d,this];exact m _ (by simp [b]) (by simp)
   ·rw [X]at d;have v:decide (0≤x.d.dW∧x.d.dW≤2)=ae:=decide_eq_true ⟨by omega,by omega⟩;simp [b,q,a,-au,d,dN,v];exact m _ (by simp [b]) (by simp)
  refine an (ai ?_);by_cases U:n=2
  ·have hr:=h.r2 (by omega);have v:decide (0≤x.d.r∧x.d.r≤(i:Int)-1)=ae:=decide_eq_true ⟨by omega,by omega⟩;simp [b,w,s,U,L,-au,I,dN,v];exact j _ (by simp [b]) (by simp)
  ·have hr:=h.r0 (by omega);rcases(show n=0∨n=1 by omega)with e | e
   ·rw [e]at s;simp [b,s,L,-au,hr];exact j _ (by simp [b]) (by simp)
   ·rw [e]at s;simp [b,s,L,-au,hr];exact j _ (by simp [b]) (by simp)
 refine an (ai ?_);by_cases S:1≤n
 ·have f:=h.l1 (by omega);have v:decide (0≤x.d.l∧x.d.l≤(i:Int)-1)=ae:=decide_eq_true ⟨by omega,by omega⟩;simp [show(1:Int)≤n by omega,S,c,-au,I,dN,v,show¬ n=0 by omega];exact g _ (by simp) (by simp) (by simp) (by simp)
 ·have J:n=0:=by omega
  by_cases W:x.d.k=7
  ·simp [J,q,-au,W];exact g _ (by simp) (by simp) (by simp [J]) (by simp)
  ·have f:=h.l0 (by omega) W;simp [J,q,c,-au,W,f];exact g _ (by simp) (by simp) (by simp [J]) (by simp))
theorem wV{K:aj}{U:List Int}{n:Nat}(m:U.length=n){o:Int}(j:0≤o)(s:o<n)(q:∀ v ∈ U,0≤v∧v≤1000){b:Nat}(p1:K[b]?=aa (.box (U.map cI) 0)) :
  ∃ u:Int,0≤u∧u≤1000∧aL K 1 ab (.c (.sl b 0 n n 0 1)) (vi o)=aa (.c (.ptr b o.toNat 0))∧aX K ab (.c (.ptr b o.toNat 0))=aa (vi u) ∧
   df K (.ptr b o.toNat 0) [.f (fi (u+1))]=aa (K.set b (.box ((ma U o).map cI) 0)):=by
 have g:U.getD o.toNat 0=U[o.toNat]'(by omega):=by rw [aqY,At (by omega)];rfl
 have d:=q _ (OF (l:=U) (n:=o.toNat) (by omega));rw [←g]at d;refine⟨U.getD o.toNat 0,d.1,d.2,?_,?_,?_⟩
 ·simp [aL,dy,p1,j];omega
 ·have:(U.map cI).drop o.toNat=cI (U.getD o.toNat 0) ::(U.map cI).drop (o.toNat+1):=by
   rw [aqU (by simp;omega),arF,g]
  simp only [aX,aF,p1,aqR];rw [this];rfl
 ·have:=wU (U:=U) (k:=o) j (by omega);simp only [df,p1];rw [bh (by simp;omega)];rw [show [C.f (fi (U.getD o.toNat 0+1))]=[cI (U.getD o.toNat 0+1)] from rfl,this]
theorem JW(g:Tg){r:List aN}(hG:Good (dB r))(w:r.length≤64):bF tab.get 110 [.c (.f (sl g (aG r)))]=Eq (vb ae):=bF.eq (by
 have d6:0<r.length:=by have:=hG.pos;simpa using this
 obtain⟨n,Y⟩:=aT (r.length);refine bK rfl rfl fun Q hQ=>?_;apply ai;simp;refine an (ai ?_);simp [←Y,show¬ (n:Int)<1 by omega,show¬ (64:Int)<n by omega];refine a5 (by simp) ?_;have M:bN n 8=ae:=cO (by omega) (by decide);have c9:∀(t:T) (H:aj),(R 16).ev t=vi n→bs t H (.cE 1 8 [fi 0] (R 16) (R 16))=aa (.c (.sl H.length 0 n n 0 1),H++[.box ((bC [] n).map cI) 0]):=by
  intro t H h;have e:(bV n [fi 0]).map C.f=(bC [] n).map cI:=by rw [xC];simp [bV]
  simp only [bs,h,dy];rw [bh ⟨by omega,arK _,by simpa using M,rfl⟩,aY (by omega),aqP,e]
 apply ai;simp [←Y,c9];refine an (ai ?_);simp;refine cw n (fun i t H=>∃ r',r'=(dB r).take i∧t.g 0=.c (.f (sl g (aG r)))∧t.g 3=.c (.sl 0 0 n n 0 1)∧H=[.box ((bC r' n).map cI) 0])
  (by omega) (by decide) (by simp) ⟨[],by simp,by simp,by simp,rfl⟩ ?_ ?_ ?_
 ·rintro i t H L hi ⟨r',z,d,q,rfl⟩ s J;simp [s,d,←Y];exact J _ ⟨r',z,by simp [d],by simp [q],rfl⟩ (by simp [s]) (by simp)
 ·rintro i t H hi ⟨r',z,d,q,rfl⟩ s next
  have l:i<r.length:=by omega
  have O:=hG.at_ i (by simpa using l);obtain⟨x,hx⟩:=aT (r[i]);have f:(dB r)[i]'(by simpa using l)=x.d:=by rw [hx];simp
  rw [f]at O;have d8:r'.length≤64:=by rw [z];simp;omega
  have A:nU (bC r' n) x.d 2=bC ((dB r).take (i+1)) n:=by
   rw [F4 O,z,aqC (by simpa using l),f]
  have X:∀ v ∈ bC r' n,0≤v∧v≤128:=fun v c=>by
   obtain⟨k,hk,rfl⟩:=aqE c;have:=Cq r' n k (by simpa using hk);omega
  have a8:∀ v ∈ bC r' n,0≤v∧v≤1000:=fun v c=>by have:=X v c;omega
  have a9:∀ v ∈ nU (bC r' n) x.d 1,0≤v∧v≤1000:=fun v c=>by have:=zz X 1 v c;omega
  have I:=V0 x i (by omega) O;have a:=mu O.ok;have N:∀(H:aj) (k:Nat) (y:FC),x.row[k]?=aa y→aX H ab (.c (.f (.fp (aG r).flatten (i*8+k))))=aa (.c (.f y)):=fun H k y hy=>
   DJ (H:=H) (rows:=aG r) (j:=i) (sz:=8) (row:=x.row) (dO r) (by rw [hx];exact jv l) hy
  have l0:∀ H,aX H ab (.c (.f (.fp (aG r).flatten (i*8))))=aa (vi x.d.k):=fun H=>N H 0 _ rfl;have l2:∀ H,aX H ab (.c (.f (.fp (aG r).flatten (i*8+2))))=aa (vi x.d.l):=fun H=>N H 2 _ rfl;have l3:∀ H,aX H ab (.c (.f (.fp (aG r).flatten (i*8+3))))=aa (vi x.d.r):=fun H=>N H 3 _ rfl;refine aC (an (ai ?_));simp [s,d,dS l w,iu l,←hx,I];refine a5 (by simp) ?_;apply ai;simp [s,d,dS l w,l0,a];obtain⟨m,hm⟩:=aT (dD x.d.k);have b_:=mR x.d.k;rw [←hm]at b_ ⊢;have B:∀ t:T,t.g 0=.c (.f (sl g (aG r)))→t.g 3=.c (.sl 0 0 n n 0 1)→t.g 4=vi i→t.g 5=vi m →
    WP tab.get 110 ab [.code zL,.inBlock 1,.code zM,.inLoop zK,.inBlock 0,.code zN] ⟨t,[],[.box ((nU (bC r' n) x.d 1).map cI) 0]⟩ Q:=by
   intro t d q g4 g5;apply ai;by_cases h2:m=2
   ·have hr:=O.r2 (by omega);have F:nU (bC r' n) x.d 2=ma (nU (bC r' n) x.d 1) x.d.r:=by
     rw [nU,bh (by omega)];rfl
    obtain⟨u,u0,u1,S,W,f3⟩:=wV (K:=[.box ((nU (bC r' n) x.d 1).map cI) 0]) (U:=nU (bC r' n) x.d 1) (n:=n) (by simp) (o:=x.d.r) hr.1 (by omega) a9 (b:=0) rfl;simp [g5,h2];refine al (by simp) (aq (.inl rfl) ?_);simp [q,d,g4,dS l w,l3,S,W,f3,aO (n:=u+1),-au,-bu];refine aA ?_;refine next _ _ ⟨_,rfl,by simp [d],by simp [q],?_⟩ (by simp [g4])
    rw [←A,F]
   ·have F:nU (bC r' n) x.d 2=nU (bC r' n) x.d 1:=by
     rw [nU,aY (by omega)]
    simp [g5];refine ak (by simp;omega) (aM (aA ?_));refine next _ _ ⟨_,rfl,by simp [d],by simp [q],?_⟩ (by simp [g4])
    rw [←A,F]
  refine an (ai ?_);simp;by_cases p:1≤m
  ·have b7:=O.l1 (by omega);have E:nU (bC r' n) x.d 1=ma (bC r' n) x.d.l:=by
    rw [nU,bh (by omega)];rfl
   obtain⟨u,u0,u1,S,W,f3⟩:=wV (K:=[.box ((bC r' n).map cI) 0]) (U:=bC r' n) (n:=n) (by simp) (o:=x.d.l) b7.1 (by omega) a8 (b:=0) rfl;refine al (by simp;omega) (aq (.inl rfl) ?_);simp [q,d,s,dS l w,l2,S,W,f3,aO (n:=u+1),-au,-bu];have:=B;rw [E]at this;exact this _ (by simp [d]) (by simp [q]) (by simp [s]) (by simp)
  ·have E:nU (bC r' n) x.d 1=bC r' n:=by
    rw [nU,aY (by omega)];rfl
   refine ak (by simp;omega) (aM ?_);have:=B;rw [E]at this;exact this _ (by simp [d]) (by simp [q]) (by simp [s]) (by simp)
 ·rintro t H ⟨r',z,d,q,rfl⟩ s;have c_:r'=dB r:=by rw [z,aqI (by simp;omega)]
  subst c_;clear z;have hU:=hG.bC;rw [show(dB r).length=n by simp [Y]]at hU;have Z:∀ k,k<n-1→(bC (dB r) n).getD k 0=1:=fun k hk=>by
   rw [aqY,At (by simp;omega)];refine hU _ ?_;rw [List.mem_take_iff_getElem];exact⟨k,by simp;omega,rfl⟩
  refine an (ai ?_);simp;refine cw (n-1) (fun i t H=>t.g 0=.c (.f (sl g (aG r)))∧t.g 3=.c (.sl 0 0 n n 0 1)∧H=[.box ((bC (dB r) n).map cI) 0])
   (by omega) (by decide) (by simp) ⟨by simp [d],by simp [q],rfl⟩ ?_ ?_ ?_
  ·rintro i t H L hi ⟨d,q,rfl⟩ s J;simp [s,d,←Y,aO (n:=(i:Int)+1)];refine J _ ⟨by simp [d],by simp [q],rfl⟩ (by simp [s]) ?_;simp;omega
  ·rintro i t H hi ⟨d,q,rfl⟩ s next
   have a_:∀ K:aj,K=[.box ((bC (dB r) n).map cI) 0]→aL K 1 ab (.c (.sl 0 0 n n 0 1)) (vi i)=aa (.c (.ptr 0 i 0)):=by
    rintro K rfl;simp [aL,dy];omega
   have b9:∀ K:aj,K=[.box ((bC (dB r) n).map cI) 0]→aX K ab (.c (.ptr 0 i 0))=aa (vi 1):=by
    rintro K rfl;have p:=Z i hi;rw [aqY,At (by simp;omega)]at p;have:((bC (dB r) n).map cI).drop i=cI 1 ::((bC (dB r) n).map cI).drop (i+1):=by
     rw [aqU (by simp;omega),arF];simp at p;rw [show(bC (dB r) n)[i]'(by simp;omega)=1 from p]
    simp only [aX,aF,aru,aqR];rw [this];rfl
   obtain⟨K,hK⟩:=aT ([.box ((bC (dB r) n).map cI) 0]:aj);have S:=a_ K hK;have W:=b9 K hK;rw [←hK]at next ⊢
   refine aC (ai ?_);simp [q,s,S,W,-au];refine ak (by simp) (aM (aA ?_));exact next _ _ ⟨by simp [d],by simp [q],rfl⟩ (by simp [s])
  ·rintro t H ⟨d,q,rfl⟩ s;apply ai;simp;exact aH (hQ _ _ (by simp)))
theorem uQ(g:Tg){r:List aN}(b:Good (dB r))(j:r.length≤64):bF tab.get 70 [.c (.f (sl g (aG r)))]=Eq (vb ae):=bF.eq (by
 have:=JW g b j;refine bK rfl rfl fun Q d=>?_;apply ai;simp;apply ai;simp [this];exact aH (d _ _ (by simp)))
def ig(l:List (aN × C)):List C:=(l.map fun p=>p.1.dA p.2).flatten
theorem iR(l:List (aN × C)):(ig l).length=l.length*8:=by
 induction l with
 | nil=>rfl| cons p l b=>simp only [ig,ao1,List.flatten_cons,aft,aqW]at b ⊢;rw [b,show(p.1.dA p.2).length=8 from rfl];omega
theorem wC(l:List (aN × C))(x:aN)(c:C):ig (l++[(x,c)])=ig l++x.dA c:=by simp [ig]
def NL(J:aj)(cn:C)(l:List (aN × C)):Prop:=
 (∀ p ∈ l,LR J p.2 1 (ints p.1.d.li))∧((l=[]∧(cn=.f .aE∨cn=.f .es))∨(l≠[]∧∃ b d,cn=.sl b 0 l.length 0 d 8∧J[b]?=aa (.bG 8 (ig l) 0 d .loc)))
theorem abH{J:aj}{c:C}{l:List Int}(h:LR J c 1 (ints l)){b:Nat}{cs:List C}{fl g:Nat}{st:Km.Os}(m:J[b]?=aa (.bG 8 cs fl g st)):bf c≠aa b:=by
 rcases h with⟨_,rfl | rfl⟩ | ⟨_,q,j,rfl,d⟩
 ·simp [bf]
 ·simp [bf]
 ·intro e;simp [bf]at e;subst e;unfold RB at d;rw [m]at d;cases d
theorem NL.nil(J:aj):NL J (.f .es) []:=⟨by simp,.inl ⟨rfl,.inr rfl⟩⟩
theorem NL.bY{J j:aj}{cn:C}{l:List (aN × C)}(h:NL J cn l)(m:∀(i:Nat) (y:cS),J[i]?=aa y→(∀ cs fl,y≠cS.box cs fl)→j[i]?=aa y):NL j cn l:=by
 refine⟨fun p q=>(h.1 p q).bY fun i y hy hi=>m i y hy ?_,?_⟩
 ·rcases h.1 p q with⟨_,e | e⟩ | ⟨_,x,u,e,d⟩
  ·rw [e]at hi;simp [bf]at hi
  ·rw [e]at hi;simp [bf]at hi
  ·rw [e]at hi;simp [bf]at hi;subst hi;unfold RB at d;rw [d]at hy;cases hy;intro cs fl e;cases e
 ·rcases h.2 with d | ⟨g,b,s,rfl,v⟩
  ·exact .inl d
  ·exact .inr ⟨g,b,s,rfl,m _ _ v (fun cs fl e=>by cases e)⟩
theorem NL.push{J:aj}{cn:C}{l:List (aN × C)}(h:NL J cn l)(L:aj):NL (J++L) cn l:=h.bY fun i y hy _=>by rw [AI (aw hy)];exact hy
theorem NL.cY{J:aj}{cn:C}{l:List (aN × C)}(h:NL J cn l){i:Nat}{cs:List C}{fl:Nat}(j:J[i]?=aa (.box cs fl)):bf cn≠aa i:=by
 rcases h.2 with⟨_,rfl | rfl⟩ | ⟨g,b,m,rfl,d⟩
 ·simp [bf]
 ·simp [bf]
 ·intro e;simp [bf]at e;subst e;rw [j]at d;cases d
theorem NL.app{J:aj}{cn:C}{l:List (aN × C)}(h:NL J cn l)(E:l.length≤1000){x:aN}{c:C}(hc:LR J c 1 (ints x.d.li)){b1 fl1:Nat}(v:J[b1]?=aa (.box (x.dA c) fl1)) :
  ∃ m H',bX J 8 88 (.c cn) (.c (.sl b1 0 1 1 0 8))=aa (.c m,H')∧NL H' m (l++[(x,c)])∧Kb J H' cn∧(bf m=bf cn∨bf m=aa J.length):=by
 have q:cT J 8 (.c (.sl b1 0 1 1 0 8))=aa (1,x.dA c):=jQ v rfl;have g:∀ p ∈ l++[(x,c)],LR J p.2 1 (ints p.1.d.li):=fun p j=>by
  rcases aq4.1 j with j | j
  ·exact h.1 p j
  ·simp at j;subst j;exact hc
 rcases h.2 with⟨rfl,z⟩ | ⟨B,b,s,rfl,u⟩
 ·have d:bN 1 88=ae:=by decide
  refine⟨.sl J.length 0 1 0 0 8,J++[.bG 8 (x.dA c) 0 0 .loc],?_,⟨fun p j=>(g p j).push _,.inr ⟨by simp,J.length,0,rfl,?_⟩⟩,⟨by simp,fun i y hy _=>by rw [AI (aw hy)];exact hy⟩,.inr rfl⟩
  ·rcases z with rfl | rfl<;>simp [bX,q,d]
  ·simp [ig]
 ·have d:bN (l.length+1) 88=ae:=cO (by omega) (by decide);refine⟨.sl b 0 (l.length+1) 0 (s+1) 8,J.set b (.bG 8 (ig l++x.dA c) 0 (s+1) .loc),?_,⟨fun p j=>(g p j).set (abH (g p j) u) _,.inr ⟨by simp,b,s+1,by simp,?_⟩⟩,⟨by simp,fun i y hy A=>?_⟩,.inl rfl⟩
  ·simp only [bX,q,u,and_self,if_true];rw [aY (by decide),aY (by decide),bh ⟨trivial,(iR l).symm,Nat.zero_le _⟩,d];simp
  ·rw [IS (aw u),wC]
  ·have:b≠i:=by rintro rfl;exact A rfl
   rw [AT this];exact hy
theorem yj{J:aj}(n:Nat):∀ {l:List (aN × C)},(∀ p ∈ l,LR J p.2 1 (ints p.1.d.li))→∃ b:List aN,dB b=l.map (·.1.d)∧bj (da (n+1) J) (ig l)=aa (aG b).flatten
 | [],_=>⟨[],rfl,rfl⟩
 | (x,c)::l,h=>by
  obtain⟨b,m,q⟩:=yj n (l:=l) fun p s=>h p (aqQ _ s);obtain⟨g,d⟩:=(h (x,c) aqK).ex (eQ _) n;refine⟨⟨x.d,g⟩::b,by simp only [dB,ao1];exact congrArg _ m,?_⟩;have e:ig ((x,c)::l)=x.dA c++ig l:=by simp [ig]
  rw [e];have j:bj (da (n+1) J) (x.dA c)=aa (aN.row ⟨x.d,g⟩):=by
   simp only [aN.dA,bj,aN.row];simp only at d;simp [d]
  have:=gS j q;rw [this];simp [aG]
theorem NL.ex{J:aj}{cn:C}{l:List (aN × C)}(h:NL J cn l)(n:Nat):∃ g,∃ d:List aN,dB d=l.map (·.1.d)∧da (n+2) J cn=aa (sl g (aG d)):=by
 obtain⟨d,q,v⟩:=yj n h.1;have s:d.length=l.length:=by have:=congrArg List.length q;simpa using this
 rcases h.2 with⟨rfl,rfl | rfl⟩ | ⟨m,b,y,rfl,x⟩
 ·exact⟨.nil,[],rfl,rfl⟩
 ·exact⟨.es,[],rfl,rfl⟩
 ·refine⟨.fs,d,q,?_⟩;show da (n+1+1) J _=_;rw [lf,x];have u:=arn.2 m;have e:(((ig l).drop 0).take (l.length*8))=ig l:=by rw [List.drop_zero,aqI (by rw [iR];exact IT _)]
  have j:¬ (aG d).isEmpty=ae:=by simp;intro e;subst e;simp at s;omega
  simp only [e,v,Option.map_some];rw [bh ⟨trivial,trivial,by rw [iR];omega⟩,sl,aY j,kL,s]
theorem Bm(n lo hi:Int):bF tab.get 29 [vi n,vi lo,vi hi]=Eq (vb (decide (lo≤n∧n≤hi))):=bF.eq (by
 refine bK rfl rfl fun Q b=>?_;apply ai;simp;apply ai;by_cases h:lo≤n
 ·simp [h];exact aH (b _ _ (by simp [h]))
 ·simp [h];exact aH (b _ _ (by simp [h])))
theorem ec(n lo hi:Int)(h:lo≤n∧n≤hi):bF tab.get 29 [vi n,vi lo,vi hi]=Eq (vb ae):=by rw [Bm,decide_eq_true h]
theorem pQ{m:aZ}(h:m.OK):bF tab.get 35 [.a (m.row.map .f)]=Eq (vb ae):=bF.eq (by
 obtain⟨day,b,A,z,y⟩:=m;obtain⟨d,g,j⟩:=h;refine bK rfl rfl fun Q l=>?_;simp only at d g j;have B:=ec day 0 1099511627776 d;apply ai;simp [aZ.row];refine an (ai ?_);simp [B];refine a5 (by simp) ?_;refine an (ai ?_);simp;cases b
 ·obtain⟨a1,q,s,u,v,x⟩:=j rfl;have E:=ec A 0 1099511627776 ⟨a1,q⟩;have F:=ec z 0 1439 ⟨s,u⟩;have H:=ec y 1 10080 ⟨v,x⟩;refine a5 (by simp) ?_;apply ai;simp [E,F,H];exact aH (l _ _ (by simp))
 ·obtain⟨rfl,rfl,rfl⟩:=g rfl;refine al (by simp) ?_;apply ai;simp;exact aH (l _ _ (by simp)))
theorem qt{H:aj}{g:Tg}{b:List aZ}{j:Nat}(d:j<b.length)(l:b.length≤1000):aL H 5 ab (.c (.f (sl g (aQ b)))) (vi j)=aa (.c (.f (.fp (aQ b).flatten (j*5)))):=by
 have:=dg (H:=H) (g:=g) (rows:=aQ b) (sz:=5) (k:=.i64) (i:=(j:Int)) (by omega) (by simp;omega);simpa using this
theorem xa{H:aj}{b:List aZ}{j:Nat}(d:j<b.length):aX H (aa 5) (.c (.f (.fp (aQ b).flatten (j*5))))=aa (.a (b[j].row.map .f)):=fV (bR b) (ju d)
theorem yG{H:aj}{b:List aZ}{j:Nat}(d:j<b.length):aX H ab (.c (.f (.fp (aQ b).flatten (j*5))))=aa (vi b[j].day):=by
 have:=jo (H:=H) (rows:=aQ b) (j:=j) (sz:=5) (row:=b[j].row) (x:=fi b[j].day) (bR b) (ju d) rfl;exact this
theorem dI{H:aj}{b fl:Nat}{s:bl}(d:H[b]?=aa (.box (s.row.map .f) fl)) :
  aX H ab (.c (.ptr b 0 0))=aa (.c (.f (sl s.rg (aG s.ru))))∧aX H ab (.c (.ptr b 1 0))=aa (vi s.mi)∧aX H ab (.c (.ptr b 2 0))=aa (vi s.le)∧aX H ab (.c (.ptr b 3 0))=aa (.c (.f (.str s.zo))) ∧
  aX H ab (.c (.ptr b 4 0))=aa (vi s.cJ)∧aX H ab (.c (.ptr b 5 0))=aa (vi s.fold)∧aX H ab (.c (.ptr b 6 0))=aa (.c (.f (sl s.mg (aQ s.mv))))∧aX H (aa 7) (.c (.ptr b 0 0))=aa s.v:=by
 refine⟨?_,?_,?_,?_,?_,?_,?_,?_⟩<;>simp [aX,d,aF,aI,bl.row]
theorem Ex{s:bl}(h:s.OK):bF tab.get 28 [s.v]=Eq (vb ae):=bF.eq (by
 have O:=h.ml;have wf:=uQ s.rg h.ru h.rl;have Y:=ec s.mi 0 1439 h.mi;have Z:=ec s.le 1 10080 h.le;have w3:=ec s.cJ 0 2 h.cJ;have w4:=ec s.fold 0 2 h.fold;have hz:=h.zo;have w5:=ec s.zo.size 1 32 ⟨by omega,by omega⟩;refine bK rfl rfl fun Q K=>?_;apply ai;simp;obtain⟨H,v⟩:=aT ([.box (s.row.map .f) 0]:aj);have b0:H[0]?=aa (.box (s.row.map .f) 0):=by rw [v];rfl
 obtain⟨y,z,A,B,E,F,q,e7⟩:=dI b0;rw [←v];clear v;refine an (ai ?_);simp [y,z,A,E,F,wf,Y,Z,w3,w4,-au];refine a5 (by simp) ?_;refine an (ai ?_);simp [B,q,w5,-au,show¬ (64:Int)<s.mv.length by omega];refine a5 (by simp) ?_;refine an (ai ?_);simp;refine cw s.mv.length (fun j t J=>t.g 1=.c (.ptr 0 0 0)∧J=H) (by omega) (by decide) (by simp) ⟨by simp,rfl⟩ ?_ ?_ ?_
 ·rintro j t J L l ⟨b,rfl⟩ d S;simp [d,b,q,-au];exact S _ ⟨by simp [b],rfl⟩ (by simp [d]) (by simp)
 ·rintro j t J l ⟨b,rfl⟩ d W;have X:=pQ (h.mo _ (OF l));have x:=fun i (hi:i<s.mv.length)=>qt (H:=J) (g:=s.mg) hi (by omega);have m:∀ t:T,t.g 1=.c (.ptr 0 0 0)→t.g 3=vi j→t.g 76=vb ag→WP tab.get 28 ab [.code AD,.inBlock 1,.code AE,.inLoop AB,.inBlock 0,.code AF] ⟨t,[],J⟩ Q:=by
   intro t b I u;refine ak u (aM (aA ?_));exact W _ _ ⟨by simp [b],rfl⟩ (by simp [I])
  refine aC (ai ?_);simp [b,q,-au,d,x j l,xa l,X];by_cases M:j=0
  ·simp [show¬ 0<j by omega];exact m _ (by simp [b]) (by simp [d]) (by simp)
  ·have U:ah .i64 ((j:Int)-1)=((j-1:Nat):Int):=by rw [aO];omega
   have N:s.mv[j-1].day<s.mv[j].day:=aqM.1 h.ms (j-1) j (by omega) l (by omega);simp [show 0<j by omega,b,q,-au,d,x j l,yG l,U,x (j-1) (by omega),yG (show j-1<s.mv.length by omega),show¬ s.mv[j].day≤s.mv[j-1].day by omega];exact m _ (by simp [b]) (by simp [d]) (by simp)
 ·rintro t J ⟨b,rfl⟩ d;apply ai;simp;exact aH (K _ _ (by simp)))
theorem ow(l:List aN):(dB l).length=l.length:=by simp
def kh:List C:=[.f .aE,.f (fi 0),.f (fi 0),.f (.str ⟨#[]⟩),.f (fi 0),.f (fi 0),.f .aE]
structure bl.xO(a b:bl):Prop where
 ru:dB a.ru=dB b.ru
 mi:a.mi=b.mi
 le:a.le=b.le
 zo:a.zo=b.zo
 cJ:a.cJ=b.cJ
 fold:a.fold=b.fold
 mv:a.mv=b.mv
theorem Ba{s:bl}(hl:s.ru.length≤64)(i_:∀ x ∈ s.ru,x.d.li.length≤61)(o6:s.mv.length≤64):∃ s',bl.xO s' s∧bF tab.get 36 [s.v]=Eq s'.v:=by
 obtain⟨rr,⟨s',hs,rfl⟩,hp⟩:∃ rr,(∃ s',bl.xO s' s∧rr=s'.v)∧bF tab.get 36 [s.v] rr:=by
  refine cA rfl rfl fun Q hQ=>?_;apply ai;simp;obtain⟨H,hH⟩:=aT ([.box (s.row.map .f) 0,.box [.f .aE,.f (fi 0),.f (fi 0),.f (.str ⟨#[]⟩),.f (fi 0),.f (fi 0),.f .aE] 0]:aj);have b0:H[0]?=aa (.box (s.row.map .f) 0):=by rw [hH];rfl
  have b1:H[1]?=aa (.box kh 0):=by rw [hH];rfl
  rw [←hH];clear hH;apply ai;simp;refine an (ai ?_);simp;refine cw s.ru.length (fun i t J=>∃ cn l,t.g 1=.c (.ptr 0 0 0)∧t.g 2=.c (.ptr 1 0 0)∧t.g 3=.c cn∧NL J cn l∧(l.map (·.1))=s.ru.take i∧J[0]?=aa (.box (s.row.map .f) 0)∧J[1]?=aa (.box kh 0)) (by omega) (by decide) (by simp)
   ⟨.f .es,[],by simp,by simp,by simp,NL.nil _,by simp,b0,b1⟩ ?_ ?_ ?_
  ·rintro i t J L hi ⟨cn,l,B,M,N,hN,hl,b0,b1⟩ F W;obtain⟨e0,-⟩:=dI b0;simp [F,B,e0,-au];exact W _ ⟨cn,l,by simp [B],by simp [M],by simp [N],hN,hl,b0,b1⟩ (by simp [F]) (by simp)
  ·rintro i t J hi ⟨cn,l,B,M,N,hN,Z,b0,b1⟩ F nx;obtain⟨e0,-⟩:=dI b0;obtain⟨x,hx⟩:=aT (s.ru[i]);have o7:x.d.li.length≤61:=by rw [hx];exact i_ _ (OF hi)
   have n_:l.length=i:=by have:=congrArg List.length Z;simp at this;omega
   refine aC (ai ?_);simp [B,e0,-au,F,dS hi hl,iu hi,←hx,aN.row];obtain⟨a,S⟩:=aT (J++[.box (x.row.map .f) 0]:aj);have kx:a[J.length]?=aa (.box (x.row.map .f) 0):=by rw [S];simp
   have k0:a[0]?=aa (.box (s.row.map .f) 0):=by rw [S,AI (aw b0)];exact b0
   have k1:a[1]?=aa (.box kh 0):=by rw [S,AI (aw b1)];exact b1
   have kN:NL a cn l:=by rw [S];exact hN.push _
   have kl:a.length=J.length+1:=by rw [S];simp
   have c9:=aw b1;simp only [aN.row,ao1,aqD]at S;rw [←S];clear S;obtain⟨p,hp⟩:=aT (J.length);rw [←hp]at kx kl c9 ⊢;apply ai;simp;refine an (ai ?_);simp;refine cw x.d.li.length (fun j t K=>∃ c,t.g 1=.c (.ptr 0 0 0)∧t.g 2=.c (.ptr 1 0 0)∧t.g 3=.c cn∧t.g 4=vi i∧t.g 5=.c (.ptr p 0 0)∧t.g 6=.c c∧LR K c 1 (ints (x.d.li.take j))∧Kb a K (.f .es)∧(∀ b,bf c=aa b→a.length≤b)) (by omega) (by decide) (by simp)
    ⟨.f .es,by simp [B],by simp [M],by simp [N],by simp [F],by simp,by simp,.inl ⟨rfl,.inr rfl⟩,Kb.refl _ _,by simp [bf]⟩ ?_ ?_ ?_
   ·rintro j t K L w ⟨c,B,M,N,g4,r,g6,A,d,q⟩ F W;have e6:aX K ab (.c (.ptr p 6 0))=aa (.c (.f (sl x.tg (ints x.d.li)))):=by
     have:=d.2 p _ kx (by simp [bf]);simp [aX,this,aF,aI,aN.row]
    simp [F,r,e6,-au];exact W _ ⟨c,by simp [B],by simp [M],by simp [N],by simp [g4],by simp [r],by simp [g6],A,d,q⟩ (by simp [F]) (by simp)
   ·rintro j t K w ⟨c,B,M,N,g4,r,g6,A,d,q⟩ F n5;have e6:aX K ab (.c (.ptr p 6 0))=aa (.c (.f (sl x.tg (ints x.d.li)))):=by
     have:=d.2 p _ kx (by simp [bf]);simp [aX,this,aF,aI,aN.row]
    have h_:∀ H,aL H 1 ab (.c (.f (sl x.tg (ints x.d.li)))) (vi j)=aa (.c (.f (.fp (ints x.d.li).flatten j))):=fun H=>by
     have:=dg (H:=H) (g:=x.tg) (rows:=ints x.d.li) (sz:=1) (k:=.i64) (i:=(j:Int)) (by omega) (by simp;omega);simpa using this
    obtain⟨v,hv⟩:=aT (x.d.li[j]);have j9:aX K ab (.c (.f (.fp (ints x.d.li).flatten j)))=aa (vi v):=by rw [hv];exact iW w
    obtain⟨K1,z⟩:=aT (K++[.box ([fi v].map .f) 0]:aj);have a_:LR K1 c 1 (ints (x.d.li.take j)):=by rw [z];exact A.push _
    have b7:K1[K.length]?=aa (.box ([fi v].map .f) 0):=by rw [z];simp
    obtain⟨c',H',U,a9,O,n⟩:=a_.app (eQ _) (by decide) (row:=[fi v]) rfl (bytes:=8) (cO (by simp;omega) (by decide)) b7;simp only [ao1,aqD]at z;refine aC (aq (.inl rfl) ?_);simp [r,g6,e6,-au,F,h_,j9];rw [←z];simp [U];have h:Kb a K1 (.f .es):=by
     refine⟨by have:=d.1;rw [z];simp;omega,fun i y u W=>?_⟩;rw [z,AI (aw (d.2 i y u W))];exact d.2 i y u W
    refine aA ?_;refine n5 _ _ ⟨c',by simp [B],by simp [M],by simp [N],by simp [g4],by simp [r],by simp,?_,?_,?_⟩ (by simp [F])
    ·rw [aqC w,←hv];have e:ints (x.d.li.take j++[v])=ints (x.d.li.take j)++[[fi v]]:=by simp [ints]
     rw [e];exact a9
    ·refine⟨aqL h.1 O.1,fun i y u W=>O.2 i y (h.2 i y u W) fun e=>?_⟩;have:=q i e;have:=aw u;omega
    ·intro b f;rcases n with e | e
     ·exact q b (by rw [←e];exact f)
     ·rw [f]at e;cases e;exact h.1
   ·rintro t K ⟨c,B,M,N,g4,r,g6,A,d,q⟩ F;rw [aqX]at A;have kp:=d.2 p _ kx (by simp [bf]);have k_:df K (.ptr p 6 0) [c]=aa (K.set p (.box (x.dA c) 0)):=by
     simp [df,kp,aN.row,aN.dA,over]
    have j_:bf c≠aa p:=fun e=>by have:=q p e;omega
    obtain⟨X,I⟩:=aT (K.set p (.box (x.dA c) 0):aj);have m6:X[p]?=aa (.box (x.dA c) 0):=by rw [I];exact IS (aw kp)
    have d6:∀(i:Nat) (y:cS),a[i]?=aa y→i≠p→X[i]?=aa y:=fun i y u hi=>by
     rw [I,AT (Ne.symm hi)];exact d.2 i y u (by simp [bf])
    have m4:NL X cn l:=kN.bY fun i y u f=>d6 i y u (by rintro rfl;rw [kx]at u;cases u;exact f _ _ rfl);have l_:LR X c 1 (ints x.d.li):=by rw [I];exact A.set j_ _
    have e8:aX X (aa 8) (.c (.ptr p 0 0))=aa (.a (x.dA c)):=by simp [aX,m6,aF,aI,aN.dA]
    apply ai;simp [g6,r,k_,-bu];rw [←I];obtain⟨Y,E⟩:=aT (X++[.box (x.dA c) 0]:aj);have b9:NL Y cn l:=by rw [E];exact m4.push _
    have m9:LR Y c 1 (ints x.d.li):=by rw [E];exact l_.push _
    have m_:Y[X.length]?=aa (.box (x.dA c) 0):=by rw [E];simp
    have o:∀(i:Nat) (y:cS),a[i]?=aa y→i≠p→Y[i]?=aa y:=fun i y u hi=>by
     have:=d6 i y u hi;rw [E,AI (aw this)];exact this
    obtain⟨d9,H',U,f9,O,n⟩:=b9.app (by omega) m9 m_;have g_:(x.dA c).length=8:=rfl;refine aq (.inl rfl) ?_;simp [N,r,e8,-au,g_];rw [←E];simp [U];refine aA ?_;refine nx _ _ ⟨d9,l++[(x,c)],by simp [B],by simp [M],by simp,f9,?_,?_,?_⟩ (by simp [g4])
    ·rw [List.map_append,Z,aqC hi,←hx];rfl
    ·exact O.2 0 _ (o 0 _ k0 (by omega)) (b9.cY (o 0 _ k0 (by omega)))
    ·exact O.2 1 _ (o 1 _ k1 (by omega)) (b9.cY (o 1 _ k1 (by omega)))
  ·rintro t J ⟨cn,l,B,M,N,hN,Z,b0,b1⟩ F;rw [aqX]at Z;apply ai;simp;refine an (ai ?_);simp;refine cw s.mv.length (fun j t K=>∃ c,t.g 1=.c (.ptr 0 0 0)∧t.g 2=.c (.ptr 1 0 0)∧t.g 3=.c cn∧t.g 8=.c c∧LR K c 5 (aQ (s.mv.take j))∧Kb J K (.f .es)∧(∀ b,bf c=aa b→J.length≤b)) (by omega) (by decide) (by simp)
    ⟨.f .es,by simp [B],by simp [M],by simp [N],by simp,.inl ⟨rfl,.inr rfl⟩,Kb.refl _ _,by simp [bf]⟩ ?_ ?_ ?_
   ·rintro j t K L w ⟨c,B,M,N,g8,A,d,q⟩ F W;obtain⟨-,-,-,-,-,-,e6,-⟩:=dI (d.2 0 _ b0 (by simp [bf]));simp [F,B,e6,-au];exact W _ ⟨c,by simp [B],by simp [M],by simp [N],by simp [g8],A,d,q⟩ (by simp [F]) (by simp)
   ·rintro j t K w ⟨c,B,M,N,g8,A,d,q⟩ F nx;obtain⟨-,-,-,-,-,-,e6,-⟩:=dI (d.2 0 _ b0 (by simp [bf]));obtain⟨m,hm⟩:=aT (s.mv[j]);obtain⟨K1,z⟩:=aT (K++[.box (m.row.map .f) 0]:aj);have a_:LR K1 c 5 (aQ (s.mv.take j)):=by rw [z];exact A.push _
    have b7:K1[K.length]?=aa (.box (m.row.map .f) 0):=by rw [z];simp
    obtain⟨c',H',U,a9,O,n⟩:=a_.app (bR _) (by decide) (row:=m.row) rfl (bytes:=40) (cO (by simp;omega) (by decide)) b7;simp only [aZ.row,ao1,aqD]at z;refine aC (aq (.inl rfl) ?_);simp [B,g8,e6,-au,F,qt w (by omega),xa w,←hm,aZ.row];rw [←z];simp [U];have h:Kb J K1 (.f .es):=by
     refine⟨by have:=d.1;rw [z];simp;omega,fun i y u W=>?_⟩;rw [z,AI (aw (d.2 i y u W))];exact d.2 i y u W
    refine aA ?_;refine nx _ _ ⟨c',by simp [B],by simp [M],by simp [N],by simp,?_,?_,?_⟩ (by simp [F])
    ·rw [aqC w,←hm];have e:aQ (s.mv.take j++[m])=aQ (s.mv.take j)++[m.row]:=by simp [aQ]
     rw [e];exact a9
    ·refine⟨aqL h.1 O.1,fun i y u W=>O.2 i y (h.2 i y u W) fun e=>?_⟩;have:=q i e;have:=aw u;omega
    ·intro b f;rcases n with e | e
     ·exact q b (by rw [←e];exact f)
     ·rw [f]at e;cases e;exact h.1
   ·rintro t K ⟨c,B,M,N,g8,A,d,q⟩ F;rw [aqX]at A;have k0:=d.2 0 _ b0 (by simp [bf]);have k1:=d.2 1 _ b1 (by simp [bf]);have c9:=aw b1;have n6:df K (.ptr 0 0 0) [cn]=aa (K.set 0 (.box [cn,cI s.mi,cI s.le,.f (.str s.zo),cI s.cJ,cI s.fold,.f (sl s.mg (aQ s.mv))] 0)):=by
     simp [df,k0,bl.row,over]
    obtain⟨X,I⟩:=aT (K.set 0 (.box [cn,cI s.mi,cI s.le,.f (.str s.zo),cI s.cJ,cI s.fold,.f (sl s.mg (aQ s.mv))] 0):aj);have c_:X[0]?=aa (.box [cn,cI s.mi,cI s.le,.f (.str s.zo),cI s.cJ,cI s.fold,.f (sl s.mg (aQ s.mv))] 0):=by rw [I];exact IS (aw k0)
    have n7:df X (.ptr 0 6 0) [c]=aa (X.set 0 (.box [cn,cI s.mi,cI s.le,.f (.str s.zo),cI s.cJ,cI s.fold,c] 0)):=by
     simp [df,c_,over]
    obtain⟨Y,E⟩:=aT (X.set 0 (.box [cn,cI s.mi,cI s.le,.f (.str s.zo),cI s.cJ,cI s.fold,c] 0):aj);have m7:Y[0]?=aa (.box [cn,cI s.mi,cI s.le,.f (.str s.zo),cI s.cJ,cI s.fold,c] 0):=by rw [E];exact IS (aw c_)
    have d8:Y[1]?=aa (.box kh 0):=by rw [E,AT (by decide),I,AT (by decide)];exact k1
    have e7:aX Y (aa 7) (.c (.ptr 0 0 0))=aa (.a [cn,cI s.mi,cI s.le,.f (.str s.zo),cI s.cJ,cI s.fold,c]):=by simp [aX,m7,aF,aI]
    have n9:df Y (.ptr 1 0 0) [cn,cI s.mi,cI s.le,.f (.str s.zo),cI s.cJ,cI s.fold,c]=aa (Y.set 1 (.box [cn,cI s.mi,cI s.le,.f (.str s.zo),cI s.cJ,cI s.fold,c] 0)):=by
     simp [df,d8,over,kh]
    obtain⟨K4,a8⟩:=aT (Y.set 1 (.box [cn,cI s.mi,cI s.le,.f (.str s.zo),cI s.cJ,cI s.fold,c] 0):aj);have n4:K4[1]?=aa (.box [cn,cI s.mi,cI s.le,.f (.str s.zo),cI s.cJ,cI s.fold,c] 0):=by rw [a8];exact IS (aw d8)
    have up:∀(i:Nat) (y:cS),K[i]?=aa y→i≠0→i≠1→K4[i]?=aa y:=fun i y u h0 h=>by
     rw [a8,AT (Ne.symm h),E,AT (Ne.symm h0),I,AT (Ne.symm h0)];exact u
    have f_:NL K4 cn l:=hN.bY fun i y u f=>up i y (d.2 i y u (by simp [bf])) (by rintro rfl;rw [b0]at u;cases u;exact f _ _ rfl) (by rintro rfl;rw [b1]at u;cases u;exact f _ _ rfl);have e_:LR K4 c 5 (aQ s.mv):=A.bY fun i y u hi=>up i y u (by rintro rfl;have:=q 0 hi;omega) (by rintro rfl;have:=q 1 hi;omega);obtain⟨g',l',hd,l7⟩:=f_.ex 62;obtain⟨b_,l9⟩:=e_.ex (bR _) 63;apply ai;simp [B,N,n6,-bu];rw [←I];apply ai;simp [B,g8,n7,-bu];rw [←E];apply ai;simp [B,M,e7,n9,-bu,-au];rw [←a8];have d_:aX K4 (aa 7) (.c (.ptr 1 0 0))=aa (.a [cn,cI s.mi,cI s.le,.f (.str s.zo),cI s.cJ,cI s.fold,c]):=by simp [aX,n4,aF,aI]
    refine aH (hQ _ _ _ ⟨⟨g',l',s.mi,s.le,s.zo,s.cJ,s.fold,b_,s.mv⟩,⟨?_,rfl,rfl,rfl,rfl,rfl,rfl⟩,rfl⟩ ⟨rfl,.a [cn,cI s.mi,cI s.le,.f (.str s.zo),cI s.cJ,cI s.fold,c],?_,?_⟩)
    ·show dB l'=dB s.ru;rw [hd,←Z];simp
    ·simp [Km.results,bJ,bj,M,d_,-au]
    ·have d1:da deep K4 cn=aa (sl g' (aG l')):=l7;have d2:da deep K4 c=aa (sl b_ (aQ s.mv)):=l9;simp [iI,cg,bj,d1,d2,bl.row]
 exact⟨s',hs,hp.eq⟩
def bl.dA(s:bl)(c:C):List C:=[.f (sl s.rg (aG s.ru)),cI s.mi,cI s.le,.f (.str s.zo),cI s.cJ,cI s.fold,c]
structure OvI(s q:bl)(m:aZ)(J:aj)(acc:List aZ)(c:C):Prop where
 b0:J[0]?=aa (.box (s.row.map .f) 0)
 b1:J[1]?=aa (.box (m.row.map .f) 0)
 b2:J[2]?=aa (.box kh 0)
 b3:J[3]?=aa (.box (q.dA c) 0)
 lr:LR J c 5 (aQ acc)
 cb:∀ b,bf c=aa b→4≤b
theorem vp(l:List aZ)(x:aZ):aQ (l++[x])=aQ l++[x.row]:=by simp [aQ]
theorem OvI.app{s q:bl}{m:aZ}{J:aj}{d:List aZ}{c:C}(h:OvI s q m J d c)(N:d.length≤1000)(x:aZ) :
  ∃ j H' l,bX (J++[.box (x.row.map .f) 0]) 5 40 (.c c) (.c (.sl J.length 0 1 1 0 5))=aa (.c j,H')∧df H' (.ptr 3 6 0) [j]=aa l∧OvI s q m l (d++[x]) j:=by
 obtain⟨K,v⟩:=aT (J++[.box (x.row.map .f) 0]:aj);have up:∀ {i:Nat} {y:cS},J[i]?=aa y→K[i]?=aa y:=fun {i y} hy=>by rw [v,AI (aw hy)];exact hy
 have M:LR K c 5 (aQ d):=by rw [v];exact h.lr.push _
 have A:K[J.length]?=aa (.box (x.row.map .f) 0):=by rw [v];simp
 have I:=aw h.b3;have L:K.length=J.length+1:=by rw [v];simp
 obtain⟨j,H',z,E,g,F⟩:=M.app (bR _) (by decide) (row:=x.row) rfl (bytes:=40) (cO (by simp;omega) (by decide)) A;have B:∀ i,i<4→bf c≠aa i:=fun i hi e=>by have:=h.cb i e;omega
 have u:∀ b,bf j=aa b→4≤b:=fun b A=>by
  rcases F with e | e
  ·exact h.cb b (by rw [←e];exact A)
  ·rw [A]at e;cases e;omega
 have H:=g.2 3 _ (up h.b3) (B 3 (by decide));refine⟨j,H',H'.set 3 (.box (q.dA j) 0),by rw [←v];exact z,by simp [df,H,bl.dA,over],⟨?_,?_,?_,?_,?_,u⟩⟩
 ·rw [AT (by decide)];exact g.2 0 _ (up h.b0) (B 0 (by decide))
 ·rw [AT (by decide)];exact g.2 1 _ (up h.b1) (B 1 (by decide))
 ·rw [AT (by decide)];exact g.2 2 _ (up h.b2) (B 2 (by decide))
 ·exact IS (aw H)
 ·rw [vp];exact E.set (fun e=>by have:=u 3 e;omega) _
theorem OvI.lds{s q:bl}{m:aZ}{J:aj}{b:List aZ}{c:C}(h:OvI s q m J b c) :
  aX J ab (.c (.ptr 3 6 0))=aa (.c c)∧aX J ab (.c (.ptr 0 6 0))=aa (.c (.f (sl s.mg (aQ s.mv))))∧aX J ab (.c (.ptr 1 0 0))=aa (vi m.day)∧aX J (aa 5) (.c (.ptr 1 0 0))=aa (.a (m.row.map .f)):=by
 have g:=h.b0;have d:=h.b1;have j:=h.b3;refine⟨?_,?_,?_,?_⟩
 ·simp [aX,j,aF,aI,bl.dA]
 ·simp [aX,g,aF,aI,bl.row]
 ·simp [aX,d,aF,aI,aZ.row]
 ·simp [aX,d,aF,aI,aZ.row]
theorem nE{b:Type}(p:b→Bool)(l:List b):(l.filter p).length≤l.length:=List.length_filter_le p l
theorem vt{s:bl}(h:s.OK)(d8:s.mv.length≤60){m:aZ}(hm:m.OK) :
  ∃ q,bl.xO q ⟨s.rg,s.ru,s.mi,s.le,s.zo,s.cJ,s.fold,s.mg,ku s.mv m⟩∧bF tab.get 6 [s.v,.a (m.row.map .f)]=Eq (.t [q.v,vi 0]):=by
 have a8:=Ex h;have f_:=pQ hm;obtain⟨q,hq,Z⟩:=Ba (s:=s) h.rl (fun x Y=>by
  obtain⟨i,hi,rfl⟩:=aqE Y;have:=(h.ru.at_ i (by simpa using hi)).ok.1;simpa using this) h.ml
 obtain⟨rr,⟨q',e_,rfl⟩,hp⟩:∃ rr,(∃ q',bl.xO q' ⟨s.rg,s.ru,s.mi,s.le,s.zo,s.cJ,s.fold,s.mg,ku s.mv m⟩∧rr=.t [q'.v,vi 0])∧bF tab.get 6 [s.v,.a (m.row.map .f)] rr:=by
  refine cA rfl rfl fun Q hQ=>?_;apply ai;simp;obtain⟨H,hH⟩:=aT ([.box (s.row.map .f) 0,.box (m.row.map .f) 0,.box kh 0]:aj);have b0:H[0]?=aa (.box (s.row.map .f) 0):=by rw [hH];rfl
  have b1:H[1]?=aa (.box (m.row.map .f) 0):=by rw [hH];rfl
  have b2:H[2]?=aa (.box kh 0):=by rw [hH];rfl
  have hl:H.length=3:=by rw [hH];rfl
  simp only [kh]at hH;rw [←hH];clear hH;obtain⟨-,-,-,-,-,-,-,e7⟩:=dI b0;have e5:aX H (aa 5) (.c (.ptr 1 0 0))=aa (.a (m.row.map .f)):=by simp [aX,b1,aF,aI,aZ.row]
  refine an (ai ?_);simp [e7,e5,-au,a8,f_];refine a5 (by simp) ?_;apply ai;have f9:q.row.length=7:=rfl;simp [e7,-au,Z,f9,hl];obtain⟨K,hK⟩:=aT (H++[.box (q.row.map .f) 0]:aj);have up:∀ {i:Nat} {y:cS},H[i]?=aa y→K[i]?=aa y:=fun {i y} hy=>by rw [hK,AI (aw hy)];exact hy
  have k3:K[3]?=aa (.box (q.row.map .f) 0):=by rw [hK,aqJ (by omega),hl];rfl
  rw [←hK];have b7:df K (.ptr 3 6 0) [.f .aE]=aa (K.set 3 (.box (q.dA (.f .aE)) 0)):=by simp [df,k3,bl.row,bl.dA,over]
  have hO:OvI s q m (K.set 3 (.box (q.dA (.f .aE)) 0)) [] (.f .aE):=⟨by rw [AT (by decide)];exact up b0,by rw [AT (by decide)];exact up b1,by rw [AT (by decide)];exact up b2,IS (aw k3),.inl ⟨rfl,.inl rfl⟩,fun b hb=>by simp [bf]at hb⟩
  obtain⟨J0,b_⟩:=aT (K.set 3 (.box (q.dA (.f .aE)) 0):aj);rw [←b_]at hO b7;clear b_ k3 hK up Z a8 e7 e5 b0 b1 b2 hl;apply ai;simp [b7,-bu];clear b7;refine an (ai ?_);simp;have ix:=fun(H:aj) i (hi:i<s.mv.length)=>qt (H:=H) (g:=s.mg) hi (by omega);refine cw s.mv.length (fun j t J=>∃ c,t.g 2=.c (.ptr 0 0 0)∧t.g 3=.c (.ptr 1 0 0)∧t.g 4=.c (.ptr 2 0 0)∧t.g 6=.c (.ptr 3 0 0)∧OvI s q m J ((s.mv.take j).filter fun x=>decide (x.day<m.day)) c) (by omega) (by decide) (by simp)
   ⟨.f .aE,by simp,by simp,by simp,by simp,by simpa using hO⟩ ?_ ?_ ?_
  ·rintro j t J L M ⟨c,v,E,F,z,d⟩ A hn;obtain⟨X,W,l3,l4⟩:=d.lds;simp [A,v,W,-au];exact hn _ ⟨c,by simp [v],by simp [E],by simp [F],by simp [z],d⟩ (by simp [A]) (by simp)
  ·rintro j t J M ⟨c,v,E,F,z,d⟩ A nx;obtain⟨X,W,l3,l4⟩:=d.lds;have U:((s.mv.take j).filter fun x=>decide (x.day<m.day)).length≤1000:=aqL (nE _ _) (by simp;omega);obtain⟨x,Y⟩:=aT (s.mv[j]);have S:=xa (H:=J) M;have B:=yG (H:=J) M;rw [←Y]at S B;have u:(s.mv.take (j+1)).filter (fun x=>decide (x.day<m.day))=(s.mv.take j).filter (fun x=>decide (x.day<m.day))++if x.day<m.day then [x]else []:=by
    rw [aqC M,←Y,arG]
    congr 1
    by_cases I:x.day<m.day<;>simp [I]
   refine aC (ai ?_);simp [v,E,W,l3,-au,A,ix _ j M,B];by_cases I:x.day<m.day
   ·rw [bh I]at u;obtain⟨c',H',b9,l,N,O⟩:=d.app U x;simp only [aZ.row,ao1,aqD]at l;refine al (by simp [I]) (aq (.inl rfl) ?_);simp [v,z,X,W,-au,A,ix _ j M,S,aZ.row,l,N,-bu];refine aA ?_;refine nx _ _ ⟨c',by simp [v],by simp [E],by simp [F],by simp [z],by rw [u];exact O⟩ (by simp [A])
   ·rw [aY I,ars]at u;refine ak (by simp [I]) (aM (aA ?_));refine nx _ _ ⟨c,by simp [v],by simp [E],by simp [F],by simp [z],by rw [u];exact d⟩ (by simp [A])
  ·rintro t J ⟨c,v,E,F,z,d⟩ A;rw [aqX]at d;obtain⟨F1,a9⟩:=aT (s.mv.filter fun x=>decide (x.day<m.day));rw [←a9]at d;have i_:F1.length≤60:=by rw [a9];exact aqL (nE _ _) d8
   obtain⟨X,W,l3,l4⟩:=d.lds;obtain⟨c',H',b9,l,N,O⟩:=d.app (by omega) m;have d9:(m.row.map C.f).length=5:=rfl;apply ai;simp [E,z,X,l4,-au,d9,l,N,-bu];clear X W l3 l4 l N d;refine an (ai ?_);simp;refine cw s.mv.length (fun j t J=>∃ c,t.g 2=.c (.ptr 0 0 0)∧t.g 3=.c (.ptr 1 0 0)∧t.g 4=.c (.ptr 2 0 0)∧t.g 6=.c (.ptr 3 0 0)∧OvI s q m J (F1++[m]++(s.mv.take j).filter fun x=>decide (m.day<x.day)) c) (by omega) (by decide) (by simp)
    ⟨c',by simp [v],by simp [E],by simp [F],by simp [z],by simpa using O⟩ ?_ ?_ ?_
   ·rintro j t J L M ⟨c,v,E,F,z,d⟩ A hn;obtain⟨X,W,l3,l4⟩:=d.lds;simp [A,v,W,-au];exact hn _ ⟨c,by simp [v],by simp [E],by simp [F],by simp [z],d⟩ (by simp [A]) (by simp)
   ·rintro j t J M ⟨c,v,E,F,z,d⟩ A nx;obtain⟨X,W,l3,l4⟩:=d.lds;have U:(F1++[m]++(s.mv.take j).filter fun x=>decide (m.day<x.day)).length≤1000:=by
     have:=nE (fun x:aZ=>decide (m.day<x.day)) (s.mv.take j);have:(s.mv.take j).length≤60:=by simp;omega
     simp only [aft,arz];omega
    obtain⟨x,Y⟩:=aT (s.mv[j]);have S:=xa (H:=J) M;have B:=yG (H:=J) M;rw [←Y]at S B;have u:F1++[m]++(s.mv.take (j+1)).filter (fun x=>decide (m.day<x.day))=F1++[m]++(s.mv.take j).filter (fun x=>decide (m.day<x.day))++if m.day<x.day then [x]else []:=by
     rw [aqC M,←Y,arG,←aro]
     congr 1
     by_cases I:m.day<x.day<;>simp [I]
    refine aC (ai ?_);simp [v,E,W,l3,-au,A,ix _ j M,B];by_cases I:m.day<x.day
    ·rw [bh I]at u;obtain⟨c',H',b9,l,N,O⟩:=d.app U x;simp only [aZ.row,ao1,aqD]at l;refine al (by simp [I]) (aq (.inl rfl) ?_);simp [v,z,X,W,-au,A,ix _ j M,S,aZ.row,l,N,-bu];refine aA ?_;refine nx _ _ ⟨c',by simp [v],by simp [E],by simp [F],by simp [z],by rw [u];exact O⟩ (by simp [A])
    ·rw [aY I,ars]at u;refine ak (by simp [I]) (aM (aA ?_));refine nx _ _ ⟨c,by simp [v],by simp [E],by simp [F],by simp [z],by rw [u];exact d⟩ (by simp [A])
   ·rintro t J ⟨c,v,E,F,z,d⟩ A;rw [aqX]at d;have d_:F1++[m]++s.mv.filter (fun x=>decide (m.day<x.day))=ku s.mv m:=by rw [a9];simp [ku]
    rw [d_]at d;have j9:=sA (m:=m) h.ms;obtain⟨X,-,-,-⟩:=d.lds;have e3:aX J (aa 7) (.c (.ptr 3 0 0))=aa (.a (q.dA c)):=by
     have:=d.b3;simp [aX,this,aF,aI,bl.dA]
    have c9:=d.b2;have h_:df J (.ptr 2 0 0) (q.dA c)=aa (J.set 2 (.box (q.dA c) 0)):=by simp [df,c9,kh,over,bl.dA]
    have d6:=d.lr.len;have c_:(q.dA c).length=7:=rfl;refine an (ai ?_);simp [z,X,-au,d6,show¬ (64:Int)<(ku s.mv m).length by omega];refine a5 (by simp) ?_;apply ai;simp [z,F,e3,h_,-au,-bu,c_];obtain⟨Jf,a_⟩:=aT (J.set 2 (.box (q.dA c) 0):aj);rw [←a_];have hL:LR Jf c 5 (aQ (ku s.mv m)):=by rw [a_];exact d.lr.set (fun e=>by have:=d.cb 2 e;omega) _
    obtain⟨g',Y⟩:=hL.ex (bR _) 63;have g_:da deep Jf c=aa (sl g' (aQ (ku s.mv m))):=Y;have e2:aX Jf (aa 7) (.c (.ptr 2 0 0))=aa (.a (q.dA c)):=by
     have:Jf[2]?=aa (.box (q.dA c) 0):=by rw [a_];exact IS (aw c9)
     simp [aX,this,aF,aI,bl.dA]
    refine aH (hQ _ _ _ ⟨⟨q.rg,q.ru,q.mi,q.le,q.zo,q.cJ,q.fold,g',ku s.mv m⟩,⟨hq.ru,hq.mi,hq.le,hq.zo,hq.cJ,hq.fold,rfl⟩,rfl⟩ ⟨rfl,.t [.a (q.dA c),vi 0],?_,?_⟩)
    ·simp [Km.results,bJ,bj,F,e2,-au]
    ·simp [iI,cg,bj,g_,bl.row,bl.dA]
 exact⟨q',e_,hp.eq⟩
inductive dZ:List bI→List bI→Prop
 | nil:dZ [] []
 | step {r o o' t}:dZ r o→UF t o o'→dZ (r++[t]) o'
def TLe(a b:bI):Prop:=a.at_≤b.at_
def XD(a b:bI):Prop:=a.at_<b.at_
theorem UF.perm{t:bI}{l o:List bI}(h:UF t l o):o.Perm (l++[t]):=by
 obtain⟨A,B,rfl,rfl,-,-⟩:=h;exact List.perm_middle.trans (List.perm_append_singleton t (A++B)).symm
theorem dZ.perm:∀ {r o:List bI},dZ r o→o.Perm r
 | _,_,.nil=>List.Perm.refl _| _,_,.step h b=>b.perm.trans ((dZ.perm h).append_right _)
theorem dZ.len{r o:List bI}(h:dZ r o):o.length=r.length:=h.perm.length_eq
theorem rL:∀ {a b:List bI},a.Pairwise XD→b.Pairwise TLe→b.Perm a→b=a
 | [],b,_,_,h=>h.eq_nil| x::a,[],_,_,h=>by cases h.symm.eq_nil
 | x::a,y::b,d,g,h=>by
  rw [arV]at d g;have l:y=x:=by
   have m:y ∈ x::a:=h.subset (aqK ..);have j:x ∈ y::b:=h.symm.subset (aqK ..);rcases arw.1 m with e | m
   ·exact e
   ·rcases arw.1 j with e | j
    ·exact e.symm
    ·have q:=d.1 y m;have s:=g.1 x j;unfold XD at q;unfold TLe at s;omega
  subst l;rw [rL d.2 g.2 (h.cons_inv)]
def dC(o:List bI)(size:Int)(i:Nat):Int:=match o[i+1]? with
 | some y=>y.at_| none=>(match o[0]? with | some y=>y.at_ | none=>0)+size
def kk(o:List bI)(size:Int)(n:Nat):Bool:=(List.range n).all fun i=>match o[i]? with
 | some x=>decide (2160≤dC o size i-x.at_)| none=>ae
def di(o:List bI)(size:Int):Bool:=kk o size o.length
theorem xA{o:List bI}{size:Int}(h:di o size=ae):∀ i x y,o[i]?=aa x→o[i+1]?=aa y→x.at_+2160≤y.at_:=by
 intro i x y d g;unfold di kk at h;have b:=aqH.1 h i (by have:=(By.1 d).1;simpa using this);simp only [d,dC,g]at b;have:=of_decide_eq_true b;omega
theorem mX:∀ {o:List bI},(∀ i x y,o[i]?=aa x→o[i+1]?=aa y→x.at_+2160≤y.at_)→o.Pairwise XD
 | [],_=>List.Pairwise.nil| [x],_=>List.pairwise_singleton _ _
 | x::y::l,h=>by
  have g:=mX (o:=y::l) fun i a b j m=>h (i+1) a b (by simpa using j) (by simpa using m);have q:x.at_+2160≤y.at_:=h 0 x y (by simp) (by simp);refine arV.2 ⟨fun z d=>?_,g⟩;unfold XD;rcases arw.1 d with rfl | d
  ·omega
  ·have:=(arV.1 g).1 z d;unfold XD at this;omega
theorem jK{o:List bI}{size:Int}(h:di o size=ae):o.Pairwise XD:=mX (xA h)
def JQ:Nat→Int
 | 0=>2| _=>5
def ji(c:Nat):Nat→Int
 | 0=>JQ c| y+1=>ji c y+(qY c (y+1):Nat)
def nY:Nat→Nat
 | 0=>7| _=>14
def cyc(c:Nat):Int:=7*(ij c:Nat)
theorem xX{c:Nat}(b:c<3):ji c (nY c)=JQ c+cyc c:=by
 have:c=0∨c=1∨c=2:=by omega
 rcases this with rfl | rfl | rfl<;>decide
theorem Cx(c y:Nat):12≤qY c y:=by
 have b:=oL c y 1;have d:=oL c y 2;unfold qY;omega
theorem xY(c:Nat){y b:Nat}(h:y<b):ji c y<ji c b:=by
 induction h with
 | refl=>have:=Cx c (y+1);simp only [ji];omega| step _ d=>rename_i m _;have:=Cx c (m+1);simp only [ji]at *;omega
theorem th{c y:Nat}(g:c<3)(j:y≤nY c):2≤ji c y∧ji c y≤222:=by
 have d:ji c 0≤ji c y:=by
  rcases ara y with rfl | h
  ·exact arK _
  ·exact Int.le_of_lt (xY c h)
 have b:ji c y≤ji c (nY c):=by
  rcases Nat.lt_or_eq_of_le j with h | rfl
  ·exact Int.le_of_lt (xY c h)
  ·exact arK _
 rw [xX g]at b;have:c=0∨c=1∨c=2:=by omega
 rcases this with rfl | rfl | rfl<;>simp [ji,JQ,cyc,ij]at d b<;>omega
def dU(c y:Nat)(r q:ey):List bI:=
 let b:=ji c (y-1)
 if gm (nS c y b r) (pT c y r) r.wk r.wd then [⟨jE (nS c y b r) (pT c y r) r.wk r.wd*1440+r.mi-q.off,r.off⟩]else []
def nf(c:Nat)(r q:ey):Nat→List bI
 | 0=>[]| n+1=>nf c r q n++(dU c (n+1) r q++dU c (n+1) q r)
theorem iZ(c y:Nat)(r q:ey):(dU c y r q).length≤1:=by simp only [dU];split<;>simp
theorem jc(c:Nat)(r q:ey):∀ n,(nf c r q n).length≤2*n
 | 0=>by simp [nf]
 | n+1=>by
  have b:=jc c r q n;have d:=iZ c (n+1) r q;have g:=iZ c (n+1) q r;simp only [nf,aft];omega
structure ZD where
 c:Nat
 start:Int
 tg:Tg
 tr:List bI
 eP:Int
 yg:Tg
 yr:List ey
def ZD.row(z:ZD):List FC:=fN z.c++[fi z.start,sl z.tg (aR z.tr),fi z.eP,sl z.yg (bO z.yr)]
abbrev ZD.v(z:ZD):V:=.a (z.row.map .f)
theorem ZD.sH{z:ZD}(hc:z.c<3):z.row.length=8:=by
 obtain⟨c,s,tg,tr,h,yg,yr⟩:=z;have:c=0∨c=1∨c=2:=by simp at hc;omega
 rcases this with rfl | rfl | rfl<;>rfl
section
variable{H:aj}{b:Nat}{z:ZD}{fl:Nat}
theorem VJ(h:H[b]?=aa (.box (z.row.map .f) fl))(d:z.c<3):aX H ab (.c (.ptr b 4 0))=aa (vi z.start):=by
 obtain⟨c,s,j,l,g,m,yr⟩:=z;have:c=0∨c=1∨c=2:=by simp at d;omega
 rcases this with rfl | rfl | rfl<;>simp [aX,h,aF,ZD.row,fN,aI]
theorem fF(h:H[b]?=aa (.box (z.row.map .f) fl))(d:z.c<3):aX H ab (.c (.ptr b 5 0))=aa (.c (.f (sl z.tg (aR z.tr)))):=by
 obtain⟨c,s,j,l,g,m,yr⟩:=z;have:c=0∨c=1∨c=2:=by simp at d;omega
 rcases this with rfl | rfl | rfl<;>simp [aX,h,aF,ZD.row,fN,aI]
theorem kH(h:H[b]?=aa (.box (z.row.map .f) fl))(d:z.c<3):aX H ab (.c (.ptr b 6 0))=aa (vi z.eP):=by
 obtain⟨c,s,j,l,g,m,yr⟩:=z;have:c=0∨c=1∨c=2:=by simp at d;omega
 rcases this with rfl | rfl | rfl<;>simp [aX,h,aF,ZD.row,fN,aI]
theorem gv(h:H[b]?=aa (.box (z.row.map .f) fl))(d:z.c<3):aX H ab (.c (.ptr b 7 0))=aa (.c (.f (sl z.yg (bO z.yr)))):=by
 obtain⟨c,s,j,l,g,m,yr⟩:=z;have:c=0∨c=1∨c=2:=by simp at d;omega
 rcases this with rfl | rfl | rfl<;>simp [aX,h,aF,ZD.row,fN,aI]
theorem yH(h:H[b]?=aa (.box (z.row.map .f) fl))(d:z.c<3):aX H ab (.c (.ptr b 0 0))=aa (vi (JQ z.c)):=by
 obtain⟨c,s,j,l,g,m,yr⟩:=z;have:c=0∨c=1∨c=2:=by simp at d;omega
 rcases this with rfl | rfl | rfl<;>simp [aX,h,aF,ZD.row,fN,aI,JQ]
theorem jq(h:H[b]?=aa (.box (z.row.map .f) fl))(d:z.c<3):aX H (aa 4) (.c (.ptr b 0 0))=aa (jD z.c):=by
 obtain⟨c,s,j,l,g,m,yr⟩:=z;have:c=0∨c=1∨c=2:=by simp at d;omega
 rcases this with rfl | rfl | rfl<;>simp [aX,h,aF,ZD.row,fN,aI]
theorem eR(h:H[b]?=aa (.box (z.row.map .f) fl))(d:z.c<3):aX H (aa 8) (.c (.ptr b 0 0))=aa z.v:=by
 obtain⟨c,s,j,l,g,m,yr⟩:=z;have:c=0∨c=1∨c=2:=by simp at d;omega
 rcases this with rfl | rfl | rfl<;>simp [aX,h,aF,ZD.row,fN,aI]
end
def ZD.cyc(z:ZD):Int:=if z.yr.length=0 then 1 else Go.Proofs.YtmbjejcfadllnaaGreat.cyc z.c
theorem rk(z:ZD)(b:z.c<3):bF tab.get 68 [z.v]=Eq (vi z.cyc):=bF.eq (by
 refine bK rfl rfl fun Q d=>?_;apply ai;simp;have g:([.box (z.row.map .f) 0]:aj)[0]?=aa (.box (z.row.map .f) 0):=rfl;apply an;apply ai;simp [gv g b,-au];by_cases h:z.yr=[]
 ·refine al (by simp [h]) ?_;apply ai;simp;refine aH (d _ _ ?_);simp [ZD.cyc,h]
 ·refine a5 (by simp [h]) ?_;apply ai;simp [jq g b,-au,JN b];apply an;apply ai;have hr:bM .rem (vi (ij z.c:Nat)) (vi 7)=aa (vi (((ij z.c:Nat):Int) % 7)):=nK (by omega) (by omega);have l:ij z.c=13∨ij z.c=31:=by unfold ij;split<;>simp
  have j:=aO (n:=7*((ij z.c:Nat):Int));simp [hr];refine al (by simp;omega) ?_;apply ai;simp [j];refine aH (d _ _ ?_);simp [ZD.cyc,h,cyc])
theorem yq{c y:Nat}{b:Int}{x:ey}(j:0≤b)(d:b≤260)(m:x.OK):-10≤jE (nS c y b x) (pT c y x) x.wk x.wd∧jE (nS c y b x) (pT c y x) x.wk x.wd≤300:=by
 have q:=fB c y 1;have s:=fB c y x.mo.toNat;have u:=oL c y x.mo.toNat;have l:pT c y x=(jG c y x.mo.toNat:Nat):=rfl;have g:b≤nS c y b x∧nS c y b x≤b+9:=by unfold nS;split<;>omega
 unfold jE;split<;>omega
structure xS(fl:List FC)(s:FC)(k m:Nat)(r q:ey):Prop where
 i:∀ H:aj,aL H 5 ab (.c (.f s)) (vi k)=aa (.c (.f (.fp fl (k*5))))
 i':∀ H:aj,aL H 5 ab (.c (.f s)) (vi m)=aa (.c (.f (.fp fl (m*5))))
 row:∀ H:aj,aX H (aa 5) (.c (.f (.fp fl (k*5))))=aa (.a (r.row.map .f))
 mi:∀ H:aj,aX H ab (.c (.f (.fp fl (k*5+3))))=aa (vi r.mi)
 of:∀ H:aj,aX H ab (.c (.f (.fp fl (k*5+4))))=aa (vi r.off)
 of':∀ H:aj,aX H ab (.c (.f (.fp fl (m*5+4))))=aa (vi q.off)
theorem ad7(g:Tg)(r q:ey):xS (bO [r,q]).flatten (sl g (bO [r,q])) 0 1 r q:=
 ⟨fun _=>rfl,fun _=>rfl,fun _=>rfl,fun _=>rfl,fun _=>rfl,fun _=>rfl⟩
theorem ad8(g:Tg)(r q:ey):xS (bO [r,q]).flatten (sl g (bO [r,q])) 1 0 q r:=
 ⟨fun _=>rfl,fun _=>rfl,fun _=>rfl,fun _=>rfl,fun _=>rfl,fun _=>rfl⟩
theorem xk(c:Nat):nY c≤14:=by unfold nY;split<;>omega
theorem FQ{z:ZD}(E:z.c<3){fl:List FC}{k m y:Nat}{r q:ey}(j:xS fl (sl z.yg (bO z.yr)) k m r q)(S:(1:Int)-k=m)(hr:r.OK)(hq:q.OK)(hy:y<nY z.c)
  {t:T} {J:aj} {cl:C} {o g:List bI} (l:J[0]?=aa (.box (z.row.map .f) 0)) (L:LR J cl 2 (aR o)) (W:dZ g o) (a_:g.length≤100)
  (A:t.g 1=.c (.ptr 0 0 0)) (Z:t.g 4=.c cl) (g5:t.g 5=vi (cyc z.c)) (F:t.g 6=vi (ji z.c y)) (H:t.g 7=vi ((y:Int)+1)) (B:t.g 8=vi (k:Nat)) {K:List cd} {Q:Option av→St→Prop}
  (next:∀(t:T) (J:aj) (cl:C) (o:List bI),J[0]?=aa (.box (z.row.map .f) 0)→LR J cl 2 (aR o)→dZ (g++dU z.c (y+1) r q) o→t.g 1=.c (.ptr 0 0 0)→t.g 4=.c cl→t.g 5=vi (cyc z.c)→t.g 6=vi (ji z.c y)→t.g 7=vi ((y:Int)+1)→t.g 8=vi (k:Nat) →
   WP tab.get 66 ab K ⟨t,[],J⟩ Q) :
  WP tab.get 66 ab (.code Ap::K) ⟨t,[],J⟩ Q:=by
 have b7:=xk z.c;obtain⟨b0,b1⟩:=th E (Nat.le_of_lt hy);have hf:=aba E (y:=y+1) (by omega) (by omega) (b:=ji z.c y) (by omega) (by omega) r hr;rw [show((y+1:Nat):Int)=(y:Int)+1 by omega]at hf;obtain⟨d0,d1⟩:=yq (c:=z.c) (y:=y+1) (b:=ji z.c y) (x:=r) (by omega) (by omega) hr;obtain⟨-,-,-,-,m0,m1,o0,o1⟩:=hr;obtain⟨-,-,-,-,-,-,p0,p1⟩:=hq;have d:dU z.c (y+1) r q=if gm (nS z.c (y+1) (ji z.c y) r) (pT z.c (y+1) r) r.wk r.wd then [⟨jE (nS z.c (y+1) (ji z.c y) r) (pT z.c (y+1) r) r.wk r.wd*1440+r.mi-q.off,r.off⟩]else []:=rfl;generalize hD:jE (nS z.c (y+1) (ji z.c y) r) (pT z.c (y+1) r) r.wk r.wd=D at *;generalize hO:gm (nS z.c (y+1) (ji z.c y) r) (pT z.c (y+1) r) r.wk r.wd=O at *;refine aC ?_;apply ai;have u:=j.row J;have hi:=j.i J;have Y:=jq l E;have v:=gv l E;simp [A,F,H,B,Y,v,hi,u,hf,-au];apply an;refine aq (.inl rfl) ?_;simp;cases O with
 | false=>
  simp only [anc,if_false]at d;rw [d,ars]at next
  refine ak (by simp) (aM (aA ?_));exact next _ J cl o l L W (by simp [A]) (by simp [Z]) (by simp [g5]) (by simp [F]) (by simp [H]) (by simp [B])
 | true=>
  simp only [if_true]at d;refine al (by simp) ?_;refine aq (.inl rfl) ?_;have w1:=aO (n:=D*1440);have w2:=aO (n:=D*1440+r.mi);have w3:=aO (n:=D*1440+r.mi-q.off);have w4:ah .i64 (1-(k:Int))=m:=by rw [aO,S]
  have N:=j.i' J;have U:=j.mi J;have X:=j.of J;have s:=j.of' J;have a8:=W.len;obtain⟨o',cl',J',hI,hE,M,hK,a9⟩:=Kc L (by omega) ⟨D*1440+r.mi-q.off,r.off⟩;simp only [bI.row,ao1,aqD]at hE;have I:=hE.eq;simp [A,Z,B,v,hi,N,U,X,s,w1,w2,w3,w4,I,-au];refine aA ?_;rw [d]at next
  exact next _ J' cl' o' (hK.2 _ _ l (L.cY l)) M (.step W hI) (by simp [A]) (by simp) (by simp [g5]) (by simp [F]) (by simp [H]) (by simp [B])
theorem ahi{z:ZD}(F:z.c<3){r q:ey}(L:z.yr=[r,q])(hr:r.OK)(H:q.OK){y:Nat}(I:y<nY z.c)
  {t:T} {J:aj} {cl:C} {o A:List bI} (v:J[0]?=aa (.box (z.row.map .f) 0)) (x:LR J cl 2 (aR o)) (b:dZ A o) (N:A.length≤90)
  (d:t.g 1=.c (.ptr 0 0 0)) (g:t.g 4=.c cl) (j:t.g 5=vi (cyc z.c)) (l:t.g 6=vi (ji z.c y)) (u:t.g 7=vi ((y:Int)+1)) {K:List cd} {Q:Option av→St→Prop}
  (next:∀(t:T) (J:aj) (cl:C) (o:List bI),J[0]?=aa (.box (z.row.map .f) 0)→LR J cl 2 (aR o)→dZ (A++(dU z.c (y+1) r q++dU z.c (y+1) q r)) o→t.g 1=.c (.ptr 0 0 0)→t.g 4=.c cl→t.g 5=vi (cyc z.c)→t.g 6=vi (ji z.c y)→t.g 7=vi ((y:Int)+1) →
   WP tab.get 66 ab K ⟨t,[],J⟩ Q) :
  WP tab.get 66 ab (.code Ao::K) ⟨t,[],J⟩ Q:=by
 apply ai;simp;refine aC ?_;refine bD (fun n s=>∃(k:Nat) (t:T) (J:aj) (cl:C) (o:List bI),s=⟨t,[],J⟩∧n=2-k∧k≤2∧J[0]?=aa (.box (z.row.map .f) 0)∧LR J cl 2 (aR o) ∧
   dZ (A++((if 1≤k then dU z.c (y+1) r q else [])++(if 2≤k then dU z.c (y+1) q r else []))) o ∧
   t.g 1=.c (.ptr 0 0 0)∧t.g 4=.c cl∧t.g 5=vi (cyc z.c)∧t.g 6=vi (ji z.c y)∧t.g 7=vi ((y:Int)+1)∧t.g 8=vi (k:Nat)) 2
  ⟨0,_,J,cl,o,rfl,rfl,by omega,v,x,by simpa using b,by simp [d],by simp [g],by simp [j],by simp [l],by simp [u],by simp⟩ ?_
 clear v x b d g j l u;rintro n s ⟨k,t,J,cl,o,rfl,rfl,O,v,x,b,d,g,j,l,u,B⟩ M;apply an;apply ai;simp [B];have S:=iZ z.c (y+1) r q;have U:=iZ z.c (y+1) q r;have E:k=0∨k=1∨k=2:=by omega
 rcases E with rfl | rfl | rfl
 ·refine al (by simp) (aM ?_);apply an;simp at b;refine FQ F (m:=1) (by rw [L];exact ad7 z.yg r q) (by decide) hr H I v x b (by omega) (by simp [d]) (by simp [g]) (by simp [j]) (by simp [l]) (by simp [u]) (by simp [B]) ?_;intro t J cl o v x b d g j l u B;refine aq (.inl rfl) ?_;simp [B];exact M 1 _ (by omega) ⟨1,_,J,cl,o,rfl,rfl,by omega,v,x,by simpa using b,by simp [d],by simp [g],by simp [j],by simp [l],by simp [u],by simp [show ah .i64 1=1 from rfl]⟩
 ·refine al (by simp) (aM ?_);apply an;simp at b;refine FQ F (m:=0) (by rw [L];exact ad8 z.yg r q) (by decide) H hr I v x b (by simp;omega) (by simp [d]) (by simp [g]) (by simp [j]) (by simp [l]) (by simp [u]) (by simp [B]) ?_;intro t J cl o v x b d g j l u B;refine aq (.inl rfl) ?_;simp [B];exact M 0 _ (by omega) ⟨2,_,J,cl,o,rfl,rfl,by omega,v,x,by simpa using b,by simp [d],by simp [g],by simp [j],by simp [l],by simp [u],by simp [show ah .i64 2=2 from rfl]⟩
 ·refine ak (by simp) ?_;refine bp (k':=K) rfl ?_;simp at b;exact next _ J cl o v x (by simpa using b) (by simp [d]) (by simp [g]) (by simp [j]) (by simp [l]) (by simp [u])
def rf(x:bI):Prop:=-20000≤x.at_∧x.at_≤500000
theorem xn{c y:Nat}{r q:ey}(g:c<3)(l:y<nY c)(hr:r.OK)(j:q.OK):∀ x ∈ dU c (y+1) r q,rf x:=by
 intro x d;obtain⟨b0,b1⟩:=th g (Nat.le_of_lt l);obtain⟨m,s⟩:=yq (c:=c) (y:=y+1) (b:=ji c y) (x:=r) (by omega) (by omega) hr;obtain⟨-,-,-,-,u,v,-,-⟩:=hr;obtain⟨-,-,-,-,-,-,p0,p1⟩:=j;simp only [dU,Nat.add_sub_cancel]at d;split at d
 ·simp only [List.mem_singleton]at d;subst d;unfold rf;simp only;omega
 ·cases d
theorem oU{c:Nat}{r q:ey}(d:c<3)(hr:r.OK)(g:q.OK):∀ n,n≤nY c→∀ x ∈ nf c r q n,rf x
 | 0,_,x,b=>by cases b
 | n+1,j,x,b=>by
  simp only [nf,aq4]at b;rcases b with b | b | b
  ·exact oU d hr g n (by omega) x b
  ·exact xn d (by omega) hr g x b
  ·exact xn d (by omega) g hr x b
theorem vH(o:List bI)(size:Int)(n:Nat){x:bI}(h:o[n]?=aa x):kk o size (n+1)=(kk o size n&&decide (2160≤dC o size n-x.at_)):=by
 simp [kk,List.range_succ,h]
theorem Ch{o:List bI}{size:Int}{n:Nat}{x:bI}(h:o[n]?=aa x)(d:¬ 2160≤dC o size n-x.at_):di o size=ag:=by
 cases e:di o size with
 | false=>rfl
 | true=>
  have b:=aqH.1 e n (by have:=(By.1 h).1;simpa using this);simp only [h]at b;exact absurd (of_decide_eq_true b) d
theorem CA(z:ZD)(v:z.c<3){r q:ey}(hz:z.yr=[r,q])(hr:r.OK)(hq:q.OK):∃ g o,dZ (nf z.c r q (nY z.c)) o ∧
  bF tab.get 66 [z.v]=Eq (.t [.c (.f (sl g (aR o))),vb (di o (cyc z.c*1440))]):=by
 obtain⟨rr,⟨g,o,B,rfl⟩,hp⟩:∃ rr,(∃ g o,dZ (nf z.c r q (nY z.c)) o∧rr=.t [.c (.f (sl g (aR o))),vb (di o (cyc z.c*1440))])∧bF tab.get 66 [z.v] rr:=by
  refine cA rfl rfl fun Q hQ=>?_;apply ai;simp;have F:([.box (z.row.map .f) 0]:aj)[0]?=aa (.box (z.row.map .f) 0):=rfl;have b9:z.cyc=cyc z.c:=by simp [ZD.cyc,hz]
  have c_:cyc z.c=91∨cyc z.c=217:=by unfold cyc ij;split<;>simp
  have d6:JQ z.c=2∨JQ z.c=5:=by unfold JQ;split<;>simp
  have U:=xX v;have d8:=xk z.c;apply ai;simp;apply an;apply ai;simp [gv F v,-au,hz];refine a5 (by simp) ?_;apply ai;simp [eR F v,-au,rk z v,b9];apply ai;simp [yH F v,-au];apply an;apply ai;simp;refine aC ?_;refine bD (fun n s=>∃(y:Nat) (t:T) (J:aj) (cl:C) (o:List bI),s=⟨t,[],J⟩∧n=nY z.c-y∧y≤nY z.c∧J[0]?=aa (.box (z.row.map .f) 0)∧LR J cl 2 (aR o)∧dZ (nf z.c r q y) o ∧
    t.g 1=.c (.ptr 0 0 0)∧t.g 4=.c cl∧t.g 5=vi (cyc z.c)∧t.g 6=vi (ji z.c y)∧t.g 7=vi ((y:Int)+1)) (nY z.c)
   ⟨0,_,_,.f .es,[],rfl,rfl,by omega,F,.inl ⟨rfl,.inr rfl⟩,.nil,by simp,by simp,by simp,by simp [ji],by simp⟩ ?_
  rintro n s ⟨y,t,J,cl,o,rfl,rfl,hy,S,I,B,H,d,u,N,O⟩ ih;obtain⟨b0,b1⟩:=th v hy;apply an;apply ai;simp [H,u,N,yH S v,-au,aO (n:=JQ z.c+cyc z.c)];by_cases W:y<nY z.c
  ·have h1:=xY z.c W;refine al (by simp;omega) (aM ?_);apply an;refine aC ?_;apply an;have d_:=jc z.c r q y;refine ahi v hz hr hq W S I B (by omega) (by simp [H]) (by simp [d]) (by simp [u]) (by simp [N]) (by simp [O]) ?_;clear H d u N O S I B;intro t J cl o S I B H d u N O;have Y:=Cy v (y:=y+1) (by omega) (by omega);rw [show((y+1:Nat):Int)=(y:Int)+1 by omega]at Y;have e_:qY z.c (y+1)≤18:=by
    have h1:=fB z.c (y+1) 1;have h2:=fB z.c (y+1) 2;unfold qY;omega
   refine aq (.inl rfl) ?_;simp [H,N,O,jq S v,-au,Y,aO (n:=ji z.c y+(qY z.c (y+1):Nat))];refine aA ?_;refine aq (.inl rfl) ?_;simp [O,aO (n:=(y:Int)+1+1)];exact ih (nY z.c-(y+1)) _ (by omega) ⟨y+1,_,J,cl,o,rfl,rfl,by omega,S,I,B,by simp [H],by simp [d],by simp [u],by simp [ji],by simp⟩
  ·have c9:y=nY z.c:=by omega
   subst c9;rw [U];refine ak (by simp) ?_;refine bp (k':=[.code Aq]) rfl ?_;have K:∀ x ∈ o,rf x:=fun x hx=>oU v hr hq _ (IT _) x (B.perm.subset hx);obtain⟨g',L⟩:=I.ex (cq _) 63;have d9:o.length≤28:=by have:=B.len;have:=jc z.c r q (nY z.c);omega
   apply an;apply ai;simp;refine aC ?_;clear ih;refine bD (fun n s=>∃(i:Nat) (t:T),s=⟨t,[],J⟩∧n=o.length-i∧i≤o.length∧kk o (cyc z.c*1440) i=ae∧t.g 4=.c cl∧t.g 5=vi (cyc z.c)∧t.g 11=vi (i:Nat)) o.length
    ⟨0,_,rfl,rfl,by omega,rfl,by simp [d],by simp [u],by simp⟩ ?_
   clear H d u N O;rintro n s ⟨i,t,rfl,rfl,hi,X,d,u,j⟩ ih;apply an;apply ai;simp [d,j,I.len];by_cases l:i<o.length
   case neg=>
    have:i=o.length:=by omega
    subst this;refine ak (by simp) ?_;refine bp (k':=[.code sS]) rfl ?_;apply ai;simp [d];refine aH (hQ _ _ (.t [.c (.f (sl g' (aR o))),vb (di o (cyc z.c*1440))]) ⟨g',o,B,rfl⟩ ?_);have:di o (cyc z.c*1440)=ae:=X;simp [iI,cg,deep,L,this,bj,d]
   refine al (by simp [l]) (aM ?_);apply an;refine aC ?_;rcases I with⟨h,_⟩ | ⟨_,b,Z,rfl,hb⟩
   ·have:o=[]:=by simpa [aR]using h
    subst this;simp at l
   rw [kX]at d L;have b_:=cq o;have M:∀ k:Nat,k<o.length→aL J 2 ab (.c (.sl b 0 o.length 0 Z 2)) (vi k)=aa (.c (.ptr b (k*2) Z)):=fun k hk=>by
    have:=hb.idx (n:=o.length) (c:=0) (k:=.i64) (o:=0) (i:=(k:Int)) (by omega) (by omega);simpa using this
   have A:∀ k:Nat,(hk:k<o.length)→aX J ab (.c (.ptr b (k*2) Z))=aa (vi o[k].at_):=fun k hk=>by
    have:=hb.ldc b_ (du (At hk)) (k:=0) (x:=fi o[k].at_) rfl;simpa using this
   have o0:0<o.length:=by omega
   have i0:=M 0 o0;have l0:=A 0 o0;have ii:=M i l;have li:=A i l;have a9:=K _ (OF o0);have b7:=K _ (OF l);unfold rf at a9 b7;simp [-au]at i0 l0;have w1:=aO (n:=cyc z.c*1440);have w2:=aO (n:=o[0].at_+cyc z.c*1440);have w3:=aO (n:=(i:Int)+1);apply ai;simp [d,u,i0,l0,w1,w2,-au];apply an;have m:∀ t:T,t.g 4=.c (.sl b 0 o.length 0 Z 2)→t.g 5=vi (cyc z.c)→t.g 11=vi (i:Nat)→t.g 12=vi (dC o (cyc z.c*1440) i)→-20000≤dC o (cyc z.c*1440) i→dC o (cyc z.c*1440) i≤900000 →
     WP tab.get 66 ab [.code As,.inBlock 5,.code Au,.inLoop Ar,.inBlock 4,.code sS] ⟨t,[],J⟩ Q:=by
    intro t d u j a8 n0 n1;apply ai;simp [d,j,a8,ii,li,-au,aO (n:=dC o (cyc z.c*1440) i-o[i].at_)];by_cases hs:dC o (cyc z.c*1440) i-o[i].at_<2160
    ·refine al (by simp [hs]) ?_;apply ai;simp [d];refine aH (hQ _ _ (.t [.c (.f (sl g' (aR o))),vb (di o (cyc z.c*1440))]) ⟨g',o,B,rfl⟩ ?_);have:di o (cyc z.c*1440)=ag:=Ch (At l) (by omega);simp [iI,cg,deep,L,this,bj,d]
    ·refine ak (by simp;omega) (aM (aA ?_));refine aq (.inl rfl) ?_;simp [j,w3];refine ih (o.length-(i+1)) _ (by omega) ⟨i+1,_,rfl,rfl,by omega,?_,by simp [d,kX],by simp [u],by simp⟩;rw [vH _ _ _ (At l),X];simp;omega
   by_cases E:i+1<o.length
   ·have i1:=M (i+1) E;have l1:=A (i+1) E;have a_:=K _ (OF E);unfold rf at a_;rw [show((i+1:Nat):Int)=(i:Int)+1 by omega]at i1;have hn:dC o (cyc z.c*1440) i=o[i+1].at_:=by simp [dC,At E]
    rw [hn]at m;apply ai;simp [d,j,w3,hb.len];refine al (by simp;omega) ?_;refine aq (.inl rfl) ?_;simp [d,j,w3,i1,l1,-au];exact m _ (by simp [d]) (by simp [u]) (by simp [j]) (by simp) (by omega) (by omega)
   ·have hn:dC o (cyc z.c*1440) i=o[0].at_+cyc z.c*1440:=by
     simp [dC,List.getElem?_eq_none_iff.2 (show o.length≤i+1 by omega),At o0]
    rw [hn]at m;apply ai;simp [d,j,w3,hb.len];refine ak (by simp;omega) (aM ?_);exact m _ (by simp [d]) (by simp [u]) (by simp [j]) (by simp) (by omega) (by omega)
 exact⟨g,o,B,bF.eq hp⟩
def lC(n:Nat):Int:=match n % 8 with
 | 0=>0 | 1=>60 | 2=>120 | 3=>-90 | 4=>30 | 5=>1080 | 6=>-1080 | _=>90
def isZ(r:Option (V × aj))(n:Int):Bool:=match r with
 | some (.c (.f (.int .i64 k)),_)=>decide (k=n)| _=>ag
theorem afz{r:Option (V × aj)}{n:Int}(h:isZ r n=ae):r.map (·.1)=aa (vi n):=by
 unfold isZ at h;split at h
 ·rw [of_decide_eq_true h];rfl
 ·cases h
theorem Xf:((List.range 256).all fun n=>isZ (CF tab.get 60 10 (.fn 22) [.c (.f (.int .u8 (n:Nat)))] []) (lC n))=ae:=by kernel_rfl
theorem zn{n:Nat}(h:n<256):bF tab.get 22 [.c (.f (.int .u8 (n:Nat)))]=Eq (vi (lC n)):=(dY (afz (dm (p:=fun n=>isZ (CF tab.get 60 10 (.fn 22) [.c (.f (.int .u8 (n:Nat)))] []) (lC n)) Xf h))).eq
theorem kj(n:Nat):-1080≤lC n∧lC n≤1080:=by unfold lC;split<;>omega
theorem Ct(n m:Int)(d:0≤m)(g:m≤4611686018427387904):bF tab.get 65 [vi n,vi m]=Eq (vb (decide (-m≤n)&&decide (n≤m))):=bF.eq (by
 refine bK rfl rfl fun Q b=>?_;apply ai;simp;by_cases h:-m≤n
 ·apply ai;simp [zy,aO (n:=-m),h];refine aH (b _ _ ?_);simp [h]
 ·apply ai;simp [zy,aO (n:=-m),h];refine aH (b _ _ ?_);simp [h])
theorem uO{n m:Int}(d:0≤m)(g:m≤4611686018427387904)(h:-m≤n)(b:n≤m):bF tab.get 65 [vi n,vi m]=Eq (vb ae):=by
 rw [Ct n m d g];simp [h,b]
theorem xF{n m:Int}(d:0≤m)(g:m≤4611686018427387904)(h:-m≤n)(b:n≤m):bF tab.get 49 [vi n,vi m]=Eq (vb ae):=by
 rw [Li n m d g];simp [h,b]
theorem abG:((List.range 65).all fun n=>match (CF tab.get 20 20 (.fn 78) [.c (.f (.int .u64 n))] [])with | some (.c (.f (.int .i64 (.ofNat k))),_)=>Nat.ble k 62&&(Nat.beq n 0||Nat.ble (2 ^ k) (2*n)) | _=>ag)=ae:=by kernel_rfl
theorem ajg:ahR tab.get ba 64:=fun n h=>by
 have j:=abG;rw [aqH]at j;have b:=j n (by simp;omega);split at b
 ·rename_i k H' e;rw [Bool.and_eq_true,Bool.or_eq_true]at b;refine⟨k,(dY (m:=20) (d:=20) (by rw [e];rfl)).eq,ary b.1,fun l=>?_⟩;rcases b.2 with g | g
  ·have:=arp g;omega
  ·exact ary g
 ·cases b
theorem ac0:aej tab.get ba 2:=⟨aeC,aeu,aet,aeE,aer,aes,aeD,
 aeA,aeB,aez,aev,aew,aey,aex,aeF⟩
theorem Xp(x y:bI):Kf tab.get 121 [.a (x.row.map .f),.a (y.row.map .f)] (vi (jS x.at_ y.at_)):=by
 refine oH rfl rfl fun H Q b=>?_;apply ai;simp [bI.row];apply ai;simp [nD];refine aH (b _ _ ?_);simp
def rU:List FC→bI
 | [.int _ a,.int _ b]=>⟨a,b⟩| _=>⟨0,0⟩
def Jx(r:List FC):Prop:=r=(rU r).row
theorem Vz(x:bI):Jx x.row:=rfl
def V5(r s:List FC):Int:=jS (rU r).at_ (rU s).at_
theorem ae':uU Jx V5 where
 Dk:=fun _ _ h b=>by
  unfold V5 at h b;rw [jT]at h b;omega
 trans:=fun _ _ _ h b=>by
  unfold V5 at *;rw [jT]at *;omega
theorem aiP:Cv tab.get (.c (.f (.fn 121 []))) Jx V5:=by
 intro x y b d H;obtain⟨J,h⟩:=Xp (rU x) (rU y) H;rw [←show x=(rU x).row from b,←show y=(rU y).row from d]at h;exact⟨121,_,J,by simp [bQ],h⟩
theorem JO{rows:List (List FC)}(h:∀ r ∈ rows,Jx r):aR (rows.map rU)=rows:=by
 unfold aR;rw [List.map_map]
 conv=>rhs;rw [←List.map_id rows]
 exact List.map_congr_left fun r hr=>(h r hr).symm
theorem Ey(l:List bI):(aR l).map rU=l:=by
 unfold aR;rw [List.map_map]
 conv=>rhs;rw [←List.map_id l]
 exact List.map_congr_left fun r _=>rfl
theorem Xg{H:aj}{v:C}{l:List bI}(hr:LR H v 2 (aR l))(B:l.length≤64) :
  ∃ H',Ev tab.get (.fn 120) [.c v,.c (.f (.fn 121 []))] H (.t []) H'∧Kb H H' v∧∃ b,LR H' v 2 (aR b)∧b.Perm l∧b.Pairwise TLe:=by
 have q:∀ r ∈ aR l,Jx r:=fun r hr=>by
  obtain⟨x,-,rfl⟩:=aq9.1 hr;exact Vz x
 obtain⟨r,H',z,rfl,A,b,u,m,y⟩:=Km.acZ (σ:=ba) aeq ac0 aiP ae' (by omega) ajg hr (by simpa using B) (cq l) q;have d:∀ r ∈ b,Jx r:=fun r hr=>q r (m.mem_iff.1 hr);refine⟨H',z,A,b.map rU,by rw [JO d];exact u,?_,?_⟩
 ·have:=m.map rU;rwa [Ey]at this
 ·rw [aqM];intro i j hi s g;simp only [aq3]at hi s;have:=y i j b[i] b[j] (by omega) g (by omega) (At hi) (At s);rw [arF,arF];unfold V5 at this;rw [jT]at this;unfold TLe;omega
theorem DV{H:aj}{b:Nat}{n:Int}(h:aX H ab (.c (.ptr b 9 0))=aa (vi n))(m:∃ cs fl,H[b]?=aa (.box cs fl))(j:0≤n)(l:n≤1000000) :
  Ev tab.get (.fn 122) [.c (.ptr b 0 0)] H (vi (n*1440)) H:=by
 obtain⟨r,H',g,rfl,rfl⟩:∃ r H',Ev tab.get (.fn 122) [.c (.ptr b 0 0)] H r H'∧r=vi (n*1440)∧H'=H:=by
  refine dk rfl rfl fun Q d=>?_;apply ai;simp;apply ai;simp [h,-au,aO (n:=n*1440)];exact aH (d _ _ _ rfl (jz (by simp)) ⟨rfl,rfl⟩)
 exact g
def eL(z:ZD)(cl:C)(n:Int):List C:=z.row.map .f++[cl,.f (fi n)]
section
variable{H:aj}{b:Nat}{z:ZD}{cl cl':C}{n n':Int}
theorem rv(h:H[b]?=aa (.box (eL z cl n) 0))(d:z.c<3):aX H ab (.c (.ptr b 8 0))=aa (.c cl):=by
 obtain⟨c,s,j,l,g,m,yr⟩:=z;have:c=0∨c=1∨c=2:=by simp at d;omega
 rcases this with rfl | rfl | rfl<;>simp [aX,h,aF,eL,ZD.row,fN,aI]
theorem VH(h:H[b]?=aa (.box (eL z cl n) 0))(d:z.c<3):aX H ab (.c (.ptr b 9 0))=aa (vi n):=by
 obtain⟨c,s,j,l,g,m,yr⟩:=z;have:c=0∨c=1∨c=2:=by simp at d;omega
 rcases this with rfl | rfl | rfl<;>simp [aX,h,aF,eL,ZD.row,fN,aI]
theorem ala(h:H[b]?=aa (.box (eL z cl n) 0))(d:z.c<3):df H (.ptr b 8 0) [cl']=aa (H.set b (.box (eL z cl' n) 0)):=by
 obtain⟨c,s,j,l,g,m,yr⟩:=z;have:c=0∨c=1∨c=2:=by simp at d;omega
 rcases this with rfl | rfl | rfl<;>simp [df,h,over,eL,ZD.row,fN]
theorem ad_(h:H[b]?=aa (.box (eL z cl n) 0))(d:z.c<3):df H (.ptr b 9 0) [.f (fi n')]=aa (H.set b (.box (eL z cl n') 0)):=by
 obtain⟨c,s,j,l,g,m,yr⟩:=z;have:c=0∨c=1∨c=2:=by simp at d;omega
 rcases this with rfl | rfl | rfl<;>simp [df,h,over,eL,ZD.row,fN]
end
theorem KW{c:Nat}{r q:ey}{o l:List bI}{size:Int}(d:dZ (nf c r q (nY c)) o)(j:di o size=ae)(g:l.Perm (nf c r q (nY c)))(b:l.Pairwise TLe):l=o:=
 rL (jK j) b (g.trans d.perm.symm)
end Go.Proofs.YtmbjejcfadllnaaGreat
