/-
  What the program's functions and the reference's answer, for all arguments of their kind, in the small machine: part 1.
-/
import Derived.Test.YtmbjejcfadllnaaGreatTabB
import Derived.Test.YtmbjejcfadllnaaGreatK4
import Derived.KernelRfl
open List renaming getElem_append → dm, getElem_map → da, map_cons → ax, length_append → aL, length_singleton → cK, mem_append → bX, mem_cons → cF, mem_filter → cL, pairwise_cons → de, length_cons → bt, take_append_drop → cA, take_length → bO, drop_eq_getElem_cons → bp, mem_cons_self → bj, mem_cons_of_mem → bw, take_succ_eq_append_getElem → aD, ext_getElem → c9, getD_eq_getElem?_getD → bu, getElem?_eq_getElem → ai, getElem_of_mem → b7, length_pos_iff → cQ, getElem_mem → az, pairwise_iff_getElem → cB, all_eq_true → aR, map_set → dt, append_assoc → cC, getElem?_append_left → ae, getElem?_append_right → bc, map_nil → aE, getElem?_set_self → ap, getElem?_set_ne → al, take_of_length_le → bi, getElem?_eq_some_iff → ab, getElem?_cons_zero → ch, append_nil → cE, find?_eq_some_iff_getElem → dj
open Bool renaming false_eq_true → aw
open Nat renaming le_refl → aq, le_trans → a7, zero_add → cg, eq_zero_or_pos → cH
open Int renaming toNat_natCast → bB, add_zero → dq, le_refl → cR
open Option renaming bind_some → bh, map_some → bz, map_eq_some_iff → am
set_option linter.unusedVariables false
set_option linter.unusedSimpArgs false
set_option linter.unusedSectionVars false
set_option linter.unnecessarySimpa false
set_option maxRecDepth 100000
namespace Go.Proofs.YtmbjejcfadllnaaGreat
open Go Km
section
theorem aFq{a b:Int}(h:0≤a)(hb:0<b)(ha:a≤9223372036854775807):dG .quo (vi a) (vi b)=some (vi (a / b)):=by
 rw [OX (by omega),Int.tdiv_eq_ediv_of_nonneg h,wrap64 (Int.le_trans (by omega) (Int.ediv_nonneg h (by omega))) (Int.le_trans (Int.ediv_le_self _ h) ha)]
theorem wM{a b:Int}(h:0≤a)(hb:0<b):dG .rem (vi a) (vi b)=some (vi (a % b)):=by
 rw [su (by omega),Int.tmod_eq_emod_of_nonneg h]
structure TrD where
 at_:Int
 off:Int
def TrD.row(x:TrD):List FC:=[fi x.at_,fi x.off]
def aY(l:List TrD):List (List FC):=l.map TrD.row
@[simp] theorem y9 (l:List TrD):(aY l).length=l.length:=by simp [aY]
theorem eG(l:List TrD):Grid 2 (aY l):=Grid.map fun _=>rfl
structure YrD where
 mo:Int
 wk:Int
 wd:Int
 mi:Int
 off:Int
def YrD.row(x:YrD):List FC:=[fi x.mo,fi x.wk,fi x.wd,fi x.mi,fi x.off]
def dH(l:List YrD):List (List FC):=l.map YrD.row
@[simp] theorem aEk (l:List YrD):(dH l).length=l.length:=by simp [dH]
theorem qy(l:List YrD):Grid 5 (dH l):=Grid.map fun _=>rfl
theorem Py{l:List YrD}{j:Nat}(hj:j<l.length):(dH l)[j]?=some l[j].row:=by simp [dH,hj]
theorem UH(m:Int):unV .neg (.c (.f (.int .i64 m)))=some (vi (IntKind.i64.wrap (0-m))):=rfl
end
section
structure aZ where
 k:Int
 cal:Int
 l:Int
 r:Int
 n:Int
 m:Int
 li:List Int
def fD(k:Int):Nat:=if 8≤k∧k≤10∨k=17 then 2 else if 11≤k∧k≤16 then 1 else 0
structure Ris(l:List Int)(lo hi:Int)(zero:Bool):Prop where
 ne:l≠[]
 pw:l.Pairwise (· < ·)
 bd:∀ x ∈ l,lo≤x∧x≤hi∧(zero=false→x≠0)
def dW(k cal l n m:Int)(li:List Int):Prop:=
 (k=1∧cal=0∧li=[]∧1≤n∧n≤9∧0≤m∧m≤11) ∨
 (k=2∧0≤cal∧cal≤1∧li=[]∧1≤n∧n≤4∧0≤m∧m<n) ∨
 (k=3∧0≤cal∧cal≤1∧Ris li 1 4 true∧n=0∧m=0) ∨
 (k=4∧0≤cal∧cal≤1∧Ris li (-3) 6 false∧n=0∧m=0) ∨
 (k=5∧cal=0∧Ris li 0 6 true∧n=0∧m=0) ∨
 (k=6∧0≤cal∧cal≤1∧Ris li 1 5 true∧n=0∧m=0) ∨
 (k=7∧0≤cal∧cal≤1∧li=[]∧(n=1∨n=2∨n=3∨-3≤n∧n≤-1)∧0≤m∧m≤6∧0≤l∧l≤1) ∨
 ((k=8∨k=9∨k=10)∧cal=0∧li=[]∧n=0∧m=0) ∨
 (k=11∧cal=0∧li=[]∧-11≤n∧n≤11∧m=0) ∨
 ((k=12∨k=13)∧cal=0∧li=[]∧0≤n∧n≤1099511627776∧m=0) ∨
 ((k=14∨k=15)∧cal=0∧Ris li 0 60 true∧n=0∧m=0) ∨
 (k=16∧0≤cal∧cal≤1∧Ris li (-3) 4 false∧n=0∧0≤m∧m≤1) ∨
 (k=17∧cal=0∧li=[]∧1≤n∧n≤3∧m=0)
def aZ.OK(x:aZ):Prop:=x.li.length≤61∧dW x.k x.cal x.l x.n x.m x.li
def aZ.shift(d:Nat)(x:aZ):aZ:=⟨x.k,x.cal,if 1≤fD x.k then x.l+d else x.l,if fD x.k=2 then x.r+d else x.r,x.n,x.m,x.li⟩
inductive Good:List aZ→Prop
 | leaf {x:aZ}:x.OK→fD x.k=0→(x.k≠7→x.l=0)→x.r=0→Good [x]
 | un {a:List aZ} {x:aZ}:Good a→x.OK→fD x.k=1→x.l=(a.length:Int)-1→x.r=0→Good (a++[x])
 | bin {a b:List aZ} {x:aZ}:Good a→Good b→x.OK→fD x.k=2→x.l=(a.length:Int)-1→x.r=(a.length:Int)+b.length-1→Good (a++b.map (aZ.shift a.length)++[x])
theorem Good.pos{r:List aZ}(h:Good r):0<r.length:=by cases h<;>simp<;>omega
theorem rV(k:Int):fD k≤2:=by unfold fD;split<;>(try split)<;>omega
structure pR(i:Nat)(x:aZ):Prop where
 ok:x.OK
 l1:1≤fD x.k→0≤x.l∧x.l<i
 l0:fD x.k=0→x.k≠7→x.l=0
 r2:fD x.k=2→0≤x.r∧x.r<i
 r0:fD x.k≤1→x.r=0
theorem pR.shift{i:Nat}{x:aZ}(h:pR i x)(d:Nat):pR (d+i) (x.shift d):=by
 have ok:=h.ok;refine⟨⟨ok.1,?_⟩,fun h1=>?_,fun h1 h2=>?_,fun h1=>?_,fun h1=>?_⟩
 ·have h2:=ok.2;unfold aZ.shift;simp only;split
  ·unfold dW at h2 ⊢;rename_i h3;rcases h2 with h2 | h2 | h2 | h2 | h2 | h2 | h2 | h2
   ·exact .inl h2
   ·exact .inr (.inl h2)
   ·exact .inr (.inr (.inl h2))
   ·exact .inr (.inr (.inr (.inl h2)))
   ·exact .inr (.inr (.inr (.inr (.inl h2))))
   ·exact .inr (.inr (.inr (.inr (.inr (.inl h2)))))
   ·exfalso;rw [h2.1]at h3;simp [fD]at h3
   ·exact .inr (.inr (.inr (.inr (.inr (.inr (.inr h2))))))
  ·exact h2
 ·have:=h.l1 h1;unfold aZ.shift;simp only [if_pos (show 1≤fD x.k from h1)]
  omega
 ·have h3:fD x.k=0:=h1;unfold aZ.shift;simp only [h3,show¬ 1≤0 by decide,if_false]
  exact h.l0 h3 h2
 ·have h3:fD x.k=2:=h1;have:=h.r2 h3;unfold aZ.shift;simp only [h3,if_true];omega
 ·have h3:fD x.k≤1:=h1;unfold aZ.shift;simp only [if_neg (show¬ fD x.k=2 by omega)]
  exact h.r0 h3
theorem Good.at_{r:List aZ}(h:Good r):∀(i:Nat) (hi:i<r.length),pR i r[i]:=by
 induction h with
 | leaf ok o l r0=>
  intro i hi;simp at hi;subst hi
  exact⟨ok,fun h=>by simp [o]at h,fun _=>l,fun h=>by simp [o]at h,fun _=>r0⟩
 | @un a x ha ok o l r0 ih=>
  intro i hi;have hp:=ha.pos;rw [dm];split
  ·exact ih i _
  ·have:i=a.length:=by simp at hi;omega
   subst this;simp
   exact⟨ok,fun _=>by omega,fun h=>by omega,fun h=>by omega,fun _=>r0⟩
 | @bin a b x ha hb ok o l r iha ihb=>
  intro i hi;have hp:=ha.pos;have hq:=hb.pos;rw [dm];split
  ·rename_i h1;rw [dm];split
   ·exact iha i _
   ·rename_i h2;simp at h1;rw [da];have h3:=(ihb (i-a.length) (by omega)).shift a.length
    rwa [show a.length+(i-a.length)=i by omega]at h3
  ·rename_i h1;simp at hi h1;have:i=a.length+b.length:=by omega
   subst this;simp;exact⟨ok,fun _=>by omega,fun h=>by omega,fun _=>by omega,fun h=>by omega⟩
def yD(x:aZ)(k:Int):Nat:=(if 1≤fD x.k∧x.l=k then 1 else 0)+(if fD x.k=2∧x.r=k then 1 else 0)
def iQ:List aZ→Int→Nat
 | [],_=>0
 | x::l,k=>yD x k+iQ l k
theorem kU(a b:List aZ)(k:Int):iQ (a++b) k=iQ a k+iQ b k:=by
 induction a with
 | nil=>simp [iQ]
 | cons x a ih=>simp only [List.cons_append,iQ,ih];omega
theorem JX(x:aZ)(d:Nat)(k:Int):yD (x.shift d) k=yD x (k-d):=by
 unfold yD aZ.shift;simp only;have h:=rV x.k;by_cases h2:fD x.k=2
 ·simp only [h2,show 1≤2 by decide,true_and,if_true]
  congr 1<;>(congr 1;rw [eq_iff_iff];omega)
 ·by_cases h1:1≤fD x.k
  ·simp only [h1,h2,true_and,false_and,if_true,if_false]
   congr 1;congr 1;rw [eq_iff_iff];omega
  ·simp only [h1,h2,false_and,if_false]
theorem FN(b:List aZ)(d:Nat)(k:Int):iQ (b.map (aZ.shift d)) k=iQ b (k-d):=by
 induction b with
 | nil=>rfl
 | cons x b ih=>simp only [ax,iQ,ih,JX]
theorem Good.uses{r:List aZ}(h:Good r):∀ k:Int,iQ r k=if 0≤k∧k+1<r.length then 1 else 0:=by
 induction h with
 | leaf ok o l r0=>intro k;simp [iQ,yD,o];omega
 | @un a x ha ok o l r0 ih=>
  intro k;have hp:=ha.pos;rw [kU,ih];simp only [iQ,yD,o,l,show 1≤1 by decide,show¬ 1=2 by decide,true_and,false_and,if_false,aL,cK]
  split<;>split<;>split<;>omega
 | @bin a b x ha hb ok o l r iha ihb=>
  intro k;have hp:=ha.pos;have hq:=hb.pos;rw [kU,kU,FN,iha,ihb];simp only [iQ,yD,o,l,r,show 1≤2 by decide,true_and,if_true,aL,cK,List.length_map]
  split<;>split<;>split<;>split<;>split<;>omega
end
section
structure bD where
 day:Int
 drop:Bool
 to:Int
 mi:Int
 le:Int
deriving DecidableEq
def bD.row(m:bD):List FC:=[fi m.day,.bool m.drop,fi m.to,fi m.mi,fi m.le]
def aU(l:List bD):List (List FC):=l.map bD.row
@[simp] theorem EF (l:List bD):(aU l).length=l.length:=by simp [aU]
theorem eP(l:List bD):Grid 5 (aU l):=Grid.map fun _=>rfl
theorem nI{l:List bD}{j:Nat}(hj:j<l.length):(aU l)[j]?=some l[j].row:=by simp [aU,hj]
structure bD.OK(m:bD):Prop where
 day:0≤m.day∧m.day≤1099511627776
 dr:m.drop=true→m.to=0∧m.mi=0∧m.le=0
 nd:m.drop=false→0≤m.to∧m.to≤1099511627776∧0≤m.mi∧m.mi≤1439∧1≤m.le∧m.le≤10080
def SortM(l:List bD):Prop:=l.Pairwise fun a b=>a.day<b.day
def ovr(l:List bD)(m:bD):List bD:=l.filter (fun x=>decide (x.day<m.day))++m::l.filter (fun x=>decide (m.day<x.day))
theorem Og{l:List bD}{m x:bD}(h:x ∈ ovr l m):x=m∨x ∈ l:=by
 simp only [ovr,bX,cF,cL]at h;rcases h with h | h | h
 ·exact .inr h.1
 ·exact .inl h
 ·exact .inr h.1
theorem KT{l:List bD}{m:bD}(h:SortM l):SortM (ovr l m):=by
 unfold SortM ovr;rw [List.pairwise_append];refine⟨h.filter _,de.2 ⟨fun x hx=>?_,h.filter _⟩,fun a ha b hb=>?_⟩
 ·have:=(cL.1 hx).2;simpa using this
 ·have h1:a.day<m.day:=by simpa using (cL.1 ha).2
  rcases cF.1 hb with rfl | hb
  ·exact h1
  ·have h2:m.day<b.day:=by simpa using (cL.1 hb).2
   omega
theorem Oh{l:List bD}{m:bD}(h:SortM l):(ovr l m).length≤l.length+1:=by
 unfold ovr;simp only [aL,bt]
 have:∀ l:List bD,(l.filter (fun x=>decide (x.day<m.day))).length+(l.filter (fun x=>decide (m.day<x.day))).length≤l.length:=by
  intro l
  induction l with
  | nil=>simp
  | cons x l ih=>
   simp only [List.filter_cons];by_cases h1:x.day<m.day
   ·simp only [h1,decide_true,if_true,show¬ m.day<x.day by omega,decide_false,aw,if_false,bt];omega
   ·by_cases h2:m.day<x.day
    ·simp only [h1,h2,decide_true,if_true,decide_false,aw,if_false,bt];omega
    ·simp only [h1,h2,decide_false,aw,if_false,bt];omega
 have:=this l;omega
end
section
end
section
def total(st:List (List aZ)):Nat:=(st.map List.length).sum
theorem jf(a b:List (List aZ)):total (a++b)=total a+total b:=by simp [total]
theorem nV(a:List aZ):total [a]=a.length:=by simp [total]
structure dA(st:List (List aZ))(n:Nat):Prop where
 good:∀ r ∈ st,Good r
 tot:total st≤n
theorem dA.nil:dA [] 0:=⟨fun r h=>(by cases h),by simp [total]⟩
theorem dA.take{st:List (List aZ)}{n:Nat}(h:dA st n)(k:Nat){d:Nat}(hd:total (st.drop k)≥d):dA (st.take k) (n-d):=by
 refine⟨fun r hr=>h.good r (List.mem_of_mem_take hr),?_⟩
 have h1:=h.tot;have h2:total st=total (st.take k)+total (st.drop k):=by rw [←jf,cA]
 omega
theorem dA.push{st:List (List aZ)}{n m:Nat}(h:dA st n){r:List aZ}(hr:Good r)(hm:n+r.length≤m):dA (st++[r]) m:=by
 refine⟨fun x hx=>?_,?_⟩
 ·rcases bX.1 hx with hx | hx
  ·exact h.good x hx
  ·simp at hx;subst hx;exact hr
 ·rw [jf,nV];have:=h.tot;omega
theorem dA.leaf{st:List (List aZ)}{n:Nat}(h:dA st n){r:List aZ}(hr:Good r)(hl:r.length=1):dA (st.take st.length++[r]) (n+1):=by
 rw [bO];exact h.push hr (by omega)
theorem xO{st:List (List aZ)}(h:0<st.length):total (st.drop (st.length-1))=(st[st.length-1]'(by omega)).length:=by
 rw [bp (by omega),List.drop_of_length_le (by omega),nV]
theorem FU{st:List (List aZ)}(h:2≤st.length):total (st.drop (st.length-2))=(st[st.length-2]'(by omega)).length+(st[st.length-1]'(by omega)).length:=by
 have e:st.length-2+1=st.length-1:=by omega
 rw [bp (by omega),show st[st.length-2]::st.drop (st.length-2+1)=[st[st.length-2]]++st.drop (st.length-2+1) from rfl,jf,nV,e,xO (by omega)]
theorem dA.un{st:List (List aZ)}{n:Nat}(h:dA st n)(h0:0<st.length){r:List aZ}(hr:Good r)(hl:r.length=(st[st.length-1]'(by omega)).length+1):dA (st.take (st.length-1)++[r]) (n+1):=by
 have h1:=xO h0;have h3:total st=total (st.take (st.length-1))+total (st.drop (st.length-1)):=by rw [←jf,cA]
 have h4:=h.tot;exact(h.take (st.length-1) (d:=total (st.drop (st.length-1))) (aq _)).push hr (by omega)
theorem dA.bin{st:List (List aZ)}{n:Nat}(h:dA st n)(h0:2≤st.length){r:List aZ}(hr:Good r)(hl:r.length=(st[st.length-2]'(by omega)).length+(st[st.length-1]'(by omega)).length+1):dA (st.take (st.length-2)++[r]) (n+1):=by
 have h1:=FU h0;have h3:total st=total (st.take (st.length-2))+total (st.drop (st.length-2)):=by rw [←jf,cA]
 have h4:=h.tot;exact(h.take (st.length-2) (d:=total (st.drop (st.length-2))) (aq _)).push hr (by omega)
theorem dA.count{st:List (List aZ)}{n:Nat}(h:dA st n):st.length≤n:=by
 have h1:=h.tot
 have:∀ st:List (List aZ),(∀ r ∈ st,Good r)→st.length≤total st:=by
  intro st
  induction st with
  | nil=>intro _;simp
  | cons r st ih=>
   intro hg;have:=(hg r bj).pos;have:=ih fun x hx=>hg x (bw _ hx)
   rw [show r::st=[r]++st from rfl,jf,nV,aL,cK]
   omega
 have:=this st h.good;omega
theorem tK{st:List (List aZ)}{i:Nat}(h:i<st.length):total (st.take (i+1))=total (st.take i)+st[i].length:=by
 rw [aD h,jf,nV]
theorem sS(st:List (List aZ))(i:Nat):total (st.take i)≤total st:=by
 have h3:total st=total (st.take i)+total (st.drop i):=by rw [←jf,cA]
 omega
def zx(k:Nat):Nat:=if 8≤k∧k≤10∨k=17 then 2 else if 11≤k∧k≤16 then 1 else 0
def kF(k:Nat):Bool:=k=2||k=3||k=4||k=6||k=7||k=16
def F9(k:Nat):Int:=if k=3 then 1 else if k=4 then -40 else if k=6 then 1 else if k=16 then -400 else 0
def Gf(k:Nat):Int:=if k=3 then 16 else if k=4 then 40 else if k=5 then 6 else if k=6 then 54 else if k=14∨k=15 then 1099511627776 else if k=16 then 400 else 0
theorem dW.k{k cal l n m:Int}{li:List Int}(h:dW k cal l n m li):1≤k∧k≤17:=by
 unfold dW at h;omega
def rF(lo hi:Int)(l:List Int):Prop:=if lo=0∧hi=0 then l=[]else l≠[]∧l.Pairwise (· < ·)∧∀ x ∈ l,lo≤x∧x≤hi∧(lo<0→x≠0)
theorem Ris.lis{l:List Int}{lo hi lo' hi':Int}{z:Bool}(h:Ris l lo hi z)(h1:lo'≤lo)(h2:hi≤hi')(h3:lo'<0→z=false)(h4:¬ (lo'=0∧hi'=0)):rF lo' hi' l:=by
 unfold rF;rw [if_neg h4];exact⟨h.ne,h.pw,fun x hx=>by have:=h.bd x hx;exact⟨by omega,by omega,fun hl=>this.2.2 (h3 hl)⟩⟩
theorem dW.lis{k cal l n m:Int}{li:List Int}(h:dW k cal l n m li):rF (F9 k.toNat) (Gf k.toNat) li:=by
 unfold dW at h;have nil:rF 0 0 []:=by unfold rF;simp
 rcases h with⟨rfl,h⟩ | ⟨rfl,h⟩ | ⟨rfl,h⟩ | ⟨rfl,h⟩ | ⟨rfl,h⟩ | ⟨rfl,h⟩ | ⟨rfl,h⟩ | ⟨h0,h⟩ | ⟨rfl,h⟩ | ⟨h0,h⟩ | ⟨h0,h⟩ | ⟨rfl,h⟩ | ⟨rfl,h⟩
 ·rw [h.2.1];exact nil
 ·rw [h.2.2.1];exact nil
 ·exact h.2.2.1.lis (by decide) (by decide) (by decide) (by decide)
 ·exact h.2.2.1.lis (by decide) (by decide) (by decide) (by decide)
 ·exact h.2.1.lis (by decide) (by decide) (by decide) (by decide)
 ·exact h.2.2.1.lis (by decide) (by decide) (by decide) (by decide)
 ·rw [h.2.2.1];exact nil
 ·rw [h.2.1];rcases h0 with rfl | rfl | rfl<;>exact nil
 ·rw [h.2.1];exact nil
 ·rw [h.2.1];rcases h0 with rfl | rfl<;>exact nil
 ·rcases h0 with rfl | rfl
  ·exact h.2.1.lis (by decide) (by decide) (by decide) (by decide)
  ·exact h.2.1.lis (by decide) (by decide) (by decide) (by decide)
 ·exact h.2.2.1.lis (by decide) (by decide) (by decide) (by decide)
 ·rw [h.2.1];exact nil
def DK(k l n m:Int):Prop:=
 if k=1 then 1≤n∧n≤1099511627776∧0≤m∧m≤1099511627776
 else if k=2 then 1≤n∧n≤400∧0≤m∧m≤n-1
 else if k=7 then -60≤n∧n≤60∧n≠0∧0≤m∧m≤6∧0≤l∧l≤1
 else if k=11 then -1099511627776≤n∧n≤1099511627776∧m=0
 else if k=12∨k=13 then 0≤n∧n≤1099511627776∧m=0
 else if k=16 then n=0∧0≤m∧m≤1
 else if k=17 then 1≤n∧n≤400∧m=0
 else n=0∧m=0
theorem dW.num{k cal l n m:Int}{li:List Int}(h:dW k cal l n m li):DK k l n m:=by
 unfold dW at h;unfold DK;rcases h with⟨rfl,h⟩ | ⟨rfl,h⟩ | ⟨rfl,h⟩ | ⟨rfl,h⟩ | ⟨rfl,h⟩ | ⟨rfl,h⟩ | ⟨rfl,h⟩ | ⟨h0,h⟩ | ⟨rfl,h⟩ | ⟨h0,h⟩ | ⟨h0,h⟩ | ⟨rfl,h⟩ | ⟨rfl,h⟩
 ·simp;omega
 ·simp;omega
 ·simp;omega
 ·simp;omega
 ·simp;omega
 ·simp;omega
 ·simp;omega
 ·rcases h0 with rfl | rfl | rfl<;>simp<;>omega
 ·simp;omega
 ·rcases h0 with rfl | rfl<;>simp<;>omega
 ·rcases h0 with rfl | rfl<;>simp<;>omega
 ·simp;omega
 ·simp;omega
theorem dW.cal{k cal l n m:Int}{li:List Int}(h:dW k cal l n m li):0≤cal∧cal≤1∧(kF k.toNat=false→cal=0):=by
 unfold dW at h;rcases h with⟨rfl,h⟩ | ⟨rfl,h⟩ | ⟨rfl,h⟩ | ⟨rfl,h⟩ | ⟨rfl,h⟩ | ⟨rfl,h⟩ | ⟨rfl,h⟩ | ⟨h0,h⟩ | ⟨rfl,h⟩ | ⟨h0,h⟩ | ⟨h0,h⟩ | ⟨rfl,h⟩ | ⟨rfl,h⟩
 all_goals first | exact⟨by omega,by omega,fun _=>by omega⟩ | exact⟨by omega,by omega,fun e=>by simp [kF]at e⟩
theorem yP{k:Int}(h:1≤k):fD k=zx k.toNat:=by
 unfold fD zx;obtain⟨n,rfl⟩:∃ n:Nat,k=n:=⟨k.toNat,by omega⟩
 rw [bB];split<;>split<;>(try split)<;>(try split)<;>first | rfl | omega
end
section
def bF(r:List aZ)(n:Nat):List Int:=(List.range n).map fun k:Nat=>(iQ r (k:Int):Int)
@[simp] theorem aJT (r:List aZ) (n:Nat):(bF r n).length=n:=by simp [bF]
theorem iH{r:List aZ}{n k:Nat}(h:k<n):(bF r n)[k]'(by simpa using h)=iQ r (k:Int):=by simp [bF]
theorem CG(n:Nat):bF [] n=List.replicate n 0:=by
 refine c9 (by simp) fun k h1 h2=>?_
 rw [iH (by simpa using h1)];simp [iQ]
def qV(U:List Int)(k:Int):List Int:=U.set k.toNat (U.getD k.toNat 0+1)
@[simp] theorem aMx (U:List Int) (k:Int):(qV U k).length=U.length:=by simp [qV]
theorem Ad{U:List Int}{k:Int}(h0:0≤k){j:Nat}(hj:j<U.length):(qV U k)[j]'(by simpa using hj)=U[j]+(if k=j then 1 else 0):=by
 simp only [qV,List.getElem_set];by_cases h:k.toNat=j
 ·subst h;rw [if_pos rfl,if_pos (by omega),bu,ai hj];rfl
 ·rw [if_neg h,if_neg (by omega),dq]
theorem JV{r:List aZ}{x:aZ}{n:Nat}(h:fD x.k=0):bF (r++[x]) n=bF r n:=by
 refine c9 (by simp) fun k h1 h2=>?_
 rw [iH (by simpa using h1),iH (by simpa using h1),kU]
 simp [iQ,yD,h]
theorem JU{r:List aZ}{x:aZ}{n:Nat}(h:fD x.k=1)(hl:0≤x.l):bF (r++[x]) n=qV (bF r n) x.l:=by
 refine c9 (by simp) fun k h1 h2=>?_
 rw [iH (by simpa using h1),Ad hl (by simpa using h1),iH (by simpa using h1),kU]
 simp only [iQ,yD,h,show 1≤1 by decide,show¬ 1=2 by decide,true_and,false_and,if_false]
 split<;>omega
theorem JR{r:List aZ}{x:aZ}{n:Nat}(h:fD x.k=2)(hl:0≤x.l)(hr:0≤x.r):bF (r++[x]) n=qV (qV (bF r n) x.l) x.r:=by
 refine c9 (by simp) fun k h1 h2=>?_
 rw [iH (by simpa using h1),Ad hr (by simpa using h1),Ad hl (by simpa using h1),iH (by simpa using h1),kU]
 simp only [iQ,yD,h,show 1≤2 by decide,true_and,if_true]
 split<;>split<;>omega
theorem Good.bF{r:List aZ}(h:Good r):∀ x ∈ (bF r r.length).take (r.length-1),x=1:=by
 intro x hx;obtain⟨k,hk,rfl⟩:=b7 hx;simp at hk;rw [List.getElem_take,iH (by omega),h.uses k,if_pos (by omega)]
 rfl
theorem FP(r:List aZ)(n k:Nat)(h:k<n):0≤(bF r n)[k]'(by simpa using h)∧(bF r n)[k]'(by simpa using h)≤2*r.length:=by
 rw [iH h]
 have:∀ r:List aZ,iQ r (k:Int)≤2*r.length:=by
  intro r
  induction r with
  | nil=>simp [iQ]
  | cons x r ih=>
   have:yD x (k:Int)≤2:=by unfold yD;split<;>split<;>omega
   simp only [iQ,bt];omega
 have:=this r;omega
end
section
structure IsD where
 day:Int
 fr:Int
 to:Int
deriving DecidableEq
structure aK where
 d:aZ
 tg:Tg
def zi:ByteArray:=⟨#[]⟩
def aK.row(x:aK):List FC:=[fi x.d.k,fi x.d.cal,fi x.d.l,fi x.d.r,fi x.d.n,fi x.d.m,sl x.tg (ints x.d.li),.str zi]
def aB(l:List aK):List (List FC):=l.map aK.row
@[simp] theorem uS (l:List aK):(aB l).length=l.length:=by simp [aB]
theorem fO(l:List aK):Grid 8 (aB l):=Grid.map fun _=>rfl
theorem nH{l:List aK}{j:Nat}(hj:j<l.length):(aB l)[j]?=some l[j].row:=by simp [aB,hj]
@[simp] theorem av7 (l:List aK):(aB l).isEmpty=l.isEmpty:=by cases l<;>rfl
abbrev dat(l:List aK):List aZ:=l.map aK.d
structure bI where
 rg:Tg
 ru:List aK
 mi:Int
 le:Int
 zo:ByteArray
 gap:Int
 fold:Int
 mg:Tg
 mv:List bD
def bI.row(s:bI):List FC:=[sl s.rg (aB s.ru),fi s.mi,fi s.le,.str s.zo,fi s.gap,fi s.fold,sl s.mg (aU s.mv)]
abbrev bI.v(s:bI):V:=.a (s.row.map .f)
structure bI.OK(s:bI):Prop where
 ru:Good (dat s.ru)
 rl:s.ru.length≤64
 mi:0≤s.mi∧s.mi≤1439
 le:1≤s.le∧s.le≤10080
 zo:1≤s.zo.size∧s.zo.size≤32
 gap:0≤s.gap∧s.gap≤2
 fold:0≤s.fold∧s.fold≤2
 ml:s.mv.length≤64
 ms:SortM s.mv
 mo:∀ m ∈ s.mv,m.OK
end
section
theorem eX(n lo hi:Int):Km.Pure tab.get jZ [vi n,vi lo,vi hi]=Eq (vb (decide (lo≤n∧n≤hi))):=Km.Pure.eq (by
 refine bZ aNM rfl fun Q hQ=>?_
 refine kw_sr ?_;simp;refine kw_sr ?_;by_cases h:lo≤n
 ·simp [h];exact aQ (hQ _ _ (by simp [h]))
 ·simp [h];exact aQ (hQ _ _ (by simp [h])))
def jE(k:Nat):List FC:=[fi (zx k),.bool (kF k),fi (F9 k),fi (Gf k)]
def iR:List FC:=((List.range 19).map jE).flatten
theorem rP:Km.Pure tab.get Ib []=Eq (.a (iR.map .f)):=Km.Pure.eq (aJ (m:=60) (d:=10) (by kernel_rfl))
theorem Qm(g:Tg)(l:List Int)(lo hi:Int)(h:rF lo hi l)(hl:l.length≤9223372036854775807):Km.Pure tab.get O6 [.c (.f (sl g (ints l))),.a [.f (fi lo),.f (fi hi)]]=Eq (vb true):=Km.Pure.eq (by
 refine bZ aNQ rfl fun Q hQ=>?_
 refine kw_sr ?_;simp;refine kw_seq (kw_sr ?_);unfold rF at h;by_cases h0:lo=0∧hi=0
 ·rw [if_pos h0]at h;obtain⟨rfl,rfl⟩:=h0;subst h;simp [eqV];refine ak (by simp) ?_
  refine kw_sr ?_;simp;exact aQ (hQ _ _ (by simp))
 rw [if_neg h0]at h;obtain⟨hne,hpw,hb⟩:=h
 have h00:(lo == 0&&hi == 0)=false:=by
  rw [Bool.eq_false_iff];intro e;simp at e;exact h0 e
 simp [eqV,h00];refine bQ (by simp) ?_
 have hpos:=cQ.2 hne;refine kw_seq (kw_sr ?_);simp;refine qU l.length (fun j t H=>t.g 0=.c (.f (sl g (ints l)))∧t.g 13=.c (.f (sl g (ints l)))∧t.g 3=.c (.ptr 0 0 0)∧H[0]?=some (.box [.f (fi lo),.f (fi hi)] 0)) hl (by decide) (by decide) (by simp) (by simp) ⟨by simp,by simp,by simp,rfl⟩ ?_ ?_
 ·rintro j t H hj ⟨g0,g13,g3,hH⟩ ha hb' next;obtain⟨b1,b2,b3⟩:=hb _ (az hj);obtain⟨x,hx⟩:∃ x,x=l[j]:=⟨_,rfl⟩;rw [←hx]at b1 b2 b3;refine aN (kw_sr ?_);simp [g13,ha,iE,hj,qR];rw [←hx];refine kw_sr ?_;have e1:ldV H none (.c (.ptr 0 0 0))=some (vi lo):=by simp [ldV,hH,aG,aS]
  have e2:ldV H none (.c (.ptr 0 1 0))=some (vi hi):=by simp [ldV,hH,aG,aS]
  have b12:decide (lo≤x∧x≤hi)=true:=decide_eq_true ⟨b1,b2⟩;simp [g3,e1,e2,-aC,eX,b12]
  have fin:∀ t:T,t.g 0=.c (.f (sl g (ints l)))→t.g 13=.c (.f (sl g (ints l)))→t.g 3=.c (.ptr 0 0 0)→t.g 15=vi j→t.g 14=vi l.length→t.g 48=vb false→WP tab.get O6 none [.code IG,.inBlock 1,.code IE,.inLoop II,.inBlock 0,.code IC] ⟨t,[],H⟩ Q:=by
   intro t g0 g13 g3 g15 g14 g48;refine ah g48 (aW ?_);exact aF (next _ _ ⟨by simp [g0],by simp [g13],by simp [g3],hH⟩ (by simp [g15]) (by simp [g14]))
  have hlo:x=0→¬ lo<0:=fun e h=>b3 h e
  by_cases hj0:j=0
  ·subst hj0;simp;by_cases hx0:x=0
   ·have:=hlo hx0;simp [hx0,g3,e1,-aC,this];exact fin _ (by simp [g0]) (by simp [g13]) (by simp [g3]) (by simp [ha]) (by simp [hb']) (by simp)
   ·simp [hx0];exact fin _ (by simp [g0]) (by simp [g13]) (by simp [g3]) (by simp [ha]) (by simp [hb']) (by simp)
  ·have hw:IntKind.i64.wrap ((j:Int)-1)=((j-1:Nat):Int):=by rw [wrap64 (by omega) (by omega)];omega
   have hlt:l[j-1]<x:=by rw [hx];exact cB.1 hpw (j-1) j (by omega) hj (by omega)
   have hj1:j-1<l.length:=by omega
   have hii:∀ H,aO H 1 none (.c (.f (sl g (ints l)))) (vi ((j-1:Nat):Int))=some (.c (.f (.fp (ints l).flatten (j-1)))):=fun H=>by
    have:=iE (H:=H) (g:=g) (rows:=ints l) (sz:=1) (k:=.i64) (i:=((j-1:Nat):Int)) (by omega) (by simp;omega)
    simpa using this
   simp [show 0<j by omega,g0,hw,hii,qR hj1,show¬ x≤l[j-1] by omega]
   by_cases hx0:x=0
   ·have:=hlo hx0;simp [hx0,g3,e1,-aC,this];exact fin _ (by simp [g0]) (by simp [g13]) (by simp [g3]) (by simp [ha]) (by simp [hb']) (by simp)
   ·simp [hx0];exact fin _ (by simp [g0]) (by simp [g13]) (by simp [g3]) (by simp [ha]) (by simp [hb']) (by simp)
 ·rintro t H ⟨g0,g13,g3,hH⟩ ha hb';refine kw_sr ?_;simp [g0,hpos]
  exact aQ (hQ _ _ (by simp)))
theorem Ez(x:aK)(h:DK x.d.k x.d.l x.d.n x.d.m):Km.Pure tab.get Ic [.a (x.row.map .f)]=Eq (vb true):=Km.Pure.eq (by
 obtain⟨⟨k,cal,l,r,n,m,li⟩,tg⟩:=x;simp only [DK]at h;refine bZ aNP rfl fun Q hQ=>?_
 have ret:∀ t H,t.g 2=vb true→WP tab.get Ic none [.code .ret,.inBlock 0,.code Bc] ⟨t,[],H⟩ Q:=fun t H h2=>aQ (hQ _ _ (by simp [h2]))
 refine kw_sr ?_;simp [aK.row];refine kw_seq (kw_sr ?_);simp;refine aN (kw_sr ?_);simp;by_cases c1:k=1
 ·rw [if_pos c1]at h;refine ak (by simp [c1]) (kw_sr ?_)
  simp [eX,h];exact ret _ _ (by simp)
 rw [if_neg c1]at h;refine ah (by simp [c1]) (kw_sr ?_)
 simp;by_cases c2:k=2
 ·rw [if_pos c2]at h;refine ak (by simp [c2]) (kw_sr ?_)
  simp [eX,h,wrap64 (n:=n-1) (by omega) (by omega)]
  exact ret _ _ (by simp)
 rw [if_neg c2]at h;refine ah (by simp [c2]) (kw_sr ?_)
 simp;by_cases c7:k=7
 ·rw [if_pos c7]at h;refine ak (by simp [c7]) (kw_sr ?_)
  simp [eX,h];exact ret _ _ (by simp)
 rw [if_neg c7]at h;refine ah (by simp [c7]) (kw_sr ?_)
 simp;by_cases c11:k=11
 ·rw [if_pos c11]at h;refine ak (by simp [c11]) (kw_sr ?_)
  simp [eX,h];exact ret _ _ (by simp)
 rw [if_neg c11]at h;refine ah (by simp [c11]) (kw_seq (kw_sr ?_))
 simp
 have two:k=12∨k=13→∀ t,t.g 1=.c (.ptr 0 0 0)→t.g 58=vb true→WP tab.get Ic none [.code IB,.inBlock 0,.code Bc] ⟨t,[],[.box ((aK.row ⟨⟨k,cal,l,r,n,m,li⟩,tg⟩).map .f) 0]⟩ Q:=by
  intro c t g1 g58;rw [if_pos c]at h;refine ak g58 (kw_sr ?_);simp [g1,aK.row,eX,h];exact ret _ _ (by simp)
 by_cases c12:k=12
 ·refine ak (by simp [c12]) (aW ?_)
  exact two (.inl c12) _ (by simp) (by simp [c12])
 refine ah (by simp [c12]) (kw_region (.inl rfl) ?_)
 simp;by_cases c13:k=13
 ·exact two (.inr c13) _ (by simp) (by simp [c13])
 rw [if_neg (by omega)]at h
 refine ah (by simp [c13]) (kw_sr ?_)
 simp;by_cases c16:k=16
 ·rw [if_pos c16]at h;refine ak (by simp [c16]) (kw_sr ?_)
  simp [eX,h];exact ret _ _ (by simp)
 rw [if_neg c16]at h;refine ah (by simp [c16]) (kw_sr ?_)
 simp;by_cases c17:k=17
 ·rw [if_pos c17]at h;refine ak (by simp [c17]) (kw_sr ?_)
  simp [eX,h];exact ret _ _ (by simp)
 rw [if_neg c17]at h;refine bQ (by simp [c17]) ?_
 refine aF (kw_sr ?_);simp [h]
 exact aQ (hQ _ _ (by simp)))
end
section
def pO:Nat→List FC
 | 0=>[fi 2,.fs [fi 7,fi 6] 2,fi (-1),.au]
 | k+1=>[fi 5,.fs [fi 7,fi 8] 2,fi 1,.fs [fi 2,fi (k:Nat),.bool true] 1]
def uh(c y m:Nat):Nat:=match c,m with
 | 0,1=>7
 | 0,_=>6
 | _+1,1=>7
 | k+1,_=>if y % 2=k then 9 else 8
def FH(c y:Nat):Nat:=uh c y 1+uh c y 2
def aRe:Nat→Nat
 | 0=>1
 | _=>2
def yG:Nat→Nat
 | 0=>13
 | _=>31
abbrev AL(c:Nat):V:=.a ((pO c).map .f)
def isI(r:Option (V × Heap))(n:Nat):Bool:=match r with
 | some (.c (.f (.int .i64 (.ofNat k))),_)=>Nat.beq k n
 | _=>false
theorem V7{r:Option (V × Heap)}{n:Nat}(h:isI r n=true):r.map (·.1)=some (vi (n:Nat)):=by
 unfold isI at h;split at h
 ·rw [Nat.eq_of_beq_eq_true h];rfl
 ·cases h
theorem Cc:((List.range 3).all fun c=>(List.range 14).all fun y=>(List.range 2).all fun m=>isI (CF tab.get 300 30 (.fn DZ) [AL c,vi ((y+1:Nat):Nat),vi ((m+1:Nat):Nat)] []) (uh c (y+1) (m+1)))=true:=by kernel_rfl
theorem D7:((List.range 3).all fun c=>(List.range 14).all fun y=>isI (CF tab.get 300 30 (.fn Xz) [AL c,vi ((y+1:Nat):Nat)] []) (FH c (y+1)))=true:=by kernel_rfl
theorem kV{p:Nat→Bool}{n k:Nat}(h:(List.range n).all p=true)(hk:k<n):p k=true:=aR.1 h k (List.mem_range.2 hk)
theorem uU{c y m:Nat}(hc:c<3)(h1:1≤y)(h2:y≤14)(h3:1≤m)(h4:m≤2):Km.Pure tab.get DZ [AL c,vi (y:Nat),vi (m:Nat)]=Eq (vi (uh c y m:Nat)):=by
 obtain⟨y,rfl⟩:∃ k,y=k+1:=⟨y-1,by omega⟩
 obtain⟨m,rfl⟩:∃ k,m=k+1:=⟨m-1,by omega⟩
 have h:=kV (kV (kV Cc hc) (show y<14 by omega)) (show m<2 by omega)
 exact(qH (V7 h)).eq
theorem FB{c y:Nat}(hc:c<3)(h1:1≤y)(h2:y≤14):Km.Pure tab.get Xz [AL c,vi (y:Nat)]=Eq (vi (FH c y:Nat)):=by
 obtain⟨y,rfl⟩:∃ k,y=k+1:=⟨y-1,by omega⟩
 have h:=kV (kV D7 hc) (show y<14 by omega)
 exact(qH (V7 h)).eq
theorem Pz{c:Nat}(hc:c<3):Km.Pure tab.get aEd [AL c]=Eq (vb true):=by
 have:c=0∨c=1∨c=2:=by omega
 rcases this with rfl | rfl | rfl<;>exact Km.Pure.eq (aJ (m:=300) (d:=30) (by kernel_rfl))
theorem QB{c:Nat}(hc:c<3):Km.Pure tab.get aEe [AL c]=Eq (.t [vi (aRe c:Nat),vi (yG c:Nat),vi 0]):=by
 have:c=0∨c=1∨c=2:=by omega
 rcases this with rfl | rfl | rfl<;>exact Km.Pure.eq (aJ (m:=300) (d:=30) (by kernel_rfl))
end
section
structure YrD.OK(x:YrD):Prop where
 mo:x.mo=1∨x.mo=2
 wk:x.wk=1∨x.wk=5
 wd0:0≤x.wd
 wd:x.wd≤6
 mi0:0≤x.mi
 mi:x.mi≤1439
 of0:-1080≤x.off
 of:x.off≤1080
def fmD(c y:Nat)(b:Int)(x:YrD):Int:=if x.mo=2 then b+uh c y 1 else b
def mlD(c y:Nat)(x:YrD):Int:=uh c y x.mo.toNat
def sN(fm ml wk wd:Int):Int:=if wk=5 then fm+ml-1-(fm+ml-1-wd) % 7 else fm+(wd-fm) % 7
def oM(fm ml wk wd:Int):Bool:=if wk=5 then decide (fm≤sN fm ml wk wd)else decide (sN fm ml wk wd<fm+ml)
theorem pz(c y m:Nat):uh c y m≤9:=by unfold uh;split<;>(try split)<;>omega
theorem yS(c y m:Nat):6≤uh c y m:=by unfold uh;split<;>(try split)<;>omega
end
section
theorem awX{c y:Nat}(hc:c<3)(hy:1≤y)(hy':y≤14){b:Int}(hb:0≤b)(hb':b≤260)(x:YrD)(hx:x.OK) :
  Km.Pure tab.get Pm [AL c,vi b,vi (y:Nat),.a (x.row.map .f)]=Eq (.t [vi (if oM (fmD c y b x) (mlD c y x) x.wk x.wd then sN (fmD c y b x) (mlD c y x) x.wk x.wd else -1),vb (oM (fmD c y b x) (mlD c y x) x.wk x.wd)]):=Km.Pure.eq (by
 obtain⟨hm,hw,w0,w6,-,-,-,-⟩:=hx;have e1:=uU hc hy hy' (m:=1) (by omega) (by omega)
 have e2:=uU hc hy hy' (m:=2) (by omega) (by omega)
 have k1:=pz c y 1;have k2:=pz c y 2;have hml:=pz c y x.mo.toNat;have aTE:=yS c y x.mo.toNat
 have e3:Km.Pure tab.get DZ [AL c,vi (y:Nat),vi x.mo]=Eq (vi (mlD c y x)):=by
  rcases hm with h | h
  ·unfold mlD;rw [h];exact e1
  ·unfold mlD;rw [h];exact e2
 have hq:mlD c y x=(uh c y x.mo.toNat:Nat):=rfl;have hfm:b≤fmD c y b x∧fmD c y b x≤b+9:=by unfold fmD;split<;>omega
 generalize hF:fmD c y b x=fm at *;generalize hM:mlD c y x=ml at *;refine bZ aN5 rfl fun Q hQ=>?_
 refine kw_sr ?_;simp;refine kw_sr ?_;simp;refine kw_seq ?_;refine kw_sr ?_;simp;refine aN ?_
 have cl:∀ z:Blk,ldV [.box ((pO c).map .f) 0,z] (some 4) (.c (.ptr 0 0 0))=some (AL c):=by
  intro z;have:c=0∨c=1∨c=2:=by omega
  rcases this with rfl | rfl | rfl<;>rfl
 have ly:∀ z:Blk,ldV [z,.box [.f (fi x.mo),.f (fi x.wk),.f (fi x.wd),.f (fi x.mi),.f (fi x.off)] 0] none (.c (.ptr 1 0 0))=some (vi x.mo):=fun _=>rfl
 refine iL (fun n s=>∃(m:Nat) (t:T) (bm:Int),s=⟨t,[],[.box ((pO c).map .f) 0,.box (x.row.map .f) 0]⟩∧n=2-m∧(m=1∧bm=b∨m=2∧x.mo=2∧bm=b+(uh c y 1:Nat))∧t.g 10=vi bm∧t.g 2=vi (y:Nat)∧t.g 4=.c (.ptr 0 0 0)∧t.g 7=.c (.ptr 1 0 0)∧t.g 11=vi (m:Nat)) 1
  ⟨1,_,b,rfl,rfl,.inl ⟨rfl,rfl⟩,by simp,by simp,by simp,by simp,by simp⟩ ?_
 rintro n s ⟨m,t,bm,rfl,rfl,hmb,g1,g2,g4,g7,g10⟩ ih;refine kw_seq ?_;refine kw_sr ?_;simp [g10,g7,YrD.row];by_cases hlt:(m:Int)<x.mo
 ·have m1:m=1:=by omega
  subst m1;have hbm:bm=b:=by omega
  subst hbm;refine ak (by simp;omega) (aW ?_)
  refine kw_seq ?_;refine aN ?_;refine kw_region (.inl rfl) ?_;have e1':Km.Pure tab.get DZ [AL c,vi (y:Nat),vi 1]=Eq (vi (uh c y 1:Nat)):=e1;simp [g10,g1,g2,g4,cl,-aC,e1',wrap64 (n:=bm+(uh c y 1:Nat)) (by omega) (by omega),YrD.row]
  refine aF ?_;refine kw_region (.inl rfl) ?_;simp [g10];refine ih 0 _ (by omega) ⟨2,_,_,rfl,by omega,.inr ⟨rfl,by omega,rfl⟩,?_,?_,?_,?_,?_⟩<;>simp [g2,g4,g7,show IntKind.i64.wrap 2=2 from rfl]
 have hbf:bm=fm:=by
  rw [←hF];unfold fmD;rcases hmb with⟨rfl,rfl⟩ | ⟨rfl,h2,rfl⟩
  ·rw [if_neg (by omega)]
  ·rw [if_pos h2]
 subst hbf;have hp:ml≤9:=by omega
 have hp0:6≤ml:=by omega
 refine ah (by simp;omega) ?_
 refine iM (k':=[.code IW]) rfl ?_;refine kw_sr ?_;simp;refine kw_sr ?_;simp;refine kw_seq ?_;refine kw_sr ?_;simp [g1];refine aN ?_
 refine iL (fun n s=>∃(d cnt la:Int) (t:T),s=⟨t,[],[.box ((pO c).map .f) 0,.box [.f (fi x.mo),.f (fi x.wk),.f (fi x.wd),.f (fi x.mi),.f (fi x.off)] 0]⟩∧n=(bm+ml-d).toNat∧bm≤d∧d≤bm+ml∧0≤cnt∧cnt≤d-bm ∧
   (x.wk=1→cnt=0∧la = -1∧d≤bm+(x.wd-bm) % 7)∧(x.wk=5→la=if bm≤d-1-(d-1-x.wd) % 7 then d-1-(d-1-x.wd) % 7 else -1) ∧
   t.g 2=vi (y:Nat)∧t.g 4=.c (.ptr 0 0 0)∧t.g 7=.c (.ptr 1 0 0)∧t.g 10=vi bm∧t.g 12=vi cnt∧t.g 13=vi la∧t.g 14=vi d) ml.toNat
  ⟨bm,0,-1,_,rfl,by omega,cR _,by omega,by omega,by omega,fun _=>⟨rfl,rfl,by omega⟩,fun _=>(if_neg (by omega)).symm,by simp [g2],by simp [g4],by simp [g7],by simp [g1],by simp,by simp,by simp⟩ ?_
 clear ih;rintro n s ⟨d,cnt,la,t,rfl,rfl,d0,d1,c0,c1,hk1,hk5,g2,g4,g7,g10,g12,g13,g14⟩ ih;refine kw_seq ?_;refine kw_sr ?_;simp [g2,g4,g7,g10,g14,cl,ly,-aC,e3,wrap64 (n:=bm+ml) (by omega) (by omega)]
 by_cases hd:d<bm+ml
 case neg=>
  have hdd:d=bm+ml:=by omega
  subst hdd;refine ah (by simp) ?_
  refine iM (k':=[.code Bd]) rfl ?_;rcases hw with hw | hw
  ·obtain⟨rfl,rfl,hk⟩:=hk1 hw;refine kw_sr ?_;simp [g13,g7,hw];refine aQ (hQ _ _ ?_);have:oM bm ml 1 x.wd=false:=by simp [oM,sN];omega
   simp [hw,this]
  ·have hla:=hk5 hw;refine kw_sr ?_;simp [g13,g7,hw];refine aQ (hQ _ _ ?_);by_cases h:bm≤bm+ml-1-(bm+ml-1-x.wd) % 7
   ·rw [if_pos h]at hla;have e:oM bm ml 5 x.wd=true:=by simp [oM,sN];omega
    have e':sN bm ml 5 x.wd=la:=by simp [sN,hla]
    simp [hw,e,e'];omega
   ·rw [if_neg h]at hla;have e:oM bm ml 5 x.wd=false:=by simp [oM,sN];omega
    simp [hw,e,hla]
 refine ak (by simp;omega) (aW ?_)
 refine kw_seq ?_;refine aN ?_;refine kw_sr ?_;have hr:dG .rem (vi d) (vi 7)=some (vi (d % 7)):=wM (by omega) (by omega)
 simp [g14,g7,hr];by_cases hit:d % 7=x.wd
 ·refine ak (by simp [hit]) ?_
  refine kw_sr ?_;simp [g12,wrap64 (n:=cnt+1) (by omega) (by omega)]
  refine kw_sr ?_;simp [g14];refine kw_seq ?_;rcases hw with hw | hw
  ·obtain⟨rfl,rfl,hk⟩:=hk1 hw;refine kw_region (.inl rfl) ?_;simp [g7,hw];refine ak (by simp) ?_
   refine kw_sr ?_;simp [g14];refine aQ (hQ _ _ ?_);have e':sN bm ml 1 x.wd=d:=by simp [sN];omega
   have e:oM bm ml 1 x.wd=true:=by simp [oM,e',hd]
   simp [hw,e,e']
  ·have hla:=hk5 hw;refine kw_region (.inl rfl) ?_
   have nxt:∀ t:T,t.g 2=vi (y:Nat)→t.g 4=.c (.ptr 0 0 0)→t.g 7=.c (.ptr 1 0 0)→t.g 10=vi bm→t.g 12=vi (cnt+1)→t.g 13=vi d→t.g 14=vi d →
     WP tab.get Pm none [.code IU,.inLoop IV,.inBlock 2,.code Bd] ⟨t,[],[.box ((pO c).map .f) 0,.box [.f (fi x.mo),.f (fi 5),.f (fi x.wd),.f (fi x.mi),.f (fi x.off)] 0]⟩ Q:=by
    intro t g2 g4 g7 g10 g12 g13 g14;have eh:([.box ((pO c).map .f) 0,.box [.f (fi x.mo),.f (fi 5),.f (fi x.wd),.f (fi x.mi),.f (fi x.off)] 0]:Heap)=[.box ((pO c).map .f) 0,.box [.f (fi x.mo),.f (fi x.wk),.f (fi x.wd),.f (fi x.mi),.f (fi x.off)] 0]:=by rw [hw]
    rw [eh];refine kw_region (.inl rfl) ?_;simp [g14,wrap64 (n:=d+1) (by omega) (by omega)]
    refine ih _ _ ?_ ⟨d+1,cnt+1,d,_,rfl,rfl,by omega,by omega,by omega,by omega,fun h=>by omega,fun _=>?_,by simp [g2],by simp [g4],by simp [g7],by simp [g10],by simp [g12],by simp [g13],by simp⟩
    ·omega
    ·rw [if_pos (by omega)];omega
   by_cases h5:cnt+1=5
   ·simp [g7,hw,h5];refine ah (by simp) (aW (aF (nxt _ ?_ ?_ ?_ ?_ ?_ ?_ ?_)))<;>simp [g2,g4,g7,g10,g14,h5]
   ·simp [g7,hw,h5];refine ah (by simp) (aW (aF (nxt _ ?_ ?_ ?_ ?_ ?_ ?_ ?_)))<;>simp [g2,g4,g7,g10,g14]
 ·refine ah (by simp [hit]) (aW (aF ?_))
  refine kw_region (.inl rfl) ?_;simp [g14,wrap64 (n:=d+1) (by omega) (by omega)]
  refine ih _ _ ?_ ⟨d+1,cnt,la,_,rfl,rfl,by omega,by omega,by omega,by omega,fun h=>?_,fun h=>?_,by simp [g2],by simp [g4],by simp [g7],by simp [g10],by simp [g12],by simp [g13],by simp⟩
  ·omega
  ·obtain⟨a1,a2,a3⟩:=hk1 h;exact⟨a1,a2,by omega⟩
  ·have hla:=hk5 h
   rw [hla,show d+1-1=d by omega,show d-1-(d-1-x.wd) % 7=d-(d-x.wd) % 7 by omega])
end
section
def Xv(t:TrD)(l o:List TrD):Prop:=∃ A B,l=A++B∧o=A++t::B∧(∀ x ∈ B,t.at_<x.at_)∧∀ x,A.getLast?=some x→x.at_≤t.at_
theorem fH{n b:Nat}(hn:n≤1100000)(hb:b≤4096):bK n b=true:=by
 have h:(2*n+768)*b≤2200768*4096:=Nat.mul_le_mul (by omega) hb
 simp [bK];omega
theorem gI{l:List TrD}{j:Nat}{x:TrD}(h:l[j]?=some x):(aY l)[j]?=some x.row:=by simp [aY,h]
theorem tJ(l:List TrD)(j:Nat)(x:TrD):(aY l).set j x.row=aY (l.set j x):=by simp [aY,dt]
@[simp] theorem TrD.N8 (x:TrD):x.row.length=2:=rfl
theorem Qp{H:Heap}{c:C}{l:List TrD}(hL:LR H c 2 (aY l))(hl:l.length≤1000)(x:TrD) :
  ∃ o c' H',Xv x l o∧Ev tab.get (.fn Ii) [.c c,.a (x.row.map .f)] H (.c c') H'∧LR H' c' 2 (aY o)∧Kb H H' c∧(aX c'=aX c∨∃ i,aX c'=some i∧H.length≤i):=by
 suffices h:∃ r H',Ev tab.get (.fn Ii) [.c c,.a (x.row.map .f)] H r H'∧∃ o c',r=.c c'∧Xv x l o∧LR H' c' 2 (aY o)∧Kb H H' c∧(aX c'=aX c∨∃ i,aX c'=some i∧H.length≤i) by
  obtain⟨r,H',h1,o,c',rfl,h2,h3,h4,h5⟩:=h;exact⟨o,c',H',h2,h1,h3,h4,h5⟩
 refine He aN4 rfl fun Q hQ=>?_
 refine kw_sr ?_;simp [TrD.row];obtain⟨H1,hH1⟩:∃ H1:Heap,H1=H++[.box [.f (fi x.at_),.f (fi x.off)] 0]:=⟨_,rfl⟩;rw [←hH1];have b1:H1[H.length]?=some (.box [.f (fi x.at_),.f (fi x.off)] 0):=by rw [hH1];simp
 have l1:H1.length=H.length+1:=by rw [hH1];simp
 obtain⟨H2,hH2⟩:∃ H2:Heap,H2=H1++[.box (x.row.map .f) 0]:=⟨_,rfl⟩;have hL2:LR H2 c 2 (aY l):=by rw [hH2,hH1];exact(hL.push _).push _
 have hb2:H2[H1.length]?=some (.box (x.row.map .f) 0):=by rw [hH2];simp
 obtain⟨c3,H3,happ,hL3,hK3,hc3⟩:=hL2.app (eG _) (by decide) (row:=x.row) rfl (bytes:=16) (fH (by simp;omega) (by decide)) hb2
 have l2:H2.length=H.length+2:=by rw [hH2];simp [l1]
 have hK:Kb H H3 c:=⟨by have:=hK3.1;omega,fun i y hy hn=>hK3.2 i y (by rw [hH2,hH1,cC,ae (ay hy)];exact hy) hn⟩
 have aMQ:aX c3=aX c∨∃ i,aX c3=some i∧H.length≤i:=hc3.imp id fun h=>⟨_,h,by omega⟩
 refine kw_sr ?_;have e2:H1++[.box [.f (fi x.at_),.f (fi x.off)] 0]=H2:=hH2.symm;simp [b1,aS];rw [e2];simp [happ];rcases hL3 with⟨h,_⟩ | ⟨_,b,ep,rfl,hb⟩
 ·simp at h
 have e3:aY l++[x.row]=aY (l++[x]):=by simp [aY]
 rw [e3]at hb;refine kw_seq ?_;refine kw_sr ?_;simp [hb.len];refine aN ?_;clear hK3 hc3
 refine iL (fun n s=>∃(A B:List TrD) (t:T) (J:Heap),s=⟨t,[],J⟩∧n=A.length∧l=A++B∧(∀ z ∈ B,x.at_<z.at_)∧RB J b 2 ep (aY (A++x::B))∧Fm b H3 J∧t.g 5=.c (.sl b 0 (l.length+1) 0 ep 2)∧t.g 6=vi A.length) l.length
  ⟨l,[],_,H3,rfl,rfl,by simp,by simp,hb,Fm.refl _,by simp,by simp;exact wrap64 (by omega) (by omega)⟩ ?_
 rintro n s ⟨A,B,t,J,rfl,rfl,hAB,hB,hJ,hF,g5,g6⟩ ih;have hlen:l.length=A.length+B.length:=by rw [hAB];simp
 refine kw_seq ?_
 have fin:(∀ z,A.getLast?=some z→z.at_≤x.at_)→∀ t:T,t.g 5=.c (.sl b 0 (l.length+1) 0 ep 2)→WP tab.get Ii none [.code wB] ⟨t,[],J⟩ Q:=by
  intro hlast t g5;refine kw_sr ?_;simp [g5];refine aQ (hQ _ _ (.c (.sl b 0 (l.length+1) 0 ep 2)) rfl (res_one (by simp)) ⟨A++x::B,_,rfl,⟨A,B,hAB,rfl,hB,hlast⟩,.inr ⟨by simp [aY],b,ep,?_,hJ⟩,?_,?_⟩)
  ·simp [hlen];omega
  ·refine⟨a7 hK.1 hF.1,fun i y hy hn=>?_⟩
   have h1:=hK.2 i y hy hn;refine hF.get h1 ?_;rintro rfl;rcases aMQ with e | ⟨k,e,hk⟩
   ·exact hn (by rw [←e];rfl)
   ·cases e;have:=ay hy;omega
  ·exact aMQ
 have hgr:=eG (A++x::B)
 cases hA:A.getLast? with
 | none=>
  have hA0:A=[]:=by simpa using hA
  subst hA0;refine kw_sr ?_;simp [g6];refine ah (by simp) ?_
  refine iM (k':=[.code wB]) rfl ?_
  exact fin (by simp) _ (by simp [g5])
 | some z=>
  obtain⟨A',rfl⟩:∃ A',A=A'++[z]:=by
   obtain⟨A',e⟩:=List.getLast?_eq_some_iff.1 hA;exact⟨A',e⟩
  have hal:(A'++[z]).length=A'.length+1:=by simp
  rw [hal]at hlen;have gz:(A'++[z]++x::B)[A'.length]?=some z:=by simp
  have gx:(A'++[z]++x::B)[A'.length+1]?=some x:=by
   rw [bc (by simp)];simp
  have iz:aO J 2 none (.c (.sl b 0 (l.length+1) 0 ep 2)) (vi A'.length)=some (.c (.ptr b (A'.length*2) ep)):=by
   have:=hJ.idx (n:=l.length+1) (c:=0) (k:=.i64) (o:=0) (i:=(A'.length:Int)) (by omega) (by omega)
   simpa using this
  have ix:aO J 2 none (.c (.sl b 0 (l.length+1) 0 ep 2)) (vi ((A'.length:Int)+1))=some (.c (.ptr b ((A'.length+1)*2) ep)):=by
   have:=hJ.idx (n:=l.length+1) (c:=0) (k:=.i64) (o:=0) (i:=(A'.length:Int)+1) (by omega) (by omega)
   rw [cg,show((A'.length:Int)+1).toNat=A'.length+1 by omega]at this
   exact this
  have cz:=hJ.ldc hgr (gI gz) (k:=0) (x:=fi z.at_) rfl;have cx:=hJ.ldc hgr (gI gx) (k:=0) (x:=fi x.at_) rfl;simp only [Nat.add_zero]at cz cx;have w1:IntKind.i64.wrap (A'.length:Int)=A'.length:=wrap64 (by omega) (by omega)
  refine kw_sr ?_;simp [g5,g6,hal,show(0:Int)<(A'.length:Int)+1 by omega,w1,iz,ix,cz,cx,-aC]
  by_cases hlt:x.at_<z.at_
  case neg=>
   refine ah (by simp [hlt]) ?_
   refine iM (k':=[.code wB]) rfl ?_;exact fin (fun w hw=>by rw [hA]at hw;cases hw;omega) _ (by simp [g5])
  refine ak (by simp [hlt]) (aW ?_)
  refine kw_seq ?_;refine aN ?_;have rx:=hJ.ldr hgr (gI gx);refine kw_sr ?_;simp [g5,g6,hal,ix,rx,-aC,TrD.row];obtain⟨J1,hJ1⟩:∃ J1:Heap,J1=J++[.box [.f (fi x.at_),.f (fi x.off)] 0]:=⟨_,rfl⟩;have hJb:RB J1 b 2 ep (aY (A'++[z]++x::B)):=by rw [hJ1];exact hJ.push _
  have bxl:J1[J.length]?=some (.box [.f (fi x.at_),.f (fi x.off)] 0):=by rw [hJ1];simp
  have hbl:=hJ.lt;rw [←hJ1]
  have ixg:∀ {K:Heap} {rows:List (List FC)} (_:RB K b 2 ep rows),aO K 2 none (.c (.sl b 0 (l.length+1) 0 ep 2)) (vi ((A'.length:Int)+1))=some (.c (.ptr b ((A'.length+1)*2) ep)):=fun hK=>by
   have:=hK.idx (n:=l.length+1) (c:=0) (k:=.i64) (o:=0) (i:=(A'.length:Int)+1) (by omega) (by omega)
   rw [cg,show((A'.length:Int)+1).toNat=A'.length+1 by omega]at this
   exact this
  have izg:∀ {K:Heap} {rows:List (List FC)} (_:RB K b 2 ep rows),aO K 2 none (.c (.sl b 0 (l.length+1) 0 ep 2)) (vi A'.length)=some (.c (.ptr b (A'.length*2) ep)):=fun hK=>by
   have:=hK.idx (n:=l.length+1) (c:=0) (k:=.i64) (o:=0) (i:=(A'.length:Int)) (by omega) (by omega)
   simpa using this
  have rz:=hJb.ldr hgr (gI gz);obtain⟨J2,s1,hJ2,f12,n12⟩:=hJb.str (j:=A'.length+1) (row:=z.row) hgr (by simp) rfl
  have aQ1:Grid 2 ((aY (A'++[z]++x::B)).set (A'.length+1) z.row):=by rw [tJ];exact eG _
  obtain⟨J3,s2,hJ3,f23,n23⟩:=hJ2.str (j:=A'.length) (row:=x.row) aQ1 (by simp) rfl
  have bx2:=f12.get bxl (by omega)
  have hrows:((aY (A'++[z]++x::B)).set (A'.length+1) z.row).set A'.length x.row=aY (A'++x::z::B):=by
   rw [tJ,tJ]
   congr 1
   rw [cC];simp
  rw [hrows]at hJ3;refine kw_sr ?_;simp only [TrD.row,ax,aE]at rz s1 s2;simp [g5,g6,hal,w1,ixg hJb,izg hJb,rz,s1,-aC,-bJ];refine kw_region (.inl rfl) ?_;simp [g5,g6,hal,w1,izg hJ2,bx2,aS,s2,-bJ];refine aF ?_;refine kw_region (.inl rfl) ?_;simp [g6,hal,w1];have hFJ:Fm b H3 J3:=((hF.trans (by rw [hJ1];exact Fm.push _ _)).trans f12).trans f23
  refine ih A'.length _ (by simp) ⟨A',z::B,_,J3,rfl,rfl,by rw [hAB];simp,?_,hJ3,hFJ,by simp [g5],by simp⟩
  intro w hw;rcases cF.1 hw with rfl | hw
  ·exact hlt
  ·exact hB w hw
end
section
def opd(x:aZ)(j:Nat):Int:=if j=0 then x.l else x.r
def usW(U:List Int)(x:aZ):Nat→List Int
 | 0=>U
 | j+1=>if j<fD x.k then qV (usW U x j) (opd x j)else usW U x j
@[simp] theorem asy (U:List Int) (x:aZ):∀ j,(usW U x j).length=U.length
 | 0=>rfl
 | j+1=>by unfold usW;split<;>simp [asy U x j]
theorem NT{r:List aZ}{x:aZ}{i n:Nat}(h:pR i x):usW (bF r n) x 2=bF (r++[x]) n:=by
 have h2:=rV x.k;rcases(show fD x.k=0∨fD x.k=1∨fD x.k=2 by omega)with e | e | e
 ·rw [JV e];simp [usW,e]
 ·rw [JU e (h.l1 (by omega)).1];simp [usW,e,opd]
 ·rw [JR e (h.l1 (by omega)).1 (h.r2 e).1];simp [usW,e,opd]
abbrev cI(n:Int):C:=.f (fi n)
theorem Dn{U:List Int}{k:Int}(h0:0≤k)(h1:k<U.length):over (U.map cI) k.toNat [cI (U.getD k.toNat 0+1)]=(qV U k).map cI:=by
 rw [zK (by simp;omega),qV,dt]
theorem Ku{k:Nat}(h:k<19):(iR.drop (k*4)).take 4=jE k:=
 Af (sz:=4) (rows:=(List.range 19).map jE) (fun r hr=>by obtain⟨j,_,rfl⟩:=List.mem_map.1 hr;rfl) (by simp [h])
theorem aMj{H:Heap}{b fl:Nat}(hb:H[b]?=some (.box (iR.map .f) fl)){k:Nat}(h:k<19):ldV H (some 4) (.c (.ptr b (k*4) 0))=some (.a ((jE k).map .f)):=by
 have hl:iR.length=76:=by decide
 have:k*4+4≤iR.length:=by omega
 simp only [ldV,aG,hb];simp [aS,←List.map_drop,←List.map_take,Ku h];omega
theorem gX{H:Heap}{g:Tg}{r:List aK}{j:Nat}(hj:j<r.length)(hl:r.length≤64):aO H 8 none (.c (.f (sl g (aB r)))) (vi j)=some (.c (.f (.fp (aB r).flatten (j*8)))):=by
 have:=iE (H:=H) (g:=g) (rows:=aB r) (sz:=8) (k:=.i64) (i:=(j:Int)) (by omega) (by simp;omega)
 simpa using this
theorem nO{H:Heap}{r:List aK}{j:Nat}(hj:j<r.length):ldV H (some 8) (.c (.f (.fp (aB r).flatten (j*8))))=some (.a (r[j].row.map .f)):=by
 have:=nM (H:=H) (rows:=aB r) (j:=j) (sz:=8) (row:=r[j].row) (fO r) (nH hj);simpa using this
theorem UY{H:Heap}{i:Nat}{x:Blk}(h:H[i]?=some x):H.set i x=H:=by
 refine List.ext_getElem? fun j=>?_
 rw [List.getElem?_set];split
 ·rename_i e;subst e;rw [if_pos (ay h),h]
 ·rfl
theorem awo{U:List Int}{B k:Int}(h:∀ v ∈ U,0≤v∧v≤B):∀ v ∈ qV U k,0≤v∧v≤B+1:=by
 intro v hv;unfold qV at hv;rcases List.mem_or_eq_of_mem_set hv with hv | rfl
 ·have:=h v hv;omega
 ·rw [bu]
  cases hu:U[k.toNat]? with
  | none=>
   by_cases hU:U=[]
   ·subst hU;simp at hv
   ·obtain⟨w,hw⟩:=List.exists_mem_of_ne_nil U hU;have:=h w hw
    simp;omega
  | some w=>have:=h w (List.mem_of_getElem? hu);simp;omega
theorem Ea{U:List Int}{x:aZ}{B:Int}(h:∀ v ∈ U,0≤v∧v≤B):∀ j:Nat,∀ v ∈ usW U x j,0≤v∧v≤B+j
 | 0=>fun v hv=>by have:=h v hv;omega
 | j+1=>fun v hv=>by
  unfold usW at hv;split at hv
  ·have:=awo (Ea h j) v hv;omega
  ·have:=Ea h j v hv;omega
theorem av6(v:Int):Kf tab.get Ia [vi v] (vb (decide (v≠1))):=by
 refine OB aNN rfl fun H Q hQ=>?_
 refine kw_sr ?_;simp;refine kw_sr ?_;simp;exact aQ (hQ _ _ (by simp))
theorem axl(g:Tg)(l:List Int)(hl:l.length≤9223372036854775807):Km.Pure tab.get Nc [.c (.f (sl g (ints l))),.c (.f (.fn Ia []))]=Eq (vb (l.any fun v=>decide (v≠1))):=
 (yc aJz (Dk aJx l (fun v=>[fi v]) (fun v=>vi v) (fun v=>decide (v≠1)) g Ia [] hl
  (fun j hj H=>by rw [Nat.mul_one];exact qR hj) (fun p hp=>av6 p))).eq
theorem sO(g:Tg){r:List aK}(hG:Good (dat r))(hl:r.length≤64):Km.Pure tab.get DL [.c (.f (sl g (aB r)))]=Eq (vb true):=Km.Pure.eq (by
 have hpos:0<r.length:=by have:=hG.pos;simpa using this
 obtain⟨n,hn⟩:∃ n,n=r.length:=⟨_,rfl⟩;refine bZ aNO rfl fun Q hQ=>?_
 refine kw_sr ?_;simp;refine kw_seq (kw_sr ?_);simp [←hn,show¬ (n:Int)<1 by omega,show¬ (64:Int)<n by omega]
 refine bQ (by simp) ?_
 have hsl:iR.length=76:=by decide
 refine kw_sr ?_;simp [rP,hsl];refine kw_sr ?_;have hroom:bK n 8=true:=fH (by omega) (by decide)
 have hmk:∀(t:T) (H:Heap),(R 22).ev t=vi n→xOp t H (.dK 1 8 [fi 0] (R 22) (R 22))=some (.c (.sl H.length 0 n n 0 1),H++[.box ((bF [] n).map cI) 0]):=by
  intro t H h;have e:(dw n [fi 0]).map C.f=(bF [] n).map cI:=by rw [CG];simp [dw]
  simp only [xOp,h,gW];rw [if_pos ⟨by omega,cR _,by simpa using hroom,rfl⟩,if_neg (by omega),bB,e]
 simp [←hn,hmk];refine kw_seq (kw_sr ?_);simp [←hn]
 refine qU n (fun i t H=>∃ r',r'=(dat r).take i∧t.g 0=.c (.f (sl g (aB r)))∧t.g 3=.c (.ptr 0 0 0)∧t.g 4=.c (.sl 1 0 n n 0 1)∧t.g 24=.c (.f (sl g (aB r)))∧H[0]?=some (.box (iR.map .f) 0)∧H[1]?=some (.box ((bF r' n).map cI) 0))
  (by omega) (by decide) (by decide) (by simp) (by simp) ⟨[],by simp,by simp,by simp,by simp,by simp,rfl,rfl⟩ ?_ ?_
 ·rintro i t H hi ⟨r',hr',g0,g3,g4,g24,h0,h1⟩ ha hb next;have hir:i<r.length:=by omega
  have hA:=hG.at_ i (by simpa using hir)
  obtain⟨x,hx⟩:∃ x,x=r[i]:=⟨_,rfl⟩;have hxd:(dat r)[i]'(by simpa using hir)=x.d:=by rw [hx];simp
  rw [hxd]at hA;obtain⟨hlen,hK⟩:=hA.ok;have hk:=hK.k;obtain⟨k,hkk⟩:∃ k:Nat,x.d.k=k:=⟨x.d.k.toNat,by omega⟩
  have aIH:k<19:=by omega
  have hops:=yP hk.1;rw [hkk,bB]at hops
  have hnext:usW (bF r' n) x.d 2=bF ((dat r).take (i+1)) n:=by
   rw [NT hA,hr',aD (by simpa using hir),hxd]
  refine aN (kw_sr ?_);have hH0:0<H.length:=ay h0;have hH1:1<H.length:=ay h1;simp [ha,g24,gX hir hl,nO hir,←hx,aK.row];obtain⟨J,hJ⟩:∃ J:Heap,J=H++[.box (x.row.map .f) 0]:=⟨_,rfl⟩;have j0:J[0]?=some (.box (iR.map .f) 0):=by rw [hJ,ae hH0];exact h0
  have j1:J[1]?=some (.box ((bF r' n).map cI) 0):=by rw [hJ,ae hH1];exact h1
  have jx:J[H.length]?=some (.box (x.row.map .f) 0):=by rw [hJ];simp
  have jl:J.length=H.length+1:=by rw [hJ];simp
  simp only [aK.row,ax,aE]at hJ jx;rw [←hJ];clear hJ;obtain⟨px,hpx⟩:∃ px,px=H.length:=⟨_,rfl⟩;rw [←hpx]at jx jl hH1 ⊢;clear hpx h0 h1 hH0;refine kw_seq (kw_sr ?_);have hd1:decide (1≤x.d.k∧x.d.k≤18)=true:=decide_eq_true ⟨by omega,by omega⟩
  simp [jx,aS,eX,hd1,show¬ (64:Int)<x.d.li.length by omega]
  refine bQ (by simp) ?_
  have hix:∀ H,aO H 4 (some 19) (.c (.ptr 0 0 0)) (vi x.d.k)=some (.c (.ptr 0 (k*4) 0)):=fun H=>by
   rw [hkk,OC (by omega) (by omega)];simp
  refine kw_sr ?_;have hls:=aMj j0 aIH;simp only [jE,ax,aE]at hls;have hlk:ldV J none (.c (.ptr px 0 0))=some (vi x.d.k):=by simp [ldV,jx,aG,aS]
  simp [hlk,g3,hix,hls,-aC];obtain⟨J2,hJ2⟩:∃ J2:Heap,J2=J++[.box ((jE k).map .f) 0]:=⟨_,rfl⟩;have i0:J2[0]?=some (.box (iR.map .f) 0):=by rw [hJ2,ae (ay j0)];exact j0
  have i1:J2[1]?=some (.box ((bF r' n).map cI) 0):=by rw [hJ2,ae (ay j1)];exact j1
  have ix:=jx;rw [←ae (l₂:=[.box ((jE k).map .f) 0]) (ay jx),←hJ2]at ix;have is_:J2[px+1]?=some (.box ((jE k).map .f) 0):=by rw [hJ2,←jl];simp
  have il:J2.length=px+2:=by rw [hJ2];simp [jl]
  simp only [jE,ax,aE]at hJ2 is_;rw [←hJ2,jl];clear hJ2 hls hlk j0 j1 jx jl;refine kw_seq (kw_sr ?_);have hl2:bV (J2++[.box [.f (fi x.d.l),.f (fi x.d.r)] 0]) (.sl J2.length 0 2 2 0 1)=some 2:=by simp [bV]
  simp [ix,aS,hl2];obtain⟨J3,hJ3⟩:∃ J3:Heap,J3=J2++[.box [.f (fi x.d.l),.f (fi x.d.r)] 0]:=⟨_,rfl⟩;have q0:J3[0]?=some (.box (iR.map .f) 0):=by rw [hJ3,ae (ay i0)];exact i0
  have q1:J3[1]?=some (.box ((bF r' n).map cI) 0):=by rw [hJ3,ae (ay i1)];exact i1
  have qx:=ix;rw [←ae (l₂:=[.box [.f (fi x.d.l),.f (fi x.d.r)] 0]) (ay ix),←hJ3]at qx;have qs:=is_;rw [←ae (l₂:=[.box [.f (fi x.d.l),.f (fi x.d.r)] 0]) (ay is_),←hJ3]at qs;have ql:J3[px+2]?=some (.box [.f (fi x.d.l),.f (fi x.d.r)] 0):=by rw [hJ3,←il];simp
  rw [←hJ3,il];clear hJ3 i0 i1 ix is_ il
  refine qU 2 (fun j t H=>t.g 0=.c (.f (sl g (aB r)))∧t.g 3=.c (.ptr 0 0 0)∧t.g 4=.c (.sl 1 0 n n 0 1)∧t.g 24=.c (.f (sl g (aB r)))∧t.g 5=vi i∧t.g 6=.c (.ptr px 0 0)∧t.g 7=.c (.ptr (px+1) 0 0)∧t.g 49=.c (.sl (px+2) 0 2 2 0 1)∧t.g 26=vi i∧t.g 25=vi n∧H=J3.set 1 (.box ((usW (bF r' n) x.d j).map cI) 0))
   (by decide) (by decide) (by decide) (by simp) (by simp) ⟨by simp [g0],by simp [g3],by simp [g4],by simp [g24],by simp,by simp,by simp,by simp,by simp [ha],by simp [hb],(UY q1).symm⟩ ?_ ?_
  ·rintro j t H hj ⟨g0,g3,g4,g24,g5,g6,g7,g49,g26,g25,rfl⟩ ha hb next;obtain⟨U,hU⟩:∃ U,U=usW (bF r' n) x.d j:=⟨_,rfl⟩;have hUl:U.length=n:=by rw [hU];simp
   have hUb:∀ v ∈ U,0≤v∧v≤1000:=by
    intro v hv;rw [hU]at hv
    have:=Ea (B:=2*r'.length) (fun v hv=>by
     obtain⟨k,hk,rfl⟩:=b7 hv
     exact FP r' n k (by simpa using hk)) j v hv
    have:r'.length≤64:=by rw [hr'];simp;omega
    omega
   have hnx:usW (bF r' n) x.d (j+1)=if j<zx k then qV U (opd x.d j)else U:=by
    rw [usW,hkk,hops,hU]
   rw [←hU];obtain⟨o,ho⟩:∃ o,o=opd x.d j:=⟨_,rfl⟩;rw [←ho]at hnx;obtain⟨K,hK'⟩:∃ K:Heap,K=J3.set 1 (.box (U.map cI) 0):=⟨_,rfl⟩;have p1:K[1]?=some (.box (U.map cI) 0):=by rw [hK'];exact ap (ay q1)
   have px':K[px]?=some (.box (x.row.map .f) 0):=by rw [hK',al (by omega)];exact qx
   have ps:K[px+1]?=some (.box ((jE k).map .f) 0):=by rw [hK',al (by omega)];exact qs
   have pl:K[px+2]?=some (.box [.f (fi x.d.l),.f (fi x.d.r)] 0):=by rw [hK',al (by omega)];exact ql
   have hKn:∀ W:List Int,K.set 1 (.box (W.map cI) 0)=J3.set 1 (.box (W.map cI) 0):=fun W=>by rw [hK',List.set_set]
   rw [←hK']
   have hidx:aO K 1 none (.c (.sl (px+2) 0 2 2 0 1)) (vi j)=some (.c (.ptr (px+2) j 0)):=by
    simp [aO,gW,pl];omega
   have hld:ldV K none (.c (.ptr (px+2) j 0))=some (vi o):=by
    rcases(show j=0∨j=1 by omega)with rfl | rfl<;>simp [ldV,pl,aG,aS,ho,opd]
   have hos:ldV K none (.c (.ptr (px+1) 0 0))=some (vi (zx k)):=by simp [ldV,ps,aG,aS,jE]
   have hlk:ldV K none (.c (.ptr px 0 0))=some (vi x.d.k):=by simp [ldV,px',aG,aS,aK.row]
   refine aN (kw_sr ?_);simp [ha,g49,hidx,hld,-aC];refine aN (kw_sr ?_);simp [g7,hos,-aC];by_cases hjo:j<zx k
   ·rw [if_pos hjo]at hnx
    have hob:0≤o∧o≤(i:Int)-1:=by
     rw [ho];rcases(show j=0∨j=1 by omega)with rfl | rfl
     ·have:=hA.l1 (by rw [hkk,hops];omega);simp only [opd];simp;omega
     ·have h2:fD x.d.k=2:=by have:=rV x.d.k;rw [hkk,hops]at this ⊢;omega
      have:=hA.r2 h2;simp only [opd];simp;omega
    have aQY:decide (0≤o∧o≤(i:Int)-1)=true:=decide_eq_true hob;have hgd:U.getD o.toNat 0=U[o.toNat]'(by omega):=by rw [bu,ai (by omega)];rfl
    have hgb:=hUb _ (az (l:=U) (n:=o.toNat) (by omega))
    rw [←hgd]at hgb
    have hix:aO K 1 none (.c (.sl 1 0 n n 0 1)) (vi o)=some (.c (.ptr 1 o.toNat 0)):=by
     simp [aO,gW,p1,hob.1];omega
    have hlu:ldV K none (.c (.ptr 1 o.toNat 0))=some (vi (U.getD o.toNat 0)):=by
     have:(U.map cI).drop o.toNat=cI (U.getD o.toNat 0) ::(U.map cI).drop (o.toNat+1):=by
      rw [bp (by simp;omega),da,hgd]
     simp only [ldV,aG,p1,bh];rw [this];rfl
    have hst:stC K (.ptr 1 o.toNat 0) [.f (fi (U.getD o.toNat 0+1))]=some (K.set 1 (.box ((qV U o).map cI) 0)):=by
     have:=Dn (U:=U) (k:=o) hob.1 (by omega)
     simp only [stC,p1];rw [if_pos (by simp;omega)]
     rw [show [C.f (fi (U.getD o.toNat 0+1))]=[cI (U.getD o.toNat 0+1)] from rfl,this]
    obtain⟨u,hu⟩:∃ u,u=U.getD o.toNat 0:=⟨_,rfl⟩;rw [←hu]at hlu hst hgb;refine ak (by simp;omega) (kw_seq (kw_sr ?_))
    simp [g5,wrap64 (n:=(i:Int)-1) (by omega) (by omega),eX,aQY]
    refine bQ (by simp) ?_
    refine kw_region (.inl rfl) ?_;simp [g4,hix,hlu,hst,wrap64 (n:=u+1) (by omega) (by omega),-aC,-bJ]
    refine aF (aF ?_);refine next _ _ ?_ ?_ ?_
    ·exact⟨by simp [g0],by simp [g3],by simp [g4],by simp [g24],by simp [g5],by simp [g6],by simp [g7],by simp [g49],by simp [g26],by simp [g25],by rw [hnx,hKn]⟩
    ·simp [ha]
    ·simp [hb]
   ·rw [if_neg hjo]at hnx;refine ah (by simp;omega) (kw_sr ?_)
    have fin:∀ t:T,t.g 0=.c (.f (sl g (aB r)))→t.g 3=.c (.ptr 0 0 0)→t.g 4=.c (.sl 1 0 n n 0 1)→t.g 24=.c (.f (sl g (aB r)))→t.g 5=vi i→t.g 6=.c (.ptr px 0 0)→t.g 7=.c (.ptr (px+1) 0 0)→t.g 49=.c (.sl (px+2) 0 2 2 0 1)→t.g 26=vi i→t.g 25=vi n→t.g 51=vi j→t.g 50=vi (2:Nat)→t.g 72=vb false →
      WP tab.get DL none [.code Iy,.inBlock 4,.inBlock 3,.code Iw,.inLoop Iz,.inBlock 2,.code Iu,.inBlock 1,.code (Wi 26 122),.inLoop (zB 0 26 25 27 122 Ba),.inBlock 0,.code A8] ⟨t,[],K⟩ Q:=by
     intro t g0 g3 g4 g24 g5 g6 g7 g49 g26 g25 g51 g50 g72;refine ah g72 (aW ?_);refine aF (aF ?_);refine next _ _ ?_ ?_ ?_
     ·exact⟨by simp [g0],by simp [g3],by simp [g4],by simp [g24],by simp [g5],by simp [g6],by simp [g7],by simp [g49],by simp [g26],by simp [g25],by rw [hnx,hK']⟩
     ·simp [g51]
     ·simp [g50]
    by_cases ho0:o=0
    ·simp [ho0];exact fin _ (by simp [g0]) (by simp [g3]) (by simp [g4]) (by simp [g24]) (by simp [g5]) (by simp [g6]) (by simp [g7]) (by simp [g49]) (by simp [g26]) (by simp [g25]) (by simp [ha]) (by simp [hb]) (by simp)
    ·have hj0:j=0:=by
      rcases(show j=0∨j=1 by omega)with e | rfl
      ·exact e
      ·exact absurd (by rw [ho];simp [opd];exact hA.r0 (by rw [hkk,hops];omega)) ho0
     subst hj0
     have hk7:x.d.k=7:=by
      rcases Decidable.em (x.d.k=7)with e | e
      ·exact e
      ·exact absurd (by rw [ho];simp [opd];exact hA.l0 (by rw [hkk,hops];omega) e) ho0
     simp [ho0,g6,hlk,hk7,-aC];exact fin _ (by simp [g0]) (by simp [g3]) (by simp [g4]) (by simp [g24]) (by simp [g5]) (by simp [g6]) (by simp [g7]) (by simp [g49]) (by simp [g26]) (by simp [g25]) (by simp [ha]) (by simp [hb]) (by simp)
  ·rintro t H ⟨g0,g3,g4,g24,g5,g6,g7,g49,g26,g25,rfl⟩ - -;rw [hnext];obtain⟨K,hK'⟩:∃ K:Heap,K=J3.set 1 (.box ((bF ((dat r).take (i+1)) n).map cI) 0):=⟨_,rfl⟩;have p0:K[0]?=some (.box (iR.map .f) 0):=by rw [hK',al (by omega)];exact q0
   have p1:K[1]?=some (.box ((bF ((dat r).take (i+1)) n).map cI) 0):=by rw [hK'];exact ap (ay q1)
   have px':K[px]?=some (.box (x.row.map .f) 0):=by rw [hK',al (by omega)];exact qx
   have ps:K[px+1]?=some (.box ((jE k).map .f) 0):=by rw [hK',al (by omega)];exact qs
   rw [←hK'];have e0:ldV K none (.c (.ptr px 0 0))=some (vi x.d.k):=by simp [ldV,px',aG,aS,aK.row]
   have e1:ldV K none (.c (.ptr px 1 0))=some (vi x.d.cal):=by simp [ldV,px',aG,aS,aK.row]
   have e6:ldV K none (.c (.ptr px 6 0))=some (.c (.f (sl x.tg (ints x.d.li)))):=by simp [ldV,px',aG,aS,aK.row]
   have e7:ldV K none (.c (.ptr px 7 0))=some (.c (.f (.str zi))):=by simp [ldV,px',aG,aS,aK.row]
   have e8:ldV K (some 8) (.c (.ptr px 0 0))=some (.a (x.row.map .f)):=by simp [ldV,px',aG,aS,aK.row]
   have f1:ldV K none (.c (.ptr (px+1) 1 0))=some (vb (kF k)):=by simp [ldV,ps,aG,aS,jE]
   have f2:ldV K (some 2) (.c (.ptr (px+1) 2 0))=some (.a [.f (fi (F9 k)),.f (fi (Gf k))]):=by simp [ldV,ps,aG,aS,jE]
   have aMT:=hK.lis;have aQ8:=Ez x hK.num;have aMU:=hK.cal;rw [hkk,bB]at aMT aMU;have hL:=Qm x.tg x.d.li (F9 k) (Gf k) aMT (by omega)
   have fin:∀ t:T,t.g 0=.c (.f (sl g (aB r)))→t.g 3=.c (.ptr 0 0 0)→t.g 4=.c (.sl 1 0 n n 0 1)→t.g 24=.c (.f (sl g (aB r)))→t.g 6=.c (.ptr px 0 0)→t.g 7=.c (.ptr (px+1) 0 0)→t.g 26=vi i→t.g 25=vi n→t.g 10=vb true→t.g 11=vb true →
     WP tab.get DL none [.code Ir,.inBlock 1,.code (Wi 26 122),.inLoop (zB 0 26 25 27 122 Ba),.inBlock 0,.code A8] ⟨t,[],K⟩ Q:=by
    intro t g0 g3 g4 g24 g6 g7 g26 g25 g10 g11;refine kw_seq (kw_sr ?_);simp [g6,e0,-aC,show¬ x.d.k=18 by omega]
    refine bQ (by simp) ?_
    refine kw_sr ?_;simp [g6,g7,g10,g11,e6,e8,f2,hL,aQ8,-aC];refine bQ (by simp) ?_
    refine aF ?_;refine next _ _ ?_ ?_ ?_
    ·exact⟨_,rfl,by simp [g0],by simp [g3],by simp [g4],by simp [g24],p0,p1⟩
    ·simp [g26]
    ·simp [g25]
   refine kw_sr ?_;have hstr:dG .eql (.c (.f (.str zi))) (.c (.f (.str ⟨#[]⟩)))=some (vb true):=by simp [dG,Xf,zi];rfl
   simp [g6,e1,e7,-aC,hstr];refine kw_seq (kw_sr ?_);simp [g7,f1,-aC];cases hc:kF k
   ·have hc0:=aMU.2.2 hc;refine bQ (by simp) ?_
    exact fin _ (by simp [g0]) (by simp [g3]) (by simp [g4]) (by simp [g24]) (by simp [g6]) (by simp [g7]) (by simp [g26]) (by simp [g25]) (by simp [hc0]) (by simp)
   ·have hcd:decide (0≤x.d.cal∧x.d.cal≤2)=true:=decide_eq_true ⟨by omega,by omega⟩
    refine ak (by simp) (kw_region (.inl rfl) ?_)
    simp [g6,e1,-aC,eX,hcd];exact fin _ (by simp [g0]) (by simp [g3]) (by simp [g4]) (by simp [g24]) (by simp [g6]) (by simp [g7]) (by simp [g26]) (by simp [g25]) (by simp) (by simp)
 ·rintro t H ⟨r',hr',g0,g3,g4,g24,h0,h1⟩ - -;have hrr:r'=dat r:=by rw [hr',bi (by simp;omega)]
  subst hrr;clear hr'
  have hU:((bF (dat r) n).take (n-1)).any (fun v=>decide (v≠1))=false:=by
   rw [List.any_eq_false];intro v hv;have:=hG.bF v (by simpa [←hn]using hv)
   simp [this]
  have hw:IntKind.i64.wrap ((n:Int)-1)=((n-1:Nat):Int):=by rw [wrap64 (by omega) (by omega)];omega
  have hs:jm H 1 (.c (.sl 1 0 n n 0 1)) none (some (vi ((n-1:Nat):Int))) none=some (.c (.sl 1 0 (n-1) n 0 1)):=by
   have hb:=bnd_nat (k:=n-1) (n:=n) (by omega)
   simp [jm,h1,dh,hb];omega
  have hx:exC deep H (.sl 1 0 (n-1) n 0 1)=some (sl .fs (ints ((bF (dat r) n).take (n-1)))):=by
   have e1:(((bF (dat r) n).map cI).drop 0).take ((n-1)*1)=(((bF (dat r) n).take (n-1)).map fi).map C.f:=by simp [List.map_take,Function.comp_def]
   show exC (deep-1+1) H (.sl 1 0 (n-1) n 0 1)=_
   rw [sZ,h1];simp only [e1,yR];rw [if_pos (by simp)]
   have hlt:((bF (dat r) n).take (n-1)).length=n-1:=by simp
   by_cases hn1:n=1
   ·subst hn1;simp [sl,Tg.fc,ints]
   ·have hne:¬ (ints ((bF (dat r) n).take (n-1))).isEmpty=true:=by
     rw [List.isEmpty_iff,←List.length_eq_zero_iff];simp;omega
    rw [sl,if_neg hne,Dj,GV,hlt];rfl
  refine kw_sr ?_;have hany:=axl .fs ((bF (dat r) n).take (n-1)) (by simp;omega)
  rw [hU]at hany;simp [g0,g4,←hn,hw,hs,hx,hany]
  exact aQ (hQ _ _ (by simp)))
end
section
theorem QG{H:Heap}(g:Tg)(l:List Int)(hl:l.length≤1000):∃ r H',Ev tab.get (.fn Nj) [.c (.f (sl g (ints l)))] H r H'∧∃ c J,r=.c c∧H'=H++J∧LR (H++J) c 1 (ints l)∧∀ i,aX c=some i→H.length≤i:=
 WU (sz:=1) (zs:=[fi 0]) (bytes:=8) aJB (by decide) (iO l) (fH (by simp;omega) (by decide))
theorem asx{H:Heap}{g:Tg}{r:List aK}(hG:Good (dat r))(hl:r.length≤64){pm pr pw mb:Nat}(hm:H[pm]?=some (.box [.mp mb] 0))(hmb:H[mb]?=some (.map []))(hr:H[pr]?=some (.box [.f (sl g (aB r))] 0)) :
  ∃ q H',Ev tab.get (.fn Ig) [vi 0,.c (.ptr pm 0 0),.c (.ptr pr 0 0),.c (.ptr pw 0 0)] H q H'∧H'=H.set mb (.map [(fi 0,.f (.bool true))]):=by
 have hpos:0<r.length:=by have:=hG.pos;simpa using this
 refine He (C:=fun q H'=>H'=H.set mb (.map [(fi 0,.f (.bool true))])) aNU rfl fun Q hQ=>?_
 refine kw_sr ?_;have e1:ldV H none (.c (.ptr pm 0 0))=some (.c (.mp mb)):=by simp [ldV,hm,aG,aS]
 have hmu:∀ t:T,(R 6).ev t=.c (.mp mb)→(R 7).ev t=vi 0→xOp t H (.nK .int (R 6) (R 7) kt)=some (.top,H.set mb (.map [(fi 0,.f (.bool true))])):=by
  intro t h6 h7;simp only [xOp,h6,h7];have:yh (Arg.ev t kt)=some (.f (.bool true)):=rfl;simp only [this,hmb];rfl
 simp [e1,-aC,hmu];obtain⟨K,hK⟩:∃ K:Heap,K=H.set mb (.map [(fi 0,.f (.bool true))]):=⟨_,rfl⟩;have hne:pr≠mb:=by rintro rfl;rw [hr]at hmb;cases hmb
 have k1:K[pr]?=some (.box [.f (sl g (aB r))] 0):=by rw [hK,al (Ne.symm hne)];exact hr
 have e2:ldV K none (.c (.ptr pr 0 0))=some (.c (.f (sl g (aB r)))):=by simp [ldV,k1,aG,aS]
 rw [←hK]at hQ ⊢;obtain⟨x,hx⟩:∃ x,x=r[0]:=⟨_,rfl⟩;have hA:=hG.at_ 0 (by simpa using hpos)
 have hxd:(dat r)[0]'(by simpa using hpos)=x.d:=by rw [hx];simp
 rw [hxd]at hA;have hk:=hA.ok.2.k;obtain⟨k,hkk⟩:∃ k:Nat,x.d.k=k:=⟨x.d.k.toNat,by omega⟩
 have hops:=yP hk.1
 have hop0:fD x.d.k=0:=by
  rcases cH (fD x.d.k)with e | e
  ·exact e
  ·have:=hA.l1 e;omega
 rw [hop0,hkk,bB]at hops;have hidx:aO K 8 none (.c (.f (sl g (aB r)))) (vi 0)=some (.c (.f (.fp (aB r).flatten 0))):=gX (H:=K) (g:=g) (r:=r) (j:=0) hpos hl
 have hld:ldV K none (.c (.f (.fp (aB r).flatten 0)))=some (vi x.d.k):=by
  have:=nN (H:=K) (rows:=aB r) (j:=0) (sz:=8) (row:=r[0].row) (x:=fi r[0].d.k) (fO r) (nH hpos) rfl;rw [hx];simpa using this
 have hia:vk 19 4 (some 4) (.a (iR.map .f)) (vi x.d.k)=some (.a ((jE k).map .f)):=by
  have hl:iR.length=76:=by decide
  simp only [vk,gW,hkk];rw [if_pos ⟨by omega,by omega⟩,bB]
  simp [aS,←List.map_drop,←List.map_take,Ku (show k<19 by omega)]
  omega
 refine kw_sr ?_;have hf0:∀ a b c,qY 0 none (.a [.f (fi 0),a,b,c])=some (vi 0):=fun _ _ _=>rfl
 simp [rP,e2,-aC,hidx,hld,hia,jE,←hops,hf0];refine kw_seq (kw_sr ?_);simp;refine bQ (by simp) ?_
 refine kw_sr ?_;simp;refine bQ (by simp) ?_
 exact aIl (hQ _ _ (.t []) rfl rfl rfl)
def aK.cel(x:aK)(c:C):List C:=[cI x.d.k,cI x.d.cal,cI x.d.l,cI x.d.r,cI x.d.n,cI x.d.m,c,.f (.str zi)]
theorem aJr{H:Heap}{x:aK}(h0:fD x.d.k=0)(hk:1≤x.d.k∧x.d.k≤17)(hlen:x.d.li.length≤61)(pc:C) :
  ∃ q H',Ev tab.get (.fn Xx) [.c (.f .au),.a (x.row.map .f),.c pc] H q H'∧∃ bo c J,q=.c (.sl bo 0 1 0 0 8)∧H'=H++J∧H.length≤bo∧(H++J)[bo]?=some (.opn 8 (x.cel c) 0 0 .loc)∧LR (H++J) c 1 (ints x.d.li)∧∀ i,aX c=some i→H.length≤i:=by
 obtain⟨k,hkk⟩:∃ k:Nat,x.d.k=k:=⟨x.d.k.toNat,by omega⟩
 have hops:=yP hk.1;rw [h0,hkk,bB]at hops;refine He (C:=fun q H'=>∃ bo c J,q=.c (.sl bo 0 1 0 0 8)∧H'=H++J∧H.length≤bo∧(H++J)[bo]?=some (.opn 8 (x.cel c) 0 0 .loc)∧LR (H++J) c 1 (ints x.d.li)∧∀ i,aX c=some i→H.length≤i) aNR rfl fun Q hQ=>?_
 refine kw_sr ?_;simp;obtain⟨H1,hH1⟩:∃ H1:Heap,H1=H++[.box (x.row.map .f) 0]:=⟨_,rfl⟩;have b1:H1[H.length]?=some (.box (x.row.map .f) 0):=by rw [hH1];simp
 have l1:H1.length=H.length+1:=by rw [hH1];simp
 rw [←hH1];obtain⟨r',K,hcl,c,J,rfl,rfl,hLR,hcb⟩:=QG (H:=H1) x.tg x.d.li (by omega)
 have e1:ldV H1 none (.c (.ptr H.length 6 0))=some (.c (.f (sl x.tg (ints x.d.li)))):=by simp [ldV,b1,aG,aS,aK.row]
 have b1':(H1++J)[H.length]?=some (.box (x.row.map .f) 0):=by rw [ae (ay b1)];exact b1
 have hset:(H1++J).set H.length (.box (x.cel c) 0)=H++(.box (x.cel c) 0::J):=by
  rw [hH1,cC,List.set_append_right _ _ (aq _),Nat.sub_self];rfl
 have hst:stC (H1++J) (.ptr H.length 6 0) [c]=some (H++(.box (x.cel c) 0::J)):=by
  rw [←hset];simp [stC,b1',aK.row,aK.cel,over]
 refine kw_sr ?_;simp [e1,-aC,-bJ,hcl.eq,hst];obtain⟨K,hK⟩:∃ K:Heap,K=H++(.box (x.cel c) 0::J):=⟨_,rfl⟩;have k1:K[H.length]?=some (.box (x.cel c) 0):=by rw [hK];simp
 have kLR:LR K c 1 (ints x.d.li):=by
  refine hLR.keep fun i y hy hc=>?_
  have:=hcb i hc;rw [hK,←hset,al (by omega)]
  exact hy
 have kl:K.length=H1.length+J.length:=by rw [hK];simp [l1];omega
 rw [←hK];have e2:ldV K none (.c (.ptr H.length 0 0))=some (vi x.d.k):=by simp [ldV,k1,aG,aS,aK.cel]
 have hia:vk 19 4 (some 4) (.a (iR.map .f)) (vi x.d.k)=some (.a ((jE k).map .f)):=by
  have hl:iR.length=76:=by decide
  simp only [vk,gW,hkk];rw [if_pos ⟨by omega,by omega⟩,bB]
  simp [aS,←List.map_drop,←List.map_take,Ku (show k<19 by omega)]
  omega
 have hf0:∀ a b c,qY 0 none (.a [.f (fi 0),a,b,c])=some (vi 0):=fun _ _ _=>rfl
 refine kw_seq (kw_sr ?_);simp [rP,e2,-aC,hia,jE,←hops,hf0];refine aN (kw_sr ?_);simp;refine ah (by simp) (kw_sr ?_)
 simp;refine bQ (by simp) ?_
 refine aF ?_;have e3:ldV K (some 8) (.c (.ptr H.length 0 0))=some (.a (x.cel c)):=by simp [ldV,k1,aG,aS,aK.cel]
 refine kw_sr ?_;have hc8:(x.cel c).length=8:=rfl;obtain⟨K2,hK2⟩:∃ K2:Heap,K2=K++[.box (x.cel c) 0]:=⟨_,rfl⟩;have k2:K2[K.length]?=some (.box (x.cel c) 0):=by rw [hK2];simp
 have hadd:=sF (H:=K2) (sz:=8) (c:=1) k2 hc8
 have happ:dn K2 8 88 (.c (.f .au)) (.c (.sl K.length 0 1 1 0 8))=some (.c (.sl K2.length 0 1 0 0 8),K2++[.opn 8 (x.cel c) 0 0 .loc]):=by
  have hr:bK 1 88=true:=by decide
  simp [dn,hadd,hr]
 simp [e3,-aC,hc8];rw [←hK2];simp [happ];have hfin:K2++[.opn 8 (x.cel c) 0 0 .loc]=H++((.box (x.cel c) 0::J)++[.box (x.cel c) 0]++[.opn 8 (x.cel c) 0 0 .loc]):=by rw [hK2,hK];simp
 refine aQ (hQ _ _ (.c (.sl K2.length 0 1 0 0 8)) rfl (res_one (by simp)) ⟨K2.length,c,_,rfl,hfin,?_,?_,?_,fun i hi=>?_⟩)
 ·rw [hK2,hK];simp
 ·rw [←hfin];simp
 ·rw [←hfin,hK2];exact(kLR.push _).push _
 ·have:=hcb i hi;omega
theorem aI0{H:Heap}{x:aK}{c:C}{bo:Nat}(hb:H[bo]?=some (.opn 8 (x.cel c) 0 0 .loc))(hc:LR H c 1 (ints x.d.li)):∃ F,exC deep H (.sl bo 0 1 0 0 8)=some F:=by
 obtain⟨g,hg⟩:=hc.ex (iO _) 62;refine⟨.fs [fi x.d.k,fi x.d.cal,fi x.d.l,fi x.d.r,fi x.d.n,fi x.d.m,sl g (ints x.d.li),.str zi] 1,?_⟩
 show exC (63+1) H (.sl bo 0 1 0 0 8)=_
 rw [sZ,hb];have:(x.cel c).drop 0=x.cel c:=rfl;simp [aK.cel,bC,hg]
theorem auA(g:Tg){r:List aK}(hG:Good (dat r))(hl:r.length≤64):∃ F,Km.Pure tab.get Ih [.c (.f (sl g (aB r))),vi 0]=Eq (.t [.c (.f F),vi 0]):=by
 obtain⟨rr,⟨F,rfl⟩,hp⟩:∃ rr,(∃ F,rr=.t [.c (.f F),vi 0])∧Km.Pure tab.get Ih [.c (.f (sl g (aB r))),vi 0] rr:=by
  have hpos:0<r.length:=by have:=hG.pos;simpa using this
  have hwf:=sO g hG hl;obtain⟨n,hn⟩:∃ n,n=r.length:=⟨_,rfl⟩;refine dY aNV rfl fun Q hQ=>?_
  refine kw_sr ?_;simp;refine kw_seq (aN (kw_sr ?_));simp [aS,hwf];refine ah (by simp) (kw_sr ?_)
  simp [aS,←hn,show¬ n=0 by omega]
  refine ah (by simp) (aW (aF ?_))
  have hroom:bK n 8=true:=fH (by omega) (by decide)
  have hmk:∀(t:T) (H:Heap),(R 26).ev t=vi n→xOp t H (.dK 1 8 [fi 0] (R 26) (R 26))=some (.c (.sl H.length 0 n n 0 1),H++[.box ((List.replicate n (fi 0)).map .f) 0]):=by
   intro t H h;have e:(dw n [fi 0]).map C.f=(List.replicate n (fi 0)).map .f:=by simp [dw]
   simp only [xOp,h,gW];rw [if_pos ⟨by omega,cR _,by simpa using hroom,rfl⟩,if_neg (by omega),bB,e]
  refine kw_sr ?_;simp [aS,←hn,hmk];refine kw_sr ?_;simp;refine kw_sr ?_;simp;refine kw_sr ?_;have hmm:∀(t:T) (H:Heap),xOp t H .nJ=some (.c (.mp H.length),H++[.map []]):=fun _ _=>rfl
  simp [hmm];refine kw_sr ?_;simp;obtain⟨Hw,hHw⟩:∃ Hw:Heap,Hw=[.box [.f (sl g (aB r))] 0,.box (List.replicate n (.f (fi 0))) 0,.box [.cl Ig [.ptr 4 0 0,.ptr 0 0 0,.ptr 2 0 0]] 0,.map [],.box [.mp 3] 0]:=⟨_,rfl⟩;rw [←hHw];obtain⟨q,H',he,rfl⟩:=asx (H:=Hw) (g:=g) hG hl (pm:=4) (pr:=0) (pw:=2) (mb:=3) (by rw [hHw];rfl) (by rw [hHw];rfl) (by rw [hHw];rfl)
  have e8:ldV Hw none (.c (.ptr 2 0 0))=some (.c (.cl Ig [.ptr 4 0 0,.ptr 0 0 0,.ptr 2 0 0])):=by rw [hHw];rfl
  refine kw_sr ?_;simp [e8,-aC,fA,he.eq];obtain⟨H0,hH0⟩:∃ H0:Heap,H0=Hw.set 3 (.map [(fi 0,.f (.bool true))]):=⟨_,rfl⟩;rw [←hH0];have z0:H0[0]?=some (.box [.f (sl g (aB r))] 0):=by rw [hH0,hHw];rfl
  have z1:H0[1]?=some (.box ((List.replicate n (fi 0)).map .f) 0):=by rw [hH0,hHw];simp
  have z3:H0[3]?=some (.map [(fi 0,.f (.bool true))]):=by rw [hH0,hHw];rfl
  have z4:H0[4]?=some (.box [.mp 3] 0):=by rw [hH0,hHw];rfl
  clear hH0 hHw he e8 hmm hmk;have e2:ldV H0 none (.c (.ptr 0 0 0))=some (.c (.f (sl g (aB r)))):=by simp [ldV,z0,aG,aS]
  refine kw_seq (kw_sr ?_);simp [e2,-aC,←hn];obtain⟨x0,hx0⟩:∃ x0,x0=r[0]:=⟨_,rfl⟩;have hA:=hG.at_ 0 (by simpa using hpos)
  have hxd:(dat r)[0]'(by simpa using hpos)=x0.d:=by rw [hx0];simp
  rw [hxd]at hA;have hk:=hA.ok.2.k
  have hop0:fD x0.d.k=0:=by
   rcases cH (fD x0.d.k)with e | e
   ·exact e
   ·have:=hA.l1 e;omega
  refine qU n (fun i t H=>t.g 33=.c (.f (sl g (aB r)))∧t.g 6=.c (.sl 1 0 n n 0 1)∧t.g 9=.c (.ptr 4 0 0)∧H[4]?=some (.box [.mp 3] 0)∧H[3]?=some (.map [(fi 0,.f (.bool true))])∧(∃ cs:List FC,cs.length=n∧H[1]?=some (.box (cs.map .f) 0)) ∧
    (i=0→t.g 7=.c (.f .au))∧(0<i→∃ bo c,t.g 7=.c (.sl bo 0 1 0 0 8)∧2≤bo∧H[bo]?=some (.opn 8 (x0.cel c) 0 0 .loc)∧LR H c 1 (ints x0.d.li)∧∀ b,aX c=some b→2≤b))
   (by omega) (by decide) (by decide) (by simp) (by simp) ⟨by simp,by simp,by simp,z4,z3,⟨_,by simp,z1⟩,fun _=>by simp,fun h=>absurd h (by omega)⟩ ?_ ?_
  ·rintro i t H hi ⟨g33,g6,g9,h4,h3,⟨cs,hcs,h1⟩,hz,hp⟩ ha hb next;have hir:i<r.length:=by omega
   refine aN (kw_sr ?_);simp [ha,g33,gX hir hl,nO hir,aK.row];obtain⟨J,hJ⟩:∃ J:Heap,J=H++[.box (r[i].row.map .f) 0]:=⟨_,rfl⟩;have jx:J[H.length]?=some (.box (r[i].row.map .f) 0):=by rw [hJ];simp
   have up:∀ {b:Nat} {y:Blk},H[b]?=some y→J[b]?=some y:=fun {b y} h=>by rw [hJ,ae (ay h)];exact h
   have jl:J.length=H.length+1:=by rw [hJ];simp
   have upL:∀ {c:C} {rows:List (List FC)},LR H c 1 rows→LR J c 1 rows:=fun h=>by rw [hJ];exact h.push _
   simp only [aK.row,ax,aE]at hJ;rw [←hJ];have e9:ldV J none (.c (.ptr 4 0 0))=some (.c (.mp 3)):=by simp [ldV,up h4,aG,aS]
   have hlk:∀ t:T,(R 40).ev t=.c (.mp 3)→(R 41).ev t=vi i→xOp t J (.lookup .int (.bool false) (R 40) (R 41))=some (vb (decide (i=0)),J):=by
    intro t h40 h41
    have e:jv J .int (.bool false) (.c (.mp 3)) (vi i)=some (vb (decide (i=0))):=by
     simp only [jv,up h3]
     have:qM .int (fi (i:Int)) [(fi 0,.f (.bool true))]=some (if i=0 then some (.f (.bool true))else none):=by
      simp only [qM,eqK];by_cases hi0:i=0
      ·subst hi0;rfl
      ·have:(((i:Int)) == 0)=false:=by simp;exact hi0
       simp [hi0,this]
     rw [this];by_cases hi0:i=0
     ·subst hi0;rfl
     ·simp [hi0];exact⟨rfl,rfl⟩
    simp only [xOp,h40,h41,e];rfl
   refine kw_sr ?_;simp [g9,e9,-aC,hlk];by_cases hi0:i=0
   ·subst hi0;have g7:=hz rfl;have hrx:r[0].row=x0.row:=by rw [hx0]
    have e11:ldV J (some 8) (.c (.ptr H.length 0 0))=some (.a (x0.row.map .f)):=by
     rw [hrx]at jx;simp [ldV,jx,aG,aS,aK.row]
    have w0:IntKind.i64.wrap 0=0:=by decide
    obtain⟨q,H',hq,bo,c,M,rfl,rfl,hbl,hbo,hLR,hcb⟩:=aJr (H:=J) (x:=x0) hop0 hk (by have:=hA.ok.1;omega) (.sl 1 0 n n 0 1)
    refine ak (by simp) (kw_sr ?_)
    simp [g7,g6,e11,-aC,hq.eq];have up2:∀ {b:Nat} {y:Blk},H[b]?=some y→(J++M)[b]?=some y:=fun {b y} h=>by rw [ae (ay (up h))];exact up h
    obtain⟨K,hK⟩:∃ K:Heap,K=J++M:=⟨_,rfl⟩;rw [←hK]at hbo hLR up2 ⊢;have hlen1:bV K (.sl bo 0 1 0 0 8)=some 1:=by simp [bV,hbo]
    have hix:aO K 1 none (.c (.sl 1 0 n n 0 1)) (vi 0)=some (.c (.ptr 1 0 0)):=by
     simp [aO,gW,up2 h1];omega
    have hst:stC K (.ptr 1 0 0) [.f (fi 0)]=some (K.set 1 (.box ((cs.set 0 (fi 0)).map .f) 0)):=by
     simp only [stC,up2 h1];rw [if_pos (by simp;omega),dt,zK (by simp;omega)]
    have hH1:=ay h4;refine kw_region (.inl rfl) ?_;simp [g6,hlen1,hix,hst,w0,-bJ];refine aF ?_;refine next _ _ ⟨by simp [g33],by simp [g6],by simp [g9],?_,?_,⟨cs.set 0 (fi 0),by simp [hcs],?_⟩,fun h=>absurd h (by omega),fun _=>⟨bo,c,by simp,by omega,?_,?_,fun b hb=>?_⟩⟩ (by simp [ha]) (by simp [hb])
    ·rw [al (by decide)];exact up2 h4
    ·rw [al (by decide)];exact up2 h3
    ·rw [dt];exact ap (ay (up2 h1))
    ·rw [al (by omega)];exact hbo
    ·exact hLR.set (fun e=>by have:=hcb 1 e;omega) _
    ·have:=hcb b hb;omega
   ·obtain⟨bo,c,g7,hb2,hbo,hLR,hbc⟩:=hp (by omega)
    refine ah (by simp [hi0]) (aW (aF ?_))
    refine next _ _ ⟨by simp [g33],by simp [g6],by simp [g9],up h4,up h3,⟨cs,hcs,up h1⟩,fun h=>absurd h (by omega),fun _=>⟨bo,c,by simp [g7],hb2,up hbo,upL hLR,hbc⟩⟩ (by simp [ha]) (by simp [hb])
  ·rintro t H ⟨g33,g6,g9,h4,h3,-,-,hp⟩ - -;obtain⟨bo,c,g7,hb2,hbo,hLR,hbc⟩:=hp (by omega)
   obtain⟨F,hF⟩:=aI0 hbo hLR;refine kw_sr ?_;simp [g7];refine aQ (hQ _ _ _ ⟨F,rfl⟩ ⟨rfl,.t [.c (.sl bo 0 1 0 0 8),vi 0],?_,?_⟩)
   ·simp [Km.results,bU,bC]
   ·simp [exV,dB,bC,hF]
 exact⟨F,hp.eq⟩
end
section
theorem JY(n lo hi:Int):Km.Pure tab.get iW [vi n,vi lo,vi hi]=Eq (vb (decide (lo≤n∧n≤hi))):=Km.Pure.eq (by
 refine bZ aJC rfl fun Q hQ=>?_
 refine kw_sr ?_;simp;refine kw_sr ?_;by_cases h:lo≤n
 ·simp [h];exact aQ (hQ _ _ (by simp [h]))
 ·simp [h];exact aQ (hQ _ _ (by simp [h])))
theorem iI(n lo hi:Int):∃ b,decide (lo≤n∧n≤hi)=b∧Km.Pure tab.get iW [vi n,vi lo,vi hi]=Eq (vb b):=⟨_,rfl,JY n lo hi⟩
def moveB(m:bD):Bool:=decide (0≤m.day∧m.day≤1099511627776) &&
 (if m.drop=true then decide (m.to=0)&&decide (m.mi=0)&&decide (m.le=0)else decide (0≤m.to∧m.to≤1099511627776)&&decide (0≤m.mi∧m.mi≤1439)&&decide (1≤m.le∧m.le≤10080))
theorem VK{m:bD}(h:m.OK):moveB m=true:=by
 obtain⟨h1,h2,h3⟩:=h;unfold moveB;rw [decide_eq_true h1];cases hd:m.drop
 ·have:=h3 hd;simp;omega
 ·have:=h2 hd;simp;omega
theorem Qa(m:bD):Km.Pure tab.get Fh [.a (m.row.map .f)]=Eq (vb (moveB m)):=Km.Pure.eq (by
 obtain⟨day,drop,to,mi,le⟩:=m;refine bZ aJD rfl fun Q hQ=>?_
 refine kw_sr ?_;simp [bD.row];refine kw_seq (kw_sr ?_);simp;obtain⟨b1,h1,w1⟩:=iI day 0 1099511627776;obtain⟨b2,h2,w2⟩:=iI to 0 1099511627776;obtain⟨b3,h3,w3⟩:=iI mi 0 1439;obtain⟨b4,h4,w4⟩:=iI le 1 10080
 have hm:∀ drop,moveB ⟨day,drop,to,mi,le⟩=(b1&&(if drop=true then decide (to=0)&&decide (mi=0)&&decide (le=0)else b2&&b3&&b4)):=fun drop=>by
  unfold moveB;rw [←h1,←h2,←h3,←h4]
 rw [hm]at hQ;clear hm h1 h2 h3 h4;cases drop
 ·refine bQ (by simp) ?_
  refine kw_sr ?_;simp [w1];cases b1
  ·simp;exact aQ (hQ _ _ (by simp))
  simp [w2];cases b2
  ·simp;exact aQ (hQ _ _ (by simp))
  simp [w3];cases b3
  ·simp;exact aQ (hQ _ _ (by simp))
  simp [w4];exact aQ (hQ _ _ (by simp))
 ·refine ak (by simp) ?_
  refine kw_sr ?_;simp [w1];cases b1
  ·simp;exact aQ (hQ _ _ (by simp))
  simp [eqV];refine aQ (hQ _ _ ?_)
  have e:(to == 0&&(mi == 0&&le == 0))=(true&&(if True then decide (to=0)&&decide (mi=0)&&decide (le=0)else b2&&b3&&b4)):=by
   simp [Bool.and_assoc];rfl
  simp [e])
def iC(p:Option Int):List bD→Bool
 | []=>true
 | m::r=>moveB m&&(match p with | none=>true | some d=>decide (d<m.day))&&iC (some m.day) r
theorem CY:∀ {l:List bD} {p:Option Int},SortM l→(∀ m ∈ l,m.OK)→(∀ d,p=some d→∀ m ∈ l,d<m.day)→iC p l=true
 | [],_,_,_,_=>rfl
 | m::r,p,hs,ho,hp=>by
  have hs':=de.1 hs;simp only [iC];rw [VK (ho m bj),CY hs'.2 (fun x hx=>ho x (bw _ hx)) (fun d hd x hx=>by cases hd;exact hs'.1 x hx)]
  cases p with
  | none=>rfl
  | some d=>simp;exact hp d rfl m bj
theorem GI{p:Option Int}{l:List bD}{j:Nat}(hj:j<l.length):iC p (l.drop j)=(moveB l[j]&&(match p with | none=>true | some d=>decide (d<l[j].day))&&iC (some l[j].day) (l.drop (j+1))):=by
 rw [bp hj];rfl
def headB(s:bI):Bool:=decide (0≤s.mi∧s.mi≤1439)&&decide (1≤s.le∧s.le≤10080)&&decide (0≤s.gap∧s.gap≤2)&&decide (0≤s.fold∧s.fold≤2)&&decide (1≤(s.zo.size:Int)∧(s.zo.size:Int)≤32)&&!decide ((64:Int)<s.mv.length)
def nP(s:bI):Bool:=headB s&&iC none s.mv
theorem bI.OK.sound{s:bI}(h:s.OK):nP s=true:=by
 have h1:=h.mi;have h2:=h.le;have h3:=h.zo;have h4:=h.gap;have h5:=h.fold;have h6:=h.ml;unfold nP headB;rw [CY h.ms h.mo (fun d hd=>by cases hd)]
 simp;omega
theorem zn{s:bI}(hG:Good (dat s.ru))(hl:s.ru.length≤64)(hml:s.mv.length≤9223372036854775807)(hzo:s.zo.size≤9223372036854775807):Km.Pure tab.get iq [s.v]=Eq (vb (nP s)):=Km.Pure.eq (by
 obtain⟨F,hpart⟩:=auA s.rg hG hl;obtain⟨rg,ru,mi,le,zo,gap,fold,mg,mv⟩:=s;simp only at hpart hml hzo;refine bZ Xr rfl fun Q hQ=>?_
 obtain⟨b1,h1,w1⟩:=iI mi 0 1439;obtain⟨b2,h2,w2⟩:=iI le 1 10080;obtain⟨b3,h3,w3⟩:=iI gap 0 2;obtain⟨b4,h4,w4⟩:=iI fold 0 2;obtain⟨b5,h5,w5⟩:=iI zo.size 1 32;obtain⟨b6,h6⟩:∃ b,decide ((64:Int)<mv.length)=b:=⟨_,rfl⟩;obtain⟨row,hrow⟩:∃ row,row=bI.row ⟨rg,ru,mi,le,zo,gap,fold,mg,mv⟩:=⟨_,rfl⟩
 have hm:nP ⟨rg,ru,mi,le,zo,gap,fold,mg,mv⟩=(b1&&b2&&b3&&b4&&b5&&!b6&&iC none mv):=by
  unfold nP headB;rw [←h1,←h2,←h3,←h4,←h5,←h6]
 rw [hm]at hQ;clear hm h1 h2 h3 h4 h5;refine kw_sr ?_;simp [bI.row];refine kw_seq (kw_sr ?_);simp [hpart];refine kw_sr ?_;simp;refine bQ (by simp) ?_
 have no:∀(t:T) H,t.g 49=vb true→(b1&&b2&&b3&&b4&&b5&&!b6&&iC none mv)=false→WP tab.get iq none [.code D6,.code D5] ⟨t,[],H⟩ Q:=by
  intro t H g49 hb;refine ak g49 (kw_sr ?_);simp;exact aQ (hQ _ _ (by simp [hb]))
 refine kw_seq (kw_sr ?_);simp [w1];cases b1
 ·simp;exact no _ _ (by simp) (by simp)
 simp [w2];cases b2
 ·simp;exact no _ _ (by simp) (by simp)
 simp [w3];cases b3
 ·simp;exact no _ _ (by simp) (by simp)
 simp [w4];cases b4
 ·simp;exact no _ _ (by simp) (by simp)
 simp [w5];cases b5
 ·simp;exact no _ _ (by simp) (by simp)
 simp [h6];cases b6
 case true=>exact no _ _ (by simp) (by simp)
 clear no;refine bQ (by simp) ?_
 obtain⟨H0,hH0⟩:∃ H0:Heap,H0=[.box (row.map .f) 0]:=⟨_,rfl⟩;have hz:H0[0]?=some (.box (row.map .f) 0):=by rw [hH0];rfl
 have e6:∀ H:Heap,H[0]?=some (.box (row.map .f) 0)→ldV H none (.c (.ptr 0 6 0))=some (.c (.f (sl mg (aU mv)))):=fun H h=>by
  simp [ldV,h,aG,aS,hrow,bI.row]
 rw [hrow]at hH0;simp only [bI.row,ax,aE]at hH0;rw [←hH0];clear hH0;refine kw_seq (kw_sr ?_);simp [e6 _ hz,-aC];refine qU mv.length (fun j t H=>t.g 1=.c (.ptr 0 0 0)∧t.g 51=.c (.f (sl mg (aU mv)))∧H[0]?=some (.box (row.map .f) 0)∧iC none mv=iC (if h:0<j∧j-1<mv.length then some (mv[j-1]'h.2).day else none) (mv.drop j)) hml (by decide) (by decide) (by simp) (by simp) ⟨by simp,by simp,hz,by simp⟩ ?_ ?_
 ·rintro j t H hj ⟨g1,g51,h0,hB⟩ ha hb next;obtain⟨m,hm⟩:∃ m,m=mv[j]:=⟨_,rfl⟩;rw [GI hj,←hm]at hB;have hmo:=Qa m
  have hidx:∀(H:Heap) (i:Nat),i<mv.length→aO H 5 none (.c (.f (sl mg (aU mv)))) (vi i)=some (.c (.f (.fp (aU mv).flatten (i*5)))):=fun H i hi=>by
   have:=iE (H:=H) (g:=mg) (rows:=aU mv) (sz:=5) (k:=.i64) (i:=(i:Int)) (by omega) (by simp;omega)
   simpa using this
  have hld:ldV H (some 5) (.c (.f (.fp (aU mv).flatten (j*5))))=some (.a (m.row.map .f)):=by rw [hm];exact nM (eP mv) (nI hj)
  refine aN (kw_sr ?_);simp [ha,g51,hidx _ _ hj,hld,bD.row];obtain⟨J,hJ⟩:∃ J:Heap,J=H++[.box (m.row.map .f) 0]:=⟨_,rfl⟩;have jx:J[H.length]?=some (.box (m.row.map .f) 0):=by rw [hJ];simp
  have j0:J[0]?=some (.box (row.map .f) 0):=by rw [hJ,ae (ay h0)];exact h0
  simp only [bD.row,ax,aE]at hJ;rw [←hJ];have e5:ldV J (some 5) (.c (.ptr H.length 0 0))=some (.a (m.row.map .f)):=by simp [ldV,jx,aG,aS,bD.row]
  have e0:ldV J none (.c (.ptr H.length 0 0))=some (vi m.day):=by simp [ldV,jx,aG,aS,bD.row]
  have bad:∀ t:T,t.g 76=vb true→iC none mv=false→WP tab.get iq none [.code xJ,.inBlock 1,.code xI,.inLoop xK,.inBlock 0,.code xH] ⟨t,[],J⟩ Q:=by
   intro t g76 hb;refine ak g76 (kw_sr ?_);simp;exact aQ (hQ _ _ (by simp [hb]))
  have good:∀ t:T,t.g 76=vb false→t.g 1=.c (.ptr 0 0 0)→t.g 51=.c (.f (sl mg (aU mv)))→t.g 53=vi j→t.g 52=vi mv.length→iC none mv=iC (some m.day) (mv.drop (j+1))→WP tab.get iq none [.code xJ,.inBlock 1,.code xI,.inLoop xK,.inBlock 0,.code xH] ⟨t,[],J⟩ Q:=by
   intro t g76 g1 g51 g53 g52 hb;refine ah g76 (aW (aF ?_));refine next _ _ ⟨by simp [g1],by simp [g51],j0,?_⟩ (by simp [g53]) (by simp [g52])
   rw [hb,dif_pos ⟨by omega,by simpa using hj⟩]
   simp [hm]
  refine kw_sr ?_;simp [e5,-aC,hmo];cases hmb:moveB m
  ·rw [hmb]at hB;simp;exact bad _ (by simp) (by rw [hB];simp)
  rw [hmb]at hB;simp;by_cases hj0:j=0
  ·subst hj0;simp;exact good _ (by simp) (by simp [g1]) (by simp [g51]) (by simp [ha]) (by simp [hb]) (by rw [hB];simp)
  ·have hw:IntKind.i64.wrap ((j:Int)-1)=((j-1:Nat):Int):=by rw [wrap64 (by omega) (by omega)];omega
   have hj1:j-1<mv.length:=by omega
   have hi1:=hidx J (j-1) hj1
   have hl1:ldV J none (.c (.f (.fp (aU mv).flatten ((j-1)*5))))=some (vi mv[j-1].day):=by
    have:=nN (H:=J) (rows:=aU mv) (j:=j-1) (sz:=5) (row:=mv[j-1].row) (x:=fi mv[j-1].day) (eP mv) (nI hj1) rfl;exact this
   rw [dif_pos ⟨by omega,hj1⟩]at hB
   simp [show 0<j by omega,e0,g1,e6 _ j0,hw,hi1,hl1,-aC]
   by_cases hd:mv[j-1].day<m.day
   ·exact good _ (by simp;omega) (by simp [g1]) (by simp [g51]) (by simp [ha]) (by simp [hb]) (by rw [hB];simp [hd])
   ·exact bad _ (by simp;omega) (by rw [hB];simp [hd])
 ·rintro t H ⟨g1,g51,h0,hB⟩ ha hb;have hB':iC none mv=true:=by rw [hB];simp [iC]
  refine kw_sr ?_;simp
  exact aQ (hQ _ _ (by simp [hB'])))
end
section
theorem fP(n lo hi:Int):Km.Pure tab.get kG [vi n,vi lo,vi hi]=Eq (vb (decide (lo≤n∧n≤hi))):=Km.Pure.eq (by
 refine bZ aOk rfl fun Q hQ=>?_
 refine kw_sr ?_;simp;refine kw_sr ?_;by_cases h:lo≤n
 ·simp [h];exact aQ (hQ _ _ (by simp [h]))
 ·simp [h];exact aQ (hQ _ _ (by simp [h])))
theorem Eu:∀ k:Nat,k<19→Km.Pure tab.get Io [vi k]=Eq (vi (zx k))
 | 0,_=>Km.Pure.eq (aJ (m:=60) (d:=10) (by kernel_rfl))
 | 1,_=>Km.Pure.eq (aJ (m:=60) (d:=10) (by kernel_rfl))
 | 2,_=>Km.Pure.eq (aJ (m:=60) (d:=10) (by kernel_rfl))
 | 3,_=>Km.Pure.eq (aJ (m:=60) (d:=10) (by kernel_rfl))
 | 4,_=>Km.Pure.eq (aJ (m:=60) (d:=10) (by kernel_rfl))
 | 5,_=>Km.Pure.eq (aJ (m:=60) (d:=10) (by kernel_rfl))
 | 6,_=>Km.Pure.eq (aJ (m:=60) (d:=10) (by kernel_rfl))
 | 7,_=>Km.Pure.eq (aJ (m:=60) (d:=10) (by kernel_rfl))
 | 8,_=>Km.Pure.eq (aJ (m:=60) (d:=10) (by kernel_rfl))
 | 9,_=>Km.Pure.eq (aJ (m:=60) (d:=10) (by kernel_rfl))
 | 10,_=>Km.Pure.eq (aJ (m:=60) (d:=10) (by kernel_rfl))
 | 11,_=>Km.Pure.eq (aJ (m:=60) (d:=10) (by kernel_rfl))
 | 12,_=>Km.Pure.eq (aJ (m:=60) (d:=10) (by kernel_rfl))
 | 13,_=>Km.Pure.eq (aJ (m:=60) (d:=10) (by kernel_rfl))
 | 14,_=>Km.Pure.eq (aJ (m:=60) (d:=10) (by kernel_rfl))
 | 15,_=>Km.Pure.eq (aJ (m:=60) (d:=10) (by kernel_rfl))
 | 16,_=>Km.Pure.eq (aJ (m:=60) (d:=10) (by kernel_rfl))
 | 17,_=>Km.Pure.eq (aJ (m:=60) (d:=10) (by kernel_rfl))
 | 18,_=>Km.Pure.eq (aJ (m:=60) (d:=10) (by kernel_rfl))
 | k+19,h=>absurd h (by omega)
theorem qB:∀ k:Nat,k<19→Km.Pure tab.get DT [vi k]=Eq (vb (kF k))
 | 0,_=>Km.Pure.eq (aJ (m:=60) (d:=10) (by kernel_rfl))
 | 1,_=>Km.Pure.eq (aJ (m:=60) (d:=10) (by kernel_rfl))
 | 2,_=>Km.Pure.eq (aJ (m:=60) (d:=10) (by kernel_rfl))
 | 3,_=>Km.Pure.eq (aJ (m:=60) (d:=10) (by kernel_rfl))
 | 4,_=>Km.Pure.eq (aJ (m:=60) (d:=10) (by kernel_rfl))
 | 5,_=>Km.Pure.eq (aJ (m:=60) (d:=10) (by kernel_rfl))
 | 6,_=>Km.Pure.eq (aJ (m:=60) (d:=10) (by kernel_rfl))
 | 7,_=>Km.Pure.eq (aJ (m:=60) (d:=10) (by kernel_rfl))
 | 8,_=>Km.Pure.eq (aJ (m:=60) (d:=10) (by kernel_rfl))
 | 9,_=>Km.Pure.eq (aJ (m:=60) (d:=10) (by kernel_rfl))
 | 10,_=>Km.Pure.eq (aJ (m:=60) (d:=10) (by kernel_rfl))
 | 11,_=>Km.Pure.eq (aJ (m:=60) (d:=10) (by kernel_rfl))
 | 12,_=>Km.Pure.eq (aJ (m:=60) (d:=10) (by kernel_rfl))
 | 13,_=>Km.Pure.eq (aJ (m:=60) (d:=10) (by kernel_rfl))
 | 14,_=>Km.Pure.eq (aJ (m:=60) (d:=10) (by kernel_rfl))
 | 15,_=>Km.Pure.eq (aJ (m:=60) (d:=10) (by kernel_rfl))
 | 16,_=>Km.Pure.eq (aJ (m:=60) (d:=10) (by kernel_rfl))
 | 17,_=>Km.Pure.eq (aJ (m:=60) (d:=10) (by kernel_rfl))
 | 18,_=>Km.Pure.eq (aJ (m:=60) (d:=10) (by kernel_rfl))
 | k+19,h=>absurd h (by omega)
theorem qI{x:aZ}(h:x.OK):Km.Pure tab.get Io [vi x.k]=Eq (vi (fD x.k)):=by
 have hk:=h.2.k;obtain⟨k,hkk⟩:∃ k:Nat,x.k=k:=⟨x.k.toNat,by omega⟩
 have e:=yP hk.1;rw [e,hkk,bB];exact Eu k (by omega)
theorem JW{x:aZ}(h:x.OK):Km.Pure tab.get DT [vi x.k]=Eq (vb (kF x.k.toNat)):=by
 have hk:=h.2.k;obtain⟨k,hkk⟩:∃ k:Nat,x.k=k:=⟨x.k.toNat,by omega⟩
 rw [hkk,bB];exact qB k (by omega)
theorem Gz(x:aK)(h:DK x.d.k x.d.l x.d.n x.d.m):Km.Pure tab.get Ik [.a (x.row.map .f)]=Eq (vb true):=Km.Pure.eq (by
 obtain⟨⟨k,cal,l,r,n,m,li⟩,tg⟩:=x;simp only [DK]at h;refine bZ aOf rfl fun Q hQ=>?_
 have ret:∀ t H,t.g 2=vb true→WP tab.get Ik none [.code .ret,.inBlock 0,.code Bq] ⟨t,[],H⟩ Q:=fun t H h2=>aQ (hQ _ _ (by simp [h2]))
 refine kw_sr ?_;simp [aK.row];refine kw_seq (kw_sr ?_);simp;refine aN (kw_sr ?_);simp;by_cases c1:k=1
 ·rw [if_pos c1]at h;refine ak (by simp [c1]) (kw_sr ?_)
  simp [fP,h];exact ret _ _ (by simp)
 rw [if_neg c1]at h;refine ah (by simp [c1]) (kw_sr ?_)
 simp;by_cases c2:k=2
 ·rw [if_pos c2]at h;refine ak (by simp [c2]) (kw_sr ?_)
  simp [fP,h,wrap64 (n:=n-1) (by omega) (by omega)]
  exact ret _ _ (by simp)
 rw [if_neg c2]at h;refine ah (by simp [c2]) (kw_sr ?_)
 simp;by_cases c7:k=7
 ·rw [if_pos c7]at h;refine ak (by simp [c7]) (kw_sr ?_)
  simp [fP,h];exact ret _ _ (by simp)
 rw [if_neg c7]at h;refine ah (by simp [c7]) (kw_sr ?_)
 simp;by_cases c11:k=11
 ·rw [if_pos c11]at h;refine ak (by simp [c11]) (kw_sr ?_)
  simp [fP,h];exact ret _ _ (by simp)
 rw [if_neg c11]at h;refine ah (by simp [c11]) (kw_seq (kw_sr ?_))
 simp
 have two:k=12∨k=13→∀ t,t.g 1=.c (.ptr 0 0 0)→t.g 58=vb true→WP tab.get Ik none [.code Jr,.inBlock 0,.code Bq] ⟨t,[],[.box ((aK.row ⟨⟨k,cal,l,r,n,m,li⟩,tg⟩).map .f) 0]⟩ Q:=by
  intro c t g1 g58;rw [if_pos c]at h;refine ak g58 (kw_sr ?_);simp [g1,aK.row,fP,h];exact ret _ _ (by simp)
 by_cases c12:k=12
 ·refine ak (by simp [c12]) (aW ?_)
  exact two (.inl c12) _ (by simp) (by simp [c12])
 refine ah (by simp [c12]) (kw_region (.inl rfl) ?_)
 simp;by_cases c13:k=13
 ·exact two (.inr c13) _ (by simp) (by simp [c13])
 rw [if_neg (by omega)]at h
 refine ah (by simp [c13]) (kw_sr ?_)
 simp;by_cases c16:k=16
 ·rw [if_pos c16]at h;refine ak (by simp [c16]) (kw_sr ?_)
  simp [fP,h];exact ret _ _ (by simp)
 rw [if_neg c16]at h;refine ah (by simp [c16]) (kw_sr ?_)
 simp;by_cases c17:k=17
 ·rw [if_pos c17]at h;refine ak (by simp [c17]) (kw_sr ?_)
  simp [fP,h];exact ret _ _ (by simp)
 rw [if_neg c17]at h;refine bQ (by simp [c17]) ?_
 refine aF (kw_sr ?_);simp [h]
 exact aQ (hQ _ _ (by simp)))
end
section
theorem Kv(g:Tg)(l:List Int)(lo hi:Int)(zero:Bool)(hl:l.length≤9223372036854775807)(hne:l≠[])(hpw:l.Pairwise (· < ·))(hb:∀ x ∈ l,lo≤x∧x≤hi∧(zero=false→x≠0)) :
  Km.Pure tab.get tC [.c (.f (sl g (ints l))),vi lo,vi hi,vb zero]=Eq (vb true):=Km.Pure.eq (by
 refine bZ aOb rfl fun Q hQ=>?_
 refine kw_sr ?_;simp;refine kw_seq (kw_sr ?_);simp;refine dS l.length (fun j t H=>t.g 0=.c (.f (sl g (ints l)))∧t.g 1=vi lo∧t.g 2=vi hi∧t.g 3=vb zero) hl (by decide) (by simp) ⟨by simp,by simp,by simp,by simp⟩ ?_ ?_ ?_
 ·rintro j t H L hj ⟨g0,g1,g2,g3⟩ ha hn;simp [ha,g0];exact hn _ ⟨by simp [g0],by simp [g1],by simp [g2],by simp [g3]⟩ (by simp [ha]) (by simp)
 ·rintro j t H hj ⟨g0,g1,g2,g3⟩ ha nx;obtain⟨b1,b2,b3⟩:=hb _ (az hj);obtain⟨x,hx⟩:∃ x,x=l[j]:=⟨_,rfl⟩;rw [←hx]at b1 b2 b3
  have hii:∀ i:Nat,i<l.length→aO H 1 none (.c (.f (sl g (ints l)))) (vi i)=some (.c (.f (.fp (ints l).flatten i))):=fun i hi=>by
   have:=iE (H:=H) (g:=g) (rows:=ints l) (sz:=1) (k:=.i64) (i:=(i:Int)) (by omega) (by simp;omega)
   simpa using this
  have hjj:=hii j hj;have hld:ldV H none (.c (.f (.fp (ints l).flatten j)))=some (vi x):=by rw [hx];exact qR hj
  have fin:∀ t:T,t.g 0=.c (.f (sl g (ints l)))→t.g 1=vi lo→t.g 2=vi hi→t.g 3=vb zero→t.g 9=vi j→t.g 56=vb false→WP tab.get tC none [.code Jm,.inBlock 1,.code Jl,.inLoop Pv,.inBlock 0,.code Jk] ⟨t,[],H⟩ Q:=by
   intro t g0 g1 g2 g3 g9 g56;refine ah g56 (aW (aF ?_));exact nx _ _ ⟨by simp [g0],by simp [g1],by simp [g2],by simp [g3]⟩ (by simp [g9])
  refine aN (kw_sr ?_);simp [g0,ha,hjj,hld,g1,show¬ x<lo by omega,g2,show¬ hi<x by omega]
  by_cases hj0:j=0
  ·simp [show¬ 0<j by omega,g0,ha,hjj,hld]
   by_cases hx0:x=0
   ·cases zero
    ·exact absurd hx0 (b3 rfl)
    ·simp [hx0,g3];exact fin _ (by simp [g0]) (by simp [g1]) (by simp [g2]) (by simp [g3]) (by simp [ha]) (by simp)
   ·simp [hx0];exact fin _ (by simp [g0]) (by simp [g1]) (by simp [g2]) (by simp [g3]) (by simp [ha]) (by simp)
  ·have hw:IntKind.i64.wrap ((j:Int)-1)=((j-1:Nat):Int):=by rw [wrap64 (by omega) (by omega)];omega
   have hlt:l[j-1]<x:=by rw [hx];exact cB.1 hpw (j-1) j (by omega) hj (by omega)
   have hj1:j-1<l.length:=by omega
   have hi1:=hii (j-1) hj1;have hl1:ldV H none (.c (.f (.fp (ints l).flatten (j-1))))=some (vi l[j-1]):=qR hj1;simp [show 0<j by omega,g0,ha,hjj,hld,hw,hi1,hl1,show¬ x≤l[j-1] by omega]
   by_cases hx0:x=0
   ·cases zero
    ·exact absurd hx0 (b3 rfl)
    ·simp [hx0,g3];exact fin _ (by simp [g0]) (by simp [g1]) (by simp [g2]) (by simp [g3]) (by simp [ha]) (by simp)
   ·simp [hx0];exact fin _ (by simp [g0]) (by simp [g1]) (by simp [g2]) (by simp [g3]) (by simp [ha]) (by simp)
 ·rintro t H ⟨g0,g1,g2,g3⟩ ha;have:=cQ.2 hne;refine kw_sr ?_;simp [g0,this]
  exact aQ (hQ _ _ (by simp)))
theorem VX{l:List Int}{lo hi:Int}(h:rF lo hi l)(h0:¬ (lo=0∧hi=0)):l≠[]∧l.Pairwise (· < ·)∧∀ x ∈ l,lo≤x∧x≤hi∧(lo<0→x≠0):=by
 unfold rF at h;rwa [if_neg h0]at h
theorem Ql(x:aK)(k:Nat)(hk:x.d.k=k)(h1:1≤k∧k≤17)(hl:x.d.li.length≤61)(h:rF (F9 k) (Gf k) x.d.li):Km.Pure tab.get Il [.a (x.row.map .f)]=Eq (vb true):=Km.Pure.eq (by
 obtain⟨⟨k',cal,l,r,n,m,li⟩,tg⟩:=x;simp only at hk h hl;subst hk;refine bZ aOj rfl fun Q hQ=>?_
 have ret:∀ t H,t.g 2=vb true→WP tab.get Il none [.code .ret,.inBlock 0,.code Bv] ⟨t,[],H⟩ Q:=fun t H h2=>aQ (hQ _ _ (by simp [h2]))
 have go:∀ lo hi z,F9 k=lo→Gf k=hi→¬ (lo=0∧hi=0)→(z=false→lo<0)→Km.Pure tab.get tC [.c (.f (sl tg (ints li))),vi lo,vi hi,vb z]=Eq (vb true):=by
  intro lo hi z e1 e2 e3 e4;rw [e1,e2]at h;obtain⟨a,b,c⟩:=VX h e3;exact Kv tg li lo hi z (by omega) a b fun x hx=>⟨(c x hx).1,(c x hx).2.1,fun hz=>(c x hx).2.2 (e4 hz)⟩
 refine kw_sr ?_;simp [aK.row];refine kw_seq (kw_sr ?_);simp;refine aN (kw_sr ?_);simp;by_cases c3:k=3
 ·have:=go 1 16 true (by rw [c3];rfl) (by rw [c3];rfl) (by decide) (by decide)
  refine ak (by simp [c3]) (kw_sr ?_)
  simp [this];exact ret _ _ (by simp)
 refine ah (by simp;omega) (kw_sr ?_)
 simp;by_cases c4:k=4
 ·have:=go (-40) 40 false (by rw [c4];rfl) (by rw [c4];rfl) (by decide) (by decide)
  refine ak (by simp [c4]) (kw_sr ?_)
  simp [this];exact ret _ _ (by simp)
 refine ah (by simp;omega) (kw_sr ?_)
 simp;by_cases c5:k=5
 ·have:=go 0 6 true (by rw [c5];rfl) (by rw [c5];rfl) (by decide) (by decide)
  refine ak (by simp [c5]) (kw_sr ?_)
  simp [this];exact ret _ _ (by simp)
 refine ah (by simp;omega) (kw_sr ?_)
 simp;by_cases c6:k=6
 ·have:=go 1 54 true (by rw [c6];rfl) (by rw [c6];rfl) (by decide) (by decide)
  refine ak (by simp [c6]) (kw_sr ?_)
  simp [this];exact ret _ _ (by simp)
 refine ah (by simp;omega) (kw_seq (kw_sr ?_))
 simp
 have two:k=14∨k=15→∀ t,t.g 1=.c (.ptr 0 0 0)→t.g 25=vb true→WP tab.get Il none [.code JB,.inBlock 0,.code Bv] ⟨t,[],[.box ((aK.row ⟨⟨k,cal,l,r,n,m,li⟩,tg⟩).map .f) 0]⟩ Q:=by
  intro c t g1 g25;have:=go 0 1099511627776 true (by rcases c with rfl | rfl<;>rfl) (by rcases c with rfl | rfl<;>rfl) (by decide) (by decide)
  refine ak g25 (kw_sr ?_);simp [g1,aK.row,this];exact ret _ _ (by simp)
 by_cases c14:k=14
 ·refine ak (by simp [c14]) (aW ?_)
  exact two (.inl c14) _ (by simp) (by simp [c14])
 refine ah (by simp;omega) (kw_region (.inl rfl) ?_)
 simp;by_cases c15:k=15
 ·exact two (.inr c15) _ (by simp) (by simp [c15])
 refine ah (by simp;omega) (kw_sr ?_)
 simp;by_cases c16:k=16
 ·have:=go (-400) 400 false (by rw [c16];rfl) (by rw [c16];rfl) (by decide) (by decide)
  refine ak (by simp [c16]) (kw_sr ?_)
  simp [this];exact ret _ _ (by simp)
 refine ah (by simp;omega) (aW ?_)
 have hnil:li=[]:=by
  have e1:F9 k=0:=by simp [F9,c3,c4,c6,c16]
  have e2:Gf k=0:=by simp [Gf,c3,c4,c5,c6,c14,c15,c16]
  rw [e1,e2]at h;simpa [rF]using h
 refine aF (kw_sr ?_);simp [hnil]
 exact aQ (hQ _ _ (by simp)))
end
section
theorem VG(x:aK)(i:Nat)(hi:i≤1000)(h:pR i x.d):Km.Pure tab.get DV [.a (x.row.map .f),vi i]=Eq (vb true):=Km.Pure.eq (by
 have hok:=h.ok;obtain⟨hlen,hK⟩:=h.ok;have hk:=hK.k;have hops:=qI h.ok;have awt:=JW h.ok;have aQ0:=Ql x x.d.k.toNat (by omega) (by omega) hlen hK.lis
 have hnum:=Gz x hK.num;have oH:=hK.cal;have hstr:dG .neq (.c (.f (.str zi))) (.c (.f (.str ⟨#[]⟩)))=some (vb false):=by simp [dG,Xf,zi];rfl
 obtain⟨row,hrow⟩:∃ row,row=x.row:=⟨_,rfl⟩;refine bZ aOg rfl fun Q hQ=>?_
 refine kw_sr ?_;simp
 have e:∀ n y,x.row[n]?=some y→∀ H:Heap,H=[.box (x.row.map .f) 0]→ldV H none (.c (.ptr 0 n 0))=some (.c (.f y)):=by
  intro n y hy H hH;have hn:=(ab.1 hy);obtain⟨h1,h2⟩:=hn;subst hH
  have:(x.row.map C.f).drop n=.f y ::(x.row.map C.f).drop (n+1):=by
   rw [bp (by simpa using h1),da,h2]
  simp only [ldV,aG,ch,bh];rw [this];rfl
 obtain⟨H,hH⟩:∃ H:Heap,H=[.box (x.row.map .f) 0]:=⟨_,rfl⟩;have e0:=e 0 (fi x.d.k) rfl H hH;have e1:=e 1 (fi x.d.cal) rfl H hH;have e2:=e 2 (fi x.d.l) rfl H hH;have e3:=e 3 (fi x.d.r) rfl H hH;have e6:=e 6 (sl x.tg (ints x.d.li)) rfl H hH;have e7:=e 7 (.str zi) rfl H hH;have e8:ldV H (some 8) (.c (.ptr 0 0 0))=some (.a (x.row.map .f)):=by rw [hH];rfl
 rw [←hH];clear e hH;refine kw_seq (kw_sr ?_);simp [e0,e6,-aC,show¬ x.d.k<1 by omega,show¬ 18<x.d.k by omega,show¬ (64:Int)<x.d.li.length by omega]
 refine bQ (by simp) ?_
 refine kw_sr ?_;simp [e0,-aC,hops];obtain⟨n,hn⟩:∃ n,n=fD x.d.k:=⟨_,rfl⟩;have hn2:=rV x.d.k;rw [←hn]at hn2 ⊢;have hwi:IntKind.i64.wrap ((i:Int)-1)=(i:Int)-1:=wrap64 (by omega) (by omega)
 have fin1:∀ t:T,t.g 2=.c (.ptr 0 0 0)→t.g 1=vi i→t.g 5=vi n→t.g 46=vb false→WP tab.get DV none [.code Jy,.code Jw] ⟨t,[],H⟩ Q:=by
  intro t g2 g1 g5 g46;refine ah g46 (aW ?_)
  have fin2:∀ t:T,t.g 2=.c (.ptr 0 0 0)→t.g 65=vb false→WP tab.get DV none [.code Jv,.code Ju] ⟨t,[],H⟩ Q:=by
   intro t g2 g65;refine ah g65 (aW ?_)
   have aMY:∀ t:T,t.g 2=.c (.ptr 0 0 0)→t.g 85=vb false→WP tab.get DV none [.code Jt,.code Js] ⟨t,[],H⟩ Q:=by
    intro t g2 g85;refine ah g85 (aW ?_);refine kw_seq (kw_sr ?_);simp [g2,e0,e7,-aC,show¬ x.d.k=18 by omega,hstr]
    refine bQ (by simp) ?_
    refine kw_sr ?_;simp [g2,e8,-aC,aQ0,hnum];exact aQ (hQ _ _ (by simp))
   refine kw_seq (kw_sr ?_);cases hc:kF x.d.k.toNat
   ·rw [hc]at awt;have:=oH.2.2 hc;simp [g2,e0,e1,-aC,awt,this];exact aMY _ (by simp [g2]) (by simp)
   ·rw [hc]at awt;have hd:decide (0≤x.d.cal∧x.d.cal≤2)=true:=decide_eq_true ⟨by omega,by omega⟩
    simp [g2,e0,e1,-aC,awt,fP,hd];exact aMY _ (by simp [g2]) (by simp)
  refine kw_seq (kw_sr ?_);by_cases h2:n=2
  ·have hr:=h.r2 (by omega)
   have hd:decide (0≤x.d.r∧x.d.r≤(i:Int)-1)=true:=decide_eq_true ⟨by omega,by omega⟩
   simp [g2,g1,g5,h2,e3,-aC,hwi,fP,hd];exact fin2 _ (by simp [g2]) (by simp)
  ·have hr:=h.r0 (by omega)
   rcases(show n=0∨n=1 by omega)with e | e
   ·rw [e]at g5;simp [g2,g5,e3,-aC,hr];exact fin2 _ (by simp [g2]) (by simp)
   ·rw [e]at g5;simp [g2,g5,e3,-aC,hr];exact fin2 _ (by simp [g2]) (by simp)
 refine kw_seq (kw_sr ?_);by_cases h1:1≤n
 ·have hl:=h.l1 (by omega)
  have hd:decide (0≤x.d.l∧x.d.l≤(i:Int)-1)=true:=decide_eq_true ⟨by omega,by omega⟩
  simp [show(1:Int)≤n by omega,h1,e2,-aC,hwi,fP,hd,show¬ n=0 by omega]
  exact fin1 _ (by simp) (by simp) (by simp) (by simp)
 ·have h0:n=0:=by omega
  by_cases h7:x.d.k=7
  ·simp [h0,e0,-aC,h7];exact fin1 _ (by simp) (by simp) (by simp [h0]) (by simp)
  ·have hl:=h.l0 (by omega) h7
   simp [h0,e0,e2,-aC,h7,hl]
   exact fin1 _ (by simp) (by simp) (by simp [h0]) (by simp))
end
section
theorem Dl{K:Heap}{U:List Int}{n:Nat}(hUl:U.length=n){o:Int}(h0:0≤o)(h1:o<n)(hb:∀ v ∈ U,0≤v∧v≤1000){b:Nat}(p1:K[b]?=some (.box (U.map cI) 0)) :
  ∃ u:Int,0≤u∧u≤1000∧aO K 1 none (.c (.sl b 0 n n 0 1)) (vi o)=some (.c (.ptr b o.toNat 0))∧ldV K none (.c (.ptr b o.toNat 0))=some (vi u) ∧
   stC K (.ptr b o.toNat 0) [.f (fi (u+1))]=some (K.set b (.box ((qV U o).map cI) 0)):=by
 have hgd:U.getD o.toNat 0=U[o.toNat]'(by omega):=by rw [bu,ai (by omega)];rfl
 have hgb:=hb _ (az (l:=U) (n:=o.toNat) (by omega))
 rw [←hgd]at hgb;refine⟨U.getD o.toNat 0,hgb.1,hgb.2,?_,?_,?_⟩
 ·simp [aO,gW,p1,h0];omega
 ·have:(U.map cI).drop o.toNat=cI (U.getD o.toNat 0) ::(U.map cI).drop (o.toNat+1):=by
   rw [bp (by simp;omega),da,hgd]
  simp only [ldV,aG,p1,bh];rw [this];rfl
 ·have:=Dn (U:=U) (k:=o) h0 (by omega)
  simp only [stC,p1];rw [if_pos (by simp;omega)]
  rw [show [C.f (fi (U.getD o.toNat 0+1))]=[cI (U.getD o.toNat 0+1)] from rfl,this]
theorem Qu(g:Tg){r:List aK}(hG:Good (dat r))(hl:r.length≤64):Km.Pure tab.get Pq [.c (.f (sl g (aB r)))]=Eq (vb true):=Km.Pure.eq (by
 have hpos:0<r.length:=by have:=hG.pos;simpa using this
 obtain⟨n,hn⟩:∃ n,n=r.length:=⟨_,rfl⟩;refine bZ aOp rfl fun Q hQ=>?_
 refine kw_sr ?_;simp;refine kw_seq (kw_sr ?_);simp [←hn,show¬ (n:Int)<1 by omega,show¬ (64:Int)<n by omega]
 refine bQ (by simp) ?_
 have hroom:bK n 8=true:=fH (by omega) (by decide)
 have hmk:∀(t:T) (H:Heap),(R 16).ev t=vi n→xOp t H (.dK 1 8 [fi 0] (R 16) (R 16))=some (.c (.sl H.length 0 n n 0 1),H++[.box ((bF [] n).map cI) 0]):=by
  intro t H h;have e:(dw n [fi 0]).map C.f=(bF [] n).map cI:=by rw [CG];simp [dw]
  simp only [xOp,h,gW];rw [if_pos ⟨by omega,cR _,by simpa using hroom,rfl⟩,if_neg (by omega),bB,e]
 refine kw_sr ?_;simp [←hn,hmk];refine kw_seq (kw_sr ?_);simp
 refine dS n (fun i t H=>∃ r',r'=(dat r).take i∧t.g 0=.c (.f (sl g (aB r)))∧t.g 3=.c (.sl 0 0 n n 0 1)∧H=[.box ((bF r' n).map cI) 0])
  (by omega) (by decide) (by simp) ⟨[],by simp,by simp,by simp,rfl⟩ ?_ ?_ ?_
 ·rintro i t H L hi ⟨r',hr',g0,g3,rfl⟩ ha hnx;simp [ha,g0,←hn];exact hnx _ ⟨r',hr',by simp [g0],by simp [g3],rfl⟩ (by simp [ha]) (by simp)
 ·rintro i t H hi ⟨r',hr',g0,g3,rfl⟩ ha next;have hir:i<r.length:=by omega
  have hA:=hG.at_ i (by simpa using hir)
  obtain⟨x,hx⟩:∃ x,x=r[i]:=⟨_,rfl⟩;have hxd:(dat r)[i]'(by simpa using hir)=x.d:=by rw [hx];simp
  rw [hxd]at hA;have hrl:r'.length≤64:=by rw [hr'];simp;omega
  have hnext:usW (bF r' n) x.d 2=bF ((dat r).take (i+1)) n:=by
   rw [NT hA,hr',aD (by simpa using hir),hxd]
  have hbd:∀ v ∈ bF r' n,0≤v∧v≤128:=fun v hv=>by
   obtain⟨k,hk,rfl⟩:=b7 hv;have:=FP r' n k (by simpa using hk)
   omega
  have hB1:∀ v ∈ bF r' n,0≤v∧v≤1000:=fun v hv=>by have:=hbd v hv;omega
  have hB2:∀ v ∈ usW (bF r' n) x.d 1,0≤v∧v≤1000:=fun v hv=>by have:=Ea hbd 1 v hv;omega
  have aMG:=VG x i (by omega) hA
  have hops:=qI hA.ok
  have ldx:∀(H:Heap) (k:Nat) (y:FC),x.row[k]?=some y→ldV H none (.c (.f (.fp (aB r).flatten (i*8+k))))=some (.c (.f y)):=fun H k y hy=>
   LJ (H:=H) (rows:=aB r) (j:=i) (sz:=8) (row:=x.row) (fO r) (by rw [hx];exact nH hir) hy
  have l0:∀ H,ldV H none (.c (.f (.fp (aB r).flatten (i*8))))=some (vi x.d.k):=fun H=>ldx H 0 _ rfl
  have l2:∀ H,ldV H none (.c (.f (.fp (aB r).flatten (i*8+2))))=some (vi x.d.l):=fun H=>ldx H 2 _ rfl
  have l3:∀ H,ldV H none (.c (.f (.fp (aB r).flatten (i*8+3))))=some (vi x.d.r):=fun H=>ldx H 3 _ rfl
  refine aN (kw_seq (kw_sr ?_));simp [ha,g0,gX hir hl,nO hir,←hx,aMG];refine bQ (by simp) ?_
  refine kw_sr ?_;simp [ha,g0,gX hir hl,l0,hops];obtain⟨m,hm⟩:∃ m,m=fD x.d.k:=⟨_,rfl⟩;have hm2:=rV x.d.k;rw [←hm]at hm2 ⊢
  have fin2:∀ t:T,t.g 0=.c (.f (sl g (aB r)))→t.g 3=.c (.sl 0 0 n n 0 1)→t.g 4=vi i→t.g 5=vi m →
    WP tab.get Pq none [.code JF,.inBlock 1,.code JE,.inLoop JG,.inBlock 0,.code JD] ⟨t,[],[.box ((usW (bF r' n) x.d 1).map cI) 0]⟩ Q:=by
   intro t g0 g3 g4 g5;refine kw_sr ?_;by_cases h2:m=2
   ·have hr:=hA.r2 (by omega)
    have h12:usW (bF r' n) x.d 2=qV (usW (bF r' n) x.d 1) x.d.r:=by
     rw [usW,if_pos (by omega)];rfl
    obtain⟨u,u0,u1,f1,f2,f3⟩:=Dl (K:=[.box ((usW (bF r' n) x.d 1).map cI) 0]) (U:=usW (bF r' n) x.d 1) (n:=n) (by simp) (o:=x.d.r) hr.1 (by omega) hB2 (b:=0) rfl
    simp [g5,h2];refine ak (by simp) (kw_region (.inl rfl) ?_)
    simp [g3,g0,g4,gX hir hl,l3,f1,f2,f3,wrap64 (n:=u+1) (by omega) (by omega),-aC,-bJ]
    refine aF ?_;refine next _ _ ⟨_,rfl,by simp [g0],by simp [g3],?_⟩ (by simp [g4])
    rw [←hnext,h12]
   ·have h12:usW (bF r' n) x.d 2=usW (bF r' n) x.d 1:=by
     rw [usW,if_neg (by omega)]
    simp [g5];refine ah (by simp;omega) (aW (aF ?_))
    refine next _ _ ⟨_,rfl,by simp [g0],by simp [g3],?_⟩ (by simp [g4])
    rw [←hnext,h12]
  refine kw_seq (kw_sr ?_);simp;by_cases h1:1≤m
  ·have hll:=hA.l1 (by omega)
   have h01:usW (bF r' n) x.d 1=qV (bF r' n) x.d.l:=by
    rw [usW,if_pos (by omega)];rfl
   obtain⟨u,u0,u1,f1,f2,f3⟩:=Dl (K:=[.box ((bF r' n).map cI) 0]) (U:=bF r' n) (n:=n) (by simp) (o:=x.d.l) hll.1 (by omega) hB1 (b:=0) rfl
   refine ak (by simp;omega) (kw_region (.inl rfl) ?_)
   simp [g3,g0,ha,gX hir hl,l2,f1,f2,f3,wrap64 (n:=u+1) (by omega) (by omega),-aC,-bJ]
   have:=fin2;rw [h01]at this;exact this _ (by simp [g0]) (by simp [g3]) (by simp [ha]) (by simp)
  ·have h01:usW (bF r' n) x.d 1=bF r' n:=by
    rw [usW,if_neg (by omega)];rfl
   refine ah (by simp;omega) (aW ?_)
   have:=fin2;rw [h01]at this;exact this _ (by simp [g0]) (by simp [g3]) (by simp [ha]) (by simp)
 ·rintro t H ⟨r',hr',g0,g3,rfl⟩ ha;have hrr:r'=dat r:=by rw [hr',bi (by simp;omega)]
  subst hrr;clear hr';have hU:=hG.bF;rw [show(dat r).length=n by simp [hn]]at hU
  have hone:∀ k,k<n-1→(bF (dat r) n).getD k 0=1:=fun k hk=>by
   rw [bu,ai (by simp;omega)]
   refine hU _ ?_;rw [List.mem_take_iff_getElem];exact⟨k,by simp;omega,rfl⟩
  refine kw_seq (kw_sr ?_);simp
  refine dS (n-1) (fun i t H=>t.g 0=.c (.f (sl g (aB r)))∧t.g 3=.c (.sl 0 0 n n 0 1)∧H=[.box ((bF (dat r) n).map cI) 0])
   (by omega) (by decide) (by simp) ⟨by simp [g0],by simp [g3],rfl⟩ ?_ ?_ ?_
  ·rintro i t H L hi ⟨g0,g3,rfl⟩ ha hnx;simp [ha,g0,←hn,wrap64 (n:=(i:Int)+1) (by omega) (by omega)]
   refine hnx _ ⟨by simp [g0],by simp [g3],rfl⟩ (by simp [ha]) ?_
   simp;omega
  ·rintro i t H hi ⟨g0,g3,rfl⟩ ha next
   have hix:∀ K:Heap,K=[.box ((bF (dat r) n).map cI) 0]→aO K 1 none (.c (.sl 0 0 n n 0 1)) (vi i)=some (.c (.ptr 0 i 0)):=by
    rintro K rfl;simp [aO,gW];omega
   have hlu:∀ K:Heap,K=[.box ((bF (dat r) n).map cI) 0]→ldV K none (.c (.ptr 0 i 0))=some (vi 1):=by
    rintro K rfl;have h1:=hone i hi;rw [bu,ai (by simp;omega)]at h1
    have:((bF (dat r) n).map cI).drop i=cI 1 ::((bF (dat r) n).map cI).drop (i+1):=by
     rw [bp (by simp;omega),da]
     simp at h1;rw [show(bF (dat r) n)[i]'(by simp;omega)=1 from h1]
    simp only [ldV,aG,ch,bh];rw [this];rfl
   obtain⟨K,hK⟩:∃ K:Heap,K=[.box ((bF (dat r) n).map cI) 0]:=⟨_,rfl⟩;have f1:=hix K hK;have f2:=hlu K hK;rw [←hK]at next ⊢;refine aN (kw_sr ?_);simp [g3,ha,f1,f2,-aC];refine ah (by simp) (aW (aF ?_))
   exact next _ _ ⟨by simp [g0],by simp [g3],rfl⟩ (by simp [ha])
  ·rintro t H ⟨g0,g3,rfl⟩ ha;refine kw_sr ?_;simp
   exact aQ (hQ _ _ (by simp)))
theorem y5(g:Tg){r:List aK}(hG:Good (dat r))(hl:r.length≤64):Km.Pure tab.get Xy [.c (.f (sl g (aB r)))]=Eq (vb true):=Km.Pure.eq (by
 have:=Qu g hG hl;refine bZ aOm rfl fun Q hQ=>?_
 refine kw_sr ?_;simp;refine kw_sr ?_;simp [this]
 exact aQ (hQ _ _ (by simp)))
end
section
def vS(l:List (aK × C)):List C:=(l.map fun p=>p.1.cel p.2).flatten
theorem AA(l:List (aK × C)):(vS l).length=l.length*8:=by
 induction l with
 | nil=>rfl
 | cons p l ih=>simp only [vS,ax,List.flatten_cons,aL,bt]at ih ⊢;rw [ih,show(p.1.cel p.2).length=8 from rfl];omega
theorem QH(l:List (aK × C))(x:aK)(c:C):vS (l++[(x,c)])=vS l++x.cel c:=by simp [vS]
def NL(J:Heap)(cn:C)(l:List (aK × C)):Prop:=
 (∀ p ∈ l,LR J p.2 1 (ints p.1.d.li))∧((l=[]∧(cn=.f .au∨cn=.f .es))∨(l≠[]∧∃ b ep,cn=.sl b 0 l.length 0 ep 8∧J[b]?=some (.opn 8 (vS l) 0 ep .loc)))
theorem awg{J:Heap}{c:C}{l:List Int}(h:LR J c 1 (ints l)){b:Nat}{cs:List C}{fl ep:Nat}{st:Km.Os}(hb:J[b]?=some (.opn 8 cs fl ep st)):aX c≠some b:=by
 rcases h with⟨_,rfl | rfl⟩ | ⟨_,b',ep',rfl,h2⟩
 ·simp [aX]
 ·simp [aX]
 ·intro e;simp [aX]at e;subst e;unfold RB at h2;rw [hb]at h2;cases h2
theorem NL.nil(J:Heap):NL J (.f .es) []:=⟨by simp,.inl ⟨rfl,.inr rfl⟩⟩
theorem NL.keep{J J':Heap}{cn:C}{l:List (aK × C)}(h:NL J cn l)(hk:∀(i:Nat) (y:Blk),J[i]?=some y→(∀ cs fl,y≠Blk.box cs fl)→J'[i]?=some y):NL J' cn l:=by
 refine⟨fun p hp=>(h.1 p hp).keep fun i y hy hi=>hk i y hy ?_,?_⟩
 ·rcases h.1 p hp with⟨_,e | e⟩ | ⟨_,b',ep',e,h2⟩
  ·rw [e]at hi;simp [aX]at hi
  ·rw [e]at hi;simp [aX]at hi
  ·rw [e]at hi;simp [aX]at hi;subst hi;unfold RB at h2;rw [h2]at hy;cases hy;intro cs fl e;cases e
 ·rcases h.2 with h2 | ⟨hne,b,ep,rfl,hb⟩
  ·exact .inl h2
  ·exact .inr ⟨hne,b,ep,rfl,hk _ _ hb (fun cs fl e=>by cases e)⟩
theorem NL.push{J:Heap}{cn:C}{l:List (aK × C)}(h:NL J cn l)(L:Heap):NL (J++L) cn l:=h.keep fun i y hy _=>by rw [ae (ay hy)];exact hy
theorem NL.gq{J:Heap}{cn:C}{l:List (aK × C)}(h:NL J cn l){i:Nat}{cs:List C}{fl:Nat}(hx:J[i]?=some (.box cs fl)):aX cn≠some i:=by
 rcases h.2 with⟨_,rfl | rfl⟩ | ⟨hne,b,ep,rfl,hb⟩
 ·simp [aX]
 ·simp [aX]
 ·intro e;simp [aX]at e;subst e;rw [hx]at hb;cases hb
theorem NL.app{J:Heap}{cn:C}{l:List (aK × C)}(h:NL J cn l)(hl:l.length≤1000){x:aK}{c:C}(hc:LR J c 1 (ints x.d.li)){b1 fl1:Nat}(hb1:J[b1]?=some (.box (x.cel c) fl1)) :
  ∃ cn' H',dn J 8 88 (.c cn) (.c (.sl b1 0 1 1 0 8))=some (.c cn',H')∧NL H' cn' (l++[(x,c)])∧Kb J H' cn∧(aX cn'=aX cn∨aX cn'=some J.length):=by
 have hadd:eY J 8 (.c (.sl b1 0 1 1 0 8))=some (1,x.cel c):=sF hb1 rfl
 have hall:∀ p ∈ l++[(x,c)],LR J p.2 1 (ints p.1.d.li):=fun p hp=>by
  rcases bX.1 hp with hp | hp
  ·exact h.1 p hp
  ·simp at hp;subst hp;exact hc
 rcases h.2 with⟨rfl,he⟩ | ⟨hne,b,ep,rfl,h2⟩
 ·have hroom:bK 1 88=true:=by decide
  refine⟨.sl J.length 0 1 0 0 8,J++[.opn 8 (x.cel c) 0 0 .loc],?_,⟨fun p hp=>(hall p hp).push _,.inr ⟨by simp,J.length,0,rfl,?_⟩⟩,⟨by simp,fun i y hy _=>by rw [ae (ay hy)];exact hy⟩,.inr rfl⟩
  ·rcases he with rfl | rfl<;>simp [dn,hadd,hroom]
  ·simp [vS]
 ·have hroom:bK (l.length+1) 88=true:=fH (by omega) (by decide)
  refine⟨.sl b 0 (l.length+1) 0 (ep+1) 8,J.set b (.opn 8 (vS l++x.cel c) 0 (ep+1) .loc),?_,⟨fun p hp=>(hall p hp).set (awg (hall p hp) h2) _,.inr ⟨by simp,b,ep+1,by simp,?_⟩⟩,⟨by simp,fun i y hy hn=>?_⟩,.inl rfl⟩
  ·simp only [dn,hadd,h2,and_self,if_true];rw [if_neg (by decide),if_neg (by decide),if_pos ⟨trivial,(AA l).symm,Nat.zero_le _⟩,hroom]
   simp
  ·rw [ap (ay h2),QH]
  ·have:b≠i:=by rintro rfl;exact hn rfl
   rw [al this];exact hy
theorem OV{J:Heap}(n:Nat):∀ {l:List (aK × C)},(∀ p ∈ l,LR J p.2 1 (ints p.1.d.li))→∃ l':List aK,dat l'=l.map (·.1.d)∧bC (exC (n+1) J) (vS l)=some (aB l').flatten
 | [],_=>⟨[],rfl,rfl⟩
 | (x,c)::l,h=>by
  obtain⟨l',h1,h2⟩:=OV n (l:=l) fun p hp=>h p (bw _ hp)
  obtain⟨g,hg⟩:=(h (x,c) bj).ex (iO _) n;refine⟨⟨x.d,g⟩::l',by simp only [dat,ax];exact congrArg _ h1,?_⟩
  have e:vS ((x,c)::l)=x.cel c++vS l:=by simp [vS]
  rw [e]
  have e2:bC (exC (n+1) J) (x.cel c)=some (aK.row ⟨x.d,g⟩):=by
   simp only [aK.cel,bC,aK.row];simp only at hg;simp [hg]
  have:=qP e2 h2;rw [this];simp [aB]
theorem NL.ex{J:Heap}{cn:C}{l:List (aK × C)}(h:NL J cn l)(n:Nat):∃ g,∃ l':List aK,dat l'=l.map (·.1.d)∧exC (n+2) J cn=some (sl g (aB l')):=by
 obtain⟨l',h1,h2⟩:=OV n h.1;have hl:l'.length=l.length:=by have:=congrArg List.length h1;simpa using this
 rcases h.2 with⟨rfl,rfl | rfl⟩ | ⟨hne,b,ep,rfl,hb⟩
 ·exact⟨.nil,[],rfl,rfl⟩
 ·exact⟨.es,[],rfl,rfl⟩
 ·refine⟨.fs,l',h1,?_⟩
  show exC (n+1+1) J _=_
  rw [sZ,hb];have hpos:=cQ.2 hne;have e:(((vS l).drop 0).take (l.length*8))=vS l:=by rw [List.drop_zero,bi (by rw [AA];exact aq _)]
  have hne':¬ (aB l').isEmpty=true:=by simp;intro e;subst e;simp at hl;omega
  simp only [e,h2,bz];rw [if_pos ⟨trivial,trivial,by rw [AA];omega⟩,sl,if_neg hne',uS,hl]
end
section
theorem GX(n lo hi:Int):Km.Pure tab.get qg [vi n,vi lo,vi hi]=Eq (vb (decide (lo≤n∧n≤hi))):=Km.Pure.eq (by
 refine bZ aNW rfl fun Q hQ=>?_
 refine kw_sr ?_;simp;refine kw_sr ?_;by_cases h:lo≤n
 ·simp [h];exact aQ (hQ _ _ (by simp [h]))
 ·simp [h];exact aQ (hQ _ _ (by simp [h])))
theorem gK(n lo hi:Int)(h:lo≤n∧n≤hi):Km.Pure tab.get qg [vi n,vi lo,vi hi]=Eq (vb true):=by rw [GX,decide_eq_true h]
theorem uG{m:bD}(h:m.OK):Km.Pure tab.get O8 [.a (m.row.map .f)]=Eq (vb true):=Km.Pure.eq (by
 obtain⟨day,drop,to,mi,le⟩:=m;obtain⟨h1,h2,h3⟩:=h;refine bZ aNY rfl fun Q hQ=>?_
 simp only at h1 h2 h3;have w1:=gK day 0 1099511627776 h1;refine kw_sr ?_;simp [bD.row];refine kw_seq (kw_sr ?_);simp [w1];refine bQ (by simp) ?_
 refine kw_seq (kw_sr ?_);simp;cases drop
 ·obtain⟨a1,a2,a3,a4,a5,a6⟩:=h3 rfl;have w2:=gK to 0 1099511627776 ⟨a1,a2⟩;have w3:=gK mi 0 1439 ⟨a3,a4⟩;have w4:=gK le 1 10080 ⟨a5,a6⟩;refine bQ (by simp) ?_
  refine kw_sr ?_;simp [w2,w3,w4];exact aQ (hQ _ _ (by simp))
 ·obtain⟨rfl,rfl,rfl⟩:=h2 rfl;refine ak (by simp) ?_
  refine kw_sr ?_;simp
  exact aQ (hQ _ _ (by simp)))
theorem LQ{H:Heap}{g:Tg}{mv:List bD}{j:Nat}(hj:j<mv.length)(hl:mv.length≤1000):aO H 5 none (.c (.f (sl g (aU mv)))) (vi j)=some (.c (.f (.fp (aU mv).flatten (j*5)))):=by
 have:=iE (H:=H) (g:=g) (rows:=aU mv) (sz:=5) (k:=.i64) (i:=(j:Int)) (by omega) (by simp;omega)
 simpa using this
theorem Oy{H:Heap}{mv:List bD}{j:Nat}(hj:j<mv.length):ldV H (some 5) (.c (.f (.fp (aU mv).flatten (j*5))))=some (.a (mv[j].row.map .f)):=nM (eP mv) (nI hj)
theorem EK{H:Heap}{mv:List bD}{j:Nat}(hj:j<mv.length):ldV H none (.c (.f (.fp (aU mv).flatten (j*5))))=some (vi mv[j].day):=by
 have:=nN (H:=H) (rows:=aU mv) (j:=j) (sz:=5) (row:=mv[j].row) (x:=fi mv[j].day) (eP mv) (nI hj) rfl;exact this
theorem jU{H:Heap}{b fl:Nat}{s:bI}(hb:H[b]?=some (.box (s.row.map .f) fl)) :
  ldV H none (.c (.ptr b 0 0))=some (.c (.f (sl s.rg (aB s.ru))))∧ldV H none (.c (.ptr b 1 0))=some (vi s.mi)∧ldV H none (.c (.ptr b 2 0))=some (vi s.le)∧ldV H none (.c (.ptr b 3 0))=some (.c (.f (.str s.zo))) ∧
  ldV H none (.c (.ptr b 4 0))=some (vi s.gap)∧ldV H none (.c (.ptr b 5 0))=some (vi s.fold)∧ldV H none (.c (.ptr b 6 0))=some (.c (.f (sl s.mg (aU s.mv))))∧ldV H (some 7) (.c (.ptr b 0 0))=some s.v:=by
 refine⟨?_,?_,?_,?_,?_,?_,?_,?_⟩<;>simp [ldV,hb,aG,aS,bI.row]
theorem J6{s:bI}(h:s.OK):Km.Pure tab.get O9 [s.v]=Eq (vb true):=Km.Pure.eq (by
 have hml:=h.ml;have wf:=y5 s.rg h.ru h.rl;have w1:=gK s.mi 0 1439 h.mi;have w2:=gK s.le 1 10080 h.le;have w3:=gK s.gap 0 2 h.gap;have w4:=gK s.fold 0 2 h.fold;have hz:=h.zo;have w5:=gK s.zo.size 1 32 ⟨by omega,by omega⟩
 refine bZ aNZ rfl fun Q hQ=>?_
 refine kw_sr ?_;simp;obtain⟨H,hH⟩:∃ H:Heap,H=[.box (s.row.map .f) 0]:=⟨_,rfl⟩;have b0:H[0]?=some (.box (s.row.map .f) 0):=by rw [hH];rfl
 obtain⟨e0,e1,e2,e3,e4,e5,e6,e7⟩:=jU b0;rw [←hH];clear hH;refine kw_seq (kw_sr ?_);simp [e0,e1,e2,e4,e5,wf,w1,w2,w3,w4,-aC];refine bQ (by simp) ?_
 refine kw_seq (kw_sr ?_);simp [e3,e6,w5,-aC,show¬ (64:Int)<s.mv.length by omega]
 refine bQ (by simp) ?_
 refine kw_seq (kw_sr ?_);simp;refine dS s.mv.length (fun j t J=>t.g 1=.c (.ptr 0 0 0)∧J=H) (by omega) (by decide) (by simp) ⟨by simp,rfl⟩ ?_ ?_ ?_
 ·rintro j t J L hj ⟨g1,rfl⟩ ha hn;simp [ha,g1,e6,-aC];exact hn _ ⟨by simp [g1],rfl⟩ (by simp [ha]) (by simp)
 ·rintro j t J hj ⟨g1,rfl⟩ ha nx;have vm:=uG (h.mo _ (az hj));have ix:=fun i (hi:i<s.mv.length)=>LQ (H:=J) (g:=s.mg) hi (by omega)
  have fin:∀ t:T,t.g 1=.c (.ptr 0 0 0)→t.g 3=vi j→t.g 76=vb false→WP tab.get O9 none [.code IL,.inBlock 1,.code IK,.inLoop IQ,.inBlock 0,.code IJ] ⟨t,[],J⟩ Q:=by
   intro t g1 g3 g76;refine ah g76 (aW (aF ?_));exact nx _ _ ⟨by simp [g1],rfl⟩ (by simp [g3])
  refine aN (kw_sr ?_);simp [g1,e6,-aC,ha,ix j hj,Oy hj,vm];by_cases hj0:j=0
  ·simp [show¬ 0<j by omega]
   exact fin _ (by simp [g1]) (by simp [ha]) (by simp)
  ·have hw:IntKind.i64.wrap ((j:Int)-1)=((j-1:Nat):Int):=by rw [wrap64 (by omega) (by omega)];omega
   have hlt:s.mv[j-1].day<s.mv[j].day:=cB.1 h.ms (j-1) j (by omega) hj (by omega)
   simp [show 0<j by omega,g1,e6,-aC,ha,ix j hj,EK hj,hw,ix (j-1) (by omega),EK (show j-1<s.mv.length by omega),show¬ s.mv[j].day≤s.mv[j-1].day by omega]
   exact fin _ (by simp [g1]) (by simp [ha]) (by simp)
 ·rintro t J ⟨g1,rfl⟩ ha;refine kw_sr ?_;simp
  exact aQ (hQ _ _ (by simp)))
end
section
theorem vO(l:List aK):(dat l).length=l.length:=by simp
def fC:List C:=[.f .au,.f (fi 0),.f (fi 0),.f (.str ⟨#[]⟩),.f (fi 0),.f (fi 0),.f .au]
structure bI.Eqv(a b:bI):Prop where
 ru:dat a.ru=dat b.ru
 mi:a.mi=b.mi
 le:a.le=b.le
 zo:a.zo=b.zo
 gap:a.gap=b.gap
 fold:a.fold=b.fold
 mv:a.mv=b.mv
set_option maxHeartbeats 1000000 in
theorem Hf{s:bI}(hl:s.ru.length≤64)(hli:∀ x ∈ s.ru,x.d.li.length≤61)(hml:s.mv.length≤64):∃ s',bI.Eqv s' s∧Km.Pure tab.get O7 [s.v]=Eq s'.v:=by
 obtain⟨rr,⟨s',hs,rfl⟩,hp⟩:∃ rr,(∃ s',bI.Eqv s' s∧rr=s'.v)∧Km.Pure tab.get O7 [s.v] rr:=by
  refine dY aNX rfl fun Q hQ=>?_
  refine kw_sr ?_;simp;obtain⟨H,hH⟩:∃ H:Heap,H=[.box (s.row.map .f) 0,.box [.f .au,.f (fi 0),.f (fi 0),.f (.str ⟨#[]⟩),.f (fi 0),.f (fi 0),.f .au] 0]:=⟨_,rfl⟩;have b0:H[0]?=some (.box (s.row.map .f) 0):=by rw [hH];rfl
  have b1:H[1]?=some (.box fC 0):=by rw [hH];rfl
  rw [←hH];clear hH;refine kw_sr ?_;simp;refine kw_seq (kw_sr ?_);simp
  refine dS s.ru.length (fun i t J=>∃ cn l,t.g 1=.c (.ptr 0 0 0)∧t.g 2=.c (.ptr 1 0 0)∧t.g 3=.c cn∧NL J cn l∧(l.map (·.1))=s.ru.take i∧J[0]?=some (.box (s.row.map .f) 0)∧J[1]?=some (.box fC 0)) (by omega) (by decide) (by simp)
   ⟨.f .es,[],by simp,by simp,by simp,NL.nil _,by simp,b0,b1⟩ ?_ ?_ ?_
  ·rintro i t J L hi ⟨cn,l,g1,g2,g3,hN,hl,b0,b1⟩ ha hn;obtain⟨e0,-⟩:=jU b0;simp [ha,g1,e0,-aC];exact hn _ ⟨cn,l,by simp [g1],by simp [g2],by simp [g3],hN,hl,b0,b1⟩ (by simp [ha]) (by simp)
  ·rintro i t J hi ⟨cn,l,g1,g2,g3,hN,hl',b0,b1⟩ ha nx;obtain⟨e0,-⟩:=jU b0;obtain⟨x,hx⟩:∃ x,x=s.ru[i]:=⟨_,rfl⟩;have hxl:x.d.li.length≤61:=by rw [hx];exact hli _ (az hi)
   have hll:l.length=i:=by have:=congrArg List.length hl';simp at this;omega
   refine aN (kw_sr ?_);simp [g1,e0,-aC,ha,gX hi hl,nO hi,←hx,aK.row];obtain⟨K0,hK0⟩:∃ K0:Heap,K0=J++[.box (x.row.map .f) 0]:=⟨_,rfl⟩;have kx:K0[J.length]?=some (.box (x.row.map .f) 0):=by rw [hK0];simp
   have k0:K0[0]?=some (.box (s.row.map .f) 0):=by rw [hK0,ae (ay b0)];exact b0
   have k1:K0[1]?=some (.box fC 0):=by rw [hK0,ae (ay b1)];exact b1
   have kN:NL K0 cn l:=by rw [hK0];exact hN.push _
   have kl:K0.length=J.length+1:=by rw [hK0];simp
   have hJ1:=ay b1;simp only [aK.row,ax,aE]at hK0;rw [←hK0];clear hK0;obtain⟨p,hp⟩:∃ p,p=J.length:=⟨_,rfl⟩;rw [←hp]at kx kl hJ1 ⊢;refine kw_sr ?_;simp;refine kw_seq (kw_sr ?_);simp
   refine dS x.d.li.length (fun j t K=>∃ c,t.g 1=.c (.ptr 0 0 0)∧t.g 2=.c (.ptr 1 0 0)∧t.g 3=.c cn∧t.g 4=vi i∧t.g 5=.c (.ptr p 0 0)∧t.g 6=.c c∧LR K c 1 (ints (x.d.li.take j))∧Kb K0 K (.f .es)∧(∀ b,aX c=some b→K0.length≤b)) (by omega) (by decide) (by simp)
    ⟨.f .es,by simp [g1],by simp [g2],by simp [g3],by simp [ha],by simp,by simp,.inl ⟨rfl,.inr rfl⟩,Kb.refl _ _,by simp [aX]⟩ ?_ ?_ ?_
   ·rintro j t K L hj ⟨c,g1,g2,g3,g4,g5,g6,hLR,hKb,hcb⟩ ha hn
    have e6:ldV K none (.c (.ptr p 6 0))=some (.c (.f (sl x.tg (ints x.d.li)))):=by
     have:=hKb.2 p _ kx (by simp [aX])
     simp [ldV,this,aG,aS,aK.row]
    simp [ha,g5,e6,-aC];exact hn _ ⟨c,by simp [g1],by simp [g2],by simp [g3],by simp [g4],by simp [g5],by simp [g6],hLR,hKb,hcb⟩ (by simp [ha]) (by simp)
   ·rintro j t K hj ⟨c,g1,g2,g3,g4,g5,g6,hLR,hKb,hcb⟩ ha nx2
    have e6:ldV K none (.c (.ptr p 6 0))=some (.c (.f (sl x.tg (ints x.d.li)))):=by
     have:=hKb.2 p _ kx (by simp [aX])
     simp [ldV,this,aG,aS,aK.row]
    have hix:∀ H,aO H 1 none (.c (.f (sl x.tg (ints x.d.li)))) (vi j)=some (.c (.f (.fp (ints x.d.li).flatten j))):=fun H=>by
     have:=iE (H:=H) (g:=x.tg) (rows:=ints x.d.li) (sz:=1) (k:=.i64) (i:=(j:Int)) (by omega) (by simp;omega)
     simpa using this
    obtain⟨v,hv⟩:∃ v,v=x.d.li[j]:=⟨_,rfl⟩;have hlj:ldV K none (.c (.f (.fp (ints x.d.li).flatten j)))=some (vi v):=by rw [hv];exact qR hj
    obtain⟨K1,hK1⟩:∃ K1:Heap,K1=K++[.box ([fi v].map .f) 0]:=⟨_,rfl⟩;have hL1:LR K1 c 1 (ints (x.d.li.take j)):=by rw [hK1];exact hLR.push _
    have hb1:K1[K.length]?=some (.box ([fi v].map .f) 0):=by rw [hK1];simp
    obtain⟨c',H',happ,hL',hK',hc'⟩:=hL1.app (iO _) (by decide) (row:=[fi v]) rfl (bytes:=8) (fH (by simp;omega) (by decide)) hb1
    simp only [ax,aE]at hK1;refine aN (kw_region (.inl rfl) ?_);simp [g5,g6,e6,-aC,ha,hix,hlj];rw [←hK1];simp [happ]
    have h1:Kb K0 K1 (.f .es):=by
     refine⟨by have:=hKb.1;rw [hK1];simp;omega,fun i y hy hn=>?_⟩
     rw [hK1,ae (ay (hKb.2 i y hy hn))];exact hKb.2 i y hy hn
    refine aF ?_;refine nx2 _ _ ⟨c',by simp [g1],by simp [g2],by simp [g3],by simp [g4],by simp [g5],by simp,?_,?_,?_⟩ (by simp [ha])
    ·rw [aD hj,←hv];have e:ints (x.d.li.take j++[v])=ints (x.d.li.take j)++[[fi v]]:=by simp [ints]
     rw [e];exact hL'
    ·refine⟨a7 h1.1 hK'.1,fun i y hy hn=>hK'.2 i y (h1.2 i y hy hn) fun e=>?_⟩
     have:=hcb i e;have:=ay hy;omega
    ·intro b hb;rcases hc' with e | e
     ·exact hcb b (by rw [←e];exact hb)
     ·rw [hb]at e;cases e;exact h1.1
   ·rintro t K ⟨c,g1,g2,g3,g4,g5,g6,hLR,hKb,hcb⟩ ha;rw [bO]at hLR;have kp:=hKb.2 p _ kx (by simp [aX])
    have hst:stC K (.ptr p 6 0) [c]=some (K.set p (.box (x.cel c) 0)):=by
     simp [stC,kp,aK.row,aK.cel,over]
    have hpc:aX c≠some p:=fun e=>by have:=hcb p e;omega
    obtain⟨K2,hK2⟩:∃ K2:Heap,K2=K.set p (.box (x.cel c) 0):=⟨_,rfl⟩;have k2p:K2[p]?=some (.box (x.cel c) 0):=by rw [hK2];exact ap (ay kp)
    have k2k:∀(i:Nat) (y:Blk),K0[i]?=some y→i≠p→K2[i]?=some y:=fun i y hy hi=>by
     rw [hK2,al (Ne.symm hi)];exact hKb.2 i y hy (by simp [aX])
    have k2N:NL K2 cn l:=kN.keep fun i y hy hb=>k2k i y hy (by rintro rfl;rw [kx]at hy;cases hy;exact hb _ _ rfl)
    have k2L:LR K2 c 1 (ints x.d.li):=by rw [hK2];exact hLR.set hpc _
    have e8:ldV K2 (some 8) (.c (.ptr p 0 0))=some (.a (x.cel c)):=by simp [ldV,k2p,aG,aS,aK.cel]
    refine kw_sr ?_;simp [g6,g5,hst,-bJ];rw [←hK2];obtain⟨K3,hK3⟩:∃ K3:Heap,K3=K2++[.box (x.cel c) 0]:=⟨_,rfl⟩;have k3N:NL K3 cn l:=by rw [hK3];exact k2N.push _
    have k3L:LR K3 c 1 (ints x.d.li):=by rw [hK3];exact k2L.push _
    have k3b:K3[K2.length]?=some (.box (x.cel c) 0):=by rw [hK3];simp
    have k3k:∀(i:Nat) (y:Blk),K0[i]?=some y→i≠p→K3[i]?=some y:=fun i y hy hi=>by
     have:=k2k i y hy hi;rw [hK3,ae (ay this)];exact this
    obtain⟨cn',H',happ,hN',hK',hc'⟩:=k3N.app (by omega) k3L k3b
    have hc8:(x.cel c).length=8:=rfl;refine kw_region (.inl rfl) ?_;simp [g3,g5,e8,-aC,hc8];rw [←hK3];simp [happ];refine aF ?_;refine nx _ _ ⟨cn',l++[(x,c)],by simp [g1],by simp [g2],by simp,hN',?_,?_,?_⟩ (by simp [g4])
    ·rw [List.map_append,hl',aD hi,←hx];rfl
    ·exact hK'.2 0 _ (k3k 0 _ k0 (by omega)) (k3N.gq (k3k 0 _ k0 (by omega)))
    ·exact hK'.2 1 _ (k3k 1 _ k1 (by omega)) (k3N.gq (k3k 1 _ k1 (by omega)))
  ·rintro t J ⟨cn,l,g1,g2,g3,hN,hl',b0,b1⟩ ha;rw [bO]at hl';refine kw_sr ?_;simp;refine kw_seq (kw_sr ?_);simp
   refine dS s.mv.length (fun j t K=>∃ c,t.g 1=.c (.ptr 0 0 0)∧t.g 2=.c (.ptr 1 0 0)∧t.g 3=.c cn∧t.g 8=.c c∧LR K c 5 (aU (s.mv.take j))∧Kb J K (.f .es)∧(∀ b,aX c=some b→J.length≤b)) (by omega) (by decide) (by simp)
    ⟨.f .es,by simp [g1],by simp [g2],by simp [g3],by simp,.inl ⟨rfl,.inr rfl⟩,Kb.refl _ _,by simp [aX]⟩ ?_ ?_ ?_
   ·rintro j t K L hj ⟨c,g1,g2,g3,g8,hLR,hKb,hcb⟩ ha hn;obtain⟨-,-,-,-,-,-,e6,-⟩:=jU (hKb.2 0 _ b0 (by simp [aX]))
    simp [ha,g1,e6,-aC];exact hn _ ⟨c,by simp [g1],by simp [g2],by simp [g3],by simp [g8],hLR,hKb,hcb⟩ (by simp [ha]) (by simp)
   ·rintro j t K hj ⟨c,g1,g2,g3,g8,hLR,hKb,hcb⟩ ha nx;obtain⟨-,-,-,-,-,-,e6,-⟩:=jU (hKb.2 0 _ b0 (by simp [aX]))
    obtain⟨m,hm⟩:∃ m,m=s.mv[j]:=⟨_,rfl⟩;obtain⟨K1,hK1⟩:∃ K1:Heap,K1=K++[.box (m.row.map .f) 0]:=⟨_,rfl⟩;have hL1:LR K1 c 5 (aU (s.mv.take j)):=by rw [hK1];exact hLR.push _
    have hb1:K1[K.length]?=some (.box (m.row.map .f) 0):=by rw [hK1];simp
    obtain⟨c',H',happ,hL',hK',hc'⟩:=hL1.app (eP _) (by decide) (row:=m.row) rfl (bytes:=40) (fH (by simp;omega) (by decide)) hb1
    simp only [bD.row,ax,aE]at hK1;refine aN (kw_region (.inl rfl) ?_);simp [g1,g8,e6,-aC,ha,LQ hj (by omega),Oy hj,←hm,bD.row]
    rw [←hK1];simp [happ]
    have h1:Kb J K1 (.f .es):=by
     refine⟨by have:=hKb.1;rw [hK1];simp;omega,fun i y hy hn=>?_⟩
     rw [hK1,ae (ay (hKb.2 i y hy hn))];exact hKb.2 i y hy hn
    refine aF ?_;refine nx _ _ ⟨c',by simp [g1],by simp [g2],by simp [g3],by simp,?_,?_,?_⟩ (by simp [ha])
    ·rw [aD hj,←hm];have e:aU (s.mv.take j++[m])=aU (s.mv.take j)++[m.row]:=by simp [aU]
     rw [e];exact hL'
    ·refine⟨a7 h1.1 hK'.1,fun i y hy hn=>hK'.2 i y (h1.2 i y hy hn) fun e=>?_⟩
     have:=hcb i e;have:=ay hy;omega
    ·intro b hb;rcases hc' with e | e
     ·exact hcb b (by rw [←e];exact hb)
     ·rw [hb]at e;cases e;exact h1.1
   ·rintro t K ⟨c,g1,g2,g3,g8,hLR,hKb,hcb⟩ ha;rw [bO]at hLR;have k0:=hKb.2 0 _ b0 (by simp [aX])
    have k1:=hKb.2 1 _ b1 (by simp [aX])
    have hJ1:=ay b1
    have st1:stC K (.ptr 0 0 0) [cn]=some (K.set 0 (.box [cn,cI s.mi,cI s.le,.f (.str s.zo),cI s.gap,cI s.fold,.f (sl s.mg (aU s.mv))] 0)):=by
     simp [stC,k0,bI.row,over]
    obtain⟨K2,hK2⟩:∃ K2:Heap,K2=K.set 0 (.box [cn,cI s.mi,cI s.le,.f (.str s.zo),cI s.gap,cI s.fold,.f (sl s.mg (aU s.mv))] 0):=⟨_,rfl⟩;have k20:K2[0]?=some (.box [cn,cI s.mi,cI s.le,.f (.str s.zo),cI s.gap,cI s.fold,.f (sl s.mg (aU s.mv))] 0):=by rw [hK2];exact ap (ay k0)
    have st2:stC K2 (.ptr 0 6 0) [c]=some (K2.set 0 (.box [cn,cI s.mi,cI s.le,.f (.str s.zo),cI s.gap,cI s.fold,c] 0)):=by
     simp [stC,k20,over]
    obtain⟨K3,hK3⟩:∃ K3:Heap,K3=K2.set 0 (.box [cn,cI s.mi,cI s.le,.f (.str s.zo),cI s.gap,cI s.fold,c] 0):=⟨_,rfl⟩;have k30:K3[0]?=some (.box [cn,cI s.mi,cI s.le,.f (.str s.zo),cI s.gap,cI s.fold,c] 0):=by rw [hK3];exact ap (ay k20)
    have k31:K3[1]?=some (.box fC 0):=by rw [hK3,al (by decide),hK2,al (by decide)];exact k1
    have e7:ldV K3 (some 7) (.c (.ptr 0 0 0))=some (.a [cn,cI s.mi,cI s.le,.f (.str s.zo),cI s.gap,cI s.fold,c]):=by simp [ldV,k30,aG,aS]
    have st3:stC K3 (.ptr 1 0 0) [cn,cI s.mi,cI s.le,.f (.str s.zo),cI s.gap,cI s.fold,c]=some (K3.set 1 (.box [cn,cI s.mi,cI s.le,.f (.str s.zo),cI s.gap,cI s.fold,c] 0)):=by
     simp [stC,k31,over,fC]
    obtain⟨K4,hK4⟩:∃ K4:Heap,K4=K3.set 1 (.box [cn,cI s.mi,cI s.le,.f (.str s.zo),cI s.gap,cI s.fold,c] 0):=⟨_,rfl⟩;have k41:K4[1]?=some (.box [cn,cI s.mi,cI s.le,.f (.str s.zo),cI s.gap,cI s.fold,c] 0):=by rw [hK4];exact ap (ay k31)
    have up:∀(i:Nat) (y:Blk),K[i]?=some y→i≠0→i≠1→K4[i]?=some y:=fun i y hy h0 h1=>by
     rw [hK4,al (Ne.symm h1),hK3,al (Ne.symm h0),hK2,al (Ne.symm h0)];exact hy
    have hN4:NL K4 cn l:=hN.keep fun i y hy hb=>up i y (hKb.2 i y hy (by simp [aX])) (by rintro rfl;rw [b0]at hy;cases hy;exact hb _ _ rfl) (by rintro rfl;rw [b1]at hy;cases hy;exact hb _ _ rfl)
    have hL4:LR K4 c 5 (aU s.mv):=hLR.keep fun i y hy hi=>up i y hy (by rintro rfl;have:=hcb 0 hi;omega) (by rintro rfl;have:=hcb 1 hi;omega)
    obtain⟨g',l',hd,hx1⟩:=hN4.ex 62;obtain⟨g'',hx2⟩:=hL4.ex (eP _) 63;refine kw_sr ?_;simp [g1,g3,st1,-bJ];rw [←hK2];refine kw_sr ?_;simp [g1,g8,st2,-bJ];rw [←hK3];refine kw_sr ?_;simp [g1,g2,e7,st3,-bJ,-aC];rw [←hK4];have e41:ldV K4 (some 7) (.c (.ptr 1 0 0))=some (.a [cn,cI s.mi,cI s.le,.f (.str s.zo),cI s.gap,cI s.fold,c]):=by simp [ldV,k41,aG,aS]
    refine aQ (hQ _ _ _ ⟨⟨g',l',s.mi,s.le,s.zo,s.gap,s.fold,g'',s.mv⟩,⟨?_,rfl,rfl,rfl,rfl,rfl,rfl⟩,rfl⟩ ⟨rfl,.a [cn,cI s.mi,cI s.le,.f (.str s.zo),cI s.gap,cI s.fold,c],?_,?_⟩)
    ·show dat l'=dat s.ru
     rw [hd,←hl'];simp
    ·simp [Km.results,bU,bC,g2,e41,-aC]
    ·have d1:exC deep K4 cn=some (sl g' (aB l')):=hx1;have d2:exC deep K4 c=some (sl g'' (aU s.mv)):=hx2;simp [exV,dB,bC,d1,d2,bI.row]
 exact⟨s',hs,hp.eq⟩
end
section
def bI.cel(s:bI)(c:C):List C:=[.f (sl s.rg (aB s.ru)),cI s.mi,cI s.le,.f (.str s.zo),cI s.gap,cI s.fold,c]
structure OvI(s q:bI)(m:bD)(J:Heap)(acc:List bD)(c:C):Prop where
 b0:J[0]?=some (.box (s.row.map .f) 0)
 b1:J[1]?=some (.box (m.row.map .f) 0)
 b2:J[2]?=some (.box fC 0)
 b3:J[3]?=some (.box (q.cel c) 0)
 lr:LR J c 5 (aU acc)
 cb:∀ b,aX c=some b→4≤b
theorem BZ(l:List bD)(x:bD):aU (l++[x])=aU l++[x.row]:=by simp [aU]
theorem OvI.app{s q:bI}{m:bD}{J:Heap}{acc:List bD}{c:C}(h:OvI s q m J acc c)(ha:acc.length≤1000)(x:bD) :
  ∃ c' H' H'',dn (J++[.box (x.row.map .f) 0]) 5 40 (.c c) (.c (.sl J.length 0 1 1 0 5))=some (.c c',H')∧stC H' (.ptr 3 6 0) [c']=some H''∧OvI s q m H'' (acc++[x]) c':=by
 obtain⟨K,hK⟩:∃ K:Heap,K=J++[.box (x.row.map .f) 0]:=⟨_,rfl⟩;have up:∀ {i:Nat} {y:Blk},J[i]?=some y→K[i]?=some y:=fun {i y} hy=>by rw [hK,ae (ay hy)];exact hy
 have hL:LR K c 5 (aU acc):=by rw [hK];exact h.lr.push _
 have hb:K[J.length]?=some (.box (x.row.map .f) 0):=by rw [hK];simp
 have hJ3:=ay h.b3;have hKl:K.length=J.length+1:=by rw [hK];simp
 obtain⟨c',H',happ,hL',hK',hc'⟩:=hL.app (eP _) (by decide) (row:=x.row) rfl (bytes:=40) (fH (by simp;omega) (by decide)) hb
 have nb:∀ i,i<4→aX c≠some i:=fun i hi e=>by have:=h.cb i e;omega
 have cb':∀ b,aX c'=some b→4≤b:=fun b hb=>by
  rcases hc' with e | e
  ·exact h.cb b (by rw [←e];exact hb)
  ·rw [hb]at e;cases e;omega
 have h3:=hK'.2 3 _ (up h.b3) (nb 3 (by decide))
 refine⟨c',H',H'.set 3 (.box (q.cel c') 0),by rw [←hK];exact happ,by simp [stC,h3,bI.cel,over],⟨?_,?_,?_,?_,?_,cb'⟩⟩
 ·rw [al (by decide)];exact hK'.2 0 _ (up h.b0) (nb 0 (by decide))
 ·rw [al (by decide)];exact hK'.2 1 _ (up h.b1) (nb 1 (by decide))
 ·rw [al (by decide)];exact hK'.2 2 _ (up h.b2) (nb 2 (by decide))
 ·exact ap (ay h3)
 ·rw [BZ];exact hL'.set (fun e=>by have:=cb' 3 e;omega) _
theorem OvI.lds{s q:bI}{m:bD}{J:Heap}{acc:List bD}{c:C}(h:OvI s q m J acc c) :
  ldV J none (.c (.ptr 3 6 0))=some (.c c)∧ldV J none (.c (.ptr 0 6 0))=some (.c (.f (sl s.mg (aU s.mv))))∧ldV J none (.c (.ptr 1 0 0))=some (vi m.day)∧ldV J (some 5) (.c (.ptr 1 0 0))=some (.a (m.row.map .f)):=by
 have h0:=h.b0;have h1:=h.b1;have h3:=h.b3;refine⟨?_,?_,?_,?_⟩
 ·simp [ldV,h3,aG,aS,bI.cel]
 ·simp [ldV,h0,aG,aS,bI.row]
 ·simp [ldV,h1,aG,aS,bD.row]
 ·simp [ldV,h1,aG,aS,bD.row]
theorem uq{α:Type}(p:α→Bool)(l:List α):(l.filter p).length≤l.length:=List.length_filter_le p l
set_option maxHeartbeats 1000000 in
theorem BQ{s:bI}(h:s.OK)(hml:s.mv.length≤60){m:bD}(hm:m.OK) :
  ∃ q,bI.Eqv q ⟨s.rg,s.ru,s.mi,s.le,s.zo,s.gap,s.fold,s.mg,ovr s.mv m⟩∧Km.Pure tab.get Pg [s.v,.a (m.row.map .f)]=Eq (.t [q.v,vi 0]):=by
 have aME:=J6 h;have hvm:=uG hm
 obtain⟨q,hq,sK⟩:=Hf (s:=s) h.rl (fun x hx=>by
  obtain⟨i,hi,rfl⟩:=b7 hx;have:=(h.ru.at_ i (by simpa using hi)).ok.1
  simpa using this) h.ml
 obtain⟨rr,⟨q',hq',rfl⟩,hp⟩:∃ rr,(∃ q',bI.Eqv q' ⟨s.rg,s.ru,s.mi,s.le,s.zo,s.gap,s.fold,s.mg,ovr s.mv m⟩∧rr=.t [q'.v,vi 0])∧Km.Pure tab.get Pg [s.v,.a (m.row.map .f)] rr:=by
  refine dY aN0 rfl fun Q hQ=>?_
  refine kw_sr ?_;simp;obtain⟨H,hH⟩:∃ H:Heap,H=[.box (s.row.map .f) 0,.box (m.row.map .f) 0,.box fC 0]:=⟨_,rfl⟩;have b0:H[0]?=some (.box (s.row.map .f) 0):=by rw [hH];rfl
  have b1:H[1]?=some (.box (m.row.map .f) 0):=by rw [hH];rfl
  have b2:H[2]?=some (.box fC 0):=by rw [hH];rfl
  have hl:H.length=3:=by rw [hH];rfl
  simp only [fC]at hH;rw [←hH];clear hH;obtain⟨-,-,-,-,-,-,-,e7⟩:=jU b0;have e5:ldV H (some 5) (.c (.ptr 1 0 0))=some (.a (m.row.map .f)):=by simp [ldV,b1,aG,aS,bD.row]
  refine kw_seq (kw_sr ?_);simp [e7,e5,-aC,aME,hvm];refine bQ (by simp) ?_
  refine kw_sr ?_;have hq7:q.row.length=7:=rfl;simp [e7,-aC,sK,hq7,hl];obtain⟨K,hK⟩:∃ K:Heap,K=H++[.box (q.row.map .f) 0]:=⟨_,rfl⟩;have up:∀ {i:Nat} {y:Blk},H[i]?=some y→K[i]?=some y:=fun {i y} hy=>by rw [hK,ae (ay hy)];exact hy
  have k3:K[3]?=some (.box (q.row.map .f) 0):=by rw [hK,bc (by omega),hl];rfl
  rw [←hK];have st1:stC K (.ptr 3 6 0) [.f .au]=some (K.set 3 (.box (q.cel (.f .au)) 0)):=by simp [stC,k3,bI.row,bI.cel,over]
  have hO:OvI s q m (K.set 3 (.box (q.cel (.f .au)) 0)) [] (.f .au):=⟨by rw [al (by decide)];exact up b0,by rw [al (by decide)];exact up b1,by rw [al (by decide)];exact up b2,ap (ay k3),.inl ⟨rfl,.inl rfl⟩,fun b hb=>by simp [aX]at hb⟩
  obtain⟨J0,hJ0⟩:∃ J0:Heap,J0=K.set 3 (.box (q.cel (.f .au)) 0):=⟨_,rfl⟩;rw [←hJ0]at hO st1;clear hJ0 k3 hK up sK aME e7 e5 b0 b1 b2 hl;refine kw_sr ?_;simp [st1,-bJ];clear st1;refine kw_seq (kw_sr ?_);simp;have ix:=fun(H:Heap) i (hi:i<s.mv.length)=>LQ (H:=H) (g:=s.mg) hi (by omega)
  refine dS s.mv.length (fun j t J=>∃ c,t.g 2=.c (.ptr 0 0 0)∧t.g 3=.c (.ptr 1 0 0)∧t.g 4=.c (.ptr 2 0 0)∧t.g 6=.c (.ptr 3 0 0)∧OvI s q m J ((s.mv.take j).filter fun x=>decide (x.day<m.day)) c) (by omega) (by decide) (by simp)
   ⟨.f .au,by simp,by simp,by simp,by simp,by simpa using hO⟩ ?_ ?_ ?_
  ·rintro j t J L hj ⟨c,g2,g3,g4,g6,hI⟩ ha hn;obtain⟨l1,l2,l3,l4⟩:=hI.lds;simp [ha,g2,l2,-aC];exact hn _ ⟨c,by simp [g2],by simp [g3],by simp [g4],by simp [g6],hI⟩ (by simp [ha]) (by simp)
  ·rintro j t J hj ⟨c,g2,g3,g4,g6,hI⟩ ha nx;obtain⟨l1,l2,l3,l4⟩:=hI.lds;have hlen:((s.mv.take j).filter fun x=>decide (x.day<m.day)).length≤1000:=a7 (uq _ _) (by simp;omega)
   obtain⟨x,hx⟩:∃ x,x=s.mv[j]:=⟨_,rfl⟩;have hld:=Oy (H:=J) hj;have Wx:=EK (H:=J) hj;rw [←hx]at hld Wx
   have htk:(s.mv.take (j+1)).filter (fun x=>decide (x.day<m.day))=(s.mv.take j).filter (fun x=>decide (x.day<m.day))++if x.day<m.day then [x]else []:=by
    rw [aD hj,←hx,List.filter_append]
    congr 1
    by_cases hd:x.day<m.day<;>simp [hd]
   refine aN (kw_sr ?_);simp [g2,g3,l2,l3,-aC,ha,ix _ j hj,Wx];by_cases hd:x.day<m.day
   ·rw [if_pos hd]at htk;obtain⟨c',H',H'',happ,hst,hI'⟩:=hI.app hlen x;simp only [bD.row,ax,aE]at happ;refine ak (by simp [hd]) (kw_region (.inl rfl) ?_)
    simp [g2,g6,l1,l2,-aC,ha,ix _ j hj,hld,bD.row,happ,hst,-bJ];refine aF ?_;refine nx _ _ ⟨c',by simp [g2],by simp [g3],by simp [g4],by simp [g6],by rw [htk];exact hI'⟩ (by simp [ha])
   ·rw [if_neg hd,cE]at htk;refine ah (by simp [hd]) (aW (aF ?_))
    refine nx _ _ ⟨c,by simp [g2],by simp [g3],by simp [g4],by simp [g6],by rw [htk];exact hI⟩ (by simp [ha])
  ·rintro t J ⟨c,g2,g3,g4,g6,hI⟩ ha;rw [bO]at hI;obtain⟨F1,hF1⟩:∃ F1,F1=s.mv.filter fun x=>decide (x.day<m.day):=⟨_,rfl⟩
   rw [←hF1]at hI;have aTG:F1.length≤60:=by rw [hF1];exact a7 (uq _ _) hml
   obtain⟨l1,l2,l3,l4⟩:=hI.lds;obtain⟨c',H',H'',happ,hst,hI'⟩:=hI.app (by omega) m
   have hmr:(m.row.map C.f).length=5:=rfl;refine kw_sr ?_;simp [g3,g6,l1,l4,-aC,hmr,happ,hst,-bJ];clear l1 l2 l3 l4 happ hst hI;refine kw_seq (kw_sr ?_);simp
   refine dS s.mv.length (fun j t J=>∃ c,t.g 2=.c (.ptr 0 0 0)∧t.g 3=.c (.ptr 1 0 0)∧t.g 4=.c (.ptr 2 0 0)∧t.g 6=.c (.ptr 3 0 0)∧OvI s q m J (F1++[m]++(s.mv.take j).filter fun x=>decide (m.day<x.day)) c) (by omega) (by decide) (by simp)
    ⟨c',by simp [g2],by simp [g3],by simp [g4],by simp [g6],by simpa using hI'⟩ ?_ ?_ ?_
   ·rintro j t J L hj ⟨c,g2,g3,g4,g6,hI⟩ ha hn;obtain⟨l1,l2,l3,l4⟩:=hI.lds;simp [ha,g2,l2,-aC];exact hn _ ⟨c,by simp [g2],by simp [g3],by simp [g4],by simp [g6],hI⟩ (by simp [ha]) (by simp)
   ·rintro j t J hj ⟨c,g2,g3,g4,g6,hI⟩ ha nx;obtain⟨l1,l2,l3,l4⟩:=hI.lds
    have hlen:(F1++[m]++(s.mv.take j).filter fun x=>decide (m.day<x.day)).length≤1000:=by
     have:=uq (fun x:bD=>decide (m.day<x.day)) (s.mv.take j)
     have:(s.mv.take j).length≤60:=by simp;omega
     simp only [aL,cK];omega
    obtain⟨x,hx⟩:∃ x,x=s.mv[j]:=⟨_,rfl⟩;have hld:=Oy (H:=J) hj;have Wx:=EK (H:=J) hj;rw [←hx]at hld Wx
    have htk:F1++[m]++(s.mv.take (j+1)).filter (fun x=>decide (m.day<x.day))=F1++[m]++(s.mv.take j).filter (fun x=>decide (m.day<x.day))++if m.day<x.day then [x]else []:=by
     rw [aD hj,←hx,List.filter_append,←cC]
     congr 1
     by_cases hd:m.day<x.day<;>simp [hd]
    refine aN (kw_sr ?_);simp [g2,g3,l2,l3,-aC,ha,ix _ j hj,Wx];by_cases hd:m.day<x.day
    ·rw [if_pos hd]at htk;obtain⟨c',H',H'',happ,hst,hI'⟩:=hI.app hlen x;simp only [bD.row,ax,aE]at happ;refine ak (by simp [hd]) (kw_region (.inl rfl) ?_)
     simp [g2,g6,l1,l2,-aC,ha,ix _ j hj,hld,bD.row,happ,hst,-bJ];refine aF ?_;refine nx _ _ ⟨c',by simp [g2],by simp [g3],by simp [g4],by simp [g6],by rw [htk];exact hI'⟩ (by simp [ha])
    ·rw [if_neg hd,cE]at htk;refine ah (by simp [hd]) (aW (aF ?_))
     refine nx _ _ ⟨c,by simp [g2],by simp [g3],by simp [g4],by simp [g6],by rw [htk];exact hI⟩ (by simp [ha])
   ·rintro t J ⟨c,g2,g3,g4,g6,hI⟩ ha;rw [bO]at hI;have hov:F1++[m]++s.mv.filter (fun x=>decide (m.day<x.day))=ovr s.mv m:=by rw [hF1];simp [ovr]
    rw [hov]at hI;have hol:=Oh (m:=m) h.ms;obtain⟨l1,-,-,-⟩:=hI.lds
    have e3:ldV J (some 7) (.c (.ptr 3 0 0))=some (.a (q.cel c)):=by
     have:=hI.b3;simp [ldV,this,aG,aS,bI.cel]
    have hb2:=hI.b2;have st3:stC J (.ptr 2 0 0) (q.cel c)=some (J.set 2 (.box (q.cel c) 0)):=by simp [stC,hb2,fC,over,bI.cel]
    have hln:=hI.lr.len;have aQV:(q.cel c).length=7:=rfl;refine kw_seq (kw_sr ?_);simp [g6,l1,-aC,hln,show¬ (64:Int)<(ovr s.mv m).length by omega]
    refine bQ (by simp) ?_
    refine kw_sr ?_;simp [g6,g4,e3,st3,-aC,-bJ,aQV];obtain⟨Jf,hJf⟩:∃ Jf:Heap,Jf=J.set 2 (.box (q.cel c) 0):=⟨_,rfl⟩;rw [←hJf];have hL:LR Jf c 5 (aU (ovr s.mv m)):=by rw [hJf];exact hI.lr.set (fun e=>by have:=hI.cb 2 e;omega) _
    obtain⟨g',hx⟩:=hL.ex (eP _) 63;have hx':exC deep Jf c=some (sl g' (aU (ovr s.mv m))):=hx
    have e2:ldV Jf (some 7) (.c (.ptr 2 0 0))=some (.a (q.cel c)):=by
     have:Jf[2]?=some (.box (q.cel c) 0):=by rw [hJf];exact ap (ay hb2)
     simp [ldV,this,aG,aS,bI.cel]
    refine aQ (hQ _ _ _ ⟨⟨q.rg,q.ru,q.mi,q.le,q.zo,q.gap,q.fold,g',ovr s.mv m⟩,⟨hq.ru,hq.mi,hq.le,hq.zo,hq.gap,hq.fold,rfl⟩,rfl⟩ ⟨rfl,.t [.a (q.cel c),vi 0],?_,?_⟩)
    ·simp [Km.results,bU,bC,g4,e2,-aC]
    ·simp [exV,dB,bC,hx',bI.row,bI.cel]
 exact⟨q',hq',hp.eq⟩
end
section
inductive iF:List TrD→List TrD→Prop
 | nil:iF [] []
 | step {r o o' t}:iF r o→Xv t o o'→iF (r++[t]) o'
def TLt(a b:TrD):Prop:=a.at_<b.at_
theorem Xv.perm{t:TrD}{l o:List TrD}(h:Xv t l o):o.Perm (l++[t]):=by
 obtain⟨A,B,rfl,rfl,-,-⟩:=h;exact List.perm_middle.trans (List.perm_append_singleton t (A++B)).symm
theorem iF.perm:∀ {r o:List TrD},iF r o→o.Perm r
 | _,_,.nil=>List.Perm.refl _
 | _,_,.step h ht=>ht.perm.trans ((iF.perm h).append_right _)
theorem iF.len{r o:List TrD}(h:iF r o):o.length=r.length:=h.perm.length_eq
def jI(o:List TrD)(size:Int)(i:Nat):Int:=match o[i+1]? with
 | some y=>y.at_
 | none=>(match o[0]? with | some y=>y.at_ | none=>0)+size
def nZ(o:List TrD)(size:Int)(n:Nat):Bool:=(List.range n).all fun i=>match o[i]? with
 | some x=>decide (2160≤jI o size i-x.at_)
 | none=>true
def iU(o:List TrD)(size:Int):Bool:=nZ o size o.length
theorem CO{o:List TrD}{size:Int}(h:iU o size=true):∀ i x y,o[i]?=some x→o[i+1]?=some y→x.at_+2160≤y.at_:=by
 intro i x y hx hy;unfold iU nZ at h;have h1:=aR.1 h i (by have:=(ab.1 hx).1;simpa using this)
 simp only [hx,jI,hy]at h1;have:=of_decide_eq_true h1;omega
theorem wG:∀ {o:List TrD},(∀ i x y,o[i]?=some x→o[i+1]?=some y→x.at_+2160≤y.at_)→o.Pairwise TLt
 | [],_=>List.Pairwise.nil
 | [x],_=>List.pairwise_singleton _ _
 | x::y::l,h=>by
  have ih:=wG (o:=y::l) fun i a b ha hb=>h (i+1) a b (by simpa using ha) (by simpa using hb)
  have hxy:x.at_+2160≤y.at_:=h 0 x y (by simp) (by simp)
  refine de.2 ⟨fun z hz=>?_,ih⟩
  unfold TLt;rcases cF.1 hz with rfl | hz
  ·omega
  ·have:=(de.1 ih).1 z hz;unfold TLt at this;omega
theorem BF{o:List TrD}{size:Int}(h:iU o size=true):o.Pairwise TLt:=wG (CO h)
def epC:Nat→Int
 | 0=>2
 | _=>5
def bgn(c:Nat):Nat→Int
 | 0=>epC c
 | y+1=>bgn c y+(FH c (y+1):Nat)
def nY:Nat→Nat
 | 0=>7
 | _=>14
def cyc(c:Nat):Int:=7*(yG c:Nat)
theorem OY{c:Nat}(hc:c<3):bgn c (nY c)=epC c+cyc c:=by
 have:c=0∨c=1∨c=2:=by omega
 rcases this with rfl | rfl | rfl<;>decide
theorem FD(c y:Nat):12≤FH c y:=by
 have h1:=yS c y 1;have h2:=yS c y 2;unfold FH;omega
theorem MJ(c:Nat){y y':Nat}(h:y<y'):bgn c y<bgn c y':=by
 induction h with
 | refl=>have:=FD c (y+1);simp only [bgn];omega
 | step _ ih=>rename_i m _;have:=FD c (m+1);simp only [bgn]at *;omega
theorem MK{c y:Nat}(hc:c<3)(hy:y≤nY c):2≤bgn c y∧bgn c y≤222:=by
 have h0:bgn c 0≤bgn c y:=by
  rcases cH y with rfl | h
  ·exact cR _
  ·exact Int.le_of_lt (MJ c h)
 have h1:bgn c y≤bgn c (nY c):=by
  rcases Nat.lt_or_eq_of_le hy with h | rfl
  ·exact Int.le_of_lt (MJ c h)
  ·exact cR _
 rw [OY hc]at h1;have:c=0∨c=1∨c=2:=by omega
 rcases this with rfl | rfl | rfl<;>simp [bgn,epC,cyc,yG]at h0 h1<;>omega
def kE(c y:Nat)(r q:YrD):List TrD:=
 let b:=bgn c (y-1)
 if oM (fmD c y b r) (mlD c y r) r.wk r.wd then [⟨sN (fmD c y b r) (mlD c y r) r.wk r.wd*1440+r.mi-q.off,r.off⟩]else []
def BI(c:Nat)(r q:YrD):Nat→List TrD
 | 0=>[]
 | n+1=>BI c r q n++(kE c (n+1) r q++kE c (n+1) q r)
theorem o7(c y:Nat)(r q:YrD):(kE c y r q).length≤1:=by simp only [kE];split<;>simp
theorem uP(c:Nat)(r q:YrD):∀ n,(BI c r q n).length≤2*n
 | 0=>by simp [BI]
 | n+1=>by
  have h1:=uP c r q n;have h2:=o7 c (n+1) r q;have h3:=o7 c (n+1) q r;simp only [BI,aL];omega
end
section
structure ZD where
 c:Nat
 start:Int
 tg:Tg
 tr:List TrD
 hor:Int
 yg:Tg
 yr:List YrD
def ZD.row(z:ZD):List FC:=pO z.c++[fi z.start,sl z.tg (aY z.tr),fi z.hor,sl z.yg (dH z.yr)]
abbrev ZD.v(z:ZD):V:=.a (z.row.map .f)
theorem ZD.N8{z:ZD}(hc:z.c<3):z.row.length=8:=by
 obtain⟨c,s,tg,tr,h,yg,yr⟩:=z;have:c=0∨c=1∨c=2:=by simp at hc;omega
 rcases this with rfl | rfl | rfl<;>rfl
section
variable{H:Heap}{b:Nat}{z:ZD}{fl:Nat}
theorem aIe(h:H[b]?=some (.box (z.row.map .f) fl))(hc:z.c<3):ldV H none (.c (.ptr b 4 0))=some (vi z.start):=by
 obtain⟨c,s,tg,tr,h',yg,yr⟩:=z;have:c=0∨c=1∨c=2:=by simp at hc;omega
 rcases this with rfl | rfl | rfl<;>simp [ldV,h,aG,ZD.row,pO,aS]
theorem uj(h:H[b]?=some (.box (z.row.map .f) fl))(hc:z.c<3):ldV H none (.c (.ptr b 5 0))=some (.c (.f (sl z.tg (aY z.tr)))):=by
 obtain⟨c,s,tg,tr,h',yg,yr⟩:=z;have:c=0∨c=1∨c=2:=by simp at hc;omega
 rcases this with rfl | rfl | rfl<;>simp [ldV,h,aG,ZD.row,pO,aS]
theorem zY(h:H[b]?=some (.box (z.row.map .f) fl))(hc:z.c<3):ldV H none (.c (.ptr b 6 0))=some (vi z.hor):=by
 obtain⟨c,s,tg,tr,h',yg,yr⟩:=z;have:c=0∨c=1∨c=2:=by simp at hc;omega
 rcases this with rfl | rfl | rfl<;>simp [ldV,h,aG,ZD.row,pO,aS]
theorem wQ(h:H[b]?=some (.box (z.row.map .f) fl))(hc:z.c<3):ldV H none (.c (.ptr b 7 0))=some (.c (.f (sl z.yg (dH z.yr)))):=by
 obtain⟨c,s,tg,tr,h',yg,yr⟩:=z;have:c=0∨c=1∨c=2:=by simp at hc;omega
 rcases this with rfl | rfl | rfl<;>simp [ldV,h,aG,ZD.row,pO,aS]
theorem VZ(h:H[b]?=some (.box (z.row.map .f) fl))(hc:z.c<3):ldV H none (.c (.ptr b 0 0))=some (vi (epC z.c)):=by
 obtain⟨c,s,tg,tr,h',yg,yr⟩:=z;have:c=0∨c=1∨c=2:=by simp at hc;omega
 rcases this with rfl | rfl | rfl<;>simp [ldV,h,aG,ZD.row,pO,aS,epC]
theorem yT(h:H[b]?=some (.box (z.row.map .f) fl))(hc:z.c<3):ldV H (some 4) (.c (.ptr b 0 0))=some (AL z.c):=by
 obtain⟨c,s,tg,tr,h',yg,yr⟩:=z;have:c=0∨c=1∨c=2:=by simp at hc;omega
 rcases this with rfl | rfl | rfl<;>simp [ldV,h,aG,ZD.row,pO,aS]
theorem uY(h:H[b]?=some (.box (z.row.map .f) fl))(hc:z.c<3):ldV H (some 8) (.c (.ptr b 0 0))=some z.v:=by
 obtain⟨c,s,tg,tr,h',yg,yr⟩:=z;have:c=0∨c=1∨c=2:=by simp at hc;omega
 rcases this with rfl | rfl | rfl<;>simp [ldV,h,aG,ZD.row,pO,aS]
end
def ZD.cyc(z:ZD):Int:=if z.yr.length=0 then 1 else Go.Proofs.YtmbjejcfadllnaaGreat.cyc z.c
theorem x9(z:ZD)(hc:z.c<3):Km.Pure tab.get Pn [z.v]=Eq (vi z.cyc):=Km.Pure.eq (by
 refine bZ aN9 rfl fun Q hQ=>?_
 refine kw_sr ?_;simp;have hz:([.box (z.row.map .f) 0]:Heap)[0]?=some (.box (z.row.map .f) 0):=rfl;refine kw_seq ?_;refine kw_sr ?_;simp [wQ hz hc,-aC];by_cases h:z.yr=[]
 ·refine ak (by simp [h]) ?_
  refine kw_sr ?_;simp;refine aQ (hQ _ _ ?_);simp [ZD.cyc,h]
 ·refine bQ (by simp [h]) ?_
  refine kw_sr ?_;simp [yT hz hc,-aC,QB hc];refine kw_seq ?_;refine kw_sr ?_;have hr:dG .rem (vi (yG z.c:Nat)) (vi 7)=some (vi (((yG z.c:Nat):Int) % 7)):=wM (by omega) (by omega)
  have hd:yG z.c=13∨yG z.c=31:=by unfold yG;split<;>simp
  have hw:IntKind.i64.wrap (7*((yG z.c:Nat):Int))=7*((yG z.c:Nat):Int):=wrap64 (by omega) (by omega)
  simp [hr];refine ak (by simp;omega) ?_
  refine kw_sr ?_;simp [hw];refine aQ (hQ _ _ ?_)
  simp [ZD.cyc,h,cyc])
end
section
theorem OU{c y:Nat}{b:Int}{x:YrD}(hb:0≤b)(hb':b≤260)(hx:x.OK):-10≤sN (fmD c y b x) (mlD c y x) x.wk x.wd∧sN (fmD c y b x) (mlD c y x) x.wk x.wd≤300:=by
 have k1:=pz c y 1;have k2:=pz c y x.mo.toNat;have k3:=yS c y x.mo.toNat;have hq:mlD c y x=(uh c y x.mo.toNat:Nat):=rfl;have hfm:b≤fmD c y b x∧fmD c y b x≤b+9:=by unfold fmD;split<;>omega
 unfold sN;split<;>omega
structure MZ(fl:List FC)(s:FC)(k m:Nat)(r q:YrD):Prop where
 i:∀ H:Heap,aO H 5 none (.c (.f s)) (vi k)=some (.c (.f (.fp fl (k*5))))
 i':∀ H:Heap,aO H 5 none (.c (.f s)) (vi m)=some (.c (.f (.fp fl (m*5))))
 row:∀ H:Heap,ldV H (some 5) (.c (.f (.fp fl (k*5))))=some (.a (r.row.map .f))
 mi:∀ H:Heap,ldV H none (.c (.f (.fp fl (k*5+3))))=some (vi r.mi)
 of:∀ H:Heap,ldV H none (.c (.f (.fp fl (k*5+4))))=some (vi r.off)
 of':∀ H:Heap,ldV H none (.c (.f (.fp fl (m*5+4))))=some (vi q.off)
theorem aKu(g:Tg)(r q:YrD):MZ (dH [r,q]).flatten (sl g (dH [r,q])) 0 1 r q:=
 ⟨fun _=>rfl,fun _=>rfl,fun _=>rfl,fun _=>rfl,fun _=>rfl,fun _=>rfl⟩
theorem aKt(g:Tg)(r q:YrD):MZ (dH [r,q]).flatten (sl g (dH [r,q])) 1 0 q r:=
 ⟨fun _=>rfl,fun _=>rfl,fun _=>rfl,fun _=>rfl,fun _=>rfl,fun _=>rfl⟩
theorem VJ(c:Nat):nY c≤14:=by unfold nY;split<;>omega
theorem N9{z:ZD}(hc:z.c<3){fl:List FC}{k m y:Nat}{r q:YrD}(hR:MZ fl (sl z.yg (dH z.yr)) k m r q)(hkm:(1:Int)-k=m)(hr:r.OK)(hq:q.OK)(hy:y<nY z.c)
  {t:T} {J:Heap} {cl:C} {o raw:List TrD} (hJ:J[0]?=some (.box (z.row.map .f) 0)) (hL:LR J cl 2 (aY o)) (ho:iF raw o) (hol:raw.length≤100)
  (g1:t.g 1=.c (.ptr 0 0 0)) (g4:t.g 4=.c cl) (g5:t.g 5=vi (cyc z.c)) (g6:t.g 6=vi (bgn z.c y)) (g7:t.g 7=vi ((y:Int)+1)) (g8:t.g 8=vi (k:Nat)) {K:List AItem} {Q:Option ACode→St→Prop}
  (next:∀(t:T) (J:Heap) (cl:C) (o:List TrD),J[0]?=some (.box (z.row.map .f) 0)→LR J cl 2 (aY o)→iF (raw++kE z.c (y+1) r q) o→t.g 1=.c (.ptr 0 0 0)→t.g 4=.c cl→t.g 5=vi (cyc z.c)→t.g 6=vi (bgn z.c y)→t.g 7=vi ((y:Int)+1)→t.g 8=vi (k:Nat) →
   WP tab.get vX none K ⟨t,[],J⟩ Q) :
  WP tab.get vX none (.code I9::K) ⟨t,[],J⟩ Q:=by
 have hyl:=VJ z.c;obtain⟨b0,b1⟩:=MK hc (Nat.le_of_lt hy);have hf:=awX hc (y:=y+1) (by omega) (by omega) (b:=bgn z.c y) (by omega) (by omega) r hr
 rw [show((y+1:Nat):Int)=(y:Int)+1 by omega]at hf
 obtain⟨d0,d1⟩:=OU (c:=z.c) (y:=y+1) (b:=bgn z.c y) (x:=r) (by omega) (by omega) hr
 obtain⟨-,-,-,-,m0,m1,o0,o1⟩:=hr;obtain⟨-,-,-,-,-,-,p0,p1⟩:=hq;have hraw:kE z.c (y+1) r q=if oM (fmD z.c (y+1) (bgn z.c y) r) (mlD z.c (y+1) r) r.wk r.wd then [⟨sN (fmD z.c (y+1) (bgn z.c y) r) (mlD z.c (y+1) r) r.wk r.wd*1440+r.mi-q.off,r.off⟩]else []:=rfl
 generalize hD:sN (fmD z.c (y+1) (bgn z.c y) r) (mlD z.c (y+1) r) r.wk r.wd=D at *;generalize hO:oM (fmD z.c (y+1) (bgn z.c y) r) (mlD z.c (y+1) r) r.wk r.wd=O at *;refine aN ?_;refine kw_sr ?_;have hrow:=hR.row J;have hi:=hR.i J;have lz1:=yT hJ hc;have lz2:=wQ hJ hc;simp [g1,g6,g7,g8,lz1,lz2,hi,hrow,hf,-aC];refine kw_seq ?_;refine kw_region (.inl rfl) ?_;simp
 cases O with
 | false=>
  simp only [aw,if_false]at hraw;rw [hraw,cE]at next;refine ah (by simp) (aW (aF ?_))
  exact next _ J cl o hJ hL ho (by simp [g1]) (by simp [g4]) (by simp [g5]) (by simp [g6]) (by simp [g7]) (by simp [g8])
 | true=>
  simp only [if_true]at hraw;refine ak (by simp) ?_
  refine kw_region (.inl rfl) ?_;have w1:IntKind.i64.wrap (D*1440)=D*1440:=wrap64 (by omega) (by omega)
  have w2:IntKind.i64.wrap (D*1440+r.mi)=D*1440+r.mi:=wrap64 (by omega) (by omega)
  have w3:IntKind.i64.wrap (D*1440+r.mi-q.off)=D*1440+r.mi-q.off:=wrap64 (by omega) (by omega)
  have w4:IntKind.i64.wrap (1-(k:Int))=m:=by rw [wrap64 (by omega) (by omega),hkm]
  have hi':=hR.i' J;have hmi:=hR.mi J;have hof:=hR.of J;have aQW:=hR.of' J;have hlen:=ho.len;obtain⟨o',cl',J',hI,hE,hL',hK,hbk⟩:=Qp hL (by omega) ⟨D*1440+r.mi-q.off,r.off⟩
  simp only [TrD.row,ax,aE]at hE;have hEq:=hE.eq;simp [g1,g4,g8,lz2,hi,hi',hmi,hof,aQW,w1,w2,w3,w4,hEq,-aC];refine aF ?_;rw [hraw]at next;exact next _ J' cl' o' (hK.2 _ _ hJ (hL.gq hJ)) hL' (.step ho hI) (by simp [g1]) (by simp) (by simp [g5]) (by simp [g6]) (by simp [g7]) (by simp [g8])
end
section
theorem aEl{z:ZD}(hc:z.c<3){r q:YrD}(hz:z.yr=[r,q])(hr:r.OK)(hq:q.OK){y:Nat}(hy:y<nY z.c)
  {t:T} {J:Heap} {cl:C} {o raw:List TrD} (hJ:J[0]?=some (.box (z.row.map .f) 0)) (hL:LR J cl 2 (aY o)) (ho:iF raw o) (hol:raw.length≤90)
  (g1:t.g 1=.c (.ptr 0 0 0)) (g4:t.g 4=.c cl) (g5:t.g 5=vi (cyc z.c)) (g6:t.g 6=vi (bgn z.c y)) (g7:t.g 7=vi ((y:Int)+1)) {K:List AItem} {Q:Option ACode→St→Prop}
  (next:∀(t:T) (J:Heap) (cl:C) (o:List TrD),J[0]?=some (.box (z.row.map .f) 0)→LR J cl 2 (aY o)→iF (raw++(kE z.c (y+1) r q++kE z.c (y+1) q r)) o→t.g 1=.c (.ptr 0 0 0)→t.g 4=.c cl→t.g 5=vi (cyc z.c)→t.g 6=vi (bgn z.c y)→t.g 7=vi ((y:Int)+1) →
   WP tab.get vX none K ⟨t,[],J⟩ Q) :
  WP tab.get vX none (.code Ja::K) ⟨t,[],J⟩ Q:=by
 refine kw_sr ?_;simp;refine aN ?_
 refine iL (fun n s=>∃(k:Nat) (t:T) (J:Heap) (cl:C) (o:List TrD),s=⟨t,[],J⟩∧n=2-k∧k≤2∧J[0]?=some (.box (z.row.map .f) 0)∧LR J cl 2 (aY o) ∧
   iF (raw++((if 1≤k then kE z.c (y+1) r q else [])++(if 2≤k then kE z.c (y+1) q r else []))) o ∧
   t.g 1=.c (.ptr 0 0 0)∧t.g 4=.c cl∧t.g 5=vi (cyc z.c)∧t.g 6=vi (bgn z.c y)∧t.g 7=vi ((y:Int)+1)∧t.g 8=vi (k:Nat)) 2
  ⟨0,_,J,cl,o,rfl,rfl,by omega,hJ,hL,by simpa using ho,by simp [g1],by simp [g4],by simp [g5],by simp [g6],by simp [g7],by simp⟩ ?_
 clear hJ hL ho g1 g4 g5 g6 g7;rintro n s ⟨k,t,J,cl,o,rfl,rfl,hk,hJ,hL,ho,g1,g4,g5,g6,g7,g8⟩ ih;refine kw_seq ?_;refine kw_sr ?_;simp [g8];have l1:=o7 z.c (y+1) r q;have l2:=o7 z.c (y+1) q r;have hcase:k=0∨k=1∨k=2:=by omega
 rcases hcase with rfl | rfl | rfl
 ·refine ak (by simp) (aW ?_)
  refine kw_seq ?_;simp at ho;refine N9 hc (m:=1) (by rw [hz];exact aKu z.yg r q) (by decide) hr hq hy hJ hL ho (by omega) (by simp [g1]) (by simp [g4]) (by simp [g5]) (by simp [g6]) (by simp [g7]) (by simp [g8]) ?_
  intro t J cl o hJ hL ho g1 g4 g5 g6 g7 g8;refine kw_region (.inl rfl) ?_;simp [g8];exact ih 1 _ (by omega) ⟨1,_,J,cl,o,rfl,rfl,by omega,hJ,hL,by simpa using ho,by simp [g1],by simp [g4],by simp [g5],by simp [g6],by simp [g7],by simp [show IntKind.i64.wrap 1=1 from rfl]⟩
 ·refine ak (by simp) (aW ?_)
  refine kw_seq ?_;simp at ho;refine N9 hc (m:=0) (by rw [hz];exact aKt z.yg r q) (by decide) hq hr hy hJ hL ho (by simp;omega) (by simp [g1]) (by simp [g4]) (by simp [g5]) (by simp [g6]) (by simp [g7]) (by simp [g8]) ?_
  intro t J cl o hJ hL ho g1 g4 g5 g6 g7 g8;refine kw_region (.inl rfl) ?_;simp [g8];exact ih 0 _ (by omega) ⟨2,_,J,cl,o,rfl,rfl,by omega,hJ,hL,by simpa using ho,by simp [g1],by simp [g4],by simp [g5],by simp [g6],by simp [g7],by simp [show IntKind.i64.wrap 2=2 from rfl]⟩
 ·refine ah (by simp) ?_
  refine iM (k':=K) rfl ?_;simp at ho;exact next _ J cl o hJ hL (by simpa using ho) (by simp [g1]) (by simp [g4]) (by simp [g5]) (by simp [g6]) (by simp [g7])
end
section
def AtB(x:TrD):Prop:=-20000≤x.at_∧x.at_≤500000
theorem CU{c y:Nat}{r q:YrD}(hc:c<3)(hy:y<nY c)(hr:r.OK)(hq:q.OK):∀ x ∈ kE c (y+1) r q,AtB x:=by
 intro x hx;obtain⟨b0,b1⟩:=MK hc (Nat.le_of_lt hy);obtain⟨d0,d1⟩:=OU (c:=c) (y:=y+1) (b:=bgn c y) (x:=r) (by omega) (by omega) hr
 obtain⟨-,-,-,-,m0,m1,-,-⟩:=hr;obtain⟨-,-,-,-,-,-,p0,p1⟩:=hq;simp only [kE,Nat.add_sub_cancel]at hx;split at hx
 ·simp only [List.mem_singleton]at hx;subst hx;unfold AtB;simp only;omega
 ·cases hx
theorem Es{c:Nat}{r q:YrD}(hc:c<3)(hr:r.OK)(hq:q.OK):∀ n,n≤nY c→∀ x ∈ BI c r q n,AtB x
 | 0,_,x,hx=>by cases hx
 | n+1,hn,x,hx=>by
  simp only [BI,bX]at hx;rcases hx with hx | hx | hx
  ·exact Es hc hr hq n (by omega) x hx
  ·exact CU hc (by omega) hr hq x hx
  ·exact CU hc (by omega) hq hr x hx
theorem BG(o:List TrD)(size:Int)(n:Nat){x:TrD}(h:o[n]?=some x):nZ o size (n+1)=(nZ o size n&&decide (2160≤jI o size n-x.at_)):=by
 simp [nZ,List.range_succ,h]
theorem F5{o:List TrD}{size:Int}{n:Nat}{x:TrD}(h:o[n]?=some x)(hb:¬ 2160≤jI o size n-x.at_):iU o size=false:=by
 cases e:iU o size with
 | false=>rfl
 | true=>
  have h1:=aR.1 e n (by have:=(ab.1 h).1;simpa using this)
  simp only [h]at h1;exact absurd (of_decide_eq_true h1) hb
theorem Fz(z:ZD)(hc:z.c<3){r q:YrD}(hz:z.yr=[r,q])(hr:r.OK)(hq:q.OK):∃ g o,iF (BI z.c r q (nY z.c)) o ∧
  Km.Pure tab.get vX [z.v]=Eq (.t [.c (.f (sl g (aY o))),vb (iU o (cyc z.c*1440))]):=by
 obtain⟨rr,⟨g,o,ho,rfl⟩,hp⟩:∃ rr,(∃ g o,iF (BI z.c r q (nY z.c)) o∧rr=.t [.c (.f (sl g (aY o))),vb (iU o (cyc z.c*1440))])∧Km.Pure tab.get vX [z.v] rr:=by
  refine dY aN6 rfl fun Q hQ=>?_
  refine kw_sr ?_;simp;have hz0:([.box (z.row.map .f) 0]:Heap)[0]?=some (.box (z.row.map .f) 0):=rfl;have hcy:z.cyc=cyc z.c:=by simp [ZD.cyc,hz]
  have hcb:cyc z.c=91∨cyc z.c=217:=by unfold cyc yG;split<;>simp
  have hep:epC z.c=2∨epC z.c=5:=by unfold epC;split<;>simp
  have hend:=OY hc;have hny:=VJ z.c;refine kw_sr ?_;simp;refine kw_seq ?_;refine kw_sr ?_;simp [wQ hz0 hc,-aC,hz];refine bQ (by simp) ?_
  refine kw_sr ?_;simp [uY hz0 hc,-aC,x9 z hc,hcy];refine kw_sr ?_;simp [VZ hz0 hc,-aC];refine kw_seq ?_;refine kw_sr ?_;simp;refine aN ?_
  refine iL (fun n s=>∃(y:Nat) (t:T) (J:Heap) (cl:C) (o:List TrD),s=⟨t,[],J⟩∧n=nY z.c-y∧y≤nY z.c∧J[0]?=some (.box (z.row.map .f) 0)∧LR J cl 2 (aY o)∧iF (BI z.c r q y) o ∧
    t.g 1=.c (.ptr 0 0 0)∧t.g 4=.c cl∧t.g 5=vi (cyc z.c)∧t.g 6=vi (bgn z.c y)∧t.g 7=vi ((y:Int)+1)) (nY z.c)
   ⟨0,_,_,.f .es,[],rfl,rfl,by omega,hz0,.inl ⟨rfl,.inr rfl⟩,.nil,by simp,by simp,by simp,by simp [bgn],by simp⟩ ?_
  rintro n s ⟨y,t,J,cl,o,rfl,rfl,hy,hJ,hL,ho,g1,g4,g5,g6,g7⟩ ih;obtain⟨b0,b1⟩:=MK hc hy;refine kw_seq ?_;refine kw_sr ?_;simp [g1,g5,g6,VZ hJ hc,-aC,wrap64 (n:=epC z.c+cyc z.c) (by omega) (by omega)]
  by_cases hlt:y<nY z.c
  ·have h1:=MJ z.c hlt;refine ak (by simp;omega) (aW ?_)
   refine kw_seq ?_;refine aN ?_;refine kw_seq ?_;have hrl:=uP z.c r q y;refine aEl hc hz hr hq hlt hJ hL ho (by omega) (by simp [g1]) (by simp [g4]) (by simp [g5]) (by simp [g6]) (by simp [g7]) ?_
   clear g1 g4 g5 g6 g7 hJ hL ho;intro t J cl o hJ hL ho g1 g4 g5 g6 g7;have hyl:=FB hc (y:=y+1) (by omega) (by omega)
   rw [show((y+1:Nat):Int)=(y:Int)+1 by omega]at hyl
   have hyb:FH z.c (y+1)≤18:=by
    have h1:=pz z.c (y+1) 1;have h2:=pz z.c (y+1) 2;unfold FH;omega
   refine kw_region (.inl rfl) ?_;simp [g1,g6,g7,yT hJ hc,-aC,hyl,wrap64 (n:=bgn z.c y+(FH z.c (y+1):Nat)) (by omega) (by omega)]
   refine aF ?_;refine kw_region (.inl rfl) ?_;simp [g7,wrap64 (n:=(y:Int)+1+1) (by omega) (by omega)]
   exact ih (nY z.c-(y+1)) _ (by omega) ⟨y+1,_,J,cl,o,rfl,rfl,by omega,hJ,hL,ho,by simp [g1],by simp [g4],by simp [g5],by simp [bgn],by simp⟩
  ·have hyn:y=nY z.c:=by omega
   subst hyn;rw [hend];refine ah (by simp) ?_
   refine iM (k':=[.code I8]) rfl ?_;have hbd:∀ x ∈ o,AtB x:=fun x hx=>Es hc hr hq _ (aq _) x (ho.perm.subset hx)
   obtain⟨g',hg'⟩:=hL.ex (eG _) 63;have hol:o.length≤28:=by have:=ho.len;have:=uP z.c r q (nY z.c);omega
   refine kw_seq ?_;refine kw_sr ?_;simp;refine aN ?_;clear ih
   refine iL (fun n s=>∃(i:Nat) (t:T),s=⟨t,[],J⟩∧n=o.length-i∧i≤o.length∧nZ o (cyc z.c*1440) i=true∧t.g 4=.c cl∧t.g 5=vi (cyc z.c)∧t.g 11=vi (i:Nat)) o.length
    ⟨0,_,rfl,rfl,by omega,rfl,by simp [g4],by simp [g5],by simp⟩ ?_
   clear g1 g4 g5 g6 g7;rintro n s ⟨i,t,rfl,rfl,hi,hsp,g4,g5,g11⟩ ih;refine kw_seq ?_;refine kw_sr ?_;simp [g4,g11,hL.len];by_cases hil:i<o.length
   case neg=>
    have:i=o.length:=by omega
    subst this;refine ah (by simp) ?_
    refine iM (k':=[.code Bf]) rfl ?_;refine kw_sr ?_;simp [g4];refine aQ (hQ _ _ (.t [.c (.f (sl g' (aY o))),vb (iU o (cyc z.c*1440))]) ⟨g',o,ho,rfl⟩ ?_);have:iU o (cyc z.c*1440)=true:=hsp;simp [exV,dB,deep,hg',this,bC,g4]
   refine ak (by simp [hil]) (aW ?_)
   refine kw_seq ?_;refine aN ?_;rcases hL with⟨h,_⟩ | ⟨_,b,ep,rfl,hb⟩
   ·have:o=[]:=by simpa [aY]using h
    subst this;simp at hil
   rw [y9]at g4 hg';have hgr:=eG o
   have idx:∀ k:Nat,k<o.length→aO J 2 none (.c (.sl b 0 o.length 0 ep 2)) (vi k)=some (.c (.ptr b (k*2) ep)):=fun k hk=>by
    have:=hb.idx (n:=o.length) (c:=0) (k:=.i64) (o:=0) (i:=(k:Int)) (by omega) (by omega)
    simpa using this
   have aIg:∀ k:Nat,(hk:k<o.length)→ldV J none (.c (.ptr b (k*2) ep))=some (vi o[k].at_):=fun k hk=>by
    have:=hb.ldc hgr (gI (ai hk)) (k:=0) (x:=fi o[k].at_) rfl;simpa using this
   have o0:0<o.length:=by omega
   have i0:=idx 0 o0;have l0:=aIg 0 o0;have ii:=idx i hil;have li:=aIg i hil;have hb0:=hbd _ (az o0);have hbi:=hbd _ (az hil);unfold AtB at hb0 hbi;simp [-aC]at i0 l0;have w1:IntKind.i64.wrap (cyc z.c*1440)=cyc z.c*1440:=wrap64 (by omega) (by omega)
   have w2:IntKind.i64.wrap (o[0].at_+cyc z.c*1440)=o[0].at_+cyc z.c*1440:=wrap64 (by omega) (by omega)
   have w3:IntKind.i64.wrap ((i:Int)+1)=(i:Int)+1:=wrap64 (by omega) (by omega)
   refine kw_sr ?_;simp [g4,g5,i0,l0,w1,w2,-aC];refine kw_seq ?_
   have tail:∀ t:T,t.g 4=.c (.sl b 0 o.length 0 ep 2)→t.g 5=vi (cyc z.c)→t.g 11=vi (i:Nat)→t.g 12=vi (jI o (cyc z.c*1440) i)→-20000≤jI o (cyc z.c*1440) i→jI o (cyc z.c*1440) i≤900000 →
     WP tab.get vX none [.code I5,.inBlock 5,.code I4,.inLoop I7,.inBlock 4,.code Bf] ⟨t,[],J⟩ Q:=by
    intro t g4 g5 g11 g12 n0 n1;refine kw_sr ?_;simp [g4,g11,g12,ii,li,-aC,wrap64 (n:=jI o (cyc z.c*1440) i-o[i].at_) (by omega) (by omega)]
    by_cases hs:jI o (cyc z.c*1440) i-o[i].at_<2160
    ·refine ak (by simp [hs]) ?_
     refine kw_sr ?_;simp [g4];refine aQ (hQ _ _ (.t [.c (.f (sl g' (aY o))),vb (iU o (cyc z.c*1440))]) ⟨g',o,ho,rfl⟩ ?_);have:iU o (cyc z.c*1440)=false:=F5 (ai hil) (by omega)
     simp [exV,dB,deep,hg',this,bC,g4]
    ·refine ah (by simp;omega) (aW (aF ?_))
     refine kw_region (.inl rfl) ?_;simp [g11,w3];refine ih (o.length-(i+1)) _ (by omega) ⟨i+1,_,rfl,rfl,by omega,?_,by simp [g4,y9],by simp [g5],by simp⟩
     rw [BG _ _ _ (ai hil),hsp];simp;omega
   by_cases hnx:i+1<o.length
   ·have i1:=idx (i+1) hnx;have l1:=aIg (i+1) hnx;have hb1:=hbd _ (az hnx);unfold AtB at hb1;rw [show((i+1:Nat):Int)=(i:Int)+1 by omega]at i1
    have hn:jI o (cyc z.c*1440) i=o[i+1].at_:=by simp [jI,ai hnx]
    rw [hn]at tail;refine kw_sr ?_;simp [g4,g11,w3,hb.len];refine ak (by simp;omega) ?_
    refine kw_region (.inl rfl) ?_;simp [g4,g11,w3,i1,l1,-aC];exact tail _ (by simp [g4]) (by simp [g5]) (by simp [g11]) (by simp) (by omega) (by omega)
   ·have hn:jI o (cyc z.c*1440) i=o[0].at_+cyc z.c*1440:=by
     simp [jI,List.getElem?_eq_none_iff.2 (show o.length≤i+1 by omega),ai o0]
    rw [hn]at tail;refine kw_sr ?_;simp [g4,g11,w3,hb.len];refine ah (by simp;omega) (aW ?_)
    exact tail _ (by simp [g4]) (by simp [g5]) (by simp [g11]) (by simp) (by omega) (by omega)
 exact⟨g,o,ho,Km.Pure.eq hp⟩
end
section
def pW(n:Nat):Int:=match n % 8 with
 | 0=>0 | 1=>60 | 2=>120 | 3=>-90 | 4=>30 | 5=>1080 | 6=>-1080 | _=>90
def isZ(r:Option (V × Heap))(n:Int):Bool:=match r with
 | some (.c (.f (.int .i64 k)),_)=>decide (k=n)
 | _=>false
theorem aIm{r:Option (V × Heap)}{n:Int}(h:isZ r n=true):r.map (·.1)=some (vi n):=by
 unfold isZ at h;split at h
 ·rw [of_decide_eq_true h];rfl
 ·cases h
theorem UR:((List.range 256).all fun n=>isZ (CF tab.get 60 10 (.fn DN) [.c (.f (.int .u8 (n:Nat)))] []) (pW n))=true:=by kernel_rfl
theorem Ef{n:Nat}(h:n<256):Km.Pure tab.get DN [.c (.f (.int .u8 (n:Nat)))]=Eq (vi (pW n)):=(qH (aIm (kV (p:=fun n=>isZ (CF tab.get 60 10 (.fn DN) [.c (.f (.int .u8 (n:Nat)))] []) (pW n)) UR h))).eq
theorem oh(n:Nat):-1080≤pW n∧pW n≤1080:=by unfold pW;split<;>omega
theorem FM(n m:Int)(h0:0≤m)(h1:m≤4611686018427387904):Km.Pure tab.get yA [vi n,vi m]=Eq (vb (decide (-m≤n)&&decide (n≤m))):=Km.Pure.eq (by
 refine bZ aN3 rfl fun Q hQ=>?_
 refine kw_sr ?_;simp;by_cases h:-m≤n
 ·refine kw_sr ?_;simp [UH,wrap64 (n:=-m) (by omega) (by omega),h]
  refine aQ (hQ _ _ ?_);simp [h]
 ·refine kw_sr ?_;simp [UH,wrap64 (n:=-m) (by omega) (by omega),h]
  refine aQ (hQ _ _ ?_)
  simp [h])
theorem y7{n m:Int}(h0:0≤m)(h1:m≤4611686018427387904)(h:-m≤n)(h':n≤m):Km.Pure tab.get yA [vi n,vi m]=Eq (vb true):=by
 rw [FM n m h0 h1];simp [h,h']
end
section
end
section
end
section
section
variable{H:Heap}{b:Nat}{z:ZD}{cl cl':C}{n n':Int}
end
end
section
end
section
end
section
end
section
end
section
end
section
def turns(o:List TrD)(size t:Int):Int:=match o[0]? with
 | some x=>if x.at_<t then(t-x.at_) / size else 0
 | none=>0
def xB(o:List TrD)(size t k:Int):Option TrD:=(o.find? fun x=>decide (t≤x.at_+k*size)).map fun x=>⟨x.at_+k*size,x.off⟩
def aft(o:List TrD)(size t:Int):Option TrD:=(xB o size t (turns o size t)).or (xB o size t (turns o size t+1))
theorem awY{p:TrD→Bool}{l:List TrD}{i:Nat}{x:TrD}(h:l[i]?=some x)(h0:∀ j y,j<i→l[j]?=some y→p y=false)(hp:p x=true):l.find? p=some x:=by
 obtain⟨hi,rfl⟩:=ab.1 h;rw [dj];exact⟨hp,i,hi,rfl,fun j hj=>by have:=h0 j l[j] hj (ai (by omega));simpa using this⟩
theorem MN(g:Tg)(o:List TrD)(h0:0<o.length)(hl:o.length≤1000)(hbd:∀ x ∈ o,AtB x)(n t:Int)(n0:1≤n)(n1:n≤1000)(t0:-1000000≤t)(t1:t≤1000000) :
  ∃ x,aft o (n*1440) t=some x∧Km.Pure tab.get DR [.c (.f (sl g (aY o))),vi n,vi t]=Eq (.t [.a (x.row.map .f),vb true]):=by
 obtain⟨rr,⟨x,hx,rfl⟩,hp⟩:∃ rr,(∃ x,aft o (n*1440) t=some x∧rr=.t [.a (x.row.map .f),vb true])∧Km.Pure tab.get DR [.c (.f (sl g (aY o))),vi n,vi t] rr:=by
  refine dY aEb rfl fun Q hQ=>?_
  have hb0:=hbd _ (az h0);unfold AtB at hb0;obtain⟨K,hK⟩:∃ K,K=turns o (n*1440) t:=⟨_,rfl⟩;have hKd:K=if o[0].at_<t then(t-o[0].at_) / (n*1440)else 0:=by rw [hK];simp [turns,ai h0]
  have hs0:0<n*1440:=by omega
  have q0:=Int.mul_ediv_add_emod (t-o[0].at_) (n*1440);have q1:=Int.emod_nonneg (t-o[0].at_) (show n*1440≠0 by omega)
  have q2:=Int.emod_lt_of_pos (t-o[0].at_) hs0;have hK0:0≤K:=by rw [hKd];split;exact Int.ediv_nonneg (by omega) (by omega);omega
  have hKs:K*(n*1440)≤2000000∧t≤o[0].at_+(K+1)*(n*1440):=by
   rw [hKd];split
   ·rw [Int.add_mul,Int.one_mul,Int.mul_comm ((t-o[0].at_) / (n*1440))];omega
   ·omega
  have aTF:0≤K*(n*1440):=Int.mul_nonneg hK0 (by omega)
  have hK1:K≤2000000:=by
   have:K*1≤K*(n*1440):=Int.mul_le_mul_of_nonneg_left (by omega) hK0
   omega
  have hgr:=eG o
  have hlen:∀ H:Heap,bV H (.f (sl g (aY o)))=some o.length:=fun H=>by
   have hne:¬ (aY o).isEmpty=true:=by
    intro h;have:o=[]:=by simpa [aY]using h
    subst this;simp at h0
   simp [sl,hne,bV]
  have idx:∀(H:Heap) (i:Nat),i<o.length→aO H 2 none (.c (.f (sl g (aY o)))) (vi i)=some (.c (.f (.fp (aY o).flatten (i*2)))):=fun H i hi=>by
   have:=iE (H:=H) (g:=g) (rows:=aY o) (sz:=2) (k:=.i64) (i:=(i:Int)) (by omega) (by simp;omega)
   simpa using this
  have lat:∀(H:Heap) (i:Nat) (hi:i<o.length),ldV H none (.c (.f (.fp (aY o).flatten (i*2))))=some (vi o[i].at_):=fun H i hi=>nN hgr (gI (ai hi)) rfl
  have lof:∀(H:Heap) (i:Nat) (hi:i<o.length),ldV H none (.c (.f (.fp (aY o).flatten (i*2+1))))=some (vi o[i].off):=fun H i hi=>LJ (k:=1) hgr (gI (ai hi)) rfl
  have i0:=fun H=>idx H 0 h0
  have l0:=fun H=>lat H 0 h0
  simp only [Nat.zero_mul,Int.natCast_zero]at i0 l0;refine kw_sr ?_;simp;refine kw_seq ?_;refine kw_sr ?_;simp [hlen];refine ah (by simp;rintro rfl;simp at h0) (aW ?_)
  refine kw_sr ?_;simp [wrap64 (n:=n*1440) (by omega) (by omega)]
  refine kw_sr ?_;simp;refine kw_seq ?_
  have main:∀ t':T,t'.g 0=.c (.f (sl g (aY o)))→t'.g 2=vi t→t'.g 6=.c (.ptr 0 0 0)→t'.g 8=vi (n*1440)→t'.g 9=vi K→WP tab.get DR none [.code IZ] ⟨t',[],[.box [.f (fi 0),.f (fi 0)] 0]⟩ Q:=by
   intro t' g0 g2 g6 g8 g9;refine kw_sr ?_;simp [g9];refine aN ?_
   refine iL (fun m s=>∃(e:Int) (t':T),s=⟨t',[],[.box [.f (fi 0),.f (fi 0)] 0]⟩∧(e=0∧m=1∨e=1∧m=0∧xB o (n*1440) t K=none)∧t'.g 0=.c (.f (sl g (aY o)))∧t'.g 2=vi t∧t'.g 6=.c (.ptr 0 0 0)∧t'.g 8=vi (n*1440)∧t'.g 10=vi (K+e)) 1
    ⟨0,_,rfl,.inl ⟨rfl,rfl⟩,by simp [g0],by simp [g2],by simp [g6],by simp [g8],by simp⟩ ?_
   clear g0 g2 g6 g8 g9;rintro m s ⟨e,t',rfl,he,g0,g2,g6,g8,g10⟩ ih
   have hKe:0≤(K+e)*(n*1440)∧(K+e)*(n*1440)≤4000000:=by
    rcases he with⟨rfl,-⟩ | ⟨rfl,-⟩
    ·rw [dq];omega
    ·rw [Int.add_mul,Int.one_mul];omega
   refine kw_seq ?_;refine aN ?_;refine kw_sr ?_;simp;refine aN ?_
   refine iL (fun m' s=>∃(i:Nat) (t':T),s=⟨t',[],[.box [.f (fi 0),.f (fi 0)] 0]⟩∧m'=o.length-i∧i≤o.length∧(∀ j y,j<i→o[j]?=some y→decide (t≤y.at_+(K+e)*(n*1440))=false) ∧
     t'.g 0=.c (.f (sl g (aY o)))∧t'.g 2=vi t∧t'.g 6=.c (.ptr 0 0 0)∧t'.g 8=vi (n*1440)∧t'.g 10=vi (K+e)∧t'.g 11=vi (i:Nat)) o.length
    ⟨0,_,rfl,rfl,by omega,fun j y h=>absurd h (by omega),by simp [g0],by simp [g2],by simp [g6],by simp [g8],by simp [g10],by simp⟩ ?_
   clear g0 g2 g6 g8 g10;rintro m' s ⟨i,t',rfl,rfl,hi,hno,g0,g2,g6,g8,g10,g11⟩ ih2;refine kw_seq ?_;refine kw_sr ?_;simp [g0,g11,hlen];by_cases hil:i<o.length
   case neg=>
    have hnone:xB o (n*1440) t (K+e)=none:=by
     have:o.find? (fun x=>decide (t≤x.at_+(K+e)*(n*1440)))=none:=by
      rw [List.find?_eq_none];intro x hx;obtain⟨j,hj,rfl⟩:=b7 hx;have:=hno j o[j] (by omega) (ai hj)
      simp [this]
     simp [xB,this]
    rcases he with⟨rfl,rfl⟩ | ⟨rfl,rfl,-⟩
    ·rw [dq]at hnone;refine ah (by simp;omega) ?_
     refine iM (k':=[.inBlock 1,.code IX,.inLoop IY,.inBlock 0]) rfl ?_;refine aF ?_;refine kw_region (.inl rfl) ?_;simp [g10,wrap64 (n:=K+1) (by omega) (by omega)]
     exact ih 0 _ (by omega) ⟨1,_,rfl,.inr ⟨rfl,rfl,hnone⟩,by simp [g0],by simp [g2],by simp [g6],by simp [g8],by simp⟩
    ·exfalso;have:=hno 0 o[0] (by omega) (ai h0)
     have h2:=of_decide_eq_false this;exact h2 hKs.2
   refine ak (by simp [hil]) (aW ?_)
   refine kw_seq ?_;refine aN ?_;have hbi:=hbd _ (az hil);unfold AtB at hbi;have ii:=fun H=>idx H i hil
   have li:=fun H=>lat H i hil
   have oi:=fun H=>lof H i hil
   have w1:IntKind.i64.wrap ((K+e)*(n*1440))=(K+e)*(n*1440):=wrap64 (by omega) (by omega)
   have w2:IntKind.i64.wrap (o[i].at_+(K+e)*(n*1440))=o[i].at_+(K+e)*(n*1440):=wrap64 (by omega) (by omega)
   refine kw_sr ?_;simp [g0,g2,g8,g10,g11,ii,li,w1,w2];by_cases hge:t≤o[i].at_+(K+e)*(n*1440)
   ·refine ak (by simp [hge]) ?_
    refine kw_sr ?_;simp [g0,g6,g8,g10,g11,ii,li,oi,w1,w2]
    have hfk:xB o (n*1440) t (K+e)=some ⟨o[i].at_+(K+e)*(n*1440),o[i].off⟩:=by
     have:=awY (p:=fun x=>decide (t≤x.at_+(K+e)*(n*1440))) (ai hil) (fun j y hj hy=>hno j y hj hy) (by simp [hge])
     simp [xB,this]
    have hfin:aft o (n*1440) t=some ⟨o[i].at_+(K+e)*(n*1440),o[i].off⟩:=by
     unfold aft;rw [←hK];rcases he with⟨rfl,-⟩ | ⟨rfl,-,hn⟩
     ·rw [dq]at hfk ⊢;rw [hfk];rfl
     ·rw [hn,hfk];rfl
    refine aQ (hQ _ _ _ ⟨_,hfin,rfl⟩ ?_);simp [TrD.row,g6]
   ·refine ah (by simp;omega) (aW (aF ?_))
    refine kw_region (.inl rfl) ?_;simp [g11,wrap64 (n:=(i:Int)+1) (by omega) (by omega)]
    refine ih2 (o.length-(i+1)) _ (by omega) ⟨i+1,_,rfl,rfl,by omega,fun j y hj hy=>?_,by simp [g0],by simp [g2],by simp [g6],by simp [g8],by simp [g10],by simp⟩
    by_cases hji:j=i
    ·subst hji;rw [ai hil]at hy;cases hy;exact decide_eq_false hge
    ·exact hno j y (by omega) hy
  by_cases hlt:o[0].at_<t
  ·rw [if_pos hlt]at hKd;have hqv:dG .quo (vi (t-o[0].at_)) (vi (n*1440))=some (vi K):=by rw [hKd];exact aFq (by omega) hs0 (by omega)
   refine kw_sr ?_;simp [i0,l0];refine ak (by simp [hlt]) ?_
   refine kw_region (.inl rfl) ?_;simp [i0,l0,wrap64 (n:=t-o[0].at_) (by omega) (by omega),hqv]
   exact main _ (by simp) (by simp) (by simp) (by simp) (by simp)
  ·rw [if_neg hlt]at hKd;refine kw_sr ?_;simp [i0,l0];refine bQ (by simp [hlt]) ?_
   exact main _ (by simp) (by simp) (by simp) (by simp) (by simp [hKd])
 exact⟨x,hx,Km.Pure.eq hp⟩
end
section
section
variable{o:List TrD}{size:Int}
theorem JZ(h:iU o size=true){i j:Nat}(hij:i<j)(hj:j<o.length):o[i].at_+2160≤o[j].at_:=by
 have h1:=CO h i o[i] o[i+1] (ai (by omega)) (ai (by omega))
 rcases Nat.lt_or_eq_of_le (show i+1≤j by omega)with h2 | h2
 ·have h3:=cB.1 (BF h) (i+1) j (by omega) hj h2
  unfold TLt at h3;omega
 ·subst h2;exact h1
theorem axo(h:iU o size=true){t k:Int}{x:TrD}(hx:xB o size t k=some x):(∃ y ∈ o,x=⟨y.at_+k*size,y.off⟩)∧t≤x.at_∧∀ b ∈ o,t≤b.at_+k*size→x.at_≤b.at_+k*size:=by
 unfold xB at hx;rw [am]at hx;obtain⟨y,hy,rfl⟩:=hx;rw [dj]at hy;obtain⟨hp,i,hi,rfl,hn⟩:=hy;have hp:=of_decide_eq_true hp;refine⟨⟨_,az hi,rfl⟩,hp,fun b hb hbt=>?_⟩
 obtain⟨j,hj,rfl⟩:=b7 hb;rcases Nat.lt_trichotomy i j with e | e | e
 ·have:=JZ h e hj;simp only;omega
 ·subst e;exact cR _
 ·have h1:=hn j e;simp at h1;omega
end
structure OKZ(z:ZD)(o:List TrD):Prop where
 c:z.c<3
 st:-1080≤z.start∧z.start≤1080
 tl:z.tr.length≤3
 tb:∀ x ∈ z.tr,0≤x.at_∧x.at_<z.hor∧-1080≤x.off∧x.off≤1080
 ts:∀(i:Nat) x y,z.tr[i]?=some x→z.tr[i+1]?=some y→x.at_+2160≤y.at_
 ho:0≤z.hor∧z.hor≤40000
 y:(z.yr=[]∧o=[])∨∃ r q,z.yr=[r,q]∧r.OK∧q.OK∧iF (BI z.c r q (nY z.c)) o∧iU o (Go.Proofs.YtmbjejcfadllnaaGreat.cyc z.c*1440)=true ∧
  ∀ x a,aft o (Go.Proofs.YtmbjejcfadllnaaGreat.cyc z.c*1440) z.hor=some x→a ∈ z.tr→a.at_+2160≤x.at_
theorem aEn:∀ {l:List TrD},(∀(i:Nat) x y,l[i]?=some x→l[i+1]?=some y→x.at_+2160≤y.at_)→∀(i j:Nat) (hij:i<j) (hj:j<l.length),l[i].at_+2160≤l[j].at_:=by
 intro l h i j hij hj;have h1:=h i l[i] l[i+1] (ai (by omega)) (ai (by omega))
 rcases Nat.lt_or_eq_of_le (show i+1≤j by omega)with h2 | h2
 ·have h3:=cB.1 (wG h) (i+1) j (by omega) hj h2
  unfold TLt at h3;omega
 ·subst h2;exact h1
end
section
section
variable{H:Heap}{z:ZD}{g:Tg}{o:List TrD}
end
section
variable{g:Tg}{o:List TrD}
theorem Kq(H:Heap){i:Nat}(hi:i<o.length):aO H 2 none (.c (.f (sl g (aY o)))) (vi i)=some (.c (.f (.fp (aY o).flatten (i*2)))):=by
 have:=iE (H:=H) (g:=g) (rows:=aY o) (sz:=2) (k:=.i64) (i:=(i:Int)) (by omega) (by simp;omega)
 simpa using this
theorem aDW(H:Heap){i:Nat}(hi:i<o.length):ldV H none (.c (.f (.fp (aY o).flatten (i*2))))=some (vi o[i].at_):=nN (eG o) (gI (ai hi)) rfl
theorem aEv(H:Heap){i:Nat}(hi:i<o.length):ldV H (some 2) (.c (.f (.fp (aY o).flatten (i*2))))=some (.a (o[i].row.map .f)):=nM (eG o) (gI (ai hi))
end
end
section
end
section
section
variable{z:ZD}{o:List TrD}
end
end
section
end
section
theorem aIf{H:Heap}{b fl:Nat}{z:ZD}(h:H[b]?=some (.box (z.row.map .f) fl))(hc:z.c<3):∃ cs,ldV H none (.c (.ptr b 1 0))=some (.c (.f (.fs cs 2))):=by
 obtain⟨c,s,tg,tr,h',yg,yr⟩:=z;have:c=0∨c=1∨c=2:=by simp at hc;omega
 rcases this with rfl | rfl | rfl<;>exact⟨_,by simp [ldV,aG,h,ZD.row,pO,aS];rfl⟩
end
section
end
section
end
section
end
end Go.Proofs.YtmbjejcfadllnaaGreat
