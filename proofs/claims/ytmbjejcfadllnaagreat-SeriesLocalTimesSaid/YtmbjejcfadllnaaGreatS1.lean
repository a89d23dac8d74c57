/-
  What the program's functions and the reference's answer, for all arguments of their kind, in the small machine: part 1.
-/
import Derived.Test.YtmbjejcfadllnaaGreatTabB
import Derived.Test.YtmbjejcfadllnaaGreatK5
import Derived.Test.YtmbjejcfadllnaaGreatK4
import Derived.KernelRfl
open List renaming getElem_append → et, getElem_map → dm, map_cons → aM, length_append → bp, length_singleton → db, length_map → cF, mem_append → cA, mem_cons → cG, mem_filter → du, pairwise_cons → dj, length_cons → b7, mem_of_mem_take → dC, pairwise_singleton → dc, length_pos_iff → cN, take_append_drop → cM, take_length → cm, drop_eq_getElem_cons → bR, mem_cons_self → bh, mem_cons_of_mem → bA, take_succ_eq_append_getElem → aR, ext_getElem → ea, getD_eq_getElem?_getD → bX, getElem?_eq_getElem → ae, getElem_of_mem → bq, getElem_mem → aw, pairwise_iff_getElem → bL, all_eq_true → bi, map_set → ez, append_assoc → de, getElem?_append_left → ag, getElem?_append_right → bj, map_nil → ba, mem_map → cK, map_drop → ek, getElem?_set_self → az, getElem?_set_ne → am, take_of_length_le → bu, getElem?_eq_some_iff → ai, getElem?_cons_zero → cV, append_nil → df
open Bool renaming false_eq_true → aE
open Nat renaming le_refl → ax, eq_of_beq_eq_true → dq, le_trans → bw, zero_add → cR, eq_zero_or_pos → cB, le_of_ble_eq_true → da
open Int renaming toNat_natCast → bO, emod_nonneg → cq, emod_lt_of_pos → cr, le_refl → dl
open Option renaming bind_some → bE, map_some → cw
set_option linter.unusedVariables false
set_option linter.unusedSimpArgs false
set_option linter.unusedSectionVars false
set_option linter.unnecessarySimpa false
set_option maxRecDepth 100000
namespace Go.Proofs.YtmbjejcfadllnaaGreat
open Go Km
section
theorem afR{a b:Int}(h:0≤a)(hb:0<b)(ha:a≤9223372036854775807):bW .quo (vi a) (vi b)=some (vi (a / b)):=by
 rw [JD (by omega),Int.tdiv_eq_ediv_of_nonneg h,wrap64 (Int.le_trans (by omega) (Int.ediv_nonneg h (by omega))) (Int.le_trans (Int.ediv_le_self _ h) ha)]
theorem wS{a b:Int}(h:0≤a)(hb:0<b):bW .rem (vi a) (vi b)=some (vi (a % b)):=by
 rw [vS (by omega),Int.tmod_eq_emod_of_nonneg h]
theorem yB(a:Int):Km.Pure tab.get Ew [vi a]=Eq (vb false):=(show Kf tab.get Ew [vi a] (vb false) by
 refine yw a0V rfl fun H Q hQ=>?_
 refine kw_sr ?_;simp;refine kw_sr ?_;simp;refine aH (hQ _ _ ?_)
 simp).eq
def rU(a b:Int):Int:=if a<b then -1 else if b<a then 1 else 0
theorem Q5(a b:Int):Kf tab.get Ho [vi a,vi b] (vi (rU a b)):=by
 refine yw a0X rfl fun H Q hQ=>?_
 refine kw_sr ?_;simp;refine kw_sr ?_;simp [yB];refine kw_sr ?_;simp [yB];refine kw_seq ?_;refine kw_sr ?_;simp;refine bD (by simp) ?_
 refine kw_seq ?_;refine kw_sr ?_;simp;refine bD (by simp) ?_
 refine kw_seq ?_;refine kw_sr ?_;simp;by_cases h:a<b
 ·refine aj (by simp [h]) ?_
  refine kw_sr ?_;simp;refine aH (hQ _ _ ?_);simp [rU,h]
 refine bD (by simp [h]) ?_
 refine kw_seq ?_;refine kw_sr ?_;simp;by_cases h':b<a
 ·refine aj (by simp [h']) ?_
  refine kw_sr ?_;simp;refine aH (hQ _ _ ?_);simp [rU,h,h']
 refine bD (by simp [h']) ?_
 refine kw_sr ?_;simp;refine aH (hQ _ _ ?_);simp [rU,h,h']
theorem xu(a b:Int):Km.Pure tab.get Ho [vi a,vi b]=Eq (vi (rU a b)):=(Q5 a b).eq
theorem uQ{a b:Int}:rU a b<0↔a<b:=by unfold rU;split<;>(try split)<;>omega
theorem vP{a b:Int}:rU a b=0↔a=b:=by unfold rU;split<;>(try split)<;>omega
structure TrD where
 at_:Int
 off:Int
def TrD.row(x:TrD):List FC:=[fi x.at_,fi x.off]
def aS(l:List TrD):List (List FC):=l.map TrD.row
@[simp] theorem qp (l:List TrD):(aS l).length=l.length:=by simp [aS]
theorem dD(l:List TrD):Grid 2 (aS l):=Grid.map fun _=>rfl
structure YrD where
 mo:Int
 wk:Int
 wd:Int
 mi:Int
 off:Int
def YrD.row(x:YrD):List FC:=[fi x.mo,fi x.wk,fi x.wd,fi x.mi,fi x.off]
def bV(l:List YrD):List (List FC):=l.map YrD.row
@[simp] theorem aPv (l:List YrD):(bV l).length=l.length:=by simp [bV]
theorem oz(l:List YrD):Grid 5 (bV l):=Grid.map fun _=>rfl
theorem FD{l:List YrD}{j:Nat}(hj:j<l.length):(bV l)[j]?=some l[j].row:=by simp [bV,hj]
structure a6T where
 ep:Int
 mo:FC
 le:Int
 ru:FC
structure a0f where
 cal:a6T
 start:Int
 tg:Tg
 tr:List TrD
 hor:Int
 yg:Tg
 yr:List YrD
structure a9o where
 z:a0f
 lg:Tg
 l:List TrD
 cyc:Int
theorem Ir(m:Int):unV .neg (.c (.f (.int .i64 m)))=some (vi (IntKind.i64.wrap (0-m))):=rfl
theorem Vu(n m:Int)(h0:0≤m)(h1:m≤4611686018427387904):Km.Pure tab.get oh [vi n,vi m]=Eq (vb (decide (-m≤n)&&decide (n≤m))):=Km.Pure.eq (by
 refine bU aUn rfl fun Q hQ=>?_
 refine kw_sr ?_;simp;by_cases h:-m≤n
 ·refine kw_sr ?_;simp [Ir,wrap64 (n:=-m) (by omega) (by omega),h]
  refine aH (hQ _ _ ?_);simp [h]
 ·refine kw_sr ?_;simp [Ir,wrap64 (n:=-m) (by omega) (by omega),h]
  refine aH (hQ _ _ ?_)
  simp [h])
end
section
structure bH where
 k:Int
 cal:Int
 l:Int
 r:Int
 n:Int
 m:Int
 li:List Int
def gK(k:Int):Nat:=if 8≤k∧k≤10∨k=17 then 2 else if 11≤k∧k≤16 then 1 else 0
structure Ris(l:List Int)(lo hi:Int)(zero:Bool):Prop where
 ne:l≠[]
 pw:l.Pairwise (· < ·)
 bd:∀ x ∈ l,lo≤x∧x≤hi∧(zero=false→x≠0)
def eU(k cal l n m:Int)(li:List Int):Prop:=
 (k=1∧cal=0∧li=[]∧1≤n∧n≤9∧0≤m∧m≤11) ∨
 (k=2∧0≤cal∧cal≤1∧li=[]∧1≤n∧n≤4∧0≤m∧m<n) ∨
 (k=3∧0≤cal∧cal≤1∧Ris li 1 4 true∧n=0∧m=0) ∨
 (k=4∧0≤cal∧cal≤1∧Ris li (-3) 6 false∧n=0∧m=0) ∨
 (k=5∧cal=0∧Ris li 0 6 true∧n=0∧m=0) ∨
 (k=6∧0≤cal∧cal≤1∧Ris li 1 5 true∧n=0∧m=0) ∨
 (k=7∧0≤cal∧cal≤1∧li=[]∧(n=1∨n=2∨n=3∨-3≤n∧n≤-1)∧0≤m∧m≤6∧0≤l∧l≤1) ∨
 ((k=8∨k=9∨k=10)∧cal=0∧li=[]∧n=0∧m=0) ∨
 (k=11∧cal=0∧li=[]∧-11≤n∧n≤11∧m=0) ∨
 ((k=12∨k=13)∧cal=0∧li=[]∧0≤n∧n≤1099511627776∧m=0) ∨
 ((k=14∨k=15)∧cal=0∧Ris li 0 60 true∧n=0∧m=0) ∨
 (k=16∧0≤cal∧cal≤1∧Ris li (-3) 4 false∧n=0∧0≤m∧m≤1) ∨
 (k=17∧cal=0∧li=[]∧1≤n∧n≤3∧m=0)
def bH.OK(x:bH):Prop:=x.li.length≤61∧eU x.k x.cal x.l x.n x.m x.li
def bH.shift(d:Nat)(x:bH):bH:=⟨x.k,x.cal,if 1≤gK x.k then x.l+d else x.l,if gK x.k=2 then x.r+d else x.r,x.n,x.m,x.li⟩
inductive Good:List bH→Prop
 | leaf {x:bH}:x.OK→gK x.k=0→(x.k≠7→x.l=0)→x.r=0→Good [x]
 | un {a:List bH} {x:bH}:Good a→x.OK→gK x.k=1→x.l=(a.length:Int)-1→x.r=0→Good (a++[x])
 | bin {a b:List bH} {x:bH}:Good a→Good b→x.OK→gK x.k=2→x.l=(a.length:Int)-1→x.r=(a.length:Int)+b.length-1→Good (a++b.map (bH.shift a.length)++[x])
theorem Good.pos{r:List bH}(h:Good r):0<r.length:=by cases h<;>simp<;>omega
theorem vI(k:Int):gK k≤2:=by unfold gK;split<;>(try split)<;>omega
structure rW(i:Nat)(x:bH):Prop where
 ok:x.OK
 l1:1≤gK x.k→0≤x.l∧x.l<i
 l0:gK x.k=0→x.k≠7→x.l=0
 r2:gK x.k=2→0≤x.r∧x.r<i
 r0:gK x.k≤1→x.r=0
theorem rW.shift{i:Nat}{x:bH}(h:rW i x)(d:Nat):rW (d+i) (x.shift d):=by
 have ok:=h.ok;refine⟨⟨ok.1,?_⟩,fun h1=>?_,fun h1 h2=>?_,fun h1=>?_,fun h1=>?_⟩
 ·have h2:=ok.2;unfold bH.shift;simp only;split
  ·unfold eU at h2 ⊢;rename_i h3;rcases h2 with h2 | h2 | h2 | h2 | h2 | h2 | h2 | h2
   ·exact .inl h2
   ·exact .inr (.inl h2)
   ·exact .inr (.inr (.inl h2))
   ·exact .inr (.inr (.inr (.inl h2)))
   ·exact .inr (.inr (.inr (.inr (.inl h2))))
   ·exact .inr (.inr (.inr (.inr (.inr (.inl h2)))))
   ·exfalso;rw [h2.1]at h3;simp [gK]at h3
   ·exact .inr (.inr (.inr (.inr (.inr (.inr (.inr h2))))))
  ·exact h2
 ·have:=h.l1 h1;unfold bH.shift;simp only [if_pos (show 1≤gK x.k from h1)]
  omega
 ·have h3:gK x.k=0:=h1;unfold bH.shift;simp only [h3,show¬ 1≤0 by decide,if_false]
  exact h.l0 h3 h2
 ·have h3:gK x.k=2:=h1;have:=h.r2 h3;unfold bH.shift;simp only [h3,if_true];omega
 ·have h3:gK x.k≤1:=h1;unfold bH.shift;simp only [if_neg (show¬ gK x.k=2 by omega)]
  exact h.r0 h3
theorem Good.at_{r:List bH}(h:Good r):∀(i:Nat) (hi:i<r.length),rW i r[i]:=by
 induction h with
 | leaf ok o l r0=>
  intro i hi;simp at hi;subst hi
  exact⟨ok,fun h=>by simp [o]at h,fun _=>l,fun h=>by simp [o]at h,fun _=>r0⟩
 | @un a x ha ok o l r0 ih=>
  intro i hi;have hp:=ha.pos;rw [et];split
  ·exact ih i _
  ·have:i=a.length:=by simp at hi;omega
   subst this;simp
   exact⟨ok,fun _=>by omega,fun h=>by omega,fun h=>by omega,fun _=>r0⟩
 | @bin a b x ha hb ok o l r iha ihb=>
  intro i hi;have hp:=ha.pos;have hq:=hb.pos;rw [et];split
  ·rename_i h1;rw [et];split
   ·exact iha i _
   ·rename_i h2;simp at h1;rw [dm];have h3:=(ihb (i-a.length) (by omega)).shift a.length
    rwa [show a.length+(i-a.length)=i by omega]at h3
  ·rename_i h1;simp at hi h1;have:i=a.length+b.length:=by omega
   subst this;simp;exact⟨ok,fun _=>by omega,fun h=>by omega,fun _=>by omega,fun h=>by omega⟩
def Bg(x:bH)(k:Int):Nat:=(if 1≤gK x.k∧x.l=k then 1 else 0)+(if gK x.k=2∧x.r=k then 1 else 0)
def jD:List bH→Int→Nat
 | [],_=>0
 | x::l,k=>Bg x k+jD l k
theorem ny(a b:List bH)(k:Int):jD (a++b) k=jD a k+jD b k:=by
 induction a with
 | nil=>simp [jD]
 | cons x a ih=>simp only [List.cons_append,jD,ih];omega
theorem PL(x:bH)(d:Nat)(k:Int):Bg (x.shift d) k=Bg x (k-d):=by
 unfold Bg bH.shift;simp only;have h:=vI x.k;by_cases h2:gK x.k=2
 ·simp only [h2,show 1≤2 by decide,true_and,if_true]
  congr 1<;>(congr 1;rw [eq_iff_iff];omega)
 ·by_cases h1:1≤gK x.k
  ·simp only [h1,h2,true_and,false_and,if_true,if_false]
   congr 1;congr 1;rw [eq_iff_iff];omega
  ·simp only [h1,h2,false_and,if_false]
theorem Kv(b:List bH)(d:Nat)(k:Int):jD (b.map (bH.shift d)) k=jD b (k-d):=by
 induction b with
 | nil=>rfl
 | cons x b ih=>simp only [aM,jD,ih,PL]
theorem Good.uses{r:List bH}(h:Good r):∀ k:Int,jD r k=if 0≤k∧k+1<r.length then 1 else 0:=by
 induction h with
 | leaf ok o l r0=>intro k;simp [jD,Bg,o];omega
 | @un a x ha ok o l r0 ih=>
  intro k;have hp:=ha.pos;rw [ny,ih];simp only [jD,Bg,o,l,show 1≤1 by decide,show¬ 1=2 by decide,true_and,false_and,if_false,bp,db]
  split<;>split<;>split<;>omega
 | @bin a b x ha hb ok o l r iha ihb=>
  intro k;have hp:=ha.pos;have hq:=hb.pos;rw [ny,ny,Kv,iha,ihb];simp only [jD,Bg,o,l,r,show 1≤2 by decide,true_and,if_true,bp,db,cF]
  split<;>split<;>split<;>split<;>split<;>omega
end
section
structure bG where
 day:Int
 drop:Bool
 to:Int
 mi:Int
 le:Int
deriving DecidableEq
def bG.row(m:bG):List FC:=[fi m.day,.bool m.drop,fi m.to,fi m.mi,fi m.le]
def aY(l:List bG):List (List FC):=l.map bG.row
@[simp] theorem aHg (l:List bG):(aY l).length=l.length:=by simp [aY]
theorem dw(l:List bG):Grid 5 (aY l):=Grid.map fun _=>rfl
theorem iH{l:List bG}{j:Nat}(hj:j<l.length):(aY l)[j]?=some l[j].row:=by simp [aY,hj]
structure bG.OK(m:bG):Prop where
 day:0≤m.day∧m.day≤1099511627776
 dr:m.drop=true→m.to=0∧m.mi=0∧m.le=0
 nd:m.drop=false→0≤m.to∧m.to≤1099511627776∧0≤m.mi∧m.mi≤1439∧1≤m.le∧m.le≤10080
def SortM(l:List bG):Prop:=l.Pairwise fun a b=>a.day<b.day
def ovr(l:List bG)(m:bG):List bG:=l.filter (fun x=>decide (x.day<m.day))++m::l.filter (fun x=>decide (m.day<x.day))
theorem Us{l:List bG}{m x:bG}(h:x ∈ ovr l m):x=m∨x ∈ l:=by
 simp only [ovr,cA,cG,du]at h;rcases h with h | h | h
 ·exact .inr h.1
 ·exact .inl h
 ·exact .inr h.1
theorem Qj{l:List bG}{m:bG}(h:SortM l):SortM (ovr l m):=by
 unfold SortM ovr;rw [List.pairwise_append];refine⟨h.filter _,dj.2 ⟨fun x hx=>?_,h.filter _⟩,fun a ha b hb=>?_⟩
 ·have:=(du.1 hx).2;simpa using this
 ·have h1:a.day<m.day:=by simpa using (du.1 ha).2
  rcases cG.1 hb with rfl | hb
  ·exact h1
  ·have h2:m.day<b.day:=by simpa using (du.1 hb).2
   omega
theorem Ut{l:List bG}{m:bG}(h:SortM l):(ovr l m).length≤l.length+1:=by
 unfold ovr;simp only [bp,b7]
 have:∀ l:List bG,(l.filter (fun x=>decide (x.day<m.day))).length+(l.filter (fun x=>decide (m.day<x.day))).length≤l.length:=by
  intro l
  induction l with
  | nil=>simp
  | cons x l ih=>
   simp only [List.filter_cons];by_cases h1:x.day<m.day
   ·simp only [h1,decide_true,if_true,show¬ m.day<x.day by omega,decide_false,aE,if_false,b7];omega
   ·by_cases h2:m.day<x.day
    ·simp only [h1,h2,decide_true,if_true,decide_false,aE,if_false,b7];omega
    ·simp only [h1,h2,decide_false,aE,if_false,b7];omega
 have:=this l;omega
def eH(l:List bG)(d:Int):Option bG:=l.find? fun x=>decide (x.day=d)
end
section
def nN(gap fold lo:Int)(l:List Int)(e b:Int):List Int:=
 if l=[]then(if gap=0 then []else if gap=1 then [lo-b]else [e])
 else if fold=0 then l.take 1 else if fold=1 then l.drop (l.length-1)else l
theorem Ll{gap fold lo:Int}{l:List Int}{e b a:Int}(hl:l≠[])(h:a ∈ nN gap fold lo l e b):a ∈ l:=by
 unfold nN at h;rw [if_neg hl]at h;split at h
 ·exact dC h
 ·split at h
  ·exact List.mem_of_mem_drop h
  ·exact h
theorem aE1{gap fold lo:Int}{l:List Int}{e b:Int}(hl:l.Pairwise (· < ·)):(nN gap fold lo l e b).Pairwise (· < ·):=by
 unfold nN;split
 ·split
  ·exact List.Pairwise.nil
  ·split<;>exact dc _ _
 ·split
  ·exact hl.sublist (List.take_sublist _ _)
  ·split
   ·exact hl.sublist (List.drop_sublist _ _)
   ·exact hl
theorem FW{gap fold lo:Int}{e b:Int}:(nN gap fold lo [] e b).length=if gap=0 then 0 else 1:=by
 unfold nN;rw [if_pos rfl];split
 ·rfl
 ·split<;>rfl
theorem Lp{gap fold lo:Int}{l:List Int}{e b:Int}(hl:l≠[])(hf:0≤fold∧fold≤2):(nN gap fold lo l e b).length=if fold=2 then l.length else 1:=by
 have:=cN.2 hl;unfold nN;rw [if_neg hl];split
 ·rw [if_neg (by omega),List.length_take];omega
 ·split
  ·rw [if_neg (by omega),List.length_drop];omega
  ·rw [if_pos (by omega)]
end
section
def total(st:List (List bH)):Nat:=(st.map List.length).sum
theorem jQ(a b:List (List bH)):total (a++b)=total a+total b:=by simp [total]
theorem o8(a:List bH):total [a]=a.length:=by simp [total]
structure dO(st:List (List bH))(n:Nat):Prop where
 good:∀ r ∈ st,Good r
 tot:total st≤n
theorem dO.nil:dO [] 0:=⟨fun r h=>(by cases h),by simp [total]⟩
theorem dO.take{st:List (List bH)}{n:Nat}(h:dO st n)(k:Nat){d:Nat}(hd:total (st.drop k)≥d):dO (st.take k) (n-d):=by
 refine⟨fun r hr=>h.good r (dC hr),?_⟩
 have h1:=h.tot;have h2:total st=total (st.take k)+total (st.drop k):=by rw [←jQ,cM]
 omega
theorem dO.push{st:List (List bH)}{n m:Nat}(h:dO st n){r:List bH}(hr:Good r)(hm:n+r.length≤m):dO (st++[r]) m:=by
 refine⟨fun x hx=>?_,?_⟩
 ·rcases cA.1 hx with hx | hx
  ·exact h.good x hx
  ·simp at hx;subst hx;exact hr
 ·rw [jQ,o8];have:=h.tot;omega
theorem dO.leaf{st:List (List bH)}{n:Nat}(h:dO st n){r:List bH}(hr:Good r)(hl:r.length=1):dO (st.take st.length++[r]) (n+1):=by
 rw [cm];exact h.push hr (by omega)
theorem Ar{st:List (List bH)}(h:0<st.length):total (st.drop (st.length-1))=(st[st.length-1]'(by omega)).length:=by
 rw [bR (by omega),List.drop_of_length_le (by omega),o8]
theorem Ky{st:List (List bH)}(h:2≤st.length):total (st.drop (st.length-2))=(st[st.length-2]'(by omega)).length+(st[st.length-1]'(by omega)).length:=by
 have e:st.length-2+1=st.length-1:=by omega
 rw [bR (by omega),show st[st.length-2]::st.drop (st.length-2+1)=[st[st.length-2]]++st.drop (st.length-2+1) from rfl,jQ,o8,e,Ar (by omega)]
theorem dO.un{st:List (List bH)}{n:Nat}(h:dO st n)(h0:0<st.length){r:List bH}(hr:Good r)(hl:r.length=(st[st.length-1]'(by omega)).length+1):dO (st.take (st.length-1)++[r]) (n+1):=by
 have h1:=Ar h0;have h3:total st=total (st.take (st.length-1))+total (st.drop (st.length-1)):=by rw [←jQ,cM]
 have h4:=h.tot;exact(h.take (st.length-1) (d:=total (st.drop (st.length-1))) (ax _)).push hr (by omega)
theorem dO.bin{st:List (List bH)}{n:Nat}(h:dO st n)(h0:2≤st.length){r:List bH}(hr:Good r)(hl:r.length=(st[st.length-2]'(by omega)).length+(st[st.length-1]'(by omega)).length+1):dO (st.take (st.length-2)++[r]) (n+1):=by
 have h1:=Ky h0;have h3:total st=total (st.take (st.length-2))+total (st.drop (st.length-2)):=by rw [←jQ,cM]
 have h4:=h.tot;exact(h.take (st.length-2) (d:=total (st.drop (st.length-2))) (ax _)).push hr (by omega)
theorem dO.count{st:List (List bH)}{n:Nat}(h:dO st n):st.length≤n:=by
 have h1:=h.tot
 have:∀ st:List (List bH),(∀ r ∈ st,Good r)→st.length≤total st:=by
  intro st
  induction st with
  | nil=>intro _;simp
  | cons r st ih=>
   intro hg;have:=(hg r bh).pos;have:=ih fun x hx=>hg x (bA _ hx)
   rw [show r::st=[r]++st from rfl,jQ,o8,bp,db]
   omega
 have:=this st h.good;omega
theorem wO{st:List (List bH)}{i:Nat}(h:i<st.length):total (st.take (i+1))=total (st.take i)+st[i].length:=by
 rw [aR h,jQ,o8]
theorem wC(st:List (List bH))(i:Nat):total (st.take i)≤total st:=by
 have h3:total st=total (st.take i)+total (st.drop i):=by rw [←jQ,cM]
 omega
def CW(k:Nat):Nat:=if 8≤k∧k≤10∨k=17 then 2 else if 11≤k∧k≤16 then 1 else 0
def sF(k:Nat):Bool:=k=2||k=3||k=4||k=6||k=7||k=16
def KR(k:Nat):Int:=if k=3 then 1 else if k=4 then -40 else if k=6 then 1 else if k=16 then -400 else 0
def KT(k:Nat):Int:=if k=3 then 16 else if k=4 then 40 else if k=5 then 6 else if k=6 then 54 else if k=14∨k=15 then 1099511627776 else if k=16 then 400 else 0
theorem eU.k{k cal l n m:Int}{li:List Int}(h:eU k cal l n m li):1≤k∧k≤17:=by
 unfold eU at h;omega
def uV(lo hi:Int)(l:List Int):Prop:=if lo=0∧hi=0 then l=[]else l≠[]∧l.Pairwise (· < ·)∧∀ x ∈ l,lo≤x∧x≤hi∧(lo<0→x≠0)
theorem Ris.lis{l:List Int}{lo hi lo' hi':Int}{z:Bool}(h:Ris l lo hi z)(h1:lo'≤lo)(h2:hi≤hi')(h3:lo'<0→z=false)(h4:¬ (lo'=0∧hi'=0)):uV lo' hi' l:=by
 unfold uV;rw [if_neg h4];exact⟨h.ne,h.pw,fun x hx=>by have:=h.bd x hx;exact⟨by omega,by omega,fun hl=>this.2.2 (h3 hl)⟩⟩
theorem eU.lis{k cal l n m:Int}{li:List Int}(h:eU k cal l n m li):uV (KR k.toNat) (KT k.toNat) li:=by
 unfold eU at h;have nil:uV 0 0 []:=by unfold uV;simp
 rcases h with⟨rfl,h⟩ | ⟨rfl,h⟩ | ⟨rfl,h⟩ | ⟨rfl,h⟩ | ⟨rfl,h⟩ | ⟨rfl,h⟩ | ⟨rfl,h⟩ | ⟨h0,h⟩ | ⟨rfl,h⟩ | ⟨h0,h⟩ | ⟨h0,h⟩ | ⟨rfl,h⟩ | ⟨rfl,h⟩
 ·rw [h.2.1];exact nil
 ·rw [h.2.2.1];exact nil
 ·exact h.2.2.1.lis (by decide) (by decide) (by decide) (by decide)
 ·exact h.2.2.1.lis (by decide) (by decide) (by decide) (by decide)
 ·exact h.2.1.lis (by decide) (by decide) (by decide) (by decide)
 ·exact h.2.2.1.lis (by decide) (by decide) (by decide) (by decide)
 ·rw [h.2.2.1];exact nil
 ·rw [h.2.1];rcases h0 with rfl | rfl | rfl<;>exact nil
 ·rw [h.2.1];exact nil
 ·rw [h.2.1];rcases h0 with rfl | rfl<;>exact nil
 ·rcases h0 with rfl | rfl
  ·exact h.2.1.lis (by decide) (by decide) (by decide) (by decide)
  ·exact h.2.1.lis (by decide) (by decide) (by decide) (by decide)
 ·exact h.2.2.1.lis (by decide) (by decide) (by decide) (by decide)
 ·rw [h.2.1];exact nil
def GZ(k l n m:Int):Prop:=
 if k=1 then 1≤n∧n≤1099511627776∧0≤m∧m≤1099511627776
 else if k=2 then 1≤n∧n≤400∧0≤m∧m≤n-1
 else if k=7 then -60≤n∧n≤60∧n≠0∧0≤m∧m≤6∧0≤l∧l≤1
 else if k=11 then -1099511627776≤n∧n≤1099511627776∧m=0
 else if k=12∨k=13 then 0≤n∧n≤1099511627776∧m=0
 else if k=16 then n=0∧0≤m∧m≤1
 else if k=17 then 1≤n∧n≤400∧m=0
 else n=0∧m=0
theorem eU.num{k cal l n m:Int}{li:List Int}(h:eU k cal l n m li):GZ k l n m:=by
 unfold eU at h;unfold GZ;rcases h with⟨rfl,h⟩ | ⟨rfl,h⟩ | ⟨rfl,h⟩ | ⟨rfl,h⟩ | ⟨rfl,h⟩ | ⟨rfl,h⟩ | ⟨rfl,h⟩ | ⟨h0,h⟩ | ⟨rfl,h⟩ | ⟨h0,h⟩ | ⟨h0,h⟩ | ⟨rfl,h⟩ | ⟨rfl,h⟩
 ·simp;omega
 ·simp;omega
 ·simp;omega
 ·simp;omega
 ·simp;omega
 ·simp;omega
 ·simp;omega
 ·rcases h0 with rfl | rfl | rfl<;>simp<;>omega
 ·simp;omega
 ·rcases h0 with rfl | rfl<;>simp<;>omega
 ·rcases h0 with rfl | rfl<;>simp<;>omega
 ·simp;omega
 ·simp;omega
theorem eU.cal{k cal l n m:Int}{li:List Int}(h:eU k cal l n m li):0≤cal∧cal≤1∧(sF k.toNat=false→cal=0):=by
 unfold eU at h;rcases h with⟨rfl,h⟩ | ⟨rfl,h⟩ | ⟨rfl,h⟩ | ⟨rfl,h⟩ | ⟨rfl,h⟩ | ⟨rfl,h⟩ | ⟨rfl,h⟩ | ⟨h0,h⟩ | ⟨rfl,h⟩ | ⟨h0,h⟩ | ⟨h0,h⟩ | ⟨rfl,h⟩ | ⟨rfl,h⟩
 all_goals first | exact⟨by omega,by omega,fun _=>by omega⟩ | exact⟨by omega,by omega,fun e=>by simp [sF]at e⟩
theorem BI{k:Int}(h:1≤k):gK k=CW k.toNat:=by
 unfold gK CW;obtain⟨n,rfl⟩:∃ n:Nat,k=n:=⟨k.toNat,by omega⟩
 rw [bO];split<;>split<;>(try split)<;>(try split)<;>first | rfl | omega
end
section
def bK(r:List bH)(n:Nat):List Int:=(List.range n).map fun k:Nat=>(jD r (k:Int):Int)
@[simp] theorem aVf (r:List bH) (n:Nat):(bK r n).length=n:=by simp [bK]
theorem jm{r:List bH}{n k:Nat}(h:k<n):(bK r n)[k]'(by simpa using h)=jD r (k:Int):=by simp [bK]
theorem FN(n:Nat):bK [] n=List.replicate n 0:=by
 refine ea (by simp) fun k h1 h2=>?_
 rw [jm (by simpa using h1)];simp [jD]
def uH(U:List Int)(k:Int):List Int:=U.set k.toNat (U.getD k.toNat 0+1)
@[simp] theorem aYK (U:List Int) (k:Int):(uH U k).length=U.length:=by simp [uH]
theorem DN{U:List Int}{k:Int}(h0:0≤k){j:Nat}(hj:j<U.length):(uH U k)[j]'(by simpa using hj)=U[j]+(if k=j then 1 else 0):=by
 simp only [uH,List.getElem_set];by_cases h:k.toNat=j
 ·subst h;rw [if_pos rfl,if_pos (by omega),bX,ae hj];rfl
 ·rw [if_neg h,if_neg (by omega),Int.add_zero]
theorem PI{r:List bH}{x:bH}{n:Nat}(h:gK x.k=0):bK (r++[x]) n=bK r n:=by
 refine ea (by simp) fun k h1 h2=>?_
 rw [jm (by simpa using h1),jm (by simpa using h1),ny]
 simp [jD,Bg,h]
theorem PG{r:List bH}{x:bH}{n:Nat}(h:gK x.k=1)(hl:0≤x.l):bK (r++[x]) n=uH (bK r n) x.l:=by
 refine ea (by simp) fun k h1 h2=>?_
 rw [jm (by simpa using h1),DN hl (by simpa using h1),jm (by simpa using h1),ny]
 simp only [jD,Bg,h,show 1≤1 by decide,show¬ 1=2 by decide,true_and,false_and,if_false]
 split<;>omega
theorem PE{r:List bH}{x:bH}{n:Nat}(h:gK x.k=2)(hl:0≤x.l)(hr:0≤x.r):bK (r++[x]) n=uH (uH (bK r n) x.l) x.r:=by
 refine ea (by simp) fun k h1 h2=>?_
 rw [jm (by simpa using h1),DN hr (by simpa using h1),DN hl (by simpa using h1),jm (by simpa using h1),ny]
 simp only [jD,Bg,h,show 1≤2 by decide,true_and,if_true]
 split<;>split<;>omega
theorem Good.bK{r:List bH}(h:Good r):∀ x ∈ (bK r r.length).take (r.length-1),x=1:=by
 intro x hx;obtain⟨k,hk,rfl⟩:=bq hx;simp at hk;rw [List.getElem_take,jm (by omega),h.uses k,if_pos (by omega)]
 rfl
theorem Kw(r:List bH)(n k:Nat)(h:k<n):0≤(bK r n)[k]'(by simpa using h)∧(bK r n)[k]'(by simpa using h)≤2*r.length:=by
 rw [jm h]
 have:∀ r:List bH,jD r (k:Int)≤2*r.length:=by
  intro r
  induction r with
  | nil=>simp [jD]
  | cons x r ih=>
   have:Bg x (k:Int)≤2:=by unfold Bg;split<;>split<;>omega
   simp only [jD,b7];omega
 have:=this r;omega
end
section
structure IsD where
 day:Int
 fr:Int
 to:Int
deriving DecidableEq
def IsD.row(x:IsD):List FC:=[fi x.day,fi x.fr,fi x.to]
def fQ(l:List IsD):List (List FC):=l.map IsD.row
@[simp] theorem aSV (l:List IsD):(fQ l).length=l.length:=by simp [fQ]
theorem lH(l:List IsD):Grid 3 (fQ l):=Grid.map fun _=>rfl
theorem zI{l:List IsD}{j:Nat}(hj:j<l.length):(fQ l)[j]?=some l[j].row:=by simp [fQ,hj]
structure aT where
 d:bH
 tg:Tg
def Iz:ByteArray:=⟨#[]⟩
def aT.row(x:aT):List FC:=[fi x.d.k,fi x.d.cal,fi x.d.l,fi x.d.r,fi x.d.n,fi x.d.m,sl x.tg (ints x.d.li),.str Iz]
def aI(l:List aT):List (List FC):=l.map aT.row
@[simp] theorem xX (l:List aT):(aI l).length=l.length:=by simp [aI]
theorem iV(l:List aT):Grid 8 (aI l):=Grid.map fun _=>rfl
theorem uo{l:List aT}{j:Nat}(hj:j<l.length):(aI l)[j]?=some l[j].row:=by simp [aI,hj]
@[simp] theorem aHd (l:List aT):(aI l).isEmpty=l.isEmpty:=by cases l<;>rfl
abbrev dat(l:List aT):List bH:=l.map aT.d
structure dn where
 rg:Tg
 ru:List aT
 mi:Int
 le:Int
 zo:ByteArray
 gap:Int
 fold:Int
 mg:Tg
 mv:List bG
def dn.row(s:dn):List FC:=[sl s.rg (aI s.ru),fi s.mi,fi s.le,.str s.zo,fi s.gap,fi s.fold,sl s.mg (aY s.mv)]
abbrev dn.v(s:dn):V:=.a (s.row.map .f)
structure dn.OK(s:dn):Prop where
 ru:Good (dat s.ru)
 rl:s.ru.length≤64
 mi:0≤s.mi∧s.mi≤1439
 le:1≤s.le∧s.le≤10080
 zo:1≤s.zo.size∧s.zo.size≤32
 gap:0≤s.gap∧s.gap≤2
 fold:0≤s.fold∧s.fold≤2
 ml:s.mv.length≤64
 ms:SortM s.mv
 mo:∀ m ∈ s.mv,m.OK
def dn.at_(s:dn)(d:Int):Int:=match eH s.mv d with
 | none=>d*1440+s.mi
 | some m=>m.to*1440+m.mi
def dn.long(s:dn)(d:Int):Int:=match eH s.mv d with
 | none=>s.le
 | some m=>m.le
def dn.dropped(s:dn)(d:Int):Bool:=match eH s.mv d with
 | none=>false
 | some m=>m.drop
end
section
theorem fP(n lo hi:Int):Km.Pure tab.get lQ [vi n,vi lo,vi hi]=Eq (vb (decide (lo≤n∧n≤hi))):=Km.Pure.eq (by
 refine bU a0h rfl fun Q hQ=>?_
 refine kw_sr ?_;simp;refine kw_sr ?_;by_cases h:lo≤n
 ·simp [h];exact aH (hQ _ _ (by simp [h]))
 ·simp [h];exact aH (hQ _ _ (by simp [h])))
def kL(k:Nat):List FC:=[fi (CW k),.bool (sF k),fi (KR k),fi (KT k)]
def nI:List FC:=((List.range 19).map kL).flatten
theorem zu:Km.Pure tab.get Va []=Eq (.a (nI.map .f)):=Km.Pure.eq (aQ (m:=60) (d:=10) (by kernel_rfl))
theorem Wv(g:Tg)(l:List Int)(lo hi:Int)(h:uV lo hi l)(hl:l.length≤9223372036854775807):Km.Pure tab.get Vb [.c (.f (sl g (ints l))),.a [.f (fi lo),.f (fi hi)]]=Eq (vb true):=Km.Pure.eq (by
 refine bU a0l rfl fun Q hQ=>?_
 refine kw_sr ?_;simp;refine kw_seq (kw_sr ?_);unfold uV at h;by_cases h0:lo=0∧hi=0
 ·rw [if_pos h0]at h;obtain⟨rfl,rfl⟩:=h0;subst h;simp [eqV];refine aj (by simp) ?_
  refine kw_sr ?_;simp;exact aH (hQ _ _ (by simp))
 rw [if_neg h0]at h;obtain⟨hne,hpw,hb⟩:=h
 have h00:(lo == 0&&hi == 0)=false:=by
  rw [Bool.eq_false_iff];intro e;simp at e;exact h0 e
 simp [eqV,h00];refine bD (by simp) ?_
 have hpos:=cN.2 hne;refine kw_seq (kw_sr ?_);simp;refine kV l.length (fun j t H=>t.g 0=.c (.f (sl g (ints l)))∧t.g 13=.c (.f (sl g (ints l)))∧t.g 3=.c (.ptr 0 0 0)∧H[0]?=some (.box [.f (fi lo),.f (fi hi)] 0)) hl (by decide) (by decide) (by simp) (by simp) ⟨by simp,by simp,by simp,rfl⟩ ?_ ?_
 ·rintro j t H hj ⟨g0,g13,g3,hH⟩ ha hb' next;obtain⟨b1,b2,b3⟩:=hb _ (aw hj);obtain⟨x,hx⟩:∃ x,x=l[j]:=⟨_,rfl⟩;rw [←hx]at b1 b2 b3;refine aB (kw_sr ?_);simp [g13,ha,iq,hj,rJ];rw [←hx];refine kw_sr ?_;have e1:ldV H none (.c (.ptr 0 0 0))=some (vi lo):=by simp [ldV,hH,aF,aO]
  have e2:ldV H none (.c (.ptr 0 1 0))=some (vi hi):=by simp [ldV,hH,aF,aO]
  have b12:decide (lo≤x∧x≤hi)=true:=decide_eq_true ⟨b1,b2⟩;simp [g3,e1,e2,-ak,fP,b12]
  have fin:∀ t:T,t.g 0=.c (.f (sl g (ints l)))→t.g 13=.c (.f (sl g (ints l)))→t.g 3=.c (.ptr 0 0 0)→t.g 15=vi j→t.g 14=vi l.length→t.g 48=vb false→WP tab.get Vb none [.code N8,.inBlock 1,.code N7,.inLoop N9,.inBlock 0,.code NZ] ⟨t,[],H⟩ Q:=by
   intro t g0 g13 g3 g15 g14 g48;refine ah g48 (aG ?_);exact au (next _ _ ⟨by simp [g0],by simp [g13],by simp [g3],hH⟩ (by simp [g15]) (by simp [g14]))
  have hlo:x=0→¬ lo<0:=fun e h=>b3 h e
  by_cases hj0:j=0
  ·subst hj0;simp;by_cases hx0:x=0
   ·have:=hlo hx0;simp [hx0,g3,e1,-ak,this];exact fin _ (by simp [g0]) (by simp [g13]) (by simp [g3]) (by simp [ha]) (by simp [hb']) (by simp)
   ·simp [hx0];exact fin _ (by simp [g0]) (by simp [g13]) (by simp [g3]) (by simp [ha]) (by simp [hb']) (by simp)
  ·have hw:IntKind.i64.wrap ((j:Int)-1)=((j-1:Nat):Int):=by rw [wrap64 (by omega) (by omega)];omega
   have hlt:l[j-1]<x:=by rw [hx];exact bL.1 hpw (j-1) j (by omega) hj (by omega)
   have hj1:j-1<l.length:=by omega
   have hii:∀ H,aP H 1 none (.c (.f (sl g (ints l)))) (vi ((j-1:Nat):Int))=some (.c (.f (.fp (ints l).flatten (j-1)))):=fun H=>by
    have:=iq (H:=H) (g:=g) (rows:=ints l) (sz:=1) (k:=.i64) (i:=((j-1:Nat):Int)) (by omega) (by simp;omega)
    simpa using this
   simp [show 0<j by omega,g0,hw,hii,rJ hj1,show¬ x≤l[j-1] by omega]
   by_cases hx0:x=0
   ·have:=hlo hx0;simp [hx0,g3,e1,-ak,this];exact fin _ (by simp [g0]) (by simp [g13]) (by simp [g3]) (by simp [ha]) (by simp [hb']) (by simp)
   ·simp [hx0];exact fin _ (by simp [g0]) (by simp [g13]) (by simp [g3]) (by simp [ha]) (by simp [hb']) (by simp)
 ·rintro t H ⟨g0,g13,g3,hH⟩ ha hb';refine kw_sr ?_;simp [g0,hpos]
  exact aH (hQ _ _ (by simp)))
theorem IZ(x:aT)(h:GZ x.d.k x.d.l x.d.n x.d.m):Km.Pure tab.get Nz [.a (x.row.map .f)]=Eq (vb true):=Km.Pure.eq (by
 obtain⟨⟨k,cal,l,r,n,m,li⟩,tg⟩:=x;simp only [GZ]at h;refine bU a0k rfl fun Q hQ=>?_
 have ret:∀ t H,t.g 2=vb true→WP tab.get Nz none [.code .ret,.inBlock 0,.code EG] ⟨t,[],H⟩ Q:=fun t H h2=>aH (hQ _ _ (by simp [h2]))
 refine kw_sr ?_;simp [aT.row];refine kw_seq (kw_sr ?_);simp;refine aB (kw_sr ?_);simp;by_cases c1:k=1
 ·rw [if_pos c1]at h;refine aj (by simp [c1]) (kw_sr ?_)
  simp [fP,h];exact ret _ _ (by simp)
 rw [if_neg c1]at h;refine ah (by simp [c1]) (kw_sr ?_)
 simp;by_cases c2:k=2
 ·rw [if_pos c2]at h;refine aj (by simp [c2]) (kw_sr ?_)
  simp [fP,h,wrap64 (n:=n-1) (by omega) (by omega)]
  exact ret _ _ (by simp)
 rw [if_neg c2]at h;refine ah (by simp [c2]) (kw_sr ?_)
 simp;by_cases c7:k=7
 ·rw [if_pos c7]at h;refine aj (by simp [c7]) (kw_sr ?_)
  simp [fP,h];exact ret _ _ (by simp)
 rw [if_neg c7]at h;refine ah (by simp [c7]) (kw_sr ?_)
 simp;by_cases c11:k=11
 ·rw [if_pos c11]at h;refine aj (by simp [c11]) (kw_sr ?_)
  simp [fP,h];exact ret _ _ (by simp)
 rw [if_neg c11]at h;refine ah (by simp [c11]) (kw_seq (kw_sr ?_))
 simp
 have two:k=12∨k=13→∀ t,t.g 1=.c (.ptr 0 0 0)→t.g 58=vb true→WP tab.get Nz none [.code NY,.inBlock 0,.code EG] ⟨t,[],[.box ((aT.row ⟨⟨k,cal,l,r,n,m,li⟩,tg⟩).map .f) 0]⟩ Q:=by
  intro c t g1 g58;rw [if_pos c]at h;refine aj g58 (kw_sr ?_);simp [g1,aT.row,fP,h];exact ret _ _ (by simp)
 by_cases c12:k=12
 ·refine aj (by simp [c12]) (aG ?_)
  exact two (.inl c12) _ (by simp) (by simp [c12])
 refine ah (by simp [c12]) (kw_region (.inl rfl) ?_)
 simp;by_cases c13:k=13
 ·exact two (.inr c13) _ (by simp) (by simp [c13])
 rw [if_neg (by omega)]at h
 refine ah (by simp [c13]) (kw_sr ?_)
 simp;by_cases c16:k=16
 ·rw [if_pos c16]at h;refine aj (by simp [c16]) (kw_sr ?_)
  simp [fP,h];exact ret _ _ (by simp)
 rw [if_neg c16]at h;refine ah (by simp [c16]) (kw_sr ?_)
 simp;by_cases c17:k=17
 ·rw [if_pos c17]at h;refine aj (by simp [c17]) (kw_sr ?_)
  simp [fP,h];exact ret _ _ (by simp)
 rw [if_neg c17]at h;refine bD (by simp [c17]) ?_
 refine au (kw_sr ?_);simp [h]
 exact aH (hQ _ _ (by simp)))
end
section
def jV:Nat→List FC
 | 0=>[fi 2,.fs [fi 7,fi 6] 2,fi (-1),.aC]
 | k+1=>[fi 5,.fs [fi 7,fi 8] 2,fi 1,.fs [fi 2,fi (k:Nat),.bool true] 1]
def oQ(c y m:Nat):Nat:=match c,m with
 | 0,1=>7
 | 0,_=>6
 | _+1,1=>7
 | k+1,_=>if y % 2=k then 9 else 8
def zf(c y:Nat):Nat:=oQ c y 1+oQ c y 2
def aZp:Nat→Nat
 | 0=>1
 | _=>2
def lW:Nat→Nat
 | 0=>13
 | _=>31
abbrev oW(c:Nat):V:=.a ((jV c).map .f)
def isI(r:Option (V × Heap))(n:Nat):Bool:=match r with
 | some (.c (.f (.int .i64 (.ofNat k))),_)=>Nat.beq k n
 | _=>false
theorem DK{r:Option (V × Heap)}{n:Nat}(h:isI r n=true):r.map (·.1)=some (vi (n:Nat)):=by
 unfold isI at h;split at h
 ·rw [dq h];rfl
 ·cases h
theorem I7:((List.range 3).all fun c=>(List.range 14).all fun y=>(List.range 2).all fun m=>isI (CF tab.get 300 30 (.fn Xo) [oW c,vi ((y+1:Nat):Nat),vi ((m+1:Nat):Nat)] []) (oQ c (y+1) (m+1)))=true:=by kernel_rfl
theorem J8:((List.range 3).all fun c=>(List.range 14).all fun y=>isI (CF tab.get 300 30 (.fn aVc) [oW c,vi ((y+1:Nat):Nat)] []) (zf c (y+1)))=true:=by kernel_rfl
theorem Fe:((List.range 3).all fun c=>(List.range 14).all fun y=>(List.range 2).all fun m=>isI (CF tab.get 300 30 (.fn Hl) [oW c,vi ((y+1:Nat):Nat),vi ((m+1:Nat):Nat)] []) (oQ c (y+1) (m+1)))=true:=by kernel_rfl
theorem Ik:((List.range 3).all fun c=>(List.range 14).all fun y=>isI (CF tab.get 300 30 (.fn aic) [oW c,vi ((y+1:Nat):Nat)] []) (zf c (y+1)))=true:=by kernel_rfl
theorem fM{p:Nat→Bool}{n k:Nat}(h:(List.range n).all p=true)(hk:k<n):p k=true:=bi.1 h k (List.mem_range.2 hk)
theorem AL{c y m:Nat}(hc:c<3)(h1:1≤y)(h2:y≤14)(h3:1≤m)(h4:m≤2):Km.Pure tab.get Xo [oW c,vi (y:Nat),vi (m:Nat)]=Eq (vi (oQ c y m:Nat)):=by
 obtain⟨y,rfl⟩:∃ k,y=k+1:=⟨y-1,by omega⟩
 obtain⟨m,rfl⟩:∃ k,m=k+1:=⟨m-1,by omega⟩
 have h:=fM (fM (fM I7 hc) (show y<14 by omega)) (show m<2 by omega)
 exact(iG (DK h)).eq
theorem Pv{c y:Nat}(hc:c<3)(h1:1≤y)(h2:y≤14):Km.Pure tab.get aVc [oW c,vi (y:Nat)]=Eq (vi (zf c y:Nat)):=by
 obtain⟨y,rfl⟩:∃ k,y=k+1:=⟨y-1,by omega⟩
 have h:=fM (fM J8 hc) (show y<14 by omega)
 exact(iG (DK h)).eq
theorem xZ{c y m:Nat}(hc:c<3)(h1:1≤y)(h2:y≤14)(h3:1≤m)(h4:m≤2):Km.Pure tab.get Hl [oW c,vi (y:Nat),vi (m:Nat)]=Eq (vi (oQ c y m:Nat)):=by
 obtain⟨y,rfl⟩:∃ k,y=k+1:=⟨y-1,by omega⟩
 obtain⟨m,rfl⟩:∃ k,m=k+1:=⟨m-1,by omega⟩
 have h:=fM (fM (fM Fe hc) (show y<14 by omega)) (show m<2 by omega)
 exact(iG (DK h)).eq
theorem J9{c y:Nat}(hc:c<3)(h1:1≤y)(h2:y≤14):Km.Pure tab.get aic [oW c,vi (y:Nat)]=Eq (vi (zf c y:Nat)):=by
 obtain⟨y,rfl⟩:∃ k,y=k+1:=⟨y-1,by omega⟩
 have h:=fM (fM Ik hc) (show y<14 by omega)
 exact(iG (DK h)).eq
theorem Ku:((List.range 600).all fun k=>isI (CF tab.get 60 30 (.fn aIF) [vi ((k:Nat)-300)] []) (((k:Int)-300) % 7).toNat)=true:=by kernel_rfl
theorem Ce{n:Int}(h:-300≤n)(h':n<300):Km.Pure tab.get aIF [vi n]=Eq (vi (n % 7)):=by
 obtain⟨k,hk⟩:∃ k:Nat,(k:Int)-300=n:=⟨(n+300).toNat,by omega⟩
 have h1:=fM Ku (show k<600 by omega)
 have h2:=(iG (DK h1)).eq;rw [hk]at h2
 rwa [Int.toNat_of_nonneg (cq n (by omega))]at h2
theorem Fv{c:Nat}(hc:c<3):Km.Pure tab.get a09 [oW c]=Eq (vb true):=by
 have:c=0∨c=1∨c=2:=by omega
 rcases this with rfl | rfl | rfl<;>exact Km.Pure.eq (aQ (m:=300) (d:=30) (by kernel_rfl))
theorem Vx{c:Nat}(hc:c<3):Km.Pure tab.get aPp [oW c]=Eq (vb true):=by
 have:c=0∨c=1∨c=2:=by omega
 rcases this with rfl | rfl | rfl<;>exact Km.Pure.eq (aQ (m:=300) (d:=30) (by kernel_rfl))
theorem Fz{c:Nat}(hc:c<3):Km.Pure tab.get a1a [oW c]=Eq (.t [vi (aZp c:Nat),vi (lW c:Nat),vi 0]):=by
 have:c=0∨c=1∨c=2:=by omega
 rcases this with rfl | rfl | rfl<;>exact Km.Pure.eq (aQ (m:=300) (d:=30) (by kernel_rfl))
theorem WY{c:Nat}(hc:c<3):Km.Pure tab.get aPq [oW c]=Eq (.t [vi (aZp c:Nat),vi (lW c:Nat),vi 0]):=by
 have:c=0∨c=1∨c=2:=by omega
 rcases this with rfl | rfl | rfl<;>exact Km.Pure.eq (aQ (m:=300) (d:=30) (by kernel_rfl))
end
section
structure YrD.OK(x:YrD):Prop where
 mo:x.mo=1∨x.mo=2
 wk:x.wk=1∨x.wk=5
 wd0:0≤x.wd
 wd:x.wd≤6
 mi0:0≤x.mi
 mi:x.mi≤1439
 of0:-1080≤x.off
 of:x.off≤1080
def fmD(c y:Nat)(b:Int)(x:YrD):Int:=if x.mo=2 then b+oQ c y 1 else b
def mlD(c y:Nat)(x:YrD):Int:=oQ c y x.mo.toNat
def oV(fm ml wk wd:Int):Int:=if wk=5 then fm+ml-1-(fm+ml-1-wd) % 7 else fm+(wd-fm) % 7
def kM(fm ml wk wd:Int):Bool:=if wk=5 then decide (fm≤oV fm ml wk wd)else decide (oV fm ml wk wd<fm+ml)
theorem jM(c y m:Nat):oQ c y m≤9:=by unfold oQ;split<;>(try split)<;>omega
theorem yc(c y m:Nat):6≤oQ c y m:=by unfold oQ;split<;>(try split)<;>omega
theorem Px{c y:Nat}(hc:c<3)(hy:1≤y)(hy':y≤14){b:Int}(hb:0≤b)(hb':b≤260)(x:YrD)(hx:x.OK) :
  Km.Pure tab.get Rx [oW c,vi b,vi (y:Nat),.a (x.row.map .f)]=Eq (.t [vi (oV (fmD c y b x) (mlD c y x) x.wk x.wd),vb (kM (fmD c y b x) (mlD c y x) x.wk x.wd)]):=Km.Pure.eq (by
 obtain⟨hm,hw,w0,w6,-,-,-,-⟩:=hx;have e1:=AL hc hy hy' (m:=1) (by omega) (by omega)
 have e2:=AL hc hy hy' (m:=2) (by omega) (by omega)
 have k1:=jM c y 1;have k2:=jM c y 2;have hml:=jM c y x.mo.toNat;have a5A:=yc c y x.mo.toNat
 have e3:Km.Pure tab.get Xo [oW c,vi (y:Nat),vi x.mo]=Eq (vi (mlD c y x)):=by
  rcases hm with h | h
  ·unfold mlD;rw [h];exact e1
  ·unfold mlD;rw [h];exact e2
 have hq:mlD c y x=(oQ c y x.mo.toNat:Nat):=rfl;have hfm:b≤fmD c y b x∧fmD c y b x≤b+9:=by unfold fmD;split<;>omega
 generalize hF:fmD c y b x=fm at *;generalize hM:mlD c y x=ml at *;refine bU aUm rfl fun Q hQ=>?_
 refine kw_sr ?_;simp;refine kw_seq ?_;refine kw_sr ?_;simp;refine aB ?_
 have cl:∀ z:Blk,ldV [.box ((jV c).map .f) 0,z] (some 4) (.c (.ptr 0 0 0))=some (oW c):=by
  intro z;have:c=0∨c=1∨c=2:=by omega
  rcases this with rfl | rfl | rfl<;>rfl
 have ly:∀ z:Blk,ldV [z,.box [.f (fi x.mo),.f (fi x.wk),.f (fi x.wd),.f (fi x.mi),.f (fi x.off)] 0] none (.c (.ptr 1 0 0))=some (vi x.mo):=fun _=>rfl
 refine bM (fun n s=>∃(m:Nat) (t:T) (bm:Int),s=⟨t,[],[.box ((jV c).map .f) 0,.box (x.row.map .f) 0]⟩∧n=2-m∧(m=1∧bm=b∨m=2∧x.mo=2∧bm=b+(oQ c y 1:Nat))∧t.g 1=vi bm∧t.g 2=vi (y:Nat)∧t.g 4=.c (.ptr 0 0 0)∧t.g 7=.c (.ptr 1 0 0)∧t.g 10=vi (m:Nat)) 1
  ⟨1,_,b,rfl,rfl,.inl ⟨rfl,rfl⟩,by simp,by simp,by simp,by simp,by simp⟩ ?_
 rintro n s ⟨m,t,bm,rfl,rfl,hmb,g1,g2,g4,g7,g10⟩ ih;refine kw_seq ?_;refine kw_sr ?_;simp [g10,g7,YrD.row];by_cases hlt:(m:Int)<x.mo
 ·have m1:m=1:=by omega
  subst m1;have hbm:bm=b:=by omega
  subst hbm;refine aj (by simp;omega) (aG ?_)
  refine kw_seq ?_;refine aB ?_;refine kw_region (.inl rfl) ?_;have e1':Km.Pure tab.get Xo [oW c,vi (y:Nat),vi 1]=Eq (vi (oQ c y 1:Nat)):=e1;simp [g10,g1,g2,g4,cl,-ak,e1',wrap64 (n:=bm+(oQ c y 1:Nat)) (by omega) (by omega),YrD.row]
  refine au ?_;refine kw_region (.inl rfl) ?_;simp [g10];refine ih 0 _ (by omega) ⟨2,_,_,rfl,by omega,.inr ⟨rfl,by omega,rfl⟩,?_,?_,?_,?_,?_⟩<;>simp [g2,g4,g7,show IntKind.i64.wrap 2=2 from rfl]
 ·have hbf:bm=fm:=by
   rw [←hF];unfold fmD;rcases hmb with⟨rfl,rfl⟩ | ⟨rfl,h2,rfl⟩
   ·rw [if_neg (by omega)]
   ·rw [if_pos h2]
  subst hbf;refine ah (by simp;omega) ?_
  refine bC (k':=[.code Hq]) rfl ?_;refine kw_sr ?_;have hp:ml≤9:=by omega
  have hp0:6≤ml:=by omega
  simp [g1,g2,g4,g7,cl,ly,-ak,e3,wrap64 (n:=bm+ml) (by omega) (by omega)]
  refine kw_sr ?_;have q0:=cq (x.wd-bm) (show(7:Int)≠0 by omega)
  have q1:=cr (x.wd-bm) (show(0:Int)<7 by omega)
  simp [g1,g7,wrap64 (n:=x.wd-bm) (by omega) (by omega),Ce (n:=x.wd-bm) (by omega) (by omega),wrap64 (n:=bm+(x.wd-bm) % 7) (by omega) (by omega)]
  refine kw_seq ?_;refine kw_sr ?_;simp [g7];by_cases h5:x.wk=5
  ·refine aj (by simp [h5]) ?_
   have r0:=cq (bm+ml-1-x.wd) (show(7:Int)≠0 by omega)
   have r1:=cr (bm+ml-1-x.wd) (show(0:Int)<7 by omega)
   refine kw_sr ?_;simp [g7,wrap64 (n:=bm+ml-1) (by omega) (by omega),wrap64 (n:=bm+ml-1-x.wd) (by omega) (by omega),Ce (n:=bm+ml-1-x.wd) (by omega) (by omega),wrap64 (n:=bm+ml-1-(bm+ml-1-x.wd) % 7) (by omega) (by omega)]
   refine kw_sr ?_;simp [g1];refine aH (hQ _ _ ?_);simp [oV,kM,h5]
  ·have h1:x.wk=1:=by omega
   refine bD (by simp [h5]) ?_
   refine kw_sr ?_;simp [g7,h1,wrap64 (n:=(0:Int)) (by omega) (by omega),wrap64 (n:=bm+(x.wd-bm) % 7) (by omega) (by omega)]
   refine kw_sr ?_;simp;refine aH (hQ _ _ ?_)
   simp [oV,kM,h1])
end
section
theorem aH9{c y:Nat}(hc:c<3)(hy:1≤y)(hy':y≤14){b:Int}(hb:0≤b)(hb':b≤260)(x:YrD)(hx:x.OK) :
  Km.Pure tab.get Vl [oW c,vi b,vi (y:Nat),.a (x.row.map .f)]=Eq (.t [vi (if kM (fmD c y b x) (mlD c y x) x.wk x.wd then oV (fmD c y b x) (mlD c y x) x.wk x.wd else -1),vb (kM (fmD c y b x) (mlD c y x) x.wk x.wd)]):=Km.Pure.eq (by
 obtain⟨hm,hw,w0,w6,-,-,-,-⟩:=hx;have e1:=xZ hc hy hy' (m:=1) (by omega) (by omega)
 have e2:=xZ hc hy hy' (m:=2) (by omega) (by omega)
 have k1:=jM c y 1;have k2:=jM c y 2;have hml:=jM c y x.mo.toNat;have a5A:=yc c y x.mo.toNat
 have e3:Km.Pure tab.get Hl [oW c,vi (y:Nat),vi x.mo]=Eq (vi (mlD c y x)):=by
  rcases hm with h | h
  ·unfold mlD;rw [h];exact e1
  ·unfold mlD;rw [h];exact e2
 have hq:mlD c y x=(oQ c y x.mo.toNat:Nat):=rfl;have hfm:b≤fmD c y b x∧fmD c y b x≤b+9:=by unfold fmD;split<;>omega
 generalize hF:fmD c y b x=fm at *;generalize hM:mlD c y x=ml at *;refine bU a0y rfl fun Q hQ=>?_
 refine kw_sr ?_;simp;refine kw_sr ?_;simp;refine kw_seq ?_;refine kw_sr ?_;simp;refine aB ?_
 have cl:∀ z:Blk,ldV [.box ((jV c).map .f) 0,z] (some 4) (.c (.ptr 0 0 0))=some (oW c):=by
  intro z;have:c=0∨c=1∨c=2:=by omega
  rcases this with rfl | rfl | rfl<;>rfl
 have ly:∀ z:Blk,ldV [z,.box [.f (fi x.mo),.f (fi x.wk),.f (fi x.wd),.f (fi x.mi),.f (fi x.off)] 0] none (.c (.ptr 1 0 0))=some (vi x.mo):=fun _=>rfl
 refine bM (fun n s=>∃(m:Nat) (t:T) (bm:Int),s=⟨t,[],[.box ((jV c).map .f) 0,.box (x.row.map .f) 0]⟩∧n=2-m∧(m=1∧bm=b∨m=2∧x.mo=2∧bm=b+(oQ c y 1:Nat))∧t.g 10=vi bm∧t.g 2=vi (y:Nat)∧t.g 4=.c (.ptr 0 0 0)∧t.g 7=.c (.ptr 1 0 0)∧t.g 11=vi (m:Nat)) 1
  ⟨1,_,b,rfl,rfl,.inl ⟨rfl,rfl⟩,by simp,by simp,by simp,by simp,by simp⟩ ?_
 rintro n s ⟨m,t,bm,rfl,rfl,hmb,g1,g2,g4,g7,g10⟩ ih;refine kw_seq ?_;refine kw_sr ?_;simp [g10,g7,YrD.row];by_cases hlt:(m:Int)<x.mo
 ·have m1:m=1:=by omega
  subst m1;have hbm:bm=b:=by omega
  subst hbm;refine aj (by simp;omega) (aG ?_)
  refine kw_seq ?_;refine aB ?_;refine kw_region (.inl rfl) ?_;have e1':Km.Pure tab.get Hl [oW c,vi (y:Nat),vi 1]=Eq (vi (oQ c y 1:Nat)):=e1;simp [g10,g1,g2,g4,cl,-ak,e1',wrap64 (n:=bm+(oQ c y 1:Nat)) (by omega) (by omega),YrD.row]
  refine au ?_;refine kw_region (.inl rfl) ?_;simp [g10];refine ih 0 _ (by omega) ⟨2,_,_,rfl,by omega,.inr ⟨rfl,by omega,rfl⟩,?_,?_,?_,?_,?_⟩<;>simp [g2,g4,g7,show IntKind.i64.wrap 2=2 from rfl]
 have hbf:bm=fm:=by
  rw [←hF];unfold fmD;rcases hmb with⟨rfl,rfl⟩ | ⟨rfl,h2,rfl⟩
  ·rw [if_neg (by omega)]
  ·rw [if_pos h2]
 subst hbf;have hp:ml≤9:=by omega
 have hp0:6≤ml:=by omega
 refine ah (by simp;omega) ?_
 refine bC (k':=[.code Oi]) rfl ?_;refine kw_sr ?_;simp;refine kw_sr ?_;simp;refine kw_seq ?_;refine kw_sr ?_;simp [g1];refine aB ?_
 refine bM (fun n s=>∃(d cnt la:Int) (t:T),s=⟨t,[],[.box ((jV c).map .f) 0,.box [.f (fi x.mo),.f (fi x.wk),.f (fi x.wd),.f (fi x.mi),.f (fi x.off)] 0]⟩∧n=(bm+ml-d).toNat∧bm≤d∧d≤bm+ml∧0≤cnt∧cnt≤d-bm ∧
   (x.wk=1→cnt=0∧la = -1∧d≤bm+(x.wd-bm) % 7)∧(x.wk=5→la=if bm≤d-1-(d-1-x.wd) % 7 then d-1-(d-1-x.wd) % 7 else -1) ∧
   t.g 2=vi (y:Nat)∧t.g 4=.c (.ptr 0 0 0)∧t.g 7=.c (.ptr 1 0 0)∧t.g 10=vi bm∧t.g 12=vi cnt∧t.g 13=vi la∧t.g 14=vi d) ml.toNat
  ⟨bm,0,-1,_,rfl,by omega,dl _,by omega,by omega,by omega,fun _=>⟨rfl,rfl,by omega⟩,fun _=>(if_neg (by omega)).symm,by simp [g2],by simp [g4],by simp [g7],by simp [g1],by simp,by simp,by simp⟩ ?_
 clear ih;rintro n s ⟨d,cnt,la,t,rfl,rfl,d0,d1,c0,c1,hk1,hk5,g2,g4,g7,g10,g12,g13,g14⟩ ih;refine kw_seq ?_;refine kw_sr ?_;simp [g2,g4,g7,g10,g14,cl,ly,-ak,e3,wrap64 (n:=bm+ml) (by omega) (by omega)]
 by_cases hd:d<bm+ml
 case neg=>
  have hdd:d=bm+ml:=by omega
  subst hdd;refine ah (by simp) ?_
  refine bC (k':=[.code EH]) rfl ?_;rcases hw with hw | hw
  ·obtain⟨rfl,rfl,hk⟩:=hk1 hw;refine kw_sr ?_;simp [g13,g7,hw];refine aH (hQ _ _ ?_);have:kM bm ml 1 x.wd=false:=by simp [kM,oV];omega
   simp [hw,this]
  ·have hla:=hk5 hw;refine kw_sr ?_;simp [g13,g7,hw];refine aH (hQ _ _ ?_);by_cases h:bm≤bm+ml-1-(bm+ml-1-x.wd) % 7
   ·rw [if_pos h]at hla;have e:kM bm ml 5 x.wd=true:=by simp [kM,oV];omega
    have e':oV bm ml 5 x.wd=la:=by simp [oV,hla]
    simp [hw,e,e'];omega
   ·rw [if_neg h]at hla;have e:kM bm ml 5 x.wd=false:=by simp [kM,oV];omega
    simp [hw,e,hla]
 refine aj (by simp;omega) (aG ?_)
 refine kw_seq ?_;refine aB ?_;refine kw_sr ?_;have hr:bW .rem (vi d) (vi 7)=some (vi (d % 7)):=wS (by omega) (by omega)
 simp [g14,g7,hr];by_cases hit:d % 7=x.wd
 ·refine aj (by simp [hit]) ?_
  refine kw_sr ?_;simp [g12,wrap64 (n:=cnt+1) (by omega) (by omega)]
  refine kw_sr ?_;simp [g14];refine kw_seq ?_;rcases hw with hw | hw
  ·obtain⟨rfl,rfl,hk⟩:=hk1 hw;refine kw_region (.inl rfl) ?_;simp [g7,hw];refine aj (by simp) ?_
   refine kw_sr ?_;simp [g14];refine aH (hQ _ _ ?_);have e':oV bm ml 1 x.wd=d:=by simp [oV];omega
   have e:kM bm ml 1 x.wd=true:=by simp [kM,e',hd]
   simp [hw,e,e']
  ·have hla:=hk5 hw;refine kw_region (.inl rfl) ?_
   have nxt:∀ t:T,t.g 2=vi (y:Nat)→t.g 4=.c (.ptr 0 0 0)→t.g 7=.c (.ptr 1 0 0)→t.g 10=vi bm→t.g 12=vi (cnt+1)→t.g 13=vi d→t.g 14=vi d →
     WP tab.get Vl none [.code Og,.inLoop Oh,.inBlock 2,.code EH] ⟨t,[],[.box ((jV c).map .f) 0,.box [.f (fi x.mo),.f (fi 5),.f (fi x.wd),.f (fi x.mi),.f (fi x.off)] 0]⟩ Q:=by
    intro t g2 g4 g7 g10 g12 g13 g14;have eh:([.box ((jV c).map .f) 0,.box [.f (fi x.mo),.f (fi 5),.f (fi x.wd),.f (fi x.mi),.f (fi x.off)] 0]:Heap)=[.box ((jV c).map .f) 0,.box [.f (fi x.mo),.f (fi x.wk),.f (fi x.wd),.f (fi x.mi),.f (fi x.off)] 0]:=by rw [hw]
    rw [eh];refine kw_region (.inl rfl) ?_;simp [g14,wrap64 (n:=d+1) (by omega) (by omega)]
    refine ih _ _ ?_ ⟨d+1,cnt+1,d,_,rfl,rfl,by omega,by omega,by omega,by omega,fun h=>by omega,fun _=>?_,by simp [g2],by simp [g4],by simp [g7],by simp [g10],by simp [g12],by simp [g13],by simp⟩
    ·omega
    ·rw [if_pos (by omega)];omega
   by_cases h5:cnt+1=5
   ·simp [g7,hw,h5];refine ah (by simp) (aG (au (nxt _ ?_ ?_ ?_ ?_ ?_ ?_ ?_)))<;>simp [g2,g4,g7,g10,g14,h5]
   ·simp [g7,hw,h5];refine ah (by simp) (aG (au (nxt _ ?_ ?_ ?_ ?_ ?_ ?_ ?_)))<;>simp [g2,g4,g7,g10,g14]
 ·refine ah (by simp [hit]) (aG (au ?_))
  refine kw_region (.inl rfl) ?_;simp [g14,wrap64 (n:=d+1) (by omega) (by omega)]
  refine ih _ _ ?_ ⟨d+1,cnt,la,_,rfl,rfl,by omega,by omega,by omega,by omega,fun h=>?_,fun h=>?_,by simp [g2],by simp [g4],by simp [g7],by simp [g10],by simp [g12],by simp [g13],by simp⟩
  ·omega
  ·obtain⟨a1,a2,a3⟩:=hk1 h;exact⟨a1,a2,by omega⟩
  ·have hla:=hk5 h
   rw [hla,show d+1-1=d by omega,show d-1-(d-1-x.wd) % 7=d-(d-x.wd) % 7 by omega])
end
section
def ah9(t:TrD)(l o:List TrD):Prop:=∃ A B,l=A++B∧o=A++t::B∧(∀ x ∈ B,t.at_<x.at_)∧∀ x,A.getLast?=some x→x.at_≤t.at_
theorem fB{n b:Nat}(hn:n≤1100000)(hb:b≤4096):bZ n b=true:=by
 have h:(2*n+768)*b≤2200768*4096:=Nat.mul_le_mul (by omega) hb
 simp [bZ];omega
theorem fO{l:List TrD}{j:Nat}{x:TrD}(h:l[j]?=some x):(aS l)[j]?=some x.row:=by simp [aS,h]
theorem wM(l:List TrD)(j:Nat)(x:TrD):(aS l).set j x.row=aS (l.set j x):=by simp [aS,ez]
@[simp] theorem TrD.BD (x:TrD):x.row.length=2:=rfl
theorem WC{H:Heap}{c:C}{l:List TrD}(hL:LR H c 2 (aS l))(hl:l.length≤1000)(x:TrD) :
  ∃ o c' H',ah9 x l o∧Ev tab.get (.fn ND) [.c c,.a (x.row.map .f)] H (.c c') H'∧LR H' c' 2 (aS o)∧Kb H H' c∧(bf c'=bf c∨∃ i,bf c'=some i∧H.length≤i):=by
 suffices h:∃ r H',Ev tab.get (.fn ND) [.c c,.a (x.row.map .f)] H r H'∧∃ o c',r=.c c'∧ah9 x l o∧LR H' c' 2 (aS o)∧Kb H H' c∧(bf c'=bf c∨∃ i,bf c'=some i∧H.length≤i) by
  obtain⟨r,H',h1,o,c',rfl,h2,h3,h4,h5⟩:=h;exact⟨o,c',H',h2,h1,h3,h4,h5⟩
 refine fV a0x rfl fun Q hQ=>?_
 refine kw_sr ?_;simp [TrD.row];obtain⟨H1,hH1⟩:∃ H1:Heap,H1=H++[.box [.f (fi x.at_),.f (fi x.off)] 0]:=⟨_,rfl⟩;rw [←hH1];have b1:H1[H.length]?=some (.box [.f (fi x.at_),.f (fi x.off)] 0):=by rw [hH1];simp
 have l1:H1.length=H.length+1:=by rw [hH1];simp
 obtain⟨H2,hH2⟩:∃ H2:Heap,H2=H1++[.box (x.row.map .f) 0]:=⟨_,rfl⟩;have hL2:LR H2 c 2 (aS l):=by rw [hH2,hH1];exact(hL.push _).push _
 have hb2:H2[H1.length]?=some (.box (x.row.map .f) 0):=by rw [hH2];simp
 obtain⟨c3,H3,happ,hL3,hK3,hc3⟩:=hL2.app (dD _) (by decide) (row:=x.row) rfl (bytes:=16) (fB (by simp;omega) (by decide)) hb2
 have l2:H2.length=H.length+2:=by rw [hH2];simp [l1]
 have hK:Kb H H3 c:=⟨by have:=hK3.1;omega,fun i y hy hn=>hK3.2 i y (by rw [hH2,hH1,de,ag (aA hy)];exact hy) hn⟩
 have aY7:bf c3=bf c∨∃ i,bf c3=some i∧H.length≤i:=hc3.imp id fun h=>⟨_,h,by omega⟩
 refine kw_sr ?_;have e2:H1++[.box [.f (fi x.at_),.f (fi x.off)] 0]=H2:=hH2.symm;simp [b1,aO];rw [e2];simp [happ];rcases hL3 with⟨h,_⟩ | ⟨_,b,ep,rfl,hb⟩
 ·simp at h
 have e3:aS l++[x.row]=aS (l++[x]):=by simp [aS]
 rw [e3]at hb;refine kw_seq ?_;refine kw_sr ?_;simp [hb.len];refine aB ?_;clear hK3 hc3
 refine bM (fun n s=>∃(A B:List TrD) (t:T) (J:Heap),s=⟨t,[],J⟩∧n=A.length∧l=A++B∧(∀ z ∈ B,x.at_<z.at_)∧RB J b 2 ep (aS (A++x::B))∧Fm b H3 J∧t.g 5=.c (.sl b 0 (l.length+1) 0 ep 2)∧t.g 6=vi A.length) l.length
  ⟨l,[],_,H3,rfl,rfl,by simp,by simp,hb,Fm.refl _,by simp,by simp;exact wrap64 (by omega) (by omega)⟩ ?_
 rintro n s ⟨A,B,t,J,rfl,rfl,hAB,hB,hJ,hF,g5,g6⟩ ih;have hlen:l.length=A.length+B.length:=by rw [hAB];simp
 refine kw_seq ?_
 have fin:(∀ z,A.getLast?=some z→z.at_≤x.at_)→∀ t:T,t.g 5=.c (.sl b 0 (l.length+1) 0 ep 2)→WP tab.get ND none [.code yZ] ⟨t,[],J⟩ Q:=by
  intro hlast t g5;refine kw_sr ?_;simp [g5];refine aH (hQ _ _ (.c (.sl b 0 (l.length+1) 0 ep 2)) rfl (res_one (by simp)) ⟨A++x::B,_,rfl,⟨A,B,hAB,rfl,hB,hlast⟩,.inr ⟨by simp [aS],b,ep,?_,hJ⟩,?_,?_⟩)
  ·simp [hlen];omega
  ·refine⟨bw hK.1 hF.1,fun i y hy hn=>?_⟩
   have h1:=hK.2 i y hy hn;refine hF.get h1 ?_;rintro rfl;rcases aY7 with e | ⟨k,e,hk⟩
   ·exact hn (by rw [←e];rfl)
   ·cases e;have:=aA hy;omega
  ·exact aY7
 have hgr:=dD (A++x::B)
 cases hA:A.getLast? with
 | none=>
  have hA0:A=[]:=by simpa using hA
  subst hA0;refine kw_sr ?_;simp [g6];refine ah (by simp) ?_
  refine bC (k':=[.code yZ]) rfl ?_
  exact fin (by simp) _ (by simp [g5])
 | some z=>
  obtain⟨A',rfl⟩:∃ A',A=A'++[z]:=by
   obtain⟨A',e⟩:=List.getLast?_eq_some_iff.1 hA;exact⟨A',e⟩
  have hal:(A'++[z]).length=A'.length+1:=by simp
  rw [hal]at hlen;have gz:(A'++[z]++x::B)[A'.length]?=some z:=by simp
  have gx:(A'++[z]++x::B)[A'.length+1]?=some x:=by
   rw [bj (by simp)];simp
  have iz:aP J 2 none (.c (.sl b 0 (l.length+1) 0 ep 2)) (vi A'.length)=some (.c (.ptr b (A'.length*2) ep)):=by
   have:=hJ.idx (n:=l.length+1) (c:=0) (k:=.i64) (o:=0) (i:=(A'.length:Int)) (by omega) (by omega)
   simpa using this
  have ix:aP J 2 none (.c (.sl b 0 (l.length+1) 0 ep 2)) (vi ((A'.length:Int)+1))=some (.c (.ptr b ((A'.length+1)*2) ep)):=by
   have:=hJ.idx (n:=l.length+1) (c:=0) (k:=.i64) (o:=0) (i:=(A'.length:Int)+1) (by omega) (by omega)
   rw [cR,show((A'.length:Int)+1).toNat=A'.length+1 by omega]at this
   exact this
  have cz:=hJ.ldc hgr (fO gz) (k:=0) (x:=fi z.at_) rfl;have cx:=hJ.ldc hgr (fO gx) (k:=0) (x:=fi x.at_) rfl;simp only [Nat.add_zero]at cz cx;have w1:IntKind.i64.wrap (A'.length:Int)=A'.length:=wrap64 (by omega) (by omega)
  refine kw_sr ?_;simp [g5,g6,hal,show(0:Int)<(A'.length:Int)+1 by omega,w1,iz,ix,cz,cx,-ak]
  by_cases hlt:x.at_<z.at_
  case neg=>
   refine ah (by simp [hlt]) ?_
   refine bC (k':=[.code yZ]) rfl ?_;exact fin (fun w hw=>by rw [hA]at hw;cases hw;omega) _ (by simp [g5])
  refine aj (by simp [hlt]) (aG ?_)
  refine kw_seq ?_;refine aB ?_;have rx:=hJ.ldr hgr (fO gx);refine kw_sr ?_;simp [g5,g6,hal,ix,rx,-ak,TrD.row];obtain⟨J1,hJ1⟩:∃ J1:Heap,J1=J++[.box [.f (fi x.at_),.f (fi x.off)] 0]:=⟨_,rfl⟩;have hJb:RB J1 b 2 ep (aS (A'++[z]++x::B)):=by rw [hJ1];exact hJ.push _
  have bxl:J1[J.length]?=some (.box [.f (fi x.at_),.f (fi x.off)] 0):=by rw [hJ1];simp
  have hbl:=hJ.lt;rw [←hJ1]
  have ixg:∀ {K:Heap} {rows:List (List FC)} (_:RB K b 2 ep rows),aP K 2 none (.c (.sl b 0 (l.length+1) 0 ep 2)) (vi ((A'.length:Int)+1))=some (.c (.ptr b ((A'.length+1)*2) ep)):=fun hK=>by
   have:=hK.idx (n:=l.length+1) (c:=0) (k:=.i64) (o:=0) (i:=(A'.length:Int)+1) (by omega) (by omega)
   rw [cR,show((A'.length:Int)+1).toNat=A'.length+1 by omega]at this
   exact this
  have izg:∀ {K:Heap} {rows:List (List FC)} (_:RB K b 2 ep rows),aP K 2 none (.c (.sl b 0 (l.length+1) 0 ep 2)) (vi A'.length)=some (.c (.ptr b (A'.length*2) ep)):=fun hK=>by
   have:=hK.idx (n:=l.length+1) (c:=0) (k:=.i64) (o:=0) (i:=(A'.length:Int)) (by omega) (by omega)
   simpa using this
  have rz:=hJb.ldr hgr (fO gz);obtain⟨J2,s1,hJ2,f12,n12⟩:=hJb.str (j:=A'.length+1) (row:=z.row) hgr (by simp) rfl
  have a5D:Grid 2 ((aS (A'++[z]++x::B)).set (A'.length+1) z.row):=by rw [wM];exact dD _
  obtain⟨J3,s2,hJ3,f23,n23⟩:=hJ2.str (j:=A'.length) (row:=x.row) a5D (by simp) rfl
  have bx2:=f12.get bxl (by omega)
  have hrows:((aS (A'++[z]++x::B)).set (A'.length+1) z.row).set A'.length x.row=aS (A'++x::z::B):=by
   rw [wM,wM]
   congr 1
   rw [de];simp
  rw [hrows]at hJ3;refine kw_sr ?_;simp only [TrD.row,aM,ba]at rz s1 s2;simp [g5,g6,hal,w1,ixg hJb,izg hJb,rz,s1,-ak,-bJ];refine kw_region (.inl rfl) ?_;simp [g5,g6,hal,w1,izg hJ2,bx2,aO,s2,-bJ];refine au ?_;refine kw_region (.inl rfl) ?_;simp [g6,hal,w1];have hFJ:Fm b H3 J3:=((hF.trans (by rw [hJ1];exact Fm.push _ _)).trans f12).trans f23
  refine ih A'.length _ (by simp) ⟨A',z::B,_,J3,rfl,rfl,by rw [hAB];simp,?_,hJ3,hFJ,by simp [g5],by simp⟩
  intro w hw;rcases cG.1 hw with rfl | hw
  ·exact hlt
  ·exact hB w hw
end
section
def opd(x:bH)(j:Nat):Int:=if j=0 then x.l else x.r
def usW(U:List Int)(x:bH):Nat→List Int
 | 0=>U
 | j+1=>if j<gK x.k then uH (usW U x j) (opd x j)else usW U x j
@[simp] theorem aEB (U:List Int) (x:bH):∀ j,(usW U x j).length=U.length
 | 0=>rfl
 | j+1=>by unfold usW;split<;>simp [aEB U x j]
theorem TS{r:List bH}{x:bH}{i n:Nat}(h:rW i x):usW (bK r n) x 2=bK (r++[x]) n:=by
 have h2:=vI x.k;rcases(show gK x.k=0∨gK x.k=1∨gK x.k=2 by omega)with e | e | e
 ·rw [PI e];simp [usW,e]
 ·rw [PG e (h.l1 (by omega)).1];simp [usW,e,opd]
 ·rw [PE e (h.l1 (by omega)).1 (h.r2 e).1];simp [usW,e,opd]
abbrev cI(n:Int):C:=.f (fi n)
theorem Gv{U:List Int}{k:Int}(h0:0≤k)(h1:k<U.length):over (U.map cI) k.toNat [cI (U.getD k.toNat 0+1)]=(uH U k).map cI:=by
 rw [Dk (by simp;omega),uH,ez]
theorem P5{k:Nat}(h:k<19):(nI.drop (k*4)).take 4=kL k:=
 DX (sz:=4) (rows:=(List.range 19).map kL) (fun r hr=>by obtain⟨j,_,rfl⟩:=cK.1 hr;rfl) (by simp [h])
theorem aYx{H:Heap}{b fl:Nat}(hb:H[b]?=some (.box (nI.map .f) fl)){k:Nat}(h:k<19):ldV H (some 4) (.c (.ptr b (k*4) 0))=some (.a ((kL k).map .f)):=by
 have hl:nI.length=76:=by decide
 have:k*4+4≤nI.length:=by omega
 simp only [ldV,aF,hb];simp [aO,←ek,←List.map_take,P5 h];omega
theorem jh{H:Heap}{g:Tg}{r:List aT}{j:Nat}(hj:j<r.length)(hl:r.length≤64):aP H 8 none (.c (.f (sl g (aI r)))) (vi j)=some (.c (.f (.fp (aI r).flatten (j*8)))):=by
 have:=iq (H:=H) (g:=g) (rows:=aI r) (sz:=8) (k:=.i64) (i:=(j:Int)) (by omega) (by simp;omega)
 simpa using this
theorem rH{H:Heap}{r:List aT}{j:Nat}(hj:j<r.length):ldV H (some 8) (.c (.f (.fp (aI r).flatten (j*8))))=some (.a (r[j].row.map .f)):=by
 have:=mM (H:=H) (rows:=aI r) (j:=j) (sz:=8) (row:=r[j].row) (iV r) (uo hj);simpa using this
theorem afF{H:Heap}{i:Nat}{x:Blk}(h:H[i]?=some x):H.set i x=H:=by
 refine List.ext_getElem? fun j=>?_
 rw [List.getElem?_set];split
 ·rename_i e;subst e;rw [if_pos (aA h),h]
 ·rfl
theorem aHA{U:List Int}{B k:Int}(h:∀ v ∈ U,0≤v∧v≤B):∀ v ∈ uH U k,0≤v∧v≤B+1:=by
 intro v hv;unfold uH at hv;rcases List.mem_or_eq_of_mem_set hv with hv | rfl
 ·have:=h v hv;omega
 ·rw [bX]
  cases hu:U[k.toNat]? with
  | none=>
   by_cases hU:U=[]
   ·subst hU;simp at hv
   ·obtain⟨w,hw⟩:=List.exists_mem_of_ne_nil U hU;have:=h w hw
    simp;omega
  | some w=>have:=h w (List.mem_of_getElem? hu);simp;omega
theorem Iq{U:List Int}{x:bH}{B:Int}(h:∀ v ∈ U,0≤v∧v≤B):∀ j:Nat,∀ v ∈ usW U x j,0≤v∧v≤B+j
 | 0=>fun v hv=>by have:=h v hv;omega
 | j+1=>fun v hv=>by
  unfold usW at hv;split at hv
  ·have:=aHA (Iq h j) v hv;omega
  ·have:=Iq h j v hv;omega
theorem aHc(v:Int):Kf tab.get Nw [vi v] (vb (decide (v≠1))):=by
 refine yw a0i rfl fun H Q hQ=>?_
 refine kw_sr ?_;simp;refine kw_sr ?_;simp;exact aH (hQ _ _ (by simp))
theorem aIy(g:Tg)(l:List Int)(hl:l.length≤9223372036854775807):Km.Pure tab.get RH [.c (.f (sl g (ints l))),.c (.f (.fn Nw []))]=Eq (vb (l.any fun v=>decide (v≠1))):=
 (MW aUZ (WH aUY l (fun v=>[fi v]) (fun v=>vi v) (fun v=>decide (v≠1)) g Nw [] hl
  (fun j hj H=>by rw [Nat.mul_one];exact rJ hj) (fun p hp=>aHc p))).eq
theorem ER(g:Tg){r:List aT}(hG:Good (dat r))(hl:r.length≤64):Km.Pure tab.get Ny [.c (.f (sl g (aI r)))]=Eq (vb true):=Km.Pure.eq (by
 have hpos:0<r.length:=by have:=hG.pos;simpa using this
 obtain⟨n,hn⟩:∃ n,n=r.length:=⟨_,rfl⟩;refine bU a0j rfl fun Q hQ=>?_
 refine kw_sr ?_;simp;refine kw_seq (kw_sr ?_);simp [←hn,show¬ (n:Int)<1 by omega,show¬ (64:Int)<n by omega]
 refine bD (by simp) ?_
 have hsl:nI.length=76:=by decide
 refine kw_sr ?_;simp [zu,hsl];refine kw_sr ?_;have hroom:bZ n 8=true:=fB (by omega) (by decide)
 have hmk:∀(t:T) (H:Heap),(R 22).ev t=vi n→xOp t H (.dS 1 8 [fi 0] (R 22) (R 22))=some (.c (.sl H.length 0 n n 0 1),H++[.box ((bK [] n).map cI) 0]):=by
  intro t H h;have e:(dL n [fi 0]).map C.f=(bK [] n).map cI:=by rw [FN];simp [dL]
  simp only [xOp,h,fU];rw [if_pos ⟨by omega,dl _,by simpa using hroom,rfl⟩,if_neg (by omega),bO,e]
 simp [←hn,hmk];refine kw_seq (kw_sr ?_);simp [←hn]
 refine kV n (fun i t H=>∃ r',r'=(dat r).take i∧t.g 0=.c (.f (sl g (aI r)))∧t.g 3=.c (.ptr 0 0 0)∧t.g 4=.c (.sl 1 0 n n 0 1)∧t.g 24=.c (.f (sl g (aI r)))∧H[0]?=some (.box (nI.map .f) 0)∧H[1]?=some (.box ((bK r' n).map cI) 0))
  (by omega) (by decide) (by decide) (by simp) (by simp) ⟨[],by simp,by simp,by simp,by simp,by simp,rfl,rfl⟩ ?_ ?_
 ·rintro i t H hi ⟨r',hr',g0,g3,g4,g24,h0,h1⟩ ha hb next;have hir:i<r.length:=by omega
  have hA:=hG.at_ i (by simpa using hir)
  obtain⟨x,hx⟩:∃ x,x=r[i]:=⟨_,rfl⟩;have hxd:(dat r)[i]'(by simpa using hir)=x.d:=by rw [hx];simp
  rw [hxd]at hA;obtain⟨hlen,hK⟩:=hA.ok;have hk:=hK.k;obtain⟨k,hkk⟩:∃ k:Nat,x.d.k=k:=⟨x.d.k.toNat,by omega⟩
  have a5C:k<19:=by omega
  have hops:=BI hk.1;rw [hkk,bO]at hops
  have hnext:usW (bK r' n) x.d 2=bK ((dat r).take (i+1)) n:=by
   rw [TS hA,hr',aR (by simpa using hir),hxd]
  refine aB (kw_sr ?_);have hH0:0<H.length:=aA h0;have hH1:1<H.length:=aA h1;simp [ha,g24,jh hir hl,rH hir,←hx,aT.row];obtain⟨J,hJ⟩:∃ J:Heap,J=H++[.box (x.row.map .f) 0]:=⟨_,rfl⟩;have j0:J[0]?=some (.box (nI.map .f) 0):=by rw [hJ,ag hH0];exact h0
  have j1:J[1]?=some (.box ((bK r' n).map cI) 0):=by rw [hJ,ag hH1];exact h1
  have jx:J[H.length]?=some (.box (x.row.map .f) 0):=by rw [hJ];simp
  have jl:J.length=H.length+1:=by rw [hJ];simp
  simp only [aT.row,aM,ba]at hJ jx;rw [←hJ];clear hJ;obtain⟨px,hpx⟩:∃ px,px=H.length:=⟨_,rfl⟩;rw [←hpx]at jx jl hH1 ⊢;clear hpx h0 h1 hH0;refine kw_seq (kw_sr ?_);have hd1:decide (1≤x.d.k∧x.d.k≤18)=true:=decide_eq_true ⟨by omega,by omega⟩
  simp [jx,aO,fP,hd1,show¬ (64:Int)<x.d.li.length by omega]
  refine bD (by simp) ?_
  have hix:∀ H,aP H 4 (some 19) (.c (.ptr 0 0 0)) (vi x.d.k)=some (.c (.ptr 0 (k*4) 0)):=fun H=>by
   rw [hkk,aHC (by omega) (by omega)];simp
  refine kw_sr ?_;have hls:=aYx j0 a5C;simp only [kL,aM,ba]at hls;have hlk:ldV J none (.c (.ptr px 0 0))=some (vi x.d.k):=by simp [ldV,jx,aF,aO]
  simp [hlk,g3,hix,hls,-ak];obtain⟨J2,hJ2⟩:∃ J2:Heap,J2=J++[.box ((kL k).map .f) 0]:=⟨_,rfl⟩;have i0:J2[0]?=some (.box (nI.map .f) 0):=by rw [hJ2,ag (aA j0)];exact j0
  have i1:J2[1]?=some (.box ((bK r' n).map cI) 0):=by rw [hJ2,ag (aA j1)];exact j1
  have ix:=jx;rw [←ag (l₂:=[.box ((kL k).map .f) 0]) (aA jx),←hJ2]at ix;have is_:J2[px+1]?=some (.box ((kL k).map .f) 0):=by rw [hJ2,←jl];simp
  have il:J2.length=px+2:=by rw [hJ2];simp [jl]
  simp only [kL,aM,ba]at hJ2 is_;rw [←hJ2,jl];clear hJ2 hls hlk j0 j1 jx jl;refine kw_seq (kw_sr ?_);have hl2:bQ (J2++[.box [.f (fi x.d.l),.f (fi x.d.r)] 0]) (.sl J2.length 0 2 2 0 1)=some 2:=by simp [bQ]
  simp [ix,aO,hl2];obtain⟨J3,hJ3⟩:∃ J3:Heap,J3=J2++[.box [.f (fi x.d.l),.f (fi x.d.r)] 0]:=⟨_,rfl⟩;have q0:J3[0]?=some (.box (nI.map .f) 0):=by rw [hJ3,ag (aA i0)];exact i0
  have q1:J3[1]?=some (.box ((bK r' n).map cI) 0):=by rw [hJ3,ag (aA i1)];exact i1
  have qx:=ix;rw [←ag (l₂:=[.box [.f (fi x.d.l),.f (fi x.d.r)] 0]) (aA ix),←hJ3]at qx;have qs:=is_;rw [←ag (l₂:=[.box [.f (fi x.d.l),.f (fi x.d.r)] 0]) (aA is_),←hJ3]at qs;have ql:J3[px+2]?=some (.box [.f (fi x.d.l),.f (fi x.d.r)] 0):=by rw [hJ3,←il];simp
  rw [←hJ3,il];clear hJ3 i0 i1 ix is_ il
  refine kV 2 (fun j t H=>t.g 0=.c (.f (sl g (aI r)))∧t.g 3=.c (.ptr 0 0 0)∧t.g 4=.c (.sl 1 0 n n 0 1)∧t.g 24=.c (.f (sl g (aI r)))∧t.g 5=vi i∧t.g 6=.c (.ptr px 0 0)∧t.g 7=.c (.ptr (px+1) 0 0)∧t.g 49=.c (.sl (px+2) 0 2 2 0 1)∧t.g 26=vi i∧t.g 25=vi n∧H=J3.set 1 (.box ((usW (bK r' n) x.d j).map cI) 0))
   (by decide) (by decide) (by decide) (by simp) (by simp) ⟨by simp [g0],by simp [g3],by simp [g4],by simp [g24],by simp,by simp,by simp,by simp,by simp [ha],by simp [hb],(afF q1).symm⟩ ?_ ?_
  ·rintro j t H hj ⟨g0,g3,g4,g24,g5,g6,g7,g49,g26,g25,rfl⟩ ha hb next;obtain⟨U,hU⟩:∃ U,U=usW (bK r' n) x.d j:=⟨_,rfl⟩;have hUl:U.length=n:=by rw [hU];simp
   have hUb:∀ v ∈ U,0≤v∧v≤1000:=by
    intro v hv;rw [hU]at hv
    have:=Iq (B:=2*r'.length) (fun v hv=>by
     obtain⟨k,hk,rfl⟩:=bq hv
     exact Kw r' n k (by simpa using hk)) j v hv
    have:r'.length≤64:=by rw [hr'];simp;omega
    omega
   have hnx:usW (bK r' n) x.d (j+1)=if j<CW k then uH U (opd x.d j)else U:=by
    rw [usW,hkk,hops,hU]
   rw [←hU];obtain⟨o,ho⟩:∃ o,o=opd x.d j:=⟨_,rfl⟩;rw [←ho]at hnx;obtain⟨K,hK'⟩:∃ K:Heap,K=J3.set 1 (.box (U.map cI) 0):=⟨_,rfl⟩;have p1:K[1]?=some (.box (U.map cI) 0):=by rw [hK'];exact az (aA q1)
   have px':K[px]?=some (.box (x.row.map .f) 0):=by rw [hK',am (by omega)];exact qx
   have ps:K[px+1]?=some (.box ((kL k).map .f) 0):=by rw [hK',am (by omega)];exact qs
   have pl:K[px+2]?=some (.box [.f (fi x.d.l),.f (fi x.d.r)] 0):=by rw [hK',am (by omega)];exact ql
   have hKn:∀ W:List Int,K.set 1 (.box (W.map cI) 0)=J3.set 1 (.box (W.map cI) 0):=fun W=>by rw [hK',List.set_set]
   rw [←hK']
   have hidx:aP K 1 none (.c (.sl (px+2) 0 2 2 0 1)) (vi j)=some (.c (.ptr (px+2) j 0)):=by
    simp [aP,fU,pl];omega
   have hld:ldV K none (.c (.ptr (px+2) j 0))=some (vi o):=by
    rcases(show j=0∨j=1 by omega)with rfl | rfl<;>simp [ldV,pl,aF,aO,ho,opd]
   have hos:ldV K none (.c (.ptr (px+1) 0 0))=some (vi (CW k)):=by simp [ldV,ps,aF,aO,kL]
   have hlk:ldV K none (.c (.ptr px 0 0))=some (vi x.d.k):=by simp [ldV,px',aF,aO,aT.row]
   refine aB (kw_sr ?_);simp [ha,g49,hidx,hld,-ak];refine aB (kw_sr ?_);simp [g7,hos,-ak];by_cases hjo:j<CW k
   ·rw [if_pos hjo]at hnx
    have hob:0≤o∧o≤(i:Int)-1:=by
     rw [ho];rcases(show j=0∨j=1 by omega)with rfl | rfl
     ·have:=hA.l1 (by rw [hkk,hops];omega);simp only [opd];simp;omega
     ·have h2:gK x.d.k=2:=by have:=vI x.d.k;rw [hkk,hops]at this ⊢;omega
      have:=hA.r2 h2;simp only [opd];simp;omega
    have a5x:decide (0≤o∧o≤(i:Int)-1)=true:=decide_eq_true hob;have hgd:U.getD o.toNat 0=U[o.toNat]'(by omega):=by rw [bX,ae (by omega)];rfl
    have hgb:=hUb _ (aw (l:=U) (n:=o.toNat) (by omega))
    rw [←hgd]at hgb
    have hix:aP K 1 none (.c (.sl 1 0 n n 0 1)) (vi o)=some (.c (.ptr 1 o.toNat 0)):=by
     simp [aP,fU,p1,hob.1];omega
    have hlu:ldV K none (.c (.ptr 1 o.toNat 0))=some (vi (U.getD o.toNat 0)):=by
     have:(U.map cI).drop o.toNat=cI (U.getD o.toNat 0) ::(U.map cI).drop (o.toNat+1):=by
      rw [bR (by simp;omega),dm,hgd]
     simp only [ldV,aF,p1,bE];rw [this];rfl
    have hst:stC K (.ptr 1 o.toNat 0) [.f (fi (U.getD o.toNat 0+1))]=some (K.set 1 (.box ((uH U o).map cI) 0)):=by
     have:=Gv (U:=U) (k:=o) hob.1 (by omega)
     simp only [stC,p1];rw [if_pos (by simp;omega)]
     rw [show [C.f (fi (U.getD o.toNat 0+1))]=[cI (U.getD o.toNat 0+1)] from rfl,this]
    obtain⟨u,hu⟩:∃ u,u=U.getD o.toNat 0:=⟨_,rfl⟩;rw [←hu]at hlu hst hgb;refine aj (by simp;omega) (kw_seq (kw_sr ?_))
    simp [g5,wrap64 (n:=(i:Int)-1) (by omega) (by omega),fP,a5x]
    refine bD (by simp) ?_
    refine kw_region (.inl rfl) ?_;simp [g4,hix,hlu,hst,wrap64 (n:=u+1) (by omega) (by omega),-ak,-bJ]
    refine au (au ?_);refine next _ _ ?_ ?_ ?_
    ·exact⟨by simp [g0],by simp [g3],by simp [g4],by simp [g24],by simp [g5],by simp [g6],by simp [g7],by simp [g49],by simp [g26],by simp [g25],by rw [hnx,hKn]⟩
    ·simp [ha]
    ·simp [hb]
   ·rw [if_neg hjo]at hnx;refine ah (by simp;omega) (kw_sr ?_)
    have fin:∀ t:T,t.g 0=.c (.f (sl g (aI r)))→t.g 3=.c (.ptr 0 0 0)→t.g 4=.c (.sl 1 0 n n 0 1)→t.g 24=.c (.f (sl g (aI r)))→t.g 5=vi i→t.g 6=.c (.ptr px 0 0)→t.g 7=.c (.ptr (px+1) 0 0)→t.g 49=.c (.sl (px+2) 0 2 2 0 1)→t.g 26=vi i→t.g 25=vi n→t.g 51=vi j→t.g 50=vi (2:Nat)→t.g 72=vb false →
      WP tab.get Ny none [.code NV,.inBlock 4,.inBlock 3,.code NT,.inLoop NW,.inBlock 2,.code NS,.inBlock 1,.code (WJ 26 122),.inLoop (zx 0 26 25 27 122 EF),.inBlock 0,.code ED] ⟨t,[],K⟩ Q:=by
     intro t g0 g3 g4 g24 g5 g6 g7 g49 g26 g25 g51 g50 g72;refine ah g72 (aG ?_);refine au (au ?_);refine next _ _ ?_ ?_ ?_
     ·exact⟨by simp [g0],by simp [g3],by simp [g4],by simp [g24],by simp [g5],by simp [g6],by simp [g7],by simp [g49],by simp [g26],by simp [g25],by rw [hnx,hK']⟩
     ·simp [g51]
     ·simp [g50]
    by_cases ho0:o=0
    ·simp [ho0];exact fin _ (by simp [g0]) (by simp [g3]) (by simp [g4]) (by simp [g24]) (by simp [g5]) (by simp [g6]) (by simp [g7]) (by simp [g49]) (by simp [g26]) (by simp [g25]) (by simp [ha]) (by simp [hb]) (by simp)
    ·have hj0:j=0:=by
      rcases(show j=0∨j=1 by omega)with e | rfl
      ·exact e
      ·exact absurd (by rw [ho];simp [opd];exact hA.r0 (by rw [hkk,hops];omega)) ho0
     subst hj0
     have hk7:x.d.k=7:=by
      rcases Decidable.em (x.d.k=7)with e | e
      ·exact e
      ·exact absurd (by rw [ho];simp [opd];exact hA.l0 (by rw [hkk,hops];omega) e) ho0
     simp [ho0,g6,hlk,hk7,-ak];exact fin _ (by simp [g0]) (by simp [g3]) (by simp [g4]) (by simp [g24]) (by simp [g5]) (by simp [g6]) (by simp [g7]) (by simp [g49]) (by simp [g26]) (by simp [g25]) (by simp [ha]) (by simp [hb]) (by simp)
  ·rintro t H ⟨g0,g3,g4,g24,g5,g6,g7,g49,g26,g25,rfl⟩ - -;rw [hnext];obtain⟨K,hK'⟩:∃ K:Heap,K=J3.set 1 (.box ((bK ((dat r).take (i+1)) n).map cI) 0):=⟨_,rfl⟩;have p0:K[0]?=some (.box (nI.map .f) 0):=by rw [hK',am (by omega)];exact q0
   have p1:K[1]?=some (.box ((bK ((dat r).take (i+1)) n).map cI) 0):=by rw [hK'];exact az (aA q1)
   have px':K[px]?=some (.box (x.row.map .f) 0):=by rw [hK',am (by omega)];exact qx
   have ps:K[px+1]?=some (.box ((kL k).map .f) 0):=by rw [hK',am (by omega)];exact qs
   rw [←hK'];have e0:ldV K none (.c (.ptr px 0 0))=some (vi x.d.k):=by simp [ldV,px',aF,aO,aT.row]
   have e1:ldV K none (.c (.ptr px 1 0))=some (vi x.d.cal):=by simp [ldV,px',aF,aO,aT.row]
   have e6:ldV K none (.c (.ptr px 6 0))=some (.c (.f (sl x.tg (ints x.d.li)))):=by simp [ldV,px',aF,aO,aT.row]
   have e7:ldV K none (.c (.ptr px 7 0))=some (.c (.f (.str Iz))):=by simp [ldV,px',aF,aO,aT.row]
   have e8:ldV K (some 8) (.c (.ptr px 0 0))=some (.a (x.row.map .f)):=by simp [ldV,px',aF,aO,aT.row]
   have f1:ldV K none (.c (.ptr (px+1) 1 0))=some (vb (sF k)):=by simp [ldV,ps,aF,aO,kL]
   have f2:ldV K (some 2) (.c (.ptr (px+1) 2 0))=some (.a [.f (fi (KR k)),.f (fi (KT k))]):=by simp [ldV,ps,aF,aO,kL]
   have aZd:=hK.lis;have a5M:=IZ x hK.num;have aZe:=hK.cal;rw [hkk,bO]at aZd aZe;have hL:=Wv x.tg x.d.li (KR k) (KT k) aZd (by omega)
   have fin:∀ t:T,t.g 0=.c (.f (sl g (aI r)))→t.g 3=.c (.ptr 0 0 0)→t.g 4=.c (.sl 1 0 n n 0 1)→t.g 24=.c (.f (sl g (aI r)))→t.g 6=.c (.ptr px 0 0)→t.g 7=.c (.ptr (px+1) 0 0)→t.g 26=vi i→t.g 25=vi n→t.g 10=vb true→t.g 11=vb true →
     WP tab.get Ny none [.code NR,.inBlock 1,.code (WJ 26 122),.inLoop (zx 0 26 25 27 122 EF),.inBlock 0,.code ED] ⟨t,[],K⟩ Q:=by
    intro t g0 g3 g4 g24 g6 g7 g26 g25 g10 g11;refine kw_seq (kw_sr ?_);simp [g6,e0,-ak,show¬ x.d.k=18 by omega]
    refine bD (by simp) ?_
    refine kw_sr ?_;simp [g6,g7,g10,g11,e6,e8,f2,hL,a5M,-ak];refine bD (by simp) ?_
    refine au ?_;refine next _ _ ?_ ?_ ?_
    ·exact⟨_,rfl,by simp [g0],by simp [g3],by simp [g4],by simp [g24],p0,p1⟩
    ·simp [g26]
    ·simp [g25]
   refine kw_sr ?_;have hstr:bW .eql (.c (.f (.str Iz))) (.c (.f (.str ⟨#[]⟩)))=some (vb true):=by simp [bW,ahQ,Iz];rfl
   simp [g6,e1,e7,-ak,hstr];refine kw_seq (kw_sr ?_);simp [g7,f1,-ak];cases hc:sF k
   ·have hc0:=aZe.2.2 hc;refine bD (by simp) ?_
    exact fin _ (by simp [g0]) (by simp [g3]) (by simp [g4]) (by simp [g24]) (by simp [g6]) (by simp [g7]) (by simp [g26]) (by simp [g25]) (by simp [hc0]) (by simp)
   ·have hcd:decide (0≤x.d.cal∧x.d.cal≤2)=true:=decide_eq_true ⟨by omega,by omega⟩
    refine aj (by simp) (kw_region (.inl rfl) ?_)
    simp [g6,e1,-ak,fP,hcd];exact fin _ (by simp [g0]) (by simp [g3]) (by simp [g4]) (by simp [g24]) (by simp [g6]) (by simp [g7]) (by simp [g26]) (by simp [g25]) (by simp) (by simp)
 ·rintro t H ⟨r',hr',g0,g3,g4,g24,h0,h1⟩ - -;have hrr:r'=dat r:=by rw [hr',bu (by simp;omega)]
  subst hrr;clear hr'
  have hU:((bK (dat r) n).take (n-1)).any (fun v=>decide (v≠1))=false:=by
   rw [List.any_eq_false];intro v hv;have:=hG.bK v (by simpa [←hn]using hv)
   simp [this]
  have hw:IntKind.i64.wrap ((n:Int)-1)=((n-1:Nat):Int):=by rw [wrap64 (by omega) (by omega)];omega
  have hs:jF H 1 (.c (.sl 1 0 n n 0 1)) none (some (vi ((n-1:Nat):Int))) none=some (.c (.sl 1 0 (n-1) n 0 1)):=by
   have hb:=bnd_nat (k:=n-1) (n:=n) (by omega)
   simp [jF,h1,dH,hb];omega
  have hx:exC deep H (.sl 1 0 (n-1) n 0 1)=some (sl .fs (ints ((bK (dat r) n).take (n-1)))):=by
   have e1:(((bK (dat r) n).map cI).drop 0).take ((n-1)*1)=(((bK (dat r) n).take (n-1)).map fi).map C.f:=by simp [List.map_take,Function.comp_def]
   show exC (deep-1+1) H (.sl 1 0 (n-1) n 0 1)=_
   rw [uM,h1];simp only [e1,I8];rw [if_pos (by simp)]
   have hlt:((bK (dat r) n).take (n-1)).length=n-1:=by simp
   by_cases hn1:n=1
   ·subst hn1;simp [sl,Tg.fc,ints]
   ·have hne:¬ (ints ((bK (dat r) n).take (n-1))).isEmpty=true:=by
     rw [List.isEmpty_iff,←List.length_eq_zero_iff];simp;omega
    rw [sl,if_neg hne,Gs,MH,hlt];rfl
  refine kw_sr ?_;have hany:=aIy .fs ((bK (dat r) n).take (n-1)) (by simp;omega)
  rw [hU]at hany;simp [g0,g4,←hn,hw,hs,hx,hany]
  exact aH (hQ _ _ (by simp)))
end
section
theorem Xc{H:Heap}(g:Tg)(l:List Int)(hl:l.length≤1000):∃ r H',Ev tab.get (.fn RI) [.c (.f (sl g (ints l)))] H r H'∧∃ c J,r=.c c∧H'=H++J∧LR (H++J) c 1 (ints l)∧∀ i,bf c=some i→H.length≤i:=
 ahz (sz:=1) (zs:=[fi 0]) (bytes:=8) aU0 (by decide) (jr l) (fB (by simp;omega) (by decide))
theorem aEA{H:Heap}{g:Tg}{r:List aT}(hG:Good (dat r))(hl:r.length≤64){pm pr pw mb:Nat}(hm:H[pm]?=some (.box [.mp mb] 0))(hmb:H[mb]?=some (.map []))(hr:H[pr]?=some (.box [.f (sl g (aI r))] 0)) :
  ∃ q H',Ev tab.get (.fn NC) [vi 0,.c (.ptr pm 0 0),.c (.ptr pr 0 0),.c (.ptr pw 0 0)] H q H'∧H'=H.set mb (.map [(fi 0,.f (.bool true))]):=by
 have hpos:0<r.length:=by have:=hG.pos;simpa using this
 refine fV (C:=fun q H'=>H'=H.set mb (.map [(fi 0,.f (.bool true))])) a0n rfl fun Q hQ=>?_
 refine kw_sr ?_;have e1:ldV H none (.c (.ptr pm 0 0))=some (.c (.mp mb)):=by simp [ldV,hm,aF,aO]
 have hmu:∀ t:T,(R 6).ev t=.c (.mp mb)→(R 7).ev t=vi 0→xOp t H (.oH .int (R 6) (R 7) kt)=some (.top,H.set mb (.map [(fi 0,.f (.bool true))])):=by
  intro t h6 h7;simp only [xOp,h6,h7];have:AZ (Arg.ev t kt)=some (.f (.bool true)):=rfl;simp only [this,hmb];rfl
 simp [e1,-ak,hmu];obtain⟨K,hK⟩:∃ K:Heap,K=H.set mb (.map [(fi 0,.f (.bool true))]):=⟨_,rfl⟩;have hne:pr≠mb:=by rintro rfl;rw [hr]at hmb;cases hmb
 have k1:K[pr]?=some (.box [.f (sl g (aI r))] 0):=by rw [hK,am (Ne.symm hne)];exact hr
 have e2:ldV K none (.c (.ptr pr 0 0))=some (.c (.f (sl g (aI r)))):=by simp [ldV,k1,aF,aO]
 rw [←hK]at hQ ⊢;obtain⟨x,hx⟩:∃ x,x=r[0]:=⟨_,rfl⟩;have hA:=hG.at_ 0 (by simpa using hpos)
 have hxd:(dat r)[0]'(by simpa using hpos)=x.d:=by rw [hx];simp
 rw [hxd]at hA;have hk:=hA.ok.2.k;obtain⟨k,hkk⟩:∃ k:Nat,x.d.k=k:=⟨x.d.k.toNat,by omega⟩
 have hops:=BI hk.1
 have hop0:gK x.d.k=0:=by
  rcases cB (gK x.d.k)with e | e
  ·exact e
  ·have:=hA.l1 e;omega
 rw [hop0,hkk,bO]at hops;have hidx:aP K 8 none (.c (.f (sl g (aI r)))) (vi 0)=some (.c (.f (.fp (aI r).flatten 0))):=jh (H:=K) (g:=g) (r:=r) (j:=0) hpos hl
 have hld:ldV K none (.c (.f (.fp (aI r).flatten 0)))=some (vi x.d.k):=by
  have:=mP (H:=K) (rows:=aI r) (j:=0) (sz:=8) (row:=r[0].row) (x:=fi r[0].d.k) (iV r) (uo hpos) rfl;rw [hx];simpa using this
 have hia:nT 19 4 (some 4) (.a (nI.map .f)) (vi x.d.k)=some (.a ((kL k).map .f)):=by
  have hl:nI.length=76:=by decide
  simp only [nT,fU,hkk];rw [if_pos ⟨by omega,by omega⟩,bO]
  simp [aO,←ek,←List.map_take,P5 (show k<19 by omega)]
  omega
 refine kw_sr ?_;have hf0:∀ a b c,uK 0 none (.a [.f (fi 0),a,b,c])=some (vi 0):=fun _ _ _=>rfl
 simp [zu,e2,-ak,hidx,hld,hia,kL,←hops,hf0];refine kw_seq (kw_sr ?_);simp;refine bD (by simp) ?_
 refine kw_sr ?_;simp;refine bD (by simp) ?_
 exact nS (hQ _ _ (.t []) rfl rfl rfl)
def aT.cel(x:aT)(c:C):List C:=[cI x.d.k,cI x.d.cal,cI x.d.l,cI x.d.r,cI x.d.n,cI x.d.m,c,.f (.str Iz)]
theorem aUg{H:Heap}{x:aT}(h0:gK x.d.k=0)(hk:1≤x.d.k∧x.d.k≤17)(hlen:x.d.li.length≤61)(pc:C) :
  ∃ q H',Ev tab.get (.fn aia) [.c (.f .aC),.a (x.row.map .f),.c pc] H q H'∧∃ bo c J,q=.c (.sl bo 0 1 0 0 8)∧H'=H++J∧H.length≤bo∧(H++J)[bo]?=some (.opn 8 (x.cel c) 0 0 .loc)∧LR (H++J) c 1 (ints x.d.li)∧∀ i,bf c=some i→H.length≤i:=by
 obtain⟨k,hkk⟩:∃ k:Nat,x.d.k=k:=⟨x.d.k.toNat,by omega⟩
 have hops:=BI hk.1;rw [h0,hkk,bO]at hops;refine fV (C:=fun q H'=>∃ bo c J,q=.c (.sl bo 0 1 0 0 8)∧H'=H++J∧H.length≤bo∧(H++J)[bo]?=some (.opn 8 (x.cel c) 0 0 .loc)∧LR (H++J) c 1 (ints x.d.li)∧∀ i,bf c=some i→H.length≤i) a0m rfl fun Q hQ=>?_
 refine kw_sr ?_;simp;obtain⟨H1,hH1⟩:∃ H1:Heap,H1=H++[.box (x.row.map .f) 0]:=⟨_,rfl⟩;have b1:H1[H.length]?=some (.box (x.row.map .f) 0):=by rw [hH1];simp
 have l1:H1.length=H.length+1:=by rw [hH1];simp
 rw [←hH1];obtain⟨r',K,hcl,c,J,rfl,rfl,hLR,hcb⟩:=Xc (H:=H1) x.tg x.d.li (by omega)
 have e1:ldV H1 none (.c (.ptr H.length 6 0))=some (.c (.f (sl x.tg (ints x.d.li)))):=by simp [ldV,b1,aF,aO,aT.row]
 have b1':(H1++J)[H.length]?=some (.box (x.row.map .f) 0):=by rw [ag (aA b1)];exact b1
 have hset:(H1++J).set H.length (.box (x.cel c) 0)=H++(.box (x.cel c) 0::J):=by
  rw [hH1,de,List.set_append_right _ _ (ax _),Nat.sub_self];rfl
 have hst:stC (H1++J) (.ptr H.length 6 0) [c]=some (H++(.box (x.cel c) 0::J)):=by
  rw [←hset];simp [stC,b1',aT.row,aT.cel,over]
 refine kw_sr ?_;simp [e1,-ak,-bJ,hcl.eq,hst];obtain⟨K,hK⟩:∃ K:Heap,K=H++(.box (x.cel c) 0::J):=⟨_,rfl⟩;have k1:K[H.length]?=some (.box (x.cel c) 0):=by rw [hK];simp
 have kLR:LR K c 1 (ints x.d.li):=by
  refine hLR.keep fun i y hy hc=>?_
  have:=hcb i hc;rw [hK,←hset,am (by omega)]
  exact hy
 have kl:K.length=H1.length+J.length:=by rw [hK];simp [l1];omega
 rw [←hK];have e2:ldV K none (.c (.ptr H.length 0 0))=some (vi x.d.k):=by simp [ldV,k1,aF,aO,aT.cel]
 have hia:nT 19 4 (some 4) (.a (nI.map .f)) (vi x.d.k)=some (.a ((kL k).map .f)):=by
  have hl:nI.length=76:=by decide
  simp only [nT,fU,hkk];rw [if_pos ⟨by omega,by omega⟩,bO]
  simp [aO,←ek,←List.map_take,P5 (show k<19 by omega)]
  omega
 have hf0:∀ a b c,uK 0 none (.a [.f (fi 0),a,b,c])=some (vi 0):=fun _ _ _=>rfl
 refine kw_seq (kw_sr ?_);simp [zu,e2,-ak,hia,kL,←hops,hf0];refine aB (kw_sr ?_);simp;refine ah (by simp) (kw_sr ?_)
 simp;refine bD (by simp) ?_
 refine au ?_;have e3:ldV K (some 8) (.c (.ptr H.length 0 0))=some (.a (x.cel c)):=by simp [ldV,k1,aF,aO,aT.cel]
 refine kw_sr ?_;have hc8:(x.cel c).length=8:=rfl;obtain⟨K2,hK2⟩:∃ K2:Heap,K2=K++[.box (x.cel c) 0]:=⟨_,rfl⟩;have k2:K2[K.length]?=some (.box (x.cel c) 0):=by rw [hK2];simp
 have hadd:=vU (H:=K2) (sz:=8) (c:=1) k2 hc8
 have happ:dI K2 8 88 (.c (.f .aC)) (.c (.sl K.length 0 1 1 0 8))=some (.c (.sl K2.length 0 1 0 0 8),K2++[.opn 8 (x.cel c) 0 0 .loc]):=by
  have hr:bZ 1 88=true:=by decide
  simp [dI,hadd,hr]
 simp [e3,-ak,hc8];rw [←hK2];simp [happ];have hfin:K2++[.opn 8 (x.cel c) 0 0 .loc]=H++((.box (x.cel c) 0::J)++[.box (x.cel c) 0]++[.opn 8 (x.cel c) 0 0 .loc]):=by rw [hK2,hK];simp
 refine aH (hQ _ _ (.c (.sl K2.length 0 1 0 0 8)) rfl (res_one (by simp)) ⟨K2.length,c,_,rfl,hfin,?_,?_,?_,fun i hi=>?_⟩)
 ·rw [hK2,hK];simp
 ·rw [←hfin];simp
 ·rw [←hfin,hK2];exact(kLR.push _).push _
 ·have:=hcb i hi;omega
theorem aTD{H:Heap}{x:aT}{c:C}{bo:Nat}(hb:H[bo]?=some (.opn 8 (x.cel c) 0 0 .loc))(hc:LR H c 1 (ints x.d.li)):∃ F,exC deep H (.sl bo 0 1 0 0 8)=some F:=by
 obtain⟨g,hg⟩:=hc.ex (jr _) 62;refine⟨.fs [fi x.d.k,fi x.d.cal,fi x.d.l,fi x.d.r,fi x.d.n,fi x.d.m,sl g (ints x.d.li),.str Iz] 1,?_⟩
 show exC (63+1) H (.sl bo 0 1 0 0 8)=_
 rw [uM,hb];have:(x.cel c).drop 0=x.cel c:=rfl;simp [aT.cel,aZ,hg]
theorem aF8(g:Tg){r:List aT}(hG:Good (dat r))(hl:r.length≤64):∃ F,Km.Pure tab.get Vd [.c (.f (sl g (aI r))),vi 0]=Eq (.t [.c (.f F),vi 0]):=by
 obtain⟨rr,⟨F,rfl⟩,hp⟩:∃ rr,(∃ F,rr=.t [.c (.f F),vi 0])∧Km.Pure tab.get Vd [.c (.f (sl g (aI r))),vi 0] rr:=by
  have hpos:0<r.length:=by have:=hG.pos;simpa using this
  have hwf:=ER g hG hl;obtain⟨n,hn⟩:∃ n,n=r.length:=⟨_,rfl⟩;refine dN a0o rfl fun Q hQ=>?_
  refine kw_sr ?_;simp;refine kw_seq (aB (kw_sr ?_));simp [aO,hwf];refine ah (by simp) (kw_sr ?_)
  simp [aO,←hn,show¬ n=0 by omega]
  refine ah (by simp) (aG (au ?_))
  have hroom:bZ n 8=true:=fB (by omega) (by decide)
  have hmk:∀(t:T) (H:Heap),(R 26).ev t=vi n→xOp t H (.dS 1 8 [fi 0] (R 26) (R 26))=some (.c (.sl H.length 0 n n 0 1),H++[.box ((List.replicate n (fi 0)).map .f) 0]):=by
   intro t H h;have e:(dL n [fi 0]).map C.f=(List.replicate n (fi 0)).map .f:=by simp [dL]
   simp only [xOp,h,fU];rw [if_pos ⟨by omega,dl _,by simpa using hroom,rfl⟩,if_neg (by omega),bO,e]
  refine kw_sr ?_;simp [aO,←hn,hmk];refine kw_sr ?_;simp;refine kw_sr ?_;simp;refine kw_sr ?_;have hmm:∀(t:T) (H:Heap),xOp t H .oG=some (.c (.mp H.length),H++[.map []]):=fun _ _=>rfl
  simp [hmm];refine kw_sr ?_;simp;obtain⟨Hw,hHw⟩:∃ Hw:Heap,Hw=[.box [.f (sl g (aI r))] 0,.box (List.replicate n (.f (fi 0))) 0,.box [.cl NC [.ptr 4 0 0,.ptr 0 0 0,.ptr 2 0 0]] 0,.map [],.box [.mp 3] 0]:=⟨_,rfl⟩;rw [←hHw];obtain⟨q,H',he,rfl⟩:=aEA (H:=Hw) (g:=g) hG hl (pm:=4) (pr:=0) (pw:=2) (mb:=3) (by rw [hHw];rfl) (by rw [hHw];rfl) (by rw [hHw];rfl)
  have e8:ldV Hw none (.c (.ptr 2 0 0))=some (.c (.cl NC [.ptr 4 0 0,.ptr 0 0 0,.ptr 2 0 0])):=by rw [hHw];rfl
  refine kw_sr ?_;simp [e8,-ak,dh,he.eq];obtain⟨H0,hH0⟩:∃ H0:Heap,H0=Hw.set 3 (.map [(fi 0,.f (.bool true))]):=⟨_,rfl⟩;rw [←hH0];have z0:H0[0]?=some (.box [.f (sl g (aI r))] 0):=by rw [hH0,hHw];rfl
  have z1:H0[1]?=some (.box ((List.replicate n (fi 0)).map .f) 0):=by rw [hH0,hHw];simp
  have z3:H0[3]?=some (.map [(fi 0,.f (.bool true))]):=by rw [hH0,hHw];rfl
  have z4:H0[4]?=some (.box [.mp 3] 0):=by rw [hH0,hHw];rfl
  clear hH0 hHw he e8 hmm hmk;have e2:ldV H0 none (.c (.ptr 0 0 0))=some (.c (.f (sl g (aI r)))):=by simp [ldV,z0,aF,aO]
  refine kw_seq (kw_sr ?_);simp [e2,-ak,←hn];obtain⟨x0,hx0⟩:∃ x0,x0=r[0]:=⟨_,rfl⟩;have hA:=hG.at_ 0 (by simpa using hpos)
  have hxd:(dat r)[0]'(by simpa using hpos)=x0.d:=by rw [hx0];simp
  rw [hxd]at hA;have hk:=hA.ok.2.k
  have hop0:gK x0.d.k=0:=by
   rcases cB (gK x0.d.k)with e | e
   ·exact e
   ·have:=hA.l1 e;omega
  refine kV n (fun i t H=>t.g 33=.c (.f (sl g (aI r)))∧t.g 6=.c (.sl 1 0 n n 0 1)∧t.g 9=.c (.ptr 4 0 0)∧H[4]?=some (.box [.mp 3] 0)∧H[3]?=some (.map [(fi 0,.f (.bool true))])∧(∃ cs:List FC,cs.length=n∧H[1]?=some (.box (cs.map .f) 0)) ∧
    (i=0→t.g 7=.c (.f .aC))∧(0<i→∃ bo c,t.g 7=.c (.sl bo 0 1 0 0 8)∧2≤bo∧H[bo]?=some (.opn 8 (x0.cel c) 0 0 .loc)∧LR H c 1 (ints x0.d.li)∧∀ b,bf c=some b→2≤b))
   (by omega) (by decide) (by decide) (by simp) (by simp) ⟨by simp,by simp,by simp,z4,z3,⟨_,by simp,z1⟩,fun _=>by simp,fun h=>absurd h (by omega)⟩ ?_ ?_
  ·rintro i t H hi ⟨g33,g6,g9,h4,h3,⟨cs,hcs,h1⟩,hz,hp⟩ ha hb next;have hir:i<r.length:=by omega
   refine aB (kw_sr ?_);simp [ha,g33,jh hir hl,rH hir,aT.row];obtain⟨J,hJ⟩:∃ J:Heap,J=H++[.box (r[i].row.map .f) 0]:=⟨_,rfl⟩;have jx:J[H.length]?=some (.box (r[i].row.map .f) 0):=by rw [hJ];simp
   have up:∀ {b:Nat} {y:Blk},H[b]?=some y→J[b]?=some y:=fun {b y} h=>by rw [hJ,ag (aA h)];exact h
   have jl:J.length=H.length+1:=by rw [hJ];simp
   have upL:∀ {c:C} {rows:List (List FC)},LR H c 1 rows→LR J c 1 rows:=fun h=>by rw [hJ];exact h.push _
   simp only [aT.row,aM,ba]at hJ;rw [←hJ];have e9:ldV J none (.c (.ptr 4 0 0))=some (.c (.mp 3)):=by simp [ldV,up h4,aF,aO]
   have hlk:∀ t:T,(R 40).ev t=.c (.mp 3)→(R 41).ev t=vi i→xOp t J (.lookup .int (.bool false) (R 40) (R 41))=some (vb (decide (i=0)),J):=by
    intro t h40 h41
    have e:ku J .int (.bool false) (.c (.mp 3)) (vi i)=some (vb (decide (i=0))):=by
     simp only [ku,up h3]
     have:uw .int (fi (i:Int)) [(fi 0,.f (.bool true))]=some (if i=0 then some (.f (.bool true))else none):=by
      simp only [uw,eqK];by_cases hi0:i=0
      ·subst hi0;rfl
      ·have:(((i:Int)) == 0)=false:=by simp;exact hi0
       simp [hi0,this]
     rw [this];by_cases hi0:i=0
     ·subst hi0;rfl
     ·simp [hi0];exact⟨rfl,rfl⟩
    simp only [xOp,h40,h41,e];rfl
   refine kw_sr ?_;simp [g9,e9,-ak,hlk];by_cases hi0:i=0
   ·subst hi0;have g7:=hz rfl;have hrx:r[0].row=x0.row:=by rw [hx0]
    have e11:ldV J (some 8) (.c (.ptr H.length 0 0))=some (.a (x0.row.map .f)):=by
     rw [hrx]at jx;simp [ldV,jx,aF,aO,aT.row]
    have w0:IntKind.i64.wrap 0=0:=by decide
    obtain⟨q,H',hq,bo,c,M,rfl,rfl,hbl,hbo,hLR,hcb⟩:=aUg (H:=J) (x:=x0) hop0 hk (by have:=hA.ok.1;omega) (.sl 1 0 n n 0 1)
    refine aj (by simp) (kw_sr ?_)
    simp [g7,g6,e11,-ak,hq.eq];have up2:∀ {b:Nat} {y:Blk},H[b]?=some y→(J++M)[b]?=some y:=fun {b y} h=>by rw [ag (aA (up h))];exact up h
    obtain⟨K,hK⟩:∃ K:Heap,K=J++M:=⟨_,rfl⟩;rw [←hK]at hbo hLR up2 ⊢;have hlen1:bQ K (.sl bo 0 1 0 0 8)=some 1:=by simp [bQ,hbo]
    have hix:aP K 1 none (.c (.sl 1 0 n n 0 1)) (vi 0)=some (.c (.ptr 1 0 0)):=by
     simp [aP,fU,up2 h1];omega
    have hst:stC K (.ptr 1 0 0) [.f (fi 0)]=some (K.set 1 (.box ((cs.set 0 (fi 0)).map .f) 0)):=by
     simp only [stC,up2 h1];rw [if_pos (by simp;omega),ez,Dk (by simp;omega)]
    have hH1:=aA h4;refine kw_region (.inl rfl) ?_;simp [g6,hlen1,hix,hst,w0,-bJ];refine au ?_;refine next _ _ ⟨by simp [g33],by simp [g6],by simp [g9],?_,?_,⟨cs.set 0 (fi 0),by simp [hcs],?_⟩,fun h=>absurd h (by omega),fun _=>⟨bo,c,by simp,by omega,?_,?_,fun b hb=>?_⟩⟩ (by simp [ha]) (by simp [hb])
    ·rw [am (by decide)];exact up2 h4
    ·rw [am (by decide)];exact up2 h3
    ·rw [ez];exact az (aA (up2 h1))
    ·rw [am (by omega)];exact hbo
    ·exact hLR.set (fun e=>by have:=hcb 1 e;omega) _
    ·have:=hcb b hb;omega
   ·obtain⟨bo,c,g7,hb2,hbo,hLR,hbc⟩:=hp (by omega)
    refine ah (by simp [hi0]) (aG (au ?_))
    refine next _ _ ⟨by simp [g33],by simp [g6],by simp [g9],up h4,up h3,⟨cs,hcs,up h1⟩,fun h=>absurd h (by omega),fun _=>⟨bo,c,by simp [g7],hb2,up hbo,upL hLR,hbc⟩⟩ (by simp [ha]) (by simp [hb])
  ·rintro t H ⟨g33,g6,g9,h4,h3,-,-,hp⟩ - -;obtain⟨bo,c,g7,hb2,hbo,hLR,hbc⟩:=hp (by omega)
   obtain⟨F,hF⟩:=aTD hbo hLR;refine kw_sr ?_;simp [g7];refine aH (hQ _ _ _ ⟨F,rfl⟩ ⟨rfl,.t [.c (.sl bo 0 1 0 0 8),vi 0],?_,?_⟩)
   ·simp [Km.results,bT,aZ]
   ·simp [exV,dG,aZ,hF]
 exact⟨F,hp.eq⟩
end
section
theorem CJ(n lo hi:Int):Km.Pure tab.get kK [vi n,vi lo,vi hi]=Eq (vb (decide (lo≤n∧n≤hi))):=Km.Pure.eq (by
 refine bU aU3 rfl fun Q hQ=>?_
 refine kw_sr ?_;simp;refine kw_sr ?_;by_cases h:lo≤n
 ·simp [h];exact aH (hQ _ _ (by simp [h]))
 ·simp [h];exact aH (hQ _ _ (by simp [h])))
theorem jo(n lo hi:Int):∃ b,decide (lo≤n∧n≤hi)=b∧Km.Pure tab.get kK [vi n,vi lo,vi hi]=Eq (vb b):=⟨_,rfl,CJ n lo hi⟩
def moveB(m:bG):Bool:=decide (0≤m.day∧m.day≤1099511627776) &&
 (if m.drop=true then decide (m.to=0)&&decide (m.mi=0)&&decide (m.le=0)else decide (0≤m.to∧m.to≤1099511627776)&&decide (0≤m.mi∧m.mi≤1439)&&decide (1≤m.le∧m.le≤10080))
theorem agF{m:bG}(h:m.OK):moveB m=true:=by
 obtain⟨h1,h2,h3⟩:=h;unfold moveB;rw [decide_eq_true h1];cases hd:m.drop
 ·have:=h3 hd;simp;omega
 ·have:=h2 hd;simp;omega
theorem V5(m:bG):Km.Pure tab.get RJ [.a (m.row.map .f)]=Eq (vb (moveB m)):=Km.Pure.eq (by
 obtain⟨day,drop,to,mi,le⟩:=m;refine bU aU6 rfl fun Q hQ=>?_
 refine kw_sr ?_;simp [bG.row];refine kw_seq (kw_sr ?_);simp;obtain⟨b1,h1,w1⟩:=jo day 0 1099511627776;obtain⟨b2,h2,w2⟩:=jo to 0 1099511627776;obtain⟨b3,h3,w3⟩:=jo mi 0 1439;obtain⟨b4,h4,w4⟩:=jo le 1 10080
 have hm:∀ drop,moveB ⟨day,drop,to,mi,le⟩=(b1&&(if drop=true then decide (to=0)&&decide (mi=0)&&decide (le=0)else b2&&b3&&b4)):=fun drop=>by
  unfold moveB;rw [←h1,←h2,←h3,←h4]
 rw [hm]at hQ;clear hm h1 h2 h3 h4;cases drop
 ·refine bD (by simp) ?_
  refine kw_sr ?_;simp [w1];cases b1
  ·simp;exact aH (hQ _ _ (by simp))
  simp [w2];cases b2
  ·simp;exact aH (hQ _ _ (by simp))
  simp [w3];cases b3
  ·simp;exact aH (hQ _ _ (by simp))
  simp [w4];exact aH (hQ _ _ (by simp))
 ·refine aj (by simp) ?_
  refine kw_sr ?_;simp [w1];cases b1
  ·simp;exact aH (hQ _ _ (by simp))
  simp [eqV];refine aH (hQ _ _ ?_)
  have e:(to == 0&&(mi == 0&&le == 0))=(true&&(if True then decide (to=0)&&decide (mi=0)&&decide (le=0)else b2&&b3&&b4)):=by
   simp [Bool.and_assoc];rfl
  simp [e])
def jO(p:Option Int):List bG→Bool
 | []=>true
 | m::r=>moveB m&&(match p with | none=>true | some d=>decide (d<m.day))&&jO (some m.day) r
theorem Gg:∀ {l:List bG} {p:Option Int},SortM l→(∀ m ∈ l,m.OK)→(∀ d,p=some d→∀ m ∈ l,d<m.day)→jO p l=true
 | [],_,_,_,_=>rfl
 | m::r,p,hs,ho,hp=>by
  have hs':=dj.1 hs;simp only [jO];rw [agF (ho m bh),Gg hs'.2 (fun x hx=>ho x (bA _ hx)) (fun d hd x hx=>by cases hd;exact hs'.1 x hx)]
  cases p with
  | none=>rfl
  | some d=>simp;exact hp d rfl m bh
theorem LY{p:Option Int}{l:List bG}{j:Nat}(hj:j<l.length):jO p (l.drop j)=(moveB l[j]&&(match p with | none=>true | some d=>decide (d<l[j].day))&&jO (some l[j].day) (l.drop (j+1))):=by
 rw [bR hj];rfl
def headB(s:dn):Bool:=decide (0≤s.mi∧s.mi≤1439)&&decide (1≤s.le∧s.le≤10080)&&decide (0≤s.gap∧s.gap≤2)&&decide (0≤s.fold∧s.fold≤2)&&decide (1≤(s.zo.size:Int)∧(s.zo.size:Int)≤32)&&!decide ((64:Int)<s.mv.length)
def CQ(s:dn):Bool:=headB s&&jO none s.mv
theorem dn.OK.sound{s:dn}(h:s.OK):CQ s=true:=by
 have h1:=h.mi;have h2:=h.le;have h3:=h.zo;have h4:=h.gap;have h5:=h.fold;have h6:=h.ml;unfold CQ headB;rw [Gg h.ms h.mo (fun d hd=>by cases hd)]
 simp;omega
theorem afw{s:dn}(hG:Good (dat s.ru))(hl:s.ru.length≤64)(hml:s.mv.length≤9223372036854775807)(hzo:s.zo.size≤9223372036854775807):Km.Pure tab.get Ad [s.v]=Eq (vb (CQ s)):=Km.Pure.eq (by
 obtain⟨F,hpart⟩:=aF8 s.rg hG hl;obtain⟨rg,ru,mi,le,zo,gap,fold,mg,mv⟩:=s;simp only at hpart hml hzo;refine bU aU4 rfl fun Q hQ=>?_
 obtain⟨b1,h1,w1⟩:=jo mi 0 1439;obtain⟨b2,h2,w2⟩:=jo le 1 10080;obtain⟨b3,h3,w3⟩:=jo gap 0 2;obtain⟨b4,h4,w4⟩:=jo fold 0 2;obtain⟨b5,h5,w5⟩:=jo zo.size 1 32;obtain⟨b6,h6⟩:∃ b,decide ((64:Int)<mv.length)=b:=⟨_,rfl⟩;obtain⟨row,hrow⟩:∃ row,row=dn.row ⟨rg,ru,mi,le,zo,gap,fold,mg,mv⟩:=⟨_,rfl⟩
 have hm:CQ ⟨rg,ru,mi,le,zo,gap,fold,mg,mv⟩=(b1&&b2&&b3&&b4&&b5&&!b6&&jO none mv):=by
  unfold CQ headB;rw [←h1,←h2,←h3,←h4,←h5,←h6]
 rw [hm]at hQ;clear hm h1 h2 h3 h4 h5;refine kw_sr ?_;simp [dn.row];refine kw_seq (kw_sr ?_);simp [hpart];refine kw_sr ?_;simp;refine bD (by simp) ?_
 have no:∀(t:T) H,t.g 49=vb true→(b1&&b2&&b3&&b4&&b5&&!b6&&jO none mv)=false→WP tab.get Ad none [.code Ii,.code Ih] ⟨t,[],H⟩ Q:=by
  intro t H g49 hb;refine aj g49 (kw_sr ?_);simp;exact aH (hQ _ _ (by simp [hb]))
 refine kw_seq (kw_sr ?_);simp [w1];cases b1
 ·simp;exact no _ _ (by simp) (by simp)
 simp [w2];cases b2
 ·simp;exact no _ _ (by simp) (by simp)
 simp [w3];cases b3
 ·simp;exact no _ _ (by simp) (by simp)
 simp [w4];cases b4
 ·simp;exact no _ _ (by simp) (by simp)
 simp [w5];cases b5
 ·simp;exact no _ _ (by simp) (by simp)
 simp [h6];cases b6
 case true=>exact no _ _ (by simp) (by simp)
 clear no;refine bD (by simp) ?_
 obtain⟨H0,hH0⟩:∃ H0:Heap,H0=[.box (row.map .f) 0]:=⟨_,rfl⟩;have hz:H0[0]?=some (.box (row.map .f) 0):=by rw [hH0];rfl
 have e6:∀ H:Heap,H[0]?=some (.box (row.map .f) 0)→ldV H none (.c (.ptr 0 6 0))=some (.c (.f (sl mg (aY mv)))):=fun H h=>by
  simp [ldV,h,aF,aO,hrow,dn.row]
 rw [hrow]at hH0;simp only [dn.row,aM,ba]at hH0;rw [←hH0];clear hH0;refine kw_seq (kw_sr ?_);simp [e6 _ hz,-ak];refine kV mv.length (fun j t H=>t.g 1=.c (.ptr 0 0 0)∧t.g 51=.c (.f (sl mg (aY mv)))∧H[0]?=some (.box (row.map .f) 0)∧jO none mv=jO (if h:0<j∧j-1<mv.length then some (mv[j-1]'h.2).day else none) (mv.drop j)) hml (by decide) (by decide) (by simp) (by simp) ⟨by simp,by simp,hz,by simp⟩ ?_ ?_
 ·rintro j t H hj ⟨g1,g51,h0,hB⟩ ha hb next;obtain⟨m,hm⟩:∃ m,m=mv[j]:=⟨_,rfl⟩;rw [LY hj,←hm]at hB;have hmo:=V5 m
  have hidx:∀(H:Heap) (i:Nat),i<mv.length→aP H 5 none (.c (.f (sl mg (aY mv)))) (vi i)=some (.c (.f (.fp (aY mv).flatten (i*5)))):=fun H i hi=>by
   have:=iq (H:=H) (g:=mg) (rows:=aY mv) (sz:=5) (k:=.i64) (i:=(i:Int)) (by omega) (by simp;omega)
   simpa using this
  have hld:ldV H (some 5) (.c (.f (.fp (aY mv).flatten (j*5))))=some (.a (m.row.map .f)):=by rw [hm];exact mM (dw mv) (iH hj)
  refine aB (kw_sr ?_);simp [ha,g51,hidx _ _ hj,hld,bG.row];obtain⟨J,hJ⟩:∃ J:Heap,J=H++[.box (m.row.map .f) 0]:=⟨_,rfl⟩;have jx:J[H.length]?=some (.box (m.row.map .f) 0):=by rw [hJ];simp
  have j0:J[0]?=some (.box (row.map .f) 0):=by rw [hJ,ag (aA h0)];exact h0
  simp only [bG.row,aM,ba]at hJ;rw [←hJ];have e5:ldV J (some 5) (.c (.ptr H.length 0 0))=some (.a (m.row.map .f)):=by simp [ldV,jx,aF,aO,bG.row]
  have e0:ldV J none (.c (.ptr H.length 0 0))=some (vi m.day):=by simp [ldV,jx,aF,aO,bG.row]
  have bad:∀ t:T,t.g 76=vb true→jO none mv=false→WP tab.get Ad none [.code Aj,.inBlock 1,.code Ai,.inLoop Ak,.inBlock 0,.code Ah] ⟨t,[],J⟩ Q:=by
   intro t g76 hb;refine aj g76 (kw_sr ?_);simp;exact aH (hQ _ _ (by simp [hb]))
  have good:∀ t:T,t.g 76=vb false→t.g 1=.c (.ptr 0 0 0)→t.g 51=.c (.f (sl mg (aY mv)))→t.g 53=vi j→t.g 52=vi mv.length→jO none mv=jO (some m.day) (mv.drop (j+1))→WP tab.get Ad none [.code Aj,.inBlock 1,.code Ai,.inLoop Ak,.inBlock 0,.code Ah] ⟨t,[],J⟩ Q:=by
   intro t g76 g1 g51 g53 g52 hb;refine ah g76 (aG (au ?_));refine next _ _ ⟨by simp [g1],by simp [g51],j0,?_⟩ (by simp [g53]) (by simp [g52])
   rw [hb,dif_pos ⟨by omega,by simpa using hj⟩]
   simp [hm]
  refine kw_sr ?_;simp [e5,-ak,hmo];cases hmb:moveB m
  ·rw [hmb]at hB;simp;exact bad _ (by simp) (by rw [hB];simp)
  rw [hmb]at hB;simp;by_cases hj0:j=0
  ·subst hj0;simp;exact good _ (by simp) (by simp [g1]) (by simp [g51]) (by simp [ha]) (by simp [hb]) (by rw [hB];simp)
  ·have hw:IntKind.i64.wrap ((j:Int)-1)=((j-1:Nat):Int):=by rw [wrap64 (by omega) (by omega)];omega
   have hj1:j-1<mv.length:=by omega
   have hi1:=hidx J (j-1) hj1
   have hl1:ldV J none (.c (.f (.fp (aY mv).flatten ((j-1)*5))))=some (vi mv[j-1].day):=by
    have:=mP (H:=J) (rows:=aY mv) (j:=j-1) (sz:=5) (row:=mv[j-1].row) (x:=fi mv[j-1].day) (dw mv) (iH hj1) rfl;exact this
   rw [dif_pos ⟨by omega,hj1⟩]at hB
   simp [show 0<j by omega,e0,g1,e6 _ j0,hw,hi1,hl1,-ak]
   by_cases hd:mv[j-1].day<m.day
   ·exact good _ (by simp;omega) (by simp [g1]) (by simp [g51]) (by simp [ha]) (by simp [hb]) (by rw [hB];simp [hd])
   ·exact bad _ (by simp;omega) (by rw [hB];simp [hd])
 ·rintro t H ⟨g1,g51,h0,hB⟩ ha hb;have hB':jO none mv=true:=by rw [hB];simp [jO]
  refine kw_sr ?_;simp
  exact aH (hQ _ _ (by simp [hB'])))
end
section
theorem ig(n lo hi:Int):Km.Pure tab.get l7 [vi n,vi lo,vi hi]=Eq (vb (decide (lo≤n∧n≤hi))):=Km.Pure.eq (by
 refine bU a0N rfl fun Q hQ=>?_
 refine kw_sr ?_;simp;refine kw_sr ?_;by_cases h:lo≤n
 ·simp [h];exact aH (hQ _ _ (by simp [h]))
 ·simp [h];exact aH (hQ _ _ (by simp [h])))
theorem IW:∀ k:Nat,k<19→Km.Pure tab.get NJ [vi k]=Eq (vi (CW k))
 | 0,_=>Km.Pure.eq (aQ (m:=60) (d:=10) (by kernel_rfl))
 | 1,_=>Km.Pure.eq (aQ (m:=60) (d:=10) (by kernel_rfl))
 | 2,_=>Km.Pure.eq (aQ (m:=60) (d:=10) (by kernel_rfl))
 | 3,_=>Km.Pure.eq (aQ (m:=60) (d:=10) (by kernel_rfl))
 | 4,_=>Km.Pure.eq (aQ (m:=60) (d:=10) (by kernel_rfl))
 | 5,_=>Km.Pure.eq (aQ (m:=60) (d:=10) (by kernel_rfl))
 | 6,_=>Km.Pure.eq (aQ (m:=60) (d:=10) (by kernel_rfl))
 | 7,_=>Km.Pure.eq (aQ (m:=60) (d:=10) (by kernel_rfl))
 | 8,_=>Km.Pure.eq (aQ (m:=60) (d:=10) (by kernel_rfl))
 | 9,_=>Km.Pure.eq (aQ (m:=60) (d:=10) (by kernel_rfl))
 | 10,_=>Km.Pure.eq (aQ (m:=60) (d:=10) (by kernel_rfl))
 | 11,_=>Km.Pure.eq (aQ (m:=60) (d:=10) (by kernel_rfl))
 | 12,_=>Km.Pure.eq (aQ (m:=60) (d:=10) (by kernel_rfl))
 | 13,_=>Km.Pure.eq (aQ (m:=60) (d:=10) (by kernel_rfl))
 | 14,_=>Km.Pure.eq (aQ (m:=60) (d:=10) (by kernel_rfl))
 | 15,_=>Km.Pure.eq (aQ (m:=60) (d:=10) (by kernel_rfl))
 | 16,_=>Km.Pure.eq (aQ (m:=60) (d:=10) (by kernel_rfl))
 | 17,_=>Km.Pure.eq (aQ (m:=60) (d:=10) (by kernel_rfl))
 | 18,_=>Km.Pure.eq (aQ (m:=60) (d:=10) (by kernel_rfl))
 | k+19,h=>absurd h (by omega)
theorem tV:∀ k:Nat,k<19→Km.Pure tab.get G7 [vi k]=Eq (vb (sF k))
 | 0,_=>Km.Pure.eq (aQ (m:=60) (d:=10) (by kernel_rfl))
 | 1,_=>Km.Pure.eq (aQ (m:=60) (d:=10) (by kernel_rfl))
 | 2,_=>Km.Pure.eq (aQ (m:=60) (d:=10) (by kernel_rfl))
 | 3,_=>Km.Pure.eq (aQ (m:=60) (d:=10) (by kernel_rfl))
 | 4,_=>Km.Pure.eq (aQ (m:=60) (d:=10) (by kernel_rfl))
 | 5,_=>Km.Pure.eq (aQ (m:=60) (d:=10) (by kernel_rfl))
 | 6,_=>Km.Pure.eq (aQ (m:=60) (d:=10) (by kernel_rfl))
 | 7,_=>Km.Pure.eq (aQ (m:=60) (d:=10) (by kernel_rfl))
 | 8,_=>Km.Pure.eq (aQ (m:=60) (d:=10) (by kernel_rfl))
 | 9,_=>Km.Pure.eq (aQ (m:=60) (d:=10) (by kernel_rfl))
 | 10,_=>Km.Pure.eq (aQ (m:=60) (d:=10) (by kernel_rfl))
 | 11,_=>Km.Pure.eq (aQ (m:=60) (d:=10) (by kernel_rfl))
 | 12,_=>Km.Pure.eq (aQ (m:=60) (d:=10) (by kernel_rfl))
 | 13,_=>Km.Pure.eq (aQ (m:=60) (d:=10) (by kernel_rfl))
 | 14,_=>Km.Pure.eq (aQ (m:=60) (d:=10) (by kernel_rfl))
 | 15,_=>Km.Pure.eq (aQ (m:=60) (d:=10) (by kernel_rfl))
 | 16,_=>Km.Pure.eq (aQ (m:=60) (d:=10) (by kernel_rfl))
 | 17,_=>Km.Pure.eq (aQ (m:=60) (d:=10) (by kernel_rfl))
 | 18,_=>Km.Pure.eq (aQ (m:=60) (d:=10) (by kernel_rfl))
 | k+19,h=>absurd h (by omega)
theorem ug{x:bH}(h:x.OK):Km.Pure tab.get NJ [vi x.k]=Eq (vi (gK x.k)):=by
 have hk:=h.2.k;obtain⟨k,hkk⟩:∃ k:Nat,x.k=k:=⟨x.k.toNat,by omega⟩
 have e:=BI hk.1;rw [e,hkk,bO];exact IW k (by omega)
theorem PK{x:bH}(h:x.OK):Km.Pure tab.get G7 [vi x.k]=Eq (vb (sF x.k.toNat)):=by
 have hk:=h.2.k;obtain⟨k,hkk⟩:∃ k:Nat,x.k=k:=⟨x.k.toNat,by omega⟩
 rw [hkk,bO];exact tV k (by omega)
theorem LW(x:aT)(h:GZ x.d.k x.d.l x.d.n x.d.m):Km.Pure tab.get NH [.a (x.row.map .f)]=Eq (vb true):=Km.Pure.eq (by
 obtain⟨⟨k,cal,l,r,n,m,li⟩,tg⟩:=x;simp only [GZ]at h;refine bU a0I rfl fun Q hQ=>?_
 have ret:∀ t H,t.g 2=vb true→WP tab.get NH none [.code .ret,.inBlock 0,.code EO] ⟨t,[],H⟩ Q:=fun t H h2=>aH (hQ _ _ (by simp [h2]))
 refine kw_sr ?_;simp [aT.row];refine kw_seq (kw_sr ?_);simp;refine aB (kw_sr ?_);simp;by_cases c1:k=1
 ·rw [if_pos c1]at h;refine aj (by simp [c1]) (kw_sr ?_)
  simp [ig,h];exact ret _ _ (by simp)
 rw [if_neg c1]at h;refine ah (by simp [c1]) (kw_sr ?_)
 simp;by_cases c2:k=2
 ·rw [if_pos c2]at h;refine aj (by simp [c2]) (kw_sr ?_)
  simp [ig,h,wrap64 (n:=n-1) (by omega) (by omega)]
  exact ret _ _ (by simp)
 rw [if_neg c2]at h;refine ah (by simp [c2]) (kw_sr ?_)
 simp;by_cases c7:k=7
 ·rw [if_pos c7]at h;refine aj (by simp [c7]) (kw_sr ?_)
  simp [ig,h];exact ret _ _ (by simp)
 rw [if_neg c7]at h;refine ah (by simp [c7]) (kw_sr ?_)
 simp;by_cases c11:k=11
 ·rw [if_pos c11]at h;refine aj (by simp [c11]) (kw_sr ?_)
  simp [ig,h];exact ret _ _ (by simp)
 rw [if_neg c11]at h;refine ah (by simp [c11]) (kw_seq (kw_sr ?_))
 simp
 have two:k=12∨k=13→∀ t,t.g 1=.c (.ptr 0 0 0)→t.g 58=vb true→WP tab.get NH none [.code OQ,.inBlock 0,.code EO] ⟨t,[],[.box ((aT.row ⟨⟨k,cal,l,r,n,m,li⟩,tg⟩).map .f) 0]⟩ Q:=by
  intro c t g1 g58;rw [if_pos c]at h;refine aj g58 (kw_sr ?_);simp [g1,aT.row,ig,h];exact ret _ _ (by simp)
 by_cases c12:k=12
 ·refine aj (by simp [c12]) (aG ?_)
  exact two (.inl c12) _ (by simp) (by simp [c12])
 refine ah (by simp [c12]) (kw_region (.inl rfl) ?_)
 simp;by_cases c13:k=13
 ·exact two (.inr c13) _ (by simp) (by simp [c13])
 rw [if_neg (by omega)]at h
 refine ah (by simp [c13]) (kw_sr ?_)
 simp;by_cases c16:k=16
 ·rw [if_pos c16]at h;refine aj (by simp [c16]) (kw_sr ?_)
  simp [ig,h];exact ret _ _ (by simp)
 rw [if_neg c16]at h;refine ah (by simp [c16]) (kw_sr ?_)
 simp;by_cases c17:k=17
 ·rw [if_pos c17]at h;refine aj (by simp [c17]) (kw_sr ?_)
  simp [ig,h];exact ret _ _ (by simp)
 rw [if_neg c17]at h;refine bD (by simp [c17]) ?_
 refine au (kw_sr ?_);simp [h]
 exact aH (hQ _ _ (by simp)))
end
section
theorem P6(g:Tg)(l:List Int)(lo hi:Int)(zero:Bool)(hl:l.length≤9223372036854775807)(hne:l≠[])(hpw:l.Pairwise (· < ·))(hb:∀ x ∈ l,lo≤x∧x≤hi∧(zero=false→x≠0)) :
  Km.Pure tab.get wK [.c (.f (sl g (ints l))),vi lo,vi hi,vb zero]=Eq (vb true):=Km.Pure.eq (by
 refine bU a0E rfl fun Q hQ=>?_
 refine kw_sr ?_;simp;refine kw_seq (kw_sr ?_);simp;refine dU l.length (fun j t H=>t.g 0=.c (.f (sl g (ints l)))∧t.g 1=vi lo∧t.g 2=vi hi∧t.g 3=vb zero) hl (by decide) (by simp) ⟨by simp,by simp,by simp,by simp⟩ ?_ ?_ ?_
 ·rintro j t H L hj ⟨g0,g1,g2,g3⟩ ha hn;simp [ha,g0];exact hn _ ⟨by simp [g0],by simp [g1],by simp [g2],by simp [g3]⟩ (by simp [ha]) (by simp)
 ·rintro j t H hj ⟨g0,g1,g2,g3⟩ ha nx;obtain⟨b1,b2,b3⟩:=hb _ (aw hj);obtain⟨x,hx⟩:∃ x,x=l[j]:=⟨_,rfl⟩;rw [←hx]at b1 b2 b3
  have hii:∀ i:Nat,i<l.length→aP H 1 none (.c (.f (sl g (ints l)))) (vi i)=some (.c (.f (.fp (ints l).flatten i))):=fun i hi=>by
   have:=iq (H:=H) (g:=g) (rows:=ints l) (sz:=1) (k:=.i64) (i:=(i:Int)) (by omega) (by simp;omega)
   simpa using this
  have hjj:=hii j hj;have hld:ldV H none (.c (.f (.fp (ints l).flatten j)))=some (vi x):=by rw [hx];exact rJ hj
  have fin:∀ t:T,t.g 0=.c (.f (sl g (ints l)))→t.g 1=vi lo→t.g 2=vi hi→t.g 3=vb zero→t.g 9=vi j→t.g 56=vb false→WP tab.get wK none [.code OJ,.inBlock 1,.code OI,.inLoop Vr,.inBlock 0,.code OH] ⟨t,[],H⟩ Q:=by
   intro t g0 g1 g2 g3 g9 g56;refine ah g56 (aG (au ?_));exact nx _ _ ⟨by simp [g0],by simp [g1],by simp [g2],by simp [g3]⟩ (by simp [g9])
  refine aB (kw_sr ?_);simp [g0,ha,hjj,hld,g1,show¬ x<lo by omega,g2,show¬ hi<x by omega]
  by_cases hj0:j=0
  ·simp [show¬ 0<j by omega,g0,ha,hjj,hld]
   by_cases hx0:x=0
   ·cases zero
    ·exact absurd hx0 (b3 rfl)
    ·simp [hx0,g3];exact fin _ (by simp [g0]) (by simp [g1]) (by simp [g2]) (by simp [g3]) (by simp [ha]) (by simp)
   ·simp [hx0];exact fin _ (by simp [g0]) (by simp [g1]) (by simp [g2]) (by simp [g3]) (by simp [ha]) (by simp)
  ·have hw:IntKind.i64.wrap ((j:Int)-1)=((j-1:Nat):Int):=by rw [wrap64 (by omega) (by omega)];omega
   have hlt:l[j-1]<x:=by rw [hx];exact bL.1 hpw (j-1) j (by omega) hj (by omega)
   have hj1:j-1<l.length:=by omega
   have hi1:=hii (j-1) hj1;have hl1:ldV H none (.c (.f (.fp (ints l).flatten (j-1))))=some (vi l[j-1]):=rJ hj1;simp [show 0<j by omega,g0,ha,hjj,hld,hw,hi1,hl1,show¬ x≤l[j-1] by omega]
   by_cases hx0:x=0
   ·cases zero
    ·exact absurd hx0 (b3 rfl)
    ·simp [hx0,g3];exact fin _ (by simp [g0]) (by simp [g1]) (by simp [g2]) (by simp [g3]) (by simp [ha]) (by simp)
   ·simp [hx0];exact fin _ (by simp [g0]) (by simp [g1]) (by simp [g2]) (by simp [g3]) (by simp [ha]) (by simp)
 ·rintro t H ⟨g0,g1,g2,g3⟩ ha;have:=cN.2 hne;refine kw_sr ?_;simp [g0,this]
  exact aH (hQ _ _ (by simp)))
theorem agR{l:List Int}{lo hi:Int}(h:uV lo hi l)(h0:¬ (lo=0∧hi=0)):l≠[]∧l.Pairwise (· < ·)∧∀ x ∈ l,lo≤x∧x≤hi∧(lo<0→x≠0):=by
 unfold uV at h;rwa [if_neg h0]at h
theorem Wu(x:aT)(k:Nat)(hk:x.d.k=k)(h1:1≤k∧k≤17)(hl:x.d.li.length≤61)(h:uV (KR k) (KT k) x.d.li):Km.Pure tab.get NI [.a (x.row.map .f)]=Eq (vb true):=Km.Pure.eq (by
 obtain⟨⟨k',cal,l,r,n,m,li⟩,tg⟩:=x;simp only at hk h hl;subst hk;refine bU a0M rfl fun Q hQ=>?_
 have ret:∀ t H,t.g 2=vb true→WP tab.get NI none [.code .ret,.inBlock 0,.code EP] ⟨t,[],H⟩ Q:=fun t H h2=>aH (hQ _ _ (by simp [h2]))
 have go:∀ lo hi z,KR k=lo→KT k=hi→¬ (lo=0∧hi=0)→(z=false→lo<0)→Km.Pure tab.get wK [.c (.f (sl tg (ints li))),vi lo,vi hi,vb z]=Eq (vb true):=by
  intro lo hi z e1 e2 e3 e4;rw [e1,e2]at h;obtain⟨a,b,c⟩:=agR h e3;exact P6 tg li lo hi z (by omega) a b fun x hx=>⟨(c x hx).1,(c x hx).2.1,fun hz=>(c x hx).2.2 (e4 hz)⟩
 refine kw_sr ?_;simp [aT.row];refine kw_seq (kw_sr ?_);simp;refine aB (kw_sr ?_);simp;by_cases c3:k=3
 ·have:=go 1 16 true (by rw [c3];rfl) (by rw [c3];rfl) (by decide) (by decide)
  refine aj (by simp [c3]) (kw_sr ?_)
  simp [this];exact ret _ _ (by simp)
 refine ah (by simp;omega) (kw_sr ?_)
 simp;by_cases c4:k=4
 ·have:=go (-40) 40 false (by rw [c4];rfl) (by rw [c4];rfl) (by decide) (by decide)
  refine aj (by simp [c4]) (kw_sr ?_)
  simp [this];exact ret _ _ (by simp)
 refine ah (by simp;omega) (kw_sr ?_)
 simp;by_cases c5:k=5
 ·have:=go 0 6 true (by rw [c5];rfl) (by rw [c5];rfl) (by decide) (by decide)
  refine aj (by simp [c5]) (kw_sr ?_)
  simp [this];exact ret _ _ (by simp)
 refine ah (by simp;omega) (kw_sr ?_)
 simp;by_cases c6:k=6
 ·have:=go 1 54 true (by rw [c6];rfl) (by rw [c6];rfl) (by decide) (by decide)
  refine aj (by simp [c6]) (kw_sr ?_)
  simp [this];exact ret _ _ (by simp)
 refine ah (by simp;omega) (kw_seq (kw_sr ?_))
 simp
 have two:k=14∨k=15→∀ t,t.g 1=.c (.ptr 0 0 0)→t.g 25=vb true→WP tab.get NI none [.code O4,.inBlock 0,.code EP] ⟨t,[],[.box ((aT.row ⟨⟨k,cal,l,r,n,m,li⟩,tg⟩).map .f) 0]⟩ Q:=by
  intro c t g1 g25;have:=go 0 1099511627776 true (by rcases c with rfl | rfl<;>rfl) (by rcases c with rfl | rfl<;>rfl) (by decide) (by decide)
  refine aj g25 (kw_sr ?_);simp [g1,aT.row,this];exact ret _ _ (by simp)
 by_cases c14:k=14
 ·refine aj (by simp [c14]) (aG ?_)
  exact two (.inl c14) _ (by simp) (by simp [c14])
 refine ah (by simp;omega) (kw_region (.inl rfl) ?_)
 simp;by_cases c15:k=15
 ·exact two (.inr c15) _ (by simp) (by simp [c15])
 refine ah (by simp;omega) (kw_sr ?_)
 simp;by_cases c16:k=16
 ·have:=go (-400) 400 false (by rw [c16];rfl) (by rw [c16];rfl) (by decide) (by decide)
  refine aj (by simp [c16]) (kw_sr ?_)
  simp [this];exact ret _ _ (by simp)
 refine ah (by simp;omega) (aG ?_)
 have hnil:li=[]:=by
  have e1:KR k=0:=by simp [KR,c3,c4,c6,c16]
  have e2:KT k=0:=by simp [KT,c3,c4,c5,c6,c14,c15,c16]
  rw [e1,e2]at h;simpa [uV]using h
 refine au (kw_sr ?_);simp [hnil]
 exact aH (hQ _ _ (by simp)))
end
section
theorem agC(x:aT)(i:Nat)(hi:i≤1000)(h:rW i x.d):Km.Pure tab.get G9 [.a (x.row.map .f),vi i]=Eq (vb true):=Km.Pure.eq (by
 have hok:=h.ok;obtain⟨hlen,hK⟩:=h.ok;have hk:=hK.k;have hops:=ug h.ok;have aHF:=PK h.ok;have a5B:=Wu x x.d.k.toNat (by omega) (by omega) hlen hK.lis
 have hnum:=LW x hK.num;have fD:=hK.cal;have hstr:bW .neq (.c (.f (.str Iz))) (.c (.f (.str ⟨#[]⟩)))=some (vb false):=by simp [bW,ahQ,Iz];rfl
 obtain⟨row,hrow⟩:∃ row,row=x.row:=⟨_,rfl⟩;refine bU a0J rfl fun Q hQ=>?_
 refine kw_sr ?_;simp
 have e:∀ n y,x.row[n]?=some y→∀ H:Heap,H=[.box (x.row.map .f) 0]→ldV H none (.c (.ptr 0 n 0))=some (.c (.f y)):=by
  intro n y hy H hH;have hn:=(ai.1 hy);obtain⟨h1,h2⟩:=hn;subst hH
  have:(x.row.map C.f).drop n=.f y ::(x.row.map C.f).drop (n+1):=by
   rw [bR (by simpa using h1),dm,h2]
  simp only [ldV,aF,cV,bE];rw [this];rfl
 obtain⟨H,hH⟩:∃ H:Heap,H=[.box (x.row.map .f) 0]:=⟨_,rfl⟩;have e0:=e 0 (fi x.d.k) rfl H hH;have e1:=e 1 (fi x.d.cal) rfl H hH;have e2:=e 2 (fi x.d.l) rfl H hH;have e3:=e 3 (fi x.d.r) rfl H hH;have e6:=e 6 (sl x.tg (ints x.d.li)) rfl H hH;have e7:=e 7 (.str Iz) rfl H hH;have e8:ldV H (some 8) (.c (.ptr 0 0 0))=some (.a (x.row.map .f)):=by rw [hH];rfl
 rw [←hH];clear e hH;refine kw_seq (kw_sr ?_);simp [e0,e6,-ak,show¬ x.d.k<1 by omega,show¬ 18<x.d.k by omega,show¬ (64:Int)<x.d.li.length by omega]
 refine bD (by simp) ?_
 refine kw_sr ?_;simp [e0,-ak,hops];obtain⟨n,hn⟩:∃ n,n=gK x.d.k:=⟨_,rfl⟩;have hn2:=vI x.d.k;rw [←hn]at hn2 ⊢;have hwi:IntKind.i64.wrap ((i:Int)-1)=(i:Int)-1:=wrap64 (by omega) (by omega)
 have fin1:∀ t:T,t.g 2=.c (.ptr 0 0 0)→t.g 1=vi i→t.g 5=vi n→t.g 46=vb false→WP tab.get G9 none [.code OY,.code OX] ⟨t,[],H⟩ Q:=by
  intro t g2 g1 g5 g46;refine ah g46 (aG ?_)
  have fin2:∀ t:T,t.g 2=.c (.ptr 0 0 0)→t.g 65=vb false→WP tab.get G9 none [.code OW,.code OV] ⟨t,[],H⟩ Q:=by
   intro t g2 g65;refine ah g65 (aG ?_)
   have aZj:∀ t:T,t.g 2=.c (.ptr 0 0 0)→t.g 85=vb false→WP tab.get G9 none [.code OU,.code OT] ⟨t,[],H⟩ Q:=by
    intro t g2 g85;refine ah g85 (aG ?_);refine kw_seq (kw_sr ?_);simp [g2,e0,e7,-ak,show¬ x.d.k=18 by omega,hstr]
    refine bD (by simp) ?_
    refine kw_sr ?_;simp [g2,e8,-ak,a5B,hnum];exact aH (hQ _ _ (by simp))
   refine kw_seq (kw_sr ?_);cases hc:sF x.d.k.toNat
   ·rw [hc]at aHF;have:=fD.2.2 hc;simp [g2,e0,e1,-ak,aHF,this];exact aZj _ (by simp [g2]) (by simp)
   ·rw [hc]at aHF;have hd:decide (0≤x.d.cal∧x.d.cal≤2)=true:=decide_eq_true ⟨by omega,by omega⟩
    simp [g2,e0,e1,-ak,aHF,ig,hd];exact aZj _ (by simp [g2]) (by simp)
  refine kw_seq (kw_sr ?_);by_cases h2:n=2
  ·have hr:=h.r2 (by omega)
   have hd:decide (0≤x.d.r∧x.d.r≤(i:Int)-1)=true:=decide_eq_true ⟨by omega,by omega⟩
   simp [g2,g1,g5,h2,e3,-ak,hwi,ig,hd];exact fin2 _ (by simp [g2]) (by simp)
  ·have hr:=h.r0 (by omega)
   rcases(show n=0∨n=1 by omega)with e | e
   ·rw [e]at g5;simp [g2,g5,e3,-ak,hr];exact fin2 _ (by simp [g2]) (by simp)
   ·rw [e]at g5;simp [g2,g5,e3,-ak,hr];exact fin2 _ (by simp [g2]) (by simp)
 refine kw_seq (kw_sr ?_);by_cases h1:1≤n
 ·have hl:=h.l1 (by omega)
  have hd:decide (0≤x.d.l∧x.d.l≤(i:Int)-1)=true:=decide_eq_true ⟨by omega,by omega⟩
  simp [show(1:Int)≤n by omega,h1,e2,-ak,hwi,ig,hd,show¬ n=0 by omega]
  exact fin1 _ (by simp) (by simp) (by simp) (by simp)
 ·have h0:n=0:=by omega
  by_cases h7:x.d.k=7
  ·simp [h0,e0,-ak,h7];exact fin1 _ (by simp) (by simp) (by simp [h0]) (by simp)
  ·have hl:=h.l0 (by omega) h7
   simp [h0,e0,e2,-ak,h7,hl]
   exact fin1 _ (by simp) (by simp) (by simp [h0]) (by simp))
end
section
theorem Gu{K:Heap}{U:List Int}{n:Nat}(hUl:U.length=n){o:Int}(h0:0≤o)(h1:o<n)(hb:∀ v ∈ U,0≤v∧v≤1000){b:Nat}(p1:K[b]?=some (.box (U.map cI) 0)) :
  ∃ u:Int,0≤u∧u≤1000∧aP K 1 none (.c (.sl b 0 n n 0 1)) (vi o)=some (.c (.ptr b o.toNat 0))∧ldV K none (.c (.ptr b o.toNat 0))=some (vi u) ∧
   stC K (.ptr b o.toNat 0) [.f (fi (u+1))]=some (K.set b (.box ((uH U o).map cI) 0)):=by
 have hgd:U.getD o.toNat 0=U[o.toNat]'(by omega):=by rw [bX,ae (by omega)];rfl
 have hgb:=hb _ (aw (l:=U) (n:=o.toNat) (by omega))
 rw [←hgd]at hgb;refine⟨U.getD o.toNat 0,hgb.1,hgb.2,?_,?_,?_⟩
 ·simp [aP,fU,p1,h0];omega
 ·have:(U.map cI).drop o.toNat=cI (U.getD o.toNat 0) ::(U.map cI).drop (o.toNat+1):=by
   rw [bR (by simp;omega),dm,hgd]
  simp only [ldV,aF,p1,bE];rw [this];rfl
 ·have:=Gv (U:=U) (k:=o) h0 (by omega)
  simp only [stC,p1];rw [if_pos (by simp;omega)]
  rw [show [C.f (fi (U.getD o.toNat 0+1))]=[cI (U.getD o.toNat 0+1)] from rfl,this]
theorem WQ(g:Tg){r:List aT}(hG:Good (dat r))(hl:r.length≤64):Km.Pure tab.get Vp [.c (.f (sl g (aI r)))]=Eq (vb true):=Km.Pure.eq (by
 have hpos:0<r.length:=by have:=hG.pos;simpa using this
 obtain⟨n,hn⟩:∃ n,n=r.length:=⟨_,rfl⟩;refine bU a0S rfl fun Q hQ=>?_
 refine kw_sr ?_;simp;refine kw_seq (kw_sr ?_);simp [←hn,show¬ (n:Int)<1 by omega,show¬ (64:Int)<n by omega]
 refine bD (by simp) ?_
 have hroom:bZ n 8=true:=fB (by omega) (by decide)
 have hmk:∀(t:T) (H:Heap),(R 16).ev t=vi n→xOp t H (.dS 1 8 [fi 0] (R 16) (R 16))=some (.c (.sl H.length 0 n n 0 1),H++[.box ((bK [] n).map cI) 0]):=by
  intro t H h;have e:(dL n [fi 0]).map C.f=(bK [] n).map cI:=by rw [FN];simp [dL]
  simp only [xOp,h,fU];rw [if_pos ⟨by omega,dl _,by simpa using hroom,rfl⟩,if_neg (by omega),bO,e]
 refine kw_sr ?_;simp [←hn,hmk];refine kw_seq (kw_sr ?_);simp
 refine dU n (fun i t H=>∃ r',r'=(dat r).take i∧t.g 0=.c (.f (sl g (aI r)))∧t.g 3=.c (.sl 0 0 n n 0 1)∧H=[.box ((bK r' n).map cI) 0])
  (by omega) (by decide) (by simp) ⟨[],by simp,by simp,by simp,rfl⟩ ?_ ?_ ?_
 ·rintro i t H L hi ⟨r',hr',g0,g3,rfl⟩ ha hnx;simp [ha,g0,←hn];exact hnx _ ⟨r',hr',by simp [g0],by simp [g3],rfl⟩ (by simp [ha]) (by simp)
 ·rintro i t H hi ⟨r',hr',g0,g3,rfl⟩ ha next;have hir:i<r.length:=by omega
  have hA:=hG.at_ i (by simpa using hir)
  obtain⟨x,hx⟩:∃ x,x=r[i]:=⟨_,rfl⟩;have hxd:(dat r)[i]'(by simpa using hir)=x.d:=by rw [hx];simp
  rw [hxd]at hA;have hrl:r'.length≤64:=by rw [hr'];simp;omega
  have hnext:usW (bK r' n) x.d 2=bK ((dat r).take (i+1)) n:=by
   rw [TS hA,hr',aR (by simpa using hir),hxd]
  have hbd:∀ v ∈ bK r' n,0≤v∧v≤128:=fun v hv=>by
   obtain⟨k,hk,rfl⟩:=bq hv;have:=Kw r' n k (by simpa using hk)
   omega
  have hB1:∀ v ∈ bK r' n,0≤v∧v≤1000:=fun v hv=>by have:=hbd v hv;omega
  have hB2:∀ v ∈ usW (bK r' n) x.d 1,0≤v∧v≤1000:=fun v hv=>by have:=Iq hbd 1 v hv;omega
  have aYU:=agC x i (by omega) hA
  have hops:=ug hA.ok
  have ldx:∀(H:Heap) (k:Nat) (y:FC),x.row[k]?=some y→ldV H none (.c (.f (.fp (aI r).flatten (i*8+k))))=some (.c (.f y)):=fun H k y hy=>
   rG (H:=H) (rows:=aI r) (j:=i) (sz:=8) (row:=x.row) (iV r) (by rw [hx];exact uo hir) hy
  have l0:∀ H,ldV H none (.c (.f (.fp (aI r).flatten (i*8))))=some (vi x.d.k):=fun H=>ldx H 0 _ rfl
  have l2:∀ H,ldV H none (.c (.f (.fp (aI r).flatten (i*8+2))))=some (vi x.d.l):=fun H=>ldx H 2 _ rfl
  have l3:∀ H,ldV H none (.c (.f (.fp (aI r).flatten (i*8+3))))=some (vi x.d.r):=fun H=>ldx H 3 _ rfl
  refine aB (kw_seq (kw_sr ?_));simp [ha,g0,jh hir hl,rH hir,←hx,aYU];refine bD (by simp) ?_
  refine kw_sr ?_;simp [ha,g0,jh hir hl,l0,hops];obtain⟨m,hm⟩:∃ m,m=gK x.d.k:=⟨_,rfl⟩;have hm2:=vI x.d.k;rw [←hm]at hm2 ⊢
  have fin2:∀ t:T,t.g 0=.c (.f (sl g (aI r)))→t.g 3=.c (.sl 0 0 n n 0 1)→t.g 4=vi i→t.g 5=vi m →
    WP tab.get Vp none [.code O8,.inBlock 1,.code O7,.inLoop O9,.inBlock 0,.code O6] ⟨t,[],[.box ((usW (bK r' n) x.d 1).map cI) 0]⟩ Q:=by
   intro t g0 g3 g4 g5;refine kw_sr ?_;by_cases h2:m=2
   ·have hr:=hA.r2 (by omega)
    have h12:usW (bK r' n) x.d 2=uH (usW (bK r' n) x.d 1) x.d.r:=by
     rw [usW,if_pos (by omega)];rfl
    obtain⟨u,u0,u1,f1,f2,f3⟩:=Gu (K:=[.box ((usW (bK r' n) x.d 1).map cI) 0]) (U:=usW (bK r' n) x.d 1) (n:=n) (by simp) (o:=x.d.r) hr.1 (by omega) hB2 (b:=0) rfl
    simp [g5,h2];refine aj (by simp) (kw_region (.inl rfl) ?_)
    simp [g3,g0,g4,jh hir hl,l3,f1,f2,f3,wrap64 (n:=u+1) (by omega) (by omega),-ak,-bJ]
    refine au ?_;refine next _ _ ⟨_,rfl,by simp [g0],by simp [g3],?_⟩ (by simp [g4])
    rw [←hnext,h12]
   ·have h12:usW (bK r' n) x.d 2=usW (bK r' n) x.d 1:=by
     rw [usW,if_neg (by omega)]
    simp [g5];refine ah (by simp;omega) (aG (au ?_))
    refine next _ _ ⟨_,rfl,by simp [g0],by simp [g3],?_⟩ (by simp [g4])
    rw [←hnext,h12]
  refine kw_seq (kw_sr ?_);simp;by_cases h1:1≤m
  ·have hll:=hA.l1 (by omega)
   have h01:usW (bK r' n) x.d 1=uH (bK r' n) x.d.l:=by
    rw [usW,if_pos (by omega)];rfl
   obtain⟨u,u0,u1,f1,f2,f3⟩:=Gu (K:=[.box ((bK r' n).map cI) 0]) (U:=bK r' n) (n:=n) (by simp) (o:=x.d.l) hll.1 (by omega) hB1 (b:=0) rfl
   refine aj (by simp;omega) (kw_region (.inl rfl) ?_)
   simp [g3,g0,ha,jh hir hl,l2,f1,f2,f3,wrap64 (n:=u+1) (by omega) (by omega),-ak,-bJ]
   have:=fin2;rw [h01]at this;exact this _ (by simp [g0]) (by simp [g3]) (by simp [ha]) (by simp)
  ·have h01:usW (bK r' n) x.d 1=bK r' n:=by
    rw [usW,if_neg (by omega)];rfl
   refine ah (by simp;omega) (aG ?_)
   have:=fin2;rw [h01]at this;exact this _ (by simp [g0]) (by simp [g3]) (by simp [ha]) (by simp)
 ·rintro t H ⟨r',hr',g0,g3,rfl⟩ ha;have hrr:r'=dat r:=by rw [hr',bu (by simp;omega)]
  subst hrr;clear hr';have hU:=hG.bK;rw [show(dat r).length=n by simp [hn]]at hU
  have hone:∀ k,k<n-1→(bK (dat r) n).getD k 0=1:=fun k hk=>by
   rw [bX,ae (by simp;omega)]
   refine hU _ ?_;rw [List.mem_take_iff_getElem];exact⟨k,by simp;omega,rfl⟩
  refine kw_seq (kw_sr ?_);simp
  refine dU (n-1) (fun i t H=>t.g 0=.c (.f (sl g (aI r)))∧t.g 3=.c (.sl 0 0 n n 0 1)∧H=[.box ((bK (dat r) n).map cI) 0])
   (by omega) (by decide) (by simp) ⟨by simp [g0],by simp [g3],rfl⟩ ?_ ?_ ?_
  ·rintro i t H L hi ⟨g0,g3,rfl⟩ ha hnx;simp [ha,g0,←hn,wrap64 (n:=(i:Int)+1) (by omega) (by omega)]
   refine hnx _ ⟨by simp [g0],by simp [g3],rfl⟩ (by simp [ha]) ?_
   simp;omega
  ·rintro i t H hi ⟨g0,g3,rfl⟩ ha next
   have hix:∀ K:Heap,K=[.box ((bK (dat r) n).map cI) 0]→aP K 1 none (.c (.sl 0 0 n n 0 1)) (vi i)=some (.c (.ptr 0 i 0)):=by
    rintro K rfl;simp [aP,fU];omega
   have hlu:∀ K:Heap,K=[.box ((bK (dat r) n).map cI) 0]→ldV K none (.c (.ptr 0 i 0))=some (vi 1):=by
    rintro K rfl;have h1:=hone i hi;rw [bX,ae (by simp;omega)]at h1
    have:((bK (dat r) n).map cI).drop i=cI 1 ::((bK (dat r) n).map cI).drop (i+1):=by
     rw [bR (by simp;omega),dm]
     simp at h1;rw [show(bK (dat r) n)[i]'(by simp;omega)=1 from h1]
    simp only [ldV,aF,cV,bE];rw [this];rfl
   obtain⟨K,hK⟩:∃ K:Heap,K=[.box ((bK (dat r) n).map cI) 0]:=⟨_,rfl⟩;have f1:=hix K hK;have f2:=hlu K hK;rw [←hK]at next ⊢;refine aB (kw_sr ?_);simp [g3,ha,f1,f2,-ak];refine ah (by simp) (aG (au ?_))
   exact next _ _ ⟨by simp [g0],by simp [g3],rfl⟩ (by simp [ha])
  ·rintro t H ⟨g0,g3,rfl⟩ ha;refine kw_sr ?_;simp
   exact aH (hQ _ _ (by simp)))
theorem Cc(g:Tg){r:List aT}(hG:Good (dat r))(hl:r.length≤64):Km.Pure tab.get aib [.c (.f (sl g (aI r)))]=Eq (vb true):=Km.Pure.eq (by
 have:=WQ g hG hl;refine bU a0P rfl fun Q hQ=>?_
 refine kw_sr ?_;simp;refine kw_sr ?_;simp [this]
 exact aH (hQ _ _ (by simp)))
end
section
def yM(l:List (aT × C)):List C:=(l.map fun p=>p.1.cel p.2).flatten
theorem Ef(l:List (aT × C)):(yM l).length=l.length*8:=by
 induction l with
 | nil=>rfl
 | cons p l ih=>simp only [yM,aM,List.flatten_cons,bp,b7]at ih ⊢;rw [ih,show(p.1.cel p.2).length=8 from rfl];omega
theorem Xd(l:List (aT × C))(x:aT)(c:C):yM (l++[(x,c)])=yM l++x.cel c:=by simp [yM]
def NL(J:Heap)(cn:C)(l:List (aT × C)):Prop:=
 (∀ p ∈ l,LR J p.2 1 (ints p.1.d.li))∧((l=[]∧(cn=.f .aC∨cn=.f .es))∨(l≠[]∧∃ b ep,cn=.sl b 0 l.length 0 ep 8∧J[b]?=some (.opn 8 (yM l) 0 ep .loc)))
theorem aHl{J:Heap}{c:C}{l:List Int}(h:LR J c 1 (ints l)){b:Nat}{cs:List C}{fl ep:Nat}{st:Km.Os}(hb:J[b]?=some (.opn 8 cs fl ep st)):bf c≠some b:=by
 rcases h with⟨_,rfl | rfl⟩ | ⟨_,b',ep',rfl,h2⟩
 ·simp [bf]
 ·simp [bf]
 ·intro e;simp [bf]at e;subst e;unfold RB at h2;rw [hb]at h2;cases h2
theorem NL.nil(J:Heap):NL J (.f .es) []:=⟨by simp,.inl ⟨rfl,.inr rfl⟩⟩
theorem NL.keep{J J':Heap}{cn:C}{l:List (aT × C)}(h:NL J cn l)(hk:∀(i:Nat) (y:Blk),J[i]?=some y→(∀ cs fl,y≠Blk.box cs fl)→J'[i]?=some y):NL J' cn l:=by
 refine⟨fun p hp=>(h.1 p hp).keep fun i y hy hi=>hk i y hy ?_,?_⟩
 ·rcases h.1 p hp with⟨_,e | e⟩ | ⟨_,b',ep',e,h2⟩
  ·rw [e]at hi;simp [bf]at hi
  ·rw [e]at hi;simp [bf]at hi
  ·rw [e]at hi;simp [bf]at hi;subst hi;unfold RB at h2;rw [h2]at hy;cases hy;intro cs fl e;cases e
 ·rcases h.2 with h2 | ⟨hne,b,ep,rfl,hb⟩
  ·exact .inl h2
  ·exact .inr ⟨hne,b,ep,rfl,hk _ _ hb (fun cs fl e=>by cases e)⟩
theorem NL.push{J:Heap}{cn:C}{l:List (aT × C)}(h:NL J cn l)(L:Heap):NL (J++L) cn l:=h.keep fun i y hy _=>by rw [ag (aA hy)];exact hy
theorem NL.eG{J:Heap}{cn:C}{l:List (aT × C)}(h:NL J cn l){i:Nat}{cs:List C}{fl:Nat}(hx:J[i]?=some (.box cs fl)):bf cn≠some i:=by
 rcases h.2 with⟨_,rfl | rfl⟩ | ⟨hne,b,ep,rfl,hb⟩
 ·simp [bf]
 ·simp [bf]
 ·intro e;simp [bf]at e;subst e;rw [hx]at hb;cases hb
theorem NL.app{J:Heap}{cn:C}{l:List (aT × C)}(h:NL J cn l)(hl:l.length≤1000){x:aT}{c:C}(hc:LR J c 1 (ints x.d.li)){b1 fl1:Nat}(hb1:J[b1]?=some (.box (x.cel c) fl1)) :
  ∃ cn' H',dI J 8 88 (.c cn) (.c (.sl b1 0 1 1 0 8))=some (.c cn',H')∧NL H' cn' (l++[(x,c)])∧Kb J H' cn∧(bf cn'=bf cn∨bf cn'=some J.length):=by
 have hadd:fZ J 8 (.c (.sl b1 0 1 1 0 8))=some (1,x.cel c):=vU hb1 rfl
 have hall:∀ p ∈ l++[(x,c)],LR J p.2 1 (ints p.1.d.li):=fun p hp=>by
  rcases cA.1 hp with hp | hp
  ·exact h.1 p hp
  ·simp at hp;subst hp;exact hc
 rcases h.2 with⟨rfl,he⟩ | ⟨hne,b,ep,rfl,h2⟩
 ·have hroom:bZ 1 88=true:=by decide
  refine⟨.sl J.length 0 1 0 0 8,J++[.opn 8 (x.cel c) 0 0 .loc],?_,⟨fun p hp=>(hall p hp).push _,.inr ⟨by simp,J.length,0,rfl,?_⟩⟩,⟨by simp,fun i y hy _=>by rw [ag (aA hy)];exact hy⟩,.inr rfl⟩
  ·rcases he with rfl | rfl<;>simp [dI,hadd,hroom]
  ·simp [yM]
 ·have hroom:bZ (l.length+1) 88=true:=fB (by omega) (by decide)
  refine⟨.sl b 0 (l.length+1) 0 (ep+1) 8,J.set b (.opn 8 (yM l++x.cel c) 0 (ep+1) .loc),?_,⟨fun p hp=>(hall p hp).set (aHl (hall p hp) h2) _,.inr ⟨by simp,b,ep+1,by simp,?_⟩⟩,⟨by simp,fun i y hy hn=>?_⟩,.inl rfl⟩
  ·simp only [dI,hadd,h2,and_self,if_true];rw [if_neg (by decide),if_neg (by decide),if_pos ⟨trivial,(Ef l).symm,Nat.zero_le _⟩,hroom]
   simp
  ·rw [az (aA h2),Xd]
  ·have:b≠i:=by rintro rfl;exact hn rfl
   rw [am this];exact hy
theorem U3{J:Heap}(n:Nat):∀ {l:List (aT × C)},(∀ p ∈ l,LR J p.2 1 (ints p.1.d.li))→∃ l':List aT,dat l'=l.map (·.1.d)∧aZ (exC (n+1) J) (yM l)=some (aI l').flatten
 | [],_=>⟨[],rfl,rfl⟩
 | (x,c)::l,h=>by
  obtain⟨l',h1,h2⟩:=U3 n (l:=l) fun p hp=>h p (bA _ hp)
  obtain⟨g,hg⟩:=(h (x,c) bh).ex (jr _) n;refine⟨⟨x.d,g⟩::l',by simp only [dat,aM];exact congrArg _ h1,?_⟩
  have e:yM ((x,c)::l)=x.cel c++yM l:=by simp [yM]
  rw [e]
  have e2:aZ (exC (n+1) J) (x.cel c)=some (aT.row ⟨x.d,g⟩):=by
   simp only [aT.cel,aZ,aT.row];simp only at hg;simp [hg]
  have:=lG e2 h2;rw [this];simp [aI]
theorem NL.ex{J:Heap}{cn:C}{l:List (aT × C)}(h:NL J cn l)(n:Nat):∃ g,∃ l':List aT,dat l'=l.map (·.1.d)∧exC (n+2) J cn=some (sl g (aI l')):=by
 obtain⟨l',h1,h2⟩:=U3 n h.1;have hl:l'.length=l.length:=by have:=congrArg List.length h1;simpa using this
 rcases h.2 with⟨rfl,rfl | rfl⟩ | ⟨hne,b,ep,rfl,hb⟩
 ·exact⟨.nil,[],rfl,rfl⟩
 ·exact⟨.es,[],rfl,rfl⟩
 ·refine⟨.fs,l',h1,?_⟩
  show exC (n+1+1) J _=_
  rw [uM,hb];have hpos:=cN.2 hne;have e:(((yM l).drop 0).take (l.length*8))=yM l:=by rw [List.drop_zero,bu (by rw [Ef];exact ax _)]
  have hne':¬ (aI l').isEmpty=true:=by simp;intro e;subst e;simp at hl;omega
  simp only [e,h2,cw];rw [if_pos ⟨trivial,trivial,by rw [Ef];omega⟩,sl,if_neg hne',xX,hl]
end
section
theorem MI(n lo hi:Int):Km.Pure tab.get sK [vi n,vi lo,vi hi]=Eq (vb (decide (lo≤n∧n≤hi))):=Km.Pure.eq (by
 refine bU a0p rfl fun Q hQ=>?_
 refine kw_sr ?_;simp;refine kw_sr ?_;by_cases h:lo≤n
 ·simp [h];exact aH (hQ _ _ (by simp [h]))
 ·simp [h];exact aH (hQ _ _ (by simp [h])))
theorem iM(n lo hi:Int)(h:lo≤n∧n≤hi):Km.Pure tab.get sK [vi n,vi lo,vi hi]=Eq (vb true):=by rw [MI,decide_eq_true h]
theorem xG{m:bG}(h:m.OK):Km.Pure tab.get Vf [.a (m.row.map .f)]=Eq (vb true):=Km.Pure.eq (by
 obtain⟨day,drop,to,mi,le⟩:=m;obtain⟨h1,h2,h3⟩:=h;refine bU a0r rfl fun Q hQ=>?_
 simp only at h1 h2 h3;have w1:=iM day 0 1099511627776 h1;refine kw_sr ?_;simp [bG.row];refine kw_seq (kw_sr ?_);simp [w1];refine bD (by simp) ?_
 refine kw_seq (kw_sr ?_);simp;cases drop
 ·obtain⟨a1,a2,a3,a4,a5,a6⟩:=h3 rfl;have w2:=iM to 0 1099511627776 ⟨a1,a2⟩;have w3:=iM mi 0 1439 ⟨a3,a4⟩;have w4:=iM le 1 10080 ⟨a5,a6⟩;refine bD (by simp) ?_
  refine kw_sr ?_;simp [w2,w3,w4];exact aH (hQ _ _ (by simp))
 ·obtain⟨rfl,rfl,rfl⟩:=h2 rfl;refine aj (by simp) ?_
  refine kw_sr ?_;simp
  exact aH (hQ _ _ (by simp)))
theorem DR{H:Heap}{g:Tg}{mv:List bG}{j:Nat}(hj:j<mv.length)(hl:mv.length≤1000):aP H 5 none (.c (.f (sl g (aY mv)))) (vi j)=some (.c (.f (.fp (aY mv).flatten (j*5)))):=by
 have:=iq (H:=H) (g:=g) (rows:=aY mv) (sz:=5) (k:=.i64) (i:=(j:Int)) (by omega) (by simp;omega)
 simpa using this
theorem MF{H:Heap}{mv:List bG}{j:Nat}(hj:j<mv.length):ldV H (some 5) (.c (.f (.fp (aY mv).flatten (j*5))))=some (.a (mv[j].row.map .f)):=mM (dw mv) (iH hj)
theorem DF{H:Heap}{mv:List bG}{j:Nat}(hj:j<mv.length):ldV H none (.c (.f (.fp (aY mv).flatten (j*5))))=some (vi mv[j].day):=by
 have:=mP (H:=H) (rows:=aY mv) (j:=j) (sz:=5) (row:=mv[j].row) (x:=fi mv[j].day) (dw mv) (iH hj) rfl;exact this
theorem oJ{H:Heap}{b fl:Nat}{s:dn}(hb:H[b]?=some (.box (s.row.map .f) fl)) :
  ldV H none (.c (.ptr b 0 0))=some (.c (.f (sl s.rg (aI s.ru))))∧ldV H none (.c (.ptr b 1 0))=some (vi s.mi)∧ldV H none (.c (.ptr b 2 0))=some (vi s.le)∧ldV H none (.c (.ptr b 3 0))=some (.c (.f (.str s.zo))) ∧
  ldV H none (.c (.ptr b 4 0))=some (vi s.gap)∧ldV H none (.c (.ptr b 5 0))=some (vi s.fold)∧ldV H none (.c (.ptr b 6 0))=some (.c (.f (sl s.mg (aY s.mv))))∧ldV H (some 7) (.c (.ptr b 0 0))=some s.v:=by
 refine⟨?_,?_,?_,?_,?_,?_,?_,?_⟩<;>simp [ldV,hb,aF,aO,dn.row]
theorem PO{s:dn}(h:s.OK):Km.Pure tab.get Vg [s.v]=Eq (vb true):=Km.Pure.eq (by
 have hml:=h.ml;have wf:=Cc s.rg h.ru h.rl;have w1:=iM s.mi 0 1439 h.mi;have w2:=iM s.le 1 10080 h.le;have w3:=iM s.gap 0 2 h.gap;have w4:=iM s.fold 0 2 h.fold;have hz:=h.zo;have w5:=iM s.zo.size 1 32 ⟨by omega,by omega⟩
 refine bU a0s rfl fun Q hQ=>?_
 refine kw_sr ?_;simp;obtain⟨H,hH⟩:∃ H:Heap,H=[.box (s.row.map .f) 0]:=⟨_,rfl⟩;have b0:H[0]?=some (.box (s.row.map .f) 0):=by rw [hH];rfl
 obtain⟨e0,e1,e2,e3,e4,e5,e6,e7⟩:=oJ b0;rw [←hH];clear hH;refine kw_seq (kw_sr ?_);simp [e0,e1,e2,e4,e5,wf,w1,w2,w3,w4,-ak];refine bD (by simp) ?_
 refine kw_seq (kw_sr ?_);simp [e3,e6,w5,-ak,show¬ (64:Int)<s.mv.length by omega]
 refine bD (by simp) ?_
 refine kw_seq (kw_sr ?_);simp;refine dU s.mv.length (fun j t J=>t.g 1=.c (.ptr 0 0 0)∧J=H) (by omega) (by decide) (by simp) ⟨by simp,rfl⟩ ?_ ?_ ?_
 ·rintro j t J L hj ⟨g1,rfl⟩ ha hn;simp [ha,g1,e6,-ak];exact hn _ ⟨by simp [g1],rfl⟩ (by simp [ha]) (by simp)
 ·rintro j t J hj ⟨g1,rfl⟩ ha nx;have vm:=xG (h.mo _ (aw hj));have ix:=fun i (hi:i<s.mv.length)=>DR (H:=J) (g:=s.mg) hi (by omega)
  have fin:∀ t:T,t.g 1=.c (.ptr 0 0 0)→t.g 3=vi j→t.g 76=vb false→WP tab.get Vg none [.code Oc,.inBlock 1,.code Ob,.inLoop Oe,.inBlock 0,.code Oa] ⟨t,[],J⟩ Q:=by
   intro t g1 g3 g76;refine ah g76 (aG (au ?_));exact nx _ _ ⟨by simp [g1],rfl⟩ (by simp [g3])
  refine aB (kw_sr ?_);simp [g1,e6,-ak,ha,ix j hj,MF hj,vm];by_cases hj0:j=0
  ·simp [show¬ 0<j by omega]
   exact fin _ (by simp [g1]) (by simp [ha]) (by simp)
  ·have hw:IntKind.i64.wrap ((j:Int)-1)=((j-1:Nat):Int):=by rw [wrap64 (by omega) (by omega)];omega
   have hlt:s.mv[j-1].day<s.mv[j].day:=bL.1 h.ms (j-1) j (by omega) hj (by omega)
   simp [show 0<j by omega,g1,e6,-ak,ha,ix j hj,DF hj,hw,ix (j-1) (by omega),DF (show j-1<s.mv.length by omega),show¬ s.mv[j].day≤s.mv[j-1].day by omega]
   exact fin _ (by simp [g1]) (by simp [ha]) (by simp)
 ·rintro t J ⟨g1,rfl⟩ ha;refine kw_sr ?_;simp
  exact aH (hQ _ _ (by simp)))
end
section
theorem yK(l:List aT):(dat l).length=l.length:=by simp
def wR:List C:=[.f .aC,.f (fi 0),.f (fi 0),.f (.str ⟨#[]⟩),.f (fi 0),.f (fi 0),.f .aC]
structure dn.Eqv(a b:dn):Prop where
 ru:dat a.ru=dat b.ru
 mi:a.mi=b.mi
 le:a.le=b.le
 zo:a.zo=b.zo
 gap:a.gap=b.gap
 fold:a.fold=b.fold
 mv:a.mv=b.mv
set_option maxHeartbeats 1000000 in
theorem MV{s:dn}(hl:s.ru.length≤64)(hli:∀ x ∈ s.ru,x.d.li.length≤61)(hml:s.mv.length≤64):∃ s',dn.Eqv s' s∧Km.Pure tab.get Ve [s.v]=Eq s'.v:=by
 obtain⟨rr,⟨s',hs,rfl⟩,hp⟩:∃ rr,(∃ s',dn.Eqv s' s∧rr=s'.v)∧Km.Pure tab.get Ve [s.v] rr:=by
  refine dN a0q rfl fun Q hQ=>?_
  refine kw_sr ?_;simp;obtain⟨H,hH⟩:∃ H:Heap,H=[.box (s.row.map .f) 0,.box [.f .aC,.f (fi 0),.f (fi 0),.f (.str ⟨#[]⟩),.f (fi 0),.f (fi 0),.f .aC] 0]:=⟨_,rfl⟩;have b0:H[0]?=some (.box (s.row.map .f) 0):=by rw [hH];rfl
  have b1:H[1]?=some (.box wR 0):=by rw [hH];rfl
  rw [←hH];clear hH;refine kw_sr ?_;simp;refine kw_seq (kw_sr ?_);simp
  refine dU s.ru.length (fun i t J=>∃ cn l,t.g 1=.c (.ptr 0 0 0)∧t.g 2=.c (.ptr 1 0 0)∧t.g 3=.c cn∧NL J cn l∧(l.map (·.1))=s.ru.take i∧J[0]?=some (.box (s.row.map .f) 0)∧J[1]?=some (.box wR 0)) (by omega) (by decide) (by simp)
   ⟨.f .es,[],by simp,by simp,by simp,NL.nil _,by simp,b0,b1⟩ ?_ ?_ ?_
  ·rintro i t J L hi ⟨cn,l,g1,g2,g3,hN,hl,b0,b1⟩ ha hn;obtain⟨e0,-⟩:=oJ b0;simp [ha,g1,e0,-ak];exact hn _ ⟨cn,l,by simp [g1],by simp [g2],by simp [g3],hN,hl,b0,b1⟩ (by simp [ha]) (by simp)
  ·rintro i t J hi ⟨cn,l,g1,g2,g3,hN,hl',b0,b1⟩ ha nx;obtain⟨e0,-⟩:=oJ b0;obtain⟨x,hx⟩:∃ x,x=s.ru[i]:=⟨_,rfl⟩;have hxl:x.d.li.length≤61:=by rw [hx];exact hli _ (aw hi)
   have hll:l.length=i:=by have:=congrArg List.length hl';simp at this;omega
   refine aB (kw_sr ?_);simp [g1,e0,-ak,ha,jh hi hl,rH hi,←hx,aT.row];obtain⟨K0,hK0⟩:∃ K0:Heap,K0=J++[.box (x.row.map .f) 0]:=⟨_,rfl⟩;have kx:K0[J.length]?=some (.box (x.row.map .f) 0):=by rw [hK0];simp
   have k0:K0[0]?=some (.box (s.row.map .f) 0):=by rw [hK0,ag (aA b0)];exact b0
   have k1:K0[1]?=some (.box wR 0):=by rw [hK0,ag (aA b1)];exact b1
   have kN:NL K0 cn l:=by rw [hK0];exact hN.push _
   have kl:K0.length=J.length+1:=by rw [hK0];simp
   have hJ1:=aA b1;simp only [aT.row,aM,ba]at hK0;rw [←hK0];clear hK0;obtain⟨p,hp⟩:∃ p,p=J.length:=⟨_,rfl⟩;rw [←hp]at kx kl hJ1 ⊢;refine kw_sr ?_;simp;refine kw_seq (kw_sr ?_);simp
   refine dU x.d.li.length (fun j t K=>∃ c,t.g 1=.c (.ptr 0 0 0)∧t.g 2=.c (.ptr 1 0 0)∧t.g 3=.c cn∧t.g 4=vi i∧t.g 5=.c (.ptr p 0 0)∧t.g 6=.c c∧LR K c 1 (ints (x.d.li.take j))∧Kb K0 K (.f .es)∧(∀ b,bf c=some b→K0.length≤b)) (by omega) (by decide) (by simp)
    ⟨.f .es,by simp [g1],by simp [g2],by simp [g3],by simp [ha],by simp,by simp,.inl ⟨rfl,.inr rfl⟩,Kb.refl _ _,by simp [bf]⟩ ?_ ?_ ?_
   ·rintro j t K L hj ⟨c,g1,g2,g3,g4,g5,g6,hLR,hKb,hcb⟩ ha hn
    have e6:ldV K none (.c (.ptr p 6 0))=some (.c (.f (sl x.tg (ints x.d.li)))):=by
     have:=hKb.2 p _ kx (by simp [bf])
     simp [ldV,this,aF,aO,aT.row]
    simp [ha,g5,e6,-ak];exact hn _ ⟨c,by simp [g1],by simp [g2],by simp [g3],by simp [g4],by simp [g5],by simp [g6],hLR,hKb,hcb⟩ (by simp [ha]) (by simp)
   ·rintro j t K hj ⟨c,g1,g2,g3,g4,g5,g6,hLR,hKb,hcb⟩ ha nx2
    have e6:ldV K none (.c (.ptr p 6 0))=some (.c (.f (sl x.tg (ints x.d.li)))):=by
     have:=hKb.2 p _ kx (by simp [bf])
     simp [ldV,this,aF,aO,aT.row]
    have hix:∀ H,aP H 1 none (.c (.f (sl x.tg (ints x.d.li)))) (vi j)=some (.c (.f (.fp (ints x.d.li).flatten j))):=fun H=>by
     have:=iq (H:=H) (g:=x.tg) (rows:=ints x.d.li) (sz:=1) (k:=.i64) (i:=(j:Int)) (by omega) (by simp;omega)
     simpa using this
    obtain⟨v,hv⟩:∃ v,v=x.d.li[j]:=⟨_,rfl⟩;have hlj:ldV K none (.c (.f (.fp (ints x.d.li).flatten j)))=some (vi v):=by rw [hv];exact rJ hj
    obtain⟨K1,hK1⟩:∃ K1:Heap,K1=K++[.box ([fi v].map .f) 0]:=⟨_,rfl⟩;have hL1:LR K1 c 1 (ints (x.d.li.take j)):=by rw [hK1];exact hLR.push _
    have hb1:K1[K.length]?=some (.box ([fi v].map .f) 0):=by rw [hK1];simp
    obtain⟨c',H',happ,hL',hK',hc'⟩:=hL1.app (jr _) (by decide) (row:=[fi v]) rfl (bytes:=8) (fB (by simp;omega) (by decide)) hb1
    simp only [aM,ba]at hK1;refine aB (kw_region (.inl rfl) ?_);simp [g5,g6,e6,-ak,ha,hix,hlj];rw [←hK1];simp [happ]
    have h1:Kb K0 K1 (.f .es):=by
     refine⟨by have:=hKb.1;rw [hK1];simp;omega,fun i y hy hn=>?_⟩
     rw [hK1,ag (aA (hKb.2 i y hy hn))];exact hKb.2 i y hy hn
    refine au ?_;refine nx2 _ _ ⟨c',by simp [g1],by simp [g2],by simp [g3],by simp [g4],by simp [g5],by simp,?_,?_,?_⟩ (by simp [ha])
    ·rw [aR hj,←hv];have e:ints (x.d.li.take j++[v])=ints (x.d.li.take j)++[[fi v]]:=by simp [ints]
     rw [e];exact hL'
    ·refine⟨bw h1.1 hK'.1,fun i y hy hn=>hK'.2 i y (h1.2 i y hy hn) fun e=>?_⟩
     have:=hcb i e;have:=aA hy;omega
    ·intro b hb;rcases hc' with e | e
     ·exact hcb b (by rw [←e];exact hb)
     ·rw [hb]at e;cases e;exact h1.1
   ·rintro t K ⟨c,g1,g2,g3,g4,g5,g6,hLR,hKb,hcb⟩ ha;rw [cm]at hLR;have kp:=hKb.2 p _ kx (by simp [bf])
    have hst:stC K (.ptr p 6 0) [c]=some (K.set p (.box (x.cel c) 0)):=by
     simp [stC,kp,aT.row,aT.cel,over]
    have hpc:bf c≠some p:=fun e=>by have:=hcb p e;omega
    obtain⟨K2,hK2⟩:∃ K2:Heap,K2=K.set p (.box (x.cel c) 0):=⟨_,rfl⟩;have k2p:K2[p]?=some (.box (x.cel c) 0):=by rw [hK2];exact az (aA kp)
    have k2k:∀(i:Nat) (y:Blk),K0[i]?=some y→i≠p→K2[i]?=some y:=fun i y hy hi=>by
     rw [hK2,am (Ne.symm hi)];exact hKb.2 i y hy (by simp [bf])
    have k2N:NL K2 cn l:=kN.keep fun i y hy hb=>k2k i y hy (by rintro rfl;rw [kx]at hy;cases hy;exact hb _ _ rfl)
    have k2L:LR K2 c 1 (ints x.d.li):=by rw [hK2];exact hLR.set hpc _
    have e8:ldV K2 (some 8) (.c (.ptr p 0 0))=some (.a (x.cel c)):=by simp [ldV,k2p,aF,aO,aT.cel]
    refine kw_sr ?_;simp [g6,g5,hst,-bJ];rw [←hK2];obtain⟨K3,hK3⟩:∃ K3:Heap,K3=K2++[.box (x.cel c) 0]:=⟨_,rfl⟩;have k3N:NL K3 cn l:=by rw [hK3];exact k2N.push _
    have k3L:LR K3 c 1 (ints x.d.li):=by rw [hK3];exact k2L.push _
    have k3b:K3[K2.length]?=some (.box (x.cel c) 0):=by rw [hK3];simp
    have k3k:∀(i:Nat) (y:Blk),K0[i]?=some y→i≠p→K3[i]?=some y:=fun i y hy hi=>by
     have:=k2k i y hy hi;rw [hK3,ag (aA this)];exact this
    obtain⟨cn',H',happ,hN',hK',hc'⟩:=k3N.app (by omega) k3L k3b
    have hc8:(x.cel c).length=8:=rfl;refine kw_region (.inl rfl) ?_;simp [g3,g5,e8,-ak,hc8];rw [←hK3];simp [happ];refine au ?_;refine nx _ _ ⟨cn',l++[(x,c)],by simp [g1],by simp [g2],by simp,hN',?_,?_,?_⟩ (by simp [g4])
    ·rw [List.map_append,hl',aR hi,←hx];rfl
    ·exact hK'.2 0 _ (k3k 0 _ k0 (by omega)) (k3N.eG (k3k 0 _ k0 (by omega)))
    ·exact hK'.2 1 _ (k3k 1 _ k1 (by omega)) (k3N.eG (k3k 1 _ k1 (by omega)))
  ·rintro t J ⟨cn,l,g1,g2,g3,hN,hl',b0,b1⟩ ha;rw [cm]at hl';refine kw_sr ?_;simp;refine kw_seq (kw_sr ?_);simp
   refine dU s.mv.length (fun j t K=>∃ c,t.g 1=.c (.ptr 0 0 0)∧t.g 2=.c (.ptr 1 0 0)∧t.g 3=.c cn∧t.g 8=.c c∧LR K c 5 (aY (s.mv.take j))∧Kb J K (.f .es)∧(∀ b,bf c=some b→J.length≤b)) (by omega) (by decide) (by simp)
    ⟨.f .es,by simp [g1],by simp [g2],by simp [g3],by simp,.inl ⟨rfl,.inr rfl⟩,Kb.refl _ _,by simp [bf]⟩ ?_ ?_ ?_
   ·rintro j t K L hj ⟨c,g1,g2,g3,g8,hLR,hKb,hcb⟩ ha hn;obtain⟨-,-,-,-,-,-,e6,-⟩:=oJ (hKb.2 0 _ b0 (by simp [bf]))
    simp [ha,g1,e6,-ak];exact hn _ ⟨c,by simp [g1],by simp [g2],by simp [g3],by simp [g8],hLR,hKb,hcb⟩ (by simp [ha]) (by simp)
   ·rintro j t K hj ⟨c,g1,g2,g3,g8,hLR,hKb,hcb⟩ ha nx;obtain⟨-,-,-,-,-,-,e6,-⟩:=oJ (hKb.2 0 _ b0 (by simp [bf]))
    obtain⟨m,hm⟩:∃ m,m=s.mv[j]:=⟨_,rfl⟩;obtain⟨K1,hK1⟩:∃ K1:Heap,K1=K++[.box (m.row.map .f) 0]:=⟨_,rfl⟩;have hL1:LR K1 c 5 (aY (s.mv.take j)):=by rw [hK1];exact hLR.push _
    have hb1:K1[K.length]?=some (.box (m.row.map .f) 0):=by rw [hK1];simp
    obtain⟨c',H',happ,hL',hK',hc'⟩:=hL1.app (dw _) (by decide) (row:=m.row) rfl (bytes:=40) (fB (by simp;omega) (by decide)) hb1
    simp only [bG.row,aM,ba]at hK1;refine aB (kw_region (.inl rfl) ?_);simp [g1,g8,e6,-ak,ha,DR hj (by omega),MF hj,←hm,bG.row]
    rw [←hK1];simp [happ]
    have h1:Kb J K1 (.f .es):=by
     refine⟨by have:=hKb.1;rw [hK1];simp;omega,fun i y hy hn=>?_⟩
     rw [hK1,ag (aA (hKb.2 i y hy hn))];exact hKb.2 i y hy hn
    refine au ?_;refine nx _ _ ⟨c',by simp [g1],by simp [g2],by simp [g3],by simp,?_,?_,?_⟩ (by simp [ha])
    ·rw [aR hj,←hm];have e:aY (s.mv.take j++[m])=aY (s.mv.take j)++[m.row]:=by simp [aY]
     rw [e];exact hL'
    ·refine⟨bw h1.1 hK'.1,fun i y hy hn=>hK'.2 i y (h1.2 i y hy hn) fun e=>?_⟩
     have:=hcb i e;have:=aA hy;omega
    ·intro b hb;rcases hc' with e | e
     ·exact hcb b (by rw [←e];exact hb)
     ·rw [hb]at e;cases e;exact h1.1
   ·rintro t K ⟨c,g1,g2,g3,g8,hLR,hKb,hcb⟩ ha;rw [cm]at hLR;have k0:=hKb.2 0 _ b0 (by simp [bf])
    have k1:=hKb.2 1 _ b1 (by simp [bf])
    have hJ1:=aA b1
    have st1:stC K (.ptr 0 0 0) [cn]=some (K.set 0 (.box [cn,cI s.mi,cI s.le,.f (.str s.zo),cI s.gap,cI s.fold,.f (sl s.mg (aY s.mv))] 0)):=by
     simp [stC,k0,dn.row,over]
    obtain⟨K2,hK2⟩:∃ K2:Heap,K2=K.set 0 (.box [cn,cI s.mi,cI s.le,.f (.str s.zo),cI s.gap,cI s.fold,.f (sl s.mg (aY s.mv))] 0):=⟨_,rfl⟩;have k20:K2[0]?=some (.box [cn,cI s.mi,cI s.le,.f (.str s.zo),cI s.gap,cI s.fold,.f (sl s.mg (aY s.mv))] 0):=by rw [hK2];exact az (aA k0)
    have st2:stC K2 (.ptr 0 6 0) [c]=some (K2.set 0 (.box [cn,cI s.mi,cI s.le,.f (.str s.zo),cI s.gap,cI s.fold,c] 0)):=by
     simp [stC,k20,over]
    obtain⟨K3,hK3⟩:∃ K3:Heap,K3=K2.set 0 (.box [cn,cI s.mi,cI s.le,.f (.str s.zo),cI s.gap,cI s.fold,c] 0):=⟨_,rfl⟩;have k30:K3[0]?=some (.box [cn,cI s.mi,cI s.le,.f (.str s.zo),cI s.gap,cI s.fold,c] 0):=by rw [hK3];exact az (aA k20)
    have k31:K3[1]?=some (.box wR 0):=by rw [hK3,am (by decide),hK2,am (by decide)];exact k1
    have e7:ldV K3 (some 7) (.c (.ptr 0 0 0))=some (.a [cn,cI s.mi,cI s.le,.f (.str s.zo),cI s.gap,cI s.fold,c]):=by simp [ldV,k30,aF,aO]
    have st3:stC K3 (.ptr 1 0 0) [cn,cI s.mi,cI s.le,.f (.str s.zo),cI s.gap,cI s.fold,c]=some (K3.set 1 (.box [cn,cI s.mi,cI s.le,.f (.str s.zo),cI s.gap,cI s.fold,c] 0)):=by
     simp [stC,k31,over,wR]
    obtain⟨K4,hK4⟩:∃ K4:Heap,K4=K3.set 1 (.box [cn,cI s.mi,cI s.le,.f (.str s.zo),cI s.gap,cI s.fold,c] 0):=⟨_,rfl⟩;have k41:K4[1]?=some (.box [cn,cI s.mi,cI s.le,.f (.str s.zo),cI s.gap,cI s.fold,c] 0):=by rw [hK4];exact az (aA k31)
    have up:∀(i:Nat) (y:Blk),K[i]?=some y→i≠0→i≠1→K4[i]?=some y:=fun i y hy h0 h1=>by
     rw [hK4,am (Ne.symm h1),hK3,am (Ne.symm h0),hK2,am (Ne.symm h0)];exact hy
    have hN4:NL K4 cn l:=hN.keep fun i y hy hb=>up i y (hKb.2 i y hy (by simp [bf])) (by rintro rfl;rw [b0]at hy;cases hy;exact hb _ _ rfl) (by rintro rfl;rw [b1]at hy;cases hy;exact hb _ _ rfl)
    have hL4:LR K4 c 5 (aY s.mv):=hLR.keep fun i y hy hi=>up i y hy (by rintro rfl;have:=hcb 0 hi;omega) (by rintro rfl;have:=hcb 1 hi;omega)
    obtain⟨g',l',hd,hx1⟩:=hN4.ex 62;obtain⟨g'',hx2⟩:=hL4.ex (dw _) 63;refine kw_sr ?_;simp [g1,g3,st1,-bJ];rw [←hK2];refine kw_sr ?_;simp [g1,g8,st2,-bJ];rw [←hK3];refine kw_sr ?_;simp [g1,g2,e7,st3,-bJ,-ak];rw [←hK4];have e41:ldV K4 (some 7) (.c (.ptr 1 0 0))=some (.a [cn,cI s.mi,cI s.le,.f (.str s.zo),cI s.gap,cI s.fold,c]):=by simp [ldV,k41,aF,aO]
    refine aH (hQ _ _ _ ⟨⟨g',l',s.mi,s.le,s.zo,s.gap,s.fold,g'',s.mv⟩,⟨?_,rfl,rfl,rfl,rfl,rfl,rfl⟩,rfl⟩ ⟨rfl,.a [cn,cI s.mi,cI s.le,.f (.str s.zo),cI s.gap,cI s.fold,c],?_,?_⟩)
    ·show dat l'=dat s.ru
     rw [hd,←hl'];simp
    ·simp [Km.results,bT,aZ,g2,e41,-ak]
    ·have d1:exC deep K4 cn=some (sl g' (aI l')):=hx1;have d2:exC deep K4 c=some (sl g'' (aY s.mv)):=hx2;simp [exV,dG,aZ,d1,d2,dn.row]
 exact⟨s',hs,hp.eq⟩
end
section
def dn.cel(s:dn)(c:C):List C:=[.f (sl s.rg (aI s.ru)),cI s.mi,cI s.le,.f (.str s.zo),cI s.gap,cI s.fold,c]
structure OvI(s q:dn)(m:bG)(J:Heap)(acc:List bG)(c:C):Prop where
 b0:J[0]?=some (.box (s.row.map .f) 0)
 b1:J[1]?=some (.box (m.row.map .f) 0)
 b2:J[2]?=some (.box wR 0)
 b3:J[3]?=some (.box (q.cel c) 0)
 lr:LR J c 5 (aY acc)
 cb:∀ b,bf c=some b→4≤b
theorem Fb(l:List bG)(x:bG):aY (l++[x])=aY l++[x.row]:=by simp [aY]
theorem OvI.app{s q:dn}{m:bG}{J:Heap}{acc:List bG}{c:C}(h:OvI s q m J acc c)(ha:acc.length≤1000)(x:bG) :
  ∃ c' H' H'',dI (J++[.box (x.row.map .f) 0]) 5 40 (.c c) (.c (.sl J.length 0 1 1 0 5))=some (.c c',H')∧stC H' (.ptr 3 6 0) [c']=some H''∧OvI s q m H'' (acc++[x]) c':=by
 obtain⟨K,hK⟩:∃ K:Heap,K=J++[.box (x.row.map .f) 0]:=⟨_,rfl⟩;have up:∀ {i:Nat} {y:Blk},J[i]?=some y→K[i]?=some y:=fun {i y} hy=>by rw [hK,ag (aA hy)];exact hy
 have hL:LR K c 5 (aY acc):=by rw [hK];exact h.lr.push _
 have hb:K[J.length]?=some (.box (x.row.map .f) 0):=by rw [hK];simp
 have hJ3:=aA h.b3;have hKl:K.length=J.length+1:=by rw [hK];simp
 obtain⟨c',H',happ,hL',hK',hc'⟩:=hL.app (dw _) (by decide) (row:=x.row) rfl (bytes:=40) (fB (by simp;omega) (by decide)) hb
 have nb:∀ i,i<4→bf c≠some i:=fun i hi e=>by have:=h.cb i e;omega
 have cb':∀ b,bf c'=some b→4≤b:=fun b hb=>by
  rcases hc' with e | e
  ·exact h.cb b (by rw [←e];exact hb)
  ·rw [hb]at e;cases e;omega
 have h3:=hK'.2 3 _ (up h.b3) (nb 3 (by decide))
 refine⟨c',H',H'.set 3 (.box (q.cel c') 0),by rw [←hK];exact happ,by simp [stC,h3,dn.cel,over],⟨?_,?_,?_,?_,?_,cb'⟩⟩
 ·rw [am (by decide)];exact hK'.2 0 _ (up h.b0) (nb 0 (by decide))
 ·rw [am (by decide)];exact hK'.2 1 _ (up h.b1) (nb 1 (by decide))
 ·rw [am (by decide)];exact hK'.2 2 _ (up h.b2) (nb 2 (by decide))
 ·exact az (aA h3)
 ·rw [Fb];exact hL'.set (fun e=>by have:=cb' 3 e;omega) _
theorem OvI.lds{s q:dn}{m:bG}{J:Heap}{acc:List bG}{c:C}(h:OvI s q m J acc c) :
  ldV J none (.c (.ptr 3 6 0))=some (.c c)∧ldV J none (.c (.ptr 0 6 0))=some (.c (.f (sl s.mg (aY s.mv))))∧ldV J none (.c (.ptr 1 0 0))=some (vi m.day)∧ldV J (some 5) (.c (.ptr 1 0 0))=some (.a (m.row.map .f)):=by
 have h0:=h.b0;have h1:=h.b1;have h3:=h.b3;refine⟨?_,?_,?_,?_⟩
 ·simp [ldV,h3,aF,aO,dn.cel]
 ·simp [ldV,h0,aF,aO,dn.row]
 ·simp [ldV,h1,aF,aO,bG.row]
 ·simp [ldV,h1,aF,aO,bG.row]
theorem xq{α:Type}(p:α→Bool)(l:List α):(l.filter p).length≤l.length:=List.length_filter_le p l
set_option maxHeartbeats 1000000 in
theorem E5{s:dn}(h:s.OK)(hml:s.mv.length≤60){m:bG}(hm:m.OK) :
  ∃ q,dn.Eqv q ⟨s.rg,s.ru,s.mi,s.le,s.zo,s.gap,s.fold,s.mg,ovr s.mv m⟩∧Km.Pure tab.get Vh [s.v,.a (m.row.map .f)]=Eq (.t [q.v,vi 0]):=by
 have ahd:=PO h;have hvm:=xG hm
 obtain⟨q,hq,vZ⟩:=MV (s:=s) h.rl (fun x hx=>by
  obtain⟨i,hi,rfl⟩:=bq hx;have:=(h.ru.at_ i (by simpa using hi)).ok.1
  simpa using this) h.ml
 obtain⟨rr,⟨q',hq',rfl⟩,hp⟩:∃ rr,(∃ q',dn.Eqv q' ⟨s.rg,s.ru,s.mi,s.le,s.zo,s.gap,s.fold,s.mg,ovr s.mv m⟩∧rr=.t [q'.v,vi 0])∧Km.Pure tab.get Vh [s.v,.a (m.row.map .f)] rr:=by
  refine dN a0t rfl fun Q hQ=>?_
  refine kw_sr ?_;simp;obtain⟨H,hH⟩:∃ H:Heap,H=[.box (s.row.map .f) 0,.box (m.row.map .f) 0,.box wR 0]:=⟨_,rfl⟩;have b0:H[0]?=some (.box (s.row.map .f) 0):=by rw [hH];rfl
  have b1:H[1]?=some (.box (m.row.map .f) 0):=by rw [hH];rfl
  have b2:H[2]?=some (.box wR 0):=by rw [hH];rfl
  have hl:H.length=3:=by rw [hH];rfl
  simp only [wR]at hH;rw [←hH];clear hH;obtain⟨-,-,-,-,-,-,-,e7⟩:=oJ b0;have e5:ldV H (some 5) (.c (.ptr 1 0 0))=some (.a (m.row.map .f)):=by simp [ldV,b1,aF,aO,bG.row]
  refine kw_seq (kw_sr ?_);simp [e7,e5,-ak,ahd,hvm];refine bD (by simp) ?_
  refine kw_sr ?_;have hq7:q.row.length=7:=rfl;simp [e7,-ak,vZ,hq7,hl];obtain⟨K,hK⟩:∃ K:Heap,K=H++[.box (q.row.map .f) 0]:=⟨_,rfl⟩;have up:∀ {i:Nat} {y:Blk},H[i]?=some y→K[i]?=some y:=fun {i y} hy=>by rw [hK,ag (aA hy)];exact hy
  have k3:K[3]?=some (.box (q.row.map .f) 0):=by rw [hK,bj (by omega),hl];rfl
  rw [←hK];have st1:stC K (.ptr 3 6 0) [.f .aC]=some (K.set 3 (.box (q.cel (.f .aC)) 0)):=by simp [stC,k3,dn.row,dn.cel,over]
  have hO:OvI s q m (K.set 3 (.box (q.cel (.f .aC)) 0)) [] (.f .aC):=⟨by rw [am (by decide)];exact up b0,by rw [am (by decide)];exact up b1,by rw [am (by decide)];exact up b2,az (aA k3),.inl ⟨rfl,.inl rfl⟩,fun b hb=>by simp [bf]at hb⟩
  obtain⟨J0,hJ0⟩:∃ J0:Heap,J0=K.set 3 (.box (q.cel (.f .aC)) 0):=⟨_,rfl⟩;rw [←hJ0]at hO st1;clear hJ0 k3 hK up vZ ahd e7 e5 b0 b1 b2 hl;refine kw_sr ?_;simp [st1,-bJ];clear st1;refine kw_seq (kw_sr ?_);simp;have ix:=fun(H:Heap) i (hi:i<s.mv.length)=>DR (H:=H) (g:=s.mg) hi (by omega)
  refine dU s.mv.length (fun j t J=>∃ c,t.g 2=.c (.ptr 0 0 0)∧t.g 3=.c (.ptr 1 0 0)∧t.g 4=.c (.ptr 2 0 0)∧t.g 6=.c (.ptr 3 0 0)∧OvI s q m J ((s.mv.take j).filter fun x=>decide (x.day<m.day)) c) (by omega) (by decide) (by simp)
   ⟨.f .aC,by simp,by simp,by simp,by simp,by simpa using hO⟩ ?_ ?_ ?_
  ·rintro j t J L hj ⟨c,g2,g3,g4,g6,hI⟩ ha hn;obtain⟨l1,l2,l3,l4⟩:=hI.lds;simp [ha,g2,l2,-ak];exact hn _ ⟨c,by simp [g2],by simp [g3],by simp [g4],by simp [g6],hI⟩ (by simp [ha]) (by simp)
  ·rintro j t J hj ⟨c,g2,g3,g4,g6,hI⟩ ha nx;obtain⟨l1,l2,l3,l4⟩:=hI.lds;have hlen:((s.mv.take j).filter fun x=>decide (x.day<m.day)).length≤1000:=bw (xq _ _) (by simp;omega)
   obtain⟨x,hx⟩:∃ x,x=s.mv[j]:=⟨_,rfl⟩;have hld:=MF (H:=J) hj;have ahi:=DF (H:=J) hj;rw [←hx]at hld ahi
   have htk:(s.mv.take (j+1)).filter (fun x=>decide (x.day<m.day))=(s.mv.take j).filter (fun x=>decide (x.day<m.day))++if x.day<m.day then [x]else []:=by
    rw [aR hj,←hx,List.filter_append]
    congr 1
    by_cases hd:x.day<m.day<;>simp [hd]
   refine aB (kw_sr ?_);simp [g2,g3,l2,l3,-ak,ha,ix _ j hj,ahi];by_cases hd:x.day<m.day
   ·rw [if_pos hd]at htk;obtain⟨c',H',H'',happ,hst,hI'⟩:=hI.app hlen x;simp only [bG.row,aM,ba]at happ;refine aj (by simp [hd]) (kw_region (.inl rfl) ?_)
    simp [g2,g6,l1,l2,-ak,ha,ix _ j hj,hld,bG.row,happ,hst,-bJ];refine au ?_;refine nx _ _ ⟨c',by simp [g2],by simp [g3],by simp [g4],by simp [g6],by rw [htk];exact hI'⟩ (by simp [ha])
   ·rw [if_neg hd,df]at htk;refine ah (by simp [hd]) (aG (au ?_))
    refine nx _ _ ⟨c,by simp [g2],by simp [g3],by simp [g4],by simp [g6],by rw [htk];exact hI⟩ (by simp [ha])
  ·rintro t J ⟨c,g2,g3,g4,g6,hI⟩ ha;rw [cm]at hI;obtain⟨F1,hF1⟩:∃ F1,F1=s.mv.filter fun x=>decide (x.day<m.day):=⟨_,rfl⟩
   rw [←hF1]at hI;have a9g:F1.length≤60:=by rw [hF1];exact bw (xq _ _) hml
   obtain⟨l1,l2,l3,l4⟩:=hI.lds;obtain⟨c',H',H'',happ,hst,hI'⟩:=hI.app (by omega) m
   have hmr:(m.row.map C.f).length=5:=rfl;refine kw_sr ?_;simp [g3,g6,l1,l4,-ak,hmr,happ,hst,-bJ];clear l1 l2 l3 l4 happ hst hI;refine kw_seq (kw_sr ?_);simp
   refine dU s.mv.length (fun j t J=>∃ c,t.g 2=.c (.ptr 0 0 0)∧t.g 3=.c (.ptr 1 0 0)∧t.g 4=.c (.ptr 2 0 0)∧t.g 6=.c (.ptr 3 0 0)∧OvI s q m J (F1++[m]++(s.mv.take j).filter fun x=>decide (m.day<x.day)) c) (by omega) (by decide) (by simp)
    ⟨c',by simp [g2],by simp [g3],by simp [g4],by simp [g6],by simpa using hI'⟩ ?_ ?_ ?_
   ·rintro j t J L hj ⟨c,g2,g3,g4,g6,hI⟩ ha hn;obtain⟨l1,l2,l3,l4⟩:=hI.lds;simp [ha,g2,l2,-ak];exact hn _ ⟨c,by simp [g2],by simp [g3],by simp [g4],by simp [g6],hI⟩ (by simp [ha]) (by simp)
   ·rintro j t J hj ⟨c,g2,g3,g4,g6,hI⟩ ha nx;obtain⟨l1,l2,l3,l4⟩:=hI.lds
    have hlen:(F1++[m]++(s.mv.take j).filter fun x=>decide (m.day<x.day)).length≤1000:=by
     have:=xq (fun x:bG=>decide (m.day<x.day)) (s.mv.take j)
     have:(s.mv.take j).length≤60:=by simp;omega
     simp only [bp,db];omega
    obtain⟨x,hx⟩:∃ x,x=s.mv[j]:=⟨_,rfl⟩;have hld:=MF (H:=J) hj;have ahi:=DF (H:=J) hj;rw [←hx]at hld ahi
    have htk:F1++[m]++(s.mv.take (j+1)).filter (fun x=>decide (m.day<x.day))=F1++[m]++(s.mv.take j).filter (fun x=>decide (m.day<x.day))++if m.day<x.day then [x]else []:=by
     rw [aR hj,←hx,List.filter_append,←de]
     congr 1
     by_cases hd:m.day<x.day<;>simp [hd]
    refine aB (kw_sr ?_);simp [g2,g3,l2,l3,-ak,ha,ix _ j hj,ahi];by_cases hd:m.day<x.day
    ·rw [if_pos hd]at htk;obtain⟨c',H',H'',happ,hst,hI'⟩:=hI.app hlen x;simp only [bG.row,aM,ba]at happ;refine aj (by simp [hd]) (kw_region (.inl rfl) ?_)
     simp [g2,g6,l1,l2,-ak,ha,ix _ j hj,hld,bG.row,happ,hst,-bJ];refine au ?_;refine nx _ _ ⟨c',by simp [g2],by simp [g3],by simp [g4],by simp [g6],by rw [htk];exact hI'⟩ (by simp [ha])
    ·rw [if_neg hd,df]at htk;refine ah (by simp [hd]) (aG (au ?_))
     refine nx _ _ ⟨c,by simp [g2],by simp [g3],by simp [g4],by simp [g6],by rw [htk];exact hI⟩ (by simp [ha])
   ·rintro t J ⟨c,g2,g3,g4,g6,hI⟩ ha;rw [cm]at hI;have hov:F1++[m]++s.mv.filter (fun x=>decide (m.day<x.day))=ovr s.mv m:=by rw [hF1];simp [ovr]
    rw [hov]at hI;have hol:=Ut (m:=m) h.ms;obtain⟨l1,-,-,-⟩:=hI.lds
    have e3:ldV J (some 7) (.c (.ptr 3 0 0))=some (.a (q.cel c)):=by
     have:=hI.b3;simp [ldV,this,aF,aO,dn.cel]
    have hb2:=hI.b2;have st3:stC J (.ptr 2 0 0) (q.cel c)=some (J.set 2 (.box (q.cel c) 0)):=by simp [stC,hb2,wR,over,dn.cel]
    have hln:=hI.lr.len;have a5v:(q.cel c).length=7:=rfl;refine kw_seq (kw_sr ?_);simp [g6,l1,-ak,hln,show¬ (64:Int)<(ovr s.mv m).length by omega]
    refine bD (by simp) ?_
    refine kw_sr ?_;simp [g6,g4,e3,st3,-ak,-bJ,a5v];obtain⟨Jf,hJf⟩:∃ Jf:Heap,Jf=J.set 2 (.box (q.cel c) 0):=⟨_,rfl⟩;rw [←hJf];have hL:LR Jf c 5 (aY (ovr s.mv m)):=by rw [hJf];exact hI.lr.set (fun e=>by have:=hI.cb 2 e;omega) _
    obtain⟨g',hx⟩:=hL.ex (dw _) 63;have hx':exC deep Jf c=some (sl g' (aY (ovr s.mv m))):=hx
    have e2:ldV Jf (some 7) (.c (.ptr 2 0 0))=some (.a (q.cel c)):=by
     have:Jf[2]?=some (.box (q.cel c) 0):=by rw [hJf];exact az (aA hb2)
     simp [ldV,this,aF,aO,dn.cel]
    refine aH (hQ _ _ _ ⟨⟨q.rg,q.ru,q.mi,q.le,q.zo,q.gap,q.fold,g',ovr s.mv m⟩,⟨hq.ru,hq.mi,hq.le,hq.zo,hq.gap,hq.fold,rfl⟩,rfl⟩ ⟨rfl,.t [.a (q.cel c),vi 0],?_,?_⟩)
    ·simp [Km.results,bT,aZ,g4,e2,-ak]
    ·simp [exV,dG,aZ,hx',dn.row,dn.cel]
 exact⟨q',hq',hp.eq⟩
end
section
inductive iP:List TrD→List TrD→Prop
 | nil:iP [] []
 | step {r o o' t}:iP r o→ah9 t o o'→iP (r++[t]) o'
def TLe(a b:TrD):Prop:=a.at_≤b.at_
def TLt(a b:TrD):Prop:=a.at_<b.at_
theorem ah9.perm{t:TrD}{l o:List TrD}(h:ah9 t l o):o.Perm (l++[t]):=by
 obtain⟨A,B,rfl,rfl,-,-⟩:=h;exact List.perm_middle.trans (List.perm_append_singleton t (A++B)).symm
theorem iP.perm:∀ {r o:List TrD},iP r o→o.Perm r
 | _,_,.nil=>List.Perm.refl _
 | _,_,.step h ht=>ht.perm.trans ((iP.perm h).append_right _)
theorem iP.len{r o:List TrD}(h:iP r o):o.length=r.length:=h.perm.length_eq
theorem Aw:∀ {a b:List TrD},a.Pairwise TLt→b.Pairwise TLe→b.Perm a→b=a
 | [],b,_,_,h=>h.eq_nil
 | x::a,[],_,_,h=>by cases h.symm.eq_nil
 | x::a,y::b,ha,hb,h=>by
  rw [dj]at ha hb
  have hxy:y=x:=by
   have hy:y ∈ x::a:=h.subset (bh ..);have hx:x ∈ y::b:=h.symm.subset (bh ..);rcases cG.1 hy with e | hy
   ·exact e
   ·rcases cG.1 hx with e | hx
    ·exact e.symm
    ·have h1:=ha.1 y hy;have h2:=hb.1 x hx;unfold TLt at h1;unfold TLe at h2;omega
  subst hxy;rw [Aw ha.2 hb.2 (h.cons_inv)]
def gQ(o:List TrD)(size:Int)(i:Nat):Int:=match o[i+1]? with
 | some y=>y.at_
 | none=>(match o[0]? with | some y=>y.at_ | none=>0)+size
def pz(o:List TrD)(size:Int)(n:Nat):Bool:=(List.range n).all fun i=>match o[i]? with
 | some x=>decide (2160≤gQ o size i-x.at_)
 | none=>true
def fF(o:List TrD)(size:Int):Bool:=pz o size o.length
theorem FQ{o:List TrD}{size:Int}(h:fF o size=true):∀ i x y,o[i]?=some x→o[i+1]?=some y→x.at_+2160≤y.at_:=by
 intro i x y hx hy;unfold fF pz at h;have h1:=bi.1 h i (by have:=(ai.1 hx).1;simpa using this)
 simp only [hx,gQ,hy]at h1;have:=of_decide_eq_true h1;omega
theorem vC:∀ {o:List TrD},(∀ i x y,o[i]?=some x→o[i+1]?=some y→x.at_+2160≤y.at_)→o.Pairwise TLt
 | [],_=>List.Pairwise.nil
 | [x],_=>dc _ _
 | x::y::l,h=>by
  have ih:=vC (o:=y::l) fun i a b ha hb=>h (i+1) a b (by simpa using ha) (by simpa using hb)
  have hxy:x.at_+2160≤y.at_:=h 0 x y (by simp) (by simp)
  refine dj.2 ⟨fun z hz=>?_,ih⟩
  unfold TLt;rcases cG.1 hz with rfl | hz
  ·omega
  ·have:=(dj.1 ih).1 z hz;unfold TLt at this;omega
theorem oL{o:List TrD}{size:Int}(h:fF o size=true):o.Pairwise TLt:=vC (FQ h)
def epC:Nat→Int
 | 0=>2
 | _=>5
def bgn(c:Nat):Nat→Int
 | 0=>epC c
 | y+1=>bgn c y+(zf c (y+1):Nat)
def nY:Nat→Nat
 | 0=>7
 | _=>14
def cyc(c:Nat):Int:=7*(lW c:Nat)
theorem JF{c:Nat}(hc:c<3):bgn c (nY c)=epC c+cyc c:=by
 have:c=0∨c=1∨c=2:=by omega
 rcases this with rfl | rfl | rfl<;>decide
theorem Ko(c y:Nat):12≤zf c y:=by
 have h1:=yc c y 1;have h2:=yc c y 2;unfold zf;omega
theorem JE(c:Nat){y y':Nat}(h:y<y'):bgn c y<bgn c y':=by
 induction h with
 | refl=>have:=Ko c (y+1);simp only [bgn];omega
 | step _ ih=>rename_i m _;have:=Ko c (m+1);simp only [bgn]at *;omega
theorem Ej{c y:Nat}(hc:c<3)(hy:y≤nY c):2≤bgn c y∧bgn c y≤222:=by
 have h0:bgn c 0≤bgn c y:=by
  rcases cB y with rfl | h
  ·exact dl _
  ·exact Int.le_of_lt (JE c h)
 have h1:bgn c y≤bgn c (nY c):=by
  rcases Nat.lt_or_eq_of_le hy with h | rfl
  ·exact Int.le_of_lt (JE c h)
  ·exact dl _
 rw [JF hc]at h1;have:c=0∨c=1∨c=2:=by omega
 rcases this with rfl | rfl | rfl<;>simp [bgn,epC,cyc,lW]at h0 h1<;>omega
def iD(c y:Nat)(r q:YrD):List TrD:=
 let b:=bgn c (y-1)
 if kM (fmD c y b r) (mlD c y r) r.wk r.wd then [⟨oV (fmD c y b r) (mlD c y r) r.wk r.wd*1440+r.mi-q.off,r.off⟩]else []
def vX(c:Nat)(r q:YrD):Nat→List TrD
 | 0=>[]
 | n+1=>vX c r q n++(iD c (n+1) r q++iD c (n+1) q r)
theorem nO(c y:Nat)(r q:YrD):(iD c y r q).length≤1:=by simp only [iD];split<;>simp
theorem nK(c:Nat)(r q:YrD):∀ n,(vX c r q n).length≤2*n
 | 0=>by simp [vX]
 | n+1=>by
  have h1:=nK c r q n;have h2:=nO c (n+1) r q;have h3:=nO c (n+1) q r;simp only [vX,bp];omega
end
section
structure ZD where
 c:Nat
 start:Int
 tg:Tg
 tr:List TrD
 hor:Int
 yg:Tg
 yr:List YrD
def ZD.row(z:ZD):List FC:=jV z.c++[fi z.start,sl z.tg (aS z.tr),fi z.hor,sl z.yg (bV z.yr)]
abbrev ZD.v(z:ZD):V:=.a (z.row.map .f)
theorem ZD.BD{z:ZD}(hc:z.c<3):z.row.length=8:=by
 obtain⟨c,s,tg,tr,h,yg,yr⟩:=z;have:c=0∨c=1∨c=2:=by simp at hc;omega
 rcases this with rfl | rfl | rfl<;>rfl
section
variable{H:Heap}{b:Nat}{z:ZD}{fl:Nat}
theorem agS(h:H[b]?=some (.box (z.row.map .f) fl))(hc:z.c<3):ldV H none (.c (.ptr b 4 0))=some (vi z.start):=by
 obtain⟨c,s,tg,tr,h',yg,yr⟩:=z;have:c=0∨c=1∨c=2:=by simp at hc;omega
 rcases this with rfl | rfl | rfl<;>simp [ldV,h,aF,ZD.row,jV,aO]
theorem jP(h:H[b]?=some (.box (z.row.map .f) fl))(hc:z.c<3):ldV H none (.c (.ptr b 5 0))=some (.c (.f (sl z.tg (aS z.tr)))):=by
 obtain⟨c,s,tg,tr,h',yg,yr⟩:=z;have:c=0∨c=1∨c=2:=by simp at hc;omega
 rcases this with rfl | rfl | rfl<;>simp [ldV,h,aF,ZD.row,jV,aO]
theorem rF(h:H[b]?=some (.box (z.row.map .f) fl))(hc:z.c<3):ldV H none (.c (.ptr b 6 0))=some (vi z.hor):=by
 obtain⟨c,s,tg,tr,h',yg,yr⟩:=z;have:c=0∨c=1∨c=2:=by simp at hc;omega
 rcases this with rfl | rfl | rfl<;>simp [ldV,h,aF,ZD.row,jV,aO]
theorem kU(h:H[b]?=some (.box (z.row.map .f) fl))(hc:z.c<3):ldV H none (.c (.ptr b 7 0))=some (.c (.f (sl z.yg (bV z.yr)))):=by
 obtain⟨c,s,tg,tr,h',yg,yr⟩:=z;have:c=0∨c=1∨c=2:=by simp at hc;omega
 rcases this with rfl | rfl | rfl<;>simp [ldV,h,aF,ZD.row,jV,aO]
theorem Ji(h:H[b]?=some (.box (z.row.map .f) fl))(hc:z.c<3):ldV H none (.c (.ptr b 0 0))=some (vi (epC z.c)):=by
 obtain⟨c,s,tg,tr,h',yg,yr⟩:=z;have:c=0∨c=1∨c=2:=by simp at hc;omega
 rcases this with rfl | rfl | rfl<;>simp [ldV,h,aF,ZD.row,jV,aO,epC]
theorem oI(h:H[b]?=some (.box (z.row.map .f) fl))(hc:z.c<3):ldV H (some 4) (.c (.ptr b 0 0))=some (oW z.c):=by
 obtain⟨c,s,tg,tr,h',yg,yr⟩:=z;have:c=0∨c=1∨c=2:=by simp at hc;omega
 rcases this with rfl | rfl | rfl<;>simp [ldV,h,aF,ZD.row,jV,aO]
theorem iL(h:H[b]?=some (.box (z.row.map .f) fl))(hc:z.c<3):ldV H (some 8) (.c (.ptr b 0 0))=some z.v:=by
 obtain⟨c,s,tg,tr,h',yg,yr⟩:=z;have:c=0∨c=1∨c=2:=by simp at hc;omega
 rcases this with rfl | rfl | rfl<;>simp [ldV,h,aF,ZD.row,jV,aO]
end
def ZD.cyc(z:ZD):Int:=if z.yr.length=0 then 1 else Go.Proofs.YtmbjejcfadllnaaGreat.cyc z.c
theorem AY(z:ZD)(hc:z.c<3):Km.Pure tab.get Vm [z.v]=Eq (vi z.cyc):=Km.Pure.eq (by
 refine bU a0C rfl fun Q hQ=>?_
 refine kw_sr ?_;simp;have hz:([.box (z.row.map .f) 0]:Heap)[0]?=some (.box (z.row.map .f) 0):=rfl;refine kw_seq ?_;refine kw_sr ?_;simp [kU hz hc,-ak];by_cases h:z.yr=[]
 ·refine aj (by simp [h]) ?_
  refine kw_sr ?_;simp;refine aH (hQ _ _ ?_);simp [ZD.cyc,h]
 ·refine bD (by simp [h]) ?_
  refine kw_sr ?_;simp [oI hz hc,-ak,WY hc];refine kw_seq ?_;refine kw_sr ?_;have hr:bW .rem (vi (lW z.c:Nat)) (vi 7)=some (vi (((lW z.c:Nat):Int) % 7)):=wS (by omega) (by omega)
  have hd:lW z.c=13∨lW z.c=31:=by unfold lW;split<;>simp
  have hw:IntKind.i64.wrap (7*((lW z.c:Nat):Int))=7*((lW z.c:Nat):Int):=wrap64 (by omega) (by omega)
  simp [hr];refine aj (by simp;omega) ?_
  refine kw_sr ?_;simp [hw];refine aH (hQ _ _ ?_)
  simp [ZD.cyc,h,cyc])
end
section
theorem Jv{c y:Nat}{b:Int}{x:YrD}(hb:0≤b)(hb':b≤260)(hx:x.OK):-10≤oV (fmD c y b x) (mlD c y x) x.wk x.wd∧oV (fmD c y b x) (mlD c y x) x.wk x.wd≤300:=by
 have k1:=jM c y 1;have k2:=jM c y x.mo.toNat;have k3:=yc c y x.mo.toNat;have hq:mlD c y x=(oQ c y x.mo.toNat:Nat):=rfl;have hfm:b≤fmD c y b x∧fmD c y b x≤b+9:=by unfold fmD;split<;>omega
 unfold oV;split<;>omega
structure JK(fl:List FC)(s:FC)(k m:Nat)(r q:YrD):Prop where
 i:∀ H:Heap,aP H 5 none (.c (.f s)) (vi k)=some (.c (.f (.fp fl (k*5))))
 i':∀ H:Heap,aP H 5 none (.c (.f s)) (vi m)=some (.c (.f (.fp fl (m*5))))
 row:∀ H:Heap,ldV H (some 5) (.c (.f (.fp fl (k*5))))=some (.a (r.row.map .f))
 mi:∀ H:Heap,ldV H none (.c (.f (.fp fl (k*5+3))))=some (vi r.mi)
 of:∀ H:Heap,ldV H none (.c (.f (.fp fl (k*5+4))))=some (vi r.off)
 of':∀ H:Heap,ldV H none (.c (.f (.fp fl (m*5+4))))=some (vi q.off)
theorem aO6(g:Tg)(r q:YrD):JK (bV [r,q]).flatten (sl g (bV [r,q])) 0 1 r q:=
 ⟨fun _=>rfl,fun _=>rfl,fun _=>rfl,fun _=>rfl,fun _=>rfl,fun _=>rfl⟩
theorem aO5(g:Tg)(r q:YrD):JK (bV [r,q]).flatten (sl g (bV [r,q])) 1 0 q r:=
 ⟨fun _=>rfl,fun _=>rfl,fun _=>rfl,fun _=>rfl,fun _=>rfl,fun _=>rfl⟩
theorem F8(c:Nat):nY c≤14:=by unfold nY;split<;>omega
theorem Ud{z:ZD}(hc:z.c<3){fl:List FC}{k m y:Nat}{r q:YrD}(hR:JK fl (sl z.yg (bV z.yr)) k m r q)(hkm:(1:Int)-k=m)(hr:r.OK)(hq:q.OK)(hy:y<nY z.c)
  {t:T} {J:Heap} {cl:C} {o raw:List TrD} (hJ:J[0]?=some (.box (z.row.map .f) 0)) (hL:LR J cl 2 (aS o)) (ho:iP raw o) (hol:raw.length≤100)
  (g1:t.g 1=.c (.ptr 0 0 0)) (g4:t.g 4=.c cl) (g5:t.g 5=vi (cyc z.c)) (g6:t.g 6=vi (bgn z.c y)) (g7:t.g 7=vi ((y:Int)+1)) (g8:t.g 8=vi (k:Nat)) {K:List AItem} {Q:Option ACode→St→Prop}
  (next:∀(t:T) (J:Heap) (cl:C) (o:List TrD),J[0]?=some (.box (z.row.map .f) 0)→LR J cl 2 (aS o)→iP (raw++iD z.c (y+1) r q) o→t.g 1=.c (.ptr 0 0 0)→t.g 4=.c cl→t.g 5=vi (cyc z.c)→t.g 6=vi (bgn z.c y)→t.g 7=vi ((y:Int)+1)→t.g 8=vi (k:Nat) →
   WP tab.get yU none K ⟨t,[],J⟩ Q) :
  WP tab.get yU none (.code Ov::K) ⟨t,[],J⟩ Q:=by
 have hyl:=F8 z.c;obtain⟨b0,b1⟩:=Ej hc (Nat.le_of_lt hy);have hf:=aH9 hc (y:=y+1) (by omega) (by omega) (b:=bgn z.c y) (by omega) (by omega) r hr
 rw [show((y+1:Nat):Int)=(y:Int)+1 by omega]at hf
 obtain⟨d0,d1⟩:=Jv (c:=z.c) (y:=y+1) (b:=bgn z.c y) (x:=r) (by omega) (by omega) hr
 obtain⟨-,-,-,-,m0,m1,o0,o1⟩:=hr;obtain⟨-,-,-,-,-,-,p0,p1⟩:=hq;have hraw:iD z.c (y+1) r q=if kM (fmD z.c (y+1) (bgn z.c y) r) (mlD z.c (y+1) r) r.wk r.wd then [⟨oV (fmD z.c (y+1) (bgn z.c y) r) (mlD z.c (y+1) r) r.wk r.wd*1440+r.mi-q.off,r.off⟩]else []:=rfl
 generalize hD:oV (fmD z.c (y+1) (bgn z.c y) r) (mlD z.c (y+1) r) r.wk r.wd=D at *;generalize hO:kM (fmD z.c (y+1) (bgn z.c y) r) (mlD z.c (y+1) r) r.wk r.wd=O at *;refine aB ?_;refine kw_sr ?_;have hrow:=hR.row J;have hi:=hR.i J;have lz1:=oI hJ hc;have lz2:=kU hJ hc;simp [g1,g6,g7,g8,lz1,lz2,hi,hrow,hf,-ak];refine kw_seq ?_;refine kw_region (.inl rfl) ?_;simp
 cases O with
 | false=>
  simp only [aE,if_false]at hraw;rw [hraw,df]at next;refine ah (by simp) (aG (au ?_))
  exact next _ J cl o hJ hL ho (by simp [g1]) (by simp [g4]) (by simp [g5]) (by simp [g6]) (by simp [g7]) (by simp [g8])
 | true=>
  simp only [if_true]at hraw;refine aj (by simp) ?_
  refine kw_region (.inl rfl) ?_;have w1:IntKind.i64.wrap (D*1440)=D*1440:=wrap64 (by omega) (by omega)
  have w2:IntKind.i64.wrap (D*1440+r.mi)=D*1440+r.mi:=wrap64 (by omega) (by omega)
  have w3:IntKind.i64.wrap (D*1440+r.mi-q.off)=D*1440+r.mi-q.off:=wrap64 (by omega) (by omega)
  have w4:IntKind.i64.wrap (1-(k:Int))=m:=by rw [wrap64 (by omega) (by omega),hkm]
  have hi':=hR.i' J;have hmi:=hR.mi J;have hof:=hR.of J;have aTf:=hR.of' J;have hlen:=ho.len;obtain⟨o',cl',J',hI,hE,hL',hK,hbk⟩:=WC hL (by omega) ⟨D*1440+r.mi-q.off,r.off⟩
  simp only [TrD.row,aM,ba]at hE;have hEq:=hE.eq;simp [g1,g4,g8,lz2,hi,hi',hmi,hof,aTf,w1,w2,w3,w4,hEq,-ak];refine au ?_;rw [hraw]at next;exact next _ J' cl' o' (hK.2 _ _ hJ (hL.eG hJ)) hL' (.step ho hI) (by simp [g1]) (by simp) (by simp [g5]) (by simp [g6]) (by simp [g7]) (by simp [g8])
end
section
theorem aPw{z:ZD}(hc:z.c<3){r q:YrD}(hz:z.yr=[r,q])(hr:r.OK)(hq:q.OK){y:Nat}(hy:y<nY z.c)
  {t:T} {J:Heap} {cl:C} {o raw:List TrD} (hJ:J[0]?=some (.box (z.row.map .f) 0)) (hL:LR J cl 2 (aS o)) (ho:iP raw o) (hol:raw.length≤90)
  (g1:t.g 1=.c (.ptr 0 0 0)) (g4:t.g 4=.c cl) (g5:t.g 5=vi (cyc z.c)) (g6:t.g 6=vi (bgn z.c y)) (g7:t.g 7=vi ((y:Int)+1)) {K:List AItem} {Q:Option ACode→St→Prop}
  (next:∀(t:T) (J:Heap) (cl:C) (o:List TrD),J[0]?=some (.box (z.row.map .f) 0)→LR J cl 2 (aS o)→iP (raw++(iD z.c (y+1) r q++iD z.c (y+1) q r)) o→t.g 1=.c (.ptr 0 0 0)→t.g 4=.c cl→t.g 5=vi (cyc z.c)→t.g 6=vi (bgn z.c y)→t.g 7=vi ((y:Int)+1) →
   WP tab.get yU none K ⟨t,[],J⟩ Q) :
  WP tab.get yU none (.code Ox::K) ⟨t,[],J⟩ Q:=by
 refine kw_sr ?_;simp;refine aB ?_
 refine bM (fun n s=>∃(k:Nat) (t:T) (J:Heap) (cl:C) (o:List TrD),s=⟨t,[],J⟩∧n=2-k∧k≤2∧J[0]?=some (.box (z.row.map .f) 0)∧LR J cl 2 (aS o) ∧
   iP (raw++((if 1≤k then iD z.c (y+1) r q else [])++(if 2≤k then iD z.c (y+1) q r else []))) o ∧
   t.g 1=.c (.ptr 0 0 0)∧t.g 4=.c cl∧t.g 5=vi (cyc z.c)∧t.g 6=vi (bgn z.c y)∧t.g 7=vi ((y:Int)+1)∧t.g 8=vi (k:Nat)) 2
  ⟨0,_,J,cl,o,rfl,rfl,by omega,hJ,hL,by simpa using ho,by simp [g1],by simp [g4],by simp [g5],by simp [g6],by simp [g7],by simp⟩ ?_
 clear hJ hL ho g1 g4 g5 g6 g7;rintro n s ⟨k,t,J,cl,o,rfl,rfl,hk,hJ,hL,ho,g1,g4,g5,g6,g7,g8⟩ ih;refine kw_seq ?_;refine kw_sr ?_;simp [g8];have l1:=nO z.c (y+1) r q;have l2:=nO z.c (y+1) q r;have hcase:k=0∨k=1∨k=2:=by omega
 rcases hcase with rfl | rfl | rfl
 ·refine aj (by simp) (aG ?_)
  refine kw_seq ?_;simp at ho;refine Ud hc (m:=1) (by rw [hz];exact aO6 z.yg r q) (by decide) hr hq hy hJ hL ho (by omega) (by simp [g1]) (by simp [g4]) (by simp [g5]) (by simp [g6]) (by simp [g7]) (by simp [g8]) ?_
  intro t J cl o hJ hL ho g1 g4 g5 g6 g7 g8;refine kw_region (.inl rfl) ?_;simp [g8];exact ih 1 _ (by omega) ⟨1,_,J,cl,o,rfl,rfl,by omega,hJ,hL,by simpa using ho,by simp [g1],by simp [g4],by simp [g5],by simp [g6],by simp [g7],by simp [show IntKind.i64.wrap 1=1 from rfl]⟩
 ·refine aj (by simp) (aG ?_)
  refine kw_seq ?_;simp at ho;refine Ud hc (m:=0) (by rw [hz];exact aO5 z.yg r q) (by decide) hq hr hy hJ hL ho (by simp;omega) (by simp [g1]) (by simp [g4]) (by simp [g5]) (by simp [g6]) (by simp [g7]) (by simp [g8]) ?_
  intro t J cl o hJ hL ho g1 g4 g5 g6 g7 g8;refine kw_region (.inl rfl) ?_;simp [g8];exact ih 0 _ (by omega) ⟨2,_,J,cl,o,rfl,rfl,by omega,hJ,hL,by simpa using ho,by simp [g1],by simp [g4],by simp [g5],by simp [g6],by simp [g7],by simp [show IntKind.i64.wrap 2=2 from rfl]⟩
 ·refine ah (by simp) ?_
  refine bC (k':=K) rfl ?_;simp at ho;exact next _ J cl o hJ hL (by simpa using ho) (by simp [g1]) (by simp [g4]) (by simp [g5]) (by simp [g6]) (by simp [g7])
end
section
def AtB(x:TrD):Prop:=-20000≤x.at_∧x.at_≤500000
theorem F5{c y:Nat}{r q:YrD}(hc:c<3)(hy:y<nY c)(hr:r.OK)(hq:q.OK):∀ x ∈ iD c (y+1) r q,AtB x:=by
 intro x hx;obtain⟨b0,b1⟩:=Ej hc (Nat.le_of_lt hy);obtain⟨d0,d1⟩:=Jv (c:=c) (y:=y+1) (b:=bgn c y) (x:=r) (by omega) (by omega) hr
 obtain⟨-,-,-,-,m0,m1,-,-⟩:=hr;obtain⟨-,-,-,-,-,-,p0,p1⟩:=hq;simp only [iD,Nat.add_sub_cancel]at hx;split at hx
 ·simp only [List.mem_singleton]at hx;subst hx;unfold AtB;simp only;omega
 ·cases hx
theorem xR{c:Nat}{r q:YrD}(hc:c<3)(hr:r.OK)(hq:q.OK):∀ n,n≤nY c→∀ x ∈ vX c r q n,AtB x
 | 0,_,x,hx=>by cases hx
 | n+1,hn,x,hx=>by
  simp only [vX,cA]at hx;rcases hx with hx | hx | hx
  ·exact xR hc hr hq n (by omega) x hx
  ·exact F5 hc (by omega) hr hq x hx
  ·exact F5 hc (by omega) hq hr x hx
theorem EU(o:List TrD)(size:Int)(n:Nat){x:TrD}(h:o[n]?=some x):pz o size (n+1)=(pz o size n&&decide (2160≤gQ o size n-x.at_)):=by
 simp [pz,List.range_succ,h]
theorem KJ{o:List TrD}{size:Int}{n:Nat}{x:TrD}(h:o[n]?=some x)(hb:¬ 2160≤gQ o size n-x.at_):fF o size=false:=by
 cases e:fF o size with
 | false=>rfl
 | true=>
  have h1:=bi.1 e n (by have:=(ai.1 h).1;simpa using this)
  simp only [h]at h1;exact absurd (of_decide_eq_true h1) hb
theorem J7(z:ZD)(hc:z.c<3){r q:YrD}(hz:z.yr=[r,q])(hr:r.OK)(hq:q.OK):∃ g o,iP (vX z.c r q (nY z.c)) o ∧
  Km.Pure tab.get yU [z.v]=Eq (.t [.c (.f (sl g (aS o))),vb (fF o (cyc z.c*1440))]):=by
 obtain⟨rr,⟨g,o,ho,rfl⟩,hp⟩:∃ rr,(∃ g o,iP (vX z.c r q (nY z.c)) o∧rr=.t [.c (.f (sl g (aS o))),vb (fF o (cyc z.c*1440))])∧Km.Pure tab.get yU [z.v] rr:=by
  refine dN a0z rfl fun Q hQ=>?_
  refine kw_sr ?_;simp;have hz0:([.box (z.row.map .f) 0]:Heap)[0]?=some (.box (z.row.map .f) 0):=rfl;have hcy:z.cyc=cyc z.c:=by simp [ZD.cyc,hz]
  have hcb:cyc z.c=91∨cyc z.c=217:=by unfold cyc lW;split<;>simp
  have hep:epC z.c=2∨epC z.c=5:=by unfold epC;split<;>simp
  have hend:=JF hc;have hny:=F8 z.c;refine kw_sr ?_;simp;refine kw_seq ?_;refine kw_sr ?_;simp [kU hz0 hc,-ak,hz];refine bD (by simp) ?_
  refine kw_sr ?_;simp [iL hz0 hc,-ak,AY z hc,hcy];refine kw_sr ?_;simp [Ji hz0 hc,-ak];refine kw_seq ?_;refine kw_sr ?_;simp;refine aB ?_
  refine bM (fun n s=>∃(y:Nat) (t:T) (J:Heap) (cl:C) (o:List TrD),s=⟨t,[],J⟩∧n=nY z.c-y∧y≤nY z.c∧J[0]?=some (.box (z.row.map .f) 0)∧LR J cl 2 (aS o)∧iP (vX z.c r q y) o ∧
    t.g 1=.c (.ptr 0 0 0)∧t.g 4=.c cl∧t.g 5=vi (cyc z.c)∧t.g 6=vi (bgn z.c y)∧t.g 7=vi ((y:Int)+1)) (nY z.c)
   ⟨0,_,_,.f .es,[],rfl,rfl,by omega,hz0,.inl ⟨rfl,.inr rfl⟩,.nil,by simp,by simp,by simp,by simp [bgn],by simp⟩ ?_
  rintro n s ⟨y,t,J,cl,o,rfl,rfl,hy,hJ,hL,ho,g1,g4,g5,g6,g7⟩ ih;obtain⟨b0,b1⟩:=Ej hc hy;refine kw_seq ?_;refine kw_sr ?_;simp [g1,g5,g6,Ji hJ hc,-ak,wrap64 (n:=epC z.c+cyc z.c) (by omega) (by omega)]
  by_cases hlt:y<nY z.c
  ·have h1:=JE z.c hlt;refine aj (by simp;omega) (aG ?_)
   refine kw_seq ?_;refine aB ?_;refine kw_seq ?_;have hrl:=nK z.c r q y;refine aPw hc hz hr hq hlt hJ hL ho (by omega) (by simp [g1]) (by simp [g4]) (by simp [g5]) (by simp [g6]) (by simp [g7]) ?_
   clear g1 g4 g5 g6 g7 hJ hL ho;intro t J cl o hJ hL ho g1 g4 g5 g6 g7;have hyl:=J9 hc (y:=y+1) (by omega) (by omega)
   rw [show((y+1:Nat):Int)=(y:Int)+1 by omega]at hyl
   have hyb:zf z.c (y+1)≤18:=by
    have h1:=jM z.c (y+1) 1;have h2:=jM z.c (y+1) 2;unfold zf;omega
   refine kw_region (.inl rfl) ?_;simp [g1,g6,g7,oI hJ hc,-ak,hyl,wrap64 (n:=bgn z.c y+(zf z.c (y+1):Nat)) (by omega) (by omega)]
   refine au ?_;refine kw_region (.inl rfl) ?_;simp [g7,wrap64 (n:=(y:Int)+1+1) (by omega) (by omega)]
   exact ih (nY z.c-(y+1)) _ (by omega) ⟨y+1,_,J,cl,o,rfl,rfl,by omega,hJ,hL,ho,by simp [g1],by simp [g4],by simp [g5],by simp [bgn],by simp⟩
  ·have hyn:y=nY z.c:=by omega
   subst hyn;rw [hend];refine ah (by simp) ?_
   refine bC (k':=[.code Ou]) rfl ?_;have hbd:∀ x ∈ o,AtB x:=fun x hx=>xR hc hr hq _ (ax _) x (ho.perm.subset hx)
   obtain⟨g',hg'⟩:=hL.ex (dD _) 63;have hol:o.length≤28:=by have:=ho.len;have:=nK z.c r q (nY z.c);omega
   refine kw_seq ?_;refine kw_sr ?_;simp;refine aB ?_;clear ih
   refine bM (fun n s=>∃(i:Nat) (t:T),s=⟨t,[],J⟩∧n=o.length-i∧i≤o.length∧pz o (cyc z.c*1440) i=true∧t.g 4=.c cl∧t.g 5=vi (cyc z.c)∧t.g 11=vi (i:Nat)) o.length
    ⟨0,_,rfl,rfl,by omega,rfl,by simp [g4],by simp [g5],by simp⟩ ?_
   clear g1 g4 g5 g6 g7;rintro n s ⟨i,t,rfl,rfl,hi,hsp,g4,g5,g11⟩ ih;refine kw_seq ?_;refine kw_sr ?_;simp [g4,g11,hL.len];by_cases hil:i<o.length
   case neg=>
    have:i=o.length:=by omega
    subst this;refine ah (by simp) ?_
    refine bC (k':=[.code EI]) rfl ?_;refine kw_sr ?_;simp [g4];refine aH (hQ _ _ (.t [.c (.f (sl g' (aS o))),vb (fF o (cyc z.c*1440))]) ⟨g',o,ho,rfl⟩ ?_);have:fF o (cyc z.c*1440)=true:=hsp;simp [exV,dG,deep,hg',this,aZ,g4]
   refine aj (by simp [hil]) (aG ?_)
   refine kw_seq ?_;refine aB ?_;rcases hL with⟨h,_⟩ | ⟨_,b,ep,rfl,hb⟩
   ·have:o=[]:=by simpa [aS]using h
    subst this;simp at hil
   rw [qp]at g4 hg';have hgr:=dD o
   have idx:∀ k:Nat,k<o.length→aP J 2 none (.c (.sl b 0 o.length 0 ep 2)) (vi k)=some (.c (.ptr b (k*2) ep)):=fun k hk=>by
    have:=hb.idx (n:=o.length) (c:=0) (k:=.i64) (o:=0) (i:=(k:Int)) (by omega) (by omega)
    simpa using this
   have Wy:∀ k:Nat,(hk:k<o.length)→ldV J none (.c (.ptr b (k*2) ep))=some (vi o[k].at_):=fun k hk=>by
    have:=hb.ldc hgr (fO (ae hk)) (k:=0) (x:=fi o[k].at_) rfl;simpa using this
   have o0:0<o.length:=by omega
   have i0:=idx 0 o0;have l0:=Wy 0 o0;have ii:=idx i hil;have li:=Wy i hil;have hb0:=hbd _ (aw o0);have hbi:=hbd _ (aw hil);unfold AtB at hb0 hbi;simp [-ak]at i0 l0;have w1:IntKind.i64.wrap (cyc z.c*1440)=cyc z.c*1440:=wrap64 (by omega) (by omega)
   have w2:IntKind.i64.wrap (o[0].at_+cyc z.c*1440)=o[0].at_+cyc z.c*1440:=wrap64 (by omega) (by omega)
   have w3:IntKind.i64.wrap ((i:Int)+1)=(i:Int)+1:=wrap64 (by omega) (by omega)
   refine kw_sr ?_;simp [g4,g5,i0,l0,w1,w2,-ak];refine kw_seq ?_
   have tail:∀ t:T,t.g 4=.c (.sl b 0 o.length 0 ep 2)→t.g 5=vi (cyc z.c)→t.g 11=vi (i:Nat)→t.g 12=vi (gQ o (cyc z.c*1440) i)→-20000≤gQ o (cyc z.c*1440) i→gQ o (cyc z.c*1440) i≤900000 →
     WP tab.get yU none [.code Oq,.inBlock 5,.code Oo,.inLoop Ot,.inBlock 4,.code EI] ⟨t,[],J⟩ Q:=by
    intro t g4 g5 g11 g12 n0 n1;refine kw_sr ?_;simp [g4,g11,g12,ii,li,-ak,wrap64 (n:=gQ o (cyc z.c*1440) i-o[i].at_) (by omega) (by omega)]
    by_cases hs:gQ o (cyc z.c*1440) i-o[i].at_<2160
    ·refine aj (by simp [hs]) ?_
     refine kw_sr ?_;simp [g4];refine aH (hQ _ _ (.t [.c (.f (sl g' (aS o))),vb (fF o (cyc z.c*1440))]) ⟨g',o,ho,rfl⟩ ?_);have:fF o (cyc z.c*1440)=false:=KJ (ae hil) (by omega)
     simp [exV,dG,deep,hg',this,aZ,g4]
    ·refine ah (by simp;omega) (aG (au ?_))
     refine kw_region (.inl rfl) ?_;simp [g11,w3];refine ih (o.length-(i+1)) _ (by omega) ⟨i+1,_,rfl,rfl,by omega,?_,by simp [g4,qp],by simp [g5],by simp⟩
     rw [EU _ _ _ (ae hil),hsp];simp;omega
   by_cases hnx:i+1<o.length
   ·have i1:=idx (i+1) hnx;have l1:=Wy (i+1) hnx;have hb1:=hbd _ (aw hnx);unfold AtB at hb1;rw [show((i+1:Nat):Int)=(i:Int)+1 by omega]at i1
    have hn:gQ o (cyc z.c*1440) i=o[i+1].at_:=by simp [gQ,ae hnx]
    rw [hn]at tail;refine kw_sr ?_;simp [g4,g11,w3,hb.len];refine aj (by simp;omega) ?_
    refine kw_region (.inl rfl) ?_;simp [g4,g11,w3,i1,l1,-ak];exact tail _ (by simp [g4]) (by simp [g5]) (by simp [g11]) (by simp) (by omega) (by omega)
   ·have hn:gQ o (cyc z.c*1440) i=o[0].at_+cyc z.c*1440:=by
     simp [gQ,List.getElem?_eq_none_iff.2 (show o.length≤i+1 by omega),ae o0]
    rw [hn]at tail;refine kw_sr ?_;simp [g4,g11,w3,hb.len];refine ah (by simp;omega) (aG ?_)
    exact tail _ (by simp [g4]) (by simp [g5]) (by simp [g11]) (by simp) (by omega) (by omega)
 exact⟨g,o,ho,Km.Pure.eq hp⟩
end
section
def su(n:Nat):Int:=match n % 8 with
 | 0=>0 | 1=>60 | 2=>120 | 3=>-90 | 4=>30 | 5=>1080 | 6=>-1080 | _=>90
def isZ(r:Option (V × Heap))(n:Int):Bool:=match r with
 | some (.c (.f (.int .i64 k)),_)=>decide (k=n)
 | _=>false
theorem aSU{r:Option (V × Heap)}{n:Int}(h:isZ r n=true):r.map (·.1)=some (vi n):=by
 unfold isZ at h;split at h
 ·rw [of_decide_eq_true h];rfl
 ·cases h
theorem afz:((List.range 256).all fun n=>isZ (CF tab.get 60 10 (.fn G5) [.c (.f (.int .u8 (n:Nat)))] []) (su n))=true:=by kernel_rfl
theorem IG{n:Nat}(h:n<256):Km.Pure tab.get G5 [.c (.f (.int .u8 (n:Nat)))]=Eq (vi (su n)):=(iG (aSU (fM (p:=fun n=>isZ (CF tab.get 60 10 (.fn G5) [.c (.f (.int .u8 (n:Nat)))] []) (su n)) afz h))).eq
theorem pF(n:Nat):-1080≤su n∧su n≤1080:=by unfold su;split<;>omega
theorem Kt(n m:Int)(h0:0≤m)(h1:m≤4611686018427387904):Km.Pure tab.get Bc [vi n,vi m]=Eq (vb (decide (-m≤n)&&decide (n≤m))):=Km.Pure.eq (by
 refine bU a0w rfl fun Q hQ=>?_
 refine kw_sr ?_;simp;by_cases h:-m≤n
 ·refine kw_sr ?_;simp [Ir,wrap64 (n:=-m) (by omega) (by omega),h]
  refine aH (hQ _ _ ?_);simp [h]
 ·refine kw_sr ?_;simp [Ir,wrap64 (n:=-m) (by omega) (by omega),h]
  refine aH (hQ _ _ ?_)
  simp [h])
theorem Ci{n m:Int}(h0:0≤m)(h1:m≤4611686018427387904)(h:-m≤n)(h':n≤m):Km.Pure tab.get Bc [vi n,vi m]=Eq (vb true):=by
 rw [Kt n m h0 h1];simp [h,h']
theorem Aq{n m:Int}(h0:0≤m)(h1:m≤4611686018427387904)(h:-m≤n)(h':n≤m):Km.Pure tab.get oh [vi n,vi m]=Eq (vb true):=by
 rw [Vu n m h0 h1];simp [h,h']
end
section
theorem aHm:((List.range 65).all fun n=>match (CF tab.get 20 20 (.fn NM) [.c (.f (.int .u64 n))] [])with | some (.c (.f (.int .i64 (.ofNat k))),_)=>Nat.ble k 62&&(Nat.beq n 0||Nat.ble (2 ^ k) (2*n)) | _=>false)=true:=by kernel_rfl
theorem aYv:a03 tab.get aX 64:=fun n h=>by
 have h1:=aHm;rw [bi]at h1;have h2:=h1 n (by simp;omega)
 split at h2
 ·rename_i k H' e;rw [Bool.and_eq_true,Bool.or_eq_true]at h2;refine⟨k,(iG (m:=20) (d:=20) (by rw [e];rfl)).eq,da h2.1,fun h0=>?_⟩
  rcases h2.2 with h3 | h3
  ·have:=dq h3;omega
  ·exact da h3
 ·cases h2
theorem aEE:aVa tab.get aX 2:=⟨aUJ,aUS,aUT,aUG,aUV,aUU,aUH,
 aUL,aUK,aUM,aUQ,aUP,aUN,aUO,aUF⟩
theorem afo(x y:TrD):Kf tab.get Aa [.a (x.row.map .f),.a (y.row.map .f)] (vi (rU x.at_ y.at_)):=by
 refine yw aUo rfl fun H Q hQ=>?_
 refine kw_sr ?_;simp [TrD.row];refine kw_sr ?_;simp [xu];refine aH (hQ _ _ ?_);simp
def Bl:List FC→TrD
 | [.int _ a,.int _ b]=>⟨a,b⟩
 | _=>⟨0,0⟩
def Xn(r:List FC):Prop:=r=(Bl r).row
theorem ag2(x:TrD):Xn x.row:=rfl
def agy(r s:List FC):Int:=rU (Bl r).at_ (Bl s).at_
theorem aTB:Cmp Xn agy where
 asym:=fun _ _ h h'=>by
  unfold agy at h h';rw [uQ]at h h';omega
 trans:=fun _ _ _ h h'=>by
  unfold agy at *;rw [uQ]at *;omega
theorem aZq:Cv tab.get (.c (.f (.fn Aa []))) Xn agy:=by
 intro x y hx hy H;obtain⟨J,h⟩:=afo (Bl x) (Bl y) H;rw [←show x=(Bl x).row from hx,←show y=(Bl y).row from hy]at h
 exact⟨Aa,_,J,by simp [dh],h⟩
theorem WX{rows:List (List FC)}(h:∀ r ∈ rows,Xn r):aS (rows.map Bl)=rows:=by
 unfold aS;rw [List.map_map]
 conv=>rhs;rw [←List.map_id rows]
 exact List.map_congr_left fun r hr=>(h r hr).symm
theorem PN(l:List TrD):(aS l).map Bl=l:=by
 unfold aS;rw [List.map_map]
 conv=>rhs;rw [←List.map_id l]
 exact List.map_congr_left fun r _=>rfl
theorem afy{H:Heap}{v:C}{l:List TrD}(hr:LR H v 2 (aS l))(hn:l.length≤64) :
  ∃ H',Ev tab.get (.fn RG) [.c v,.c (.f (.fn Aa []))] H (.t []) H'∧Kb H H' v∧∃ l',LR H' v 2 (aS l')∧l'.Perm l∧l'.Pairwise TLe:=by
 have hW:∀ r ∈ aS l,Xn r:=fun r hr=>by
  obtain⟨x,-,rfl⟩:=cK.1 hr;exact ag2 x
 obtain⟨r,H',he,rfl,hk,l',h1,h2,h3⟩:=Km.aEF (σ:=aX) aUX aEE aZq aTB (by omega) aYv hr (by simpa using hn) (dD l) hW
 have hW':∀ r ∈ l',Xn r:=fun r hr=>hW r (h2.mem_iff.1 hr)
 refine⟨H',he,hk,l'.map Bl,by rw [WX hW'];exact h1,?_,?_⟩
 ·have:=h2.map Bl
  rwa [PN]at this
 ·rw [bL];intro i j hi hj hij;simp only [cF]at hi hj;have:=h3 i j l'[i] l'[j] (by omega) hij (by omega) (ae hi) (ae hj)
  rw [dm,dm];unfold agy at this;rw [uQ]at this;unfold TLe;omega
end
section
theorem Qu{H:Heap}{b:Nat}{n:Int}(h:ldV H none (.c (.ptr b 9 0))=some (vi n))(hb:∃ cs fl,H[b]?=some (.box cs fl))(h0:0≤n)(h1:n≤1000000) :
  Ev tab.get (.fn oZ) [.c (.ptr b 0 0)] H (vi (n*1440)) H:=by
 obtain⟨r,H',he,rfl,rfl⟩:∃ r H',Ev tab.get (.fn oZ) [.c (.ptr b 0 0)] H r H'∧r=vi (n*1440)∧H'=H:=by
  refine fV ah5 rfl fun Q hQ=>?_
  refine kw_sr ?_;simp;refine kw_sr ?_;simp [h,-ak,wrap64 (n:=n*1440) (by omega) (by omega)]
  exact aH (hQ _ _ _ rfl (res_one (by simp)) ⟨rfl,rfl⟩)
 exact he
end
section
def jy(z:ZD)(cl:C)(n:Int):List C:=z.row.map .f++[cl,.f (fi n)]
section
variable{H:Heap}{b:Nat}{z:ZD}{cl cl':C}{n n':Int}
theorem AQ(h:H[b]?=some (.box (jy z cl n) 0))(hc:z.c<3):ldV H none (.c (.ptr b 8 0))=some (.c cl):=by
 obtain⟨c,s,tg,tr,h',yg,yr⟩:=z;have:c=0∨c=1∨c=2:=by simp at hc;omega
 rcases this with rfl | rfl | rfl<;>simp [ldV,h,aF,jy,ZD.row,jV,aO]
theorem agU(h:H[b]?=some (.box (jy z cl n) 0))(hc:z.c<3):ldV H none (.c (.ptr b 9 0))=some (vi n):=by
 obtain⟨c,s,tg,tr,h',yg,yr⟩:=z;have:c=0∨c=1∨c=2:=by simp at hc;omega
 rcases this with rfl | rfl | rfl<;>simp [ldV,h,aF,jy,ZD.row,jV,aO]
theorem aVR(h:H[b]?=some (.box (jy z cl n) 0))(hc:z.c<3):stC H (.ptr b 8 0) [cl']=some (H.set b (.box (jy z cl' n) 0)):=by
 obtain⟨c,s,tg,tr,h',yg,yr⟩:=z;have:c=0∨c=1∨c=2:=by simp at hc;omega
 rcases this with rfl | rfl | rfl<;>simp [stC,h,over,jy,ZD.row,jV]
theorem aO2(h:H[b]?=some (.box (jy z cl n) 0))(hc:z.c<3):stC H (.ptr b 9 0) [.f (fi n')]=some (H.set b (.box (jy z cl n') 0)):=by
 obtain⟨c,s,tg,tr,h',yg,yr⟩:=z;have:c=0∨c=1∨c=2:=by simp at hc;omega
 rcases this with rfl | rfl | rfl<;>simp [stC,h,over,jy,ZD.row,jV]
end
theorem VI{c:Nat}{r q:YrD}{o l:List TrD}{size:Int}(ho:iP (vX c r q (nY c)) o)(hs:fF o size=true)(hp:l.Perm (vX c r q (nY c)))(hl:l.Pairwise TLe):l=o:=
 Aw (oL hs) hl (hp.trans ho.perm.symm)
end
end Go.Proofs.YtmbjejcfadllnaaGreat
