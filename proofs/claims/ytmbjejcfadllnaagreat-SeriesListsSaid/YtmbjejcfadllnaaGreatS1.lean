/-
  ajN the nE iO and the nb answer, for all arguments of their kind, in the small machine: part 1.
-/
import Derived.Test.YtmbjejcfadllnaaGreatTabB
import Derived.Test.YtmbjejcfadllnaaGreatK5
import Derived.Test.YtmbjejcfadllnaaGreatK4
import Derived.KernelRfl
open List renaming getElem_append → axj, getElem_map → awI, map_cons → anc, length_append → avR, length_singleton → awH, length_map → av7, mem_append → av1, mem_cons → awf, mem_filter → awT, pairwise_cons → aws, length_cons → awa, mem_of_mem_take → awJ, pairwise_singleton → awo, length_pos_iff → aww, take_append_drop → awv, take_length → awc, drop_eq_getElem_cons → avW, mem_cons_self → avQ, mem_cons_of_mem → avZ, take_succ_eq_append_getElem → avN, ext_getElem → aw7, getD_eq_getElem?_getD → av8, getElem?_eq_getElem → AI, getElem_of_mem → avT, getElem_mem → IT, pairwise_iff_getElem → avX, all_eq_true → avP, append_assoc → awh, getElem?_append_left → AT, getElem?_append_right → avM, map_nil → avO, mem_map → av9, getElem?_set_self → OF, getElem?_set_ne → By, take_of_length_le → avS, getElem?_eq_some_iff → BY, getElem?_cons_zero → awD, append_nil → awE
open Bool renaming false_eq_true → atN
open Nat renaming le_refl → aft, eq_of_beq_eq_true → awN, le_trans → avV, zero_add → awn, eq_zero_or_pos → awk, le_of_ble_eq_true → awu
open Int renaming toNat_natCast → av2, emod_nonneg → awd, emod_lt_of_pos → awe, le_refl → awQ
open Option renaming bind_some → av3
set_option linter.unusedVariables false
set_option linter.unusedSimpArgs false
set_option linter.unusedSectionVars false
set_option linter.unnecessarySimpa false
set_option maxRecDepth 100000
namespace Go.Proofs.YtmbjejcfadllnaaGreat
open Go Km
section
theorem abM{a b:Int}(h:0≤a)(g:0<b)(d:a≤9223372036854775807):bJ .quo (vi a) (vi b)=some (vi (a / b)):=by
 rw [zK (by omega),Int.tdiv_eq_ediv_of_nonneg h,wrap64 (Int.le_trans (by omega) (Int.ediv_nonneg h (by omega))) (Int.le_trans (Int.ediv_le_self _ h) d)]
theorem jR{a b:Int}(h:0≤a)(d:0<b):bJ .rem (vi a) (vi b)=some (vi (a % b)):=by
 rw [ns (by omega),Int.tmod_eq_emod_of_nonneg h]
theorem pM(a:Int):Km.Pure tab.get ua [vi a]=Eq (vb false):=(show Kf tab.get ua [vi a] (vb false) by
 refine fg anl rfl fun H Q b=>?_
 refine ae ?_;simp;refine ae ?_;simp;refine aA (b _ _ ?_)
 simp).eq
def fA(a b:Int):Int:=if a<b then -1 else if b<a then 1 else 0
theorem FQ(a b:Int):Kf tab.get oW [vi a,vi b] (vi (fA a b)):=by
 refine fg ani rfl fun H Q g=>?_
 refine ae ?_;simp;refine ae ?_;simp [pM];refine ae ?_;simp [pM];refine ag ?_;refine ae ?_;simp;refine aY (by simp) ?_
 refine ag ?_;refine ae ?_;simp;refine aY (by simp) ?_
 refine ag ?_;refine ae ?_;simp;by_cases h:a<b
 ·refine aj (by simp [h]) ?_
  refine ae ?_;simp;refine aA (g _ _ ?_);simp [fA,h]
 refine aY (by simp [h]) ?_
 refine ag ?_;refine ae ?_;simp;by_cases d:b<a
 ·refine aj (by simp [d]) ?_
  refine ae ?_;simp;refine aA (g _ _ ?_);simp [fA,h,d]
 refine aY (by simp [d]) ?_
 refine ae ?_;simp;refine aA (g _ _ ?_);simp [fA,h,d]
theorem kK(a b:Int):Km.Pure tab.get oW [vi a,vi b]=Eq (vi (fA a b)):=(FQ a b).eq
theorem mz{a b:Int}:fA a b<0↔a<b:=by unfold fA;split<;>(try split)<;>omega
theorem nu{a b:Int}:fA a b=0↔a=b:=by unfold fA;split<;>(try split)<;>omega
structure bD where
 at_:Int
 off:Int
def bD.row(x:bD):List FC:=[fi x.at_,fi x.off]
def aJ(l:List bD):List (List FC):=l.map bD.row
@[simp] theorem lG (l:List bD):(aJ l).length=l.length:=by simp [aJ]
theorem cw(l:List bD):bC 2 (aJ l):=bC.map fun _=>rfl
structure eg where
 mo:Int
 wk:Int
 wd:Int
 mi:Int
 off:Int
def eg.row(x:eg):List FC:=[fi x.mo,fi x.wk,fi x.wd,fi x.mi,fi x.off]
def bO(l:List eg):List (List FC):=l.map eg.row
@[simp] theorem amE (l:List eg):(bO l).length=l.length:=by simp [bO]
theorem jE(l:List eg):bC 5 (bO l):=bC.map fun _=>rfl
theorem zf{l:List eg}{j:Nat}(b:j<l.length):(bO l)[j]?=some l[j].row:=by simp [bO,b]
theorem AX(m:Int):unV .neg (.c (.f (.int .i64 m)))=some (vi (IntKind.i64.wrap (0-m))):=rfl
theorem O7(n m:Int)(d:0≤m)(g:m≤4611686018427387904):Km.Pure tab.get kH [vi n,vi m]=Eq (vb (decide (-m≤n)&&decide (n≤m))):=Km.Pure.eq (by
 refine bK ajL rfl fun Q b=>?_
 refine ae ?_;simp;by_cases h:-m≤n
 ·refine ae ?_;simp [AX,wrap64 (n:=-m) (by omega) (by omega),h]
  refine aA (b _ _ ?_);simp [h]
 ·refine ae ?_;simp [AX,wrap64 (n:=-m) (by omega) (by omega),h]
  refine aA (b _ _ ?_)
  simp [h])
end
section
structure bp where
 k:Int
 dM:Int
 l:Int
 r:Int
 n:Int
 m:Int
 li:List Int
def dw(k:Int):Nat:=if 8≤k∧k≤10∨k=17 then 2 else if 11≤k∧k≤16 then 1 else 0
structure Ny(l:List Int)(lo hi:Int)(zero:Bool):Prop where
 ne:l≠[]
 pw:l.Pairwise (· < ·)
 bd:∀ x ∈ l,lo≤x∧x≤hi∧(zero=false→x≠0)
def cY(k b l n m:Int)(li:List Int):Prop:=
 (k=1∧b=0∧li=[]∧1≤n∧n≤9∧0≤m∧m≤11) ∨
 (k=2∧0≤b∧b≤1∧li=[]∧1≤n∧n≤4∧0≤m∧m<n) ∨
 (k=3∧0≤b∧b≤1∧Ny li 1 4 true∧n=0∧m=0) ∨
 (k=4∧0≤b∧b≤1∧Ny li (-3) 6 false∧n=0∧m=0) ∨
 (k=5∧b=0∧Ny li 0 6 true∧n=0∧m=0) ∨
 (k=6∧0≤b∧b≤1∧Ny li 1 5 true∧n=0∧m=0) ∨
 (k=7∧0≤b∧b≤1∧li=[]∧(n=1∨n=2∨n=3∨-3≤n∧n≤-1)∧0≤m∧m≤6∧0≤l∧l≤1) ∨
 ((k=8∨k=9∨k=10)∧b=0∧li=[]∧n=0∧m=0) ∨
 (k=11∧b=0∧li=[]∧-11≤n∧n≤11∧m=0) ∨
 ((k=12∨k=13)∧b=0∧li=[]∧0≤n∧n≤1099511627776∧m=0) ∨
 ((k=14∨k=15)∧b=0∧Ny li 0 60 true∧n=0∧m=0) ∨
 (k=16∧0≤b∧b≤1∧Ny li (-3) 4 false∧n=0∧0≤m∧m≤1) ∨
 (k=17∧b=0∧li=[]∧1≤n∧n≤3∧m=0)
def bp.OK(x:bp):Prop:=x.li.length≤61∧cY x.k x.dM x.l x.n x.m x.li
def bp.shift(d:Nat)(x:bp):bp:=⟨x.k,x.dM,if 1≤dw x.k then x.l+d else x.l,if dw x.k=2 then x.r+d else x.r,x.n,x.m,x.li⟩
inductive Good:List bp→Prop
 | leaf {x:bp}:x.OK→dw x.k=0→(x.k≠7→x.l=0)→x.r=0→Good [x]
 | un {a:List bp} {x:bp}:Good a→x.OK→dw x.k=1→x.l=(a.length:Int)-1→x.r=0→Good (a++[x])
 | bin {a b:List bp} {x:bp}:Good a→Good b→x.OK→dw x.k=2→x.l=(a.length:Int)-1→x.r=(a.length:Int)+b.length-1→Good (a++b.map (bp.shift a.length)++[x])
theorem Good.pos{r:List bp}(h:Good r):0<r.length:=by cases h<;>simp<;>omega
theorem nB(k:Int):dw k≤2:=by unfold dw;split<;>(try split)<;>omega
structure kJ(i:Nat)(x:bp):Prop where
 ok:x.OK
 l1:1≤dw x.k→0≤x.l∧x.l<i
 l0:dw x.k=0→x.k≠7→x.l=0
 r2:dw x.k=2→0≤x.r∧x.r<i
 r0:dw x.k≤1→x.r=0
theorem kJ.shift{i:Nat}{x:bp}(h:kJ i x)(d:Nat):kJ (d+i) (x.shift d):=by
 have ok:=h.ok;refine⟨⟨ok.1,?_⟩,fun j=>?_,fun j b=>?_,fun j=>?_,fun j=>?_⟩
 ·have b:=ok.2;unfold bp.shift;simp only;split
  ·unfold cY at b ⊢;rename_i g;rcases b with b | b | b | b | b | b | b | b
   ·exact .inl b
   ·exact .inr (.inl b)
   ·exact .inr (.inr (.inl b))
   ·exact .inr (.inr (.inr (.inl b)))
   ·exact .inr (.inr (.inr (.inr (.inl b))))
   ·exact .inr (.inr (.inr (.inr (.inr (.inl b)))))
   ·exfalso;rw [b.1]at g;simp [dw]at g
   ·exact .inr (.inr (.inr (.inr (.inr (.inr (.inr b))))))
  ·exact b
 ·have:=h.l1 j;unfold bp.shift;simp only [if_pos (show 1≤dw x.k from j)]
  omega
 ·have g:dw x.k=0:=j;unfold bp.shift;simp only [g,show¬ 1≤0 by decide,if_false]
  exact h.l0 g b
 ·have g:dw x.k=2:=j;have:=h.r2 g;unfold bp.shift;simp only [g,if_true];omega
 ·have g:dw x.k≤1:=j;unfold bp.shift;simp only [if_neg (show¬ dw x.k=2 by omega)]
  exact h.r0 g
theorem Good.at_{r:List bp}(h:Good r):∀(i:Nat) (hi:i<r.length),kJ i r[i]:=by
 induction h with
 | leaf ok o l r0=>
  intro i hi;simp at hi;subst hi
  exact⟨ok,fun h=>by simp [o]at h,fun _=>l,fun h=>by simp [o]at h,fun _=>r0⟩
 | @un a x g ok o l r0 v=>
  intro i hi;have u:=g.pos;rw [axj];split
  ·exact v i _
  ·have:i=a.length:=by simp at hi;omega
   subst this;simp
   exact⟨ok,fun _=>by omega,fun h=>by omega,fun h=>by omega,fun _=>r0⟩
 | @bin a b x g s ok o l r j m=>
  intro i hi;have u:=g.pos;have z:=s.pos;rw [axj];split
  ·rename_i d;rw [axj];split
   ·exact j i _
   ·rename_i y;simp at d;rw [awI];have q:=(m (i-a.length) (by omega)).shift a.length
    rwa [show a.length+(i-a.length)=i by omega]at q
  ·rename_i d;simp at hi d;have:i=a.length+b.length:=by omega
   subst this;simp;exact⟨ok,fun _=>by omega,fun h=>by omega,fun _=>by omega,fun h=>by omega⟩
def ti(x:bp)(k:Int):Nat:=(if 1≤dw x.k∧x.l=k then 1 else 0)+(if dw x.k=2∧x.r=k then 1 else 0)
def eQ:List bp→Int→Nat
 | [],_=>0
 | x::l,k=>ti x k+eQ l k
theorem iR(a b:List bp)(k:Int):eQ (a++b) k=eQ a k+eQ b k:=by
 induction a with
 | nil=>simp [eQ]
 | cons x a d=>simp only [List.cons_append,eQ,d];omega
theorem G1(x:bp)(d:Nat)(k:Int):ti (x.shift d) k=ti x (k-d):=by
 unfold ti bp.shift;simp only;have h:=nB x.k;by_cases b:dw x.k=2
 ·simp only [b,show 1≤2 by decide,true_and,if_true]
  congr 1<;>(congr 1;rw [eq_iff_iff];omega)
 ·by_cases g:1≤dw x.k
  ·simp only [g,b,true_and,false_and,if_true,if_false]
   congr 1;congr 1;rw [eq_iff_iff];omega
  ·simp only [g,b,false_and,if_false]
theorem DP(b:List bp)(d:Nat)(k:Int):eQ (b.map (bp.shift d)) k=eQ b (k-d):=by
 induction b with
 | nil=>rfl
 | cons x b g=>simp only [anc,eQ,g,G1]
theorem Good.auo{r:List bp}(h:Good r):∀ k:Int,eQ r k=if 0≤k∧k+1<r.length then 1 else 0:=by
 induction h with
 | leaf ok o l r0=>intro k;simp [eQ,ti,o];omega
 | @un a x d ok o l r0 s=>
  intro k;have q:=d.pos;rw [iR,s];simp only [eQ,ti,o,l,show 1≤1 by decide,show¬ 1=2 by decide,true_and,false_and,if_false,avR,awH]
  split<;>split<;>split<;>omega
 | @bin a b x d m ok o l r g j=>
  intro k;have q:=d.pos;have u:=m.pos;rw [iR,iR,DP,g,j];simp only [eQ,ti,o,l,r,show 1≤2 by decide,true_and,if_true,avR,awH,av7]
  split<;>split<;>split<;>split<;>split<;>omega
end
section
structure bj where
 day:Int
 drop:Bool
 to:Int
 mi:Int
 le:Int
deriving DecidableEq
def bj.row(m:bj):List FC:=[fi m.day,.bool m.drop,fi m.to,fi m.mi,fi m.le]
def aV(l:List bj):List (List FC):=l.map bj.row
@[simp] theorem agS (l:List bj):(aV l).length=l.length:=by simp [aV]
theorem cX(l:List bj):bC 5 (aV l):=bC.map fun _=>rfl
theorem jA{l:List bj}{j:Nat}(b:j<l.length):(aV l)[j]?=some l[j].row:=by simp [aV,b]
structure bj.OK(m:bj):Prop where
 day:0≤m.day∧m.day≤1099511627776
 dr:m.drop=true→m.to=0∧m.mi=0∧m.le=0
 nd:m.drop=false→0≤m.to∧m.to≤1099511627776∧0≤m.mi∧m.mi≤1439∧1≤m.le∧m.le≤10080
def pg(l:List bj):Prop:=l.Pairwise fun a b=>a.day<b.day
def Gu(l:List bj)(m:bj):List bj:=l.filter (fun x=>decide (x.day<m.day))++m::l.filter (fun x=>decide (m.day<x.day))
theorem Il{l:List bj}{m x:bj}(h:x ∈ Gu l m):x=m∨x ∈ l:=by
 simp only [Gu,av1,awf,awT]at h;rcases h with h | h | h
 ·exact .inr h.1
 ·exact .inl h
 ·exact .inr h.1
theorem Gv{l:List bj}{m:bj}(h:pg l):pg (Gu l m):=by
 unfold pg Gu;rw [List.pairwise_append];refine⟨h.filter _,aws.2 ⟨fun x q=>?_,h.filter _⟩,fun a j b d=>?_⟩
 ·have:=(awT.1 q).2;simpa using this
 ·have g:a.day<m.day:=by simpa using (awT.1 j).2
  rcases awf.1 d with rfl | d
  ·exact g
  ·have s:m.day<b.day:=by simpa using (awT.1 d).2
   omega
theorem Ik{l:List bj}{m:bj}(h:pg l):(Gu l m).length≤l.length+1:=by
 unfold Gu;simp only [avR,awa]
 have:∀ l:List bj,(l.filter (fun x=>decide (x.day<m.day))).length+(l.filter (fun x=>decide (m.day<x.day))).length≤l.length:=by
  intro l
  induction l with
  | nil=>simp
  | cons x l g=>
   simp only [List.filter_cons];by_cases b:x.day<m.day
   ·simp only [b,decide_true,if_true,show¬ m.day<x.day by omega,decide_false,atN,if_false,awa];omega
   ·by_cases d:m.day<x.day
    ·simp only [b,d,decide_true,if_true,decide_false,atN,if_false,awa];omega
    ·simp only [b,d,decide_false,atN,if_false,awa];omega
 have:=this l;omega
def dO(l:List bj)(d:Int):Option bj:=l.find? fun x=>decide (x.day=d)
end
section
def jP(c5 fold lo:Int)(l:List Int)(e b:Int):List Int:=
 if l=[]then(if c5=0 then []else if c5=1 then [lo-b]else [e])
 else if fold=0 then l.take 1 else if fold=1 then l.drop (l.length-1)else l
theorem abH{c5 fold lo:Int}{l:List Int}{e b a:Int}(d:l≠[])(h:a ∈ jP c5 fold lo l e b):a ∈ l:=by
 unfold jP at h;rw [if_neg d]at h;split at h
 ·exact awJ h
 ·split at h
  ·exact List.mem_of_mem_drop h
  ·exact h
theorem ahP{c5 fold lo:Int}{l:List Int}{e b:Int}(d:l.Pairwise (· < ·)):(jP c5 fold lo l e b).Pairwise (· < ·):=by
 unfold jP;split
 ·split
  ·exact List.Pairwise.nil
  ·split<;>exact awo _ _
 ·split
  ·exact d.sublist (List.take_sublist _ _)
  ·split
   ·exact d.sublist (List.drop_sublist _ _)
   ·exact d
theorem OS{c5 fold lo:Int}{e b:Int}:(jP c5 fold lo [] e b).length=if c5=0 then 0 else 1:=by
 unfold jP;rw [if_pos rfl];split
 ·rfl
 ·split<;>rfl
theorem abG{c5 fold lo:Int}{l:List Int}{e b:Int}(d:l≠[])(g:0≤fold∧fold≤2):(jP c5 fold lo l e b).length=if fold=2 then l.length else 1:=by
 have:=aww.2 d;unfold jP;rw [if_neg d];split
 ·rw [if_neg (by omega),List.length_take];omega
 ·split
  ·rw [if_neg (by omega),List.length_drop];omega
  ·rw [if_pos (by omega)]
end
section
def total(st:List (List bp)):Nat:=(st.map List.length).sum
theorem fG(a b:List (List bp)):total (a++b)=total a+total b:=by simp [total]
theorem kB(a:List bp):total [a]=a.length:=by simp [total]
structure cG(st:List (List bp))(n:Nat):Prop where
 N3:∀ r ∈ st,Good r
 tot:total st≤n
theorem cG.nil:cG [] 0:=⟨fun r h=>(by cases h),by simp [total]⟩
theorem cG.take{st:List (List bp)}{n:Nat}(h:cG st n)(k:Nat){d:Nat}(j:total (st.drop k)≥d):cG (st.take k) (n-d):=by
 refine⟨fun r hr=>h.N3 r (awJ hr),?_⟩
 have b:=h.tot;have g:total st=total (st.take k)+total (st.drop k):=by rw [←fG,awv]
 omega
theorem cG.push{st:List (List bp)}{n m:Nat}(h:cG st n){r:List bp}(hr:Good r)(d:n+r.length≤m):cG (st++[r]) m:=by
 refine⟨fun x b=>?_,?_⟩
 ·rcases av1.1 b with b | b
  ·exact h.N3 x b
  ·simp at b;subst b;exact hr
 ·rw [fG,kB];have:=h.tot;omega
theorem cG.leaf{st:List (List bp)}{n:Nat}(h:cG st n){r:List bp}(hr:Good r)(b:r.length=1):cG (st.take st.length++[r]) (n+1):=by
 rw [awc];exact h.push hr (by omega)
theorem sW{st:List (List bp)}(h:0<st.length):total (st.drop (st.length-1))=(st[st.length-1]'(by omega)).length:=by
 rw [avW (by omega),List.drop_of_length_le (by omega),kB]
theorem DM{st:List (List bp)}(h:2≤st.length):total (st.drop (st.length-2))=(st[st.length-2]'(by omega)).length+(st[st.length-1]'(by omega)).length:=by
 have e:st.length-2+1=st.length-1:=by omega
 rw [avW (by omega),show st[st.length-2]::st.drop (st.length-2+1)=[st[st.length-2]]++st.drop (st.length-2+1) from rfl,fG,kB,e,sW (by omega)]
theorem cG.un{st:List (List bp)}{n:Nat}(h:cG st n)(b:0<st.length){r:List bp}(hr:Good r)(m:r.length=(st[st.length-1]'(by omega)).length+1):cG (st.take (st.length-1)++[r]) (n+1):=by
 have g:=sW b;have j:total st=total (st.take (st.length-1))+total (st.drop (st.length-1)):=by rw [←fG,awv]
 have l:=h.tot;exact(h.take (st.length-1) (d:=total (st.drop (st.length-1))) (aft _)).push hr (by omega)
theorem cG.bin{st:List (List bp)}{n:Nat}(h:cG st n)(b:2≤st.length){r:List bp}(hr:Good r)(m:r.length=(st[st.length-2]'(by omega)).length+(st[st.length-1]'(by omega)).length+1):cG (st.take (st.length-2)++[r]) (n+1):=by
 have g:=DM b;have j:total st=total (st.take (st.length-2))+total (st.drop (st.length-2)):=by rw [←fG,awv]
 have l:=h.tot;exact(h.take (st.length-2) (d:=total (st.drop (st.length-2))) (aft _)).push hr (by omega)
theorem cG.count{st:List (List bp)}{n:Nat}(h:cG st n):st.length≤n:=by
 have g:=h.tot
 have:∀ st:List (List bp),(∀ r ∈ st,Good r)→st.length≤total st:=by
  intro st
  induction st with
  | nil=>intro _;simp
  | cons r st d=>
   intro hg;have:=(hg r avQ).pos;have:=d fun x b=>hg x (avZ _ b)
   rw [show r::st=[r]++st from rfl,fG,kB,avR,awH]
   omega
 have:=this st h.N3;omega
theorem oL{st:List (List bp)}{i:Nat}(h:i<st.length):total (st.take (i+1))=total (st.take i)+st[i].length:=by
 rw [avN h,fG,kB]
theorem nZ(st:List (List bp))(i:Nat):total (st.take i)≤total st:=by
 have b:total st=total (st.take i)+total (st.drop i):=by rw [←fG,awv]
 omega
def vD(k:Nat):Nat:=if 8≤k∧k≤10∨k=17 then 2 else if 11≤k∧k≤16 then 1 else 0
def lV(k:Nat):Bool:=k=2||k=3||k=4||k=6||k=7||k=16
def DA(k:Nat):Int:=if k=3 then 1 else if k=4 then -40 else if k=6 then 1 else if k=16 then -400 else 0
def Dz(k:Nat):Int:=if k=3 then 16 else if k=4 then 40 else if k=5 then 6 else if k=6 then 54 else if k=14∨k=15 then 1099511627776 else if k=16 then 400 else 0
theorem cY.k{k dM l n m:Int}{li:List Int}(h:cY k dM l n m li):1≤k∧k≤17:=by
 unfold cY at h;omega
def mn(lo hi:Int)(l:List Int):Prop:=if lo=0∧hi=0 then l=[]else l≠[]∧l.Pairwise (· < ·)∧∀ x ∈ l,lo≤x∧x≤hi∧(lo<0→x≠0)
theorem Ny.lis{l:List Int}{lo hi b d:Int}{z:Bool}(h:Ny l lo hi z)(s:b≤lo)(u:hi≤d)(g:b<0→z=false)(j:¬ (b=0∧d=0)):mn b d l:=by
 unfold mn;rw [if_neg j];exact⟨h.ne,h.pw,fun x q=>by have:=h.bd x q;exact⟨by omega,by omega,fun m=>this.2.2 (g m)⟩⟩
theorem cY.lis{k dM l n m:Int}{li:List Int}(h:cY k dM l n m li):mn (DA k.toNat) (Dz k.toNat) li:=by
 unfold cY at h;have nil:mn 0 0 []:=by unfold mn;simp
 rcases h with⟨rfl,h⟩ | ⟨rfl,h⟩ | ⟨rfl,h⟩ | ⟨rfl,h⟩ | ⟨rfl,h⟩ | ⟨rfl,h⟩ | ⟨rfl,h⟩ | ⟨b,h⟩ | ⟨rfl,h⟩ | ⟨b,h⟩ | ⟨b,h⟩ | ⟨rfl,h⟩ | ⟨rfl,h⟩
 ·rw [h.2.1];exact nil
 ·rw [h.2.2.1];exact nil
 ·exact h.2.2.1.lis (by decide) (by decide) (by decide) (by decide)
 ·exact h.2.2.1.lis (by decide) (by decide) (by decide) (by decide)
 ·exact h.2.1.lis (by decide) (by decide) (by decide) (by decide)
 ·exact h.2.2.1.lis (by decide) (by decide) (by decide) (by decide)
 ·rw [h.2.2.1];exact nil
 ·rw [h.2.1];rcases b with rfl | rfl | rfl<;>exact nil
 ·rw [h.2.1];exact nil
 ·rw [h.2.1];rcases b with rfl | rfl<;>exact nil
 ·rcases b with rfl | rfl
  ·exact h.2.1.lis (by decide) (by decide) (by decide) (by decide)
  ·exact h.2.1.lis (by decide) (by decide) (by decide) (by decide)
 ·exact h.2.2.1.lis (by decide) (by decide) (by decide) (by decide)
 ·rw [h.2.1];exact nil
def xD(k l n m:Int):Prop:=
 if k=1 then 1≤n∧n≤1099511627776∧0≤m∧m≤1099511627776
 else if k=2 then 1≤n∧n≤400∧0≤m∧m≤n-1
 else if k=7 then -60≤n∧n≤60∧n≠0∧0≤m∧m≤6∧0≤l∧l≤1
 else if k=11 then -1099511627776≤n∧n≤1099511627776∧m=0
 else if k=12∨k=13 then 0≤n∧n≤1099511627776∧m=0
 else if k=16 then n=0∧0≤m∧m≤1
 else if k=17 then 1≤n∧n≤400∧m=0
 else n=0∧m=0
theorem cY.num{k dM l n m:Int}{li:List Int}(h:cY k dM l n m li):xD k l n m:=by
 unfold cY at h;unfold xD;rcases h with⟨rfl,h⟩ | ⟨rfl,h⟩ | ⟨rfl,h⟩ | ⟨rfl,h⟩ | ⟨rfl,h⟩ | ⟨rfl,h⟩ | ⟨rfl,h⟩ | ⟨b,h⟩ | ⟨rfl,h⟩ | ⟨b,h⟩ | ⟨b,h⟩ | ⟨rfl,h⟩ | ⟨rfl,h⟩
 ·simp;omega
 ·simp;omega
 ·simp;omega
 ·simp;omega
 ·simp;omega
 ·simp;omega
 ·simp;omega
 ·rcases b with rfl | rfl | rfl<;>simp<;>omega
 ·simp;omega
 ·rcases b with rfl | rfl<;>simp<;>omega
 ·rcases b with rfl | rfl<;>simp<;>omega
 ·simp;omega
 ·simp;omega
theorem cY.dM{k dM l n m:Int}{li:List Int}(h:cY k dM l n m li):0≤dM∧dM≤1∧(lV k.toNat=false→dM=0):=by
 unfold cY at h;rcases h with⟨rfl,h⟩ | ⟨rfl,h⟩ | ⟨rfl,h⟩ | ⟨rfl,h⟩ | ⟨rfl,h⟩ | ⟨rfl,h⟩ | ⟨rfl,h⟩ | ⟨b,h⟩ | ⟨rfl,h⟩ | ⟨b,h⟩ | ⟨b,h⟩ | ⟨rfl,h⟩ | ⟨rfl,h⟩
 all_goals first | exact⟨by omega,by omega,fun _=>by omega⟩ | exact⟨by omega,by omega,fun e=>by simp [lV]at e⟩
theorem tB{k:Int}(h:1≤k):dw k=vD k.toNat:=by
 unfold dw vD;obtain⟨n,rfl⟩:∃ n:Nat,k=n:=⟨k.toNat,by omega⟩
 rw [av2];split<;>split<;>(try split)<;>(try split)<;>first | rfl | omega
end
section
def bB(r:List bp)(n:Nat):List Int:=(List.range n).map fun k:Nat=>(eQ r (k:Int):Int)
@[simp] theorem am5 (r:List bp) (n:Nat):(bB r n).length=n:=by simp [bB]
theorem eM{r:List bp}{n k:Nat}(h:k<n):(bB r n)[k]'(by simpa using h)=eQ r (k:Int):=by simp [bB]
theorem y6(n:Nat):bB [] n=List.replicate n 0:=by
 refine aw7 (by simp) fun k b d=>?_
 rw [eM (by simpa using b)];simp [eQ]
def mJ(U:List Int)(k:Int):List Int:=U.set k.toNat (U.getD k.toNat 0+1)
@[simp] theorem apj (U:List Int) (k:Int):(mJ U k).length=U.length:=by simp [mJ]
theorem uO{U:List Int}{k:Int}(d:0≤k){j:Nat}(b:j<U.length):(mJ U k)[j]'(by simpa using b)=U[j]+(if k=j then 1 else 0):=by
 simp only [mJ,List.getElem_set];by_cases h:k.toNat=j
 ·subst h;rw [if_pos rfl,if_pos (by omega),av8,AI b];rfl
 ·rw [if_neg h,if_neg (by omega),Int.add_zero]
theorem G3{r:List bp}{x:bp}{n:Nat}(h:dw x.k=0):bB (r++[x]) n=bB r n:=by
 refine aw7 (by simp) fun k b d=>?_
 rw [eM (by simpa using b),eM (by simpa using b),iR]
 simp [eQ,ti,h]
theorem G4{r:List bp}{x:bp}{n:Nat}(h:dw x.k=1)(d:0≤x.l):bB (r++[x]) n=mJ (bB r n) x.l:=by
 refine aw7 (by simp) fun k b g=>?_
 rw [eM (by simpa using b),uO d (by simpa using b),eM (by simpa using b),iR]
 simp only [eQ,ti,h,show 1≤1 by decide,show¬ 1=2 by decide,true_and,false_and,if_false]
 split<;>omega
theorem G5{r:List bp}{x:bp}{n:Nat}(h:dw x.k=2)(d:0≤x.l)(hr:0≤x.r):bB (r++[x]) n=mJ (mJ (bB r n) x.l) x.r:=by
 refine aw7 (by simp) fun k b g=>?_
 rw [eM (by simpa using b),uO hr (by simpa using b),uO d (by simpa using b),eM (by simpa using b),iR]
 simp only [eQ,ti,h,show 1≤2 by decide,true_and,if_true]
 split<;>split<;>omega
theorem Good.bB{r:List bp}(h:Good r):∀ x ∈ (bB r r.length).take (r.length-1),x=1:=by
 intro x d;obtain⟨k,b,rfl⟩:=avT d;simp at b;rw [List.getElem_take,eM (by omega),h.auo k,if_pos (by omega)]
 rfl
theorem DO(r:List bp)(n k:Nat)(h:k<n):0≤(bB r n)[k]'(by simpa using h)∧(bB r n)[k]'(by simpa using h)≤2*r.length:=by
 rw [eM h]
 have:∀ r:List bp,eQ r (k:Int)≤2*r.length:=by
  intro r
  induction r with
  | nil=>simp [eQ]
  | cons x r b=>
   have:ti x (k:Int)≤2:=by unfold ti;split<;>split<;>omega
   simp only [eQ,awa];omega
 have:=this r;omega
end
section
structure fe where
 day:Int
 fr:Int
 to:Int
deriving DecidableEq
def fe.row(x:fe):List FC:=[fi x.day,fi x.fr,fi x.to]
def aW(l:List fe):List (List FC):=l.map fe.row
@[simp] theorem kT (l:List fe):(aW l).length=l.length:=by simp [aW]
theorem cr(l:List fe):bC 3 (aW l):=bC.map fun _=>rfl
theorem N9{l:List fe}{j:Nat}(b:j<l.length):(aW l)[j]?=some l[j].row:=by simp [aW,b]
structure aK where
 d:bp
 tg:Tg
def AS:ByteArray:=⟨#[]⟩
def aK.row(x:aK):List FC:=[fi x.d.k,fi x.d.dM,fi x.d.l,fi x.d.r,fi x.d.n,fi x.d.m,sl x.tg (ints x.d.li),.str AS]
def aE(l:List aK):List (List FC):=l.map aK.row
@[simp] theorem pV (l:List aK):(aE l).length=l.length:=by simp [aE]
theorem ea(l:List aK):bC 8 (aE l):=bC.map fun _=>rfl
theorem mT{l:List aK}{j:Nat}(b:j<l.length):(aE l)[j]?=some l[j].row:=by simp [aE,b]
@[simp] theorem agV (l:List aK):(aE l).isEmpty=l.isEmpty:=by cases l<;>rfl
abbrev dS(l:List aK):List bp:=l.map aK.d
structure bH where
 rg:Tg
 ru:List aK
 mi:Int
 le:Int
 zo:ByteArray
 c5:Int
 fold:Int
 mg:Tg
 mv:List bj
def bH.row(s:bH):List FC:=[sl s.rg (aE s.ru),fi s.mi,fi s.le,.str s.zo,fi s.c5,fi s.fold,sl s.mg (aV s.mv)]
abbrev bH.v(s:bH):V:=.a (s.row.map .f)
structure bH.OK(s:bH):Prop where
 ru:Good (dS s.ru)
 rl:s.ru.length≤64
 mi:0≤s.mi∧s.mi≤1439
 le:1≤s.le∧s.le≤10080
 zo:1≤s.zo.size∧s.zo.size≤32
 c5:0≤s.c5∧s.c5≤2
 fold:0≤s.fold∧s.fold≤2
 ml:s.mv.length≤64
 ms:pg s.mv
 mo:∀ m ∈ s.mv,m.OK
def bH.at_(s:bH)(d:Int):Int:=match dO s.mv d with
 | none=>d*1440+s.mi
 | some m=>m.to*1440+m.mi
def bH.CW(s:bH)(d:Int):Int:=match dO s.mv d with
 | none=>s.le
 | some m=>m.le
def bH.dropped(s:bH)(d:Int):Bool:=match dO s.mv d with
 | none=>false
 | some m=>m.drop
end
section
theorem dm(n lo hi:Int):Km.Pure tab.get ej [vi n,vi lo,vi hi]=Eq (vb (decide (lo≤n∧n≤hi))):=Km.Pure.eq (by
 refine bK aiM rfl fun Q b=>?_
 refine ae ?_;simp;refine ae ?_;by_cases h:lo≤n
 ·simp [h];exact aA (b _ _ (by simp [h]))
 ·simp [h];exact aA (b _ _ (by simp [h])))
def gq(k:Nat):List FC:=[fi (vD k),.bool (lV k),fi (DA k),fi (Dz k)]
def jh:List FC:=((List.range 19).map gq).flatten
theorem sj:Km.Pure tab.get zk []=Eq (.a (jh.map .f)):=Km.Pure.eq (aI (m:=60) (d:=10) (by kernel_rfl))
theorem Oa(g:Tg)(l:List Int)(lo hi:Int)(h:mn lo hi l)(hl:l.length≤9223372036854775807):Km.Pure tab.get Hu [.c (.f (sl g (ints l))),.a [.f (fi lo),.f (fi hi)]]=Eq (vb true):=Km.Pure.eq (by
 refine bK aob rfl fun Q hQ=>?_
 refine ae ?_;simp;refine ag (ae ?_);unfold mn at h;by_cases A:lo=0∧hi=0
 ·rw [if_pos A]at h;obtain⟨rfl,rfl⟩:=A;subst h;simp [zW];refine aj (by simp) ?_
  refine ae ?_;simp;exact aA (hQ _ _ (by simp))
 rw [if_neg A]at h;obtain⟨U,W,hb⟩:=h
 have L:(lo == 0&&hi == 0)=false:=by
  rw [Bool.eq_false_iff];intro e;simp at e;exact A e
 simp [zW,L];refine aY (by simp) ?_
 have z:=aww.2 U;refine ag (ae ?_);simp;refine eV l.length (fun j t H=>t.g 0=.c (.f (sl g (ints l)))∧t.g 13=.c (.f (sl g (ints l)))∧t.g 3=.c (.ptr 0 0 0)∧H[0]?=some (.box [.f (fi lo),.f (fi hi)] 0)) hl (by decide) (by decide) (by simp) (by simp) ⟨by simp,by simp,by simp,rfl⟩ ?_ ?_
 ·rintro j t H N ⟨u,b,q,B⟩ v m next;obtain⟨b1,Y,Z⟩:=hb _ (IT N);obtain⟨x,X⟩:∃ x,x=l[j]:=⟨_,rfl⟩;rw [←X]at b1 Y Z;refine av (ae ?_);simp [b,v,cT,N,fQ];rw [←X];refine ae ?_;have F:aQ H none (.c (.ptr 0 0 0))=some (vi lo):=by simp [aQ,B,az,aF]
  have e2:aQ H none (.c (.ptr 0 1 0))=some (vi hi):=by simp [aQ,B,az,aF]
  have E:decide (lo≤x∧x≤hi)=true:=decide_eq_true ⟨b1,Y⟩;simp [q,F,e2,-an,dm,E]
  have s:∀ t:T,t.g 0=.c (.f (sl g (ints l)))→t.g 13=.c (.f (sl g (ints l)))→t.g 3=.c (.ptr 0 0 0)→t.g 15=vi j→t.g 14=vi l.length→t.g 48=vb false→WP tab.get Hu none [.code B3,.inBlock 1,.code B4,.inLoop B0,.inBlock 0,.code B5] ⟨t,[],H⟩ Q:=by
   intro t u b q J I K;refine ah K (aB ?_);exact al (next _ _ ⟨by simp [u],by simp [b],by simp [q],B⟩ (by simp [J]) (by simp [I]))
  have y:x=0→¬ lo<0:=fun e h=>Z h e
  by_cases O:j=0
  ·subst O;simp;by_cases d:x=0
   ·have:=y d;simp [d,q,F,-an,this];exact s _ (by simp [u]) (by simp [b]) (by simp [q]) (by simp [v]) (by simp [m]) (by simp)
   ·simp [d];exact s _ (by simp [u]) (by simp [b]) (by simp [q]) (by simp [v]) (by simp [m]) (by simp)
  ·have hw:IntKind.i64.wrap ((j:Int)-1)=((j-1:Nat):Int):=by rw [wrap64 (by omega) (by omega)];omega
   have a8:l[j-1]<x:=by rw [X];exact avX.1 W (j-1) j (by omega) N (by omega)
   have S:j-1<l.length:=by omega
   have M:∀ H,aG H 1 none (.c (.f (sl g (ints l)))) (vi ((j-1:Nat):Int))=some (.c (.f (.fp (ints l).flatten (j-1)))):=fun H=>by
    have:=cT (H:=H) (g:=g) (rows:=ints l) (sz:=1) (k:=.i64) (i:=((j-1:Nat):Int)) (by omega) (by simp;omega)
    simpa using this
   simp [show 0<j by omega,u,hw,M,fQ S,show¬ x≤l[j-1] by omega]
   by_cases d:x=0
   ·have:=y d;simp [d,q,F,-an,this];exact s _ (by simp [u]) (by simp [b]) (by simp [q]) (by simp [v]) (by simp [m]) (by simp)
   ·simp [d];exact s _ (by simp [u]) (by simp [b]) (by simp [q]) (by simp [v]) (by simp [m]) (by simp)
 ·rintro t H ⟨u,b,q,B⟩ v m;refine ae ?_;simp [u,z]
  exact aA (hQ _ _ (by simp)))
theorem Ar(x:aK)(h:xD x.d.k x.d.l x.d.n x.d.m):Km.Pure tab.get tV [.a (x.row.map .f)]=Eq (vb true):=Km.Pure.eq (by
 obtain⟨⟨k,A,l,r,n,m,li⟩,tg⟩:=x;simp only [xD]at h;refine bK aiJ rfl fun Q E=>?_
 have b:∀ t H,t.g 2=vb true→WP tab.get tV none [.code .ret,.inBlock 0,.code qQ] ⟨t,[],H⟩ Q:=fun t H I=>aA (E _ _ (by simp [I]))
 refine ae ?_;simp [aK.row];refine ag (ae ?_);simp;refine av (ae ?_);simp;by_cases v:k=1
 ·rw [if_pos v]at h;refine aj (by simp [v]) (ae ?_)
  simp [dm,h];exact b _ _ (by simp)
 rw [if_neg v]at h;refine ah (by simp [v]) (ae ?_)
 simp;by_cases y:k=2
 ·rw [if_pos y]at h;refine aj (by simp [y]) (ae ?_)
  simp [dm,h,wrap64 (n:=n-1) (by omega) (by omega)]
  exact b _ _ (by simp)
 rw [if_neg y]at h;refine ah (by simp [y]) (ae ?_)
 simp;by_cases z:k=7
 ·rw [if_pos z]at h;refine aj (by simp [z]) (ae ?_)
  simp [dm,h];exact b _ _ (by simp)
 rw [if_neg z]at h;refine ah (by simp [z]) (ae ?_)
 simp;by_cases d:k=11
 ·rw [if_pos d]at h;refine aj (by simp [d]) (ae ?_)
  simp [dm,h];exact b _ _ (by simp)
 rw [if_neg d]at h;refine ah (by simp [d]) (ag (ae ?_))
 simp
 have u:k=12∨k=13→∀ t,t.g 1=.c (.ptr 0 0 0)→t.g 58=vb true→WP tab.get tV none [.code wS,.inBlock 0,.code qQ] ⟨t,[],[.box ((aK.row ⟨⟨k,A,l,r,n,m,li⟩,tg⟩).map .f) 0]⟩ Q:=by
  intro c t F B;rw [if_pos c]at h;refine aj B (ae ?_);simp [F,aK.row,dm,h];exact b _ _ (by simp)
 by_cases g:k=12
 ·refine aj (by simp [g]) (aB ?_)
  exact u (.inl g) _ (by simp) (by simp [g])
 refine ah (by simp [g]) (ab (.inl rfl) ?_)
 simp;by_cases s:k=13
 ·exact u (.inr s) _ (by simp) (by simp [s])
 rw [if_neg (by omega)]at h
 refine ah (by simp [s]) (ae ?_)
 simp;by_cases j:k=16
 ·rw [if_pos j]at h;refine aj (by simp [j]) (ae ?_)
  simp [dm,h];exact b _ _ (by simp)
 rw [if_neg j]at h;refine ah (by simp [j]) (ae ?_)
 simp;by_cases q:k=17
 ·rw [if_pos q]at h;refine aj (by simp [q]) (ae ?_)
  simp [dm,h];exact b _ _ (by simp)
 rw [if_neg q]at h;refine aY (by simp [q]) ?_
 refine al (ae ?_);simp [h]
 exact aA (E _ _ (by simp)))
end
section
def fI:Nat→List FC
 | 0=>[fi 2,.fs [fi 7,fi 6] 2,fi (-1),.ay]
 | k+1=>[fi 5,.fs [fi 7,fi 8] 2,fi 1,.fs [fi 2,fi (k:Nat),.bool true] 1]
def jN(c y m:Nat):Nat:=match c,m with
 | 0,1=>7
 | 0,_=>6
 | _+1,1=>7
 | k+1,_=>if y % 2=k then 9 else 8
def sy(c y:Nat):Nat:=jN c y 1+jN c y 2
def ao6:Nat→Nat
 | 0=>1
 | _=>2
def ib:Nat→Nat
 | 0=>13
 | _=>31
abbrev jK(c:Nat):V:=.a ((fI c).map .f)
def isI(r:Option (V × ai))(n:Nat):Bool:=match r with
 | some (.c (.f (.int .i64 (.ofNat k))),_)=>Nat.beq k n
 | _=>false
theorem uQ{r:Option (V × ai)}{n:Nat}(h:isI r n=true):r.map (·.1)=some (vi (n:Nat)):=by
 unfold isI at h;split at h
 ·rw [awN h];rfl
 ·cases h
theorem Ao:((List.range 3).all fun c=>(List.range 14).all fun y=>(List.range 2).all fun m=>isI (CF tab.get 300 30 (.fn Ns) [jK c,vi ((y+1:Nat):Nat),vi ((m+1:Nat):Nat)] []) (jN c (y+1) (m+1)))=true:=by kernel_rfl
theorem DW:((List.range 3).all fun c=>(List.range 14).all fun y=>isI (CF tab.get 300 30 (.fn aiG) [jK c,vi ((y+1:Nat):Nat)] []) (sy c (y+1)))=true:=by kernel_rfl
theorem wz:((List.range 3).all fun c=>(List.range 14).all fun y=>(List.range 2).all fun m=>isI (CF tab.get 300 30 (.fn xu) [jK c,vi ((y+1:Nat):Nat),vi ((m+1:Nat):Nat)] []) (jN c (y+1) (m+1)))=true:=by kernel_rfl
theorem A1:((List.range 3).all fun c=>(List.range 14).all fun y=>isI (CF tab.get 300 30 (.fn ZG) [jK c,vi ((y+1:Nat):Nat)] []) (sy c (y+1)))=true:=by kernel_rfl
theorem dh{p:Nat→Bool}{n k:Nat}(h:(List.range n).all p=true)(b:k<n):p k=true:=avP.1 h k (List.mem_range.2 b)
theorem sP{c y m:Nat}(b:c<3)(d:1≤y)(g:y≤14)(j:1≤m)(l:m≤2):Km.Pure tab.get Ns [jK c,vi (y:Nat),vi (m:Nat)]=Eq (vi (jN c y m:Nat)):=by
 obtain⟨y,rfl⟩:∃ k,y=k+1:=⟨y-1,by omega⟩
 obtain⟨m,rfl⟩:∃ k,m=k+1:=⟨m-1,by omega⟩
 have h:=dh (dh (dh Ao b) (show y<14 by omega)) (show m<2 by omega)
 exact(dC (uQ h)).eq
theorem G'{c y:Nat}(b:c<3)(d:1≤y)(g:y≤14):Km.Pure tab.get aiG [jK c,vi (y:Nat)]=Eq (vi (sy c y:Nat)):=by
 obtain⟨y,rfl⟩:∃ k,y=k+1:=⟨y-1,by omega⟩
 have h:=dh (dh DW b) (show y<14 by omega)
 exact(dC (uQ h)).eq
theorem pT{c y m:Nat}(b:c<3)(d:1≤y)(g:y≤14)(j:1≤m)(l:m≤2):Km.Pure tab.get xu [jK c,vi (y:Nat),vi (m:Nat)]=Eq (vi (jN c y m:Nat)):=by
 obtain⟨y,rfl⟩:∃ k,y=k+1:=⟨y-1,by omega⟩
 obtain⟨m,rfl⟩:∃ k,m=k+1:=⟨m-1,by omega⟩
 have h:=dh (dh (dh wz b) (show y<14 by omega)) (show m<2 by omega)
 exact(dC (uQ h)).eq
theorem DV{c y:Nat}(b:c<3)(d:1≤y)(g:y≤14):Km.Pure tab.get ZG [jK c,vi (y:Nat)]=Eq (vi (sy c y:Nat)):=by
 obtain⟨y,rfl⟩:∃ k,y=k+1:=⟨y-1,by omega⟩
 have h:=dh (dh A1 b) (show y<14 by omega)
 exact(dC (uQ h)).eq
theorem DQ:((List.range 600).all fun k=>isI (CF tab.get 60 30 (.fn afI) [vi ((k:Nat)-300)] []) (((k:Int)-300) % 7).toNat)=true:=by kernel_rfl
theorem vQ{n:Int}(h:-300≤n)(j:n<300):Km.Pure tab.get afI [vi n]=Eq (vi (n % 7)):=by
 obtain⟨k,g⟩:∃ k:Nat,(k:Int)-300=n:=⟨(n+300).toNat,by omega⟩
 have d:=dh DQ (show k<600 by omega)
 have b:=(dC (uQ d)).eq;rw [g]at b
 rwa [Int.toNat_of_nonneg (awd n (by omega))]at b
theorem wm{c:Nat}(b:c<3):Km.Pure tab.get am' [jK c]=Eq (vb true):=by
 have:c=0∨c=1∨c=2:=by omega
 rcases this with rfl | rfl | rfl<;>exact Km.Pure.eq (aI (m:=300) (d:=30) (by kernel_rfl))
theorem O6{c:Nat}(b:c<3):Km.Pure tab.get aia [jK c]=Eq (vb true):=by
 have:c=0∨c=1∨c=2:=by omega
 rcases this with rfl | rfl | rfl<;>exact Km.Pure.eq (aI (m:=300) (d:=30) (by kernel_rfl))
theorem wh{c:Nat}(b:c<3):Km.Pure tab.get am9 [jK c]=Eq (.t [vi (ao6 c:Nat),vi (ib c:Nat),vi 0]):=by
 have:c=0∨c=1∨c=2:=by omega
 rcases this with rfl | rfl | rfl<;>exact Km.Pure.eq (aI (m:=300) (d:=30) (by kernel_rfl))
theorem NR{c:Nat}(b:c<3):Km.Pure tab.get ah_ [jK c]=Eq (.t [vi (ao6 c:Nat),vi (ib c:Nat),vi 0]):=by
 have:c=0∨c=1∨c=2:=by omega
 rcases this with rfl | rfl | rfl<;>exact Km.Pure.eq (aI (m:=300) (d:=30) (by kernel_rfl))
end
section
structure eg.OK(x:eg):Prop where
 mo:x.mo=1∨x.mo=2
 wk:x.wk=1∨x.wk=5
 wd0:0≤x.wd
 wd:x.wd≤6
 mi0:0≤x.mi
 mi:x.mi≤1439
 of0:-1080≤x.off
 of:x.off≤1080
def oO(c y:Nat)(b:Int)(x:eg):Int:=if x.mo=2 then b+jN c y 1 else b
def qN(c y:Nat)(x:eg):Int:=jN c y x.mo.toNat
def jL(b d j g:Int):Int:=if j=5 then b+d-1-(b+d-1-g) % 7 else b+(g-b) % 7
def gm(b d g j:Int):Bool:=if g=5 then decide (b≤jL b d g j)else decide (jL b d g j<b+d)
theorem fq(c y m:Nat):jN c y m≤9:=by unfold jN;split<;>(try split)<;>omega
theorem pQ(c y m:Nat):6≤jN c y m:=by unfold jN;split<;>(try split)<;>omega
theorem G9{c y:Nat}(L:c<3)(N:1≤y)(l:y≤14){b:Int}(hb:0≤b)(Y:b≤260)(x:eg)(hx:x.OK) :
  Km.Pure tab.get Fv [jK c,vi b,vi (y:Nat),.a (x.row.map .f)]=Eq (.t [vi (jL (oO c y b x) (qN c y x) x.wk x.wd),vb (gm (oO c y b x) (qN c y x) x.wk x.wd)]):=Km.Pure.eq (by
 obtain⟨hm,hw,w0,w6,-,-,-,-⟩:=hx;have I:=sP L N l (m:=1) (by omega) (by omega)
 have O:=sP L N l (m:=2) (by omega) (by omega)
 have k1:=fq c y 1;have k2:=fq c y 2;have a_:=fq c y x.mo.toNat;have M:=pQ c y x.mo.toNat
 have S:Km.Pure tab.get Ns [jK c,vi (y:Nat),vi x.mo]=Eq (vi (qN c y x)):=by
  rcases hm with h | h
  ·unfold qN;rw [h];exact I
  ·unfold qN;rw [h];exact O
 have hq:qN c y x=(jN c y x.mo.toNat:Nat):=rfl;have Z:b≤oO c y b x∧oO c y b x≤b+9:=by unfold oO;split<;>omega
 generalize X:oO c y b x=U at *;generalize hM:qN c y x=g at *;refine bK ajM rfl fun Q K=>?_
 refine ae ?_;simp;refine ag ?_;refine ae ?_;simp;refine av ?_
 have cl:∀ z:cU,aQ [.box ((fI c).map .f) 0,z] (some 4) (.c (.ptr 0 0 0))=some (jK c):=by
  intro z;have:c=0∨c=1∨c=2:=by omega
  rcases this with rfl | rfl | rfl<;>rfl
 have ly:∀ z:cU,aQ [z,.box [.f (fi x.mo),.f (fi x.wk),.f (fi x.wd),.f (fi x.mi),.f (fi x.off)] 0] none (.c (.ptr 1 0 0))=some (vi x.mo):=fun _=>rfl
 refine bw (fun n s=>∃(m:Nat) (t:T) (d:Int),s=⟨t,[],[.box ((fI c).map .f) 0,.box (x.row.map .f) 0]⟩∧n=2-m∧(m=1∧d=b∨m=2∧x.mo=2∧d=b+(jN c y 1:Nat))∧t.g 1=vi d∧t.g 2=vi (y:Nat)∧t.g 4=.c (.ptr 0 0 0)∧t.g 7=.c (.ptr 1 0 0)∧t.g 10=vi (m:Nat)) 1
  ⟨1,_,b,rfl,rfl,.inl ⟨rfl,rfl⟩,by simp,by simp,by simp,by simp,by simp⟩ ?_
 rintro n s ⟨m,t,d,rfl,rfl,H,q,v,A,j,g10⟩ ih;refine ag ?_;refine ae ?_;simp [g10,j,eg.row];by_cases a8:(m:Int)<x.mo
 ·have m1:m=1:=by omega
  subst m1;have F:d=b:=by omega
  subst F;refine aj (by simp;omega) (aB ?_)
  refine ag ?_;refine av ?_;refine ab (.inl rfl) ?_;have u:Km.Pure tab.get Ns [jK c,vi (y:Nat),vi 1]=Eq (vi (jN c y 1:Nat)):=I;simp [g10,q,v,A,cl,-an,u,wrap64 (n:=d+(jN c y 1:Nat)) (by omega) (by omega),eg.row]
  refine al ?_;refine ab (.inl rfl) ?_;simp [g10];refine ih 0 _ (by omega) ⟨2,_,_,rfl,by omega,.inr ⟨rfl,by omega,rfl⟩,?_,?_,?_,?_,?_⟩<;>simp [v,A,j,show IntKind.i64.wrap 2=2 from rfl]
 ·have E:d=U:=by
   rw [←X];unfold oO;rcases H with⟨rfl,rfl⟩ | ⟨rfl,W,rfl⟩
   ·rw [if_neg (by omega)]
   ·rw [if_pos W]
  subst E;refine ah (by simp;omega) ?_
  refine aT (k':=[.code xp]) rfl ?_;refine ae ?_;have hp:g≤9:=by omega
  have b7:6≤g:=by omega
  simp [q,v,A,j,cl,ly,-an,S,wrap64 (n:=d+g) (by omega) (by omega)]
  refine ae ?_;have q0:=awd (x.wd-d) (show(7:Int)≠0 by omega)
  have q1:=awe (x.wd-d) (show(0:Int)<7 by omega)
  simp [q,j,wrap64 (n:=x.wd-d) (by omega) (by omega),vQ (n:=x.wd-d) (by omega) (by omega),wrap64 (n:=d+(x.wd-d) % 7) (by omega) (by omega)]
  refine ag ?_;refine ae ?_;simp [j];by_cases B:x.wk=5
  ·refine aj (by simp [B]) ?_
   have r0:=awd (d+g-1-x.wd) (show(7:Int)≠0 by omega)
   have r1:=awe (d+g-1-x.wd) (show(0:Int)<7 by omega)
   refine ae ?_;simp [j,wrap64 (n:=d+g-1) (by omega) (by omega),wrap64 (n:=d+g-1-x.wd) (by omega) (by omega),vQ (n:=d+g-1-x.wd) (by omega) (by omega),wrap64 (n:=d+g-1-(d+g-1-x.wd) % 7) (by omega) (by omega)]
   refine ae ?_;simp [q];refine aA (K _ _ ?_);simp [jL,gm,B]
  ·have J:x.wk=1:=by omega
   refine aY (by simp [B]) ?_
   refine ae ?_;simp [j,J,wrap64 (n:=(0:Int)) (by omega) (by omega),wrap64 (n:=d+(x.wd-d) % 7) (by omega) (by omega)]
   refine ae ?_;simp;refine aA (K _ _ ?_)
   simp [jL,gm,J])
end
section
theorem agf{c y:Nat}(hc:c<3)(hy:1≤y)(L:y≤14){b:Int}(hb:0≤b)(b7:b≤260)(x:eg)(hx:x.OK) :
  Km.Pure tab.get Hk [jK c,vi b,vi (y:Nat),.a (x.row.map .f)]=Eq (.t [vi (if gm (oO c y b x) (qN c y x) x.wk x.wd then jL (oO c y b x) (qN c y x) x.wk x.wd else -1),vb (gm (oO c y b x) (qN c y x) x.wk x.wd)]):=Km.Pure.eq (by
 obtain⟨hm,l,w0,w6,-,-,-,-⟩:=hx;have e1:=pT hc hy L (m:=1) (by omega) (by omega)
 have e2:=pT hc hy L (m:=2) (by omega) (by omega)
 have k1:=fq c y 1;have k2:=fq c y 2;have c9:=fq c y x.mo.toNat;have a_:=pQ c y x.mo.toNat
 have e3:Km.Pure tab.get xu [jK c,vi (y:Nat),vi x.mo]=Eq (vi (qN c y x)):=by
  rcases hm with h | h
  ·unfold qN;rw [h];exact e1
  ·unfold qN;rw [h];exact e2
 have hq:qN c y x=(jN c y x.mo.toNat:Nat):=rfl;have b9:b≤oO c y b x∧oO c y b x≤b+9:=by unfold oO;split<;>omega
 generalize hF:oO c y b x=fm at *;generalize hM:qN c y x=v at *;refine bK anX rfl fun Q W=>?_
 refine ae ?_;simp;refine ae ?_;simp;refine ag ?_;refine ae ?_;simp;refine av ?_
 have cl:∀ z:cU,aQ [.box ((fI c).map .f) 0,z] (some 4) (.c (.ptr 0 0 0))=some (jK c):=by
  intro z;have:c=0∨c=1∨c=2:=by omega
  rcases this with rfl | rfl | rfl<;>rfl
 have ly:∀ z:cU,aQ [z,.box [.f (fi x.mo),.f (fi x.wk),.f (fi x.wd),.f (fi x.mi),.f (fi x.off)] 0] none (.c (.ptr 1 0 0))=some (vi x.mo):=fun _=>rfl
 refine bw (fun n s=>∃(m:Nat) (t:T) (g:Int),s=⟨t,[],[.box ((fI c).map .f) 0,.box (x.row.map .f) 0]⟩∧n=2-m∧(m=1∧g=b∨m=2∧x.mo=2∧g=b+(jN c y 1:Nat))∧t.g 10=vi g∧t.g 2=vi (y:Nat)∧t.g 4=.c (.ptr 0 0 0)∧t.g 7=.c (.ptr 1 0 0)∧t.g 11=vi (m:Nat)) 1
  ⟨1,_,b,rfl,rfl,.inl ⟨rfl,rfl⟩,by simp,by simp,by simp,by simp,by simp⟩ ?_
 rintro n s ⟨m,t,g,rfl,rfl,a8,S,E,F,u,g10⟩ M;refine ag ?_;refine ae ?_;simp [g10,u,eg.row];by_cases b_:(m:Int)<x.mo
 ·have m1:m=1:=by omega
  subst m1;have Y:g=b:=by omega
  subst Y;refine aj (by simp;omega) (aB ?_)
  refine ag ?_;refine av ?_;refine ab (.inl rfl) ?_;have O:Km.Pure tab.get xu [jK c,vi (y:Nat),vi 1]=Eq (vi (jN c y 1:Nat)):=e1;simp [g10,S,E,F,cl,-an,O,wrap64 (n:=g+(jN c y 1:Nat)) (by omega) (by omega),eg.row]
  refine al ?_;refine ab (.inl rfl) ?_;simp [g10];refine M 0 _ (by omega) ⟨2,_,_,rfl,by omega,.inr ⟨rfl,by omega,rfl⟩,?_,?_,?_,?_,?_⟩<;>simp [E,F,u,show IntKind.i64.wrap 2=2 from rfl]
 have X:g=fm:=by
  rw [←hF];unfold oO;rcases a8 with⟨rfl,rfl⟩ | ⟨rfl,h2,rfl⟩
  ·rw [if_neg (by omega)]
  ·rw [if_pos h2]
 subst X;have hp:v≤9:=by omega
 have c_:6≤v:=by omega
 refine ah (by simp;omega) ?_
 refine aT (k':=[.code BQ]) rfl ?_;refine ae ?_;simp;refine ae ?_;simp;refine ag ?_;refine ae ?_;simp [S];refine av ?_
 refine bw (fun n s=>∃(d j la:Int) (t:T),s=⟨t,[],[.box ((fI c).map .f) 0,.box [.f (fi x.mo),.f (fi x.wk),.f (fi x.wd),.f (fi x.mi),.f (fi x.off)] 0]⟩∧n=(g+v-d).toNat∧g≤d∧d≤g+v∧0≤j∧j≤d-g ∧
   (x.wk=1→j=0∧la = -1∧d≤g+(x.wd-g) % 7)∧(x.wk=5→la=if g≤d-1-(d-1-x.wd) % 7 then d-1-(d-1-x.wd) % 7 else -1) ∧
   t.g 2=vi (y:Nat)∧t.g 4=.c (.ptr 0 0 0)∧t.g 7=.c (.ptr 1 0 0)∧t.g 10=vi g∧t.g 12=vi j∧t.g 13=vi la∧t.g 14=vi d) v.toNat
  ⟨g,0,-1,_,rfl,by omega,awQ _,by omega,by omega,by omega,fun _=>⟨rfl,rfl,by omega⟩,fun _=>(if_neg (by omega)).symm,by simp [E],by simp [F],by simp [u],by simp [S],by simp,by simp,by simp⟩ ?_
 clear M;rintro n s ⟨d,j,la,t,rfl,rfl,d0,d1,c0,c1,I,J,E,F,u,g10,H,B,q⟩ M;refine ag ?_;refine ae ?_;simp [E,F,u,g10,q,cl,ly,-an,e3,wrap64 (n:=g+v) (by omega) (by omega)]
 by_cases hd:d<g+v
 case neg=>
  have Z:d=g+v:=by omega
  subst Z;refine ah (by simp) ?_
  refine aT (k':=[.code tS]) rfl ?_;rcases l with l | l
  ·obtain⟨rfl,rfl,hk⟩:=I l;refine ae ?_;simp [B,u,l];refine aA (W _ _ ?_);have:gm g v 1 x.wd=false:=by simp [gm,jL];omega
   simp [l,this]
  ·have A:=J l;refine ae ?_;simp [B,u,l];refine aA (W _ _ ?_);by_cases h:g≤g+v-1-(g+v-1-x.wd) % 7
   ·rw [if_pos h]at A;have e:gm g v 5 x.wd=true:=by simp [gm,jL];omega
    have N:jL g v 5 x.wd=la:=by simp [jL,A]
    simp [l,e,N];omega
   ·rw [if_neg h]at A;have e:gm g v 5 x.wd=false:=by simp [gm,jL];omega
    simp [l,e,A]
 refine aj (by simp;omega) (aB ?_)
 refine ag ?_;refine av ?_;refine ae ?_;have hr:bJ .rem (vi d) (vi 7)=some (vi (d % 7)):=jR (by omega) (by omega)
 simp [q,u,hr];by_cases K:d % 7=x.wd
 ·refine aj (by simp [K]) ?_
  refine ae ?_;simp [H,wrap64 (n:=j+1) (by omega) (by omega)]
  refine ae ?_;simp [q];refine ag ?_;rcases l with l | l
  ·obtain⟨rfl,rfl,hk⟩:=I l;refine ab (.inl rfl) ?_;simp [u,l];refine aj (by simp) ?_
   refine ae ?_;simp [q];refine aA (W _ _ ?_);have N:jL g v 1 x.wd=d:=by simp [jL];omega
   have e:gm g v 1 x.wd=true:=by simp [gm,N,hd]
   simp [l,e,N]
  ·have A:=J l;refine ab (.inl rfl) ?_
   have O_:∀ t:T,t.g 2=vi (y:Nat)→t.g 4=.c (.ptr 0 0 0)→t.g 7=.c (.ptr 1 0 0)→t.g 10=vi g→t.g 12=vi (j+1)→t.g 13=vi d→t.g 14=vi d →
     WP tab.get Hk none [.code BU,.inLoop BS,.inBlock 2,.code tS] ⟨t,[],[.box ((fI c).map .f) 0,.box [.f (fi x.mo),.f (fi 5),.f (fi x.wd),.f (fi x.mi),.f (fi x.off)] 0]⟩ Q:=by
    intro t E F u g10 H B q;have eh:([.box ((fI c).map .f) 0,.box [.f (fi x.mo),.f (fi 5),.f (fi x.wd),.f (fi x.mi),.f (fi x.off)] 0]:ai)=[.box ((fI c).map .f) 0,.box [.f (fi x.mo),.f (fi x.wk),.f (fi x.wd),.f (fi x.mi),.f (fi x.off)] 0]:=by rw [l]
    rw [eh];refine ab (.inl rfl) ?_;simp [q,wrap64 (n:=d+1) (by omega) (by omega)]
    refine M _ _ ?_ ⟨d+1,j+1,d,_,rfl,rfl,by omega,by omega,by omega,by omega,fun h=>by omega,fun _=>?_,by simp [E],by simp [F],by simp [u],by simp [g10],by simp [H],by simp [B],by simp⟩
    ·omega
    ·rw [if_pos (by omega)];omega
   by_cases U:j+1=5
   ·simp [u,l,U];refine ah (by simp) (aB (al (O_ _ ?_ ?_ ?_ ?_ ?_ ?_ ?_)))<;>simp [E,F,u,g10,q,U]
   ·simp [u,l,U];refine ah (by simp) (aB (al (O_ _ ?_ ?_ ?_ ?_ ?_ ?_ ?_)))<;>simp [E,F,u,g10,q]
 ·refine ah (by simp [K]) (aB (al ?_))
  refine ab (.inl rfl) ?_;simp [q,wrap64 (n:=d+1) (by omega) (by omega)]
  refine M _ _ ?_ ⟨d+1,j,la,_,rfl,rfl,by omega,by omega,by omega,by omega,fun h=>?_,fun h=>?_,by simp [E],by simp [F],by simp [u],by simp [g10],by simp [H],by simp [B],by simp⟩
  ·omega
  ·obtain⟨a1,a2,a3⟩:=I h;exact⟨a1,a2,by omega⟩
  ·have A:=J h
   rw [A,show d+1-1=d by omega,show d-1-(d-1-x.wd) % 7=d-(d-x.wd) % 7 by omega])
end
section
def ZM(t:bD)(l o:List bD):Prop:=∃ A B,l=A++B∧o=A++t::B∧(∀ x ∈ B,t.at_<x.at_)∧∀ x,A.getLast?=some x→x.at_≤t.at_
theorem cd{n b:Nat}(g:n≤1100000)(d:b≤4096):bI n b=true:=by
 have h:(2*n+768)*b≤2200768*4096:=Nat.mul_le_mul (by omega) d
 simp [bI];omega
theorem dn{l:List bD}{j:Nat}{x:bD}(h:l[j]?=some x):(aJ l)[j]?=some x.row:=by simp [aJ,h]
theorem oM(l:List bD)(j:Nat)(x:bD):(aJ l).set j x.row=aJ (l.set j x):=by simp [aJ,List.map_set]
@[simp] theorem bD.tF (x:bD):x.row.length=2:=rfl
theorem N7{H:ai}{c:C}{l:List bD}(hL:LR H c 2 (aJ l))(hl:l.length≤1000)(x:bD) :
  ∃ o q F,ZM x l o∧Ev tab.get (.fn Ch) [.c c,.a (x.row.map .f)] H (.c q) F∧LR F q 2 (aJ o)∧Kb H F c∧(aL q=aL c∨∃ i,aL q=some i∧H.length≤i):=by
 suffices h:∃ r F,Ev tab.get (.fn Ch) [.c c,.a (x.row.map .f)] H r F∧∃ o q,r=.c q∧ZM x l o∧LR F q 2 (aJ o)∧Kb H F c∧(aL q=aL c∨∃ i,aL q=some i∧H.length≤i) by
  obtain⟨r,F,h1,o,q,rfl,h2,h3,h4,h5⟩:=h;exact⟨o,q,F,h2,h1,h3,h4,h5⟩
 refine da anY rfl fun Q hQ=>?_
 refine ae ?_;simp [bD.row];obtain⟨U,u⟩:∃ U:ai,U=H++[.box [.f (fi x.at_),.f (fi x.off)] 0]:=⟨_,rfl⟩;rw [←u];have b1:U[H.length]?=some (.box [.f (fi x.at_),.f (fi x.off)] 0):=by rw [u];simp
 have l1:U.length=H.length+1:=by rw [u];simp
 obtain⟨H2,v⟩:∃ H2:ai,H2=U++[.box (x.row.map .f) 0]:=⟨_,rfl⟩;have f_:LR H2 c 2 (aJ l):=by rw [v,u];exact(hL.push _).push _
 have h_:H2[U.length]?=some (.box (x.row.map .f) 0):=by rw [v];simp
 obtain⟨c3,H3,c9,g_,X,c_⟩:=f_.app (cw _) (by decide) (row:=x.row) rfl (bytes:=16) (cd (by simp;omega) (by decide)) h_
 have l2:H2.length=H.length+2:=by rw [v];simp [l1]
 have hK:Kb H H3 c:=⟨by have:=X.1;omega,fun i y hy hn=>X.2 i y (by rw [v,u,awh,AT (ak hy)];exact hy) hn⟩
 have O:aL c3=aL c∨∃ i,aL c3=some i∧H.length≤i:=c_.imp id fun h=>⟨_,h,by omega⟩
 refine ae ?_;have e2:U++[.box [.f (fi x.at_),.f (fi x.off)] 0]=H2:=v.symm;simp [b1,aF];rw [e2];simp [c9];rcases g_ with⟨h,_⟩ | ⟨_,b,g,rfl,hb⟩
 ·simp at h
 have e3:aJ l++[x.row]=aJ (l++[x]):=by simp [aJ]
 rw [e3]at hb;refine ag ?_;refine ae ?_;simp [hb.len];refine av ?_;clear X c_
 refine bw (fun n s=>∃(A B:List bD) (t:T) (J:ai),s=⟨t,[],J⟩∧n=A.length∧l=A++B∧(∀ z ∈ B,x.at_<z.at_)∧RB J b 2 g (aJ (A++x::B))∧Fm b H3 J∧t.g 5=.c (.sl b 0 (l.length+1) 0 g 2)∧t.g 6=vi A.length) l.length
  ⟨l,[],_,H3,rfl,rfl,by simp,by simp,hb,Fm.refl _,by simp,by simp;exact wrap64 (by omega) (by omega)⟩ ?_
 rintro n s ⟨A,B,t,J,rfl,rfl,W,hB,N,hF,I,g6⟩ ih;have S:l.length=A.length+B.length:=by rw [W];simp
 refine ag ?_
 have b7:(∀ z,A.getLast?=some z→z.at_≤x.at_)→∀ t:T,t.g 5=.c (.sl b 0 (l.length+1) 0 g 2)→WP tab.get Ch none [.code oS] ⟨t,[],J⟩ Q:=by
  intro Y t I;refine ae ?_;simp [I];refine aA (hQ _ _ (.c (.sl b 0 (l.length+1) 0 g 2)) rfl (iF (by simp)) ⟨A++x::B,_,rfl,⟨A,B,W,rfl,hB,Y⟩,.inr ⟨by simp [aJ],b,g,?_,N⟩,?_,?_⟩)
  ·simp [S];omega
  ·refine⟨avV hK.1 hF.1,fun i y hy hn=>?_⟩
   have h1:=hK.2 i y hy hn;refine hF.get h1 ?_;rintro rfl;rcases O with e | ⟨k,e,hk⟩
   ·exact hn (by rw [←e];rfl)
   ·cases e;have:=ak hy;omega
  ·exact O
 have E:=cw (A++x::B)
 cases hA:A.getLast? with
 | none=>
  have d_:A=[]:=by simpa using hA
  subst d_;refine ae ?_;simp [g6];refine ah (by simp) ?_
  refine aT (k':=[.code oS]) rfl ?_
  exact b7 (by simp) _ (by simp [I])
 | some z=>
  obtain⟨d,rfl⟩:∃ d,A=d++[z]:=by
   obtain⟨d,e⟩:=List.getLast?_eq_some_iff.1 hA;exact⟨d,e⟩
  have m:(d++[z]).length=d.length+1:=by simp
  rw [m]at S;have gz:(d++[z]++x::B)[d.length]?=some z:=by simp
  have gx:(d++[z]++x::B)[d.length+1]?=some x:=by
   rw [avM (by simp)];simp
  have iz:aG J 2 none (.c (.sl b 0 (l.length+1) 0 g 2)) (vi d.length)=some (.c (.ptr b (d.length*2) g)):=by
   have:=N.idx (n:=l.length+1) (c:=0) (k:=.i64) (o:=0) (i:=(d.length:Int)) (by omega) (by omega)
   simpa using this
  have ix:aG J 2 none (.c (.sl b 0 (l.length+1) 0 g 2)) (vi ((d.length:Int)+1))=some (.c (.ptr b ((d.length+1)*2) g)):=by
   have:=N.idx (n:=l.length+1) (c:=0) (k:=.i64) (o:=0) (i:=(d.length:Int)+1) (by omega) (by omega)
   rw [awn,show((d.length:Int)+1).toNat=d.length+1 by omega]at this
   exact this
  have cz:=N.ldc E (dn gz) (k:=0) (x:=fi z.at_) rfl;have cx:=N.ldc E (dn gx) (k:=0) (x:=fi x.at_) rfl;simp only [Nat.add_zero]at cz cx;have w1:IntKind.i64.wrap (d.length:Int)=d.length:=wrap64 (by omega) (by omega)
  refine ae ?_;simp [I,g6,m,show(0:Int)<(d.length:Int)+1 by omega,w1,iz,ix,cz,cx,-an]
  by_cases Z:x.at_<z.at_
  case neg=>
   refine ah (by simp [Z]) ?_
   refine aT (k':=[.code oS]) rfl ?_;exact b7 (fun w hw=>by rw [hA]at hw;cases hw;omega) _ (by simp [I])
  refine aj (by simp [Z]) (aB ?_)
  refine ag ?_;refine av ?_;have rx:=N.ldr E (dn gx);refine ae ?_;simp [I,g6,m,ix,rx,-an,bD.row];obtain⟨J1,L⟩:∃ J1:ai,J1=J++[.box [.f (fi x.at_),.f (fi x.off)] 0]:=⟨_,rfl⟩;have M:RB J1 b 2 g (aJ (d++[z]++x::B)):=by rw [L];exact N.push _
  have d8:J1[J.length]?=some (.box [.f (fi x.at_),.f (fi x.off)] 0):=by rw [L];simp
  have j3:=N.lt;rw [←L]
  have i_:∀ {K:ai} {rows:List (List FC)} (_:RB K b 2 g rows),aG K 2 none (.c (.sl b 0 (l.length+1) 0 g 2)) (vi ((d.length:Int)+1))=some (.c (.ptr b ((d.length+1)*2) g)):=fun hK=>by
   have:=hK.idx (n:=l.length+1) (c:=0) (k:=.i64) (o:=0) (i:=(d.length:Int)+1) (by omega) (by omega)
   rw [awn,show((d.length:Int)+1).toNat=d.length+1 by omega]at this
   exact this
  have d6:∀ {K:ai} {rows:List (List FC)} (_:RB K b 2 g rows),aG K 2 none (.c (.sl b 0 (l.length+1) 0 g 2)) (vi d.length)=some (.c (.ptr b (d.length*2) g)):=fun hK=>by
   have:=hK.idx (n:=l.length+1) (c:=0) (k:=.i64) (o:=0) (i:=(d.length:Int)) (by omega) (by omega)
   simpa using this
  have rz:=M.ldr E (dn gz);obtain⟨J2,s1,b9,a_,j4⟩:=M.str (j:=d.length+1) (row:=z.row) E (by simp) rfl
  have d5:bC 2 ((aJ (d++[z]++x::B)).set (d.length+1) z.row):=by rw [oM];exact cw _
  obtain⟨J3,s2,b_,d9,j7⟩:=b9.str (j:=d.length) (row:=x.row) d5 (by simp) rfl
  have d7:=a_.get d8 (by omega)
  have a8:((aJ (d++[z]++x::B)).set (d.length+1) z.row).set d.length x.row=aJ (d++x::z::B):=by
   rw [oM,oM]
   congr 1
   rw [awh];simp
  rw [a8]at b_;refine ae ?_;simp only [bD.row,anc,avO]at rz s1 s2;simp [I,g6,m,w1,i_ M,d6 M,rz,s1,-an,-ba];refine ab (.inl rfl) ?_;simp [I,g6,m,w1,d6 b9,d7,aF,s2,-ba];refine al ?_;refine ab (.inl rfl) ?_;simp [g6,m,w1];have e_:Fm b H3 J3:=((hF.trans (by rw [L];exact Fm.push _ _)).trans a_).trans d9
  refine ih d.length _ (by simp) ⟨d,z::B,_,J3,rfl,rfl,by rw [W];simp,?_,b_,e_,by simp [I],by simp⟩
  intro w hw;rcases awf.1 hw with rfl | hw
  ·exact Z
  ·exact hB w hw
end
section
def opd(x:bp)(j:Nat):Int:=if j=0 then x.l else x.r
def oP(U:List Int)(x:bp):Nat→List Int
 | 0=>U
 | j+1=>if j<dw x.k then mJ (oP U x j) (opd x j)else oP U x j
@[simp] theorem ah9 (U:List Int) (x:bp):∀ j,(oP U x j).length=U.length
 | 0=>rfl
 | j+1=>by unfold oP;split<;>simp [ah9 U x j]
theorem IZ{r:List bp}{x:bp}{i n:Nat}(h:kJ i x):oP (bB r n) x 2=bB (r++[x]) n:=by
 have b:=nB x.k;rcases(show dw x.k=0∨dw x.k=1∨dw x.k=2 by omega)with e | e | e
 ·rw [G3 e];simp [oP,e]
 ·rw [G4 e (h.l1 (by omega)).1];simp [oP,e,opd]
 ·rw [G5 e (h.l1 (by omega)).1 (h.r2 e).1];simp [oP,e,opd]
abbrev cI(n:Int):C:=.f (fi n)
theorem xX{U:List Int}{k:Int}(b:0≤k)(d:k<U.length):over (U.map cI) k.toNat [cI (U.getD k.toNat 0+1)]=(mJ U k).map cI:=by
 rw [vk (by simp;omega),mJ,List.map_set]
theorem GP{k:Nat}(h:k<19):(jh.drop (k*4)).take 4=gq k:=
 uK (sz:=4) (rows:=(List.range 19).map gq) (fun r hr=>by obtain⟨j,_,rfl⟩:=av9.1 hr;rfl) (by simp [h])
theorem aps{H:ai}{b fl:Nat}(d:H[b]?=some (.box (jh.map .f) fl)){k:Nat}(h:k<19):aQ H (some 4) (.c (.ptr b (k*4) 0))=some (.a ((gq k).map .f)):=by
 have g:jh.length=76:=by decide
 have:k*4+4≤jh.length:=by omega
 simp only [aQ,az,d];simp [aF,←List.map_drop,←List.map_take,GP h];omega
theorem eo{H:ai}{g:Tg}{r:List aK}{j:Nat}(b:j<r.length)(d:r.length≤64):aG H 8 none (.c (.f (sl g (aE r)))) (vi j)=some (.c (.f (.fp (aE r).flatten (j*8)))):=by
 have:=cT (H:=H) (g:=g) (rows:=aE r) (sz:=8) (k:=.i64) (i:=(j:Int)) (by omega) (by simp;omega)
 simpa using this
theorem kV{H:ai}{r:List aK}{j:Nat}(b:j<r.length):aQ H (some 8) (.c (.f (.fp (aE r).flatten (j*8))))=some (.a (r[j].row.map .f)):=by
 have:=fk (H:=H) (rows:=aE r) (j:=j) (sz:=8) (row:=r[j].row) (ea r) (mT b);simpa using this
theorem abY{H:ai}{i:Nat}{x:cU}(h:H[i]?=some x):H.set i x=H:=by
 refine List.ext_getElem? fun j=>?_
 rw [List.getElem?_set];split
 ·rename_i e;subst e;rw [if_pos (ak h),h]
 ·rfl
theorem agx{U:List Int}{B k:Int}(h:∀ v ∈ U,0≤v∧v≤B):∀ v ∈ mJ U k,0≤v∧v≤B+1:=by
 intro v b;unfold mJ at b;rcases List.mem_or_eq_of_mem_set b with b | rfl
 ·have:=h v b;omega
 ·rw [av8]
  cases g:U[k.toNat]? with
  | none=>
   by_cases d:U=[]
   ·subst d;simp at b
   ·obtain⟨w,j⟩:=List.exists_mem_of_ne_nil U d;have:=h w j
    simp;omega
  | some w=>have:=h w (List.mem_of_getElem? g);simp;omega
theorem AY{U:List Int}{x:bp}{B:Int}(h:∀ v ∈ U,0≤v∧v≤B):∀ j:Nat,∀ v ∈ oP U x j,0≤v∧v≤B+j
 | 0=>fun v b=>by have:=h v b;omega
 | j+1=>fun v b=>by
  unfold oP at b;split at b
  ·have:=agx (AY h j) v b;omega
  ·have:=AY h j v b;omega
theorem agW(v:Int):Kf tab.get tX [vi v] (vb (decide (v≠1))):=by
 refine fg aiL rfl fun H Q b=>?_
 refine ae ?_;simp;refine ae ?_;simp;exact aA (b _ _ (by simp))
theorem afQ(g:Tg)(l:List Int)(d:l.length≤9223372036854775807):Km.Pure tab.get Fp [.c (.f (sl g (ints l))),.c (.f (.fn tX []))]=Eq (vb (l.any fun v=>decide (v≠1))):=
 (jt ai0 (ny ai2 l (fun v=>[fi v]) (fun v=>vi v) (fun v=>decide (v≠1)) g tX [] d
  (fun j b H=>by rw [Nat.mul_one];exact fQ b) (fun p m=>agW p))).eq
theorem wR(g:Tg){r:List aK}(hG:Good (dS r))(hl:r.length≤64):Km.Pure tab.get tW [.c (.f (sl g (aE r)))]=Eq (vb true):=Km.Pure.eq (by
 have q8:0<r.length:=by have:=hG.pos;simpa using this
 obtain⟨n,hn⟩:∃ n,n=r.length:=⟨_,rfl⟩;refine bK aiK rfl fun Q hQ=>?_
 refine ae ?_;simp;refine ag (ae ?_);simp [←hn,show¬ (n:Int)<1 by omega,show¬ (64:Int)<n by omega]
 refine aY (by simp) ?_
 have o_:jh.length=76:=by decide
 refine ae ?_;simp [sj,o_];refine ae ?_;have d9:bI n 8=true:=cd (by omega) (by decide)
 have o5:∀(t:T) (H:ai),(R 22).ev t=vi n→aZ t H (.cP 1 8 [fi 0] (R 22) (R 22))=some (.c (.sl H.length 0 n n 0 1),H++[.box ((bB [] n).map cI) 0]):=by
  intro t H h;have e:(cF n [fi 0]).map C.f=(bB [] n).map cI:=by rw [y6];simp [cF]
  simp only [aZ,h,dk];rw [if_pos ⟨by omega,awQ _,by simpa using d9,rfl⟩,if_neg (by omega),av2,e]
 simp [←hn,o5];refine ag (ae ?_);simp [←hn]
 refine eV n (fun i t H=>∃ r',r'=(dS r).take i∧t.g 0=.c (.f (sl g (aE r)))∧t.g 3=.c (.ptr 0 0 0)∧t.g 4=.c (.sl 1 0 n n 0 1)∧t.g 24=.c (.f (sl g (aE r)))∧H[0]?=some (.box (jh.map .f) 0)∧H[1]?=some (.box ((bB r' n).map cI) 0))
  (by omega) (by decide) (by decide) (by simp) (by simp) ⟨[],by simp,by simp,by simp,by simp,by simp,rfl,rfl⟩ ?_ ?_
 ·rintro i t H hi ⟨r',a8,M,N,E,d,h0,h1⟩ ha hb next;have Y:i<r.length:=by omega
  have hA:=hG.at_ i (by simpa using Y)
  obtain⟨x,hx⟩:∃ x,x=r[i]:=⟨_,rfl⟩;have l7:(dS r)[i]'(by simpa using Y)=x.d:=by rw [hx];simp
  rw [l7]at hA;obtain⟨p_,hK⟩:=hA.ok;have hk:=hK.k;obtain⟨k,A⟩:∃ k:Nat,x.d.k=k:=⟨x.d.k.toNat,by omega⟩
  have j4:k<19:=by omega
  have y:=tB hk.1;rw [A,av2]at y
  have d7:oP (bB r' n) x.d 2=bB ((dS r).take (i+1)) n:=by
   rw [IZ hA,a8,avN (by simpa using Y),l7]
  refine av (ae ?_);have d_:0<H.length:=ak h0;have e_:1<H.length:=ak h1;simp [ha,d,eo Y hl,kV Y,←hx,aK.row];obtain⟨J,hJ⟩:∃ J:ai,J=H++[.box (x.row.map .f) 0]:=⟨_,rfl⟩;have j0:J[0]?=some (.box (jh.map .f) 0):=by rw [hJ,AT d_];exact h0
  have j1:J[1]?=some (.box ((bB r' n).map cI) 0):=by rw [hJ,AT e_];exact h1
  have jx:J[H.length]?=some (.box (x.row.map .f) 0):=by rw [hJ];simp
  have jl:J.length=H.length+1:=by rw [hJ];simp
  simp only [aK.row,anc,avO]at hJ jx;rw [←hJ];clear hJ;obtain⟨b,j9⟩:∃ b,b=H.length:=⟨_,rfl⟩;rw [←j9]at jx jl e_ ⊢;clear j9 h0 h1 d_;refine ag (ae ?_);have n5:decide (1≤x.d.k∧x.d.k≤18)=true:=decide_eq_true ⟨by omega,by omega⟩
  simp [jx,aF,dm,n5,show¬ (64:Int)<x.d.li.length by omega]
  refine aY (by simp) ?_
  have d5:∀ H,aG H 4 (some 19) (.c (.ptr 0 0 0)) (vi x.d.k)=some (.c (.ptr 0 (k*4) 0)):=fun H=>by
   rw [A,agv (by omega) (by omega)];simp
  refine ae ?_;have d6:=aps j0 j4;simp only [gq,anc,avO]at d6;have a_:aQ J none (.c (.ptr b 0 0))=some (vi x.d.k):=by simp [aQ,jx,az,aF]
  simp [a_,N,d5,d6,-an];obtain⟨J2,z⟩:∃ J2:ai,J2=J++[.box ((gq k).map .f) 0]:=⟨_,rfl⟩;have i0:J2[0]?=some (.box (jh.map .f) 0):=by rw [z,AT (ak j0)];exact j0
  have i1:J2[1]?=some (.box ((bB r' n).map cI) 0):=by rw [z,AT (ak j1)];exact j1
  have ix:=jx;rw [←AT (l₂:=[.box ((gq k).map .f) 0]) (ak jx),←z]at ix;have b9:J2[b+1]?=some (.box ((gq k).map .f) 0):=by rw [z,←jl];simp
  have il:J2.length=b+2:=by rw [z];simp [jl]
  simp only [gq,anc,avO]at z b9;rw [←z,jl];clear z d6 a_ j0 j1 jx jl;refine ag (ae ?_);have n9:bA (J2++[.box [.f (fi x.d.l),.f (fi x.d.r)] 0]) (.sl J2.length 0 2 2 0 1)=some 2:=by simp [bA]
  simp [ix,aF,n9];obtain⟨J3,I⟩:∃ J3:ai,J3=J2++[.box [.f (fi x.d.l),.f (fi x.d.r)] 0]:=⟨_,rfl⟩;have q0:J3[0]?=some (.box (jh.map .f) 0):=by rw [I,AT (ak i0)];exact i0
  have q1:J3[1]?=some (.box ((bB r' n).map cI) 0):=by rw [I,AT (ak i1)];exact i1
  have qx:=ix;rw [←AT (l₂:=[.box [.f (fi x.d.l),.f (fi x.d.r)] 0]) (ak ix),←I]at qx;have qs:=b9;rw [←AT (l₂:=[.box [.f (fi x.d.l),.f (fi x.d.r)] 0]) (ak b9),←I]at qs;have ql:J3[b+2]?=some (.box [.f (fi x.d.l),.f (fi x.d.r)] 0):=by rw [I,←il];simp
  rw [←I,il];clear I i0 i1 ix b9 il
  refine eV 2 (fun j t H=>t.g 0=.c (.f (sl g (aE r)))∧t.g 3=.c (.ptr 0 0 0)∧t.g 4=.c (.sl 1 0 n n 0 1)∧t.g 24=.c (.f (sl g (aE r)))∧t.g 5=vi i∧t.g 6=.c (.ptr b 0 0)∧t.g 7=.c (.ptr (b+1) 0 0)∧t.g 49=.c (.sl (b+2) 0 2 2 0 1)∧t.g 26=vi i∧t.g 25=vi n∧H=J3.set 1 (.box ((oP (bB r' n) x.d j).map cI) 0))
   (by decide) (by decide) (by decide) (by simp) (by simp) ⟨by simp [M],by simp [N],by simp [E],by simp [d],by simp,by simp,by simp,by simp,by simp [ha],by simp [hb],(abY q1).symm⟩ ?_ ?_
  ·rintro j t H hj ⟨M,N,E,d,g5,O,S,F,s,q,rfl⟩ ha hb next;obtain⟨U,hU⟩:∃ U,U=oP (bB r' n) x.d j:=⟨_,rfl⟩;have q9:U.length=n:=by rw [hU];simp
   have m9:∀ v ∈ U,0≤v∧v≤1000:=by
    intro v hv;rw [hU]at hv
    have:=AY (B:=2*r'.length) (fun v hv=>by
     obtain⟨k,hk,rfl⟩:=avT hv
     exact DO r' n k (by simpa using hk)) j v hv
    have:r'.length≤64:=by rw [a8];simp;omega
    omega
   have Z:oP (bB r' n) x.d (j+1)=if j<vD k then mJ U (opd x.d j)else U:=by
    rw [oP,A,y,hU]
   rw [←hU];obtain⟨o,ho⟩:∃ o,o=opd x.d j:=⟨_,rfl⟩;rw [←ho]at Z;obtain⟨K,m⟩:∃ K:ai,K=J3.set 1 (.box (U.map cI) 0):=⟨_,rfl⟩;have p1:K[1]?=some (.box (U.map cI) 0):=by rw [m];exact OF (ak q1)
   have L:K[b]?=some (.box (x.row.map .f) 0):=by rw [m,By (by omega)];exact qx
   have ps:K[b+1]?=some (.box ((gq k).map .f) 0):=by rw [m,By (by omega)];exact qs
   have pl:K[b+2]?=some (.box [.f (fi x.d.l),.f (fi x.d.r)] 0):=by rw [m,By (by omega)];exact ql
   have m7:∀ W:List Int,K.set 1 (.box (W.map cI) 0)=J3.set 1 (.box (W.map cI) 0):=fun W=>by rw [m,List.set_set]
   rw [←m]
   have i_:aG K 1 none (.c (.sl (b+2) 0 2 2 0 1)) (vi j)=some (.c (.ptr (b+2) j 0)):=by
    simp [aG,dk,pl];omega
   have n_:aQ K none (.c (.ptr (b+2) j 0))=some (vi o):=by
    rcases(show j=0∨j=1 by omega)with rfl | rfl<;>simp [aQ,pl,az,aF,ho,opd]
   have o8:aQ K none (.c (.ptr (b+1) 0 0))=some (vi (vD k)):=by simp [aQ,ps,az,aF,gq]
   have a_:aQ K none (.c (.ptr b 0 0))=some (vi x.d.k):=by simp [aQ,L,az,aF,aK.row]
   refine av (ae ?_);simp [ha,F,i_,n_,-an];refine av (ae ?_);simp [S,o8,-an];by_cases j3:j<vD k
   ·rw [if_pos j3]at Z
    have d8:0≤o∧o≤(i:Int)-1:=by
     rw [ho];rcases(show j=0∨j=1 by omega)with rfl | rfl
     ·have:=hA.l1 (by rw [A,y];omega);simp only [opd];simp;omega
     ·have h2:dw x.d.k=2:=by have:=nB x.d.k;rw [A,y]at this ⊢;omega
      have:=hA.r2 h2;simp only [opd];simp;omega
    have j8:decide (0≤o∧o≤(i:Int)-1)=true:=decide_eq_true d8;have h_:U.getD o.toNat 0=U[o.toNat]'(by omega):=by rw [av8,AI (by omega)];rfl
    have g_:=m9 _ (IT (l:=U) (n:=o.toNat) (by omega))
    rw [←h_]at g_
    have d5:aG K 1 none (.c (.sl 1 0 n n 0 1)) (vi o)=some (.c (.ptr 1 o.toNat 0)):=by
     simp [aG,dk,p1,d8.1];omega
    have j7:aQ K none (.c (.ptr 1 o.toNat 0))=some (vi (U.getD o.toNat 0)):=by
     have:(U.map cI).drop o.toNat=cI (U.getD o.toNat 0) ::(U.map cI).drop (o.toNat+1):=by
      rw [avW (by simp;omega),awI,h_]
     simp only [aQ,az,p1,av3];rw [this];rfl
    have j_:df K (.ptr 1 o.toNat 0) [.f (fi (U.getD o.toNat 0+1))]=some (K.set 1 (.box ((mJ U o).map cI) 0)):=by
     have:=xX (U:=U) (k:=o) d8.1 (by omega)
     simp only [df,p1];rw [if_pos (by simp;omega)]
     rw [show [C.f (fi (U.getD o.toNat 0+1))]=[cI (U.getD o.toNat 0+1)] from rfl,this]
    obtain⟨u,hu⟩:∃ u,u=U.getD o.toNat 0:=⟨_,rfl⟩;rw [←hu]at j7 j_ g_;refine aj (by simp;omega) (ag (ae ?_))
    simp [g5,wrap64 (n:=(i:Int)-1) (by omega) (by omega),dm,j8]
    refine aY (by simp) ?_
    refine ab (.inl rfl) ?_;simp [E,d5,j7,j_,wrap64 (n:=u+1) (by omega) (by omega),-an,-ba]
    refine al (al ?_);refine next _ _ ?_ ?_ ?_
    ·exact⟨by simp [M],by simp [N],by simp [E],by simp [d],by simp [g5],by simp [O],by simp [S],by simp [F],by simp [s],by simp [q],by rw [Z,m7]⟩
    ·simp [ha]
    ·simp [hb]
   ·rw [if_neg j3]at Z;refine ah (by simp;omega) (ae ?_)
    have X:∀ t:T,t.g 0=.c (.f (sl g (aE r)))→t.g 3=.c (.ptr 0 0 0)→t.g 4=.c (.sl 1 0 n n 0 1)→t.g 24=.c (.f (sl g (aE r)))→t.g 5=vi i→t.g 6=.c (.ptr b 0 0)→t.g 7=.c (.ptr (b+1) 0 0)→t.g 49=.c (.sl (b+2) 0 2 2 0 1)→t.g 26=vi i→t.g 25=vi n→t.g 51=vi j→t.g 50=vi (2:Nat)→t.g 72=vb false →
      WP tab.get tW none [.code wU,.inBlock 4,.inBlock 3,.code wV,.inLoop wT,.inBlock 2,.code wW,.inBlock 1,.code (N5 26 122),.inLoop (rV 0 26 25 27 122 qR),.inBlock 0,.code qS] ⟨t,[],K⟩ Q:=by
     intro t M N E d g5 O S F s q m4 l_ m5;refine ah m5 (aB ?_);refine al (al ?_);refine next _ _ ?_ ?_ ?_
     ·exact⟨by simp [M],by simp [N],by simp [E],by simp [d],by simp [g5],by simp [O],by simp [S],by simp [F],by simp [s],by simp [q],by rw [Z,m]⟩
     ·simp [m4]
     ·simp [l_]
    by_cases b7:o=0
    ·simp [b7];exact X _ (by simp [M]) (by simp [N]) (by simp [E]) (by simp [d]) (by simp [g5]) (by simp [O]) (by simp [S]) (by simp [F]) (by simp [s]) (by simp [q]) (by simp [ha]) (by simp [hb]) (by simp)
    ·have n6:j=0:=by
      rcases(show j=0∨j=1 by omega)with e | rfl
      ·exact e
      ·exact absurd (by rw [ho];simp [opd];exact hA.r0 (by rw [A,y];omega)) b7
     subst n6
     have n7:x.d.k=7:=by
      rcases Decidable.em (x.d.k=7)with e | e
      ·exact e
      ·exact absurd (by rw [ho];simp [opd];exact hA.l0 (by rw [A,y];omega) e) b7
     simp [b7,O,a_,n7,-an];exact X _ (by simp [M]) (by simp [N]) (by simp [E]) (by simp [d]) (by simp [g5]) (by simp [O]) (by simp [S]) (by simp [F]) (by simp [s]) (by simp [q]) (by simp [ha]) (by simp [hb]) (by simp)
  ·rintro t H ⟨M,N,E,d,g5,O,S,F,s,q,rfl⟩ - -;rw [d7];obtain⟨K,m⟩:∃ K:ai,K=J3.set 1 (.box ((bB ((dS r).take (i+1)) n).map cI) 0):=⟨_,rfl⟩;have p0:K[0]?=some (.box (jh.map .f) 0):=by rw [m,By (by omega)];exact q0
   have p1:K[1]?=some (.box ((bB ((dS r).take (i+1)) n).map cI) 0):=by rw [m];exact OF (ak q1)
   have L:K[b]?=some (.box (x.row.map .f) 0):=by rw [m,By (by omega)];exact qx
   have ps:K[b+1]?=some (.box ((gq k).map .f) 0):=by rw [m,By (by omega)];exact qs
   rw [←m];have e0:aQ K none (.c (.ptr b 0 0))=some (vi x.d.k):=by simp [aQ,L,az,aF,aK.row]
   have e1:aQ K none (.c (.ptr b 1 0))=some (vi x.d.dM):=by simp [aQ,L,az,aF,aK.row]
   have e6:aQ K none (.c (.ptr b 6 0))=some (.c (.f (sl x.tg (ints x.d.li)))):=by simp [aQ,L,az,aF,aK.row]
   have e7:aQ K none (.c (.ptr b 7 0))=some (.c (.f (.str AS))):=by simp [aQ,L,az,aF,aK.row]
   have e8:aQ K (some 8) (.c (.ptr b 0 0))=some (.a (x.row.map .f)):=by simp [aQ,L,az,aF,aK.row]
   have f1:aQ K none (.c (.ptr (b+1) 1 0))=some (vb (lV k)):=by simp [aQ,ps,az,aF,gq]
   have f2:aQ K (some 2) (.c (.ptr (b+1) 2 0))=some (.a [.f (fi (DA k)),.f (fi (Dz k))]):=by simp [aQ,ps,az,aF,gq]
   have c9:=hK.lis;have f_:=Ar x hK.num;have b_:=hK.dM;rw [A,av2]at c9 b_;have hL:=Oa x.tg x.d.li (DA k) (Dz k) c9 (by omega)
   have X:∀ t:T,t.g 0=.c (.f (sl g (aE r)))→t.g 3=.c (.ptr 0 0 0)→t.g 4=.c (.sl 1 0 n n 0 1)→t.g 24=.c (.f (sl g (aE r)))→t.g 6=.c (.ptr b 0 0)→t.g 7=.c (.ptr (b+1) 0 0)→t.g 26=vi i→t.g 25=vi n→t.g 10=vb true→t.g 11=vb true →
     WP tab.get tW none [.code wX,.inBlock 1,.code (N5 26 122),.inLoop (rV 0 26 25 27 122 qR),.inBlock 0,.code qS] ⟨t,[],K⟩ Q:=by
    intro t M N E d O S s q g10 l9;refine ag (ae ?_);simp [O,e0,-an,show¬ x.d.k=18 by omega]
    refine aY (by simp) ?_
    refine ae ?_;simp [O,S,g10,l9,e6,e8,f2,hL,f_,-an];refine aY (by simp) ?_
    refine al ?_;refine next _ _ ?_ ?_ ?_
    ·exact⟨_,rfl,by simp [M],by simp [N],by simp [E],by simp [d],p0,p1⟩
    ·simp [s]
    ·simp [q]
   refine ae ?_;have k_:bJ .eql (.c (.f (.str AS))) (.c (.f (.str ⟨#[]⟩)))=some (vb true):=by simp [bJ,Z_,AS];rfl
   simp [O,e1,e7,-an,k_];refine ag (ae ?_);simp [S,f1,-an];cases hc:lV k
   ·have m_:=b_.2.2 hc;refine aY (by simp) ?_
    exact X _ (by simp [M]) (by simp [N]) (by simp [E]) (by simp [d]) (by simp [O]) (by simp [S]) (by simp [s]) (by simp [q]) (by simp [m_]) (by simp)
   ·have n4:decide (0≤x.d.dM∧x.d.dM≤2)=true:=decide_eq_true ⟨by omega,by omega⟩
    refine aj (by simp) (ab (.inl rfl) ?_)
    simp [O,e1,-an,dm,n4];exact X _ (by simp [M]) (by simp [N]) (by simp [E]) (by simp [d]) (by simp [O]) (by simp [S]) (by simp [s]) (by simp [q]) (by simp) (by simp)
 ·rintro t H ⟨r',a8,M,N,E,d,h0,h1⟩ - -;have o9:r'=dS r:=by rw [a8,avS (by simp;omega)]
  subst o9;clear a8
  have hU:((bB (dS r) n).take (n-1)).any (fun v=>decide (v≠1))=false:=by
   rw [List.any_eq_false];intro v hv;have:=hG.bB v (by simpa [←hn]using hv)
   simp [this]
  have hw:IntKind.i64.wrap ((n:Int)-1)=((n-1:Nat):Int):=by rw [wrap64 (by omega) (by omega)];omega
  have hs:eY H 1 (.c (.sl 1 0 n n 0 1)) none (some (vi ((n-1:Nat):Int))) none=some (.c (.sl 1 0 (n-1) n 0 1)):=by
   have hb:=afX (k:=n-1) (n:=n) (by omega)
   simp [eY,h1,cA,hb];omega
  have hx:cW deep H (.sl 1 0 (n-1) n 0 1)=some (sl .fs (ints ((bB (dS r) n).take (n-1)))):=by
   have e1:(((bB (dS r) n).map cI).drop 0).take ((n-1)*1)=(((bB (dS r) n).take (n-1)).map fi).map C.f:=by simp [List.map_take,Function.comp_def]
   show cW (deep-1+1) H (.sl 1 0 (n-1) n 0 1)=_
   rw [iV,h1];simp only [e1,An];rw [if_pos (by simp)]
   have o4:((bB (dS r) n).take (n-1)).length=n-1:=by simp
   by_cases o6:n=1
   ·subst o6;simp [sl,Tg.fc,ints]
   ·have o7:¬ (ints ((bB (dS r) n).take (n-1))).isEmpty=true:=by
     rw [List.isEmpty_iff,←List.length_eq_zero_iff];simp;omega
    rw [sl,if_neg o7,yd,CT,o4];rfl
  refine ae ?_;have c_:=afQ .fs ((bB (dS r) n).take (n-1)) (by simp;omega)
  rw [hU]at c_;simp [M,E,←hn,hw,hs,hx,c_]
  exact aA (hQ _ _ (by simp)))
end
section
theorem NK{H:ai}(g:Tg)(l:List Int)(d:l.length≤1000):∃ r b,Ev tab.get (.fn Fl) [.c (.f (sl g (ints l)))] H r b∧∃ c J,r=.c c∧b=H++J∧LR (H++J) c 1 (ints l)∧∀ i,aL c=some i→H.length≤i:=
 aao (sz:=1) (zs:=[fi 0]) (bytes:=8) aiY (by decide) (eB l) (cd (by simp;omega) (by decide))
theorem ah'{H:ai}{g:Tg}{r:List aK}(L:Good (dS r))(O:r.length≤64){pm pr pw mb:Nat}(hm:H[pm]?=some (.box [.mp mb] 0))(m:H[mb]?=some (.map []))(hr:H[pr]?=some (.box [.f (sl g (aE r))] 0)) :
  ∃ q y,Ev tab.get (.fn Cj) [vi 0,.c (.ptr pm 0 0),.c (.ptr pr 0 0),.c (.ptr pw 0 0)] H q y∧y=H.set mb (.map [(fi 0,.f (.bool true))]):=by
 have d:0<r.length:=by have:=L.pos;simpa using this
 refine da (C:=fun q y=>y=H.set mb (.map [(fi 0,.f (.bool true))])) an_ rfl fun Q N=>?_
 refine ae ?_;have U:aQ H none (.c (.ptr pm 0 0))=some (.c (.mp mb)):=by simp [aQ,hm,az,aF]
 have F:∀ t:T,(R 6).ev t=.c (.mp mb)→(R 7).ev t=vi 0→aZ t H (.jw .int (R 6) (R 7) kt)=some (.top,H.set mb (.map [(fi 0,.f (.bool true))])):=by
  intro t X Y;simp only [aZ,X,Y];have:sH (Arg.ev t kt)=some (.f (.bool true)):=rfl;simp only [this,m];rfl
 simp [U,-an,F];obtain⟨K,M⟩:∃ K:ai,K=H.set mb (.map [(fi 0,.f (.bool true))]):=⟨_,rfl⟩;have I:pr≠mb:=by rintro rfl;rw [hr]at m;cases m
 have k1:K[pr]?=some (.box [.f (sl g (aE r))] 0):=by rw [M,By (Ne.symm I)];exact hr
 have W:aQ K none (.c (.ptr pr 0 0))=some (.c (.f (sl g (aE r)))):=by simp [aQ,k1,az,aF]
 rw [←M]at N ⊢;obtain⟨x,S⟩:∃ x,x=r[0]:=⟨_,rfl⟩;have z:=L.at_ 0 (by simpa using d)
 have J:(dS r)[0]'(by simpa using d)=x.d:=by rw [S];simp
 rw [J]at z;have Z:=z.ok.2.k;obtain⟨k,u⟩:∃ k:Nat,x.d.k=k:=⟨x.d.k.toNat,by omega⟩
 have l:=tB Z.1
 have v:dw x.d.k=0:=by
  rcases awk (dw x.d.k)with e | e
  ·exact e
  ·have:=z.l1 e;omega
 rw [v,u,av2]at l;have s:aG K 8 none (.c (.f (sl g (aE r)))) (vi 0)=some (.c (.f (.fp (aE r).flatten 0))):=eo (H:=K) (g:=g) (r:=r) (j:=0) d O
 have E:aQ K none (.c (.f (.fp (aE r).flatten 0)))=some (vi x.d.k):=by
  have:=gN (H:=K) (rows:=aE r) (j:=0) (sz:=8) (row:=r[0].row) (x:=fi r[0].d.k) (ea r) (mT d) rfl;rw [S];simpa using this
 have B:lR 19 4 (some 4) (.a (jh.map .f)) (vi x.d.k)=some (.a ((gq k).map .f)):=by
  have O:jh.length=76:=by decide
  simp only [lR,dk,u];rw [if_pos ⟨by omega,by omega⟩,av2]
  simp [aF,←List.map_drop,←List.map_take,GP (show k<19 by omega)]
  omega
 refine ae ?_;have A:∀ a b c,mE 0 none (.a [.f (fi 0),a,b,c])=some (vi 0):=fun _ _ _=>rfl
 simp [sj,W,-an,s,E,B,gq,←l,A];refine ag (ae ?_);simp;refine aY (by simp) ?_
 refine ae ?_;simp;refine aY (by simp) ?_
 exact iY (N _ _ (.t []) rfl rfl rfl)
def aK.dR(x:aK)(c:C):List C:=[cI x.d.k,cI x.d.dM,cI x.d.l,cI x.d.r,cI x.d.n,cI x.d.m,c,.f (.str AS)]
theorem ajT{H:ai}{x:aK}(h0:dw x.d.k=0)(hk:1≤x.d.k∧x.d.k≤17)(Y:x.d.li.length≤61)(pc:C) :
  ∃ q L,Ev tab.get (.fn ZK) [.c (.f .ay),.a (x.row.map .f),.c pc] H q L∧∃ v c J,q=.c (.sl v 0 1 0 0 8)∧L=H++J∧H.length≤v∧(H++J)[v]?=some (.bE 8 (x.dR c) 0 0 .loc)∧LR (H++J) c 1 (ints x.d.li)∧∀ i,aL c=some i→H.length≤i:=by
 obtain⟨k,I⟩:∃ k:Nat,x.d.k=k:=⟨x.d.k.toNat,by omega⟩
 have s:=tB hk.1;rw [h0,I,av2]at s;refine da (C:=fun q L=>∃ v c J,q=.c (.sl v 0 1 0 0 8)∧L=H++J∧H.length≤v∧(H++J)[v]?=some (.bE 8 (x.dR c) 0 0 .loc)∧LR (H++J) c 1 (ints x.d.li)∧∀ i,aL c=some i→H.length≤i) aoa rfl fun Q hQ=>?_
 refine ae ?_;simp;obtain⟨j,m⟩:∃ j:ai,j=H++[.box (x.row.map .f) 0]:=⟨_,rfl⟩;have b1:j[H.length]?=some (.box (x.row.map .f) 0):=by rw [m];simp
 have l1:j.length=H.length+1:=by rw [m];simp
 rw [←m];obtain⟨r',K,O,c,J,rfl,rfl,N,F⟩:=NK (H:=j) x.tg x.d.li (by omega)
 have e1:aQ j none (.c (.ptr H.length 6 0))=some (.c (.f (sl x.tg (ints x.d.li)))):=by simp [aQ,b1,az,aF,aK.row]
 have M:(j++J)[H.length]?=some (.box (x.row.map .f) 0):=by rw [AT (ak b1)];exact b1
 have u:(j++J).set H.length (.box (x.dR c) 0)=H++(.box (x.dR c) 0::J):=by
  rw [m,awh,List.set_append_right _ _ (aft _),Nat.sub_self];rfl
 have W:df (j++J) (.ptr H.length 6 0) [c]=some (H++(.box (x.dR c) 0::J)):=by
  rw [←u];simp [df,M,aK.row,aK.dR,over]
 refine ae ?_;simp [e1,-an,-ba,O.eq,W];obtain⟨K,z⟩:∃ K:ai,K=H++(.box (x.dR c) 0::J):=⟨_,rfl⟩;have Z:K[H.length]?=some (.box (x.dR c) 0):=by rw [z];simp
 have X:LR K c 1 (ints x.d.li):=by
  refine N.bN fun i y hy hc=>?_
  have:=F i hc;rw [z,←u,By (by omega)]
  exact hy
 have kl:K.length=j.length+J.length:=by rw [z];simp [l1];omega
 rw [←z];have e2:aQ K none (.c (.ptr H.length 0 0))=some (vi x.d.k):=by simp [aQ,Z,az,aF,aK.dR]
 have U:lR 19 4 (some 4) (.a (jh.map .f)) (vi x.d.k)=some (.a ((gq k).map .f)):=by
  have hl:jh.length=76:=by decide
  simp only [lR,dk,I];rw [if_pos ⟨by omega,by omega⟩,av2]
  simp [aF,←List.map_drop,←List.map_take,GP (show k<19 by omega)]
  omega
 have S:∀ a b c,mE 0 none (.a [.f (fi 0),a,b,c])=some (vi 0):=fun _ _ _=>rfl
 refine ag (ae ?_);simp [sj,e2,-an,U,gq,←s,S];refine av (ae ?_);simp;refine ah (by simp) (ae ?_)
 simp;refine aY (by simp) ?_
 refine al ?_;have e3:aQ K (some 8) (.c (.ptr H.length 0 0))=some (.a (x.dR c)):=by simp [aQ,Z,az,aF,aK.dR]
 refine ae ?_;have E:(x.dR c).length=8:=rfl;obtain⟨l,d⟩:∃ l:ai,l=K++[.box (x.dR c) 0]:=⟨_,rfl⟩;have k2:l[K.length]?=some (.box (x.dR c) 0):=by rw [d];simp
 have A:=jX (H:=l) (sz:=8) (c:=1) k2 E
 have B:bz l 8 88 (.c (.f .ay)) (.c (.sl K.length 0 1 1 0 8))=some (.c (.sl l.length 0 1 0 0 8),l++[.bE 8 (x.dR c) 0 0 .loc]):=by
  have hr:bI 1 88=true:=by decide
  simp [bz,A,hr]
 simp [e3,-an,E];rw [←d];simp [B];have g:l++[.bE 8 (x.dR c) 0 0 .loc]=H++((.box (x.dR c) 0::J)++[.box (x.dR c) 0]++[.bE 8 (x.dR c) 0 0 .loc]):=by rw [d,z];simp
 refine aA (hQ _ _ (.c (.sl l.length 0 1 0 0 8)) rfl (iF (by simp)) ⟨l.length,c,_,rfl,g,?_,?_,?_,fun i hi=>?_⟩)
 ·rw [d,z];simp
 ·rw [←g];simp
 ·rw [←g,d];exact(X.push _).push _
 ·have:=F i hi;omega
theorem ake{H:ai}{x:aK}{c:C}{b:Nat}(d:H[b]?=some (.bE 8 (x.dR c) 0 0 .loc))(j:LR H c 1 (ints x.d.li)):∃ F,cW deep H (.sl b 0 1 0 0 8)=some F:=by
 obtain⟨g,l⟩:=j.ex (eB _) 62;refine⟨.fs [fi x.d.k,fi x.d.dM,fi x.d.l,fi x.d.r,fi x.d.n,fi x.d.m,sl g (ints x.d.li),.str AS] 1,?_⟩
 show cW (63+1) H (.sl b 0 1 0 0 8)=_
 rw [iV,d];have:(x.dR c).drop 0=x.dR c:=rfl;simp [aK.dR,aU,l]
theorem aho(g:Tg){r:List aK}(hG:Good (dS r))(hl:r.length≤64):∃ F,Km.Pure tab.get Ht [.c (.f (sl g (aE r))),vi 0]=Eq (.t [.c (.f F),vi 0]):=by
 obtain⟨rr,⟨F,rfl⟩,hp⟩:∃ rr,(∃ F,rr=.t [.c (.f F),vi 0])∧Km.Pure tab.get Ht [.c (.f (sl g (aE r))),vi 0] rr:=by
  have B:0<r.length:=by have:=hG.pos;simpa using this
  have e_:=wR g hG hl;obtain⟨n,hn⟩:∃ n,n=r.length:=⟨_,rfl⟩;refine ca an' rfl fun Q hQ=>?_
  refine ae ?_;simp;refine ag (av (ae ?_));simp [aF,e_];refine ah (by simp) (ae ?_)
  simp [aF,←hn,show¬ n=0 by omega]
  refine ah (by simp) (aB (al ?_))
  have L:bI n 8=true:=cd (by omega) (by decide)
  have b7:∀(t:T) (H:ai),(R 26).ev t=vi n→aZ t H (.cP 1 8 [fi 0] (R 26) (R 26))=some (.c (.sl H.length 0 n n 0 1),H++[.box ((List.replicate n (fi 0)).map .f) 0]):=by
   intro t H h;have e:(cF n [fi 0]).map C.f=(List.replicate n (fi 0)).map .f:=by simp [cF]
   simp only [aZ,h,dk];rw [if_pos ⟨by omega,awQ _,by simpa using L,rfl⟩,if_neg (by omega),av2,e]
  refine ae ?_;simp [aF,←hn,b7];refine ae ?_;simp;refine ae ?_;simp;refine ae ?_;have b9:∀(t:T) (H:ai),aZ t H .jz=some (.c (.mp H.length),H++[.map []]):=fun _ _=>rfl
  simp [b9];refine ae ?_;simp;obtain⟨O,d⟩:∃ O:ai,O=[.box [.f (sl g (aE r))] 0,.box (List.replicate n (.f (fi 0))) 0,.box [.cl Cj [.ptr 4 0 0,.ptr 0 0 0,.ptr 2 0 0]] 0,.map [],.box [.mp 3] 0]:=⟨_,rfl⟩;rw [←d];obtain⟨q,H',he,rfl⟩:=ah' (H:=O) (g:=g) hG hl (pm:=4) (pr:=0) (pw:=2) (mb:=3) (by rw [d];rfl) (by rw [d];rfl) (by rw [d];rfl)
  have e8:aQ O none (.c (.ptr 2 0 0))=some (.c (.cl Cj [.ptr 4 0 0,.ptr 0 0 0,.ptr 2 0 0])):=by rw [d];rfl
  refine ae ?_;simp [e8,-an,bP,he.eq];obtain⟨H0,m⟩:∃ H0:ai,H0=O.set 3 (.map [(fi 0,.f (.bool true))]):=⟨_,rfl⟩;rw [←m];have z0:H0[0]?=some (.box [.f (sl g (aE r))] 0):=by rw [m,d];rfl
  have z1:H0[1]?=some (.box ((List.replicate n (fi 0)).map .f) 0):=by rw [m,d];simp
  have z3:H0[3]?=some (.map [(fi 0,.f (.bool true))]):=by rw [m,d];rfl
  have z4:H0[4]?=some (.box [.mp 3] 0):=by rw [m,d];rfl
  clear m d he e8 b9 b7;have e2:aQ H0 none (.c (.ptr 0 0 0))=some (.c (.f (sl g (aE r)))):=by simp [aQ,z0,az,aF]
  refine ag (ae ?_);simp [e2,-an,←hn];obtain⟨z,c9⟩:∃ z,z=r[0]:=⟨_,rfl⟩;have hA:=hG.at_ 0 (by simpa using B)
  have f_:(dS r)[0]'(by simpa using B)=z.d:=by rw [c9];simp
  rw [f_]at hA;have hk:=hA.ok.2.k
  have b_:dw z.d.k=0:=by
   rcases awk (dw z.d.k)with e | e
   ·exact e
   ·have:=hA.l1 e;omega
  refine eV n (fun i t H=>t.g 33=.c (.f (sl g (aE r)))∧t.g 6=.c (.sl 1 0 n n 0 1)∧t.g 9=.c (.ptr 4 0 0)∧H[4]?=some (.box [.mp 3] 0)∧H[3]?=some (.map [(fi 0,.f (.bool true))])∧(∃ cs:List FC,cs.length=n∧H[1]?=some (.box (cs.map .f) 0)) ∧
    (i=0→t.g 7=.c (.f .ay))∧(0<i→∃ v c,t.g 7=.c (.sl v 0 1 0 0 8)∧2≤v∧H[v]?=some (.bE 8 (z.dR c) 0 0 .loc)∧LR H c 1 (ints z.d.li)∧∀ b,aL c=some b→2≤b))
   (by omega) (by decide) (by decide) (by simp) (by simp) ⟨by simp,by simp,by simp,z4,z3,⟨_,by simp,z1⟩,fun _=>by simp,fun h=>absurd h (by omega)⟩ ?_ ?_
  ·rintro i t H hi ⟨A,S,g9,W,h3,⟨cs,a8,h1⟩,hz,hp⟩ ha hb next;have a_:i<r.length:=by omega
   refine av (ae ?_);simp [ha,A,eo a_ hl,kV a_,aK.row];obtain⟨J,N⟩:∃ J:ai,J=H++[.box (r[i].row.map .f) 0]:=⟨_,rfl⟩;have jx:J[H.length]?=some (.box (r[i].row.map .f) 0):=by rw [N];simp
   have E:∀ {b:Nat} {y:cU},H[b]?=some y→J[b]?=some y:=fun {b y} h=>by rw [N,AT (ak h)];exact h
   have jl:J.length=H.length+1:=by rw [N];simp
   have g_:∀ {c:C} {rows:List (List FC)},LR H c 1 rows→LR J c 1 rows:=fun h=>by rw [N];exact h.push _
   simp only [aK.row,anc,avO]at N;rw [←N];have e9:aQ J none (.c (.ptr 4 0 0))=some (.c (.mp 3)):=by simp [aQ,E W,az,aF]
   have d8:∀ t:T,(R 40).ev t=.c (.mp 3)→(R 41).ev t=vi i→aZ t J (.lookup .int (.bool false) (R 40) (R 41))=some (vb (decide (i=0)),J):=by
    intro t d5 d6
    have e:fR J .int (.bool false) (.c (.mp 3)) (vi i)=some (vb (decide (i=0))):=by
     simp only [fR,E h3]
     have:mR .int (fi (i:Int)) [(fi 0,.f (.bool true))]=some (if i=0 then some (.f (.bool true))else none):=by
      simp only [mR,eqK];by_cases j:i=0
      ·subst j;rfl
      ·have:(((i:Int)) == 0)=false:=by simp;exact j
       simp [j,this]
     rw [this];by_cases j:i=0
     ·subst j;rfl
     ·simp [j];exact⟨rfl,rfl⟩
    simp only [aZ,d5,d6,e];rfl
   refine ae ?_;simp [g9,e9,-an,d8];by_cases j:i=0
   ·subst j;have U:=hz rfl;have d9:r[0].row=z.row:=by rw [c9]
    have c_:aQ J (some 8) (.c (.ptr H.length 0 0))=some (.a (z.row.map .f)):=by
     rw [d9]at jx;simp [aQ,jx,az,aF,aK.row]
    have w0:IntKind.i64.wrap 0=0:=by decide
    obtain⟨q,H',hq,v,c,M,rfl,rfl,i_,l,s,Z⟩:=ajT (H:=J) (x:=z) b_ hk (by have:=hA.ok.1;omega) (.sl 1 0 n n 0 1)
    refine aj (by simp) (ae ?_)
    simp [U,S,c_,-an,hq.eq];have u:∀ {b:Nat} {y:cU},H[b]?=some y→(J++M)[b]?=some y:=fun {b y} h=>by rw [AT (ak (E h))];exact E h
    obtain⟨K,hK⟩:∃ K:ai,K=J++M:=⟨_,rfl⟩;rw [←hK]at l s u ⊢;have I:bA K (.sl v 0 1 0 0 8)=some 1:=by simp [bA,l]
    have d7:aG K 1 none (.c (.sl 1 0 n n 0 1)) (vi 0)=some (.c (.ptr 1 0 0)):=by
     simp [aG,dk,u h1];omega
    have d_:df K (.ptr 1 0 0) [.f (fi 0)]=some (K.set 1 (.box ((cs.set 0 (fi 0)).map .f) 0)):=by
     simp only [df,u h1];rw [if_pos (by simp;omega),List.map_set,vk (by simp;omega)]
    have h_:=ak W;refine ab (.inl rfl) ?_;simp [S,I,d7,d_,w0,-ba];refine al ?_;refine next _ _ ⟨by simp [A],by simp [S],by simp [g9],?_,?_,⟨cs.set 0 (fi 0),by simp [a8],?_⟩,fun h=>absurd h (by omega),fun _=>⟨v,c,by simp,by omega,?_,?_,fun b hb=>?_⟩⟩ (by simp [ha]) (by simp [hb])
    ·rw [By (by decide)];exact u W
    ·rw [By (by decide)];exact u h3
    ·rw [List.map_set];exact OF (ak (u h1))
    ·rw [By (by omega)];exact l
    ·exact s.set (fun e=>by have:=Z 1 e;omega) _
    ·have:=Z b hb;omega
   ·obtain⟨v,c,U,X,l,s,Y⟩:=hp (by omega)
    refine ah (by simp [j]) (aB (al ?_))
    refine next _ _ ⟨by simp [A],by simp [S],by simp [g9],E W,E h3,⟨cs,a8,E h1⟩,fun h=>absurd h (by omega),fun _=>⟨v,c,by simp [U],X,E l,g_ s,Y⟩⟩ (by simp [ha]) (by simp [hb])
  ·rintro t H ⟨A,S,g9,W,h3,-,-,hp⟩ - -;obtain⟨v,c,U,X,l,s,Y⟩:=hp (by omega)
   obtain⟨F,hF⟩:=ake l s;refine ae ?_;simp [U];refine aA (hQ _ _ _ ⟨F,rfl⟩ ⟨rfl,.t [.c (.sl v 0 1 0 0 8),vi 0],?_,?_⟩)
   ·simp [Km.results,bG,aU]
   ·simp [iN,bX,aU,hF]
 exact⟨F,hp.eq⟩
end
section
theorem oK(n lo hi:Int):Km.Pure tab.get fz [vi n,vi lo,vi hi]=Eq (vb (decide (lo≤n∧n≤hi))):=Km.Pure.eq (by
 refine bK aiU rfl fun Q b=>?_
 refine ae ?_;simp;refine ae ?_;by_cases h:lo≤n
 ·simp [h];exact aA (b _ _ (by simp [h]))
 ·simp [h];exact aA (b _ _ (by simp [h])))
theorem eL(n lo hi:Int):∃ b,decide (lo≤n∧n≤hi)=b∧Km.Pure tab.get fz [vi n,vi lo,vi hi]=Eq (vb b):=⟨_,rfl,oK n lo hi⟩
def sQ(m:bj):Bool:=decide (0≤m.day∧m.day≤1099511627776) &&
 (if m.drop=true then decide (m.to=0)&&decide (m.mi=0)&&decide (m.le=0)else decide (0≤m.to∧m.to≤1099511627776)&&decide (0≤m.mi∧m.mi≤1439)&&decide (1≤m.le∧m.le≤10080))
theorem aa_{m:bj}(h:m.OK):sQ m=true:=by
 obtain⟨d,g,j⟩:=h;unfold sQ;rw [decide_eq_true d];cases b:m.drop
 ·have:=j b;simp;omega
 ·have:=g b;simp;omega
theorem Oo(m:bj):Km.Pure tab.get Fk [.a (m.row.map .f)]=Eq (vb (sQ m)):=Km.Pure.eq (by
 obtain⟨g,b,q,l,j⟩:=m;refine bK aiR rfl fun Q d=>?_
 refine ae ?_;simp [bj.row];refine ag (ae ?_);simp;obtain⟨b1,v,B⟩:=eL g 0 1099511627776;obtain⟨s,x,E⟩:=eL q 0 1099511627776;obtain⟨u,y,F⟩:=eL l 0 1439;obtain⟨b4,z,H⟩:=eL j 1 10080
 have A:∀ b,sQ ⟨g,b,q,l,j⟩=(b1&&(if b=true then decide (q=0)&&decide (l=0)&&decide (j=0)else s&&u&&b4)):=fun b=>by
  unfold sQ;rw [←v,←x,←y,←z]
 rw [A]at d;clear A v x y z;cases b
 ·refine aY (by simp) ?_
  refine ae ?_;simp [B];cases b1
  ·simp;exact aA (d _ _ (by simp))
  simp [E];cases s
  ·simp;exact aA (d _ _ (by simp))
  simp [F];cases u
  ·simp;exact aA (d _ _ (by simp))
  simp [H];exact aA (d _ _ (by simp))
 ·refine aj (by simp) ?_
  refine ae ?_;simp [B];cases b1
  ·simp;exact aA (d _ _ (by simp))
  simp [zW];refine aA (d _ _ ?_)
  have e:(q == 0&&(l == 0&&j == 0))=(true&&(if True then decide (q=0)&&decide (l=0)&&decide (j=0)else s&&u&&b4)):=by
   simp [Bool.and_assoc];rfl
  simp [e])
def fC(p:Option Int):List bj→Bool
 | []=>true
 | m::r=>sQ m&&(match p with | none=>true | some d=>decide (d<m.day))&&fC (some m.day) r
theorem yB:∀ {l:List bj} {p:Option Int},pg l→(∀ m ∈ l,m.OK)→(∀ d,p=some d→∀ m ∈ l,d<m.day)→fC p l=true
 | [],_,_,_,_=>rfl
 | m::r,p,u,j,s=>by
  have b:=aws.1 u;simp only [fC];rw [aa_ (j m avQ),yB b.2 (fun x g=>j x (avZ _ g)) (fun d q x g=>by cases q;exact b.1 x g)]
  cases p with
  | none=>rfl
  | some d=>simp;exact s d rfl m avQ
theorem C5{p:Option Int}{l:List bj}{j:Nat}(b:j<l.length):fC p (l.drop j)=(sQ l[j]&&(match p with | none=>true | some d=>decide (d<l[j].day))&&fC (some l[j].day) (l.drop (j+1))):=by
 rw [avW b];rfl
def aaC(s:bH):Bool:=decide (0≤s.mi∧s.mi≤1439)&&decide (1≤s.le∧s.le≤10080)&&decide (0≤s.c5∧s.c5≤2)&&decide (0≤s.fold∧s.fold≤2)&&decide (1≤(s.zo.size:Int)∧(s.zo.size:Int)≤32)&&!decide ((64:Int)<s.mv.length)
def vJ(s:bH):Bool:=aaC s&&fC none s.mv
theorem bH.OK.sound{s:bH}(h:s.OK):vJ s=true:=by
 have g:=h.mi;have j:=h.le;have l:=h.zo;have m:=h.c5;have q:=h.fold;have u:=h.ml;unfold vJ aaC;rw [yB h.ms h.mo (fun d b=>by cases b)]
 simp;omega
theorem DE{s:bH}(hG:Good (dS s.ru))(hl:s.ru.length≤64)(S:s.mv.length≤9223372036854775807)(d7:s.zo.size≤9223372036854775807):Km.Pure tab.get od [s.v]=Eq (vb (vJ s)):=Km.Pure.eq (by
 obtain⟨F,u⟩:=aho s.rg hG hl;obtain⟨rg,ru,mi,le,zo,c5,fold,K,d⟩:=s;simp only at u S d7;refine bK aiT rfl fun Q W=>?_
 obtain⟨b1,h1,w1⟩:=eL mi 0 1439;obtain⟨Z,h2,w2⟩:=eL le 1 10080;obtain⟨b3,h3,w3⟩:=eL c5 0 2;obtain⟨b4,h4,w4⟩:=eL fold 0 2;obtain⟨b5,h5,w5⟩:=eL zo.size 1 32;obtain⟨b6,h6⟩:∃ b,decide ((64:Int)<d.length)=b:=⟨_,rfl⟩;obtain⟨row,B⟩:∃ row,row=bH.row ⟨rg,ru,mi,le,zo,c5,fold,K,d⟩:=⟨_,rfl⟩
 have N:vJ ⟨rg,ru,mi,le,zo,c5,fold,K,d⟩=(b1&&Z&&b3&&b4&&b5&&!b6&&fC none d):=by
  unfold vJ aaC;rw [←h1,←h2,←h3,←h4,←h5,←h6]
 rw [N]at W;clear N h1 h2 h3 h4 h5;refine ae ?_;simp [bH.row];refine ag (ae ?_);simp [u];refine ae ?_;simp;refine aY (by simp) ?_
 have L:∀(t:T) H,t.g 49=vb true→(b1&&Z&&b3&&b4&&b5&&!b6&&fC none d)=false→WP tab.get od none [.code wZ,.code xa] ⟨t,[],H⟩ Q:=by
  intro t H a8 y;refine aj a8 (ae ?_);simp;exact aA (W _ _ (by simp [y]))
 refine ag (ae ?_);simp [w1];cases b1
 ·simp;exact L _ _ (by simp) (by simp)
 simp [w2];cases Z
 ·simp;exact L _ _ (by simp) (by simp)
 simp [w3];cases b3
 ·simp;exact L _ _ (by simp) (by simp)
 simp [w4];cases b4
 ·simp;exact L _ _ (by simp) (by simp)
 simp [w5];cases b5
 ·simp;exact L _ _ (by simp) (by simp)
 simp [h6];cases b6
 case true=>exact L _ _ (by simp) (by simp)
 clear L;refine aY (by simp) ?_
 obtain⟨H0,q⟩:∃ H0:ai,H0=[.box (row.map .f) 0]:=⟨_,rfl⟩;have hz:H0[0]?=some (.box (row.map .f) 0):=by rw [q];rfl
 have e6:∀ H:ai,H[0]?=some (.box (row.map .f) 0)→aQ H none (.c (.ptr 0 6 0))=some (.c (.f (sl K (aV d)))):=fun H h=>by
  simp [aQ,h,az,aF,B,bH.row]
 rw [B]at q;simp only [bH.row,anc,avO]at q;rw [←q];clear q;refine ag (ae ?_);simp [e6 _ hz,-an];refine eV d.length (fun j t H=>t.g 1=.c (.ptr 0 0 0)∧t.g 51=.c (.f (sl K (aV d)))∧H[0]?=some (.box (row.map .f) 0)∧fC none d=fC (if h:0<j∧j-1<d.length then some (d[j-1]'h.2).day else none) (d.drop j)) S (by decide) (by decide) (by simp) (by simp) ⟨by simp,by simp,hz,by simp⟩ ?_ ?_
 ·rintro j t H Y ⟨M,l,h0,v⟩ X y next;obtain⟨m,N⟩:∃ m,m=d[j]:=⟨_,rfl⟩;rw [C5 Y,←N]at v;have d6:=Oo m
  have A:∀(H:ai) (i:Nat),i<d.length→aG H 5 none (.c (.f (sl K (aV d)))) (vi i)=some (.c (.f (.fp (aV d).flatten (i*5)))):=fun H i hi=>by
   have:=cT (H:=H) (g:=K) (rows:=aV d) (sz:=5) (k:=.i64) (i:=(i:Int)) (by omega) (by simp;omega)
   simpa using this
  have d5:aQ H (some 5) (.c (.f (.fp (aV d).flatten (j*5))))=some (.a (m.row.map .f)):=by rw [N];exact fk (cX d) (jA Y)
  refine av (ae ?_);simp [X,l,A _ _ Y,d5,bj.row];obtain⟨J,U⟩:∃ J:ai,J=H++[.box (m.row.map .f) 0]:=⟨_,rfl⟩;have jx:J[H.length]?=some (.box (m.row.map .f) 0):=by rw [U];simp
  have j0:J[0]?=some (.box (row.map .f) 0):=by rw [U,AT (ak h0)];exact h0
  simp only [bj.row,anc,avO]at U;rw [←U];have e5:aQ J (some 5) (.c (.ptr H.length 0 0))=some (.a (m.row.map .f)):=by simp [aQ,jx,az,aF,bj.row]
  have e0:aQ J none (.c (.ptr H.length 0 0))=some (vi m.day):=by simp [aQ,jx,az,aF,bj.row]
  have bad:∀ t:T,t.g 76=vb true→fC none d=false→WP tab.get od none [.code qU,.inBlock 1,.code qV,.inLoop qT,.inBlock 0,.code qW] ⟨t,[],J⟩ Q:=by
   intro t E y;refine aj E (ae ?_);simp;exact aA (W _ _ (by simp [y]))
  have z:∀ t:T,t.g 76=vb false→t.g 1=.c (.ptr 0 0 0)→t.g 51=.c (.f (sl K (aV d)))→t.g 53=vi j→t.g 52=vi d.length→fC none d=fC (some m.day) (d.drop (j+1))→WP tab.get od none [.code qU,.inBlock 1,.code qV,.inLoop qT,.inBlock 0,.code qW] ⟨t,[],J⟩ Q:=by
   intro t E M l b7 a_ y;refine ah E (aB (al ?_));refine next _ _ ⟨by simp [M],by simp [l],j0,?_⟩ (by simp [b7]) (by simp [a_])
   rw [y,dif_pos ⟨by omega,by simpa using Y⟩]
   simp [N]
  refine ae ?_;simp [e5,-an,d6];cases O:sQ m
  ·rw [O]at v;simp;exact bad _ (by simp) (by rw [v];simp)
  rw [O]at v;simp;by_cases c9:j=0
  ·subst c9;simp;exact z _ (by simp) (by simp [M]) (by simp [l]) (by simp [X]) (by simp [y]) (by rw [v];simp)
  ·have hw:IntKind.i64.wrap ((j:Int)-1)=((j-1:Nat):Int):=by rw [wrap64 (by omega) (by omega)];omega
   have I:j-1<d.length:=by omega
   have b_:=A J (j-1) I
   have c_:aQ J none (.c (.f (.fp (aV d).flatten ((j-1)*5))))=some (vi d[j-1].day):=by
    have:=gN (H:=J) (rows:=aV d) (j:=j-1) (sz:=5) (row:=d[j-1].row) (x:=fi d[j-1].day) (cX d) (jA I) rfl;exact this
   rw [dif_pos ⟨by omega,I⟩]at v
   simp [show 0<j by omega,e0,M,e6 _ j0,hw,b_,c_,-an]
   by_cases hd:d[j-1].day<m.day
   ·exact z _ (by simp;omega) (by simp [M]) (by simp [l]) (by simp [X]) (by simp [y]) (by rw [v];simp [hd])
   ·exact bad _ (by simp;omega) (by rw [v];simp [hd])
 ·rintro t H ⟨M,l,h0,v⟩ X y;have b9:fC none d=true:=by rw [v];simp [fC]
  refine ae ?_;simp
  exact aA (W _ _ (by simp [b9])))
end
section
theorem dG(n lo hi:Int):Km.Pure tab.get ij [vi n,vi lo,vi hi]=Eq (vb (decide (lo≤n∧n≤hi))):=Km.Pure.eq (by
 refine bK anI rfl fun Q b=>?_
 refine ae ?_;simp;refine ae ?_;by_cases h:lo≤n
 ·simp [h];exact aA (b _ _ (by simp [h]))
 ·simp [h];exact aA (b _ _ (by simp [h])))
theorem Aw:∀ k:Nat,k<19→Km.Pure tab.get Cd [vi k]=Eq (vi (vD k))
 | 0,_=>Km.Pure.eq (aI (m:=60) (d:=10) (by kernel_rfl))
 | 1,_=>Km.Pure.eq (aI (m:=60) (d:=10) (by kernel_rfl))
 | 2,_=>Km.Pure.eq (aI (m:=60) (d:=10) (by kernel_rfl))
 | 3,_=>Km.Pure.eq (aI (m:=60) (d:=10) (by kernel_rfl))
 | 4,_=>Km.Pure.eq (aI (m:=60) (d:=10) (by kernel_rfl))
 | 5,_=>Km.Pure.eq (aI (m:=60) (d:=10) (by kernel_rfl))
 | 6,_=>Km.Pure.eq (aI (m:=60) (d:=10) (by kernel_rfl))
 | 7,_=>Km.Pure.eq (aI (m:=60) (d:=10) (by kernel_rfl))
 | 8,_=>Km.Pure.eq (aI (m:=60) (d:=10) (by kernel_rfl))
 | 9,_=>Km.Pure.eq (aI (m:=60) (d:=10) (by kernel_rfl))
 | 10,_=>Km.Pure.eq (aI (m:=60) (d:=10) (by kernel_rfl))
 | 11,_=>Km.Pure.eq (aI (m:=60) (d:=10) (by kernel_rfl))
 | 12,_=>Km.Pure.eq (aI (m:=60) (d:=10) (by kernel_rfl))
 | 13,_=>Km.Pure.eq (aI (m:=60) (d:=10) (by kernel_rfl))
 | 14,_=>Km.Pure.eq (aI (m:=60) (d:=10) (by kernel_rfl))
 | 15,_=>Km.Pure.eq (aI (m:=60) (d:=10) (by kernel_rfl))
 | 16,_=>Km.Pure.eq (aI (m:=60) (d:=10) (by kernel_rfl))
 | 17,_=>Km.Pure.eq (aI (m:=60) (d:=10) (by kernel_rfl))
 | 18,_=>Km.Pure.eq (aI (m:=60) (d:=10) (by kernel_rfl))
 | k+19,h=>absurd h (by omega)
theorem nm:∀ k:Nat,k<19→Km.Pure tab.get xA [vi k]=Eq (vb (lV k))
 | 0,_=>Km.Pure.eq (aI (m:=60) (d:=10) (by kernel_rfl))
 | 1,_=>Km.Pure.eq (aI (m:=60) (d:=10) (by kernel_rfl))
 | 2,_=>Km.Pure.eq (aI (m:=60) (d:=10) (by kernel_rfl))
 | 3,_=>Km.Pure.eq (aI (m:=60) (d:=10) (by kernel_rfl))
 | 4,_=>Km.Pure.eq (aI (m:=60) (d:=10) (by kernel_rfl))
 | 5,_=>Km.Pure.eq (aI (m:=60) (d:=10) (by kernel_rfl))
 | 6,_=>Km.Pure.eq (aI (m:=60) (d:=10) (by kernel_rfl))
 | 7,_=>Km.Pure.eq (aI (m:=60) (d:=10) (by kernel_rfl))
 | 8,_=>Km.Pure.eq (aI (m:=60) (d:=10) (by kernel_rfl))
 | 9,_=>Km.Pure.eq (aI (m:=60) (d:=10) (by kernel_rfl))
 | 10,_=>Km.Pure.eq (aI (m:=60) (d:=10) (by kernel_rfl))
 | 11,_=>Km.Pure.eq (aI (m:=60) (d:=10) (by kernel_rfl))
 | 12,_=>Km.Pure.eq (aI (m:=60) (d:=10) (by kernel_rfl))
 | 13,_=>Km.Pure.eq (aI (m:=60) (d:=10) (by kernel_rfl))
 | 14,_=>Km.Pure.eq (aI (m:=60) (d:=10) (by kernel_rfl))
 | 15,_=>Km.Pure.eq (aI (m:=60) (d:=10) (by kernel_rfl))
 | 16,_=>Km.Pure.eq (aI (m:=60) (d:=10) (by kernel_rfl))
 | 17,_=>Km.Pure.eq (aI (m:=60) (d:=10) (by kernel_rfl))
 | 18,_=>Km.Pure.eq (aI (m:=60) (d:=10) (by kernel_rfl))
 | k+19,h=>absurd h (by omega)
theorem mX{x:bp}(h:x.OK):Km.Pure tab.get Cd [vi x.k]=Eq (vi (dw x.k)):=by
 have d:=h.2.k;obtain⟨k,b⟩:∃ k:Nat,x.k=k:=⟨x.k.toNat,by omega⟩
 have e:=tB d.1;rw [e,b,av2];exact Aw k (by omega)
theorem G2{x:bp}(h:x.OK):Km.Pure tab.get xA [vi x.k]=Eq (vb (lV x.k.toNat)):=by
 have d:=h.2.k;obtain⟨k,b⟩:∃ k:Nat,x.k=k:=⟨x.k.toNat,by omega⟩
 rw [b,av2];exact nm k (by omega)
theorem C7(x:aK)(h:xD x.d.k x.d.l x.d.n x.d.m):Km.Pure tab.get Cf [.a (x.row.map .f)]=Eq (vb true):=Km.Pure.eq (by
 obtain⟨⟨k,A,l,r,n,m,li⟩,tg⟩:=x;simp only [xD]at h;refine bK anN rfl fun Q E=>?_
 have b:∀ t H,t.g 2=vb true→WP tab.get Cf none [.code .ret,.inBlock 0,.code tL] ⟨t,[],H⟩ Q:=fun t H I=>aA (E _ _ (by simp [I]))
 refine ae ?_;simp [aK.row];refine ag (ae ?_);simp;refine av (ae ?_);simp;by_cases v:k=1
 ·rw [if_pos v]at h;refine aj (by simp [v]) (ae ?_)
  simp [dG,h];exact b _ _ (by simp)
 rw [if_neg v]at h;refine ah (by simp [v]) (ae ?_)
 simp;by_cases y:k=2
 ·rw [if_pos y]at h;refine aj (by simp [y]) (ae ?_)
  simp [dG,h,wrap64 (n:=n-1) (by omega) (by omega)]
  exact b _ _ (by simp)
 rw [if_neg y]at h;refine ah (by simp [y]) (ae ?_)
 simp;by_cases z:k=7
 ·rw [if_pos z]at h;refine aj (by simp [z]) (ae ?_)
  simp [dG,h];exact b _ _ (by simp)
 rw [if_neg z]at h;refine ah (by simp [z]) (ae ?_)
 simp;by_cases d:k=11
 ·rw [if_pos d]at h;refine aj (by simp [d]) (ae ?_)
  simp [dG,h];exact b _ _ (by simp)
 rw [if_neg d]at h;refine ah (by simp [d]) (ag (ae ?_))
 simp
 have u:k=12∨k=13→∀ t,t.g 1=.c (.ptr 0 0 0)→t.g 58=vb true→WP tab.get Cf none [.code Br,.inBlock 0,.code tL] ⟨t,[],[.box ((aK.row ⟨⟨k,A,l,r,n,m,li⟩,tg⟩).map .f) 0]⟩ Q:=by
  intro c t F B;rw [if_pos c]at h;refine aj B (ae ?_);simp [F,aK.row,dG,h];exact b _ _ (by simp)
 by_cases g:k=12
 ·refine aj (by simp [g]) (aB ?_)
  exact u (.inl g) _ (by simp) (by simp [g])
 refine ah (by simp [g]) (ab (.inl rfl) ?_)
 simp;by_cases s:k=13
 ·exact u (.inr s) _ (by simp) (by simp [s])
 rw [if_neg (by omega)]at h
 refine ah (by simp [s]) (ae ?_)
 simp;by_cases j:k=16
 ·rw [if_pos j]at h;refine aj (by simp [j]) (ae ?_)
  simp [dG,h];exact b _ _ (by simp)
 rw [if_neg j]at h;refine ah (by simp [j]) (ae ?_)
 simp;by_cases q:k=17
 ·rw [if_pos q]at h;refine aj (by simp [q]) (ae ?_)
  simp [dG,h];exact b _ _ (by simp)
 rw [if_neg q]at h;refine aY (by simp [q]) ?_
 refine al (ae ?_);simp [h]
 exact aA (E _ _ (by simp)))
end
section
theorem GO(g:Tg)(l:List Int)(lo hi:Int)(b:Bool)(hl:l.length≤9223372036854775807)(N:l≠[])(O:l.Pairwise (· < ·))(Y:∀ x ∈ l,lo≤x∧x≤hi∧(b=false→x≠0)) :
  Km.Pure tab.get nR [.c (.f (sl g (ints l))),vi lo,vi hi,vb b]=Eq (vb true):=Km.Pure.eq (by
 refine bK anR rfl fun Q X=>?_
 refine ae ?_;simp;refine ag (ae ?_);simp;refine bZ l.length (fun j t H=>t.g 0=.c (.f (sl g (ints l)))∧t.g 1=vi lo∧t.g 2=vi hi∧t.g 3=vb b) hl (by decide) (by simp) ⟨by simp,by simp,by simp,by simp⟩ ?_ ?_ ?_
 ·rintro j t H L E ⟨m,u,v,q⟩ s hn;simp [s,m];exact hn _ ⟨by simp [m],by simp [u],by simp [v],by simp [q]⟩ (by simp [s]) (by simp)
 ·rintro j t H E ⟨m,u,v,q⟩ s nx;obtain⟨b1,U,I⟩:=Y _ (IT E);obtain⟨x,S⟩:∃ x,x=l[j]:=⟨_,rfl⟩;rw [←S]at b1 U I
  have B:∀ i:Nat,i<l.length→aG H 1 none (.c (.f (sl g (ints l)))) (vi i)=some (.c (.f (.fp (ints l).flatten i))):=fun i hi=>by
   have:=cT (H:=H) (g:=g) (rows:=ints l) (sz:=1) (k:=.i64) (i:=(i:Int)) (by omega) (by simp;omega)
   simpa using this
  have z:=B j E;have A:aQ H none (.c (.f (.fp (ints l).flatten j)))=some (vi x):=by rw [S];exact fQ E
  have y:∀ t:T,t.g 0=.c (.f (sl g (ints l)))→t.g 1=vi lo→t.g 2=vi hi→t.g 3=vb b→t.g 9=vi j→t.g 56=vb false→WP tab.get nR none [.code Bv,.inBlock 1,.code Bw,.inLoop Hd,.inBlock 0,.code Bx] ⟨t,[],H⟩ Q:=by
   intro t m u v q W J;refine ah J (aB (al ?_));exact nx _ _ ⟨by simp [m],by simp [u],by simp [v],by simp [q]⟩ (by simp [W])
  refine av (ae ?_);simp [m,s,z,A,u,show¬ x<lo by omega,v,show¬ hi<x by omega]
  by_cases Z:j=0
  ·simp [show¬ 0<j by omega,m,s,z,A]
   by_cases d:x=0
   ·cases b
    ·exact absurd d (I rfl)
    ·simp [d,q];exact y _ (by simp [m]) (by simp [u]) (by simp [v]) (by simp [q]) (by simp [s]) (by simp)
   ·simp [d];exact y _ (by simp [m]) (by simp [u]) (by simp [v]) (by simp [q]) (by simp [s]) (by simp)
  ·have hw:IntKind.i64.wrap ((j:Int)-1)=((j-1:Nat):Int):=by rw [wrap64 (by omega) (by omega)];omega
   have a8:l[j-1]<x:=by rw [S];exact avX.1 O (j-1) j (by omega) E (by omega)
   have F:j-1<l.length:=by omega
   have K:=B (j-1) F;have M:aQ H none (.c (.f (.fp (ints l).flatten (j-1))))=some (vi l[j-1]):=fQ F;simp [show 0<j by omega,m,s,z,A,hw,K,M,show¬ x≤l[j-1] by omega]
   by_cases d:x=0
   ·cases b
    ·exact absurd d (I rfl)
    ·simp [d,q];exact y _ (by simp [m]) (by simp [u]) (by simp [v]) (by simp [q]) (by simp [s]) (by simp)
   ·simp [d];exact y _ (by simp [m]) (by simp [u]) (by simp [v]) (by simp [q]) (by simp [s]) (by simp)
 ·rintro t H ⟨m,u,v,q⟩ s;have:=aww.2 N;refine ae ?_;simp [m,this]
  exact aA (X _ _ (by simp)))
theorem aaT{l:List Int}{lo hi:Int}(h:mn lo hi l)(b:¬ (lo=0∧hi=0)):l≠[]∧l.Pairwise (· < ·)∧∀ x ∈ l,lo≤x∧x≤hi∧(lo<0→x≠0):=by
 unfold mn at h;rwa [if_neg b]at h
theorem Ob(x:aK)(k:Nat)(M:x.d.k=k)(Y:1≤k∧k≤17)(W:x.d.li.length≤61)(h:mn (DA k) (Dz k) x.d.li):Km.Pure tab.get Ce [.a (x.row.map .f)]=Eq (vb true):=Km.Pure.eq (by
 obtain⟨⟨k',E,l,r,n,m,li⟩,tg⟩:=x;simp only at M h W;subst M;refine bK anJ rfl fun Q L=>?_
 have d:∀ t H,t.g 2=vb true→WP tab.get Ce none [.code .ret,.inBlock 0,.code tK] ⟨t,[],H⟩ Q:=fun t H U=>aA (L _ _ (by simp [U]))
 have go:∀ lo hi z,DA k=lo→Dz k=hi→¬ (lo=0∧hi=0)→(z=false→lo<0)→Km.Pure tab.get nR [.c (.f (sl tg (ints li))),vi lo,vi hi,vb z]=Eq (vb true):=by
  intro lo hi z F I N O;rw [F,I]at h;obtain⟨a,b,c⟩:=aaT h N;exact GO tg li lo hi z (by omega) a b fun x K=>⟨(c x K).1,(c x K).2.1,fun X=>(c x K).2.2 (O X)⟩
 refine ae ?_;simp [aK.row];refine ag (ae ?_);simp;refine av (ae ?_);simp;by_cases s:k=3
 ·have:=go 1 16 true (by rw [s];rfl) (by rw [s];rfl) (by decide) (by decide)
  refine aj (by simp [s]) (ae ?_)
  simp [this];exact d _ _ (by simp)
 refine ah (by simp;omega) (ae ?_)
 simp;by_cases u:k=4
 ·have:=go (-40) 40 false (by rw [u];rfl) (by rw [u];rfl) (by decide) (by decide)
  refine aj (by simp [u]) (ae ?_)
  simp [this];exact d _ _ (by simp)
 refine ah (by simp;omega) (ae ?_)
 simp;by_cases B:k=5
 ·have:=go 0 6 true (by rw [B];rfl) (by rw [B];rfl) (by decide) (by decide)
  refine aj (by simp [B]) (ae ?_)
  simp [this];exact d _ _ (by simp)
 refine ah (by simp;omega) (ae ?_)
 simp;by_cases v:k=6
 ·have:=go 1 54 true (by rw [v];rfl) (by rw [v];rfl) (by decide) (by decide)
  refine aj (by simp [v]) (ae ?_)
  simp [this];exact d _ _ (by simp)
 refine ah (by simp;omega) (ag (ae ?_))
 simp
 have A:k=14∨k=15→∀ t,t.g 1=.c (.ptr 0 0 0)→t.g 25=vb true→WP tab.get Ce none [.code Bi,.inBlock 0,.code tK] ⟨t,[],[.box ((aK.row ⟨⟨k,E,l,r,n,m,li⟩,tg⟩).map .f) 0]⟩ Q:=by
  intro c t S J;have:=go 0 1099511627776 true (by rcases c with rfl | rfl<;>rfl) (by rcases c with rfl | rfl<;>rfl) (by decide) (by decide)
  refine aj J (ae ?_);simp [S,aK.row,this];exact d _ _ (by simp)
 by_cases j:k=14
 ·refine aj (by simp [j]) (aB ?_)
  exact A (.inl j) _ (by simp) (by simp [j])
 refine ah (by simp;omega) (ab (.inl rfl) ?_)
 simp;by_cases q:k=15
 ·exact A (.inr q) _ (by simp) (by simp [q])
 refine ah (by simp;omega) (ae ?_)
 simp;by_cases g:k=16
 ·have:=go (-400) 400 false (by rw [g];rfl) (by rw [g];rfl) (by decide) (by decide)
  refine aj (by simp [g]) (ae ?_)
  simp [this];exact d _ _ (by simp)
 refine ah (by simp;omega) (aB ?_)
 have y:li=[]:=by
  have F:DA k=0:=by simp [DA,s,u,v,g]
  have I:Dz k=0:=by simp [Dz,s,u,B,v,j,q,g]
  rw [F,I]at h;simpa [mn]using h
 refine al (ae ?_);simp [y]
 exact aA (L _ _ (by simp)))
end
section
theorem abc(x:aK)(i:Nat)(hi:i≤1000)(h:kJ i x.d):Km.Pure tab.get xy [.a (x.row.map .f),vi i]=Eq (vb true):=Km.Pure.eq (by
 have a_:=h.ok;obtain⟨z,K⟩:=h.ok;have hk:=K.k;have E:=mX h.ok;have d:=G2 h.ok;have A:=Ob x x.d.k.toNat (by omega) (by omega) z K.lis
 have B:=C7 x K.num;have u:=K.dM;have F:bJ .neq (.c (.f (.str AS))) (.c (.f (.str ⟨#[]⟩)))=some (vb false):=by simp [bJ,Z_,AS];rfl
 obtain⟨row,a8⟩:∃ row,row=x.row:=⟨_,rfl⟩;refine bK anM rfl fun Q hQ=>?_
 refine ae ?_;simp
 have e:∀ n y,x.row[n]?=some y→∀ H:ai,H=[.box (x.row.map .f) 0]→aQ H none (.c (.ptr 0 n 0))=some (.c (.f y)):=by
  intro n y hy H l;have Y:=(BY.1 hy);obtain⟨S,U⟩:=Y;subst l
  have:(x.row.map C.f).drop n=.f y ::(x.row.map C.f).drop (n+1):=by
   rw [avW (by simpa using S),awI,U]
  simp only [aQ,az,awD,av3];rw [this];rfl
 obtain⟨H,l⟩:∃ H:ai,H=[.box (x.row.map .f) 0]:=⟨_,rfl⟩;have q:=e 0 (fi x.d.k) rfl H l;have e1:=e 1 (fi x.d.dM) rfl H l;have e2:=e 2 (fi x.d.l) rfl H l;have L:=e 3 (fi x.d.r) rfl H l;have e6:=e 6 (sl x.tg (ints x.d.li)) rfl H l;have e7:=e 7 (.str AS) rfl H l;have e8:aQ H (some 8) (.c (.ptr 0 0 0))=some (.a (x.row.map .f)):=by rw [l];rfl
 rw [←l];clear e l;refine ag (ae ?_);simp [q,e6,-an,show¬ x.d.k<1 by omega,show¬ 18<x.d.k by omega,show¬ (64:Int)<x.d.li.length by omega]
 refine aY (by simp) ?_
 refine ae ?_;simp [q,-an,E];obtain⟨n,Y⟩:∃ n,n=dw x.d.k:=⟨_,rfl⟩;have Z:=nB x.d.k;rw [←Y]at Z ⊢;have I:IntKind.i64.wrap ((i:Int)-1)=(i:Int)-1:=wrap64 (by omega) (by omega)
 have g:∀ t:T,t.g 2=.c (.ptr 0 0 0)→t.g 1=vi i→t.g 5=vi n→t.g 46=vb false→WP tab.get xy none [.code Bl,.code Bm] ⟨t,[],H⟩ Q:=by
  intro t b g1 s M;refine ah M (aB ?_)
  have j:∀ t:T,t.g 2=.c (.ptr 0 0 0)→t.g 65=vb false→WP tab.get xy none [.code Bn,.code Bo] ⟨t,[],H⟩ Q:=by
   intro t b N;refine ah N (aB ?_)
   have m:∀ t:T,t.g 2=.c (.ptr 0 0 0)→t.g 85=vb false→WP tab.get xy none [.code Bp,.code Bq] ⟨t,[],H⟩ Q:=by
    intro t b O;refine ah O (aB ?_);refine ag (ae ?_);simp [b,q,e7,-an,show¬ x.d.k=18 by omega,F]
    refine aY (by simp) ?_
    refine ae ?_;simp [b,e8,-an,A,B];exact aA (hQ _ _ (by simp))
   refine ag (ae ?_);cases X:lV x.d.k.toNat
   ·rw [X]at d;have:=u.2.2 X;simp [b,q,e1,-an,d,this];exact m _ (by simp [b]) (by simp)
   ·rw [X]at d;have v:decide (0≤x.d.dM∧x.d.dM≤2)=true:=decide_eq_true ⟨by omega,by omega⟩
    simp [b,q,e1,-an,d,dG,v];exact m _ (by simp [b]) (by simp)
  refine ag (ae ?_);by_cases U:n=2
  ·have hr:=h.r2 (by omega)
   have v:decide (0≤x.d.r∧x.d.r≤(i:Int)-1)=true:=decide_eq_true ⟨by omega,by omega⟩
   simp [b,g1,s,U,L,-an,I,dG,v];exact j _ (by simp [b]) (by simp)
  ·have hr:=h.r0 (by omega)
   rcases(show n=0∨n=1 by omega)with e | e
   ·rw [e]at s;simp [b,s,L,-an,hr];exact j _ (by simp [b]) (by simp)
   ·rw [e]at s;simp [b,s,L,-an,hr];exact j _ (by simp [b]) (by simp)
 refine ag (ae ?_);by_cases S:1≤n
 ·have hl:=h.l1 (by omega)
  have v:decide (0≤x.d.l∧x.d.l≤(i:Int)-1)=true:=decide_eq_true ⟨by omega,by omega⟩
  simp [show(1:Int)≤n by omega,S,e2,-an,I,dG,v,show¬ n=0 by omega]
  exact g _ (by simp) (by simp) (by simp) (by simp)
 ·have J:n=0:=by omega
  by_cases W:x.d.k=7
  ·simp [J,q,-an,W];exact g _ (by simp) (by simp) (by simp [J]) (by simp)
  ·have hl:=h.l0 (by omega) W
   simp [J,q,e2,-an,W,hl]
   exact g _ (by simp) (by simp) (by simp [J]) (by simp))
end
section
theorem xY{K:ai}{U:List Int}{n:Nat}(m:U.length=n){o:Int}(j:0≤o)(s:o<n)(q:∀ v ∈ U,0≤v∧v≤1000){b:Nat}(p1:K[b]?=some (.box (U.map cI) 0)) :
  ∃ u:Int,0≤u∧u≤1000∧aG K 1 none (.c (.sl b 0 n n 0 1)) (vi o)=some (.c (.ptr b o.toNat 0))∧aQ K none (.c (.ptr b o.toNat 0))=some (vi u) ∧
   df K (.ptr b o.toNat 0) [.f (fi (u+1))]=some (K.set b (.box ((mJ U o).map cI) 0)):=by
 have g:U.getD o.toNat 0=U[o.toNat]'(by omega):=by rw [av8,AI (by omega)];rfl
 have d:=q _ (IT (l:=U) (n:=o.toNat) (by omega))
 rw [←g]at d;refine⟨U.getD o.toNat 0,d.1,d.2,?_,?_,?_⟩
 ·simp [aG,dk,p1,j];omega
 ·have:(U.map cI).drop o.toNat=cI (U.getD o.toNat 0) ::(U.map cI).drop (o.toNat+1):=by
   rw [avW (by simp;omega),awI,g]
  simp only [aQ,az,p1,av3];rw [this];rfl
 ·have:=xX (U:=U) (k:=o) j (by omega)
  simp only [df,p1];rw [if_pos (by simp;omega)]
  rw [show [C.f (fi (U.getD o.toNat 0+1))]=[cI (U.getD o.toNat 0+1)] from rfl,this]
theorem N2(g:Tg){r:List aK}(hG:Good (dS r))(hl:r.length≤64):Km.Pure tab.get Hh [.c (.f (sl g (aE r)))]=Eq (vb true):=Km.Pure.eq (by
 have d8:0<r.length:=by have:=hG.pos;simpa using this
 obtain⟨n,Y⟩:∃ n,n=r.length:=⟨_,rfl⟩;refine bK anD rfl fun Q hQ=>?_
 refine ae ?_;simp;refine ag (ae ?_);simp [←Y,show¬ (n:Int)<1 by omega,show¬ (64:Int)<n by omega]
 refine aY (by simp) ?_
 have M:bI n 8=true:=cd (by omega) (by decide)
 have d6:∀(t:T) (H:ai),(R 16).ev t=vi n→aZ t H (.cP 1 8 [fi 0] (R 16) (R 16))=some (.c (.sl H.length 0 n n 0 1),H++[.box ((bB [] n).map cI) 0]):=by
  intro t H h;have e:(cF n [fi 0]).map C.f=(bB [] n).map cI:=by rw [y6];simp [cF]
  simp only [aZ,h,dk];rw [if_pos ⟨by omega,awQ _,by simpa using M,rfl⟩,if_neg (by omega),av2,e]
 refine ae ?_;simp [←Y,d6];refine ag (ae ?_);simp
 refine bZ n (fun i t H=>∃ r',r'=(dS r).take i∧t.g 0=.c (.f (sl g (aE r)))∧t.g 3=.c (.sl 0 0 n n 0 1)∧H=[.box ((bB r' n).map cI) 0])
  (by omega) (by decide) (by simp) ⟨[],by simp,by simp,by simp,rfl⟩ ?_ ?_ ?_
 ·rintro i t H L hi ⟨r',z,d,q,rfl⟩ s J;simp [s,d,←Y];exact J _ ⟨r',z,by simp [d],by simp [q],rfl⟩ (by simp [s]) (by simp)
 ·rintro i t H hi ⟨r',z,d,q,rfl⟩ s next;have l:i<r.length:=by omega
  have O:=hG.at_ i (by simpa using l)
  obtain⟨x,hx⟩:∃ x,x=r[i]:=⟨_,rfl⟩;have a_:(dS r)[i]'(by simpa using l)=x.d:=by rw [hx];simp
  rw [a_]at O;have d9:r'.length≤64:=by rw [z];simp;omega
  have A:oP (bB r' n) x.d 2=bB ((dS r).take (i+1)) n:=by
   rw [IZ O,z,avN (by simpa using l),a_]
  have X:∀ v ∈ bB r' n,0≤v∧v≤128:=fun v hv=>by
   obtain⟨k,hk,rfl⟩:=avT hv;have:=DO r' n k (by simpa using hk)
   omega
  have b7:∀ v ∈ bB r' n,0≤v∧v≤1000:=fun v hv=>by have:=X v hv;omega
  have b9:∀ v ∈ oP (bB r' n) x.d 1,0≤v∧v≤1000:=fun v hv=>by have:=AY X 1 v hv;omega
  have I:=abc x i (by omega) O
  have a8:=mX O.ok
  have N:∀(H:ai) (k:Nat) (y:FC),x.row[k]?=some y→aQ H none (.c (.f (.fp (aE r).flatten (i*8+k))))=some (.c (.f y)):=fun H k y hy=>
   Af (H:=H) (rows:=aE r) (j:=i) (sz:=8) (row:=x.row) (ea r) (by rw [hx];exact mT l) hy
  have l0:∀ H,aQ H none (.c (.f (.fp (aE r).flatten (i*8))))=some (vi x.d.k):=fun H=>N H 0 _ rfl
  have l2:∀ H,aQ H none (.c (.f (.fp (aE r).flatten (i*8+2))))=some (vi x.d.l):=fun H=>N H 2 _ rfl
  have l3:∀ H,aQ H none (.c (.f (.fp (aE r).flatten (i*8+3))))=some (vi x.d.r):=fun H=>N H 3 _ rfl
  refine av (ag (ae ?_));simp [s,d,eo l hl,kV l,←hx,I];refine aY (by simp) ?_
  refine ae ?_;simp [s,d,eo l hl,l0,a8];obtain⟨m,hm⟩:∃ m,m=dw x.d.k:=⟨_,rfl⟩;have d5:=nB x.d.k;rw [←hm]at d5 ⊢
  have B:∀ t:T,t.g 0=.c (.f (sl g (aE r)))→t.g 3=.c (.sl 0 0 n n 0 1)→t.g 4=vi i→t.g 5=vi m →
    WP tab.get Hh none [.code Be,.inBlock 1,.code Bf,.inLoop Bd,.inBlock 0,.code Bg] ⟨t,[],[.box ((oP (bB r' n) x.d 1).map cI) 0]⟩ Q:=by
   intro t d q g4 g5;refine ae ?_;by_cases h2:m=2
   ·have hr:=O.r2 (by omega)
    have F:oP (bB r' n) x.d 2=mJ (oP (bB r' n) x.d 1) x.d.r:=by
     rw [oP,if_pos (by omega)];rfl
    obtain⟨u,u0,u1,S,W,f3⟩:=xY (K:=[.box ((oP (bB r' n) x.d 1).map cI) 0]) (U:=oP (bB r' n) x.d 1) (n:=n) (by simp) (o:=x.d.r) hr.1 (by omega) b9 (b:=0) rfl
    simp [g5,h2];refine aj (by simp) (ab (.inl rfl) ?_)
    simp [q,d,g4,eo l hl,l3,S,W,f3,wrap64 (n:=u+1) (by omega) (by omega),-an,-ba]
    refine al ?_;refine next _ _ ⟨_,rfl,by simp [d],by simp [q],?_⟩ (by simp [g4])
    rw [←A,F]
   ·have F:oP (bB r' n) x.d 2=oP (bB r' n) x.d 1:=by
     rw [oP,if_neg (by omega)]
    simp [g5];refine ah (by simp;omega) (aB (al ?_))
    refine next _ _ ⟨_,rfl,by simp [d],by simp [q],?_⟩ (by simp [g4])
    rw [←A,F]
  refine ag (ae ?_);simp;by_cases h1:1≤m
  ·have c9:=O.l1 (by omega)
   have E:oP (bB r' n) x.d 1=mJ (bB r' n) x.d.l:=by
    rw [oP,if_pos (by omega)];rfl
   obtain⟨u,u0,u1,S,W,f3⟩:=xY (K:=[.box ((bB r' n).map cI) 0]) (U:=bB r' n) (n:=n) (by simp) (o:=x.d.l) c9.1 (by omega) b7 (b:=0) rfl
   refine aj (by simp;omega) (ab (.inl rfl) ?_)
   simp [q,d,s,eo l hl,l2,S,W,f3,wrap64 (n:=u+1) (by omega) (by omega),-an,-ba]
   have:=B;rw [E]at this;exact this _ (by simp [d]) (by simp [q]) (by simp [s]) (by simp)
  ·have E:oP (bB r' n) x.d 1=bB r' n:=by
    rw [oP,if_neg (by omega)];rfl
   refine ah (by simp;omega) (aB ?_)
   have:=B;rw [E]at this;exact this _ (by simp [d]) (by simp [q]) (by simp [s]) (by simp)
 ·rintro t H ⟨r',z,d,q,rfl⟩ s;have d7:r'=dS r:=by rw [z,avS (by simp;omega)]
  subst d7;clear z;have hU:=hG.bB;rw [show(dS r).length=n by simp [Y]]at hU
  have Z:∀ k,k<n-1→(bB (dS r) n).getD k 0=1:=fun k hk=>by
   rw [av8,AI (by simp;omega)]
   refine hU _ ?_;rw [List.mem_take_iff_getElem];exact⟨k,by simp;omega,rfl⟩
  refine ag (ae ?_);simp
  refine bZ (n-1) (fun i t H=>t.g 0=.c (.f (sl g (aE r)))∧t.g 3=.c (.sl 0 0 n n 0 1)∧H=[.box ((bB (dS r) n).map cI) 0])
   (by omega) (by decide) (by simp) ⟨by simp [d],by simp [q],rfl⟩ ?_ ?_ ?_
  ·rintro i t H L hi ⟨d,q,rfl⟩ s J;simp [s,d,←Y,wrap64 (n:=(i:Int)+1) (by omega) (by omega)]
   refine J _ ⟨by simp [d],by simp [q],rfl⟩ (by simp [s]) ?_
   simp;omega
  ·rintro i t H hi ⟨d,q,rfl⟩ s next
   have b_:∀ K:ai,K=[.box ((bB (dS r) n).map cI) 0]→aG K 1 none (.c (.sl 0 0 n n 0 1)) (vi i)=some (.c (.ptr 0 i 0)):=by
    rintro K rfl;simp [aG,dk];omega
   have c_:∀ K:ai,K=[.box ((bB (dS r) n).map cI) 0]→aQ K none (.c (.ptr 0 i 0))=some (vi 1):=by
    rintro K rfl;have h1:=Z i hi;rw [av8,AI (by simp;omega)]at h1
    have:((bB (dS r) n).map cI).drop i=cI 1 ::((bB (dS r) n).map cI).drop (i+1):=by
     rw [avW (by simp;omega),awI]
     simp at h1;rw [show(bB (dS r) n)[i]'(by simp;omega)=1 from h1]
    simp only [aQ,az,awD,av3];rw [this];rfl
   obtain⟨K,hK⟩:∃ K:ai,K=[.box ((bB (dS r) n).map cI) 0]:=⟨_,rfl⟩;have S:=b_ K hK;have W:=c_ K hK;rw [←hK]at next ⊢;refine av (ae ?_);simp [q,s,S,W,-an];refine ah (by simp) (aB (al ?_))
   exact next _ _ ⟨by simp [d],by simp [q],rfl⟩ (by simp [s])
  ·rintro t H ⟨d,q,rfl⟩ s;refine ae ?_;simp
   exact aA (hQ _ _ (by simp)))
theorem vR(g:Tg){r:List aK}(b:Good (dS r))(j:r.length≤64):Km.Pure tab.get ZH [.c (.f (sl g (aE r)))]=Eq (vb true):=Km.Pure.eq (by
 have:=N2 g b j;refine bK anG rfl fun Q d=>?_
 refine ae ?_;simp;refine ae ?_;simp [this]
 exact aA (d _ _ (by simp)))
end
section
def pn(l:List (aK × C)):List C:=(l.map fun p=>p.1.dR p.2).flatten
theorem uv(l:List (aK × C)):(pn l).length=l.length*8:=by
 induction l with
 | nil=>rfl
 | cons p l b=>simp only [pn,anc,List.flatten_cons,avR,awa]at b ⊢;rw [b,show(p.1.dR p.2).length=8 from rfl];omega
theorem NJ(l:List (aK × C))(x:aK)(c:C):pn (l++[(x,c)])=pn l++x.dR c:=by simp [pn]
def NL(J:ai)(cn:C)(l:List (aK × C)):Prop:=
 (∀ p ∈ l,LR J p.2 1 (ints p.1.d.li))∧((l=[]∧(cn=.f .ay∨cn=.f .es))∨(l≠[]∧∃ b d,cn=.sl b 0 l.length 0 d 8∧J[b]?=some (.bE 8 (pn l) 0 d .loc)))
theorem agO{J:ai}{c:C}{l:List Int}(h:LR J c 1 (ints l)){b:Nat}{cs:List C}{fl g:Nat}{st:Km.Os}(m:J[b]?=some (.bE 8 cs fl g st)):aL c≠some b:=by
 rcases h with⟨_,rfl | rfl⟩ | ⟨_,q,j,rfl,d⟩
 ·simp [aL]
 ·simp [aL]
 ·intro e;simp [aL]at e;subst e;unfold RB at d;rw [m]at d;cases d
theorem NL.nil(J:ai):NL J (.f .es) []:=⟨by simp,.inl ⟨rfl,.inr rfl⟩⟩
theorem NL.bN{J j:ai}{cn:C}{l:List (aK × C)}(h:NL J cn l)(m:∀(i:Nat) (y:cU),J[i]?=some y→(∀ cs fl,y≠cU.box cs fl)→j[i]?=some y):NL j cn l:=by
 refine⟨fun p q=>(h.1 p q).bN fun i y hy hi=>m i y hy ?_,?_⟩
 ·rcases h.1 p q with⟨_,e | e⟩ | ⟨_,x,u,e,d⟩
  ·rw [e]at hi;simp [aL]at hi
  ·rw [e]at hi;simp [aL]at hi
  ·rw [e]at hi;simp [aL]at hi;subst hi;unfold RB at d;rw [d]at hy;cases hy;intro cs fl e;cases e
 ·rcases h.2 with d | ⟨g,b,s,rfl,v⟩
  ·exact .inl d
  ·exact .inr ⟨g,b,s,rfl,m _ _ v (fun cs fl e=>by cases e)⟩
theorem NL.push{J:ai}{cn:C}{l:List (aK × C)}(h:NL J cn l)(L:ai):NL (J++L) cn l:=h.bN fun i y hy _=>by rw [AT (ak hy)];exact hy
theorem NL.cB{J:ai}{cn:C}{l:List (aK × C)}(h:NL J cn l){i:Nat}{cs:List C}{fl:Nat}(j:J[i]?=some (.box cs fl)):aL cn≠some i:=by
 rcases h.2 with⟨_,rfl | rfl⟩ | ⟨g,b,m,rfl,d⟩
 ·simp [aL]
 ·simp [aL]
 ·intro e;simp [aL]at e;subst e;rw [j]at d;cases d
theorem NL.app{J:ai}{cn:C}{l:List (aK × C)}(h:NL J cn l)(F:l.length≤1000){x:aK}{c:C}(hc:LR J c 1 (ints x.d.li)){b1 fl1:Nat}(z:J[b1]?=some (.box (x.dR c) fl1)) :
  ∃ m s,bz J 8 88 (.c cn) (.c (.sl b1 0 1 1 0 8))=some (.c m,s)∧NL s m (l++[(x,c)])∧Kb J s cn∧(aL m=aL cn∨aL m=some J.length):=by
 have q:cM J 8 (.c (.sl b1 0 1 1 0 8))=some (1,x.dR c):=jX z rfl
 have g:∀ p ∈ l++[(x,c)],LR J p.2 1 (ints p.1.d.li):=fun p j=>by
  rcases av1.1 j with j | j
  ·exact h.1 p j
  ·simp at j;subst j;exact hc
 rcases h.2 with⟨rfl,A⟩ | ⟨E,b,u,rfl,v⟩
 ·have d:bI 1 88=true:=by decide
  refine⟨.sl J.length 0 1 0 0 8,J++[.bE 8 (x.dR c) 0 0 .loc],?_,⟨fun p j=>(g p j).push _,.inr ⟨by simp,J.length,0,rfl,?_⟩⟩,⟨by simp,fun i y hy _=>by rw [AT (ak hy)];exact hy⟩,.inr rfl⟩
  ·rcases A with rfl | rfl<;>simp [bz,q,d]
  ·simp [pn]
 ·have d:bI (l.length+1) 88=true:=cd (by omega) (by decide)
  refine⟨.sl b 0 (l.length+1) 0 (u+1) 8,J.set b (.bE 8 (pn l++x.dR c) 0 (u+1) .loc),?_,⟨fun p j=>(g p j).set (agO (g p j) v) _,.inr ⟨by simp,b,u+1,by simp,?_⟩⟩,⟨by simp,fun i y hy B=>?_⟩,.inl rfl⟩
  ·simp only [bz,q,v,and_self,if_true];rw [if_neg (by decide),if_neg (by decide),if_pos ⟨trivial,(uv l).symm,Nat.zero_le _⟩,d]
   simp
  ·rw [OF (ak v),NJ]
  ·have:b≠i:=by rintro rfl;exact B rfl
   rw [By this];exact hy
theorem HE{J:ai}(n:Nat):∀ {l:List (aK × C)},(∀ p ∈ l,LR J p.2 1 (ints p.1.d.li))→∃ b:List aK,dS b=l.map (·.1.d)∧aU (cW (n+1) J) (pn l)=some (aE b).flatten
 | [],_=>⟨[],rfl,rfl⟩
 | (x,c)::l,h=>by
  obtain⟨b,m,q⟩:=HE n (l:=l) fun p s=>h p (avZ _ s)
  obtain⟨g,d⟩:=(h (x,c) avQ).ex (eB _) n;refine⟨⟨x.d,g⟩::b,by simp only [dS,anc];exact congrArg _ m,?_⟩
  have e:pn ((x,c)::l)=x.dR c++pn l:=by simp [pn]
  rw [e]
  have j:aU (cW (n+1) J) (x.dR c)=some (aK.row ⟨x.d,g⟩):=by
   simp only [aK.dR,aU,aK.row];simp only at d;simp [d]
  have:=gV j q;rw [this];simp [aE]
theorem NL.ex{J:ai}{cn:C}{l:List (aK × C)}(h:NL J cn l)(n:Nat):∃ g,∃ d:List aK,dS d=l.map (·.1.d)∧cW (n+2) J cn=some (sl g (aE d)):=by
 obtain⟨d,q,v⟩:=HE n h.1;have s:d.length=l.length:=by have:=congrArg List.length q;simpa using this
 rcases h.2 with⟨rfl,rfl | rfl⟩ | ⟨m,b,y,rfl,x⟩
 ·exact⟨.nil,[],rfl,rfl⟩
 ·exact⟨.es,[],rfl,rfl⟩
 ·refine⟨.fs,d,q,?_⟩
  show cW (n+1+1) J _=_
  rw [iV,x];have u:=aww.2 m;have e:(((pn l).drop 0).take (l.length*8))=pn l:=by rw [List.drop_zero,avS (by rw [uv];exact aft _)]
  have j:¬ (aE d).isEmpty=true:=by simp;intro e;subst e;simp at s;omega
  simp only [e,v,Option.map_some];rw [if_pos ⟨trivial,trivial,by rw [uv];omega⟩,sl,if_neg j,pV,s]
end
section
theorem CQ(n lo hi:Int):Km.Pure tab.get lL [vi n,vi lo,vi hi]=Eq (vb (decide (lo≤n∧n≤hi))):=Km.Pure.eq (by
 refine bK an9 rfl fun Q b=>?_
 refine ae ?_;simp;refine ae ?_;by_cases h:lo≤n
 ·simp [h];exact aA (b _ _ (by simp [h]))
 ·simp [h];exact aA (b _ _ (by simp [h])))
theorem dW(n lo hi:Int)(h:lo≤n∧n≤hi):Km.Pure tab.get lL [vi n,vi lo,vi hi]=Eq (vb true):=by rw [CQ,decide_eq_true h]
theorem qK{m:bj}(h:m.OK):Km.Pure tab.get Hr [.a (m.row.map .f)]=Eq (vb true):=Km.Pure.eq (by
 obtain⟨d,b,A,z,y⟩:=m;obtain⟨g,j,l⟩:=h;refine bK an7 rfl fun Q q=>?_
 simp only at g j l;have B:=dW d 0 1099511627776 g;refine ae ?_;simp [bj.row];refine ag (ae ?_);simp [B];refine aY (by simp) ?_
 refine ag (ae ?_);simp;cases b
 ·obtain⟨a1,s,u,v,a5,x⟩:=l rfl;have E:=dW A 0 1099511627776 ⟨a1,s⟩;have F:=dW z 0 1439 ⟨u,v⟩;have H:=dW y 1 10080 ⟨a5,x⟩;refine aY (by simp) ?_
  refine ae ?_;simp [E,F,H];exact aA (q _ _ (by simp))
 ·obtain⟨rfl,rfl,rfl⟩:=j rfl;refine aj (by simp) ?_
  refine ae ?_;simp
  exact aA (q _ _ (by simp)))
theorem Ab{H:ai}{g:Tg}{b:List bj}{j:Nat}(d:j<b.length)(l:b.length≤1000):aG H 5 none (.c (.f (sl g (aV b)))) (vi j)=some (.c (.f (.fp (aV b).flatten (j*5)))):=by
 have:=cT (H:=H) (g:=g) (rows:=aV b) (sz:=5) (k:=.i64) (i:=(j:Int)) (by omega) (by simp;omega)
 simpa using this
theorem CV{H:ai}{b:List bj}{j:Nat}(d:j<b.length):aQ H (some 5) (.c (.f (.fp (aV b).flatten (j*5))))=some (.a (b[j].row.map .f)):=fk (cX b) (jA d)
theorem Ae{H:ai}{b:List bj}{j:Nat}(d:j<b.length):aQ H none (.c (.f (.fp (aV b).flatten (j*5))))=some (vi b[j].day):=by
 have:=gN (H:=H) (rows:=aV b) (j:=j) (sz:=5) (row:=b[j].row) (x:=fi b[j].day) (cX b) (jA d) rfl;exact this
theorem ja{H:ai}{b fl:Nat}{s:bH}(d:H[b]?=some (.box (s.row.map .f) fl)) :
  aQ H none (.c (.ptr b 0 0))=some (.c (.f (sl s.rg (aE s.ru))))∧aQ H none (.c (.ptr b 1 0))=some (vi s.mi)∧aQ H none (.c (.ptr b 2 0))=some (vi s.le)∧aQ H none (.c (.ptr b 3 0))=some (.c (.f (.str s.zo))) ∧
  aQ H none (.c (.ptr b 4 0))=some (vi s.c5)∧aQ H none (.c (.ptr b 5 0))=some (vi s.fold)∧aQ H none (.c (.ptr b 6 0))=some (.c (.f (sl s.mg (aV s.mv))))∧aQ H (some 7) (.c (.ptr b 0 0))=some s.v:=by
 refine⟨?_,?_,?_,?_,?_,?_,?_,?_⟩<;>simp [aQ,d,az,aF,bH.row]
theorem GZ{s:bH}(h:s.OK):Km.Pure tab.get Hq [s.v]=Eq (vb true):=Km.Pure.eq (by
 have O:=h.ml;have wf:=vR s.rg h.ru h.rl;have Y:=dW s.mi 0 1439 h.mi;have Z:=dW s.le 1 10080 h.le;have w3:=dW s.c5 0 2 h.c5;have w4:=dW s.fold 0 2 h.fold;have hz:=h.zo;have w5:=dW s.zo.size 1 32 ⟨by omega,by omega⟩
 refine bK an6 rfl fun Q K=>?_
 refine ae ?_;simp;obtain⟨H,v⟩:∃ H:ai,H=[.box (s.row.map .f) 0]:=⟨_,rfl⟩;have b0:H[0]?=some (.box (s.row.map .f) 0):=by rw [v];rfl
 obtain⟨y,z,A,B,E,F,q,e7⟩:=ja b0;rw [←v];clear v;refine ag (ae ?_);simp [y,z,A,E,F,wf,Y,Z,w3,w4,-an];refine aY (by simp) ?_
 refine ag (ae ?_);simp [B,q,w5,-an,show¬ (64:Int)<s.mv.length by omega]
 refine aY (by simp) ?_
 refine ag (ae ?_);simp;refine bZ s.mv.length (fun j t J=>t.g 1=.c (.ptr 0 0 0)∧J=H) (by omega) (by decide) (by simp) ⟨by simp,rfl⟩ ?_ ?_ ?_
 ·rintro j t J L l ⟨b,rfl⟩ d S;simp [d,b,q,-an];exact S _ ⟨by simp [b],rfl⟩ (by simp [d]) (by simp)
 ·rintro j t J l ⟨b,rfl⟩ d W;have X:=qK (h.mo _ (IT l));have x:=fun i (hi:i<s.mv.length)=>Ab (H:=J) (g:=s.mg) hi (by omega)
  have m:∀ t:T,t.g 1=.c (.ptr 0 0 0)→t.g 3=vi j→t.g 76=vb false→WP tab.get Hq none [.code BW,.inBlock 1,.code BX,.inLoop BV,.inBlock 0,.code BZ] ⟨t,[],J⟩ Q:=by
   intro t b I u;refine ah u (aB (al ?_));exact W _ _ ⟨by simp [b],rfl⟩ (by simp [I])
  refine av (ae ?_);simp [b,q,-an,d,x j l,CV l,X];by_cases M:j=0
  ·simp [show¬ 0<j by omega]
   exact m _ (by simp [b]) (by simp [d]) (by simp)
  ·have U:IntKind.i64.wrap ((j:Int)-1)=((j-1:Nat):Int):=by rw [wrap64 (by omega) (by omega)];omega
   have N:s.mv[j-1].day<s.mv[j].day:=avX.1 h.ms (j-1) j (by omega) l (by omega)
   simp [show 0<j by omega,b,q,-an,d,x j l,Ae l,U,x (j-1) (by omega),Ae (show j-1<s.mv.length by omega),show¬ s.mv[j].day≤s.mv[j-1].day by omega]
   exact m _ (by simp [b]) (by simp [d]) (by simp)
 ·rintro t J ⟨b,rfl⟩ d;refine ae ?_;simp
  exact aA (K _ _ (by simp)))
end
section
theorem pz(l:List aK):(dS l).length=l.length:=by simp
def oF:List C:=[.f .ay,.f (fi 0),.f (fi 0),.f (.str ⟨#[]⟩),.f (fi 0),.f (fi 0),.f .ay]
structure bH.Eqv(a b:bH):Prop where
 ru:dS a.ru=dS b.ru
 mi:a.mi=b.mi
 le:a.le=b.le
 zo:a.zo=b.zo
 c5:a.c5=b.c5
 fold:a.fold=b.fold
 mv:a.mv=b.mv
set_option maxHeartbeats 1000000 in
theorem CE{s:bH}(hl:s.ru.length≤64)(j7:∀ x ∈ s.ru,x.d.li.length≤61)(n_:s.mv.length≤64):∃ s',bH.Eqv s' s∧Km.Pure tab.get Hs [s.v]=Eq s'.v:=by
 obtain⟨rr,⟨s',hs,rfl⟩,hp⟩:∃ rr,(∃ s',bH.Eqv s' s∧rr=s'.v)∧Km.Pure tab.get Hs [s.v] rr:=by
  refine ca an8 rfl fun Q hQ=>?_
  refine ae ?_;simp;obtain⟨H,hH⟩:∃ H:ai,H=[.box (s.row.map .f) 0,.box [.f .ay,.f (fi 0),.f (fi 0),.f (.str ⟨#[]⟩),.f (fi 0),.f (fi 0),.f .ay] 0]:=⟨_,rfl⟩;have b0:H[0]?=some (.box (s.row.map .f) 0):=by rw [hH];rfl
  have b1:H[1]?=some (.box oF 0):=by rw [hH];rfl
  rw [←hH];clear hH;refine ae ?_;simp;refine ag (ae ?_);simp
  refine bZ s.ru.length (fun i t J=>∃ cn l,t.g 1=.c (.ptr 0 0 0)∧t.g 2=.c (.ptr 1 0 0)∧t.g 3=.c cn∧NL J cn l∧(l.map (·.1))=s.ru.take i∧J[0]?=some (.box (s.row.map .f) 0)∧J[1]?=some (.box oF 0)) (by omega) (by decide) (by simp)
   ⟨.f .es,[],by simp,by simp,by simp,NL.nil _,by simp,b0,b1⟩ ?_ ?_ ?_
  ·rintro i t J L hi ⟨cn,l,B,M,N,hN,hl,b0,b1⟩ F Y;obtain⟨e0,-⟩:=ja b0;simp [F,B,e0,-an];exact Y _ ⟨cn,l,by simp [B],by simp [M],by simp [N],hN,hl,b0,b1⟩ (by simp [F]) (by simp)
  ·rintro i t J hi ⟨cn,l,B,M,N,hN,a8,b0,b1⟩ F nx;obtain⟨e0,-⟩:=ja b0;obtain⟨x,hx⟩:∃ x,x=s.ru[i]:=⟨_,rfl⟩;have o4:x.d.li.length≤61:=by rw [hx];exact j7 _ (IT hi)
   have n9:l.length=i:=by have:=congrArg List.length a8;simp at this;omega
   refine av (ae ?_);simp [B,e0,-an,F,eo hi hl,kV hi,←hx,aK.row];obtain⟨Z,S⟩:∃ Z:ai,Z=J++[.box (x.row.map .f) 0]:=⟨_,rfl⟩;have kx:Z[J.length]?=some (.box (x.row.map .f) 0):=by rw [S];simp
   have k0:Z[0]?=some (.box (s.row.map .f) 0):=by rw [S,AT (ak b0)];exact b0
   have k1:Z[1]?=some (.box oF 0):=by rw [S,AT (ak b1)];exact b1
   have kN:NL Z cn l:=by rw [S];exact hN.push _
   have kl:Z.length=J.length+1:=by rw [S];simp
   have d7:=ak b1;simp only [aK.row,anc,avO]at S;rw [←S];clear S;obtain⟨p,hp⟩:∃ p,p=J.length:=⟨_,rfl⟩;rw [←hp]at kx kl d7 ⊢;refine ae ?_;simp;refine ag (ae ?_);simp
   refine bZ x.d.li.length (fun j t K=>∃ c,t.g 1=.c (.ptr 0 0 0)∧t.g 2=.c (.ptr 1 0 0)∧t.g 3=.c cn∧t.g 4=vi i∧t.g 5=.c (.ptr p 0 0)∧t.g 6=.c c∧LR K c 1 (ints (x.d.li.take j))∧Kb Z K (.f .es)∧(∀ b,aL c=some b→Z.length≤b)) (by omega) (by decide) (by simp)
    ⟨.f .es,by simp [B],by simp [M],by simp [N],by simp [F],by simp,by simp,.inl ⟨rfl,.inr rfl⟩,Kb.refl _ _,by simp [aL]⟩ ?_ ?_ ?_
   ·rintro j t K L hj ⟨c,B,M,N,g4,g5,g6,A,d,q⟩ F Y
    have e6:aQ K none (.c (.ptr p 6 0))=some (.c (.f (sl x.tg (ints x.d.li)))):=by
     have:=d.2 p _ kx (by simp [aL])
     simp [aQ,this,az,aF,aK.row]
    simp [F,g5,e6,-an];exact Y _ ⟨c,by simp [B],by simp [M],by simp [N],by simp [g4],by simp [g5],by simp [g6],A,d,q⟩ (by simp [F]) (by simp)
   ·rintro j t K hj ⟨c,B,M,N,g4,g5,g6,A,d,q⟩ F n4
    have e6:aQ K none (.c (.ptr p 6 0))=some (.c (.f (sl x.tg (ints x.d.li)))):=by
     have:=d.2 p _ kx (by simp [aL])
     simp [aQ,this,az,aF,aK.row]
    have j4:∀ H,aG H 1 none (.c (.f (sl x.tg (ints x.d.li)))) (vi j)=some (.c (.f (.fp (ints x.d.li).flatten j))):=fun H=>by
     have:=cT (H:=H) (g:=x.tg) (rows:=ints x.d.li) (sz:=1) (k:=.i64) (i:=(j:Int)) (by omega) (by simp;omega)
     simpa using this
    obtain⟨v,hv⟩:∃ v,v=x.d.li[j]:=⟨_,rfl⟩;have j8:aQ K none (.c (.f (.fp (ints x.d.li).flatten j)))=some (vi v):=by rw [hv];exact fQ hj
    obtain⟨K1,z⟩:∃ K1:ai,K1=K++[.box ([fi v].map .f) 0]:=⟨_,rfl⟩;have c9:LR K1 c 1 (ints (x.d.li.take j)):=by rw [z];exact A.push _
    have c_:K1[K.length]?=some (.box ([fi v].map .f) 0):=by rw [z];simp
    obtain⟨c',H',U,b_,O,a_⟩:=c9.app (eB _) (by decide) (row:=[fi v]) rfl (bytes:=8) (cd (by simp;omega) (by decide)) c_
    simp only [anc,avO]at z;refine av (ab (.inl rfl) ?_);simp [g5,g6,e6,-an,F,j4,j8];rw [←z];simp [U]
    have h1:Kb Z K1 (.f .es):=by
     refine⟨by have:=d.1;rw [z];simp;omega,fun i y u Y=>?_⟩
     rw [z,AT (ak (d.2 i y u Y))];exact d.2 i y u Y
    refine al ?_;refine n4 _ _ ⟨c',by simp [B],by simp [M],by simp [N],by simp [g4],by simp [g5],by simp,?_,?_,?_⟩ (by simp [F])
    ·rw [avN hj,←hv];have e:ints (x.d.li.take j++[v])=ints (x.d.li.take j)++[[fi v]]:=by simp [ints]
     rw [e];exact b_
    ·refine⟨avV h1.1 O.1,fun i y u Y=>O.2 i y (h1.2 i y u Y) fun e=>?_⟩
     have:=q i e;have:=ak u;omega
    ·intro b hb;rcases a_ with e | e
     ·exact q b (by rw [←e];exact hb)
     ·rw [hb]at e;cases e;exact h1.1
   ·rintro t K ⟨c,B,M,N,g4,g5,g6,A,d,q⟩ F;rw [awc]at A;have kp:=d.2 p _ kx (by simp [aL])
    have j_:df K (.ptr p 6 0) [c]=some (K.set p (.box (x.dR c) 0)):=by
     simp [df,kp,aK.row,aK.dR,over]
    have j9:aL c≠some p:=fun e=>by have:=q p e;omega
    obtain⟨W,I⟩:∃ W:ai,W=K.set p (.box (x.dR c) 0):=⟨_,rfl⟩;have m4:W[p]?=some (.box (x.dR c) 0):=by rw [I];exact OF (ak kp)
    have d9:∀(i:Nat) (y:cU),Z[i]?=some y→i≠p→W[i]?=some y:=fun i y u hi=>by
     rw [I,By (Ne.symm hi)];exact d.2 i y u (by simp [aL])
    have l_:NL W cn l:=kN.bN fun i y u hb=>d9 i y u (by rintro rfl;rw [kx]at u;cases u;exact hb _ _ rfl)
    have l9:LR W c 1 (ints x.d.li):=by rw [I];exact A.set j9 _
    have e8:aQ W (some 8) (.c (.ptr p 0 0))=some (.a (x.dR c)):=by simp [aQ,m4,az,aF,aK.dR]
    refine ae ?_;simp [g6,g5,j_,-ba];rw [←I];obtain⟨X,E⟩:∃ X:ai,X=W++[.box (x.dR c) 0]:=⟨_,rfl⟩;have d5:NL X cn l:=by rw [E];exact l_.push _
    have m7:LR X c 1 (ints x.d.li):=by rw [E];exact l9.push _
    have m9:X[W.length]?=some (.box (x.dR c) 0):=by rw [E];simp
    have b7:∀(i:Nat) (y:cU),Z[i]?=some y→i≠p→X[i]?=some y:=fun i y u hi=>by
     have:=d9 i y u hi;rw [E,AT (ak this)];exact this
    obtain⟨e_,H',U,h_,O,a_⟩:=d5.app (by omega) m7 m9
    have j3:(x.dR c).length=8:=rfl;refine ab (.inl rfl) ?_;simp [N,g5,e8,-an,j3];rw [←E];simp [U];refine al ?_;refine nx _ _ ⟨e_,l++[(x,c)],by simp [B],by simp [M],by simp,h_,?_,?_,?_⟩ (by simp [g4])
    ·rw [List.map_append,a8,avN hi,←hx];rfl
    ·exact O.2 0 _ (b7 0 _ k0 (by omega)) (d5.cB (b7 0 _ k0 (by omega)))
    ·exact O.2 1 _ (b7 1 _ k1 (by omega)) (d5.cB (b7 1 _ k1 (by omega)))
  ·rintro t J ⟨cn,l,B,M,N,hN,a8,b0,b1⟩ F;rw [awc]at a8;refine ae ?_;simp;refine ag (ae ?_);simp
   refine bZ s.mv.length (fun j t K=>∃ c,t.g 1=.c (.ptr 0 0 0)∧t.g 2=.c (.ptr 1 0 0)∧t.g 3=.c cn∧t.g 8=.c c∧LR K c 5 (aV (s.mv.take j))∧Kb J K (.f .es)∧(∀ b,aL c=some b→J.length≤b)) (by omega) (by decide) (by simp)
    ⟨.f .es,by simp [B],by simp [M],by simp [N],by simp,.inl ⟨rfl,.inr rfl⟩,Kb.refl _ _,by simp [aL]⟩ ?_ ?_ ?_
   ·rintro j t K L hj ⟨c,B,M,N,g8,A,d,q⟩ F Y;obtain⟨-,-,-,-,-,-,e6,-⟩:=ja (d.2 0 _ b0 (by simp [aL]))
    simp [F,B,e6,-an];exact Y _ ⟨c,by simp [B],by simp [M],by simp [N],by simp [g8],A,d,q⟩ (by simp [F]) (by simp)
   ·rintro j t K hj ⟨c,B,M,N,g8,A,d,q⟩ F nx;obtain⟨-,-,-,-,-,-,e6,-⟩:=ja (d.2 0 _ b0 (by simp [aL]))
    obtain⟨m,hm⟩:∃ m,m=s.mv[j]:=⟨_,rfl⟩;obtain⟨K1,z⟩:∃ K1:ai,K1=K++[.box (m.row.map .f) 0]:=⟨_,rfl⟩;have c9:LR K1 c 5 (aV (s.mv.take j)):=by rw [z];exact A.push _
    have c_:K1[K.length]?=some (.box (m.row.map .f) 0):=by rw [z];simp
    obtain⟨c',H',U,b_,O,a_⟩:=c9.app (cX _) (by decide) (row:=m.row) rfl (bytes:=40) (cd (by simp;omega) (by decide)) c_
    simp only [bj.row,anc,avO]at z;refine av (ab (.inl rfl) ?_);simp [B,g8,e6,-an,F,Ab hj (by omega),CV hj,←hm,bj.row]
    rw [←z];simp [U]
    have h1:Kb J K1 (.f .es):=by
     refine⟨by have:=d.1;rw [z];simp;omega,fun i y u Y=>?_⟩
     rw [z,AT (ak (d.2 i y u Y))];exact d.2 i y u Y
    refine al ?_;refine nx _ _ ⟨c',by simp [B],by simp [M],by simp [N],by simp,?_,?_,?_⟩ (by simp [F])
    ·rw [avN hj,←hm];have e:aV (s.mv.take j++[m])=aV (s.mv.take j)++[m.row]:=by simp [aV]
     rw [e];exact b_
    ·refine⟨avV h1.1 O.1,fun i y u Y=>O.2 i y (h1.2 i y u Y) fun e=>?_⟩
     have:=q i e;have:=ak u;omega
    ·intro b hb;rcases a_ with e | e
     ·exact q b (by rw [←e];exact hb)
     ·rw [hb]at e;cases e;exact h1.1
   ·rintro t K ⟨c,B,M,N,g8,A,d,q⟩ F;rw [awc]at A;have k0:=d.2 0 _ b0 (by simp [aL])
    have k1:=d.2 1 _ b1 (by simp [aL])
    have d7:=ak b1
    have n5:df K (.ptr 0 0 0) [cn]=some (K.set 0 (.box [cn,cI s.mi,cI s.le,.f (.str s.zo),cI s.c5,cI s.fold,.f (sl s.mg (aV s.mv))] 0)):=by
     simp [df,k0,bH.row,over]
    obtain⟨W,I⟩:∃ W:ai,W=K.set 0 (.box [cn,cI s.mi,cI s.le,.f (.str s.zo),cI s.c5,cI s.fold,.f (sl s.mg (aV s.mv))] 0):=⟨_,rfl⟩;have d8:W[0]?=some (.box [cn,cI s.mi,cI s.le,.f (.str s.zo),cI s.c5,cI s.fold,.f (sl s.mg (aV s.mv))] 0):=by rw [I];exact OF (ak k0)
    have n6:df W (.ptr 0 6 0) [c]=some (W.set 0 (.box [cn,cI s.mi,cI s.le,.f (.str s.zo),cI s.c5,cI s.fold,c] 0)):=by
     simp [df,d8,over]
    obtain⟨X,E⟩:∃ X:ai,X=W.set 0 (.box [cn,cI s.mi,cI s.le,.f (.str s.zo),cI s.c5,cI s.fold,c] 0):=⟨_,rfl⟩;have m5:X[0]?=some (.box [cn,cI s.mi,cI s.le,.f (.str s.zo),cI s.c5,cI s.fold,c] 0):=by rw [E];exact OF (ak d8)
    have d_:X[1]?=some (.box oF 0):=by rw [E,By (by decide),I,By (by decide)];exact k1
    have e7:aQ X (some 7) (.c (.ptr 0 0 0))=some (.a [cn,cI s.mi,cI s.le,.f (.str s.zo),cI s.c5,cI s.fold,c]):=by simp [aQ,m5,az,aF]
    have n7:df X (.ptr 1 0 0) [cn,cI s.mi,cI s.le,.f (.str s.zo),cI s.c5,cI s.fold,c]=some (X.set 1 (.box [cn,cI s.mi,cI s.le,.f (.str s.zo),cI s.c5,cI s.fold,c] 0)):=by
     simp [df,d_,over,oF]
    obtain⟨K4,b9⟩:∃ K4:ai,K4=X.set 1 (.box [cn,cI s.mi,cI s.le,.f (.str s.zo),cI s.c5,cI s.fold,c] 0):=⟨_,rfl⟩;have m_:K4[1]?=some (.box [cn,cI s.mi,cI s.le,.f (.str s.zo),cI s.c5,cI s.fold,c] 0):=by rw [b9];exact OF (ak d_)
    have up:∀(i:Nat) (y:cU),K[i]?=some y→i≠0→i≠1→K4[i]?=some y:=fun i y u h0 h1=>by
     rw [b9,By (Ne.symm h1),E,By (Ne.symm h0),I,By (Ne.symm h0)];exact u
    have i_:NL K4 cn l:=hN.bN fun i y u hb=>up i y (d.2 i y u (by simp [aL])) (by rintro rfl;rw [b0]at u;cases u;exact hb _ _ rfl) (by rintro rfl;rw [b1]at u;cases u;exact hb _ _ rfl)
    have g_:LR K4 c 5 (aV s.mv):=A.bN fun i y u hi=>up i y u (by rintro rfl;have:=q 0 hi;omega) (by rintro rfl;have:=q 1 hi;omega)
    obtain⟨g',l',hd,k_⟩:=i_.ex 62;obtain⟨d6,l7⟩:=g_.ex (cX _) 63;refine ae ?_;simp [B,N,n5,-ba];rw [←I];refine ae ?_;simp [B,g8,n6,-ba];rw [←E];refine ae ?_;simp [B,M,e7,n7,-ba,-an];rw [←b9];have f_:aQ K4 (some 7) (.c (.ptr 1 0 0))=some (.a [cn,cI s.mi,cI s.le,.f (.str s.zo),cI s.c5,cI s.fold,c]):=by simp [aQ,m_,az,aF]
    refine aA (hQ _ _ _ ⟨⟨g',l',s.mi,s.le,s.zo,s.c5,s.fold,d6,s.mv⟩,⟨?_,rfl,rfl,rfl,rfl,rfl,rfl⟩,rfl⟩ ⟨rfl,.a [cn,cI s.mi,cI s.le,.f (.str s.zo),cI s.c5,cI s.fold,c],?_,?_⟩)
    ·show dS l'=dS s.ru
     rw [hd,←a8];simp
    ·simp [Km.results,bG,aU,M,f_,-an]
    ·have d1:cW deep K4 cn=some (sl g' (aE l')):=k_;have d2:cW deep K4 c=some (sl d6 (aV s.mv)):=l7;simp [iN,bX,aU,d1,d2,bH.row]
 exact⟨s',hs,hp.eq⟩
end
section
def bH.dR(s:bH)(c:C):List C:=[.f (sl s.rg (aE s.ru)),cI s.mi,cI s.le,.f (.str s.zo),cI s.c5,cI s.fold,c]
structure OvI(s q:bH)(m:bj)(J:ai)(acc:List bj)(c:C):Prop where
 b0:J[0]?=some (.box (s.row.map .f) 0)
 b1:J[1]?=some (.box (m.row.map .f) 0)
 b2:J[2]?=some (.box oF 0)
 b3:J[3]?=some (.box (q.dR c) 0)
 lr:LR J c 5 (aV acc)
 cb:∀ b,aL c=some b→4≤b
theorem wC(l:List bj)(x:bj):aV (l++[x])=aV l++[x.row]:=by simp [aV]
theorem OvI.app{s q:bH}{m:bj}{J:ai}{d:List bj}{c:C}(h:OvI s q m J d c)(O:d.length≤1000)(x:bj) :
  ∃ j l u,bz (J++[.box (x.row.map .f) 0]) 5 40 (.c c) (.c (.sl J.length 0 1 1 0 5))=some (.c j,l)∧df l (.ptr 3 6 0) [j]=some u∧OvI s q m u (d++[x]) j:=by
 obtain⟨K,z⟩:∃ K:ai,K=J++[.box (x.row.map .f) 0]:=⟨_,rfl⟩;have up:∀ {i:Nat} {y:cU},J[i]?=some y→K[i]?=some y:=fun {i y} hy=>by rw [z,AT (ak hy)];exact hy
 have N:LR K c 5 (aV d):=by rw [z];exact h.lr.push _
 have B:K[J.length]?=some (.box (x.row.map .f) 0):=by rw [z];simp
 have L:=ak h.b3;have M:K.length=J.length+1:=by rw [z];simp
 obtain⟨j,l,A,F,g,H⟩:=N.app (cX _) (by decide) (row:=x.row) rfl (bytes:=40) (cd (by simp;omega) (by decide)) B
 have E:∀ i,i<4→aL c≠some i:=fun i hi e=>by have:=h.cb i e;omega
 have v:∀ b,aL j=some b→4≤b:=fun b B=>by
  rcases H with e | e
  ·exact h.cb b (by rw [←e];exact B)
  ·rw [B]at e;cases e;omega
 have I:=g.2 3 _ (up h.b3) (E 3 (by decide))
 refine⟨j,l,l.set 3 (.box (q.dR j) 0),by rw [←z];exact A,by simp [df,I,bH.dR,over],⟨?_,?_,?_,?_,?_,v⟩⟩
 ·rw [By (by decide)];exact g.2 0 _ (up h.b0) (E 0 (by decide))
 ·rw [By (by decide)];exact g.2 1 _ (up h.b1) (E 1 (by decide))
 ·rw [By (by decide)];exact g.2 2 _ (up h.b2) (E 2 (by decide))
 ·exact OF (ak I)
 ·rw [wC];exact F.set (fun e=>by have:=v 3 e;omega) _
theorem OvI.lds{s q:bH}{m:bj}{J:ai}{b:List bj}{c:C}(h:OvI s q m J b c) :
  aQ J none (.c (.ptr 3 6 0))=some (.c c)∧aQ J none (.c (.ptr 0 6 0))=some (.c (.f (sl s.mg (aV s.mv))))∧aQ J none (.c (.ptr 1 0 0))=some (vi m.day)∧aQ J (some 5) (.c (.ptr 1 0 0))=some (.a (m.row.map .f)):=by
 have g:=h.b0;have d:=h.b1;have j:=h.b3;refine⟨?_,?_,?_,?_⟩
 ·simp [aQ,j,az,aF,bH.dR]
 ·simp [aQ,g,az,aF,bH.row]
 ·simp [aQ,d,az,aF,bj.row]
 ·simp [aQ,d,az,aF,bj.row]
theorem ov{b:Type}(p:b→Bool)(l:List b):(l.filter p).length≤l.length:=List.length_filter_le p l
set_option maxHeartbeats 1000000 in
theorem wH{s:bH}(h:s.OK)(d8:s.mv.length≤60){m:bj}(hm:m.OK) :
  ∃ q,bH.Eqv q ⟨s.rg,s.ru,s.mi,s.le,s.zo,s.c5,s.fold,s.mg,Gu s.mv m⟩∧Km.Pure tab.get Ho [s.v,.a (m.row.map .f)]=Eq (.t [q.v,vi 0]):=by
 have a_:=GZ h;have g_:=qK hm
 obtain⟨q,hq,a8⟩:=CE (s:=s) h.rl (fun x Y=>by
  obtain⟨i,hi,rfl⟩:=avT Y;have:=(h.ru.at_ i (by simpa using hi)).ok.1
  simpa using this) h.ml
 obtain⟨rr,⟨q',e_,rfl⟩,hp⟩:∃ rr,(∃ q',bH.Eqv q' ⟨s.rg,s.ru,s.mi,s.le,s.zo,s.c5,s.fold,s.mg,Gu s.mv m⟩∧rr=.t [q'.v,vi 0])∧Km.Pure tab.get Ho [s.v,.a (m.row.map .f)] rr:=by
  refine ca an4 rfl fun Q hQ=>?_
  refine ae ?_;simp;obtain⟨H,hH⟩:∃ H:ai,H=[.box (s.row.map .f) 0,.box (m.row.map .f) 0,.box oF 0]:=⟨_,rfl⟩;have b0:H[0]?=some (.box (s.row.map .f) 0):=by rw [hH];rfl
  have b1:H[1]?=some (.box (m.row.map .f) 0):=by rw [hH];rfl
  have b2:H[2]?=some (.box oF 0):=by rw [hH];rfl
  have hl:H.length=3:=by rw [hH];rfl
  simp only [oF]at hH;rw [←hH];clear hH;obtain⟨-,-,-,-,-,-,-,e7⟩:=ja b0;have e5:aQ H (some 5) (.c (.ptr 1 0 0))=some (.a (m.row.map .f)):=by simp [aQ,b1,az,aF,bj.row]
  refine ag (ae ?_);simp [e7,e5,-an,a_,g_];refine aY (by simp) ?_
  refine ae ?_;have f_:q.row.length=7:=rfl;simp [e7,-an,a8,f_,hl];obtain⟨K,hK⟩:∃ K:ai,K=H++[.box (q.row.map .f) 0]:=⟨_,rfl⟩;have up:∀ {i:Nat} {y:cU},H[i]?=some y→K[i]?=some y:=fun {i y} hy=>by rw [hK,AT (ak hy)];exact hy
  have k3:K[3]?=some (.box (q.row.map .f) 0):=by rw [hK,avM (by omega),hl];rfl
  rw [←hK];have b_:df K (.ptr 3 6 0) [.f .ay]=some (K.set 3 (.box (q.dR (.f .ay)) 0)):=by simp [df,k3,bH.row,bH.dR,over]
  have hO:OvI s q m (K.set 3 (.box (q.dR (.f .ay)) 0)) [] (.f .ay):=⟨by rw [By (by decide)];exact up b0,by rw [By (by decide)];exact up b1,by rw [By (by decide)];exact up b2,OF (ak k3),.inl ⟨rfl,.inl rfl⟩,fun b hb=>by simp [aL]at hb⟩
  obtain⟨J0,c_⟩:∃ J0:ai,J0=K.set 3 (.box (q.dR (.f .ay)) 0):=⟨_,rfl⟩;rw [←c_]at hO b_;clear c_ k3 hK up a8 a_ e7 e5 b0 b1 b2 hl;refine ae ?_;simp [b_,-ba];clear b_;refine ag (ae ?_);simp;have ix:=fun(H:ai) i (hi:i<s.mv.length)=>Ab (H:=H) (g:=s.mg) hi (by omega)
  refine bZ s.mv.length (fun j t J=>∃ c,t.g 2=.c (.ptr 0 0 0)∧t.g 3=.c (.ptr 1 0 0)∧t.g 4=.c (.ptr 2 0 0)∧t.g 6=.c (.ptr 3 0 0)∧OvI s q m J ((s.mv.take j).filter fun x=>decide (x.day<m.day)) c) (by omega) (by decide) (by simp)
   ⟨.f .ay,by simp,by simp,by simp,by simp,by simpa using hO⟩ ?_ ?_ ?_
  ·rintro j t J L M ⟨c,v,E,F,z,d⟩ A hn;obtain⟨X,W,l3,l4⟩:=d.lds;simp [A,v,W,-an];exact hn _ ⟨c,by simp [v],by simp [E],by simp [F],by simp [z],d⟩ (by simp [A]) (by simp)
  ·rintro j t J M ⟨c,v,E,F,z,d⟩ A nx;obtain⟨X,W,l3,l4⟩:=d.lds;have U:((s.mv.take j).filter fun x=>decide (x.day<m.day)).length≤1000:=avV (ov _ _) (by simp;omega)
   obtain⟨x,Y⟩:∃ x,x=s.mv[j]:=⟨_,rfl⟩;have S:=CV (H:=J) M;have B:=Ae (H:=J) M;rw [←Y]at S B
   have u:(s.mv.take (j+1)).filter (fun x=>decide (x.day<m.day))=(s.mv.take j).filter (fun x=>decide (x.day<m.day))++if x.day<m.day then [x]else []:=by
    rw [avN M,←Y,List.filter_append]
    congr 1
    by_cases I:x.day<m.day<;>simp [I]
   refine av (ae ?_);simp [v,E,W,l3,-an,A,ix _ j M,B];by_cases I:x.day<m.day
   ·rw [if_pos I]at u;obtain⟨c',H',c9,l,N,O⟩:=d.app U x;simp only [bj.row,anc,avO]at l;refine aj (by simp [I]) (ab (.inl rfl) ?_)
    simp [v,z,X,W,-an,A,ix _ j M,S,bj.row,l,N,-ba];refine al ?_;refine nx _ _ ⟨c',by simp [v],by simp [E],by simp [F],by simp [z],by rw [u];exact O⟩ (by simp [A])
   ·rw [if_neg I,awE]at u;refine ah (by simp [I]) (aB (al ?_))
    refine nx _ _ ⟨c,by simp [v],by simp [E],by simp [F],by simp [z],by rw [u];exact d⟩ (by simp [A])
  ·rintro t J ⟨c,v,E,F,z,d⟩ A;rw [awc]at d;obtain⟨Z,b7⟩:∃ Z,Z=s.mv.filter fun x=>decide (x.day<m.day):=⟨_,rfl⟩
   rw [←b7]at d;have j3:Z.length≤60:=by rw [b7];exact avV (ov _ _) d8
   obtain⟨X,W,l3,l4⟩:=d.lds;obtain⟨c',H',c9,l,N,O⟩:=d.app (by omega) m
   have d9:(m.row.map C.f).length=5:=rfl;refine ae ?_;simp [E,z,X,l4,-an,d9,l,N,-ba];clear X W l3 l4 l N d;refine ag (ae ?_);simp
   refine bZ s.mv.length (fun j t J=>∃ c,t.g 2=.c (.ptr 0 0 0)∧t.g 3=.c (.ptr 1 0 0)∧t.g 4=.c (.ptr 2 0 0)∧t.g 6=.c (.ptr 3 0 0)∧OvI s q m J (Z++[m]++(s.mv.take j).filter fun x=>decide (m.day<x.day)) c) (by omega) (by decide) (by simp)
    ⟨c',by simp [v],by simp [E],by simp [F],by simp [z],by simpa using O⟩ ?_ ?_ ?_
   ·rintro j t J L M ⟨c,v,E,F,z,d⟩ A hn;obtain⟨X,W,l3,l4⟩:=d.lds;simp [A,v,W,-an];exact hn _ ⟨c,by simp [v],by simp [E],by simp [F],by simp [z],d⟩ (by simp [A]) (by simp)
   ·rintro j t J M ⟨c,v,E,F,z,d⟩ A nx;obtain⟨X,W,l3,l4⟩:=d.lds
    have U:(Z++[m]++(s.mv.take j).filter fun x=>decide (m.day<x.day)).length≤1000:=by
     have:=ov (fun x:bj=>decide (m.day<x.day)) (s.mv.take j)
     have:(s.mv.take j).length≤60:=by simp;omega
     simp only [avR,awH];omega
    obtain⟨x,Y⟩:∃ x,x=s.mv[j]:=⟨_,rfl⟩;have S:=CV (H:=J) M;have B:=Ae (H:=J) M;rw [←Y]at S B
    have u:Z++[m]++(s.mv.take (j+1)).filter (fun x=>decide (m.day<x.day))=Z++[m]++(s.mv.take j).filter (fun x=>decide (m.day<x.day))++if m.day<x.day then [x]else []:=by
     rw [avN M,←Y,List.filter_append,←awh]
     congr 1
     by_cases I:m.day<x.day<;>simp [I]
    refine av (ae ?_);simp [v,E,W,l3,-an,A,ix _ j M,B];by_cases I:m.day<x.day
    ·rw [if_pos I]at u;obtain⟨c',H',c9,l,N,O⟩:=d.app U x;simp only [bj.row,anc,avO]at l;refine aj (by simp [I]) (ab (.inl rfl) ?_)
     simp [v,z,X,W,-an,A,ix _ j M,S,bj.row,l,N,-ba];refine al ?_;refine nx _ _ ⟨c',by simp [v],by simp [E],by simp [F],by simp [z],by rw [u];exact O⟩ (by simp [A])
    ·rw [if_neg I,awE]at u;refine ah (by simp [I]) (aB (al ?_))
     refine nx _ _ ⟨c,by simp [v],by simp [E],by simp [F],by simp [z],by rw [u];exact d⟩ (by simp [A])
   ·rintro t J ⟨c,v,E,F,z,d⟩ A;rw [awc]at d;have d_:Z++[m]++s.mv.filter (fun x=>decide (m.day<x.day))=Gu s.mv m:=by rw [b7];simp [Gu]
    rw [d_]at d;have j4:=Ik (m:=m) h.ms;obtain⟨X,-,-,-⟩:=d.lds
    have e3:aQ J (some 7) (.c (.ptr 3 0 0))=some (.a (q.dR c)):=by
     have:=d.b3;simp [aQ,this,az,aF,bH.dR]
    have d5:=d.b2;have i_:df J (.ptr 2 0 0) (q.dR c)=some (J.set 2 (.box (q.dR c) 0)):=by simp [df,d5,oF,over,bH.dR]
    have d7:=d.lr.len;have d6:(q.dR c).length=7:=rfl;refine ag (ae ?_);simp [z,X,-an,d7,show¬ (64:Int)<(Gu s.mv m).length by omega]
    refine aY (by simp) ?_
    refine ae ?_;simp [z,F,e3,i_,-an,-ba,d6];obtain⟨Jf,b9⟩:∃ Jf:ai,Jf=J.set 2 (.box (q.dR c) 0):=⟨_,rfl⟩;rw [←b9];have hL:LR Jf c 5 (aV (Gu s.mv m)):=by rw [b9];exact d.lr.set (fun e=>by have:=d.cb 2 e;omega) _
    obtain⟨g',Y⟩:=hL.ex (cX _) 63;have h_:cW deep Jf c=some (sl g' (aV (Gu s.mv m))):=Y
    have e2:aQ Jf (some 7) (.c (.ptr 2 0 0))=some (.a (q.dR c)):=by
     have:Jf[2]?=some (.box (q.dR c) 0):=by rw [b9];exact OF (ak d5)
     simp [aQ,this,az,aF,bH.dR]
    refine aA (hQ _ _ _ ⟨⟨q.rg,q.ru,q.mi,q.le,q.zo,q.c5,q.fold,g',Gu s.mv m⟩,⟨hq.ru,hq.mi,hq.le,hq.zo,hq.c5,hq.fold,rfl⟩,rfl⟩ ⟨rfl,.t [.a (q.dR c),vi 0],?_,?_⟩)
    ·simp [Km.results,bG,aU,F,e2,-an]
    ·simp [iN,bX,aU,h_,bH.row,bH.dR]
 exact⟨q',e_,hp.eq⟩
end
section
inductive dT:List bD→List bD→Prop
 | nil:dT [] []
 | step {r o o' t}:dT r o→ZM t o o'→dT (r++[t]) o'
def TLe(a b:bD):Prop:=a.at_≤b.at_
def TLt(a b:bD):Prop:=a.at_<b.at_
theorem ZM.perm{t:bD}{l o:List bD}(h:ZM t l o):o.Perm (l++[t]):=by
 obtain⟨A,B,rfl,rfl,-,-⟩:=h;exact List.perm_middle.trans (List.perm_append_singleton t (A++B)).symm
theorem dT.perm:∀ {r o:List bD},dT r o→o.Perm r
 | _,_,.nil=>List.Perm.refl _
 | _,_,.step h b=>b.perm.trans ((dT.perm h).append_right _)
theorem dT.len{r o:List bD}(h:dT r o):o.length=r.length:=h.perm.length_eq
theorem sT:∀ {a b:List bD},a.Pairwise TLt→b.Pairwise TLe→b.Perm a→b=a
 | [],b,_,_,h=>h.eq_nil
 | x::a,[],_,_,h=>by cases h.symm.eq_nil
 | x::a,y::b,d,g,h=>by
  rw [aws]at d g
  have l:y=x:=by
   have m:y ∈ x::a:=h.subset (avQ ..);have j:x ∈ y::b:=h.symm.subset (avQ ..);rcases awf.1 m with e | m
   ·exact e
   ·rcases awf.1 j with e | j
    ·exact e.symm
    ·have q:=d.1 y m;have s:=g.1 x j;unfold TLt at q;unfold TLe at s;omega
  subst l;rw [sT d.2 g.2 (h.cons_inv)]
def dv(o:List bD)(size:Int)(i:Nat):Int:=match o[i+1]? with
 | some y=>y.at_
 | none=>(match o[0]? with | some y=>y.at_ | none=>0)+size
def ky(o:List bD)(size:Int)(n:Nat):Bool:=(List.range n).all fun i=>match o[i]? with
 | some x=>decide (2160≤dv o size i-x.at_)
 | none=>true
def de(o:List bD)(size:Int):Bool:=ky o size o.length
theorem yY{o:List bD}{size:Int}(h:de o size=true):∀ i x y,o[i]?=some x→o[i+1]?=some y→x.at_+2160≤y.at_:=by
 intro i x y d g;unfold de ky at h;have b:=avP.1 h i (by have:=(BY.1 d).1;simpa using this)
 simp only [d,dv,g]at b;have:=of_decide_eq_true b;omega
theorem nH:∀ {o:List bD},(∀ i x y,o[i]?=some x→o[i+1]?=some y→x.at_+2160≤y.at_)→o.Pairwise TLt
 | [],_=>List.Pairwise.nil
 | [x],_=>awo _ _
 | x::y::l,h=>by
  have g:=nH (o:=y::l) fun i a b j m=>h (i+1) a b (by simpa using j) (by simpa using m)
  have q:x.at_+2160≤y.at_:=h 0 x y (by simp) (by simp)
  refine aws.2 ⟨fun z d=>?_,g⟩
  unfold TLt;rcases awf.1 d with rfl | d
  ·omega
  ·have:=(aws.1 g).1 z d;unfold TLt at this;omega
theorem jS{o:List bD}{size:Int}(h:de o size=true):o.Pairwise TLt:=nH (yY h)
def NW:Nat→Int
 | 0=>2
 | _=>5
def jj(c:Nat):Nat→Int
 | 0=>NW c
 | y+1=>jj c y+(sy c (y+1):Nat)
def nY:Nat→Nat
 | 0=>7
 | _=>14
def cyc(c:Nat):Int:=7*(ib c:Nat)
theorem zI{c:Nat}(b:c<3):jj c (nY c)=NW c+cyc c:=by
 have:c=0∨c=1∨c=2:=by omega
 rcases this with rfl | rfl | rfl<;>decide
theorem DU(c y:Nat):12≤sy c y:=by
 have b:=pQ c y 1;have d:=pQ c y 2;unfold sy;omega
theorem zJ(c:Nat){y b:Nat}(h:y<b):jj c y<jj c b:=by
 induction h with
 | refl=>have:=DU c (y+1);simp only [jj];omega
 | step _ d=>rename_i m _;have:=DU c (m+1);simp only [jj]at *;omega
theorem ur{c y:Nat}(g:c<3)(j:y≤nY c):2≤jj c y∧jj c y≤222:=by
 have d:jj c 0≤jj c y:=by
  rcases awk y with rfl | h
  ·exact awQ _
  ·exact Int.le_of_lt (zJ c h)
 have b:jj c y≤jj c (nY c):=by
  rcases Nat.lt_or_eq_of_le j with h | rfl
  ·exact Int.le_of_lt (zJ c h)
  ·exact awQ _
 rw [zI g]at b;have:c=0∨c=1∨c=2:=by omega
 rcases this with rfl | rfl | rfl<;>simp [jj,NW,cyc,ib]at d b<;>omega
def dP(c y:Nat)(r q:eg):List bD:=
 let b:=jj c (y-1)
 if gm (oO c y b r) (qN c y r) r.wk r.wd then [⟨jL (oO c y b r) (qN c y r) r.wk r.wd*1440+r.mi-q.off,r.off⟩]else []
def nO(c:Nat)(r q:eg):Nat→List bD
 | 0=>[]
 | n+1=>nO c r q n++(dP c (n+1) r q++dP c (n+1) q r)
theorem jd(c y:Nat)(r q:eg):(dP c y r q).length≤1:=by simp only [dP];split<;>simp
theorem jf(c:Nat)(r q:eg):∀ n,(nO c r q n).length≤2*n
 | 0=>by simp [nO]
 | n+1=>by
  have b:=jf c r q n;have d:=jd c (n+1) r q;have g:=jd c (n+1) q r;simp only [nO,avR];omega
end
section
structure ZD where
 c:Nat
 start:Int
 tg:Tg
 tr:List bD
 eA:Int
 yg:Tg
 yr:List eg
def ZD.row(z:ZD):List FC:=fI z.c++[fi z.start,sl z.tg (aJ z.tr),fi z.eA,sl z.yg (bO z.yr)]
abbrev ZD.v(z:ZD):V:=.a (z.row.map .f)
theorem ZD.tF{z:ZD}(hc:z.c<3):z.row.length=8:=by
 obtain⟨c,s,tg,tr,h,yg,yr⟩:=z;have:c=0∨c=1∨c=2:=by simp at hc;omega
 rcases this with rfl | rfl | rfl<;>rfl
section
variable{H:ai}{b:Nat}{z:ZD}{fl:Nat}
theorem aaR(h:H[b]?=some (.box (z.row.map .f) fl))(d:z.c<3):aQ H none (.c (.ptr b 4 0))=some (vi z.start):=by
 obtain⟨c,s,tg,j,g,l,yr⟩:=z;have:c=0∨c=1∨c=2:=by simp at d;omega
 rcases this with rfl | rfl | rfl<;>simp [aQ,h,az,ZD.row,fI,aF]
theorem fB(h:H[b]?=some (.box (z.row.map .f) fl))(d:z.c<3):aQ H none (.c (.ptr b 5 0))=some (.c (.f (sl z.tg (aJ z.tr)))):=by
 obtain⟨c,s,tg,j,g,l,yr⟩:=z;have:c=0∨c=1∨c=2:=by simp at d;omega
 rcases this with rfl | rfl | rfl<;>simp [aQ,h,az,ZD.row,fI,aF]
theorem kW(h:H[b]?=some (.box (z.row.map .f) fl))(d:z.c<3):aQ H none (.c (.ptr b 6 0))=some (vi z.eA):=by
 obtain⟨c,s,tg,j,g,l,yr⟩:=z;have:c=0∨c=1∨c=2:=by simp at d;omega
 rcases this with rfl | rfl | rfl<;>simp [aQ,h,az,ZD.row,fI,aF]
theorem gw(h:H[b]?=some (.box (z.row.map .f) fl))(d:z.c<3):aQ H none (.c (.ptr b 7 0))=some (.c (.f (sl z.yg (bO z.yr)))):=by
 obtain⟨c,s,tg,j,g,l,yr⟩:=z;have:c=0∨c=1∨c=2:=by simp at d;omega
 rcases this with rfl | rfl | rfl<;>simp [aQ,h,az,ZD.row,fI,aF]
theorem Ag(h:H[b]?=some (.box (z.row.map .f) fl))(d:z.c<3):aQ H none (.c (.ptr b 0 0))=some (vi (NW z.c)):=by
 obtain⟨c,s,tg,j,g,l,yr⟩:=z;have:c=0∨c=1∨c=2:=by simp at d;omega
 rcases this with rfl | rfl | rfl<;>simp [aQ,h,az,ZD.row,fI,aF,NW]
theorem jv(h:H[b]?=some (.box (z.row.map .f) fl))(d:z.c<3):aQ H (some 4) (.c (.ptr b 0 0))=some (jK z.c):=by
 obtain⟨c,s,tg,j,g,l,yr⟩:=z;have:c=0∨c=1∨c=2:=by simp at d;omega
 rcases this with rfl | rfl | rfl<;>simp [aQ,h,az,ZD.row,fI,aF]
theorem eC(h:H[b]?=some (.box (z.row.map .f) fl))(d:z.c<3):aQ H (some 8) (.c (.ptr b 0 0))=some z.v:=by
 obtain⟨c,s,tg,j,g,l,yr⟩:=z;have:c=0∨c=1∨c=2:=by simp at d;omega
 rcases this with rfl | rfl | rfl<;>simp [aQ,h,az,ZD.row,fI,aF]
end
def ZD.cyc(z:ZD):Int:=if z.yr.length=0 then 1 else Go.Proofs.YtmbjejcfadllnaaGreat.cyc z.c
theorem sI(z:ZD)(b:z.c<3):Km.Pure tab.get Hj [z.v]=Eq (vi z.cyc):=Km.Pure.eq (by
 refine bK anT rfl fun Q d=>?_
 refine ae ?_;simp;have g:([.box (z.row.map .f) 0]:ai)[0]?=some (.box (z.row.map .f) 0):=rfl;refine ag ?_;refine ae ?_;simp [gw g b,-an];by_cases h:z.yr=[]
 ·refine aj (by simp [h]) ?_
  refine ae ?_;simp;refine aA (d _ _ ?_);simp [ZD.cyc,h]
 ·refine aY (by simp [h]) ?_
  refine ae ?_;simp [jv g b,-an,NR b];refine ag ?_;refine ae ?_;have hr:bJ .rem (vi (ib z.c:Nat)) (vi 7)=some (vi (((ib z.c:Nat):Int) % 7)):=jR (by omega) (by omega)
  have l:ib z.c=13∨ib z.c=31:=by unfold ib;split<;>simp
  have j:IntKind.i64.wrap (7*((ib z.c:Nat):Int))=7*((ib z.c:Nat):Int):=wrap64 (by omega) (by omega)
  simp [hr];refine aj (by simp;omega) ?_
  refine ae ?_;simp [j];refine aA (d _ _ ?_)
  simp [ZD.cyc,h,cyc])
end
section
theorem zR{c y:Nat}{b:Int}{x:eg}(j:0≤b)(d:b≤260)(m:x.OK):-10≤jL (oO c y b x) (qN c y x) x.wk x.wd∧jL (oO c y b x) (qN c y x) x.wk x.wd≤300:=by
 have q:=fq c y 1;have s:=fq c y x.mo.toNat;have u:=pQ c y x.mo.toNat;have l:qN c y x=(jN c y x.mo.toNat:Nat):=rfl;have g:b≤oO c y b x∧oO c y b x≤b+9:=by unfold oO;split<;>omega
 unfold jL;split<;>omega
structure zB(fl:List FC)(s:FC)(k m:Nat)(r q:eg):Prop where
 i:∀ H:ai,aG H 5 none (.c (.f s)) (vi k)=some (.c (.f (.fp fl (k*5))))
 i':∀ H:ai,aG H 5 none (.c (.f s)) (vi m)=some (.c (.f (.fp fl (m*5))))
 row:∀ H:ai,aQ H (some 5) (.c (.f (.fp fl (k*5))))=some (.a (r.row.map .f))
 mi:∀ H:ai,aQ H none (.c (.f (.fp fl (k*5+3))))=some (vi r.mi)
 of:∀ H:ai,aQ H none (.c (.f (.fp fl (k*5+4))))=some (vi r.off)
 of':∀ H:ai,aQ H none (.c (.f (.fp fl (m*5+4))))=some (vi q.off)
theorem aiv(g:Tg)(r q:eg):zB (bO [r,q]).flatten (sl g (bO [r,q])) 0 1 r q:=
 ⟨fun _=>rfl,fun _=>rfl,fun _=>rfl,fun _=>rfl,fun _=>rfl,fun _=>rfl⟩
theorem aiw(g:Tg)(r q:eg):zB (bO [r,q]).flatten (sl g (bO [r,q])) 1 0 q r:=
 ⟨fun _=>rfl,fun _=>rfl,fun _=>rfl,fun _=>rfl,fun _=>rfl,fun _=>rfl⟩
theorem yE(c:Nat):nY c≤14:=by unfold nY;split<;>omega
theorem II{z:ZD}(E:z.c<3){fl:List FC}{k m y:Nat}{r q:eg}(j:zB fl (sl z.yg (bO z.yr)) k m r q)(S:(1:Int)-k=m)(hr:r.OK)(hq:q.OK)(hy:y<nY z.c)
  {t:T} {J:ai} {cl:C} {o g:List bD} (l:J[0]?=some (.box (z.row.map .f) 0)) (L:LR J cl 2 (aJ o)) (W:dT g o) (b7:g.length≤100)
  (A:t.g 1=.c (.ptr 0 0 0)) (Z:t.g 4=.c cl) (g5:t.g 5=vi (cyc z.c)) (F:t.g 6=vi (jj z.c y)) (H:t.g 7=vi ((y:Int)+1)) (B:t.g 8=vi (k:Nat)) {K:List cm} {Q:Option aq→St→Prop}
  (next:∀(t:T) (J:ai) (cl:C) (o:List bD),J[0]?=some (.box (z.row.map .f) 0)→LR J cl 2 (aJ o)→dT (g++dP z.c (y+1) r q) o→t.g 1=.c (.ptr 0 0 0)→t.g 4=.c cl→t.g 5=vi (cyc z.c)→t.g 6=vi (jj z.c y)→t.g 7=vi ((y:Int)+1)→t.g 8=vi (k:Nat) →
   WP tab.get oY none K ⟨t,[],J⟩ Q) :
  WP tab.get oY none (.code BI::K) ⟨t,[],J⟩ Q:=by
 have b9:=yE z.c;obtain⟨b0,b1⟩:=ur E (Nat.le_of_lt hy);have hf:=agf E (y:=y+1) (by omega) (by omega) (b:=jj z.c y) (by omega) (by omega) r hr
 rw [show((y+1:Nat):Int)=(y:Int)+1 by omega]at hf
 obtain⟨d0,d1⟩:=zR (c:=z.c) (y:=y+1) (b:=jj z.c y) (x:=r) (by omega) (by omega) hr
 obtain⟨-,-,-,-,m0,m1,o0,o1⟩:=hr;obtain⟨-,-,-,-,-,-,p0,p1⟩:=hq;have d:dP z.c (y+1) r q=if gm (oO z.c (y+1) (jj z.c y) r) (qN z.c (y+1) r) r.wk r.wd then [⟨jL (oO z.c (y+1) (jj z.c y) r) (qN z.c (y+1) r) r.wk r.wd*1440+r.mi-q.off,r.off⟩]else []:=rfl
 generalize hD:jL (oO z.c (y+1) (jj z.c y) r) (qN z.c (y+1) r) r.wk r.wd=D at *;generalize hO:gm (oO z.c (y+1) (jj z.c y) r) (qN z.c (y+1) r) r.wk r.wd=O at *;refine av ?_;refine ae ?_;have u:=j.row J;have hi:=j.i J;have Y:=jv l E;have v:=gw l E;simp [A,F,H,B,Y,v,hi,u,hf,-an];refine ag ?_;refine ab (.inl rfl) ?_;simp
 cases O with
 | false=>
  simp only [atN,if_false]at d;rw [d,awE]at next;refine ah (by simp) (aB (al ?_))
  exact next _ J cl o l L W (by simp [A]) (by simp [Z]) (by simp [g5]) (by simp [F]) (by simp [H]) (by simp [B])
 | true=>
  simp only [if_true]at d;refine aj (by simp) ?_
  refine ab (.inl rfl) ?_;have w1:IntKind.i64.wrap (D*1440)=D*1440:=wrap64 (by omega) (by omega)
  have w2:IntKind.i64.wrap (D*1440+r.mi)=D*1440+r.mi:=wrap64 (by omega) (by omega)
  have w3:IntKind.i64.wrap (D*1440+r.mi-q.off)=D*1440+r.mi-q.off:=wrap64 (by omega) (by omega)
  have w4:IntKind.i64.wrap (1-(k:Int))=m:=by rw [wrap64 (by omega) (by omega),S]
  have N:=j.i' J;have U:=j.mi J;have X:=j.of J;have s:=j.of' J;have a8:=W.len;obtain⟨o',cl',J',hI,hE,M,hK,a_⟩:=N7 L (by omega) ⟨D*1440+r.mi-q.off,r.off⟩
  simp only [bD.row,anc,avO]at hE;have I:=hE.eq;simp [A,Z,B,v,hi,N,U,X,s,w1,w2,w3,w4,I,-an];refine al ?_;rw [d]at next;exact next _ J' cl' o' (hK.2 _ _ l (L.cB l)) M (.step W hI) (by simp [A]) (by simp) (by simp [g5]) (by simp [F]) (by simp [H]) (by simp [B])
end
section
theorem amD{z:ZD}(F:z.c<3){r q:eg}(L:z.yr=[r,q])(hr:r.OK)(H:q.OK){y:Nat}(I:y<nY z.c)
  {t:T} {J:ai} {cl:C} {o A:List bD} (v:J[0]?=some (.box (z.row.map .f) 0)) (x:LR J cl 2 (aJ o)) (b:dT A o) (N:A.length≤90)
  (d:t.g 1=.c (.ptr 0 0 0)) (g:t.g 4=.c cl) (j:t.g 5=vi (cyc z.c)) (l:t.g 6=vi (jj z.c y)) (u:t.g 7=vi ((y:Int)+1)) {K:List cm} {Q:Option aq→St→Prop}
  (next:∀(t:T) (J:ai) (cl:C) (o:List bD),J[0]?=some (.box (z.row.map .f) 0)→LR J cl 2 (aJ o)→dT (A++(dP z.c (y+1) r q++dP z.c (y+1) q r)) o→t.g 1=.c (.ptr 0 0 0)→t.g 4=.c cl→t.g 5=vi (cyc z.c)→t.g 6=vi (jj z.c y)→t.g 7=vi ((y:Int)+1) →
   WP tab.get oY none K ⟨t,[],J⟩ Q) :
  WP tab.get oY none (.code BH::K) ⟨t,[],J⟩ Q:=by
 refine ae ?_;simp;refine av ?_
 refine bw (fun n s=>∃(k:Nat) (t:T) (J:ai) (cl:C) (o:List bD),s=⟨t,[],J⟩∧n=2-k∧k≤2∧J[0]?=some (.box (z.row.map .f) 0)∧LR J cl 2 (aJ o) ∧
   dT (A++((if 1≤k then dP z.c (y+1) r q else [])++(if 2≤k then dP z.c (y+1) q r else []))) o ∧
   t.g 1=.c (.ptr 0 0 0)∧t.g 4=.c cl∧t.g 5=vi (cyc z.c)∧t.g 6=vi (jj z.c y)∧t.g 7=vi ((y:Int)+1)∧t.g 8=vi (k:Nat)) 2
  ⟨0,_,J,cl,o,rfl,rfl,by omega,v,x,by simpa using b,by simp [d],by simp [g],by simp [j],by simp [l],by simp [u],by simp⟩ ?_
 clear v x b d g j l u;rintro n s ⟨k,t,J,cl,o,rfl,rfl,O,v,x,b,d,g,j,l,u,B⟩ M;refine ag ?_;refine ae ?_;simp [B];have S:=jd z.c (y+1) r q;have U:=jd z.c (y+1) q r;have E:k=0∨k=1∨k=2:=by omega
 rcases E with rfl | rfl | rfl
 ·refine aj (by simp) (aB ?_)
  refine ag ?_;simp at b;refine II F (m:=1) (by rw [L];exact aiv z.yg r q) (by decide) hr H I v x b (by omega) (by simp [d]) (by simp [g]) (by simp [j]) (by simp [l]) (by simp [u]) (by simp [B]) ?_
  intro t J cl o v x b d g j l u B;refine ab (.inl rfl) ?_;simp [B];exact M 1 _ (by omega) ⟨1,_,J,cl,o,rfl,rfl,by omega,v,x,by simpa using b,by simp [d],by simp [g],by simp [j],by simp [l],by simp [u],by simp [show IntKind.i64.wrap 1=1 from rfl]⟩
 ·refine aj (by simp) (aB ?_)
  refine ag ?_;simp at b;refine II F (m:=0) (by rw [L];exact aiw z.yg r q) (by decide) H hr I v x b (by simp;omega) (by simp [d]) (by simp [g]) (by simp [j]) (by simp [l]) (by simp [u]) (by simp [B]) ?_
  intro t J cl o v x b d g j l u B;refine ab (.inl rfl) ?_;simp [B];exact M 0 _ (by omega) ⟨2,_,J,cl,o,rfl,rfl,by omega,v,x,by simpa using b,by simp [d],by simp [g],by simp [j],by simp [l],by simp [u],by simp [show IntKind.i64.wrap 2=2 from rfl]⟩
 ·refine ah (by simp) ?_
  refine aT (k':=K) rfl ?_;simp at b;exact next _ J cl o v x (by simpa using b) (by simp [d]) (by simp [g]) (by simp [j]) (by simp [l]) (by simp [u])
end
section
def sB(x:bD):Prop:=-20000≤x.at_∧x.at_≤500000
theorem yH{c y:Nat}{r q:eg}(g:c<3)(l:y<nY c)(hr:r.OK)(j:q.OK):∀ x ∈ dP c (y+1) r q,sB x:=by
 intro x d;obtain⟨b0,b1⟩:=ur g (Nat.le_of_lt l);obtain⟨m,s⟩:=zR (c:=c) (y:=y+1) (b:=jj c y) (x:=r) (by omega) (by omega) hr
 obtain⟨-,-,-,-,u,v,-,-⟩:=hr;obtain⟨-,-,-,-,-,-,p0,p1⟩:=j;simp only [dP,Nat.add_sub_cancel]at d;split at d
 ·simp only [List.mem_singleton]at d;subst d;unfold sB;simp only;omega
 ·cases d
theorem qb{c:Nat}{r q:eg}(d:c<3)(hr:r.OK)(g:q.OK):∀ n,n≤nY c→∀ x ∈ nO c r q n,sB x
 | 0,_,x,b=>by cases b
 | n+1,j,x,b=>by
  simp only [nO,av1]at b;rcases b with b | b | b
  ·exact qb d hr g n (by omega) x b
  ·exact yH d (by omega) hr g x b
  ·exact yH d (by omega) g hr x b
theorem wO(o:List bD)(size:Int)(n:Nat){x:bD}(h:o[n]?=some x):ky o size (n+1)=(ky o size n&&decide (2160≤dv o size n-x.at_)):=by
 simp [ky,List.range_succ,h]
theorem DF{o:List bD}{size:Int}{n:Nat}{x:bD}(h:o[n]?=some x)(d:¬ 2160≤dv o size n-x.at_):de o size=false:=by
 cases e:de o size with
 | false=>rfl
 | true=>
  have b:=avP.1 e n (by have:=(BY.1 h).1;simpa using this)
  simp only [h]at b;exact absurd (of_decide_eq_true b) d
theorem DX(z:ZD)(v:z.c<3){r q:eg}(hz:z.yr=[r,q])(hr:r.OK)(hq:q.OK):∃ g o,dT (nO z.c r q (nY z.c)) o ∧
  Km.Pure tab.get oY [z.v]=Eq (.t [.c (.f (sl g (aJ o))),vb (de o (cyc z.c*1440))]):=by
 obtain⟨rr,⟨g,o,B,rfl⟩,hp⟩:∃ rr,(∃ g o,dT (nO z.c r q (nY z.c)) o∧rr=.t [.c (.f (sl g (aJ o))),vb (de o (cyc z.c*1440))])∧Km.Pure tab.get oY [z.v] rr:=by
  refine ca anW rfl fun Q hQ=>?_
  refine ae ?_;simp;have F:([.box (z.row.map .f) 0]:ai)[0]?=some (.box (z.row.map .f) 0):=rfl;have b_:z.cyc=cyc z.c:=by simp [ZD.cyc,hz]
  have d5:cyc z.c=91∨cyc z.c=217:=by unfold cyc ib;split<;>simp
  have d6:NW z.c=2∨NW z.c=5:=by unfold NW;split<;>simp
  have U:=zI v;have d7:=yE z.c;refine ae ?_;simp;refine ag ?_;refine ae ?_;simp [gw F v,-an,hz];refine aY (by simp) ?_
  refine ae ?_;simp [eC F v,-an,sI z v,b_];refine ae ?_;simp [Ag F v,-an];refine ag ?_;refine ae ?_;simp;refine av ?_
  refine bw (fun n s=>∃(y:Nat) (t:T) (J:ai) (cl:C) (o:List bD),s=⟨t,[],J⟩∧n=nY z.c-y∧y≤nY z.c∧J[0]?=some (.box (z.row.map .f) 0)∧LR J cl 2 (aJ o)∧dT (nO z.c r q y) o ∧
    t.g 1=.c (.ptr 0 0 0)∧t.g 4=.c cl∧t.g 5=vi (cyc z.c)∧t.g 6=vi (jj z.c y)∧t.g 7=vi ((y:Int)+1)) (nY z.c)
   ⟨0,_,_,.f .es,[],rfl,rfl,by omega,F,.inl ⟨rfl,.inr rfl⟩,.nil,by simp,by simp,by simp,by simp [jj],by simp⟩ ?_
  rintro n s ⟨y,t,J,cl,o,rfl,rfl,hy,S,I,B,H,d,u,N,O⟩ ih;obtain⟨b0,b1⟩:=ur v hy;refine ag ?_;refine ae ?_;simp [H,u,N,Ag S v,-an,wrap64 (n:=NW z.c+cyc z.c) (by omega) (by omega)]
  by_cases W:y<nY z.c
  ·have h1:=zJ z.c W;refine aj (by simp;omega) (aB ?_)
   refine ag ?_;refine av ?_;refine ag ?_;have d9:=jf z.c r q y;refine amD v hz hr hq W S I B (by omega) (by simp [H]) (by simp [d]) (by simp [u]) (by simp [N]) (by simp [O]) ?_
   clear H d u N O S I B;intro t J cl o S I B H d u N O;have Y:=DV v (y:=y+1) (by omega) (by omega)
   rw [show((y+1:Nat):Int)=(y:Int)+1 by omega]at Y
   have d_:sy z.c (y+1)≤18:=by
    have h1:=fq z.c (y+1) 1;have h2:=fq z.c (y+1) 2;unfold sy;omega
   refine ab (.inl rfl) ?_;simp [H,N,O,jv S v,-an,Y,wrap64 (n:=jj z.c y+(sy z.c (y+1):Nat)) (by omega) (by omega)]
   refine al ?_;refine ab (.inl rfl) ?_;simp [O,wrap64 (n:=(y:Int)+1+1) (by omega) (by omega)]
   exact ih (nY z.c-(y+1)) _ (by omega) ⟨y+1,_,J,cl,o,rfl,rfl,by omega,S,I,B,by simp [H],by simp [d],by simp [u],by simp [jj],by simp⟩
  ·have c_:y=nY z.c:=by omega
   subst c_;rw [U];refine ah (by simp) ?_
   refine aT (k':=[.code BJ]) rfl ?_;have K:∀ x ∈ o,sB x:=fun x hx=>qb v hr hq _ (aft _) x (B.perm.subset hx)
   obtain⟨g',L⟩:=I.ex (cw _) 63;have d8:o.length≤28:=by have:=B.len;have:=jf z.c r q (nY z.c);omega
   refine ag ?_;refine ae ?_;simp;refine av ?_;clear ih
   refine bw (fun n s=>∃(i:Nat) (t:T),s=⟨t,[],J⟩∧n=o.length-i∧i≤o.length∧ky o (cyc z.c*1440) i=true∧t.g 4=.c cl∧t.g 5=vi (cyc z.c)∧t.g 11=vi (i:Nat)) o.length
    ⟨0,_,rfl,rfl,by omega,rfl,by simp [d],by simp [u],by simp⟩ ?_
   clear H d u N O;rintro n s ⟨i,t,rfl,rfl,hi,X,d,u,j⟩ ih;refine ag ?_;refine ae ?_;simp [d,j,I.len];by_cases l:i<o.length
   case neg=>
    have:i=o.length:=by omega
    subst this;refine ah (by simp) ?_
    refine aT (k':=[.code tR]) rfl ?_;refine ae ?_;simp [d];refine aA (hQ _ _ (.t [.c (.f (sl g' (aJ o))),vb (de o (cyc z.c*1440))]) ⟨g',o,B,rfl⟩ ?_);have:de o (cyc z.c*1440)=true:=X;simp [iN,bX,deep,L,this,aU,d]
   refine aj (by simp [l]) (aB ?_)
   refine ag ?_;refine av ?_;rcases I with⟨h,_⟩ | ⟨_,b,Z,rfl,hb⟩
   ·have:o=[]:=by simpa [aJ]using h
    subst this;simp at l
   rw [lG]at d L;have c9:=cw o
   have M:∀ k:Nat,k<o.length→aG J 2 none (.c (.sl b 0 o.length 0 Z 2)) (vi k)=some (.c (.ptr b (k*2) Z)):=fun k hk=>by
    have:=hb.idx (n:=o.length) (c:=0) (k:=.i64) (o:=0) (i:=(k:Int)) (by omega) (by omega)
    simpa using this
   have A:∀ k:Nat,(hk:k<o.length)→aQ J none (.c (.ptr b (k*2) Z))=some (vi o[k].at_):=fun k hk=>by
    have:=hb.ldc c9 (dn (AI hk)) (k:=0) (x:=fi o[k].at_) rfl;simpa using this
   have o0:0<o.length:=by omega
   have i0:=M 0 o0;have l0:=A 0 o0;have ii:=M i l;have li:=A i l;have a_:=K _ (IT o0);have b9:=K _ (IT l);unfold sB at a_ b9;simp [-an]at i0 l0;have w1:IntKind.i64.wrap (cyc z.c*1440)=cyc z.c*1440:=wrap64 (by omega) (by omega)
   have w2:IntKind.i64.wrap (o[0].at_+cyc z.c*1440)=o[0].at_+cyc z.c*1440:=wrap64 (by omega) (by omega)
   have w3:IntKind.i64.wrap ((i:Int)+1)=(i:Int)+1:=wrap64 (by omega) (by omega)
   refine ae ?_;simp [d,u,i0,l0,w1,w2,-an];refine ag ?_
   have m:∀ t:T,t.g 4=.c (.sl b 0 o.length 0 Z 2)→t.g 5=vi (cyc z.c)→t.g 11=vi (i:Nat)→t.g 12=vi (dv o (cyc z.c*1440) i)→-20000≤dv o (cyc z.c*1440) i→dv o (cyc z.c*1440) i≤900000 →
     WP tab.get oY none [.code BL,.inBlock 5,.code BM,.inLoop BK,.inBlock 4,.code tR] ⟨t,[],J⟩ Q:=by
    intro t d u j a8 n0 n1;refine ae ?_;simp [d,j,a8,ii,li,-an,wrap64 (n:=dv o (cyc z.c*1440) i-o[i].at_) (by omega) (by omega)]
    by_cases hs:dv o (cyc z.c*1440) i-o[i].at_<2160
    ·refine aj (by simp [hs]) ?_
     refine ae ?_;simp [d];refine aA (hQ _ _ (.t [.c (.f (sl g' (aJ o))),vb (de o (cyc z.c*1440))]) ⟨g',o,B,rfl⟩ ?_);have:de o (cyc z.c*1440)=false:=DF (AI l) (by omega)
     simp [iN,bX,deep,L,this,aU,d]
    ·refine ah (by simp;omega) (aB (al ?_))
     refine ab (.inl rfl) ?_;simp [j,w3];refine ih (o.length-(i+1)) _ (by omega) ⟨i+1,_,rfl,rfl,by omega,?_,by simp [d,lG],by simp [u],by simp⟩
     rw [wO _ _ _ (AI l),X];simp;omega
   by_cases E:i+1<o.length
   ·have i1:=M (i+1) E;have l1:=A (i+1) E;have b7:=K _ (IT E);unfold sB at b7;rw [show((i+1:Nat):Int)=(i:Int)+1 by omega]at i1
    have hn:dv o (cyc z.c*1440) i=o[i+1].at_:=by simp [dv,AI E]
    rw [hn]at m;refine ae ?_;simp [d,j,w3,hb.len];refine aj (by simp;omega) ?_
    refine ab (.inl rfl) ?_;simp [d,j,w3,i1,l1,-an];exact m _ (by simp [d]) (by simp [u]) (by simp [j]) (by simp) (by omega) (by omega)
   ·have hn:dv o (cyc z.c*1440) i=o[0].at_+cyc z.c*1440:=by
     simp [dv,List.getElem?_eq_none_iff.2 (show o.length≤i+1 by omega),AI o0]
    rw [hn]at m;refine ae ?_;simp [d,j,w3,hb.len];refine ah (by simp;omega) (aB ?_)
    exact m _ (by simp [d]) (by simp [u]) (by simp [j]) (by simp) (by omega) (by omega)
 exact⟨g,o,B,Km.Pure.eq hp⟩
end
section
def lX(n:Nat):Int:=match n % 8 with
 | 0=>0 | 1=>60 | 2=>120 | 3=>-90 | 4=>30 | 5=>1080 | 6=>-1080 | _=>90
def isZ(r:Option (V × ai))(n:Int):Bool:=match r with
 | some (.c (.f (.int .i64 k)),_)=>decide (k=n)
 | _=>false
theorem akE{r:Option (V × ai)}{n:Int}(h:isZ r n=true):r.map (·.1)=some (vi n):=by
 unfold isZ at h;split at h
 ·rw [of_decide_eq_true h];rfl
 ·cases h
theorem ab7:((List.range 256).all fun n=>isZ (CF tab.get 60 10 (.fn xC) [.c (.f (.int .u8 (n:Nat)))] []) (lX n))=true:=by kernel_rfl
theorem AN{n:Nat}(h:n<256):Km.Pure tab.get xC [.c (.f (.int .u8 (n:Nat)))]=Eq (vi (lX n)):=(dC (akE (dh (p:=fun n=>isZ (CF tab.get 60 10 (.fn xC) [.c (.f (.int .u8 (n:Nat)))] []) (lX n)) ab7 h))).eq
theorem kv(n:Nat):-1080≤lX n∧lX n≤1080:=by unfold lX;split<;>omega
theorem DR(n m:Int)(d:0≤m)(g:m≤4611686018427387904):Km.Pure tab.get sE [vi n,vi m]=Eq (vb (decide (-m≤n)&&decide (n≤m))):=Km.Pure.eq (by
 refine bK anZ rfl fun Q b=>?_
 refine ae ?_;simp;by_cases h:-m≤n
 ·refine ae ?_;simp [AX,wrap64 (n:=-m) (by omega) (by omega),h]
  refine aA (b _ _ ?_);simp [h]
 ·refine ae ?_;simp [AX,wrap64 (n:=-m) (by omega) (by omega),h]
  refine aA (b _ _ ?_)
  simp [h])
theorem vP{n m:Int}(d:0≤m)(g:m≤4611686018427387904)(h:-m≤n)(b:n≤m):Km.Pure tab.get sE [vi n,vi m]=Eq (vb true):=by
 rw [DR n m d g];simp [h,b]
theorem zc{n m:Int}(d:0≤m)(g:m≤4611686018427387904)(h:-m≤n)(b:n≤m):Km.Pure tab.get kH [vi n,vi m]=Eq (vb true):=by
 rw [O7 n m d g];simp [h,b]
end
section
theorem agM:((List.range 65).all fun n=>match (CF tab.get 20 20 (.fn uc) [.c (.f (.int .u64 n))] [])with | some (.c (.f (.int .i64 (.ofNat k))),_)=>Nat.ble k 62&&(Nat.beq n 0||Nat.ble (2 ^ k) (2*n)) | _=>false)=true:=by kernel_rfl
theorem apu:aiI tab.get aS 64:=fun n h=>by
 have j:=agM;rw [avP]at j;have b:=j n (by simp;omega)
 split at b
 ·rename_i k l e;rw [Bool.and_eq_true,Bool.or_eq_true]at b;refine⟨k,(dC (m:=20) (d:=20) (by rw [e];rfl)).eq,awu b.1,fun q=>?_⟩
  rcases b.2 with g | g
  ·have:=awN g;omega
  ·exact awu g
 ·cases b
theorem ah4:afN tab.get aS 2:=⟨ajr,ajb,ai_,ajw,ai7,ai9,aju,
 ajn,ajp,ajl,ajf,ajh,ajj,ZS,ZT⟩
theorem ace(x y:bD):Kf tab.get rn [.a (x.row.map .f),.a (y.row.map .f)] (vi (fA x.at_ y.at_)):=by
 refine fg ajK rfl fun H Q b=>?_
 refine ae ?_;simp [bD.row];refine ae ?_;simp [kK];refine aA (b _ _ ?_);simp
def td:List FC→bD
 | [.int _ a,.int _ b]=>⟨a,b⟩
 | _=>⟨0,0⟩
def Nu(r:List FC):Prop:=r=(td r).row
theorem aaI(x:bD):Nu x.row:=rfl
def abh(r s:List FC):Int:=fA (td r).at_ (td s).at_
theorem akh:tT Nu abh where
 Ct:=fun _ _ h b=>by
  unfold abh at h b;rw [mz]at h b;omega
 trans:=fun _ _ _ h b=>by
  unfold abh at *;rw [mz]at *;omega
theorem ao5:Cv tab.get (.c (.f (.fn rn []))) Nu abh:=by
 intro x y b d H;obtain⟨J,h⟩:=ace (td x) (td y) H;rw [←show x=(td x).row from b,←show y=(td y).row from d]at h
 exact⟨rn,_,J,by simp [bP],h⟩
theorem NT{rows:List (List FC)}(h:∀ r ∈ rows,Nu r):aJ (rows.map td)=rows:=by
 unfold aJ;rw [List.map_map]
 conv=>rhs;rw [←List.map_id rows]
 exact List.map_congr_left fun r hr=>(h r hr).symm
theorem G0(l:List bD):(aJ l).map td=l:=by
 unfold aJ;rw [List.map_map]
 conv=>rhs;rw [←List.map_id l]
 exact List.map_congr_left fun r _=>rfl
theorem ab9{H:ai}{v:C}{l:List bD}(hr:LR H v 2 (aJ l))(E:l.length≤64) :
  ∃ d,Ev tab.get (.fn Fs) [.c v,.c (.f (.fn rn []))] H (.t []) d∧Kb H d v∧∃ b,LR d v 2 (aJ b)∧b.Perm l∧b.Pairwise TLe:=by
 have s:∀ r ∈ aJ l,Nu r:=fun r hr=>by
  obtain⟨x,-,rfl⟩:=av9.1 hr;exact aaI x
 obtain⟨r,d,A,rfl,B,b,y,q,z⟩:=Km.IX (σ:=aS) ai4 ah4 ao5 akh (by omega) apu hr (by simpa using E) (cw l) s
 have g:∀ r ∈ b,Nu r:=fun r hr=>s r (q.mem_iff.1 hr)
 refine⟨d,A,B,b.map td,by rw [NT g];exact y,?_,?_⟩
 ·have:=q.map td
  rwa [G0]at this
 ·rw [avX];intro i j hi u m;simp only [av7]at hi u;have:=z i j b[i] b[j] (by omega) m (by omega) (AI hi) (AI u)
  rw [awI,awI];unfold abh at this;rw [mz]at this;unfold TLe;omega
end
section
theorem Gj{H:ai}{b:Nat}{n:Int}(h:aQ H none (.c (.ptr b 9 0))=some (vi n))(q:∃ cs fl,H[b]?=some (.box cs fl))(l:0≤n)(m:n≤1000000) :
  Ev tab.get (.fn jF) [.c (.ptr b 0 0)] H (vi (n*1440)) H:=by
 obtain⟨r,d,j,rfl,rfl⟩:∃ r d,Ev tab.get (.fn jF) [.c (.ptr b 0 0)] H r d∧r=vi (n*1440)∧d=H:=by
  refine da ZU rfl fun Q g=>?_
  refine ae ?_;simp;refine ae ?_;simp [h,-an,wrap64 (n:=n*1440) (by omega) (by omega)]
  exact aA (g _ _ _ rfl (iF (by simp)) ⟨rfl,rfl⟩)
 exact j
end
section
def ey(z:ZD)(cl:C)(n:Int):List C:=z.row.map .f++[cl,.f (fi n)]
section
variable{H:ai}{b:Nat}{z:ZD}{cl cl':C}{n n':Int}
theorem sL(h:H[b]?=some (.box (ey z cl n) 0))(d:z.c<3):aQ H none (.c (.ptr b 8 0))=some (.c cl):=by
 obtain⟨c,s,tg,j,g,l,yr⟩:=z;have:c=0∨c=1∨c=2:=by simp at d;omega
 rcases this with rfl | rfl | rfl<;>simp [aQ,h,az,ey,ZD.row,fI,aF]
theorem aaP(h:H[b]?=some (.box (ey z cl n) 0))(d:z.c<3):aQ H none (.c (.ptr b 9 0))=some (vi n):=by
 obtain⟨c,s,tg,j,g,l,yr⟩:=z;have:c=0∨c=1∨c=2:=by simp at d;omega
 rcases this with rfl | rfl | rfl<;>simp [aQ,h,az,ey,ZD.row,fI,aF]
theorem arx(h:H[b]?=some (.box (ey z cl n) 0))(d:z.c<3):df H (.ptr b 8 0) [cl']=some (H.set b (.box (ey z cl' n) 0)):=by
 obtain⟨c,s,tg,j,g,l,yr⟩:=z;have:c=0∨c=1∨c=2:=by simp at d;omega
 rcases this with rfl | rfl | rfl<;>simp [df,h,over,ey,ZD.row,fI]
theorem aiz(h:H[b]?=some (.box (ey z cl n) 0))(d:z.c<3):df H (.ptr b 9 0) [.f (fi n')]=some (H.set b (.box (ey z cl n') 0)):=by
 obtain⟨c,s,tg,j,g,l,yr⟩:=z;have:c=0∨c=1∨c=2:=by simp at d;omega
 rcases this with rfl | rfl | rfl<;>simp [df,h,over,ey,ZD.row,fI]
end
theorem OV{c:Nat}{r q:eg}{o l:List bD}{size:Int}(d:dT (nO c r q (nY c)) o)(j:de o size=true)(g:l.Perm (nO c r q (nY c)))(b:l.Pairwise TLe):l=o:=
 sT (jS j) b (g.trans d.perm.symm)
end
end Go.Proofs.YtmbjejcfadllnaaGreat
